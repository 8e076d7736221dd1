/- Part 2 of what the claims of this seat rest on. -/
import Derived.Orders
import Derived.Tactics
import Derived.Below
import Derived.Maps.AppendAt
import Derived.OwnWalk
import Derived.Deep.RegionHeld3
import Derived.BigFrame
import Derived.RangeFuncNested
import Derived.RangeFuncBound
import Derived.RangeFuncCalls
import Derived.RangeFuncLeaves
import Derived.RangeFuncFrom
import Derived.Shelf.Abstract
import Derived.Scope
set_option linter.unusedVariables false
set_option linter.unusedSimpArgs false
/- A region that draws its order: each operation is walked once, in a world of which only the facts are known that the operations before it have left; the stores at the end in the text's order. -/
namespace Go
open Go.RowKit
def Region.deps (md:Region.Mode) (ops:Array Oper) (i:Nat):List Nat:=match ops[i]? with
 | some o=>(o.after.toList.filter fun e=>Region.binds md e).map fun e=>e.on
 | none=>[]
def Region.sat (md:Region.Mode) (ops:Array Oper):Nat→List Nat→List Nat
 | 0,S=>S
 | k+1,S=>Region.sat md ops k (S ++ ((S.flatMap (Region.deps md ops)).filter fun j=>!S.contains j))
def Region.chain (md:Region.Mode) (ops:Array Oper):Nat→List Nat→Bool
 | _,[]=>true
 | t,t' :: r=>(Region.deps md ops t').contains t && decide (t<t') && Region.chain md ops t' r
def Region.chk (md:Region.Mode) (ops:Array Oper) (ph tl:List Nat):Bool:=
 ((List.range ops.size).all fun i=>ph.contains i != tl.contains i) &&
 (ph.all fun i=>(match ops[i]? with|some o=>o.guard.isNone|none=>false) && (Region.deps md ops i).all fun j=>ph.contains j) &&
 ((List.range ops.size).all fun i=>(Region.deps md ops i).all fun j=>decide (j<i)) &&
 (tl.all fun i=>decide (i<ops.size)) &&
 (match tl with|[]=>true|t :: r=>(ph.all fun j=>(Region.sat md ops ops.size (Region.deps md ops t)).contains j) && Region.chain md ops t r)
section
variable {P:Program} {ops:Array Oper} {Q:Exit→Act→World→Prop} {md:Region.Mode}
theorem Region.ready_spec {l:Array Bool} (i:Nat):i∈Region.ready md ops l↔i<ops.size∧l.getD i true=false∧∀ j∈Region.deps md ops i,l.getD j false=true:=by
 unfold Region.ready Region.deps
 rw [List.mem_filter,List.mem_range]
 constructor
 ·rintro ⟨h1,h2⟩
  rw [Array.getElem?_eq_getElem h1] at h2 ⊢
  simp only [Option.map_some,Option.getD_some,Bool.and_eq_true,Bool.not_eq_true',Array.all_eq_true] at h2
  refine ⟨h1,h2.1,fun j hj=>?_⟩
  simp only [List.mem_map,List.mem_filter] at hj
  obtain ⟨e,⟨he,hb⟩,rfl⟩:=hj
  obtain ⟨k,hk,rfl⟩:=List.getElem_of_mem he
  have:=h2.2 k (by simpa using hk)
  simp only [Array.getElem_toList] at hb
  simpa [hb] using this
 ·rintro ⟨h1,h2,h3⟩
  refine ⟨h1,?_⟩
  rw [Array.getElem?_eq_getElem h1] at h3 ⊢
  simp only [Option.map_some,Option.getD_some,Bool.and_eq_true,Bool.not_eq_true',Array.all_eq_true]
  refine ⟨h2,fun k hk=>?_⟩
  by_cases hb:Region.binds md (ops[i].after[k])=true
  ·have:=h3 (ops[i].after[k]).on (by
    simp only [List.mem_map,List.mem_filter]
    exact ⟨_,⟨by simp,hb⟩,rfl⟩)
   simp [this]
  ·simp [hb]
theorem getD_set_same {l:Array Bool} {i:Nat} (h:i<l.size):(l.setIfInBounds i true).getD i false=true:=by
 simp [Array.getD,h]
theorem getD_set_other {l:Array Bool} {i j:Nat} (h:i≠j):(l.setIfInBounds i true).getD j false=l.getD j false:=by
 simp only [Array.getD_eq_getD_getElem?,Array.getElem?_setIfInBounds_ne h]
theorem getD_tf {l:Array Bool} {i:Nat} (h:i<l.size):l.getD i true=l.getD i false:=by
 simp [Array.getD,h]
theorem sat_listed {l:Array Bool} (hd:∀ i,l.getD i false=true→∀ j∈Region.deps md ops i,l.getD j false=true) :
  ∀ k S,(∀ j∈S,l.getD j false=true)→∀ j∈Region.sat md ops k S,l.getD j false=true:=by
 intro k
 induction k with
 | zero=>intro S h;exact h
 | succ k ih=>
  intro S h
  refine ih _ fun j hj=>?_
  rcases List.mem_append.1 hj with hj|hj
  ·exact h j hj
  ·obtain ⟨i,hi,hj'⟩:=List.mem_flatMap.1 (List.mem_filter.1 hj).1
   exact hd i (h i hi) j hj'
theorem nodupN_length_le {α:Type} [DecidableEq α]:∀ {l m:List α},l.Nodup→(∀ x∈l,x∈m)→l.length≤m.length:=by
 intro l
 induction l with
 | nil=>intro m _ _;simp
 | cons a l ih=>
  intro m hn hs
  have hn':=List.nodup_cons.1 hn
  have ha:a∈m:=hs a (by simp)
  have:=ih (m:=m.erase a) hn'.2 fun y hy=>(List.mem_erase_of_ne (fun e=>hn'.1 (by rw [← e];exact hy))).2 (hs y (List.mem_cons_of_mem _ hy))
  rw [List.length_erase_of_mem ha] at this
  have:0<m.length:=List.length_pos_of_mem ha
  simp;omega
theorem chain_lt {t:Nat} {r:List Nat} (h:Region.chain md ops t r=true):∀ x∈r,t<x:=by
 induction r generalizing t with
 | nil=>intro x hx;simp at hx
 | cons t' r ih=>
  simp only [Region.chain,Bool.and_eq_true,decide_eq_true_eq] at h
  intro x hx
  rcases List.mem_cons.1 hx with rfl|hx
  ·exact h.1.2
  ·have:=ih h.2 x hx;omega
theorem chain_pred {t:Nat} {r:List Nat} (h:Region.chain md ops t r=true):∀ x∈r,∃ y,y∈t :: r∧y<x∧y∈Region.deps md ops x:=by
 induction r generalizing t with
 | nil=>intro x hx;simp at hx
 | cons t' r ih=>
  simp only [Region.chain,Bool.and_eq_true,decide_eq_true_eq] at h
  intro x hx
  rcases List.mem_cons.1 hx with rfl|hx
  ·exact ⟨t,by simp,h.1.2,by simpa using h.1.1⟩
  ·obtain ⟨y,h1,h2,h3⟩:=ih h.2 x hx
   exact ⟨y,List.mem_cons_of_mem _ h1,h2,h3⟩
theorem wpAny_tail (hback:∀ i,i<ops.size→∀ j∈Region.deps md ops i,j<i):∀ (r:List Nat) (fuel:Nat) (l:Array Bool) (a:Act) (w:World),(∀ t r',r=t :: r'→Region.chain md ops t r'=true)→(∀ i∈r,i<ops.size)→r.length≤fuel→l.size=ops.size→
  (∀ j,j<ops.size→(l.getD j false=true↔j ∉ r))→wpList P ops Q (r.filterMap fun i=>ops[i]?) a w→wpAny P md ops Q fuel l a w:=by
 intro r
 induction r with
 | nil=>
  intro fuel l a w _ _ _ hl hlist h
  have hnil:Region.ready md ops l=[]:=by
   rw [List.eq_nil_iff_forall_not_mem]
   intro x hx
   have hx':=(Region.ready_spec x).1 hx
   rw [getD_tf (by omega),(hlist x hx'.1).2 (by simp)] at hx'
   simp at hx'
  have h':Q .normal a w:=h
  cases fuel with
  | zero=>exact ⟨hnil,h'⟩
  | succ f=>exact ⟨fun _=>h',by rw [hnil];simp⟩
 | cons t r ih=>
  intro fuel l a w hch hlt hf hl hlist h
  obtain ⟨f,rfl⟩:∃ f,fuel=f+1:=⟨fuel-1,by simp at hf;omega⟩
  have hc:=hch t r rfl
  have htn:t<ops.size:=hlt t (by simp)
  have hsome:ops[t]? = some ops[t]:=Array.getElem?_eq_getElem htn
  rw [List.filterMap_cons,hsome] at h
  have hclt:=chain_lt hc
  have htr:t ∉ r:=fun hx=>by have:=hclt t hx;omega
  have hin:t∈Region.ready md ops l:=by
   rw [Region.ready_spec]
   refine ⟨htn,?_,fun j hj=>(hlist j (by have:=hback t htn j hj;omega)).2 fun hx=>?_⟩
   ·rw [getD_tf (by omega)]
    cases hx:l.getD t false with
    | true=>exact absurd (List.mem_cons_self) ((hlist t htn).1 hx)
    | false=>rfl
   ·have h1:=hback t htn j hj
    rcases List.mem_cons.1 hx with rfl|hx
    ·omega
    ·have:=hclt j hx;omega
  refine ⟨fun hnil=>by rw [hnil] at hin;simp at hin,fun x hx=>?_⟩
  have hx':=(Region.ready_spec x).1 hx
  have hxr:x∈t :: r:=by
   by_cases hm:x∈t :: r
   ·exact hm
   ·rw [getD_tf (by omega),(hlist x hx'.1).2 hm] at hx';simp at hx'
  have hxt:x=t:=by
   rcases List.mem_cons.1 hxr with h1|h1
   ·exact h1
   ·exfalso
    obtain ⟨y,h2,h3,h4⟩:=chain_pred hc x h1
    have h5:=hx'.2.2 y h4
    exact (hlist y (by omega)).1 h5 h2
  subst hxt
  unfold wpOp
  rw [hsome]
  simp only
  have key:∀ a w,wpList P ops Q (r.filterMap fun i=>ops[i]?) a w→wpAny P md ops Q f (l.setIfInBounds x true) a w:=fun a w h=>by
   refine ih f _ a w (fun t' r' e=>?_) (fun i hi=>hlt i (List.mem_cons_of_mem _ hi)) (by simp at hf;omega) (by simpa using hl) (fun j hj=>?_) h
   ·subst e
    simp only [Region.chain,Bool.and_eq_true] at hc
    exact hc.2
   ·by_cases e:x=j
    ·subst e;rw [getD_set_same (by omega)];simp [htr]
    ·rw [getD_set_other e,hlist j hj,List.mem_cons]
     exact ⟨fun h hx=>h (.inr hx),fun h hx=>h (hx.resolve_left fun e'=>e e'.symm)⟩
  simp only [wpList] at h
  split
  ·rename_i hw
   rw [if_pos hw] at h
   exact h.imp (Oper.wp_mono key) id
  ·rename_i hw
   rw [if_neg hw] at h
   exact key _ _ h
variable {w0:World} {ph tl:List Nat} {fr:(Nat→Value)→Act} {F:Nat→(Nat→Value)→(Nat→Nat)→(Nat→Nat)→World→Prop} {S:World→Prop}
def StepF (P:Program) (md:Region.Mode) (ops:Array Oper) (Q:Exit→Act→World→Prop) (w0:World) (fr:(Nat→Value)→Act) (F:Nat→(Nat→Value)→(Nat→Nat)→(Nat→Nat)→World→Prop) (S:World→Prop) (k:Nat) (o:Oper):Prop:=
 ∀ (v:Nat→Value) (lo hi:Nat→Nat) (W:World),Below w0.heap.size w0 W→S W→(∀ j∈Region.deps md ops k,lo j≤hi j∧hi j≤W.heap.size∧F j v lo hi W)→
  ∀ K:Act→World→Prop,(∀ x W',Below W.heap.size W W'→F k (fun j=>if j=k then x else v j) (fun j=>if j=k then W.heap.size else lo j) (fun j=>if j=k then W'.heap.size else hi j) W'→K (fr (fun j=>if j=k then x else v j)) W')→Oper.wp P o (fr v) W K Q
def SFx (P:Program) (md:Region.Mode) (ops:Array Oper) (Q:Exit→Act→World→Prop) (w0:World) (fr:(Nat→Value)→Act) (F:Nat→(Nat→Value)→(Nat→Nat)→(Nat→Nat)→World→Prop) (S:World→Prop):List Nat→Prop
 | []=>True
 | k :: r=>(∀ o,ops[k]? = some o→StepF P md ops Q w0 fr F S k o)∧SFx P md ops Q w0 fr F S r
theorem acx {K:Act→World→Prop} {a a':Act} {W:World} (h:K a W) (e:a=a'):K a' W:=e ▸ h
theorem SFx.cons {k:Nat} {o:Oper} {r:List Nat} (e:ops[k]? = some o) (h:StepF P md ops Q w0 fr F S k o) (t:SFx P md ops Q w0 fr F S r):SFx P md ops Q w0 fr F S (k :: r):=⟨fun o' e'=>by rw [e] at e';cases e';exact h,t⟩
theorem SFx.nil:SFx P md ops Q w0 fr F S []:=trivial
theorem Rdp {i j:Nat} (h:(Region.deps md ops i).contains j=true):j∈Region.deps md ops i:=by simpa using h
theorem SFx.get:∀ {l:List Nat},SFx P md ops Q w0 fr F S l→∀ i∈l,∀ o,ops[i]? = some o→StepF P md ops Q w0 fr F S i o:=by
 intro l
 induction l with
 | nil=>intro _ i hi;simp at hi
 | cons k l ih=>
  intro h i hi
  rcases List.mem_cons.1 hi with rfl|hi
  ·exact h.1
  ·exact ih h.2 i hi
structure DoneF (w0:World) (ph:List Nat) (ops:Array Oper) (md:Region.Mode) (fr:(Nat→Value)→Act) (F:Nat→(Nat→Value)→(Nat→Nat)→(Nat→Nat)→World→Prop) (l:Array Bool) (done:List Nat) (v:Nat→Value) (lo hi:Nat→Nat) (a:Act) (W:World):Prop where
 size:l.size=ops.size
 iff:∀ i,l.getD i false=true↔i∈done
 nd:done.Nodup
 lt:∀ i∈done,i∈ph
 down:∀ i,l.getD i false=true→∀ j∈Region.deps md ops i,l.getD j false=true
 act:a=fr v
 below:Below w0.heap.size w0 W
 facts:∀ i∈done,w0.heap.size≤lo i∧lo i≤hi i∧hi i≤W.heap.size∧F i v lo hi W
 apart:∀ i∈done,∀ j∈done,i≠j→hi i≤lo j∨hi j≤lo i
end
end Go
/- As RegF, where an operation may also turn one row that was there before (an append to it). -/
namespace Go
open Go.RowKit
theorem World.grownBy.drewR (w:World) (row:Option Nat):w.grownBy w.drew row:=⟨rfl,rfl,rfl,Nat.le_refl _,fun _ _ _=>rfl⟩
theorem World.grownBy.of_below {w w':World} (h:Below w.heap.size w w') (row:Option Nat):w.grownBy w' row:=⟨h.os,h.tape,h.output,h.size,fun k hk _=>h.block k hk⟩
section
variable {P:Program} {ops:Array Oper} {Q:Exit→Act→World→Prop} {md:Region.Mode}
variable {w0:World} {row:Option Nat} {kx:Nat} {ph tl:List Nat} {fr:(Nat→Value)→Act} {F:Nat→(Nat→Value)→(Nat→Nat)→(Nat→Nat)→World→Prop} {S:World→Prop}
def StepG (P:Program) (md:Region.Mode) (ops:Array Oper) (Q:Exit→Act→World→Prop) (w0:World) (row:Option Nat) (kx:Nat) (fr:(Nat→Value)→Act) (F:Nat→(Nat→Value)→(Nat→Nat)→(Nat→Nat)→World→Prop) (S:World→Prop) (k:Nat) (o:Oper):Prop:=
 ∀ (v:Nat→Value) (lo hi:Nat→Nat) (W:World),w0.grownBy W row→(k=kx→Below w0.heap.size w0 W)→S W→(∀ j∈Region.deps md ops k,lo j≤hi j∧hi j≤W.heap.size∧F j v lo hi W)→
  ∀ K:Act→World→Prop,(∀ x W',(if k=kx then W.grownBy W' row else Below W.heap.size W W')→F k (fun j=>if j=k then x else v j) (fun j=>if j=k then W.heap.size else lo j) (fun j=>if j=k then W'.heap.size else hi j) W'→K (fr (fun j=>if j=k then x else v j)) W')→Oper.wp P o (fr v) W K Q
def StepsG (P:Program) (md:Region.Mode) (ops:Array Oper) (Q:Exit→Act→World→Prop) (w0:World) (row:Option Nat) (kx:Nat) (fr:(Nat→Value)→Act) (F:Nat→(Nat→Value)→(Nat→Nat)→(Nat→Nat)→World→Prop) (S:World→Prop):List Nat→Prop
 | []=>True
 | k :: r=>(∀ o,ops[k]? = some o→StepG P md ops Q w0 row kx fr F S k o)∧StepsG P md ops Q w0 row kx fr F S r
theorem StepsG.cons {k:Nat} {o:Oper} {r:List Nat} (e:ops[k]? = some o) (h:StepG P md ops Q w0 row kx fr F S k o) (t:StepsG P md ops Q w0 row kx fr F S r):StepsG P md ops Q w0 row kx fr F S (k :: r):=⟨fun o' e'=>by rw [e] at e';cases e';exact h,t⟩
theorem StepsG.nil:StepsG P md ops Q w0 row kx fr F S []:=trivial
theorem StepsG.get:∀ {l:List Nat},StepsG P md ops Q w0 row kx fr F S l→∀ i∈l,∀ o,ops[i]? = some o→StepG P md ops Q w0 row kx fr F S i o:=by
 intro l
 induction l with
 | nil=>intro _ i hi;simp at hi
 | cons k l ih=>
  intro h i hi
  rcases List.mem_cons.1 hi with rfl|hi
  ·exact h.1
  ·exact ih h.2 i hi
structure DoneG (w0:World) (row:Option Nat) (kx:Nat) (ph:List Nat) (ops:Array Oper) (md:Region.Mode) (fr:(Nat→Value)→Act) (F:Nat→(Nat→Value)→(Nat→Nat)→(Nat→Nat)→World→Prop) (l:Array Bool) (done:List Nat) (v:Nat→Value) (lo hi:Nat→Nat) (a:Act) (W:World):Prop where
 size:l.size=ops.size
 iff:∀ i,l.getD i false=true↔i∈done
 nd:done.Nodup
 lt:∀ i∈done,i∈ph
 down:∀ i,l.getD i false=true→∀ j∈Region.deps md ops i,l.getD j false=true
 act:a=fr v
 below:w0.grownBy W row
 pre:kx ∉ done→Below w0.heap.size w0 W
 facts:∀ i∈done,w0.heap.size≤lo i∧lo i≤hi i∧hi i≤W.heap.size∧F i v lo hi W
 apart:∀ i∈done,∀ j∈done,i≠j→hi i≤lo j∨hi j≤lo i
theorem wpAny_row (hc:Region.chk md ops ph tl=true) (hnd:ph.Nodup)
  (hstab:∀ i v lo hi W W',F i v lo hi W→(if i=kx then Below W.heap.size W W' else W.grownBy W' row)→F i v lo hi W')
  (hloc:∀ i v v' lo lo' hi hi' W,(∀ j,j=i∨j∈Region.deps md ops i→v j=v' j∧lo j=lo' j∧hi j=hi' j)→F i v lo hi W→F i v' lo' hi' W)
  (hS:∀ W,w0.grownBy W row→S W)
  (steps:StepsG P md ops Q w0 row kx fr F S ph)
  (fin:∀ (v:Nat→Value) (lo hi:Nat→Nat) (W:World),w0.grownBy W row→S W→(∀ i,ph.contains i=true→w0.heap.size≤lo i∧lo i≤hi i∧hi i≤W.heap.size∧F i v lo hi W)→
   (∀ i j,ph.contains i=true→ph.contains j=true→i≠j→hi i≤lo j∨hi j≤lo i)→wpList P ops Q (tl.filterMap fun i=>ops[i]?) (fr v) W) :
  ∀ (fuel:Nat) (l:Array Bool) (done:List Nat) (v:Nat→Value) (lo hi:Nat→Nat) (a:Act) (W:World),DoneG w0 row kx ph ops md fr F l done v lo hi a W→fuel+done.length=ops.size→wpAny P md ops Q fuel l a W:=by
 unfold Region.chk at hc
 simp only [Bool.and_eq_true,List.all_eq_true,List.mem_range,decide_eq_true_eq,bne_iff_ne,ne_eq] at hc
 obtain ⟨⟨⟨⟨hone,hph⟩,hback⟩,htl⟩,hfirst⟩:=hc
 have hphlt:∀ i∈ph,i<ops.size:=fun i hi'=>by
  rcases Nat.lt_or_ge i ops.size with h|h
  ·exact h
  ·have:=(hph i hi').1;rw [Array.getElem?_eq_none h] at this;simp at this
 have hcases:∀ i,i<ops.size→(i∈ph∧i ∉ tl)∨(i ∉ ph∧i∈tl):=fun i hi'=>by
  have:=hone i hi'
  by_cases h1:i∈ph <;> by_cases h2:i∈tl <;> simp_all
 have hlens:ph.length+tl.eraseDups.length ≥ 0:=Nat.zero_le _
 have full:∀ {l done v lo hi a W},DoneG w0 row kx ph ops md fr F l done v lo hi a W→(∀ i∈ph,i∈done)→∀ fuel,tl.length≤fuel→wpAny P md ops Q fuel l a W:=by
  intro l done v lo hi a W hd hall fuel hf
  rw [hd.act]
  have hm:∀ i,ph.contains i=true→i∈done:=fun i hi'=>hall i (by simpa using hi')
  refine wpAny_tail (fun i hi' j hj=>by simpa using hback i hi' j hj) tl fuel l _ W (fun t r e=>?_) htl hf hd.size (fun j hj=>?_) (fin v lo hi W hd.below (hS W hd.below) (fun i hi'=>hd.facts i (hm i hi')) fun i j hi' hj hne=>hd.apart i (hm i hi') j (hm j hj) hne)
  ·rw [e] at hfirst;simp only [Bool.and_eq_true] at hfirst;exact hfirst.2
  ·rw [hd.iff]
   rcases hcases j hj with ⟨h1,h2⟩|⟨h1,h2⟩
   ·exact ⟨fun _=>h2,fun _=>hall j h1⟩
   ·exact ⟨fun h=>absurd (hd.lt j h) h1,fun h=>absurd h2 h⟩
 have htnd:tl.Nodup:=by
  cases tl with
  | nil=>exact .nil
  | cons t r=>
   simp only [Bool.and_eq_true] at hfirst
   have key:∀ (r:List Nat) (t:Nat),Region.chain md ops t r=true→(t :: r).Nodup:=by
    intro r
    induction r with
    | nil=>intro t _;simp
    | cons t' r ih=>
     intro t h
     have hlt:=chain_lt h
     simp only [Region.chain,Bool.and_eq_true] at h
     exact List.nodup_cons.2 ⟨fun hx=>by have:=hlt t hx;omega,ih t' h.2⟩
   exact key r t hfirst.2
 have hsize:ph.length+tl.length≤ops.size:=by
  have:(ph ++ tl).length≤(List.range ops.size).length:=nodupN_length_le (List.nodup_append.2 ⟨hnd,htnd,fun x hx y hy e=>by
   subst e
   rcases hcases x (hphlt x hx) with h|h
   ·exact h.2 hy
   ·exact h.1 hx⟩) fun x hx=>List.mem_range.2 (by
    rcases List.mem_append.1 hx with h|h
    ·exact hphlt x h
    ·exact htl x h)
  simpa using this
 intro fuel
 induction fuel with
 | zero=>
  intro l done v lo hi a W hd hlen
  have h1:done.length≤ph.length:=nodupN_length_le hd.nd hd.lt
  refine full hd (fun i hi'=>?_) 0 (by omega)
  by_cases h:i∈done
  ·exact h
  ·have h2:(i :: done).length≤ph.length:=nodupN_length_le (List.nodup_cons.2 ⟨h,hd.nd⟩) (fun x hx=>by
    rcases List.mem_cons.1 hx with rfl|hx
    ·exact hi'
    ·exact hd.lt x hx)
   simp at h2;omega
 | succ fuel ih=>
  intro l done v lo hi a W hd hlen
  by_cases hfull:∀ i∈ph,i∈done
  ·have h1:ph.length≤done.length:=nodupN_length_le hnd hfull
   have h2:done.length≤ph.length:=nodupN_length_le hd.nd hd.lt
   exact full hd hfull _ (by omega)
  have hlow:∀ x∈Region.ready md ops l,x∈ph:=fun x hx=>by
   have hx':=(Region.ready_spec x).1 hx
   rcases hcases x hx'.1 with ⟨h,_⟩|⟨_,h⟩
   ·exact h
   ·exfalso
    cases htl':tl with
    | nil=>rw [htl'] at h;simp at h
    | cons t r=>
     rw [htl'] at h hfirst
     simp only [Bool.and_eq_true,List.all_eq_true] at hfirst
     rcases List.mem_cons.1 h with rfl|h
     ·have hs:=sat_listed hd.down ops.size _ hx'.2.2
      exact hfull fun i hi'=>(hd.iff i).1 (hs i (by have:=hfirst.1 i hi';simpa using this))
     ·obtain ⟨y,h2,h3,h4⟩:=chain_pred hfirst.2 x h
      have h5:=hd.lt y ((hd.iff y).1 (hx'.2.2 y h4))
      rcases hcases y (by omega) with h6|h6
      ·exact h6.2 (by rw [htl'];exact h2)
      ·exact h6.1 h5
  refine ⟨fun hnil=>?_,fun x hx=>?_⟩
  ·exfalso
   refine hfull ?_
   intro i
   induction i using Nat.strongRecOn with
   | _ i ihi=>
    intro hi'
    by_cases h:i∈done
    ·exact h
    ·exfalso
     have hin:i∈Region.ready md ops l:=by
      rw [Region.ready_spec]
      refine ⟨hphlt i hi',?_,fun j hj=>?_⟩
      ·rw [getD_tf (by have:=hd.size;have:=hphlt i hi';omega)]
       cases hb:l.getD i false with
       | false=>rfl
       | true=>exact absurd ((hd.iff i).1 hb) h
      ·have hji:j<i:=by simpa using hback i (hphlt i hi') j hj
       exact (hd.iff j).2 (ihi j hji (by have:=(hph i hi').2 j hj;simpa using this))
     rw [hnil] at hin;simp at hin
  ·have hxm:=hlow x hx
   have hx':=(Region.ready_spec x).1 hx
   have hg:=(hph x hxm).1
   rw [Array.getElem?_eq_getElem hx'.1] at hg
   simp only [Option.isNone_iff_eq_none] at hg
   have hstep:=steps.get x hxm _ (Array.getElem?_eq_getElem hx'.1)
   have hxn:x ∉ done:=fun h=>by
    have h2:=(hd.iff x).2 h
    rw [getD_tf (by have:=hd.size;omega),h2] at hx';simp at hx'
   unfold wpOp
   rw [Array.getElem?_eq_getElem hx'.1]
   simp only
   have hw:Region.wanted ops[x] (yielded ops a.tmps)=true:=by unfold Region.wanted;rw [hg]
   rw [if_pos hw,hd.act]
   refine .inl (hstep v lo hi W hd.below (fun e=>hd.pre (e ▸ hxn)) (hS W hd.below) (fun j hj=>(hd.facts j ((hd.iff j).1 (hx'.2.2 j hj))).2) _ ?_)
   intro y W' hb9 hF
   have hb:W.grownBy W' row:=by
    split at hb9
    ·exact hb9
    ·exact World.grownBy.of_below hb9 row
   have hpre:kx ∉ x :: done→Below w0.heap.size w0 W':=fun hn=>by
    rw [List.mem_cons,not_or] at hn
    rw [if_neg (fun e=>hn.1 e.symm)] at hb9
    exact (hd.pre hn.2).trans (hb9.mono hd.below.size)
   have hbel:w0.grownBy W' row:=hd.below.trans hb
   refine ih (l.setIfInBounds x true) (x :: done) _ (fun j=>if j=x then W.heap.size else lo j) (fun j=>if j=x then W'.heap.size else hi j) _ W' ⟨by simpa using hd.size,fun i=>?_,List.nodup_cons.2 ⟨hxn,hd.nd⟩,fun i hi'=>?_,fun i hi' j hj=>?_,rfl,hbel,hpre,fun i hi'=>?_,fun i hi' j hj hne=>?_⟩ (by simp;omega)
   ·by_cases e:x=i
    ·subst e;rw [getD_set_same (by have:=hd.size;omega)];simp
    ·rw [getD_set_other e,hd.iff,List.mem_cons];exact ⟨.inr,fun h=>h.resolve_left (fun e'=>e e'.symm)⟩
   ·rcases List.mem_cons.1 hi' with rfl|h
    ·exact hxm
    ·exact hd.lt i h
   ·have hji:l.getD j false=true:=by
     by_cases e:x=i
     ·subst e;exact hx'.2.2 j hj
     ·rw [getD_set_other e] at hi';exact hd.down i hi' j hj
    by_cases e:x=j
    ·subst e;exact getD_set_same (by have:=hd.size;omega)
    ·rw [getD_set_other e];exact hji
   ·by_cases e:i=x
    ·subst e
     refine ⟨?_,?_,?_,hF⟩
     ·simp only [if_true];exact hd.below.size
     ·simp only [if_true];exact hb.size
     ·simp only [if_true];exact Nat.le_refl _
    ·have hid:i∈done:=by rcases List.mem_cons.1 hi' with h|h;exact absurd h e;exact h
     obtain ⟨f1,f2,f3,f4⟩:=hd.facts i hid
     refine ⟨by simp only [if_neg e];exact f1,by simp only [if_neg e];exact f2,by simp only [if_neg e];exact Nat.le_trans f3 hb.size,hstab i _ _ _ W W' (hloc i v _ lo _ hi _ W (fun j hj=>?_) f4) (by
     by_cases e9:i=kx
     ·rw [if_pos e9]
      rw [if_neg (fun e=>hxn (by rw [e,← e9];exact hid))] at hb9
      exact hb9
     ·rw [if_neg e9];exact hb)⟩
     have hjx:j≠x:=by
      rintro rfl
      rcases hj with hj|hj
      ·exact e hj.symm
      ·exact hxn ((hd.iff j).1 (hd.down i ((hd.iff i).2 hid) j hj))
     simp only [if_neg hjx]
     exact ⟨trivial,trivial,trivial⟩
   ·by_cases e1:i=x
    ·subst e1
     have hjd:j∈done:=by rcases List.mem_cons.1 hj with h|h;exact absurd h.symm hne;exact h
     simp only [if_true,if_neg (fun e=>hne (Eq.symm e):¬ j=i)]
     have:=(hd.facts j hjd).2.2.1;omega
    ·have hid:i∈done:=by rcases List.mem_cons.1 hi' with h|h;exact absurd h e1;exact h
     by_cases e2:j=x
     ·subst e2
      simp only [if_true,if_neg e1]
      have:=(hd.facts i hid).2.2.1;omega
     ·have hjd:j∈done:=by rcases List.mem_cons.1 hj with h|h;exact absurd h e2;exact h
      simp only [if_neg e1,if_neg e2]
      exact hd.apart i hid j hjd hne
theorem wp_region_row {id:Nat} {a:Act} (row:Option Nat) (kx:Nat) (ph tl:List Nat) (fr:(Nat→Value)→Act) (v0:Nat→Value) (F:Nat→(Nat→Value)→(Nat→Nat)→(Nat→Nat)→World→Prop) (S:World→Prop) (hmix:P.follows .mixedOrders=true)
  (hc:Region.chk .any ops ph tl=true) (hnd:ph.Nodup) (ha:a=fr v0)
  (hstab:∀ i v lo hi W W',F i v lo hi W→(if i=kx then Below W.heap.size W W' else W.grownBy W' row)→F i v lo hi W')
  (hloc:∀ i v v' lo lo' hi hi' W,(∀ j,j=i∨j∈Region.deps .any ops i→v j=v' j∧lo j=lo' j∧hi j=hi' j)→F i v lo hi W→F i v' lo' hi' W)
  (hS:∀ W,w0.grownBy W row→S W)
  (steps:StepsG P .any ops Q w0 row kx fr F S ph)
  (fin:∀ (v:Nat→Value) (lo hi:Nat→Nat) (W:World),w0.grownBy W row→S W→(∀ i,ph.contains i=true→w0.heap.size≤lo i∧lo i≤hi i∧hi i≤W.heap.size∧F i v lo hi W)→
   (∀ i j,ph.contains i=true→ph.contains j=true→i≠j→hi i≤lo j∨hi j≤lo i)→wpList P ops Q (tl.filterMap fun i=>ops[i]?) (fr v) W):(Code.region id ops true).wp P Q a w0:=by
 refine wp_region_any hmix ?_
 refine wpAny_row hc hnd hstab hloc hS steps fin ops.size _ [] v0 (fun _=>0) (fun _=>0) a _ ⟨by simp,fun i=>?_,.nil,by simp,fun i hi'=>?_,ha,World.grownBy.drewR _ _,fun _=>(Below.refl _ _).drew,by simp,by simp⟩ (by simp)
 ·simp [Array.getD]
 ·exfalso;revert hi';simp [Array.getD]
end
end Go
/- As RegF, where operations may be guarded by operations before them: each guard is shown to hold. -/
namespace Go
open Go.RowKit
def Region.chkH (md:Region.Mode) (ops:Array Oper) (ph tl:List Nat):Bool:=
 ((List.range ops.size).all fun i=>ph.contains i != tl.contains i) &&
 (ph.all fun i=>(ops[i]?).isSome && (Region.deps md ops i).all fun j=>ph.contains j) &&
 ((List.range ops.size).all fun i=>(Region.deps md ops i).all fun j=>decide (j<i)) &&
 (tl.all fun i=>decide (i<ops.size)) &&
 (match tl with|[]=>true|t :: r=>(ph.all fun j=>(Region.sat md ops ops.size (Region.deps md ops t)).contains j) && Region.chain md ops t r)
section
variable {P:Program} {ops:Array Oper} {Q:Exit→Act→World→Prop} {md:Region.Mode}
variable {w0:World} {ph tl:List Nat} {fr:(Nat→Value)→Act} {F:Nat→(Nat→Value)→(Nat→Nat)→(Nat→Nat)→World→Prop} {S:World→Prop}
def StepH (P:Program) (md:Region.Mode) (ops:Array Oper) (Q:Exit→Act→World→Prop) (w0:World) (fr:(Nat→Value)→Act) (F:Nat→(Nat→Value)→(Nat→Nat)→(Nat→Nat)→World→Prop) (S:World→Prop) (k:Nat) (o:Oper):Prop:=
 ∀ (v:Nat→Value) (lo hi:Nat→Nat) (W:World),Below w0.heap.size w0 W→S W→(∀ j∈Region.deps md ops k,lo j≤hi j∧hi j≤W.heap.size∧F j v lo hi W)→
  Region.wanted o (yielded ops (fr v).tmps)=true∧
  ∀ K:Act→World→Prop,(∀ x W',Below W.heap.size W W'→F k (fun j=>if j=k then x else v j) (fun j=>if j=k then W.heap.size else lo j) (fun j=>if j=k then W'.heap.size else hi j) W'→K (fr (fun j=>if j=k then x else v j)) W')→Oper.wp P o (fr v) W K Q
def StepsH (P:Program) (md:Region.Mode) (ops:Array Oper) (Q:Exit→Act→World→Prop) (w0:World) (fr:(Nat→Value)→Act) (F:Nat→(Nat→Value)→(Nat→Nat)→(Nat→Nat)→World→Prop) (S:World→Prop):List Nat→Prop
 | []=>True
 | k :: r=>(∀ o,ops[k]? = some o→StepH P md ops Q w0 fr F S k o)∧StepsH P md ops Q w0 fr F S r
theorem StepsH.cons {k:Nat} {o:Oper} {r:List Nat} (e:ops[k]? = some o) (h:StepH P md ops Q w0 fr F S k o) (t:StepsH P md ops Q w0 fr F S r):StepsH P md ops Q w0 fr F S (k :: r):=⟨fun o' e'=>by rw [e] at e';cases e';exact h,t⟩
theorem StepsH.nil:StepsH P md ops Q w0 fr F S []:=trivial
theorem StepsH.get:∀ {l:List Nat},StepsH P md ops Q w0 fr F S l→∀ i∈l,∀ o,ops[i]? = some o→StepH P md ops Q w0 fr F S i o:=by
 intro l
 induction l with
 | nil=>intro _ i hi;simp at hi
 | cons k l ih=>
  intro h i hi
  rcases List.mem_cons.1 hi with rfl|hi
  ·exact h.1
  ·exact ih h.2 i hi
end
end Go
/- As RegH, with one late operation x: the first of the tail does not wait for it, the second does. -/
namespace Go
open Go.RowKit
def Region.chkX (md:Region.Mode) (ops:Array Oper) (ph:List Nat) (x t:Nat) (r:List Nat):Bool:=
 ((List.range ops.size).all fun i=>ph.contains i != (t :: r).contains i) &&
 (ph.all fun i=>(ops[i]?).isSome && (Region.deps md ops i).all fun j=>ph.contains j) &&
 ((List.range ops.size).all fun i=>(Region.deps md ops i).all fun j=>decide (j<i)) &&
 ((t :: r).all fun i=>decide (i<ops.size)) &&
 ((ph.all fun j=>j == x || (Region.sat md ops ops.size (Region.deps md ops t)).contains j) && Region.chain md ops t r) &&
 (ph.contains x && Region.chain md ops x r && (Region.deps md ops t).all (fun j=>j != x) && !r.isEmpty)
section
variable {P:Program} {ops:Array Oper} {Q:Exit→Act→World→Prop} {md:Region.Mode}
variable {w0:World} {ph:List Nat} {x t:Nat} {r:List Nat} {fr:(Nat→Value)→Act} {F:Nat→(Nat→Value)→(Nat→Nat)→(Nat→Nat)→World→Prop} {S:World→Prop}
theorem wpAny_tail2 (hback:∀ i,i<ops.size→∀ j∈Region.deps md ops i,j<i) (x t:Nat) (r:List Nat) (fuel:Nat) (l:Array Bool) (a:Act) (w:World) (hx:x<ops.size) (ht:t<ops.size) (hne:x≠t) (hxr:x ∉ r) (htr:t ∉ r)
  (hxd:∀ j∈Region.deps md ops x,j ∉ x :: t :: r) (htd:∀ j∈Region.deps md ops t,j ∉ x :: t :: r)
  (hc1:Region.chain md ops t r=true) (hc2:Region.chain md ops x r=true) (hr:∀ i∈r,i<ops.size) (hf:r.length+2≤fuel) (hl:l.size=ops.size)
  (hlist:∀ j,j<ops.size→(l.getD j false=true↔j ∉ x :: t :: r))
  (h1:wpList P ops Q ((x :: t :: r).filterMap fun i=>ops[i]?) a w) (h2:wpList P ops Q ((t :: x :: r).filterMap fun i=>ops[i]?) a w):wpAny P md ops Q fuel l a w:=by
 obtain ⟨f,rfl⟩:∃ f,fuel=f+1:=⟨fuel-1,by omega⟩
 have hrd:∀ y,y<ops.size→y∈x :: t :: r→(∀ j∈Region.deps md ops y,j ∉ x :: t :: r)→y∈Region.ready md ops l:=fun y hy hm hd=>by
  rw [Region.ready_spec]
  refine ⟨hy,?_,fun j hj=>(hlist j (by have:=hback y hy j hj;omega)).2 (hd j hj)⟩
  rw [getD_tf (by omega)]
  cases hb:l.getD y false with
  | true=>exact absurd hm ((hlist y hy).1 hb)
  | false=>rfl
 have hinx:=hrd x hx (by simp) hxd
 refine ⟨fun hnil=>by rw [hnil] at hinx;simp at hinx,fun y hy=>?_⟩
 have hy':=(Region.ready_spec y).1 hy
 have hyr:y∈x :: t :: r:=by
  by_cases hm:y∈x :: t :: r
  ·exact hm
  ·rw [getD_tf (by omega),(hlist y hy'.1).2 hm] at hy';simp at hy'
 have hyt:y=x∨y=t:=by
  rcases List.mem_cons.1 hyr with h3|h3
  ·exact .inl h3
  rcases List.mem_cons.1 h3 with h3|h3
  ·exact .inr h3
  ·exfalso
   obtain ⟨z,h4,h5,h6⟩:=chain_pred hc1 y h3
   exact (hlist z (by omega)).1 (hy'.2.2 z h6) (List.mem_cons_of_mem _ h4)
 have go:∀ (y z:Nat),y<ops.size→z<ops.size→y≠z→y ∉ r→Region.chain md ops z r=true→(∀ j,j∈y :: z :: r↔j∈x :: t :: r)→wpList P ops Q ((y :: z :: r).filterMap fun i=>ops[i]?) a w→wpOp P ops Q y (wpAny P md ops Q f (l.setIfInBounds y true)) a w:=by
  intro y z hy hz hyz hyr hcz hmm h
  have hsome:ops[y]? = some ops[y]:=Array.getElem?_eq_getElem hy
  rw [List.filterMap_cons,hsome] at h
  unfold wpOp
  rw [hsome]
  simp only
  have key:∀ a w,wpList P ops Q ((z :: r).filterMap fun i=>ops[i]?) a w→wpAny P md ops Q f (l.setIfInBounds y true) a w:=fun a w h=>by
   refine wpAny_tail hback (z :: r) f _ a w (fun t' r' e=>?_) (fun i hi=>?_) (by simp;omega) (by simpa using hl) (fun j hj=>?_) h
   ·cases e;exact hcz
   ·rcases List.mem_cons.1 hi with rfl|hi
    ·exact hz
    ·exact hr i hi
   ·by_cases e:y=j
    ·subst e;rw [getD_set_same (by omega)];simp [hyz,hyr]
    ·rw [getD_set_other e,hlist j hj,← hmm j,List.mem_cons]
     exact ⟨fun h hx=>h (.inr hx),fun h hx=>h (hx.resolve_left fun e'=>e e'.symm)⟩
  simp only [wpList] at h
  split
  ·rename_i hw
   rw [if_pos hw] at h
   exact h.imp (Oper.wp_mono key) id
  ·rename_i hw
   rw [if_neg hw] at h
   exact key _ _ h
 rcases hyt with rfl|rfl
 ·exact go y t hx ht hne hxr hc1 (fun _=>Iff.rfl) h1
 ·exact go y x ht hx (fun e=>hne e.symm) htr hc2 (fun j=>by simp only [List.mem_cons];exact ⟨fun h=>h.elim (fun h=>.inr (.inl h)) (fun h=>h.elim .inl (fun h=>.inr (.inr h))),fun h=>h.elim (fun h=>.inr (.inl h)) (fun h=>h.elim .inl (fun h=>.inr (.inr h)))⟩) h2
variable {x0:Nat}
theorem wpAny_factsX (hc:Region.chkX md ops ph x0 t r=true) (hnd:ph.Nodup)
  (hstab:∀ i v lo hi W W',F i v lo hi W→Below W.heap.size W W'→F i v lo hi W')
  (hloc:∀ i v v' lo lo' hi hi' W,(∀ j,j=i∨j∈Region.deps md ops i→v j=v' j∧lo j=lo' j∧hi j=hi' j)→F i v lo hi W→F i v' lo' hi' W)
  (hS:∀ W,Below w0.heap.size w0 W→S W)
  (steps:StepsH P md ops Q w0 fr F S ph)
  (fin:∀ (v:Nat→Value) (lo hi:Nat→Nat) (W:World),Below w0.heap.size w0 W→S W→(∀ i,ph.contains i=true→w0.heap.size≤lo i∧lo i≤hi i∧hi i≤W.heap.size∧F i v lo hi W)→
   (∀ i j,ph.contains i=true→ph.contains j=true→i≠j→hi i≤lo j∨hi j≤lo i)→wpList P ops Q ((t :: r).filterMap fun i=>ops[i]?) (fr v) W)
  (fin2:∀ (v:Nat→Value) (lo hi:Nat→Nat) (W:World),Below w0.heap.size w0 W→S W→(∀ i,ph.contains i=true→i≠x0→w0.heap.size≤lo i∧lo i≤hi i∧hi i≤W.heap.size∧F i v lo hi W)→
   (∀ i j,ph.contains i=true→ph.contains j=true→i≠x0→j≠x0→i≠j→hi i≤lo j∨hi j≤lo i)→wpList P ops Q ((x0 :: t :: r).filterMap fun i=>ops[i]?) (fr v) W∧wpList P ops Q ((t :: x0 :: r).filterMap fun i=>ops[i]?) (fr v) W) :
  ∀ (fuel:Nat) (l:Array Bool) (done:List Nat) (v:Nat→Value) (lo hi:Nat→Nat) (a:Act) (W:World),DoneF w0 ph ops md fr F l done v lo hi a W→fuel+done.length=ops.size→wpAny P md ops Q fuel l a W:=by
 unfold Region.chkX at hc
 simp only [Bool.and_eq_true,List.all_eq_true,List.mem_range,decide_eq_true_eq,bne_iff_ne,ne_eq] at hc
 obtain ⟨⟨⟨⟨⟨hone,hph⟩,hback⟩,htl⟩,hfirst⟩,hlate⟩:=hc
 obtain ⟨⟨⟨hxph,hcx⟩,htx⟩,hrne⟩:=hlate
 have hphlt:∀ i∈ph,i<ops.size:=fun i hi'=>by
  rcases Nat.lt_or_ge i ops.size with h|h
  ·exact h
  ·have:=(hph i hi').1;rw [Array.getElem?_eq_none h] at this;simp at this
 have hcases:∀ i,i<ops.size→(i∈ph∧i ∉ t :: r)∨(i ∉ ph∧i∈t :: r):=fun i hi'=>by
  have:=hone i hi'
  by_cases h1:i∈ph <;> by_cases h2:i∈t :: r <;> simp_all
 have full:∀ {l done v lo hi a W},DoneF w0 ph ops md fr F l done v lo hi a W→(∀ i∈ph,i∈done)→∀ fuel,(t :: r).length≤fuel→wpAny P md ops Q fuel l a W:=by
  intro l done v lo hi a W hd hall fuel hf
  rw [hd.act]
  have hm:∀ i,ph.contains i=true→i∈done:=fun i hi'=>hall i (by simpa using hi')
  refine wpAny_tail (fun i hi' j hj=>by simpa using hback i hi' j hj) (t :: r) fuel l _ W (fun t' r' e=>?_) (fun i hi=>by simpa using htl i hi) hf hd.size (fun j hj=>?_) (fin v lo hi W hd.below (hS W hd.below) (fun i hi'=>hd.facts i (hm i hi')) fun i j hi' hj hne=>hd.apart i (hm i hi') j (hm j hj) hne)
  ·cases e;exact hfirst.2
  ·rw [hd.iff]
   rcases hcases j hj with ⟨h1,h2⟩|⟨h1,h2⟩
   ·exact ⟨fun _=>h2,fun _=>hall j h1⟩
   ·exact ⟨fun h=>absurd (hd.lt j h) h1,fun h=>absurd h2 h⟩
 have htnd:(t :: r).Nodup:=by
  have key:∀ (r:List Nat) (t:Nat),Region.chain md ops t r=true→(t :: r).Nodup:=by
   intro r
   induction r with
   | nil=>intro t _;simp
   | cons t' r ih=>
    intro t h
    have hlt:=chain_lt h
    simp only [Region.chain,Bool.and_eq_true] at h
    exact List.nodup_cons.2 ⟨fun hx=>by have:=hlt t hx;omega,ih t' h.2⟩
  exact key r t hfirst.2
 have hsize:ph.length+(t :: r).length≤ops.size:=by
  have:(ph ++ (t :: r)).length≤(List.range ops.size).length:=nodupN_length_le (List.nodup_append.2 ⟨hnd,htnd,fun x hx y hy e=>by
   subst e
   rcases hcases x (hphlt x hx) with h|h
   ·exact h.2 hy
   ·exact h.1 hx⟩) fun x hx=>List.mem_range.2 (by
    rcases List.mem_append.1 hx with h|h
    ·exact hphlt x h
    ·have:=htl x h;simpa using this)
  simpa using this
 intro fuel
 induction fuel with
 | zero=>
  intro l done v lo hi a W hd hlen
  have h1:done.length≤ph.length:=nodupN_length_le hd.nd hd.lt
  refine full hd (fun i hi'=>?_) 0 (by omega)
  by_cases h:i∈done
  ·exact h
  ·have h2:(i :: done).length≤ph.length:=nodupN_length_le (List.nodup_cons.2 ⟨h,hd.nd⟩) (fun x hx=>by
    rcases List.mem_cons.1 hx with rfl|hx
    ·exact hi'
    ·exact hd.lt x hx)
   simp at h2;omega
 | succ fuel ih=>
  intro l done v lo hi a W hd hlen
  by_cases hfull:∀ i∈ph,i∈done
  ·have h1:ph.length≤done.length:=nodupN_length_le hnd hfull
   have h2:done.length≤ph.length:=nodupN_length_le hd.nd hd.lt
   exact full hd hfull _ (by omega)
  by_cases hpart:∀ i∈ph,i≠x0→i∈done
  ·have hx0:x0 ∉ done:=fun h=>hfull fun i hi'=>by
    by_cases e:i=x0
    ·rw [e];exact h
    ·exact hpart i hi' e
   have hx0p:x0∈ph:=by simpa using hxph
   have h1:(x0 :: done).length≤ph.length:=nodupN_length_le (List.nodup_cons.2 ⟨hx0,hd.nd⟩) (fun x hx=>by
    rcases List.mem_cons.1 hx with rfl|hx
    ·exact hx0p
    ·exact hd.lt x hx)
   simp only [List.length_cons] at h1 hsize
   have hb':∀ i,i<ops.size→∀ j∈Region.deps md ops i,j<i:=fun i hi' j hj=>by simpa using hback i hi' j hj
   have hx0t:x0 ∉ t :: r:=by
    rcases hcases x0 (hphlt x0 hx0p) with h|h
    ·exact h.2
    ·exact absurd hx0p h.1
   have htn:t ∉ r:=(List.nodup_cons.1 htnd).1
   have htp:t<ops.size:=by have:=htl t (by simp);simpa using this
   have hlist:∀ j,j<ops.size→(l.getD j false=true↔j ∉ x0 :: t :: r):=fun j hj=>by
    rw [hd.iff,List.mem_cons,not_or]
    rcases hcases j hj with ⟨h3,h4⟩|⟨h3,h4⟩
    ·exact ⟨fun h=>⟨fun e=>hx0 (e ▸ h),h4⟩,fun h=>hpart j h3 h.1⟩
    ·exact ⟨fun h=>absurd (hd.lt j h) h3,fun h=>absurd h4 h.2⟩
   have hf2:=fin2 v lo hi W hd.below (hS W hd.below) (fun i hi' hne=>hd.facts i (hpart i (by simpa using hi') hne)) fun i j hi' hj h3 h4 hne=>hd.apart i (hpart i (by simpa using hi') h3) j (hpart j (by simpa using hj) h4) hne
   rw [hd.act]
   refine wpAny_tail2 hb' x0 t r (fuel+1) l _ W (hphlt x0 hx0p) htp (fun e=>hx0t (by rw [e];simp)) (fun h=>hx0t (List.mem_cons_of_mem _ h)) htn (fun j hj hm=>?_) (fun j hj hm=>?_) hfirst.2 hcx (fun i hi=>by have:=htl i (List.mem_cons_of_mem _ hi);simpa using this) (by omega) hd.size hlist hf2.1 hf2.2
   ·have h3:j∈ph:=by have:=(hph x0 hx0p).2 j hj;simpa using this
    have h4:=hb' x0 (hphlt x0 hx0p) j hj
    rcases List.mem_cons.1 hm with h5|h5
    ·omega
    ·rcases hcases j (hphlt j h3) with h6|h6
     ·exact h6.2 h5
     ·exact h6.1 h3
   ·have h4:=hb' t htp j hj
    rcases List.mem_cons.1 hm with h5|h5
    ·have:=htx j hj;exact absurd h5 (by simpa using this)
    ·rcases List.mem_cons.1 h5 with h6|h6
     ·omega
     ·have:=chain_lt hfirst.2 j h6;omega
  have hlow:∀ x∈Region.ready md ops l,x∈ph:=fun x hx=>by
   have hx':=(Region.ready_spec x).1 hx
   rcases hcases x hx'.1 with ⟨h,_⟩|⟨_,h⟩
   ·exact h
   ·exfalso
    rcases List.mem_cons.1 h with h5|h5
    ·rw [h5] at hx'
     have hs:=sat_listed hd.down ops.size _ hx'.2.2
     exact hpart fun i hi' hne=>(hd.iff i).1 (hs i (by
      have:=hfirst.1 i hi'
      simp only [Bool.or_eq_true,beq_iff_eq] at this
      simpa using this.resolve_left hne))
    ·obtain ⟨y,h2,h3,h4⟩:=chain_pred hfirst.2 x h5
     have h5:=hd.lt y ((hd.iff y).1 (hx'.2.2 y h4))
     rcases hcases y (by omega) with h6|h6
     ·exact h6.2 h2
     ·exact h6.1 h5
  refine ⟨fun hnil=>?_,fun x hx=>?_⟩
  ·exfalso
   refine hfull ?_
   intro i
   induction i using Nat.strongRecOn with
   | _ i ihi=>
    intro hi'
    by_cases h:i∈done
    ·exact h
    ·exfalso
     have hin:i∈Region.ready md ops l:=by
      rw [Region.ready_spec]
      refine ⟨hphlt i hi',?_,fun j hj=>?_⟩
      ·rw [getD_tf (by have:=hd.size;have:=hphlt i hi';omega)]
       cases hb:l.getD i false with
       | false=>rfl
       | true=>exact absurd ((hd.iff i).1 hb) h
      ·have hji:j<i:=by simpa using hback i (hphlt i hi') j hj
       exact (hd.iff j).2 (ihi j hji (by have:=(hph i hi').2 j hj;simpa using this))
     rw [hnil] at hin;simp at hin
  ·have hxm:=hlow x hx
   have hx':=(Region.ready_spec x).1 hx
   have hstep:=steps.get x hxm _ (Array.getElem?_eq_getElem hx'.1)
   have hxn:x ∉ done:=fun h=>by
    have h2:=(hd.iff x).2 h
    rw [getD_tf (by have:=hd.size;omega),h2] at hx';simp at hx'
   unfold wpOp
   rw [Array.getElem?_eq_getElem hx'.1]
   simp only
   obtain ⟨hw,hrun⟩:=hstep v lo hi W hd.below (hS W hd.below) (fun j hj=>(hd.facts j ((hd.iff j).1 (hx'.2.2 j hj))).2)
   rw [hd.act,if_pos hw]
   refine .inl (hrun _ ?_)
   intro y W' hb hF
   have hbel:Below w0.heap.size w0 W':=hd.below.trans (hb.mono hd.below.size)
   refine ih (l.setIfInBounds x true) (x :: done) _ (fun j=>if j=x then W.heap.size else lo j) (fun j=>if j=x then W'.heap.size else hi j) _ W' ⟨by simpa using hd.size,fun i=>?_,List.nodup_cons.2 ⟨hxn,hd.nd⟩,fun i hi'=>?_,fun i hi' j hj=>?_,rfl,hbel,fun i hi'=>?_,fun i hi' j hj hne=>?_⟩ (by simp;omega)
   ·by_cases e:x=i
    ·subst e;rw [getD_set_same (by have:=hd.size;omega)];simp
    ·rw [getD_set_other e,hd.iff,List.mem_cons];exact ⟨.inr,fun h=>h.resolve_left (fun e'=>e e'.symm)⟩
   ·rcases List.mem_cons.1 hi' with rfl|h
    ·exact hxm
    ·exact hd.lt i h
   ·have hji:l.getD j false=true:=by
     by_cases e:x=i
     ·subst e;exact hx'.2.2 j hj
     ·rw [getD_set_other e] at hi';exact hd.down i hi' j hj
    by_cases e:x=j
    ·subst e;exact getD_set_same (by have:=hd.size;omega)
    ·rw [getD_set_other e];exact hji
   ·by_cases e:i=x
    ·subst e
     refine ⟨?_,?_,?_,hF⟩
     ·simp only [if_true];exact hd.below.size
     ·simp only [if_true];exact hb.size
     ·simp only [if_true];exact Nat.le_refl _
    ·have hid:i∈done:=by rcases List.mem_cons.1 hi' with h|h;exact absurd h e;exact h
     obtain ⟨f1,f2,f3,f4⟩:=hd.facts i hid
     refine ⟨by simp only [if_neg e];exact f1,by simp only [if_neg e];exact f2,by simp only [if_neg e];exact Nat.le_trans f3 hb.size,hstab i _ _ _ W W' (hloc i v _ lo _ hi _ W (fun j hj=>?_) f4) hb⟩
     have hjx:j≠x:=by
      rintro rfl
      rcases hj with hj|hj
      ·exact e hj.symm
      ·exact hxn ((hd.iff j).1 (hd.down i ((hd.iff i).2 hid) j hj))
     simp only [if_neg hjx]
     exact ⟨trivial,trivial,trivial⟩
   ·by_cases e1:i=x
    ·subst e1
     have hjd:j∈done:=by rcases List.mem_cons.1 hj with h|h;exact absurd h.symm hne;exact h
     simp only [if_true,if_neg (fun e=>hne (Eq.symm e):¬ j=i)]
     have:=(hd.facts j hjd).2.2.1;omega
    ·have hid:i∈done:=by rcases List.mem_cons.1 hi' with h|h;exact absurd h e1;exact h
     by_cases e2:j=x
     ·subst e2
      simp only [if_true,if_neg e1]
      have:=(hd.facts i hid).2.2.1;omega
     ·have hjd:j∈done:=by rcases List.mem_cons.1 hj with h|h;exact absurd h e2;exact h
      simp only [if_neg e1,if_neg e2]
      exact hd.apart i hid j hjd hne
theorem wp_region_factsX {id:Nat} {a:Act} (ph:List Nat) (x0 t:Nat) (r:List Nat) (fr:(Nat→Value)→Act) (v0:Nat→Value) (F:Nat→(Nat→Value)→(Nat→Nat)→(Nat→Nat)→World→Prop) (S:World→Prop) (hmix:P.follows .mixedOrders=true)
  (hc:Region.chkX .any ops ph x0 t r=true) (hnd:ph.Nodup) (ha:a=fr v0)
  (hstab:∀ i v lo hi W W',F i v lo hi W→Below W.heap.size W W'→F i v lo hi W')
  (hloc:∀ i v v' lo lo' hi hi' W,(∀ j,j=i∨j∈Region.deps .any ops i→v j=v' j∧lo j=lo' j∧hi j=hi' j)→F i v lo hi W→F i v' lo' hi' W)
  (hS:∀ W,Below w0.heap.size w0 W→S W)
  (steps:StepsH P .any ops Q w0 fr F S ph)
  (fin:∀ (v:Nat→Value) (lo hi:Nat→Nat) (W:World),Below w0.heap.size w0 W→S W→(∀ i,ph.contains i=true→w0.heap.size≤lo i∧lo i≤hi i∧hi i≤W.heap.size∧F i v lo hi W)→
   (∀ i j,ph.contains i=true→ph.contains j=true→i≠j→hi i≤lo j∨hi j≤lo i)→wpList P ops Q ((t :: r).filterMap fun i=>ops[i]?) (fr v) W)
  (fin2:∀ (v:Nat→Value) (lo hi:Nat→Nat) (W:World),Below w0.heap.size w0 W→S W→(∀ i,ph.contains i=true→i≠x0→w0.heap.size≤lo i∧lo i≤hi i∧hi i≤W.heap.size∧F i v lo hi W)→
   (∀ i j,ph.contains i=true→ph.contains j=true→i≠x0→j≠x0→i≠j→hi i≤lo j∨hi j≤lo i)→wpList P ops Q ((x0 :: t :: r).filterMap fun i=>ops[i]?) (fr v) W∧wpList P ops Q ((t :: x0 :: r).filterMap fun i=>ops[i]?) (fr v) W):(Code.region id ops true).wp P Q a w0:=by
 refine wp_region_any hmix ?_
 refine wpAny_factsX hc hnd hstab hloc hS steps fin fin2 ops.size _ [] v0 (fun _=>0) (fun _=>0) a _ ⟨by simp,fun i=>?_,.nil,by simp,fun i hi'=>?_,ha,(Below.refl _ _).drew,by simp,by simp⟩ (by simp)
 ·simp [Array.getD]
 ·exfalso;revert hi';simp [Array.getD]
end
end Go
/- As RegH, where an operation may also be passed over (its guard does not hold): its slot is then undef. -/
namespace Go
open Go.RowKit
section
variable {P:Program} {ops:Array Oper} {Q:Exit→Act→World→Prop} {md:Region.Mode}
variable {w0:World} {ph tl:List Nat} {fr:(Nat→Value)→Act} {F:Nat→(Nat→Value)→(Nat→Nat)→(Nat→Nat)→World→Prop} {S:World→Prop}
def StepS (P:Program) (md:Region.Mode) (ops:Array Oper) (Q:Exit→Act→World→Prop) (w0:World) (fr:(Nat→Value)→Act) (F:Nat→(Nat→Value)→(Nat→Nat)→(Nat→Nat)→World→Prop) (S:World→Prop) (k:Nat) (o:Oper):Prop:=
 ∀ (v:Nat→Value) (lo hi:Nat→Nat) (W:World),Below w0.heap.size w0 W→S W→(∀ j∈Region.deps md ops k,lo j≤hi j∧hi j≤W.heap.size∧F j v lo hi W)→
  (Region.wanted o (yielded ops (fr v).tmps)=true∧
  ∀ K:Act→World→Prop,(∀ x W',Below W.heap.size W W'→F k (fun j=>if j=k then x else v j) (fun j=>if j=k then W.heap.size else lo j) (fun j=>if j=k then W'.heap.size else hi j) W'→K (fr (fun j=>if j=k then x else v j)) W')→Oper.wp P o (fr v) W K Q) ∨
  (Region.wanted o (yielded ops (fr v).tmps)=false∧
  ∀ K:Act→World→Prop,(∀ x W',Below W.heap.size W W'→F k (fun j=>if j=k then x else v j) (fun j=>if j=k then W.heap.size else lo j) (fun j=>if j=k then W'.heap.size else hi j) W'→K (fr (fun j=>if j=k then x else v j)) W')→K ((fr v).put o.dst undef) W)
def StepsS (P:Program) (md:Region.Mode) (ops:Array Oper) (Q:Exit→Act→World→Prop) (w0:World) (fr:(Nat→Value)→Act) (F:Nat→(Nat→Value)→(Nat→Nat)→(Nat→Nat)→World→Prop) (S:World→Prop):List Nat→Prop
 | []=>True
 | k :: r=>(∀ o,ops[k]? = some o→StepS P md ops Q w0 fr F S k o)∧StepsS P md ops Q w0 fr F S r
theorem StepsS.cons {k:Nat} {o:Oper} {r:List Nat} (e:ops[k]? = some o) (h:StepS P md ops Q w0 fr F S k o) (t:StepsS P md ops Q w0 fr F S r):StepsS P md ops Q w0 fr F S (k :: r):=⟨fun o' e'=>by rw [e] at e';cases e';exact h,t⟩
theorem StepsS.nil:StepsS P md ops Q w0 fr F S []:=trivial
theorem StepsS.get:∀ {l:List Nat},StepsS P md ops Q w0 fr F S l→∀ i∈l,∀ o,ops[i]? = some o→StepS P md ops Q w0 fr F S i o:=by
 intro l
 induction l with
 | nil=>intro _ i hi;simp at hi
 | cons k l ih=>
  intro h i hi
  rcases List.mem_cons.1 hi with rfl|hi
  ·exact h.1
  ·exact ih h.2 i hi
theorem wpAny_factsS (hc:Region.chkH md ops ph tl=true) (hnd:ph.Nodup)
  (hstab:∀ i v lo hi W W',F i v lo hi W→Below W.heap.size W W'→F i v lo hi W')
  (hloc:∀ i v v' lo lo' hi hi' W,(∀ j,j=i∨j∈Region.deps md ops i→v j=v' j∧lo j=lo' j∧hi j=hi' j)→F i v lo hi W→F i v' lo' hi' W)
  (hS:∀ W,Below w0.heap.size w0 W→S W)
  (steps:StepsS P md ops Q w0 fr F S ph)
  (fin:∀ (v:Nat→Value) (lo hi:Nat→Nat) (W:World),Below w0.heap.size w0 W→S W→(∀ i,ph.contains i=true→w0.heap.size≤lo i∧lo i≤hi i∧hi i≤W.heap.size∧F i v lo hi W)→
   (∀ i j,ph.contains i=true→ph.contains j=true→i≠j→hi i≤lo j∨hi j≤lo i)→wpList P ops Q (tl.filterMap fun i=>ops[i]?) (fr v) W) :
  ∀ (fuel:Nat) (l:Array Bool) (done:List Nat) (v:Nat→Value) (lo hi:Nat→Nat) (a:Act) (W:World),DoneF w0 ph ops md fr F l done v lo hi a W→fuel+done.length=ops.size→wpAny P md ops Q fuel l a W:=by
 unfold Region.chkH at hc
 simp only [Bool.and_eq_true,List.all_eq_true,List.mem_range,decide_eq_true_eq,bne_iff_ne,ne_eq] at hc
 obtain ⟨⟨⟨⟨hone,hph⟩,hback⟩,htl⟩,hfirst⟩:=hc
 have hphlt:∀ i∈ph,i<ops.size:=fun i hi'=>by
  rcases Nat.lt_or_ge i ops.size with h|h
  ·exact h
  ·have:=(hph i hi').1;rw [Array.getElem?_eq_none h] at this;simp at this
 have hcases:∀ i,i<ops.size→(i∈ph∧i ∉ tl)∨(i ∉ ph∧i∈tl):=fun i hi'=>by
  have:=hone i hi'
  by_cases h1:i∈ph <;> by_cases h2:i∈tl <;> simp_all
 have hlens:ph.length+tl.eraseDups.length ≥ 0:=Nat.zero_le _
 have full:∀ {l done v lo hi a W},DoneF w0 ph ops md fr F l done v lo hi a W→(∀ i∈ph,i∈done)→∀ fuel,tl.length≤fuel→wpAny P md ops Q fuel l a W:=by
  intro l done v lo hi a W hd hall fuel hf
  rw [hd.act]
  have hm:∀ i,ph.contains i=true→i∈done:=fun i hi'=>hall i (by simpa using hi')
  refine wpAny_tail (fun i hi' j hj=>by simpa using hback i hi' j hj) tl fuel l _ W (fun t r e=>?_) htl hf hd.size (fun j hj=>?_) (fin v lo hi W hd.below (hS W hd.below) (fun i hi'=>hd.facts i (hm i hi')) fun i j hi' hj hne=>hd.apart i (hm i hi') j (hm j hj) hne)
  ·rw [e] at hfirst;simp only [Bool.and_eq_true] at hfirst;exact hfirst.2
  ·rw [hd.iff]
   rcases hcases j hj with ⟨h1,h2⟩|⟨h1,h2⟩
   ·exact ⟨fun _=>h2,fun _=>hall j h1⟩
   ·exact ⟨fun h=>absurd (hd.lt j h) h1,fun h=>absurd h2 h⟩
 have htnd:tl.Nodup:=by
  cases tl with
  | nil=>exact .nil
  | cons t r=>
   simp only [Bool.and_eq_true] at hfirst
   have key:∀ (r:List Nat) (t:Nat),Region.chain md ops t r=true→(t :: r).Nodup:=by
    intro r
    induction r with
    | nil=>intro t _;simp
    | cons t' r ih=>
     intro t h
     have hlt:=chain_lt h
     simp only [Region.chain,Bool.and_eq_true] at h
     exact List.nodup_cons.2 ⟨fun hx=>by have:=hlt t hx;omega,ih t' h.2⟩
   exact key r t hfirst.2
 have hsize:ph.length+tl.length≤ops.size:=by
  have:(ph ++ tl).length≤(List.range ops.size).length:=nodupN_length_le (List.nodup_append.2 ⟨hnd,htnd,fun x hx y hy e=>by
   subst e
   rcases hcases x (hphlt x hx) with h|h
   ·exact h.2 hy
   ·exact h.1 hx⟩) fun x hx=>List.mem_range.2 (by
    rcases List.mem_append.1 hx with h|h
    ·exact hphlt x h
    ·exact htl x h)
  simpa using this
 intro fuel
 induction fuel with
 | zero=>
  intro l done v lo hi a W hd hlen
  have h1:done.length≤ph.length:=nodupN_length_le hd.nd hd.lt
  refine full hd (fun i hi'=>?_) 0 (by omega)
  by_cases h:i∈done
  ·exact h
  ·have h2:(i :: done).length≤ph.length:=nodupN_length_le (List.nodup_cons.2 ⟨h,hd.nd⟩) (fun x hx=>by
    rcases List.mem_cons.1 hx with rfl|hx
    ·exact hi'
    ·exact hd.lt x hx)
   simp at h2;omega
 | succ fuel ih=>
  intro l done v lo hi a W hd hlen
  by_cases hfull:∀ i∈ph,i∈done
  ·have h1:ph.length≤done.length:=nodupN_length_le hnd hfull
   have h2:done.length≤ph.length:=nodupN_length_le hd.nd hd.lt
   exact full hd hfull _ (by omega)
  have hlow:∀ x∈Region.ready md ops l,x∈ph:=fun x hx=>by
   have hx':=(Region.ready_spec x).1 hx
   rcases hcases x hx'.1 with ⟨h,_⟩|⟨_,h⟩
   ·exact h
   ·exfalso
    cases htl':tl with
    | nil=>rw [htl'] at h;simp at h
    | cons t r=>
     rw [htl'] at h hfirst
     simp only [Bool.and_eq_true,List.all_eq_true] at hfirst
     rcases List.mem_cons.1 h with rfl|h
     ·have hs:=sat_listed hd.down ops.size _ hx'.2.2
      exact hfull fun i hi'=>(hd.iff i).1 (hs i (by have:=hfirst.1 i hi';simpa using this))
     ·obtain ⟨y,h2,h3,h4⟩:=chain_pred hfirst.2 x h
      have h5:=hd.lt y ((hd.iff y).1 (hx'.2.2 y h4))
      rcases hcases y (by omega) with h6|h6
      ·exact h6.2 (by rw [htl'];exact h2)
      ·exact h6.1 h5
  refine ⟨fun hnil=>?_,fun x hx=>?_⟩
  ·exfalso
   refine hfull ?_
   intro i
   induction i using Nat.strongRecOn with
   | _ i ihi=>
    intro hi'
    by_cases h:i∈done
    ·exact h
    ·exfalso
     have hin:i∈Region.ready md ops l:=by
      rw [Region.ready_spec]
      refine ⟨hphlt i hi',?_,fun j hj=>?_⟩
      ·rw [getD_tf (by have:=hd.size;have:=hphlt i hi';omega)]
       cases hb:l.getD i false with
       | false=>rfl
       | true=>exact absurd ((hd.iff i).1 hb) h
      ·have hji:j<i:=by simpa using hback i (hphlt i hi') j hj
       exact (hd.iff j).2 (ihi j hji (by have:=(hph i hi').2 j hj;simpa using this))
     rw [hnil] at hin;simp at hin
  ·have hxm:=hlow x hx
   have hx':=(Region.ready_spec x).1 hx
   have hstep:=steps.get x hxm _ (Array.getElem?_eq_getElem hx'.1)
   have hxn:x ∉ done:=fun h=>by
    have h2:=(hd.iff x).2 h
    rw [getD_tf (by have:=hd.size;omega),h2] at hx';simp at hx'
   unfold wpOp
   rw [Array.getElem?_eq_getElem hx'.1]
   simp only
   have hcond:∀ y W',Below W.heap.size W W'→F x (fun j=>if j=x then y else v j) (fun j=>if j=x then W.heap.size else lo j) (fun j=>if j=x then W'.heap.size else hi j) W'→wpAny P md ops Q fuel (l.setIfInBounds x true) (fr (fun j=>if j=x then y else v j)) W':=?cond
   ·rcases hstep v lo hi W hd.below (hS W hd.below) (fun j hj=>(hd.facts j ((hd.iff j).1 (hx'.2.2 j hj))).2) with ⟨hw,hrun⟩|⟨hw,hrun⟩
    ·rw [hd.act,if_pos hw]
     exact .inl (hrun _ hcond)
    ·rw [hd.act,if_neg (by rw [hw];simp)]
     exact hrun _ hcond
   intro y W' hb hF
   have hbel:Below w0.heap.size w0 W':=hd.below.trans (hb.mono hd.below.size)
   refine ih (l.setIfInBounds x true) (x :: done) _ (fun j=>if j=x then W.heap.size else lo j) (fun j=>if j=x then W'.heap.size else hi j) _ W' ⟨by simpa using hd.size,fun i=>?_,List.nodup_cons.2 ⟨hxn,hd.nd⟩,fun i hi'=>?_,fun i hi' j hj=>?_,rfl,hbel,fun i hi'=>?_,fun i hi' j hj hne=>?_⟩ (by simp;omega)
   ·by_cases e:x=i
    ·subst e;rw [getD_set_same (by have:=hd.size;omega)];simp
    ·rw [getD_set_other e,hd.iff,List.mem_cons];exact ⟨.inr,fun h=>h.resolve_left (fun e'=>e e'.symm)⟩
   ·rcases List.mem_cons.1 hi' with rfl|h
    ·exact hxm
    ·exact hd.lt i h
   ·have hji:l.getD j false=true:=by
     by_cases e:x=i
     ·subst e;exact hx'.2.2 j hj
     ·rw [getD_set_other e] at hi';exact hd.down i hi' j hj
    by_cases e:x=j
    ·subst e;exact getD_set_same (by have:=hd.size;omega)
    ·rw [getD_set_other e];exact hji
   ·by_cases e:i=x
    ·subst e
     refine ⟨?_,?_,?_,hF⟩
     ·simp only [if_true];exact hd.below.size
     ·simp only [if_true];exact hb.size
     ·simp only [if_true];exact Nat.le_refl _
    ·have hid:i∈done:=by rcases List.mem_cons.1 hi' with h|h;exact absurd h e;exact h
     obtain ⟨f1,f2,f3,f4⟩:=hd.facts i hid
     refine ⟨by simp only [if_neg e];exact f1,by simp only [if_neg e];exact f2,by simp only [if_neg e];exact Nat.le_trans f3 hb.size,hstab i _ _ _ W W' (hloc i v _ lo _ hi _ W (fun j hj=>?_) f4) hb⟩
     have hjx:j≠x:=by
      rintro rfl
      rcases hj with hj|hj
      ·exact e hj.symm
      ·exact hxn ((hd.iff j).1 (hd.down i ((hd.iff i).2 hid) j hj))
     simp only [if_neg hjx]
     exact ⟨trivial,trivial,trivial⟩
   ·by_cases e1:i=x
    ·subst e1
     have hjd:j∈done:=by rcases List.mem_cons.1 hj with h|h;exact absurd h.symm hne;exact h
     simp only [if_true,if_neg (fun e=>hne (Eq.symm e):¬ j=i)]
     have:=(hd.facts j hjd).2.2.1;omega
    ·have hid:i∈done:=by rcases List.mem_cons.1 hi' with h|h;exact absurd h e1;exact h
     by_cases e2:j=x
     ·subst e2
      simp only [if_true,if_neg e1]
      have:=(hd.facts i hid).2.2.1;omega
     ·have hjd:j∈done:=by rcases List.mem_cons.1 hj with h|h;exact absurd h e2;exact h
      simp only [if_neg e1,if_neg e2]
      exact hd.apart i hid j hjd hne
theorem wp_region_factsS {id:Nat} {a:Act} (ph tl:List Nat) (fr:(Nat→Value)→Act) (v0:Nat→Value) (F:Nat→(Nat→Value)→(Nat→Nat)→(Nat→Nat)→World→Prop) (S:World→Prop) (hmix:P.follows .mixedOrders=true)
  (hc:Region.chkH .any ops ph tl=true) (hnd:ph.Nodup) (ha:a=fr v0)
  (hstab:∀ i v lo hi W W',F i v lo hi W→Below W.heap.size W W'→F i v lo hi W')
  (hloc:∀ i v v' lo lo' hi hi' W,(∀ j,j=i∨j∈Region.deps .any ops i→v j=v' j∧lo j=lo' j∧hi j=hi' j)→F i v lo hi W→F i v' lo' hi' W)
  (hS:∀ W,Below w0.heap.size w0 W→S W)
  (steps:StepsS P .any ops Q w0 fr F S ph)
  (fin:∀ (v:Nat→Value) (lo hi:Nat→Nat) (W:World),Below w0.heap.size w0 W→S W→(∀ i,ph.contains i=true→w0.heap.size≤lo i∧lo i≤hi i∧hi i≤W.heap.size∧F i v lo hi W)→
   (∀ i j,ph.contains i=true→ph.contains j=true→i≠j→hi i≤lo j∨hi j≤lo i)→wpList P ops Q (tl.filterMap fun i=>ops[i]?) (fr v) W):(Code.region id ops true).wp P Q a w0:=by
 refine wp_region_any hmix ?_
 refine wpAny_factsS hc hnd hstab hloc hS steps fin ops.size _ [] v0 (fun _=>0) (fun _=>0) a _ ⟨by simp,fun i=>?_,.nil,by simp,fun i hi'=>?_,ha,(Below.refl _ _).drew,by simp,by simp⟩ (by simp)
 ·simp [Array.getD]
 ·exfalso;revert hi';simp [Array.getD]
end
end Go
/- As RegS, where the operations leave values alone. -/
namespace Go
open Go.RowKit
def vat:List Value→Nat→Value
 | [],_=>undef
 | x :: _,0=>x
 | _ :: l,k+1=>vat l k
def ov (x:List Value):List Nat→(Nat→Value)→Nat→Value
 | [],u,j=>u j
 | d :: D,u,j=>bif j == d then vat x j else ov x D u j
theorem ov_eq {x:List Value} {D:List Nat} {v:Nat→Value} (h:∀ j∈D,v j=vat x j):ov x D v=v:=by
 induction D with
 | nil=>rfl
 | cons d D ih=>
  funext j
  simp only [ov]
  cases hb:(j == d) with
  | true=>rw [eq_of_beq hb];exact (h d (by simp)).symm
  | false=>exact congrFun (ih fun j hj=>h j (by simp [hj])) j
section
variable {P:Program} {ops:Array Oper} {Q:Exit→Act→World→Prop} {md:Region.Mode}
variable {w0:World} {fr:(Nat→Value)→Act} {S:World→Prop} {x:List Value}
def gokV (fr:(Nat→Value)→Act) (x:List Value) (D:List Nat) (v:Nat→Value) (W:World) (k:Nat) (K:Act→World→Prop):Prop:=∀ W',Below W.heap.size W W'→K (fr (ov x (k :: D) v)) W'
def StepV (P:Program) (ops:Array Oper) (Q:Exit→Act→World→Prop) (w0:World) (fr:(Nat→Value)→Act) (x:List Value) (S:World→Prop) (D:List Nat) (k:Nat) (o:Oper):Prop:=
 ∀ (v:Nat→Value) (W:World),Below w0.heap.size w0 W→S W→
  (Region.wanted o (yielded ops (fr (ov x D v)).tmps)=true∧
  ∀ K:Act→World→Prop,gokV fr x D v W k K→Oper.wp P o (fr (ov x D v)) W K Q) ∨
  (Region.wanted o (yielded ops (fr (ov x D v)).tmps)=false∧
  ∀ K:Act→World→Prop,gokV fr x D v W k K→K ((fr (ov x D v)).put o.dst undef) W)
def StepsV (P:Program) (md:Region.Mode) (ops:Array Oper) (Q:Exit→Act→World→Prop) (w0:World) (fr:(Nat→Value)→Act) (x:List Value) (S:World→Prop):List Nat→Prop
 | []=>True
 | k :: r=>(∃ D o,ops[k]? = some o∧(D.all fun j=>(Region.deps md ops k).contains j)=true∧StepV P ops Q w0 fr x S D k o)∧StepsV P md ops Q w0 fr x S r
theorem StepsV.c {k:Nat} {o:Oper} {r:List Nat} (D:List Nat) (e:ops[k]? = some o) (h:StepV P ops Q w0 fr x S D k o) (t:StepsV P md ops Q w0 fr x S r) (hD:(D.all fun j=>(Region.deps md ops k).contains j)=true:=by kernel_rfl):StepsV P md ops Q w0 fr x S (k :: r):=⟨⟨D,o,e,hD,h⟩,t⟩
theorem StepsV.n:StepsV P md ops Q w0 fr x S []:=trivial
theorem ov_cons {D:List Nat} {k:Nat} {v:Nat→Value} (h:∀ j∈D,v j=vat x j):ov x (k :: D) v=fun j=>if j=k then vat x k else v j:=by
 funext j
 show (bif j == k then vat x j else ov x D v j)=_
 rw [ov_eq h]
 by_cases e:j=k
 ·subst e;simp
 ·rw [if_neg e,show (j == k)=false from Bool.eq_false_iff.2 fun h=>e (eq_of_beq h)];rfl
theorem StepsV.to:∀ {l:List Nat},StepsV P md ops Q w0 fr x S l→StepsS P md ops Q w0 fr (fun i v _ _ _=>v i=vat x i) S l
 | [],_=>trivial
 | k :: r,⟨⟨D,o,e,hD,h⟩,t⟩=>by
  refine ⟨fun o' e'=>?_,t.to⟩
  rw [e] at e';cases e'
  intro v lo hi W hb hs hd
  have hj:∀ j∈D,v j=vat x j:=fun j hj=>(hd j (by simpa using List.all_eq_true.1 hD j hj)).2.2
  have h':=h v W hb hs
  unfold gokV at h'
  rw [ov_eq hj,ov_cons hj] at h'
  rcases h' with ⟨h1,h2⟩|⟨h1,h2⟩
  ·exact .inl ⟨h1,fun K hK=>h2 K fun W' hb'=>hK (vat x k) W' hb' (by simp)⟩
  ·exact .inr ⟨h1,fun K hK=>h2 K fun W' hb'=>hK (vat x k) W' hb' (by simp)⟩
end
end Go
/- As RegS: values that are known (x) apart from facts (G, for the operations of cs). -/
namespace Go
open Go.RowKit
def FnG:=Nat→(Nat→Value)→(Nat→Nat)→(Nat→Nat)→World→Prop
def allC (p:Nat→Prop):List Nat→Prop
 | []=>True
 | k :: r=>p k∧allC p r
theorem allC.get {p:Nat→Prop}:∀ {l:List Nat},allC p l→∀ k,l.contains k=true→p k
 | k :: r,⟨h,t⟩,i,hi=>by
  by_cases e:i=k
  ·subst e;exact h
  ·refine t.get i ?_
   rw [List.contains_cons] at hi
   simpa [e] using hi
theorem allC.of {p:Nat→Prop}:∀ {l:List Nat},(∀ k∈l,p k)→allC p l
 | [],_=>trivial
 | k :: r,h=>⟨h k (by simp),.of fun j hj=>h j (by simp [hj])⟩
def fcW (x:List Value) (cs:List Nat) (G:FnG) (i:Nat) (v:Nat→Value) (lo hi:Nat→Nat) (W:World):Prop:=match cs.contains i with
 | true=>G i v lo hi W
 | false=>v i=vat x i
def upd {α:Type} (f:Nat→α) (k:Nat) (y:α):Nat→α:=fun j=>if j=k then y else f j
section
variable {P:Program} {ops:Array Oper} {Q:Exit→Act→World→Prop} {md:Region.Mode}
variable {w0:World} {fr:(Nat→Value)→Act} {S:World→Prop} {x:List Value} {cs:List Nat} {G:FnG}
def gokW (fr:(Nat→Value)→Act) (x:List Value) (cs:List Nat) (G:FnG) (D:List Nat) (v:Nat→Value) (lo hi:Nat→Nat) (W:World) (k:Nat) (K:Act→World→Prop):Prop:=match cs.contains k with
 | false=>∀ W',Below W.heap.size W W'→K (fr (ov x (k :: D) v)) W'
 | true=>∀ y W',Below W.heap.size W W'→G k (fun j=>if j=k then y else v j) (fun j=>if j=k then W.heap.size else lo j) (fun j=>if j=k then W'.heap.size else hi j) W'→K (fr (upd (ov x D v) k y)) W'
def StepW (P:Program) (ops:Array Oper) (Q:Exit→Act→World→Prop) (w0:World) (fr:(Nat→Value)→Act) (x:List Value) (cs:List Nat) (G:FnG) (S:World→Prop) (D C:List Nat) (k:Nat) (o:Oper):Prop:=
 ∀ (v:Nat→Value) (lo hi:Nat→Nat) (W:World),Below w0.heap.size w0 W→S W→allC (fun j=>lo j≤hi j∧hi j≤W.heap.size∧G j v lo hi W) C→
  (Region.wanted o (yielded ops (fr (ov x D v)).tmps)=true∧∀ K:Act→World→Prop,gokW fr x cs G D v lo hi W k K→Oper.wp P o (fr (ov x D v)) W K Q) ∨
  (Region.wanted o (yielded ops (fr (ov x D v)).tmps)=false∧∀ K:Act→World→Prop,gokW fr x cs G D v lo hi W k K→K ((fr (ov x D v)).put o.dst undef) W)
def StepsW (P:Program) (md:Region.Mode) (ops:Array Oper) (Q:Exit→Act→World→Prop) (w0:World) (fr:(Nat→Value)→Act) (x:List Value) (cs:List Nat) (G:FnG) (S:World→Prop):List Nat→Prop
 | []=>True
 | k :: r=>(∃ D C o,ops[k]? = some o∧((D.all fun j=>(Region.deps md ops k).contains j && !cs.contains j) && C.all fun j=>(Region.deps md ops k).contains j && cs.contains j)=true∧StepW P ops Q w0 fr x cs G S D C k o)∧StepsW P md ops Q w0 fr x cs G S r
theorem StepsW.c {k:Nat} {o:Oper} {r:List Nat} (D C:List Nat) (e:ops[k]? = some o) (h:StepW P ops Q w0 fr x cs G S D C k o) (t:StepsW P md ops Q w0 fr x cs G S r) (hD:((D.all fun j=>(Region.deps md ops k).contains j && !cs.contains j) && C.all fun j=>(Region.deps md ops k).contains j && cs.contains j)=true:=by kernel_rfl):StepsW P md ops Q w0 fr x cs G S (k :: r):=⟨⟨D,C,o,e,hD,h⟩,t⟩
theorem StepsW.n:StepsW P md ops Q w0 fr x cs G S []:=trivial
theorem StepsW.to:∀ {l:List Nat},StepsW P md ops Q w0 fr x cs G S l→StepsS P md ops Q w0 fr (fcW x cs G) S l
 | [],_=>trivial
 | k :: r,⟨⟨D,C,o,e,hD,h⟩,t⟩=>by
  refine ⟨fun o' e'=>?_,t.to⟩
  rw [e] at e';cases e'
  intro v lo hi W hb hs hd
  rw [Bool.and_eq_true,List.all_eq_true,List.all_eq_true] at hD
  have hj:∀ j∈D,v j=vat x j:=fun j hj=>by
   have h1:=hD.1 j hj
   rw [Bool.and_eq_true] at h1
   have h2:=(hd j (by simpa using h1.1)).2.2
   rw [fcW,show cs.contains j=false by simpa using h1.2] at h2
   exact h2
  have h':=h v lo hi W hb hs (.of fun j hj=>by
   have h1:=hD.2 j hj
   rw [Bool.and_eq_true] at h1
   have h2:=hd j (by simpa using h1.1)
   rw [fcW,h1.2] at h2
   exact h2)
  have key:∀ K:Act→World→Prop,(∀ y W',Below W.heap.size W W'→fcW x cs G k (fun j=>if j=k then y else v j) (fun j=>if j=k then W.heap.size else lo j) (fun j=>if j=k then W'.heap.size else hi j) W'→K (fr (fun j=>if j=k then y else v j)) W')→gokW fr x cs G D v lo hi W k K:=fun K hK=>by
   unfold gokW
   cases hc:cs.contains k with
   | false=>exact fun W' hb'=>by rw [ov_cons hj];exact hK (vat x k) W' hb' (by rw [fcW,hc];simp)
   | true=>exact fun y W' hb' hg=>by rw [ov_eq hj];exact hK y W' hb' (by rw [fcW,hc];exact hg)
  rw [ov_eq hj] at h'
  exact h'.imp (fun ⟨h1,h2⟩=>⟨h1,fun K hK=>h2 K (key K hK)⟩) fun ⟨h1,h2⟩=>⟨h1,fun K hK=>h2 K (key K hK)⟩
theorem wp_region_W {id:Nat} {a:Act} (ph tl:List Nat) (fr:(Nat→Value)→Act) (x:List Value) (cs:List Nat) (G:FnG) (S:World→Prop)
  (hS:∀ W,Below w0.heap.size w0 W→S W)
  (stab:allC (fun k=>∀ v lo hi W W',G k v lo hi W→Below W.heap.size W W'→G k v lo hi W') cs)
  (loc:allC (fun k=>∀ v v' lo lo' hi hi' W,(∀ j,j=k∨j∈Region.deps .any ops k→v j=v' j∧lo j=lo' j∧hi j=hi' j)→G k v lo hi W→G k v' lo' hi' W) cs)
  (steps:StepsW P .any ops Q w0 fr x cs G S ph)
  (fin:∀ (v:Nat→Value) (lo hi:Nat→Nat) (W:World),Below w0.heap.size w0 W→S W→(∀ i,ph.contains i=true→w0.heap.size≤lo i∧lo i≤hi i∧hi i≤W.heap.size∧fcW x cs G i v lo hi W)→
   (∀ i j,ph.contains i=true→ph.contains j=true→i≠j→hi i≤lo j∨hi j≤lo i)→wpList P ops Q (tl.filterMap fun i=>ops[i]?) (fr v) W)
  (v0:Nat→Value:=fun _=>undef) (ha:a=fr v0:=by rfl) (hmix:P.follows .mixedOrders=true:=by rfl) (hc:Region.chkH .any ops ph tl=true:=by kernel_rfl) (hnd:ph.Nodup:=by decide):(Code.region id ops true).wp P Q a w0:=
 wp_region_factsS ph tl fr v0 (fcW x cs G) S hmix hc hnd ha (fun i v lo hi W W' h hb=>by
   unfold fcW at h ⊢
   cases e:cs.contains i with
   | true=>rw [e] at h;exact stab.get i e v lo hi W W' h hb
   | false=>rw [e] at h;exact h) (fun i v v' lo lo' hi hi' W hag h=>by
   unfold fcW at h ⊢
   cases e:cs.contains i with
   | true=>rw [e] at h;exact loc.get i e v v' lo lo' hi hi' W hag h
   | false=>rw [e] at h;exact (hag i (.inl rfl)).1 ▸ h) hS steps.to fin
theorem stw {D C:List Nat} {k:Nat} {o:Oper} (h:StepW P ops Q w0 fr x cs G S D C k o:=by
  intro v lo hi W hb hS _
  first
   | (
    refine .inr ⟨rfl,fun K hK=>acx (hK W (Below.refl _ _)) ?_⟩
    simp [Act.put,ov,vat]
    done)
   | (
    go_split_ands
    refine .inl ⟨rfl,fun K hK=>?_⟩
    simp only [ov,vat,Nat.reduceBEq,cond_true,cond_false]
    go_wp2_with fail
    refine acx (hK W (Below.refl _ _)) ?_
    first
     | (simp [ov,vat];done)
     | (simp [ov,vat, *];done)
    done)
   | fail):StepW P ops Q w0 fr x cs G S D C k o:=h
end
end Go
/- A range over a function at the wide fence: the iterator may write a box of its own and need not end by itself (the caller's invariant bounds the rounds). After the guide's law for a loop body that leaves; proved anew here. -/
namespace Go
open Go.RowKit
def AbidesX {β:Type} (x:Option Nat) (J:β→World→Prop):Prop:=
 ∀ (s:β) (W W':World) (row:Option Nat),J s W→W.grownBy W' row→(∀ r,row=some r→x=some r∧∃ o:Obj,W.heap[r]? = some o∧o.isCells=true)→J s W'
def OwnX {β:Type} (B:Nat) (x:Option Nat) (J:β→World→Prop):Prop:=
 ∀ (s:β) (W W':World) (row:Option Nat),J s W→W.grownBy W' row→
  (∀ r,row=some r→(x=some r∧∃ o:Obj,W.heap[r]? = some o∧o.isCells=true)∨(B≤r∧∃ o:Obj,W.heap[r]? = some o∧o.isCells=false))→J s W'
def SeqX {α:Type} (P:Program) (g:Nat) (lb:Array Value) (encs:α→Array Value) (Kp:World→World→Prop) (x:Option Nat) (En Fin Bd:List α→Prop) (w:World):Prop:=
 ∀ (l:Nat) (J Jx:List α→World→Prop) (W:World),Below w.heap.size w W→AbidesX x J→AbidesX x Jx→(∀ pre W1,J pre W1→Bd pre)→
  (∀ pre y W1,J pre W1→En (pre ++ [y])→YieldAt Fence.wide 0 P l (encs y) W1 fun e W'=>
   (e=.returned (.bool true)∧J (pre ++ [y]) W'∧Kp W1 W')∨(e=.returned (.bool false)∧Jx (pre ++ [y]) W'))→
  J [] W→
  CallsIn Fence.wide 0 P g (#[.func (.yield l) #[] #[]] ++ lb) W fun e W'=>(∃ v,e=.returned v)∧((∃ xs,Fin xs∧J xs W')∨(∃ pre,En pre∧Jx pre W'))
variable {P:Program}
theorem OwnX.putObj {β:Type} {B:Nat} {x:Option Nat} {I:β→World→Prop} (h:OwnX B x I) {s:β} {W:World} {l:Nat} {o:Obj} (o':Obj) (hs:I s W) (hB:B≤l) (hl:W.heap[l]? = some o) (ho:o.isCells=false):I s (W.putObj l o'):=
 h s W _ (some l) hs (grownBy_putObj' W l o') (fun r e=>by cases e;exact .inr ⟨hB,o,hl,ho⟩)
theorem OwnX.alloc {β:Type} {B:Nat} {x:Option Nat} {I:β→World→Prop} (h:OwnX B x I) {s:β} {W:World} (o:Obj) (hs:I s W):I s (W.alloc o):=
 h s W _ none hs (World.grownBy_alloc W o none) (fun r e=>by cases e)
set_option maxHeartbeats 1000000 in
theorem wpIn_rangeX {α:Type} {g:Operand} {ps:Array Tmp} {assign body:Code} {Q:Exit→Act→World→Prop} {a:Act} {w:World}
  {gf:Nat} {lb:Array Value} (hg:a.eval g=.func (.func gf) #[] lb) (eg:∀ args w,(callFunc gf args).run P w=.ok (.enter gf args) w)
  {encs:α→Array Value} {Kp:World→World→Prop} {x:Option Nat} {En Fin Bd:List α→Prop} (hseq:SeqX P gf lb encs Kp x En Fin Bd w)
  (hKt:∀ {A B C:World},Kp A B→Kp B C→Kp A C) (hKb:∀ (W:World) (l:Nat) (o o':Obj),w.heap.size≤l→W.heap[l]? = some o→o.isCells=false→Kp W (W.putObj l o')) (hps:∀ y,(encs y).size=ps.size)
  (I:List α→World→Prop) (Ix:Code→List α→World→Prop) (hI:OwnX w.heap.size x I) (hIx:∀ c,OwnX w.heap.size x (Ix c)) (hN:∀ pre W,I pre W→Bd pre) (h0:I [] w) (a₁:α→Act)
  (hassign:∀ (l:Nat) (y:α) (W:World) (K:Act→World→Prop),K (a₁ y) W→
   assign.wpIn (Fence.wide.inRound l) 0 P (Exit.then K (fun _ _ _=>False)) { tmps:=(ps.zip (encs y)).foldl (fun t (p,v)=>t.setIfInBounds p v) a.tmps,defers:=[] } W)
  (hbody:∀ (l:Nat) (pre:List α) (y:α) (W:World),I pre W→En (pre ++ [y])→body.wpIn (Fence.wide.inRound l) 0 P (ownPostG w.heap.size Kp I Ix (pre ++ [y]) W) (a₁ y) W)
  (hdone:∀ (D:Nat) (xs:List α) (W:World),w.heap.size≤D→Fin xs→I xs W→W.heap[D]? = some (.deferred (some []))→Q .normal { a with defers:={ target:=.collected D,args:=#[] } :: a.defers } W)
  (hstop:∀ (D:Nat) (c:Code) (pre:List α) (W:World),w.heap.size≤D→En pre→Ix c pre W→W.heap[D]? = some (.deferred (some []))→c.wpIn Fence.wide 0 P Q { a with defers:={ target:=.collected D,args:=#[] } :: a.defers } W) :
  (Code.rangeFunc g ps assign body).wpIn Fence.wide 0 P Q a w:=by
 refine wpIn_rangeFunc ?_
 intro fn hfn
 obtain ⟨rec,hrec⟩:∃ rec:LoopState→Option Code→Loop,rec=fun st pe=>{ state:=st,pending:=pe,fn,tmps:=a.tmps,params:=ps,assign,body,defers:=w.heap.size }:=⟨_,rfl⟩
 obtain ⟨W1,hW1⟩:∃ W1,(w.alloc (.deferred (some []))).alloc (.loop (rec .ready none))=W1:=⟨_,rfl⟩
 have hL1:W1.heap[w.heap.size+1]? = some (.loop (rec .ready none)):=by
  rw [← hW1];have:=World.alloc_heap_new (w.alloc (.deferred (some []))) (.loop (rec .ready none));rwa [World.size_alloc] at this
 have hK1:W1.heap[w.heap.size]? = some (.deferred (some [])):=by
  rw [← hW1];exact (Below.heap_alloc _ _ _ (by simp)).trans (World.alloc_heap_new w _)
 have hI1:I [] W1:=by rw [← hW1];exact hI.alloc _ (hI.alloc _ h0)
 have hb1:Below w.heap.size w W1:=by
  rw [← hW1];exact (((Below.refl _ w).alloc (Nat.le_refl _) _).alloc (by simp) _)
 refine ⟨w.heap.size+1,[{ target:=.collected w.heap.size,args:=#[] }],W1,{ target:=.fn (.func gf) lb,args:=#[.func (.yield (w.heap.size+1)) #[] #[]] },W1,gf,
  #[.func (.yield (w.heap.size+1)) #[] #[]] ++ lb,W1,?_,?_,?_,?_,(fun h=>by cases h),?_⟩
 ·rw [← hW1,hrec];exact run_enterLoop_outer _ _ _ _ _
 ·simp only [resolve,hg]
  simp [go_sem]
 ·intro f' _;trivial
 ·simp [invoke,go_sem,eg]
 ·have hkeep:∀ {A B:World} {row:Option Nat} {l:Nat} {o:Obj},A.grownBy B row→(∀ r,row=some r→x=some r∧∃ o:Obj,A.heap[r]? = some o∧o.isCells=true)→A.heap[l]? = some o→o.isCells=false→B.heap[l]? = some o:=
   fun {A B row l o} hg' hr hl ho=>by
    refine (hg'.block l (Array.getElem?_eq_some_iff.1 hl).1 fun e=>?_).trans hl
    obtain ⟨_,o2,ho2,hc⟩:=hr l e.symm
    rw [hl] at ho2;cases ho2;rw [ho] at hc;cases hc
  refine (hseq (w.heap.size+1)
   (fun pre W=>I pre W∧W.heap[w.heap.size+1]? = some (.loop (rec .ready none))∧W.heap[w.heap.size]? = some (.deferred (some [])))
   (fun pre W=>∃ c,Ix c pre W∧W.heap[w.heap.size+1]? = some (.loop (rec .done (some c)))∧W.heap[w.heap.size]? = some (.deferred (some [])))
   W1 hb1
   (fun s A B row hs hg' hr=>⟨hI s A B row hs.1 hg' (fun r e=>.inl (hr r e)),hkeep hg' hr hs.2.1 rfl,hkeep hg' hr hs.2.2 rfl⟩)
   (fun s A B row hs hg' hr=>by
    obtain ⟨c,hc,hl,hk⟩:=hs
    exact ⟨c,hIx c s A B row hc hg' (fun r e=>.inl (hr r e)),hkeep hg' hr hl rfl,hkeep hg' hr hk rfl⟩)
   (fun pre W1 h=>hN pre W1 h.1) ?_ ⟨hI1,hL1,hK1⟩).mono ?_
  ·rintro pre y W ⟨hi,hl,hk⟩ hlen
   have hlt:w.heap.size+1<W.heap.size:=(Array.getElem?_eq_some_iff.1 hl).1
   have hy:=run_yield (P:=P) (args:=encs y) hl (by rw [hrec];exact hps y)
   rw [hrec] at hy
   refine ⟨fn,_,assign,body,hy,roundIn_of_wpIn hfn (hassign _ y W _ ?_)⟩
   clear hy
   refine ⟨_,run_beginRound hl (by rw [hrec]),?_⟩
   have hl2:(W.putObj (w.heap.size+1) (.loop { rec .ready none with state:=.busy })).heap[w.heap.size+1]? = some (.loop { rec .ready none with state:=.busy }):=World.putObj_heap_same hlt
   have hk2:(W.putObj (w.heap.size+1) (.loop { rec .ready none with state:=.busy })).heap[w.heap.size]? = some (.deferred (some [])):=(World.putObj_heap_other (by omega)).trans hk
   have hw2:Kp W (W.putObj (w.heap.size+1) (.loop { rec .ready none with state:=.busy })):=hKb _ _ _ _ (by omega) hl rfl
   refine wpIn_mono (hbody _ pre y _ (hI.putObj _ hi (by omega) hl rfl) hlen) ?_
   have fin:∀ (jump:Option Code) (W3:World),KeepsFrom w.heap.size (W.putObj (w.heap.size+1) (.loop { rec .ready none with state:=.busy })) W3→
     (Instr.endRound (w.heap.size+1) jump).run P W3=.ok (.bool jump.isNone) (W3.putObj (w.heap.size+1) (.loop (rec (if jump.isNone then .ready else .done) jump)))∧
     W3.heap[w.heap.size+1]? = some (.loop { rec .ready none with state:=.busy })∧
     (W3.putObj (w.heap.size+1) (.loop (rec (if jump.isNone then .ready else .done) jump))).heap[w.heap.size+1]? = some (.loop (rec (if jump.isNone then .ready else .done) jump))∧
     (W3.putObj (w.heap.size+1) (.loop (rec (if jump.isNone then .ready else .done) jump))).heap[w.heap.size]? = some (.deferred (some [])):=fun jump W3 hk3=>by
    have hl3:=hk3.same _ _ (by omega) hl2 rfl
    have:=run_endRound (P:=P) jump hl3
    rw [hrec] at this ⊢
    exact ⟨this,by rw [hrec] at hl3;exact hl3,World.putObj_heap_same (Array.getElem?_eq_some_iff.1 hl3).1,(World.putObj_heap_other (by omega)).trans (hk3.same _ _ (Nat.le_refl _) hk2 rfl)⟩
   rintro e a3 W3 hp
   cases e with
   | normal=>
    obtain ⟨hk3,hkp3,hi3⟩:=hp
    obtain ⟨hr,hl3,hl4,hk4⟩:=fin none W3 hk3
    exact ⟨_,_,hr,.inl ⟨rfl,⟨hI.putObj _ hi3 (by omega) hl3 rfl,hl4,hk4⟩,hKt (hKt hw2 hkp3) (hKb _ _ _ _ (by omega) hl3 rfl)⟩⟩
   | ret=>
    obtain ⟨hk3,hi3⟩:=hp
    obtain ⟨hr,hl3,hl4,hk4⟩:=fin (some .ret) W3 hk3
    exact ⟨_,_,hr,.inr ⟨rfl,.ret,(hIx _).putObj _ hi3 (by omega) hl3 rfl,hl4,hk4⟩⟩
   | exit id=>
    obtain ⟨hk3,hi3⟩:=hp
    obtain ⟨hr,hl3,hl4,hk4⟩:=fin (some (.exit id)) W3 hk3
    exact ⟨_,_,hr,.inr ⟨rfl,.exit id,(hIx _).putObj _ hi3 (by omega) hl3 rfl,hl4,hk4⟩⟩
   | goto t=>
    obtain ⟨hk3,hi3⟩:=hp
    obtain ⟨hr,hl3,hl4,hk4⟩:=fin (some (.goto t)) W3 hk3
    exact ⟨_,_,hr,.inr ⟨rfl,.goto t,(hIx _).putObj _ hi3 (by omega) hl3 rfl,hl4,hk4⟩⟩
   | panic ch=>exact hp.elim
   | outgrown=>exact hp.elim
  ·rintro e W2 ⟨⟨v,rfl⟩,(⟨xs,hS,hi,hl,hk⟩|⟨pre,hSp,c,hi,hl,hk⟩)⟩
   ·exact ⟨none,_,by have:=run_endLoop (P:=P) hl (by rw [hrec];simp);rw [hrec] at this;exact this,hdone _ xs _ (Nat.le_refl _) hS (hI.putObj _ hi (by omega) hl rfl) ((World.putObj_heap_other (by omega)).trans hk)⟩
   ·exact ⟨some c,_,by have:=run_endLoop (P:=P) hl (by rw [hrec];simp);rw [hrec] at this;exact this,hstop _ c pre _ (Nat.le_refl _) hSp ((hIx c).putObj _ hi (by omega) hl rfl) ((World.putObj_heap_other (by omega)).trans hk)⟩
def MarksX (B:Nat) (ds:List Deferred) (w:World):Prop:=
 ∃ Ds:List Nat,ds=Ds.map (fun D=>{ target:=.collected D,args:=#[] })∧Ds.Nodup∧∀ D∈Ds,B≤D∧w.heap[D]? = some (.deferred (some []))
theorem MarksX.nil (B:Nat) (w:World):MarksX B [] w:=⟨[],rfl,.nil,by simp⟩
theorem MarksX.cons {B D:Nat} {ds:List Deferred} {w w':World} (h:MarksX B ds w) (hB:B≤D) (hk:KeepsFrom B w w') (hlt:w.heap.size≤D) (hD:w'.heap[D]? = some (.deferred (some []))) :
  MarksX B ({ target:=.collected D,args:=#[] } :: ds) w':=by
 obtain ⟨Ds,rfl,hn,hall⟩:=h
 refine ⟨D :: Ds,rfl,List.nodup_cons.2 ⟨fun hm=>?_,hn⟩,fun D' hD'=>?_⟩
 ·have:=(Array.getElem?_eq_some_iff.1 (hall D hm).2).1;omega
 ·rcases List.mem_cons.1 hD' with rfl|hm
  ·exact ⟨hB,hD⟩
  ·exact ⟨(hall D' hm).1,hk.same _ _ (hall D' hm).1 (hall D' hm).2 rfl⟩
theorem MarksX.keep {B:Nat} {ds:List Deferred} {w w':World} (h:MarksX B ds w) (hk:KeepsFrom B w w'):MarksX B ds w':=by
 obtain ⟨Ds,rfl,hn,hall⟩:=h
 exact ⟨Ds,rfl,hn,fun D hD=>⟨(hall D hD).1,hk.same _ _ (hall D hD).1 (hall D hD).2 rfl⟩⟩
structure ShutX (B:Nat) (w w':World):Prop where
 below:Below B w w'
 cells:∀ (k:Nat) (o:Obj),w.heap[k]? = some o→o.isCells=true→w'.heap[k]? = some o
theorem leaves_marks {B n:Nat} {fn:Func} {tmps:Array Value} {R:Ending→World→Prop}:∀ (ds:List Deferred) (w:World),MarksX B ds w→
  (∀ w',ShutX B w w'→∃ v,(results fn tmps).run P w'=.ok v w'∧R (.returned v) w')→LeavesInM Fence.wide n P fn tmps R ds .returning w:=by
 intro ds
 induction ds with
 | nil=>
  intro w _ h
  exact h w ⟨Below.refl _ _,fun _ _ h _=>h⟩
 | cons d ds ih=>
  intro w hM h
  obtain ⟨Ds,hds,hn,hall⟩:=hM
  cases Ds with
  | nil=>cases hds
  | cons D Ds=>
   simp only [List.map_cons,List.cons.injEq] at hds
   obtain ⟨rfl,rfl⟩:=hds
   have hD:=hall D (by simp)
   have hnd:=List.nodup_cons.1 hn
   refine ⟨by simp,.inl ⟨_,_,rfl,run_takeDeferred hD.2,?_⟩⟩
   have hlt:=(Array.getElem?_eq_some_iff.1 hD.2).1
   refine ih _ ⟨Ds,rfl,hnd.2,fun D' hD'=>⟨(hall D' (by simp [hD'])).1,?_⟩⟩ fun w' hs=>h w' ?_
   ·have hne:D'≠D:=fun e=>hnd.1 (e ▸ hD')
    exact (World.putObj_heap_other (by omega)).trans (hall D' (by simp [hD'])).2
   ·refine ⟨((Below.refl B w).grown (grownBy_putObj' w D (.deferred none)) (by have:=hD.1;omega) (fun k e=>by cases e;exact hD.1)).trans hs.below,fun k o hk ho=>?_⟩
    refine hs.cells k o ?_ ho
    have hne:k≠D:=fun e=>by subst e;rw [hD.2] at hk;cases hk;cases ho
    exact (World.putObj_heap_other (by omega)).trans hk
section
variable {b:Frame} {a:Act} {k:List Item} {cs:List Frame} {w:World} {Q:Exit→Act→World→Prop} {F:Fence} {n:Nat}
theorem stepR_scope {c:Code}:step P (lone (b.atR a (.code (.scope c) :: k)) cs w)=.next (lone (b.atR a (.code c :: .inScope c :: k)) cs w):=
 step_lone_go (by simp [stepG,stepG.exec,Frame.atR])
theorem stepR_inScope {c:Code}:step P (lone (b.atR a (.inScope c :: k)) cs w)=.next (lone (b.atR a k) cs w):=
 step_lone_go (by simp [stepG,stepG.exec,Frame.atR])
theorem wpIn_scope_straight {c:Code} (h:c.wpIn F n P (Exit.noGoto Q) a w):(Code.scope c).wpIn F n P Q a w:=by
 intro b k cs hro hb hr
 have h0:(lone (b.atR a (.code (.scope c) :: k)) cs w).fenced P F:=fenced_calm hb hr rfl
 obtain ⟨e,a₁,w₁,hq,harr⟩:=h b (.inScope c :: k) cs hro hb hr
 cases e with
 | normal=>exact ⟨.normal,a₁,w₁,hq,.head h0 stepR_scope (StepsIn.trans harr (.one (fenced_calm hb hr rfl) stepR_inScope))⟩
 | exit id=>
  have hx:exitTo id (.inScope c :: k)=exitTo id k:=by simp [exitTo]
  exact ⟨.exit id,a₁,w₁,hq,fun k' hk=>.head h0 stepR_scope (harr.1 k' (by rw [hx];exact hk)),
   fun hr' hk=>let ⟨k₁,h1,h2⟩:=harr.2 hr' (by rw [hx];exact hk);⟨k₁,h1,.head h0 stepR_scope h2⟩⟩
 | goto l=>exact hq.elim
 | ret=>exact ⟨_,a₁,w₁,hq,.of_steps (.one h0 stepR_scope) harr⟩
 | panic ch=>exact ⟨_,a₁,w₁,hq,.of_steps (.one h0 stepR_scope) harr⟩
 | outgrown=>exact ⟨_,a₁,w₁,hq,.of_steps (.one h0 stepR_scope) harr⟩
end
end Go
