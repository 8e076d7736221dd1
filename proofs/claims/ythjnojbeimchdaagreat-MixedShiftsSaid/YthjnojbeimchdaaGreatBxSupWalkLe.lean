/- What a law needs beside the base. -/
import Derived.Test.YthjnojbeimchdaaGreatB12
set_option linter.unusedVariables false
set_option linter.unusedSimpArgs false
namespace Go.Proofs.YthjnojbeimchdaaGreat
open Go.RowKit Go.Maps Kal
theorem MadeM.mv {m:List (List Per)} (h:MadeM m):MV 0 m:=⟨(validM_of h.vt).2 ⟨by have:=h.len;omega,fun t ht=>by have:=h.tlen t ht;omega⟩,h.vt⟩
end Go.Proofs.YthjnojbeimchdaaGreat
namespace Go.Proofs.YthjnojbeimchdaaGreat
open Go.RowKit Go.Maps Kal
theorem mem_mod {p:Per} (h:p.WF) {x y:Int} (hx:p.frm≤x) (hy:p.frm≤y) (hd:p.period∣x-y):p.mem x↔p.mem y:=by
 rw [mem_resP h hx,mem_resP h hy,emod_of_dvd_sub hd]
theorem tmem_mod {t:List Per} (h:∀ p∈t,MFac p) {x y:Int} (hx:8≤x) (hy:8≤y) (hd:(27720:Int)∣x-y):tmem t x↔tmem t y:=by
 have key:∀ {x y:Int},8≤x→8≤y→(27720:Int)∣x-y→tmem t x→tmem t y:=fun hx hy hd hm p hp=>by
  have hf:=h p hp
  have:=hf.frm
  exact (mem_mod hf.wf (by omega) (by omega) (Int.dvd_trans hf.dvd hd)).1 (hm p hp)
 exact ⟨key hx hy hd,key hy hx (by obtain ⟨k,hk⟩:=hd;exact ⟨-k,by omega⟩)⟩
theorem made_mod {m:List (List Per)} (h:∀ t∈m,∀ p∈t,MFac p) {x y:Int} (hx:8≤x) (hy:8≤y) (hd:(27720:Int)∣x-y):mmem m x↔mmem m y:=
 ⟨fun ⟨t,ht,hm⟩=>⟨t,ht,(tmem_mod (h t ht) hx hy hd).1 hm⟩,fun ⟨t,ht,hm⟩=>⟨t,ht,(tmem_mod (h t ht) hx hy hd).2 hm⟩⟩
theorem next_near {m:List (List Per)} (h:∀ t∈m,∀ p∈t,MFac p) {f n:Int} (h0:0≤f) (hn:NextF FarI (mmem m) f n true):f≤n∧n<f+28000∧mmem m n∧∀ x,f≤x→x<n→¬ mmem m x:=by
 rcases hn with ⟨_,h1,h2,h3,h4⟩|⟨h,_⟩
 ·refine ⟨h1,?_,h3,h4⟩
  rcases Int.lt_or_le n (f+28000) with h5|h5
  ·exact h5
  ·exact absurd ((made_mod h (by omega) (by omega) ⟨1,by omega⟩).1 h3) (h4 (n-27720) (by omega) (by omega))
 ·cases h
theorem next_none {m:List (List Per)} {f n:Int} (hn:NextF FarI (mmem m) f n false):∀ x,f≤x→x≤1152921504606846976→¬ mmem m x:=by
 rcases hn with ⟨h,_⟩|⟨_,_,h⟩
 ·cases h
 ·exact h
theorem barren_no {m:List (List Per)} (h:∀ t∈m,barrenT t) (x:Int):¬ mmem m x:=fun ⟨t,ht,hx⟩=>h t ht x hx
end Go.Proofs.YthjnojbeimchdaaGreat
namespace Go
open Go.RowKit
section
variable {P:Program} {ops:Array Oper} {Q:Exit→Act→World→Prop} {md:Region.Mode}
variable {w0:World} {ph tl:List Nat} {fr:(Nat→Value)→Act} {F:Nat→(Nat→Value)→(Nat→Nat)→(Nat→Nat)→World→Prop} {S:World→Prop}
def StepS (P:Program) (md:Region.Mode) (ops:Array Oper) (Q:Exit→Act→World→Prop) (w0:World) (fr:(Nat→Value)→Act) (F:Nat→(Nat→Value)→(Nat→Nat)→(Nat→Nat)→World→Prop) (S:World→Prop) (k:Nat) (o:Oper):Prop:=
 ∀ (v:Nat→Value) (lo hi:Nat→Nat) (W:World),Below w0.heap.size w0 W→S W→(∀ j∈Region.deps md ops k,lo j≤hi j∧hi j≤W.heap.size∧F j v lo hi W)→
  (Region.wanted o (yielded ops (fr v).tmps)=true∧
  ∀ K:Act→World→Prop,(∀ x W',Below W.heap.size W W'→F k (fun j=>if j=k then x else v j) (fun j=>if j=k then W.heap.size else lo j) (fun j=>if j=k then W'.heap.size else hi j) W'→K (fr (fun j=>if j=k then x else v j)) W')→Oper.wp P o (fr v) W K Q) ∨
  (Region.wanted o (yielded ops (fr v).tmps)=false∧
  ∀ K:Act→World→Prop,(∀ x W',Below W.heap.size W W'→F k (fun j=>if j=k then x else v j) (fun j=>if j=k then W.heap.size else lo j) (fun j=>if j=k then W'.heap.size else hi j) W'→K (fr (fun j=>if j=k then x else v j)) W')→K ((fr v).put o.dst undef) W)
def StepsS (P:Program) (md:Region.Mode) (ops:Array Oper) (Q:Exit→Act→World→Prop) (w0:World) (fr:(Nat→Value)→Act) (F:Nat→(Nat→Value)→(Nat→Nat)→(Nat→Nat)→World→Prop) (S:World→Prop):List Nat→Prop
 | []=>True
 | k :: r=>(∀ o,ops[k]? = some o→StepS P md ops Q w0 fr F S k o)∧StepsS P md ops Q w0 fr F S r
theorem StepsS.cons {k:Nat} {o:Oper} {r:List Nat} (e:ops[k]? = some o) (h:StepS P md ops Q w0 fr F S k o) (t:StepsS P md ops Q w0 fr F S r):StepsS P md ops Q w0 fr F S (k :: r):=⟨fun o' e'=>by rw [e] at e';cases e';exact h,t⟩
theorem StepsS.nil:StepsS P md ops Q w0 fr F S []:=trivial
theorem StepsS.get:∀ {l:List Nat},StepsS P md ops Q w0 fr F S l→∀ i∈l,∀ o,ops[i]? = some o→StepS P md ops Q w0 fr F S i o:=by
 intro l
 induction l with
 | nil=>intro _ i hi;simp at hi
 | cons k l ih=>
  intro h i hi
  rcases List.mem_cons.1 hi with rfl|hi
  ·exact h.1
  ·exact ih h.2 i hi
end
end Go
namespace Go.Proofs.YthjnojbeimchdaaGreat
open Go.RowKit Go.Maps Kal
theorem lcm_near {a p:Int} (ha:1≤a) (had:a∣27720) (hp:1≤p) (hpd:p∣27720):lcmV a p=.tuple #[.int .i64 (lcmI a p),.int .i64 0]∧1≤lcmI a p∧lcmI a p∣27720:=by
 have h1:=lcmI_pos ha hp
 have h2:=lcmI_dvd ha hp had hpd
 have h3:=Int.le_of_dvd (by decide) h2
 exact ⟨by unfold lcmV;rw [if_pos (by omega)],h1,h2⟩
structure CmA (m:List (List Per)) (T:List Per) (i k:Nat) (c:Int):Prop where
 pos:1≤c
 dvd:c∣27720
 all:∀ j,j<i→∀ p∈m.getD j [],p.period∣c
 cur:∀ j,j<k→(T.getD j default).period∣c
theorem CmA.nil {m:List (List Per)}:CmA m [] 0 0 1:=⟨by omega,⟨27720,by omega⟩,fun j hj=>by omega,fun j hj=>by omega⟩
theorem CmA.turn {m:List (List Per)} {T U:List Per} {i:Nat} {c:Int} (h:CmA m T i 0 c):CmA m U i 0 c:=⟨h.pos,h.dvd,h.all,fun j hj=>by omega⟩
theorem CmA.le {m:List (List Per)} {T:List Per} {i k:Nat} {c:Int} (h:CmA m T i k c):c≤27720:=Int.le_of_dvd (by decide) h.dvd
theorem CmA.next {m:List (List Per)} {T:List Per} {i k:Nat} {c pr:Int} (h:CmA m T i k c) (hp:(T.getD k default).period=pr) (h1:1≤pr) (h2:pr∣27720):CmA m T i (k+1) (lcmI c pr):=by
 obtain ⟨_,h3,h4⟩:=lcm_near h.pos h.dvd h1 h2
 refine ⟨h3,h4,fun j hj p hm=>Int.dvd_trans (h.all j hj p hm) lcmI_dvd_left,fun j hj=>?_⟩
 rcases Nat.lt_or_ge j k with h5|h5
 ·exact Int.dvd_trans (h.cur j h5) lcmI_dvd_left
 ·obtain rfl:j=k:=by omega
  rw [hp];exact lcmI_dvd_right
theorem CmA.shut {m:List (List Per)} {T:List Per} {i k:Nat} {c:Int} (h:CmA m T i k c) (hT:m.getD i []=T) (hk:T.length≤k):CmA m [] (i+1) 0 c:=by
 refine ⟨h.pos,h.dvd,fun j hj p hp=>?_,fun j hj=>by omega⟩
 rcases Nat.lt_or_ge j i with h5|h5
 ·exact h.all j h5 p hp
 ·obtain rfl:j=i:=by omega
  rw [hT] at hp
  obtain ⟨n,hn,rfl⟩:=List.getElem_of_mem hp
  have h6:=h.cur n (by omega)
  rwa [List.getD_eq_getElem?_getD,List.getElem?_eq_getElem hn] at h6
theorem CmA.done {m:List (List Per)} {T:List Per} {i k:Nat} {c:Int} (h:CmA m T i k c) (hi:m.length≤i):∀ t∈m,∀ p∈t,p.period∣c:=fun t ht p hp=>by
 obtain ⟨n,hn,rfl⟩:=List.getElem_of_mem ht
 refine h.all n (by omega) p ?_
 rw [List.getD_eq_getElem?_getD,List.getElem?_eq_getElem hn];exact hp
end Go.Proofs.YthjnojbeimchdaaGreat
namespace Go.Proofs.YthjnojbeimchdaaGreat
open Go.ChangeShapes Go.WideShapes Go.ChangeAt Go.RowKit Go.Joins Kal
theorem liftOwn:ownKnob Tryz.prog.godebug=none:=by kernel_rfl
theorem liftLaid:laidOutB Tryz.prog=true:=by kernel_rfl
section
variable {H:Type} {enc:TypeId × Value→H} {w:World} {base:Nat} {spare:Nat→Bool} {held:Bool}
end
end Go.Proofs.YthjnojbeimchdaaGreat
