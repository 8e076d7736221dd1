/- Plain mathematics of Apart: the search for the least day that exactly one of two sets has. -/
import Derived.Test.YtjilkhhokkncoaaGreatMMathO
set_option linter.unusedVariables false
set_option linter.unusedSimpArgs false
namespace Go.Proofs.YtjilkhhokkncoaaGreat
open Kal
def ApartIs (S T:Int→Prop) (n:Int) (b:Bool):Prop:=(b=true∧0≤n∧¬ (S n↔T n)∧∀ x,0≤x→x<n→(S x↔T x))∨(b=false∧n=0∧∀ x,0≤x→(S x↔T x))
theorem ApartIs.unique {S T:Int→Prop} {n m:Int} {b c:Bool} (h:ApartIs S T n b) (g:ApartIs S T m c):n=m∧b=c:=by
 rcases h with ⟨rfl,h1,h2,h3⟩|⟨rfl,rfl,h1⟩ <;> rcases g with ⟨rfl,g1,g2,g3⟩|⟨rfl,rfl,g1⟩
 ·refine ⟨?_,rfl⟩
  rcases Int.lt_trichotomy n m with h|h|h
  ·exact absurd (g3 n h1 h) h2
  ·exact h
  ·exact absurd (h3 m g1 h) g2
 ·exact absurd (g1 n h1) h2
 ·exact absurd (h1 m g1) g2
 ·exact ⟨rfl,rfl⟩
def BestOk (D:Int→Prop) (st M b:Int):Prop:=b=-1∨(st≤b∧b≤M∧D b)
def Cov (st:Int) (P B:Int→Prop) (b:Int):Prop:=∀ n,st≤n→(b=-1∨n<b)→P n→B n
def Less (b b':Int):Prop:=b'=b∨(0≤b'∧(b=-1∨b'<b))
theorem Less.refl (b:Int):Less b b:=.inl rfl
theorem Less.trans {a b c:Int} (h:Less a b) (g:Less b c):Less a c:=by
 unfold Less at *;omega
theorem Cov.mono {st:Int} {P B:Int→Prop} {b b':Int} (h:Cov st P B b) (hb:Less b b'):Cov st P B b':=fun n h1 h2 h3=>h n h1 (by unfold Less at hb;omega) h3
theorem Cov.congr {st:Int} {P P' B:Int→Prop} {b:Int} (h:Cov st P B b) (hp:∀ n,st≤n→P' n→P n):Cov st P' B b:=fun n h1 h2 h3=>h n h1 h2 (hp n h1 h3)
def InX (B:Int→Prop) (st x P:Int) (j:Nat) (b:Int):Prop:=∀ i:Int,0≤i→i<j→(b=-1∨st+x+i*P<b)→B (st+x+i*P)
theorem InX.zero {B:Int→Prop} {st x P b:Int}:InX B st x P 0 b:=fun i h0 h1=>by omega
theorem InX.has {B:Int→Prop} {st x P b:Int} {j:Nat} (h:InX B st x P j b) (hm:B (st+x+j*P)):InX B st x P (j+1) b:=fun i h0 h1 h2=>by
 by_cases e:i=j
 ·rw [e];exact hm
 ·exact h i h0 (by omega) h2
theorem mul_step {i j P:Int} (hP:1≤P) (h:i<j):i*P+P≤j*P:=by
 have:=Int.mul_le_mul_of_nonneg_right (show i+1≤j by omega) (show 0≤P by omega)
 rw [Int.add_mul] at this;omega
theorem InX.not {B:Int→Prop} {st x P b:Int} {j:Nat} (hP:1≤P) (h0:0≤st+x) (h:InX B st x P j b) (hg:b=-1∨st+x+j*P<b):InX B st x P (j+1) (st+x+j*P):=fun i h0 h1 h2=>by
 have hj:0≤(j:Int)*P:=Int.mul_nonneg (by omega) (by omega)
 by_cases e:i<j
 ·have:=mul_step hP e
  exact h i h0 e (by omega)
 ·obtain rfl:i=j:=by omega
  omega
theorem InX.done {B:Int→Prop} {st x P b:Int} {j:Nat} (hP:1≤P) (h:InX B st x P j b) (h0:0≤b) (hn:b≤st+x+j*P):Cov st (fun n=>(n-st) % P=x) B b:=fun n h1 h2 h3=>by
 have e:=Int.emod_add_mul_ediv (n-st) P
 have hq:0≤(n-st) / P:=Int.ediv_nonneg (by omega) (by omega)
 generalize (n-st) / P=q at *
 replace h3:(n-st) % P=x:=h3
 rw [h3,Int.mul_comm] at e
 have e2:n=st+x+q*P:=by omega
 rw [e2]
 refine h q hq ?_ (.inr (by omega))
 rcases Int.lt_or_le q j with h5|h5
 ·exact h5
 ·have:=Int.mul_le_mul_of_nonneg_right h5 (show 0≤P by omega)
  omega
theorem InX.lt {B:Int→Prop} {st x P Q j0:Int} {j:Nat} (hP:1≤P) (hx:x<P) (h:InX B st x P j (-1)) (h0:0≤j0) (h1:j0<Q) (hn:¬ B (st+x+j0*P)):st+x+j*P<st+Q*P:=by
 have hj:(j:Int)≤j0:=by
  rcases Int.lt_or_le j0 j with h5|h5
  ·exact absurd (h j0 h0 h5 (.inl rfl)) hn
  ·exact h5
 have a1:=Int.mul_le_mul_of_nonneg_right hj (show 0≤P by omega)
 have a2:=mul_step hP h1
 omega
theorem day_res {st x P:Int} (j:Nat) (h0:0≤x) (h1:x<P):(st+x+j*P-st) % P=x:=by
 rw [show st+x+(j:Int)*P-st=x+j*P from by omega,Int.add_mul_emod_self_right,Int.emod_eq_of_lt h0 h1]
theorem not_full {A B:Per} (hA:A.WF) (hB:B.WF) {st g:Int} (hs1:A.frm≤st) (hs2:B.frm≤st) (hg:g=(Int.gcd A.period B.period:Nat)) {x:Int} (hx:x∈isort (cycL A st)) (hf:fullB (isort (cycL B st)) g B.period x=false) :
  ∃ j0:Int,0≤j0∧j0<B.period∧¬ B.mem (st+x+j0*A.period):=by
 have hb:=(res_mem hA hs1 x).1 hx
 have hp:=hA.per
 have hq:=hB.per
 refine Classical.byContradiction fun hno=>?_
 have hall:∀ j0:Int,0≤j0→j0<B.period→B.mem (st+x+j0*A.period):=fun j0 h0 h1=>Classical.byContradiction fun h2=>hno ⟨j0,h0,h1,h2⟩
 have:=(full_all hA hB hs1 hs2 hg hx).2 fun n hn hm=>by
  have e:=Int.emod_add_mul_ediv (n-st) A.period
  have hqq:0≤(n-st) / A.period:=Int.ediv_nonneg (by omega) (by omega)
  generalize (n-st) / A.period=q at *
  rw [hm,Int.mul_comm] at e
  have e2:n=st+x+q*A.period:=by omega
  have h3:=hall (q % B.period) (Int.emod_nonneg q (by omega)) (Int.emod_lt_of_pos q (by omega))
  have e4:=Int.emod_add_mul_ediv q B.period
  have hk:0≤q / B.period:=Int.ediv_nonneg hqq (by omega)
  have h5:=(hB.pfrom.mono hs2).shift hq hn
  have h6:=(hB.pfrom.mono hs2).shift hq (n:=st+x+q % B.period*A.period) (by have:=Int.mul_nonneg (Int.emod_nonneg q (show B.period≠0 by omega)) (show 0≤A.period by omega);omega)
  rw [h5];rw [h6] at h3
  have e7:(n-st) % B.period=(st+x+q % B.period*A.period-st) % B.period:=by
   rw [e2,show st+x+q*A.period-st=x+q*A.period from by omega,show st+x+q % B.period*A.period-st=x+q % B.period*A.period from by omega]
   conv=>lhs;rw [← e4,Int.add_mul,Int.mul_assoc,Int.mul_comm B.period,← Int.add_assoc,Int.mul_assoc]
   rw [show x+q % B.period*A.period+q / B.period*(A.period*B.period)=x+q % B.period*A.period+q / B.period*A.period*B.period from by rw [Int.mul_assoc],Int.add_mul_emod_self_right]
  rw [e7];exact h3
 rw [this] at hf;cases hf
theorem cov_step {st P:Int} {B:Int→Prop} {b:Int} {xs:List Int} {k:Nat} (hk:k<xs.length) (h:Cov st (fun n=>(n-st) % P∈xs.take k) B b) (g:Cov st (fun n=>(n-st) % P=xs.getD k 0) B b):Cov st (fun n=>(n-st) % P∈xs.take (k+1)) B b:=fun n h1 h2 h3=>by
 rw [List.take_succ_eq_append_getElem hk,List.mem_append,List.mem_singleton] at h3
 rcases h3 with h3|h3
 ·exact h n h1 h2 h3
 ·exact g n h1 h2 (by rw [List.getD_eq_getElem?_getD,List.getElem?_eq_getElem hk];exact h3)
theorem cov_all {A:Per} (hA:A.WF) {st:Int} (hs:A.frm≤st) {B:Int→Prop} {b:Int} (h:Cov st (fun n=>(n-st) % A.period∈isort (cycL A st)) B b):Cov st A.mem B b:=h.congr fun n hn hm=>(late_res hA hs hn).1 hm
theorem apart_done {S T:Int→Prop} {st M b:Int} (hs:0≤st) (pre:∀ x,0≤x→x<st→(S x↔T x)) (c1:Cov st S T b) (c2:Cov st T S b) (hb:BestOk (fun n=>¬ (S n↔T n)) st M b) (hne:∃ n,0≤n∧¬ (S n↔T n)):ApartIs S T b true:=by
 have hall:∀ x,0≤x→(b=-1∨x<b)→(S x↔T x):=fun x h0 h1=>by
  by_cases h:x<st
  ·exact pre x h0 h
  ·exact ⟨c1 x (by omega) h1,c2 x (by omega) h1⟩
 rcases hb with rfl|⟨h1,_,h2⟩
 ·obtain ⟨n,h0,h1⟩:=hne
  exact absurd (hall n h0 (.inl rfl)) h1
 ·exact .inl ⟨rfl,by omega,h2,fun x h0 h3=>hall x h0 (.inr h3)⟩
end Go.Proofs.YtjilkhhokkncoaaGreat
