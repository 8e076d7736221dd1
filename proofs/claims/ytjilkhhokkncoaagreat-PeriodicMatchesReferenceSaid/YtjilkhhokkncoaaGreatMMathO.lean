/- Plain mathematics of Subset and Apart: subsets and differences of sets that repeat. -/
import Derived.Test.YtjilkhhokkncoaaGreatMK15
set_option linter.unusedVariables false
set_option linter.unusedSimpArgs false
namespace Go.Proofs.YtjilkhhokkncoaaGreat
open Kal
theorem full_conv {q:Per} (hq:q.WF) {st:Int} (hs:q.frm≤st) {a g:Int} (ha:1≤a) (hg:g=(Int.gcd a q.period:Nat)) {r:Int} (hall:∀ n,st≤n→(n-st) % a=r % a→q.mem n) :
  fullB (isort (cycL q st)) g q.period r=true:=by
 have hp:=hq.per
 have hg1:1≤g:=by rw [hg];exact (gcd_bound ha).1
 have hga:g∣a:=by rw [hg];exact Int.gcd_dvd_left _ _
 have hgb:g∣q.period:=by rw [hg];exact Int.gcd_dvd_right _ _
 refine decide_eq_true ((class_full hp hg1 hgb (res_rise hq hs) (Int.emod_nonneg r (by omega)) (Int.emod_lt_of_pos r (by omega))).2 fun y h0 h1 h2=>?_)
 obtain ⟨s1,s2,s3,s4⟩:=isSol_exists (x:=r) (y:=y) ha hp (by rw [← hg,h2])
 have hm:=hall (st+solveI r a y q.period) (by omega) (by rw [show st+solveI r a y q.period-st=solveI r a y q.period from by omega];exact s3)
 have h3:=(res_iff hq hs (res_mem hq hs) (show st≤st+solveI r a y q.period by omega)).2 hm
 rw [show st+solveI r a y q.period-st=solveI r a y q.period from by omega,s4,Int.emod_eq_of_lt h0 h1] at h3
 exact h3
theorem late_res {A:Per} (hA:A.WF) {st:Int} (hs:A.frm≤st) {n:Int} (hn:st≤n):A.mem n↔(n-st) % A.period∈isort (cycL A st):=(res_iff hA hs (res_mem hA hs) hn).symm
theorem full_all {A B:Per} (hA:A.WF) (hB:B.WF) {st g:Int} (hs1:A.frm≤st) (hs2:B.frm≤st) (hg:g=(Int.gcd A.period B.period:Nat)) {r:Int} (hr:r∈isort (cycL A st)) :
  fullB (isort (cycL B st)) g B.period r=true↔∀ n,st≤n→(n-st) % A.period=r→B.mem n:=by
 have hp:=hA.per
 have hg1:1≤g:=by rw [hg];exact (gcd_bound hp).1
 have hga:g∣A.period:=by rw [hg];exact Int.gcd_dvd_left _ _
 have hgb:g∣B.period:=by rw [hg];exact Int.gcd_dvd_right _ _
 have hb:=(res_mem hA hs1 r).1 hr
 have hre:r % A.period=r:=Int.emod_eq_of_lt hb.1 hb.2.1
 constructor
 ·intro hf n hn hmod
  exact full_iff hB hs2 hg1 hgb hf hn (by rw [← hmod,Int.emod_emod_of_dvd _ hga])
 ·intro h
  exact full_conv hB hs2 hp hg fun n hn hm=>h n hn (by rw [hm,hre])
theorem sel_and_len {S T:Int→Prop} {lo hi:Int} (h0:0≤lo):(sel (fun n=>S n∧T n) lo hi).length=(sel S lo hi).length↔∀ n,lo≤n→n<hi→S n→T n:=by
 classical
 constructor
 ·intro h
  have hsub:(sel (fun n=>S n∧T n) lo hi).Sublist (sel S lo hi):=by
   have e:sel (fun n=>S n∧T n) lo hi=(sel S lo hi).filter (fun n=>decide (T n)):=by
    refine (sel_rise h0).ext ((sel_rise (S:=S) (hi:=hi) h0).filter _) fun x=>?_
    rw [List.mem_filter,sel_mem h0,sel_mem h0,decide_eq_true_eq]
    exact ⟨fun ⟨a,b,c,d⟩=>⟨⟨a,b,c⟩,d⟩,fun ⟨⟨a,b,c⟩,d⟩=>⟨a,b,c,d⟩⟩
   rw [e];exact List.filter_sublist
  have e:=hsub.eq_of_length h
  intro n h1 h2 h3
  have h4:n∈sel S lo hi:=(sel_mem h0 n).2 ⟨h1,h2,h3⟩
  rw [← e] at h4
  exact ((sel_mem h0 n).1 h4).2.2.2
 ·intro h
  congr 1
  refine (sel_rise h0).ext (sel_rise h0) fun x=>?_
  rw [sel_mem h0,sel_mem h0]
  exact ⟨fun ⟨a,b,c⟩=>⟨a,b,c.1⟩,fun ⟨a,b,c⟩=>⟨a,b,c,h x a b c⟩⟩
theorem sub_iff {A B:Per} (hA:A.WF) (hB:B.WF) {st g:Int} (hs1:A.frm≤st) (hs2:B.frm≤st) (hg:g=(Int.gcd A.period B.period:Nat)) :
  (∀ n,A.mem n→B.mem n)↔(∀ n,0≤n→n<st→A.mem n→B.mem n)∧(isort (cycL A st)).all (fun r=>fullB (isort (cycL B st)) g B.period r)=true:=by
 rw [List.all_eq_true]
 constructor
 ·intro h
  refine ⟨fun n _ _=>h n,fun r hr=>(full_all hA hB hs1 hs2 hg hr).2 fun n hn hm=>h n ((late_res hA hs1 hn).2 (by rw [hm];exact hr))⟩
 ·rintro ⟨h1,h2⟩ n hn
  by_cases hns:n<st
  ·exact h1 n hn.1 hns hn
  ·have hr:=(late_res hA hs1 (show st≤n by omega)).1 hn
   exact (full_all hA hB hs1 hs2 hg hr).1 (h2 _ hr) n (by omega) rfl
end Go.Proofs.YtjilkhhokkncoaaGreat
