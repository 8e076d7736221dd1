/- Contracts of Apart, Subset, Same, Empty over small sets. -/
import Derived.Test.YtjilkhhokkncoaaGreatMWalkAr
import Derived.Test.YtjilkhhokkncoaaGreatMWalkSb
import Derived.Test.YtjilkhhokkncoaaGreatMMathQ
set_option linter.unusedVariables false
set_option linter.unusedSimpArgs false
namespace Go.Proofs.YtjilkhhokkncoaaGreat
open Go.RowKit Go.Maps Kal
theorem apart_ex {F A B:Int} {x y:Per} (s1:Sm F A x) (s2:Sm F B y) (hd:∃ n,0≤n∧¬ (x.mem n↔y.mem n)):∃ n,ApartIs x.mem y.mem n true∧n<F+A*B:=by
 have a1:=s1.wf.per
 have b1:=s2.wf.per
 have hF:0≤F:=by have:=s1.wf.frm;have:=s1.frm;omega
 have hl:=lcmI_pos a1 b1
 have hle:=lcm_le a1 b1 s1.per s2.per
 have hp:PFrom (fun n=>¬ (x.mem n↔y.mem n)) F (lcmI x.period y.period):=(s1.pf.of_dvd a1 hl lcmI_dvd_left).op (s2.pf.of_dvd b1 hl lcmI_dvd_right) (fun a b=>¬ (a↔b)) (fun n _=>Iff.rfl) (by omega)
 obtain ⟨n,h1,h2,h3,h4⟩:=nxt_ex (fun n=>¬ (x.mem n↔y.mem n)) (d:=0) (lim:=max F 0+lcmI x.period y.period) (by omega)
 by_cases hn:n<max F 0+lcmI x.period y.period
 ·exact ⟨n,.inl ⟨rfl,h1,h3 hn,fun z hz1 hz2=>Classical.byContradiction fun h=>h4 z hz1 hz2 h⟩,by omega⟩
 ·exfalso
  obtain ⟨m,hm0,hm⟩:=hd
  refine sel_none (U:=fun n=>¬ (x.mem n↔y.mem n)) (Int.le_refl 0) hl hp ?_ m hm0 hm
  cases hs:sel (fun n=>¬ (x.mem n↔y.mem n)) 0 (max F 0+lcmI x.period y.period) with
  | nil=>rfl
  | cons z l=>
   have hz:=(sel_mem (Int.le_refl 0) z).1 (show z∈sel (fun n=>¬ (x.mem n↔y.mem n)) 0 (max F 0+lcmI x.period y.period) by rw [hs];simp)
   exact absurd hz.2.2 (h4 z hz.1 (by omega))
theorem ApartIs.congr {S T S' T':Int→Prop} {n:Int} {b:Bool} (h:ApartIs S T n b) (h1:∀ n,S' n↔S n) (h2:∀ n,T' n↔T n):ApartIs S' T' n b:=by
 rcases h with ⟨rfl,g1,g2,g3⟩|⟨rfl,rfl,g1⟩
 ·exact .inl ⟨rfl,g1,by rw [h1,h2];exact g2,fun x a c=>by rw [h1,h2];exact g3 x a c⟩
 ·exact .inr ⟨rfl,rfl,fun x a=>by rw [h1,h2];exact g1 x a⟩
theorem apart_same_iff {x y cx cy:Per} {n:Int} {ok:Bool} (q1:IsCanon cx x.mem) (q2:IsCanon cy y.mem) (h:ApartIs x.mem y.mem n ok):sameB cx cy=!ok:=by
 rw [Bool.eq_iff_iff,sameB_iff]
 rcases h with ⟨rfl,g1,g2,g3⟩|⟨rfl,rfl,g1⟩
 ·refine ⟨fun e=>absurd ?_ g2,fun e=>by cases e⟩
  rw [← q1.mem,← q2.mem,e]
 ·refine ⟨fun _=>rfl,fun _=>?_⟩
  refine (q1.congr fun n=>⟨fun h=>(g1 n h.1).1 h,fun h=>(g1 n h.1).2 h⟩).unique q2
theorem apart_sm (h1 c1 h2 c2:Value) (x y cx cy:Per) (n:Int) (ok:Bool) (w:World) (hp1:PerIs w h1 c1 x) (hp2:PerIs w h2 c2 y) (s1:Sm 20 12 x) (s2:Sm 20 12 y) (q1:IsCanon cx x.mem) (q2:IsCanon cy y.mem) (h:ApartIs x.mem y.mem n ok) :
  Calls Tryz.prog 32 #[perV h1 c1 x.frm x.period,perV h2 c2 y.frm y.period] w fun e w'=>e=.returned (.tuple #[.int .i64 n,.bool ok])∧Below w.heap.size w w':=by
 have hs:=apart_same_iff q1 q2 h
 have k1:=(canon_of_sm s1 q1).per
 have k2:=(canon_of_sm s2 q2).per
 cases ok with
 | false=>
  have hn:n=0:=by
   rcases h with ⟨g,_⟩|⟨_,g,_⟩
   ·cases g
   ·exact g
  rw [hn]
  exact apart_same h1 c1 h2 c2 x y cx cy w hp1 hp2 (s1.valid (by omega)) (s2.valid (by omega)) q1 q2 hs
 | true=>exact apart_diff h1 c1 h2 c2 x y cx cy n w hp1 hp2 (s1.valid (by omega)) (s2.valid (by omega)) q1 q2 (by omega) (by omega) hs (h.congr q1.mem q2.mem)
theorem subset_sm (h1 c1 h2 c2:Value) (x y cx cy:Per) (b:Bool) (w:World) (hp1:PerIs w h1 c1 x) (hp2:PerIs w h2 c2 y) (s1:Sm 20 12 x) (s2:Sm 20 12 y) (q1:IsCanon cx x.mem) (q2:IsCanon cy y.mem) (hb:b=true↔∀ n,x.mem n→y.mem n) :
  Calls Tryz.prog 34 #[perV h1 c1 x.frm x.period,perV h2 c2 y.frm y.period] w fun e w'=>e=.returned (.bool b)∧Below w.heap.size w w':=by
 have t1:=canon_of_sm s1 q1
 have t2:=canon_of_sm s2 q2
 have f1:=t1.frm;have f2:=t2.frm
 have z1:=t1.wf.frm
 refine subset_ok h1 c1 h2 c2 x y cx cy b w hp1 hp2 (s1.valid (by omega)) (s2.valid (by omega)) q1 q2 ?_ hb
 have:=belowI_bound t1.wf (n:=max (max cx.frm cy.frm) 0) (by omega)
 omega
end Go.Proofs.YtjilkhhokkncoaaGreat
