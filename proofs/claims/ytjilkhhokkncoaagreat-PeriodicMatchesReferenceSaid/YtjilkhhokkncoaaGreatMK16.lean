/- The arguments of the laws, opened. -/
import Derived.Test.YtjilkhhokkncoaaGreatRows
import Derived.Test.YtjilkhhokkncoaaGreatMK15
import Derived.WalkKit
import Derived.ProofKit
import Derived.OpenShut
import Derived.ShutString
import Derived.ChangeOld
import Derived.Below
import Derived.Lib.SmallJoins
set_option linter.unusedVariables false
set_option linter.unusedSimpArgs false
/- The arguments of the laws: a struct Raw that reads as data is opened; what the rows ask beside the walk. -/
namespace Go.Proofs.YtjilkhhokkncoaaGreat
open Go.ChangeShapes Go.WideShapes Go.ChangeAt Go.RowKit Go.Joins Kal
theorem liftOwn:ownKnob Tryz.prog.godebug=none:=by kernel_rfl
theorem liftLaid:laidOutB Tryz.prog=true:=by kernel_rfl
section
variable {H:Type} {enc:TypeId × Value→H} {w:World} {base:Nat} {spare:Nat→Bool} {held:Bool}
theorem bytes_of {n:Nat} {v:Value} {y:DataW H × List MemPlace} (h:DataW.trod enc Tryz.prog w base spare held n 38 [v]=some y):∃ l,Bytes w v l:=by
 rcases open_ints Tryz.underlying38 Tryz.underlying5 (by kernel_rfl) h with ⟨hcs,_⟩|⟨a,len,cap,zs,hcs,_,hl,hm,hz,_,hcell,hwz⟩
 ·simp at hcs
  subst hcs
  exact ⟨[],⟨none,0,rfl,.inl rfl⟩,by simp,by simp⟩
 ·simp at hcs
  subst hcs
  have hlz:len≤zs.length:=by rw [hz];split <;> omega
  have hlen:(zs.take len).length=len:=by rw [List.length_take];omega
  refine ⟨zs.take len,⟨some a,cap,by rw [hlen],?_⟩,?_,?_⟩
  ·by_cases h0:len=0
   ·exact .inl (by rw [h0];rfl)
   ·refine .inr ?_
    obtain ⟨b,off,spot⟩:=a
    have hc:=hcell 0 (by omega)
    have hspot:spot=none:=by simpa [Addr.add] using World.cell?_spot hc
    subst hspot
    refine ⟨b,off,rfl,fun i hi=>?_⟩
    rw [hlen] at hi
    have h9:=hcell i (by omega)
    have e:(zs.take len).getD i 0=zs.getD i 0:=by
     rw [List.getD_eq_getElem?_getD,List.getD_eq_getElem?_getD,List.getElem?_take_of_lt hi]
    rw [e]
    have e2:(⟨b,off,none⟩:Addr).add i=⟨b,off+i,none⟩:=by
     rcases Nat.eq_zero_or_pos i with h|h
     ·subst h;simp [Addr.add]
     ·simp [Addr.add];omega
    rwa [e2] at h9
  ·rw [hlen];unfold maxLen at hm;omega
  ·intro x hx
   exact bounds_u8 (hwz x (List.mem_of_mem_take hx))
theorem int_of {n:Nat} {t:TypeId} {k:IntKind} {v:Value} {y:DataW H × List MemPlace} (ht:Tryz.prog.underlying t=some (.int k)) (h:DataW.trod enc Tryz.prog w base spare held n t [v]=some y):∃ m,v=.int k m∧(Lit.int k m).wf=true:=by
 obtain ⟨m,hcs,_,hw⟩:=DataW.trod_int ht h
 simp at hcs
 exact ⟨m,hcs,hw⟩
set_option maxRecDepth 100000 in
theorem open_raw {r:Reach} {b0:Nat} {v:Value} {d:DataW H} {p:List MemPlace} (hv:Value.okWide Tryz.prog w r b0 40 v) (h:DataW.Trod enc Tryz.prog w base spare held 40 v d p):RawIs w v:=by
 obtain ⟨v0,v1,v2,v3,y0,y1,y2,y3,n,rfl,_,_,h0,h1,h2,h3⟩:=open_agg4 Tryz.underlying40 (by kernel_rfl) (by kernel_rfl) hv h
 obtain ⟨l0,b0⟩:=bytes_of h0
 obtain ⟨l3,b3⟩:=bytes_of h3
 obtain ⟨f,rfl,wf⟩:=int_of Tryz.underlying5 h1
 obtain ⟨t,rfl,wt⟩:=int_of Tryz.underlying5 h2
 have:=bounds_u8 wf
 have:=bounds_u8 wt
 exact ⟨_,_,_,_,_,_,rfl,b0,b3,by omega,by omega,by omega,by omega⟩
end
end Go.Proofs.YtjilkhhokkncoaaGreat
