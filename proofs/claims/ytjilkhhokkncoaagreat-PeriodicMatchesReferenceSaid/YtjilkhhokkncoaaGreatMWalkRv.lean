/- shape (package kalendsref04): its plain laws. -/
import Derived.Test.YtjilkhhokkncoaaGreatMWalkRu
set_option linter.unusedVariables false
set_option linter.unusedSimpArgs false
namespace Go.Proofs.YtjilkhhokkncoaaGreat
open Go.RowKit Go.Maps Kal
theorem short_k {p:Per} (hw:p.WF) {d:Int} {k:Nat} (hS:Short p d (p.cycle.take k)) (hkn:k≤p.cycle.length) {j:Nat} (hj:j<p.cycle.length):p.cycle.getD j 0<d↔j<k:=by
 have hf:=hw.frm
 have hb:=hw.cyc.2 _ (getD_mem hj)
 constructor
 ·intro hlt
  have h1:p.mem (p.frm+p.cycle.getD j 0):=by
   rw [Per.mem_hi (by omega) (by omega),show p.frm+p.cycle.getD j 0-p.frm=p.cycle.getD j 0 from by omega,Int.emod_eq_of_lt hb.1 hb.2]
   exact getD_mem hj
  rw [hS.mem _ (by omega),show p.frm+p.cycle.getD j 0-p.frm=p.cycle.getD j 0 from by omega,Int.emod_eq_of_lt hb.1 hlt] at h1
  obtain ⟨i,hi,he⟩:=List.getElem_of_mem h1
  rw [List.getElem_take] at he
  have hi2:i<k∧i<p.cycle.length:=by simp at hi;omega
  rcases Nat.lt_or_ge i j with h|h
  ·have:=getD_lt hw.cyc h hj
   rw [getD_get hi2.2,he] at this;omega
  ·omega
 ·intro hjk
  refine (hS.rise.2 _ ?_).2
  rw [getD_get hj]
  exact List.mem_take_iff_getElem.2 ⟨j,by omega,rfl⟩
theorem start_head {p:Per} (hw:p.WF) {d s:Int} {B:List Int} {m:Nat} (hs:Kal.Start p d B s m):p.head.filter (fun y=>decide (y<s))=p.head.take m:=by
 refine (hw.head.filter _).ext ⟨hw.head.1.sublist (List.take_sublist _ _),fun x hx=>hw.head.2 x (List.mem_of_mem_take hx)⟩ fun x=>?_
 rw [List.mem_filter,decide_eq_true_eq,hs.low]
theorem shift_nodup {B:List Int} {d a s:Int} (hB:Rise 0 d B):(B.map fun c=>(a+c-s) % d).Nodup:=by
 rw [List.nodup_iff_pairwise_ne,List.pairwise_map]
 refine List.Pairwise.imp_of_mem ?_ hB.1
 intro x y hx hy hxy he
 have h1:=hB.2 x hx
 have h2:=hB.2 y hy
 have:=emod_inj (a:=a-s) h1.1 h1.2 h2.1 h2.2 (by rw [show a-s+x=a+x-s from by omega,show a-s+y=a+y-s from by omega];exact he)
 omega
theorem shape_canon {p:Per} (hw:p.WF) {d s:Int} {k m:Nat} (hS:Short p d (p.cycle.take k)) (hs:Kal.Start p d (p.cycle.take k) s m) :
  IsCanon ⟨p.head.filter (fun y=>decide (y<s)),s,d,isort ((p.cycle.take k).map fun c=>(p.frm+c-s) % d)⟩ p.mem:=by
 rw [start_head hw hs]
 refine canon_of hw hS hs (isort_lt (shift_nodup hS.rise)) fun y=>?_
 rw [isort_mem,List.mem_map]
 exact ⟨fun ⟨c,h1,h2⟩=>⟨c,h1,h2.symm⟩,fun ⟨c,h1,h2⟩=>⟨c,h1,h2.symm⟩⟩
end Go.Proofs.YtjilkhhokkncoaaGreat
