/- Walks: later (package kalendsref04). -/
import Derived.Test.YtjilkhhokkncoaaGreatMWalkRm
set_option linter.unusedVariables false
set_option linter.unusedSimpArgs false
namespace Go.Proofs.YtjilkhhokkncoaaGreat
open Go.RowKit Go.Maps Kal
theorem set1of4 {W:World} {b:Nat} {x0 x1 x2 x3 v:Value} {t:TypeId} (h:Bxx W b #[x0,x1,x2,x3] t):Bxx (W.setCell ⟨b,0,none⟩ v) b #[v,x1,x2,x3] t:=heap_set_at 0 v h
structure LH (w:World) (ob:Nat) (p:Per) (hp cp:Value) (f:Int) (base:Nat) (hv:Value) (l:List Int) (W:World):Prop where
 below:Below w.heap.size w W
 pb:Bxx W w.heap.size #[hp,.int .i64 p.frm,.int .i64 p.period,cp] 24
 rb:Bxx W (w.heap.size+1) #[.slice none 0 0,.int .i64 0,.int .i64 0,.slice none 0 0] 24
 obx:Bxx W ob #[hv,.int .i64 f,.int .i64 p.period,.slice none 0 0] 24
 own:OwnI W base hv l
 o1:w.heap.size+1<ob
 o2:ob<base
 o3:base≤W.heap.size
theorem LH.step {w:World} {ob:Nat} {p:Per} {hp cp:Value} {f:Int} {base:Nat} {hv:Value} {l:List Int} {W:World} (h:LH w ob p hp cp f base hv l W)
  {W1:World} {v':Value} {l':List Int} (hb:Below base W W1) (ho:OwnI W1 base v' l'):LH w ob p hp cp f base v' l' (W1.setCell ⟨ob,0,none⟩ v'):=by
 have o1:=h.o1;have o2:=h.o2;have o3:=h.o3
 have hz:=hb.size
 exact ⟨(h.below.trans (hb.mono (by omega))).setCell (p:=⟨ob,0,none⟩) (by simp;omega) _,(h.pb.upto hb (by omega)).setNe _ (by omega),(h.rb.upto hb (by omega)).setNe _ (by omega),set1of4 (h.obx.upto hb (by omega)),
  ho.above ((Above.refl base W1).setCell (by simp;omega) _),o1,o2,by simp;omega⟩
end Go.Proofs.YtjilkhhokkncoaaGreat
