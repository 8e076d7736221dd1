/- What a law needs beside the base. -/
import Derived.Test.YthjnojbeimchdaaGreatB1
import Derived.Test.YthjnojbeimchdaaGreatB2
import Derived.Test.YthjnojbeimchdaaGreatB3
import Derived.Test.YthjnojbeimchdaaGreatB4
import Derived.Test.YthjnojbeimchdaaGreatB5
import Derived.Test.YthjnojbeimchdaaGreatB6
import Derived.Test.YthjnojbeimchdaaGreatB7
import Derived.Test.YthjnojbeimchdaaGreatB8
import Derived.Test.YthjnojbeimchdaaGreatB9
import Derived.Test.YthjnojbeimchdaaGreatB10
import Derived.Test.YthjnojbeimchdaaGreatB11
import Derived.Test.YthjnojbeimchdaaGreatB12
set_option linter.unusedVariables false
set_option linter.unusedSimpArgs false
namespace Go.Proofs.YthjnojbeimchdaaGreat
open Go.RowKit Go.Maps Kal
theorem MadeM.mv {m:List (List Per)} (h:MadeM m):MV 0 m:=⟨(validM_of h.vt).2 ⟨by have:=h.len;omega,fun t ht=>by have:=h.tlen t ht;omega⟩,h.vt⟩
end Go.Proofs.YthjnojbeimchdaaGreat
namespace Go.Proofs.YthjnojbeimchdaaGreat
open Go.ChangeShapes Go.WideShapes Go.ChangeAt Go.RowKit Go.Joins Kal
theorem liftOwn:ownKnob Tryz.prog.godebug=none:=by kernel_rfl
theorem liftLaid:laidOutB Tryz.prog=true:=by kernel_rfl
section
variable {H:Type} {enc:TypeId × Value→H} {w:World} {base:Nat} {spare:Nat→Bool} {held:Bool}
end
end Go.Proofs.YthjnojbeimchdaaGreat
