/- Plain mathematics of Subset and Apart: subsets and differences of sets that repeat. -/
import Derived.Test.YtjilkhhokkncoaaGreatQK15
set_option linter.unusedVariables false
set_option linter.unusedSimpArgs false
namespace Go.Proofs.YtjilkhhokkncoaaGreat
open Kal

end Go.Proofs.YtjilkhhokkncoaaGreat
