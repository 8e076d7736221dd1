/- Contract: operate, the union. -/
import Derived.Test.YtjilkhhokkncoaaGreatQK8
set_option linter.unusedVariables false
set_option linter.unusedSimpArgs false

/- Walks: operate (package periodic): the union. -/
namespace Go.Proofs.YtjilkhhokkncoaaGreat
open Go.RowKit Go.Maps Kal

end Go.Proofs.YtjilkhhokkncoaaGreat
