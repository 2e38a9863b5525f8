/-
  What the machine's calls come to: the plain functions.
-/
import Derived.Test.YtdhgdeelagmbpaaGreatQaj
import Derived.Test.YtdhgdeelagmbpaaGreatQak
import Derived.Test.YtdhgdeelagmbpaaGreatQal
import Derived.Test.YtdhgdeelagmbpaaGreatQam
set_option linter.unusedSimpArgs false
set_option linter.unusedVariables false
set_option maxRecDepth 100000
namespace Go.Proofs.YtdhgdeelagmbpaaGreat
open Go Go.Gm
set_option maxHeartbeats 4000000
end Go.Proofs.YtdhgdeelagmbpaaGreat
