/-
  The walks over the bit strings of the program: Put, the further kinds.
-/
import Derived.Test.YtoeeblldgoccoaaGreatL36
set_option linter.unusedVariables false
set_option linter.unusedSimpArgs false
set_option maxRecDepth 100000
set_option maxHeartbeats 8000000
namespace Go.Proofs.YtoeeblldgoccoaaGreat.Bio
open Go.RowKit Go.Proofs Wv Wv.Bit
end Go.Proofs.YtoeeblldgoccoaaGreat.Bio
