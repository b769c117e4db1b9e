/-
  The walks over the reference of lists of values: the second coding is read.
-/
import Derived.Test.YtoeeblldgoccoaaGreatJ44
import Derived.Test.YtoeeblldgoccoaaGreatJ41
set_option linter.unusedVariables false
set_option linter.unusedSimpArgs false
namespace Go.Proofs.YtoeeblldgoccoaaGreat
open Go.RowKit Go.Proofs Wv Wv.Vi Wv.Rc Wv.Mo Wv.Ru Wv.Tm Wv.Bc
set_option linter.unusedVariables false
set_option maxRecDepth 100000
end Go.Proofs.YtoeeblldgoccoaaGreat
