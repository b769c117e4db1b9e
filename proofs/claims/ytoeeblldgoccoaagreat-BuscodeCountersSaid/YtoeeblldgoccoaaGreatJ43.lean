/-
  Joined texts: Sr, Su, Sv, Sw, Sx, Sy.
-/
import Derived.Test.YtoeeblldgoccoaaGreatJ24
import Derived.Test.YtoeeblldgoccoaaGreatJ13
import Derived.Test.YtoeeblldgoccoaaGreatJ26
set_option linter.unusedVariables false
set_option linter.unusedSimpArgs false
/-
  The walks over the references: the range coder's decoder, a byte, a bit.
-/
namespace Go.Proofs.YtoeeblldgoccoaaGreat
open Go.RowKit Go.Proofs Wv Wv.Vi Wv.Rc
set_option linter.unusedVariables false

def DB (w : World) (b : Nat) (d : De) : Prop := Bk w b 140 #[.string (bs d.rest), .int .i64 (d.code : Int), .int .i64 (d.size : Int), .bool d.miss, .bool d.full]
theorem DB.cells {w : World} {b : Nat} {d : De} (h : DB w b d) : w.cell? ⟨b, 0, none⟩ = some (.string (bs d.rest)) ∧ w.cell? ⟨b, 1, none⟩ = some (.int .i64 (d.code : Int)) ∧ w.cell? ⟨b, 2, none⟩ = some (.int .i64 (d.size : Int)) ∧ w.cell? ⟨b, 3, none⟩ = some (.bool d.miss) ∧ w.cell? ⟨b, 4, none⟩ = some (.bool d.full) :=
 ⟨Bk.cell h 0, Bk.cell h 1, Bk.cell h 2, Bk.cell h 3, Bk.cell h 4⟩
end Go.Proofs.YtoeeblldgoccoaaGreat
namespace Go.Proofs.YtoeeblldgoccoaaGreat
open Go.RowKit Go.Proofs Wv Wv.Vi Wv.Rc
set_option linter.unusedVariables false

end Go.Proofs.YtoeeblldgoccoaaGreat
namespace Go.Proofs.YtoeeblldgoccoaaGreat
open Go.RowKit Go.Proofs Wv Wv.Vi Wv.Rc Wv.Mo
set_option linter.unusedVariables false

end Go.Proofs.YtoeeblldgoccoaaGreat
namespace Go.Proofs.YtoeeblldgoccoaaGreat
open Go.RowKit Go.Proofs Wv Wv.Vi Wv.Rc Wv.Mo
set_option linter.unusedVariables false

end Go.Proofs.YtoeeblldgoccoaaGreat
/-
  The walks over the references: models, the numbers with some bytes.
-/
namespace Wv
open Go Go.RowKit
set_option linter.unusedVariables false
end Wv
namespace Go.Proofs.YtoeeblldgoccoaaGreat
open Go.RowKit Go.Proofs Wv Wv.Vi Wv.Rc Wv.Mo Wv.Ru
set_option linter.unusedVariables false

end Go.Proofs.YtoeeblldgoccoaaGreat
namespace Go.Proofs.YtoeeblldgoccoaaGreat
open Go.RowKit Go.Proofs Wv Wv.Vi Wv.Rc Wv.Mo Wv.Ru
set_option linter.unusedVariables false

end Go.Proofs.YtoeeblldgoccoaaGreat
