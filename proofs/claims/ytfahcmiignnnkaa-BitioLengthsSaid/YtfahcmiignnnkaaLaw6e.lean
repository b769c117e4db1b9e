/-
  The laws of the bit strings: the sizes of codes are those of the table: all numbers.
-/
import Derived.Test.YtfahcmiignnnkaaLaw6a
import Derived.Test.YtfahcmiignnnkaaLaw6b
import Derived.Test.YtfahcmiignnnkaaLaw6c
import Derived.Test.YtfahcmiignnnkaaLaw6d
import Derived.Deep.RegionHeld3
import Derived.Deep.QuietTactic
import Derived.BigQuiet
import Derived.Deep.Cut
namespace Go.Proofs.Ytfahcmiignnnkaa
open Go.RowKit Go.Proofs Wv Wv.Bit
set_option linter.unusedVariables false

set_option maxRecDepth 100000 in
set_option maxHeartbeats 2000000 in
theorem lengths_any {w : World} (p : Int) (hp : -9223372036854775808 ≤ p ∧ p ≤ 9223372036854775807) (v : Int) (hv : -9223372036854775808 ≤ v ∧ v ≤ 9223372036854775807) :
    Calls Try.prog 9 #[.int .i64 p, .int .i64 v] w fun e w' => e = .returned (.bool true) ∧ Below w.heap.size w w' := by
  have Ha := hide awake_any
  by_cases hbig : v < 0 ∨ 4294967296 < v ∨ p < 1 ∨ 30 < p
  · go_enter Try.func9, Try.ntmps9
    go_wp2_with fail
    refine (Ha.out _).mono ?_
    rintro e w1 ⟨rfl, hb1⟩
    clear hp hv
    by_cases hc1 : v < 0
    · go_wp2
      go_ret
      exact ⟨rfl, hb1⟩
    · by_cases hc2 : 4294967296 < v
      · go_wp2
        go_ret
        exact ⟨rfl, hb1⟩
      · by_cases hc3 : p < 1
        · go_wp2
          go_ret
          exact ⟨rfl, hb1⟩
        · go_wp2
          go_ret
          exact ⟨rfl, hb1⟩
  · obtain ⟨v, rfl⟩ := Int.eq_ofNat_of_zero_le (show 0 ≤ v by omega)
    obtain ⟨p, rfl⟩ := Int.eq_ofNat_of_zero_le (show 0 ≤ p by omega)
    by_cases h1 : v = 4294967296
    · exact lengths_top p v (by omega) (by omega) (by omega) h1
    by_cases h2 : v = 0
    · exact lengths_low p v (by omega) (by omega) (by omega) h2
    by_cases h3 : v + 1 = 2 ^ (v + 1).log2
    · exact lengths_pow p v (by omega) (by omega) (by omega) (by omega) (by omega) h3
    · exact lengths_not p v (by omega) (by omega) (by omega) (by omega) (by omega) h3
end Go.Proofs.Ytfahcmiignnnkaa
