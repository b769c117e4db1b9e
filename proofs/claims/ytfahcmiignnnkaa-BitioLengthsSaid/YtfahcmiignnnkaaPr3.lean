/-
  The walks over the bit strings of the program, third part: the table of the kinds, and 'find'.
-/
import Derived.Test.YtfahcmiignnnkaaChecked
import Derived.Test.YtfahcmiignnnkaaBase
import Derived.WalkKit
import Derived.WalkSpells
import Derived.WalkLawsBesides
import Derived.IntWalk
import Derived.BigRegion
import Derived.StillTailTactics
namespace Go.Proofs.Ytfahcmiignnnkaa
open Go.RowKit Go.Proofs Wv

/-- What the table has for a kind. -/
def kv0 : Value := .agg #[.int .i64 0, .int .i64 62, .func (.func 43) #[] #[], .func (.func 44) #[] #[], .func (.func 45) #[] #[], .func (.func 46) #[] #[]]
def kv1 : Value := .agg #[.int .i64 0, .int .i64 0, .func (.func 42) #[] #[], .func (.func 48) #[] #[], .func (.func 49) #[] #[], .func (.func 51) #[] #[]]
def kv2 : Value := .agg #[.int .i64 0, .int .i64 30, .func (.func 42) #[] #[], .func (.func 53) #[] #[], .func (.func 54) #[] #[], .func (.func 55) #[] #[]]
def kv3 : Value := .agg #[.int .i64 0, .int .i64 30, .func (.func 56) #[] #[], .func (.func 57) #[] #[], .func (.func 59) #[] #[], .func (.func 60) #[] #[]]
def kv4 : Value := .agg #[.int .i64 1, .int .i64 4294967296, .func (.func 61) #[] #[], .func (.func 62) #[] #[], .func (.func 64) #[] #[], .func (.func 65) #[] #[]]
def kz : Value := .agg #[.int .i64 0, .int .i64 0, .nilFunc, .nilFunc, .nilFunc, .nilFunc]
def kmap : Array MapEntry := #[⟨.int .i64 0, kv0, 0⟩, ⟨.int .i64 1, kv1, 1⟩, ⟨.int .i64 2, kv2, 2⟩, ⟨.int .i64 3, kv3, 3⟩, ⟨.int .i64 4, kv4, 4⟩]

set_option maxHeartbeats 400000 in
theorem kinds_any (w : World) :
    Calls Try.prog 36 #[] w fun e w' => e = .returned (.map (some w.heap.size)) ∧ w.alloc (.map kmap 5) = w' := by
  have hmm := @run_makeMap Try.prog
  have p0 := map_put_new (P := Try.prog) Try.underlying78 Try.underlying3 w #[] 0 0 (.agg #[.int .i64 0, .int .i64 62, .func (.func 43) #[] #[], .func (.func 44) #[] #[], .func (.func 45) #[] #[], .func (.func 46) #[] #[]]) rfl
  have p1 := map_put_new (P := Try.prog) Try.underlying78 Try.underlying3 w #[⟨.int .i64 0, .agg #[.int .i64 0, .int .i64 62, .func (.func 43) #[] #[], .func (.func 44) #[] #[], .func (.func 45) #[] #[], .func (.func 46) #[] #[]], 0⟩] 1 1 (.agg #[.int .i64 0, .int .i64 0, .func (.func 42) #[] #[], .func (.func 48) #[] #[], .func (.func 49) #[] #[], .func (.func 51) #[] #[]]) rfl
  have p2 := map_put_new (P := Try.prog) Try.underlying78 Try.underlying3 w #[⟨.int .i64 0, .agg #[.int .i64 0, .int .i64 62, .func (.func 43) #[] #[], .func (.func 44) #[] #[], .func (.func 45) #[] #[], .func (.func 46) #[] #[]], 0⟩, ⟨.int .i64 1, .agg #[.int .i64 0, .int .i64 0, .func (.func 42) #[] #[], .func (.func 48) #[] #[], .func (.func 49) #[] #[], .func (.func 51) #[] #[]], 1⟩] 2 2 (.agg #[.int .i64 0, .int .i64 30, .func (.func 42) #[] #[], .func (.func 53) #[] #[], .func (.func 54) #[] #[], .func (.func 55) #[] #[]]) rfl
  have p3 := map_put_new (P := Try.prog) Try.underlying78 Try.underlying3 w #[⟨.int .i64 0, .agg #[.int .i64 0, .int .i64 62, .func (.func 43) #[] #[], .func (.func 44) #[] #[], .func (.func 45) #[] #[], .func (.func 46) #[] #[]], 0⟩, ⟨.int .i64 1, .agg #[.int .i64 0, .int .i64 0, .func (.func 42) #[] #[], .func (.func 48) #[] #[], .func (.func 49) #[] #[], .func (.func 51) #[] #[]], 1⟩, ⟨.int .i64 2, .agg #[.int .i64 0, .int .i64 30, .func (.func 42) #[] #[], .func (.func 53) #[] #[], .func (.func 54) #[] #[], .func (.func 55) #[] #[]], 2⟩] 3 3 (.agg #[.int .i64 0, .int .i64 30, .func (.func 56) #[] #[], .func (.func 57) #[] #[], .func (.func 59) #[] #[], .func (.func 60) #[] #[]]) rfl
  have p4 := map_put_new (P := Try.prog) Try.underlying78 Try.underlying3 w #[⟨.int .i64 0, .agg #[.int .i64 0, .int .i64 62, .func (.func 43) #[] #[], .func (.func 44) #[] #[], .func (.func 45) #[] #[], .func (.func 46) #[] #[]], 0⟩, ⟨.int .i64 1, .agg #[.int .i64 0, .int .i64 0, .func (.func 42) #[] #[], .func (.func 48) #[] #[], .func (.func 49) #[] #[], .func (.func 51) #[] #[]], 1⟩, ⟨.int .i64 2, .agg #[.int .i64 0, .int .i64 30, .func (.func 42) #[] #[], .func (.func 53) #[] #[], .func (.func 54) #[] #[], .func (.func 55) #[] #[]], 2⟩, ⟨.int .i64 3, .agg #[.int .i64 0, .int .i64 30, .func (.func 56) #[] #[], .func (.func 57) #[] #[], .func (.func 59) #[] #[], .func (.func 60) #[] #[]], 3⟩] 4 4 (.agg #[.int .i64 1, .int .i64 4294967296, .func (.func 61) #[] #[], .func (.func 62) #[] #[], .func (.func 64) #[] #[], .func (.func 65) #[] #[]]) rfl
  go_enter Try.func36, Try.ntmps36
  go_wp2
  go_ret
  exact ⟨rfl, rfl⟩
end Go.Proofs.Ytfahcmiignnnkaa
