/-
  No cell of these rows narrows 'for every input' (looked for: loops, veiled, ifaces, maps, wideKeys, modest, calm, conditions, laid).
  DERIVED. THE GIVEN ROWS OF THIS SEAT. 8 by the template 'for every input the law returns true; each argument reads behind the call as it read before'; 0 by the template 'total and deterministic' (their statements: YtoeeblldgoccoaaGreatTotals.lean).
  GIVEN WITH THE SEED: the statements are not yours to turn. If you find one false, say at which input.
  Laid BY PROGRAM, IN A SANDBOX (cutbox-rows.mjs): the forced cells as the released guide's own fill.sh prints them over the translation da026631ea17972d… (all of the seat's roots in one cut). By AI agents, Wed Nov 11 2026. No macro, syntax, notation, axiom, sorry.
-/
import Derived.Test.YtoeeblldgoccoaaGreatChecked
import GoSem.Claim
import GoSem.ClaimJoined
import GoSem.ClaimMapViews
import Derived.JoinedTies
import Derived.KernelRfl
namespace Go.Proofs.YtoeeblldgoccoaaGreat
/- THE CELL 'sum', in the pinned program and in every row, IS THE sha256 OF THE DUMP (.gsa) THAT YtoeeblldgoccoaaGreatProg.lean LOADS. Nothing in Lean hashes anything: it is a label: what it is worth is what the hold of that sum in a sandbox is worth. -/
noncomputable def Tryz.pinned : Pinned := { name := "ytoeeblldgoccoaagreat", sum := "da026631ea17972dc9186f178b8a871e45804fdf832be17dd5bdaa9364c4666d", checked := Tryz.checked }
namespace Rows
def none {H : Type} : Left H := { results := [], args := [] }

/-- 'wavestorelaw14.BuscodeForms': WHATEVER THE INPUT: true; the input reads as it did. -/
def buscodeFormsSpec : ChangeSpec := { name := "buscodeForms", fn := fun _ => fun
  | [d1, d2] => { results := [.lit (.bool true)], args := [d1, d2] }
  | _ => none }
def buscodeFormsRow : OpenClaim := { program := "ytoeeblldgoccoaagreat", sum := "da026631ea17972dc9186f178b8a871e45804fdf832be17dd5bdaa9364c4666d", func := "wavestore/wavestorelaw14.BuscodeForms", spec := "buscodeForms", inPlace := ["internal/abi.NoEscape", "internal/bytealg.MakeNoZero"], unfollowed := true, recurses := true, apart := false }
def BuscodeFormsSaid : Prop := buscodeFormsRow.holds Tryz.pinned (OpenSpec.ofChange buscodeFormsSpec)

/-- ITS FALSE NEIGHBOUR: 'it returns false'. Refute it at one input. -/
def buscodeFormsWrong : ChangeSpec := { name := "buscodeForms", fn := fun _ => fun
  | [d1, d2] => { results := [.lit (.bool false)], args := [d1, d2] }
  | _ => none }
def BuscodeFormsWrongFalsely : Prop := buscodeFormsRow.holds Tryz.pinned (OpenSpec.ofChange buscodeFormsWrong)

/-- 'wavestorelaw14.BuscodeBytes': WHATEVER THE INPUT: true; the input reads as it did. -/
def buscodeBytesSpec : ChangeSpec := { name := "buscodeBytes", fn := fun _ => fun
  | [d1, d2, d3] => { results := [.lit (.bool true)], args := [d1, d2, d3] }
  | _ => none }
def buscodeBytesRow : OpenClaim := { program := "ytoeeblldgoccoaagreat", sum := "da026631ea17972dc9186f178b8a871e45804fdf832be17dd5bdaa9364c4666d", func := "wavestore/wavestorelaw14.BuscodeBytes", spec := "buscodeBytes", inPlace := ["internal/abi.NoEscape", "internal/bytealg.MakeNoZero"], unfollowed := true, recurses := true, apart := false }
def BuscodeBytesSaid : Prop := buscodeBytesRow.holds Tryz.pinned (OpenSpec.ofChange buscodeBytesSpec)

/-- ITS FALSE NEIGHBOUR: 'it returns false'. Refute it at one input. -/
def buscodeBytesWrong : ChangeSpec := { name := "buscodeBytes", fn := fun _ => fun
  | [d1, d2, d3] => { results := [.lit (.bool false)], args := [d1, d2, d3] }
  | _ => none }
def BuscodeBytesWrongFalsely : Prop := buscodeBytesRow.holds Tryz.pinned (OpenSpec.ofChange buscodeBytesWrong)

/-- 'wavestorelaw14.BuscodeDecodes': WHATEVER THE INPUT: true; the input reads as it did. -/
def buscodeDecodesSpec : ChangeSpec := { name := "buscodeDecodes", fn := fun _ => fun
  | [d1, d2, d3] => { results := [.lit (.bool true)], args := [d1, d2, d3] }
  | _ => none }
def buscodeDecodesRow : OpenClaim := { program := "ytoeeblldgoccoaagreat", sum := "da026631ea17972dc9186f178b8a871e45804fdf832be17dd5bdaa9364c4666d", func := "wavestore/wavestorelaw14.BuscodeDecodes", spec := "buscodeDecodes", inPlace := ["internal/abi.NoEscape", "internal/bytealg.MakeNoZero"], unfollowed := true, recurses := true, apart := false }
def BuscodeDecodesSaid : Prop := buscodeDecodesRow.holds Tryz.pinned (OpenSpec.ofChange buscodeDecodesSpec)

/-- ITS FALSE NEIGHBOUR: 'it returns false'. Refute it at one input. -/
def buscodeDecodesWrong : ChangeSpec := { name := "buscodeDecodes", fn := fun _ => fun
  | [d1, d2, d3] => { results := [.lit (.bool false)], args := [d1, d2, d3] }
  | _ => none }
def BuscodeDecodesWrongFalsely : Prop := buscodeDecodesRow.holds Tryz.pinned (OpenSpec.ofChange buscodeDecodesWrong)

/-- 'wavestorelaw14.BuscodeInverts': WHATEVER THE INPUT: true; the input reads as it did. -/
def buscodeInvertsSpec : ChangeSpec := { name := "buscodeInverts", fn := fun _ => fun
  | [d1, d2] => { results := [.lit (.bool true)], args := [d1, d2] }
  | _ => none }
def buscodeInvertsRow : OpenClaim := { program := "ytoeeblldgoccoaagreat", sum := "da026631ea17972dc9186f178b8a871e45804fdf832be17dd5bdaa9364c4666d", func := "wavestore/wavestorelaw14.BuscodeInverts", spec := "buscodeInverts", inPlace := ["internal/abi.NoEscape", "internal/bytealg.MakeNoZero"], unfollowed := true, recurses := true, apart := false }
def BuscodeInvertsSaid : Prop := buscodeInvertsRow.holds Tryz.pinned (OpenSpec.ofChange buscodeInvertsSpec)

/-- ITS FALSE NEIGHBOUR: 'it returns false'. Refute it at one input. -/
def buscodeInvertsWrong : ChangeSpec := { name := "buscodeInverts", fn := fun _ => fun
  | [d1, d2] => { results := [.lit (.bool false)], args := [d1, d2] }
  | _ => none }
def BuscodeInvertsWrongFalsely : Prop := buscodeInvertsRow.holds Tryz.pinned (OpenSpec.ofChange buscodeInvertsWrong)

/-- 'wavestorelaw14.BuscodeChoice': WHATEVER THE INPUT: true; the input reads as it did. -/
def buscodeChoiceSpec : ChangeSpec := { name := "buscodeChoice", fn := fun _ => fun
  | [d1, d2] => { results := [.lit (.bool true)], args := [d1, d2] }
  | _ => none }
def buscodeChoiceRow : OpenClaim := { program := "ytoeeblldgoccoaagreat", sum := "da026631ea17972dc9186f178b8a871e45804fdf832be17dd5bdaa9364c4666d", func := "wavestore/wavestorelaw14.BuscodeChoice", spec := "buscodeChoice", inPlace := ["internal/abi.NoEscape", "internal/bytealg.MakeNoZero"], unfollowed := true, recurses := true, apart := false }
def BuscodeChoiceSaid : Prop := buscodeChoiceRow.holds Tryz.pinned (OpenSpec.ofChange buscodeChoiceSpec)

/-- ITS FALSE NEIGHBOUR: 'it returns false'. Refute it at one input. -/
def buscodeChoiceWrong : ChangeSpec := { name := "buscodeChoice", fn := fun _ => fun
  | [d1, d2] => { results := [.lit (.bool false)], args := [d1, d2] }
  | _ => none }
def BuscodeChoiceWrongFalsely : Prop := buscodeChoiceRow.holds Tryz.pinned (OpenSpec.ofChange buscodeChoiceWrong)

/-- 'wavestorelaw14.BuscodeStrict': WHATEVER THE INPUT: true; the input reads as it did. -/
def buscodeStrictSpec : ChangeSpec := { name := "buscodeStrict", fn := fun _ => fun
  | [d1, d2, d3] => { results := [.lit (.bool true)], args := [d1, d2, d3] }
  | _ => none }
def buscodeStrictRow : OpenClaim := { program := "ytoeeblldgoccoaagreat", sum := "da026631ea17972dc9186f178b8a871e45804fdf832be17dd5bdaa9364c4666d", func := "wavestore/wavestorelaw14.BuscodeStrict", spec := "buscodeStrict", inPlace := ["internal/abi.NoEscape", "internal/bytealg.MakeNoZero"], unfollowed := true, recurses := true, apart := false }
def BuscodeStrictSaid : Prop := buscodeStrictRow.holds Tryz.pinned (OpenSpec.ofChange buscodeStrictSpec)

/-- ITS FALSE NEIGHBOUR: 'it returns false'. Refute it at one input. -/
def buscodeStrictWrong : ChangeSpec := { name := "buscodeStrict", fn := fun _ => fun
  | [d1, d2, d3] => { results := [.lit (.bool false)], args := [d1, d2, d3] }
  | _ => none }
def BuscodeStrictWrongFalsely : Prop := buscodeStrictRow.holds Tryz.pinned (OpenSpec.ofChange buscodeStrictWrong)

/-- 'wavestorelaw14.BuscodeCounters': WHATEVER THE INPUT: true; the input reads as it did. -/
def buscodeCountersSpec : ChangeSpec := { name := "buscodeCounters", fn := fun _ => fun
  | [d1, d2, d3, d4, d5] => { results := [.lit (.bool true)], args := [d1, d2, d3, d4, d5] }
  | _ => none }
def buscodeCountersRow : OpenClaim := { program := "ytoeeblldgoccoaagreat", sum := "da026631ea17972dc9186f178b8a871e45804fdf832be17dd5bdaa9364c4666d", func := "wavestore/wavestorelaw14.BuscodeCounters", spec := "buscodeCounters", inPlace := ["internal/abi.NoEscape", "internal/bytealg.MakeNoZero"], unfollowed := true, recurses := true, apart := false }
def BuscodeCountersSaid : Prop := buscodeCountersRow.holds Tryz.pinned (OpenSpec.ofChange buscodeCountersSpec)

/-- ITS FALSE NEIGHBOUR: 'it returns false'. Refute it at one input. -/
def buscodeCountersWrong : ChangeSpec := { name := "buscodeCounters", fn := fun _ => fun
  | [d1, d2, d3, d4, d5] => { results := [.lit (.bool false)], args := [d1, d2, d3, d4, d5] }
  | _ => none }
def BuscodeCountersWrongFalsely : Prop := buscodeCountersRow.holds Tryz.pinned (OpenSpec.ofChange buscodeCountersWrong)

/-- 'wavestorelaw14.BuscodeLong': WHATEVER THE INPUT: true; the input reads as it did. -/
def buscodeLongSpec : ChangeSpec := { name := "buscodeLong", fn := fun _ => fun
  | [d1, d2] => { results := [.lit (.bool true)], args := [d1, d2] }
  | _ => none }
def buscodeLongRow : OpenClaim := { program := "ytoeeblldgoccoaagreat", sum := "da026631ea17972dc9186f178b8a871e45804fdf832be17dd5bdaa9364c4666d", func := "wavestore/wavestorelaw14.BuscodeLong", spec := "buscodeLong", inPlace := ["internal/abi.NoEscape", "internal/bytealg.MakeNoZero"], unfollowed := true, recurses := true, apart := false }
def BuscodeLongSaid : Prop := buscodeLongRow.holds Tryz.pinned (OpenSpec.ofChange buscodeLongSpec)

/-- ITS FALSE NEIGHBOUR: 'it returns false'. Refute it at one input. -/
def buscodeLongWrong : ChangeSpec := { name := "buscodeLong", fn := fun _ => fun
  | [d1, d2] => { results := [.lit (.bool false)], args := [d1, d2] }
  | _ => none }
def BuscodeLongWrongFalsely : Prop := buscodeLongRow.holds Tryz.pinned (OpenSpec.ofChange buscodeLongWrong)

/- THE SECOND FORM. 'bulk': how many values and letters a reading holds, each counted each time it is reached (what is shared counts as often as it is met; a slice's spare places count too). A statement '..UptoSaid' is the law's where the arguments, and the package variables that the reading takes, are together of bulk at most 1048576: NARROWER than '..Said'. Prove '..Said' where nothing that the law and all that it calls make is longer than what came in: it says more and counts as full. Else prove '..UptoSaid'. A law counts once. -/
mutual
def uptoBulk {H : Type} : DataW H → Nat
  | .lit (.string bytes) => bytes.length + 1
  | .lit _ => 1
  | .nil => 1
  | .ptr d => uptoBulk d + 1
  | .slice elems spare => uptoBulkAll elems + uptoBulkAll spare + 1
  | .agg parts => uptoBulkAll parts + 1
  | .iface _ d => uptoBulk d + 1
  | .map entries => uptoBulkEntries entries + 1
  | .held _ => 1
def uptoBulkAll {H : Type} : List (DataW H) → Nat
  | [] => 0
  | d :: r => uptoBulk d + uptoBulkAll r
def uptoBulkEntries {H : Type} : List (Lit × DataW H) → Nat
  | [] => 0
  | x :: r => uptoBulkEntry x + uptoBulkEntries r
def uptoBulkEntry {H : Type} : Lit × DataW H → Nat
  | (.string bytes, d) => bytes.length + uptoBulk d + 1
  | (_, d) => uptoBulk d + 1
 end
def uptoSmall : (H : Type) → List (DataW H) → Bool := fun _ ds => decide (uptoBulkAll ds ≤ 1048576)
def OpenSpec.upto (s : _root_.Go.ChangeSpec) : _root_.Go.OpenSpec := { _root_.Go.OpenSpec.ofChange s with cond := some uptoSmall }

/-- 'wavestorelaw14.BuscodeForms', WHERE WHAT IT READS IS OF BULK AT MOST 1048576: true; the input reads as it did. -/
def buscodeFormsUptoRow : OpenClaim := { program := "ytoeeblldgoccoaagreat", sum := "da026631ea17972dc9186f178b8a871e45804fdf832be17dd5bdaa9364c4666d", func := "wavestore/wavestorelaw14.BuscodeForms", spec := "buscodeForms", inPlace := ["internal/abi.NoEscape", "internal/bytealg.MakeNoZero"], unfollowed := true, recurses := true, apart := false, narrowed := true }
def BuscodeFormsUptoSaid : Prop := buscodeFormsUptoRow.holds Tryz.pinned (OpenSpec.upto buscodeFormsSpec)

/-- 'wavestorelaw14.BuscodeBytes', WHERE WHAT IT READS IS OF BULK AT MOST 1048576: true; the input reads as it did. -/
def buscodeBytesUptoRow : OpenClaim := { program := "ytoeeblldgoccoaagreat", sum := "da026631ea17972dc9186f178b8a871e45804fdf832be17dd5bdaa9364c4666d", func := "wavestore/wavestorelaw14.BuscodeBytes", spec := "buscodeBytes", inPlace := ["internal/abi.NoEscape", "internal/bytealg.MakeNoZero"], unfollowed := true, recurses := true, apart := false, narrowed := true }
def BuscodeBytesUptoSaid : Prop := buscodeBytesUptoRow.holds Tryz.pinned (OpenSpec.upto buscodeBytesSpec)

/-- 'wavestorelaw14.BuscodeDecodes', WHERE WHAT IT READS IS OF BULK AT MOST 1048576: true; the input reads as it did. -/
def buscodeDecodesUptoRow : OpenClaim := { program := "ytoeeblldgoccoaagreat", sum := "da026631ea17972dc9186f178b8a871e45804fdf832be17dd5bdaa9364c4666d", func := "wavestore/wavestorelaw14.BuscodeDecodes", spec := "buscodeDecodes", inPlace := ["internal/abi.NoEscape", "internal/bytealg.MakeNoZero"], unfollowed := true, recurses := true, apart := false, narrowed := true }
def BuscodeDecodesUptoSaid : Prop := buscodeDecodesUptoRow.holds Tryz.pinned (OpenSpec.upto buscodeDecodesSpec)

/-- 'wavestorelaw14.BuscodeInverts', WHERE WHAT IT READS IS OF BULK AT MOST 1048576: true; the input reads as it did. -/
def buscodeInvertsUptoRow : OpenClaim := { program := "ytoeeblldgoccoaagreat", sum := "da026631ea17972dc9186f178b8a871e45804fdf832be17dd5bdaa9364c4666d", func := "wavestore/wavestorelaw14.BuscodeInverts", spec := "buscodeInverts", inPlace := ["internal/abi.NoEscape", "internal/bytealg.MakeNoZero"], unfollowed := true, recurses := true, apart := false, narrowed := true }
def BuscodeInvertsUptoSaid : Prop := buscodeInvertsUptoRow.holds Tryz.pinned (OpenSpec.upto buscodeInvertsSpec)

/-- 'wavestorelaw14.BuscodeChoice', WHERE WHAT IT READS IS OF BULK AT MOST 1048576: true; the input reads as it did. -/
def buscodeChoiceUptoRow : OpenClaim := { program := "ytoeeblldgoccoaagreat", sum := "da026631ea17972dc9186f178b8a871e45804fdf832be17dd5bdaa9364c4666d", func := "wavestore/wavestorelaw14.BuscodeChoice", spec := "buscodeChoice", inPlace := ["internal/abi.NoEscape", "internal/bytealg.MakeNoZero"], unfollowed := true, recurses := true, apart := false, narrowed := true }
def BuscodeChoiceUptoSaid : Prop := buscodeChoiceUptoRow.holds Tryz.pinned (OpenSpec.upto buscodeChoiceSpec)

/-- 'wavestorelaw14.BuscodeStrict', WHERE WHAT IT READS IS OF BULK AT MOST 1048576: true; the input reads as it did. -/
def buscodeStrictUptoRow : OpenClaim := { program := "ytoeeblldgoccoaagreat", sum := "da026631ea17972dc9186f178b8a871e45804fdf832be17dd5bdaa9364c4666d", func := "wavestore/wavestorelaw14.BuscodeStrict", spec := "buscodeStrict", inPlace := ["internal/abi.NoEscape", "internal/bytealg.MakeNoZero"], unfollowed := true, recurses := true, apart := false, narrowed := true }
def BuscodeStrictUptoSaid : Prop := buscodeStrictUptoRow.holds Tryz.pinned (OpenSpec.upto buscodeStrictSpec)

/-- 'wavestorelaw14.BuscodeCounters', WHERE WHAT IT READS IS OF BULK AT MOST 1048576: true; the input reads as it did. -/
def buscodeCountersUptoRow : OpenClaim := { program := "ytoeeblldgoccoaagreat", sum := "da026631ea17972dc9186f178b8a871e45804fdf832be17dd5bdaa9364c4666d", func := "wavestore/wavestorelaw14.BuscodeCounters", spec := "buscodeCounters", inPlace := ["internal/abi.NoEscape", "internal/bytealg.MakeNoZero"], unfollowed := true, recurses := true, apart := false, narrowed := true }
def BuscodeCountersUptoSaid : Prop := buscodeCountersUptoRow.holds Tryz.pinned (OpenSpec.upto buscodeCountersSpec)

/-- 'wavestorelaw14.BuscodeLong', WHERE WHAT IT READS IS OF BULK AT MOST 1048576: true; the input reads as it did. -/
def buscodeLongUptoRow : OpenClaim := { program := "ytoeeblldgoccoaagreat", sum := "da026631ea17972dc9186f178b8a871e45804fdf832be17dd5bdaa9364c4666d", func := "wavestore/wavestorelaw14.BuscodeLong", spec := "buscodeLong", inPlace := ["internal/abi.NoEscape", "internal/bytealg.MakeNoZero"], unfollowed := true, recurses := true, apart := false, narrowed := true }
def BuscodeLongUptoSaid : Prop := buscodeLongUptoRow.holds Tryz.pinned (OpenSpec.upto buscodeLongSpec)

end Rows
end Go.Proofs.YtoeeblldgoccoaaGreat
