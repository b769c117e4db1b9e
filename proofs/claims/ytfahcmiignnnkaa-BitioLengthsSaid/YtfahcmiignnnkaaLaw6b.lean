/-
  The laws of the bit strings: the sizes of codes are those of the table: the number 0.
-/
import Derived.Test.YtfahcmiignnnkaaLaw6
import Derived.Deep.RegionHeld3
import Derived.Deep.QuietTactic
import Derived.BigQuiet
import Derived.Deep.Cut
namespace Go.Proofs.Ytfahcmiignnnkaa
open Go.RowKit Go.Proofs Wv Wv.Bit
set_option linter.unusedVariables false

set_option maxRecDepth 100000 in
set_option maxHeartbeats 2000000 in
theorem lengths_low (p v : Nat) (hv2 : v ≤ 4294967296) (hp1 : 1 ≤ p) (hp2 : p ≤ 30) {w : World} (hv5 : v = 0) :
    Calls Try.prog 9 #[.int .i64 p, .int .i64 v] w fun e w' => e = .returned (.bool true) ∧ Below w.heap.size w w' := by
  have Ha := hide awake_any
  have Hc := hide hv5
  clear hv5
  obtain ⟨q, hq⟩ : ∃ q : Nat, v / 2 ^ p = q := ⟨_, rfl⟩
  have hq1 : (v : Int) / 2 ^ p = (q : Int) := by rw [pow_cast, ← hq]; push_cast; rfl
  have hq2 : q ≤ 4294967296 := by rw [← hq]; exact Nat.le_trans (Nat.div_le_self _ _) hv2
  obtain ⟨t, ht⟩ : ∃ t : Nat, 2 ^ p = t := ⟨_, rfl⟩
  have ht1 : (2 : Int) ^ p = (t : Int) := by rw [pow_cast, ht]
  have ht2 : t ≤ 1073741824 := by rw [← ht]; exact pow30 p hp2
  rw [ht1] at hq1
  have Hq := hide hq
  have Ht := hide ht
  clear hq ht
  go_enter Try.func9, Try.ntmps9
  go_wp2_with fail
  refine (Ha.out _).mono ?_
  rintro e w1 ⟨rfl, hb1⟩
  have Hg := psize_any 3 p v (by omega) (by omega)
  obtain ⟨L, hL⟩ : ∃ L : Nat, (v + t).log2 = L := ⟨_, rfl⟩
  have hgol : (csz 3 p v : Int) = 2 * (L : Int) - p + 1 := by
    have := csz_gol p v hp2 hv2
    rw [Ht.out, hL] at this
    exact this
  have hL2 : L ≤ 40 := by
    have h1 : 0 < t := by rw [← Ht.out]; exact Nat.two_pow_pos p
    have h2 := Nat.log2_self_le (show v + t ≠ 0 by omega)
    rw [hL] at h2
    rcases Nat.lt_or_ge 40 L with h3 | h3
    · have : 2 ^ 41 ≤ 2 ^ L := Nat.pow_le_pow_right (by omega) h3
      omega
    · exact h3
  rw [hgol] at Hg
  obtain ⟨sz, hsz⟩ : ∃ sz : Int, 2 * (L : Int) - p + 1 = sz := ⟨_, rfl⟩
  have hsz2 : (sz != 2 * (L : Int) - (p : Int) + 1) = false := by rw [hsz]; simp
  rw [hsz] at Hg
  have Hg2 := hide Hg
  have Hlog := log_any (v + t) (by omega)
  rw [hL, show ((v + t : Nat) : Int) = (v : Int) + (t : Int) from by push_cast; rfl] at Hlog
  have Hlog2 := hide Hlog
  clear hgol Hg Hlog hL hsz
  go_upto_region 6 with fail
  go_cut [35] from 10 (fun s35 wx => s35 = .bool false ∧ Below w.heap.size w wx)
  case first =>
    by_cases hs1 : v ≤ 4096
    · have hz := csz_unary v hs1
      have Hs2 := psize_any 1 0 v (by omega) (by omega) w1
      rw [hz] at Hs2
      have Hs3 := hide Hs2
      clear Hs2 hz
      go_wp2_with fail
      refine (Hs3.out).mono ?_
      rintro e w2 ⟨rfl, hb2⟩
      have hb3 := hb1.trans (hb2.mono hb1.size)
      go_wp2
      go_meet
      case rel => exact ⟨rfl, hb3⟩
    · go_wp2
      go_meet
      case rel => exact ⟨rfl, hb1⟩
  obtain ⟨rfl, hb3⟩ := hcut
  clear hb1
  go_upto_region 8 with fail
  go_cut [52] from 10 (fun s52 wx => s52 = .bool false ∧ Below w.heap.size w wx)
  case first =>
    by_cases hs2 : q ≤ 4096
    · have hz := csz_rice p v q hp2 Hq.out hs2
      have Hs2 := psize_any 2 p v (by omega) (by omega)
      rw [hz] at Hs2
      have Hs3 := hide Hs2
      have hsz := hb3.size
      have H1 : w.heap.size ≤ wc.drew.heap.size ∧ Below w.heap.size w wc.drew := ⟨hb3.size, hb3.drew⟩
      have hd : decide ((q : Int) ≤ 4096) = true := decide_eq_true (by omega)
      have i1 : IntKind.i64.wrap ((q : Int) + 1) = (q : Int) + 1 := by rw [IntWalk.i64_in _ (by omega)]
      have i2 : IntKind.i64.wrap ((q : Int) + 1 + (p : Int)) = (q : Int) + 1 + (p : Int) := by rw [IntWalk.i64_in _ (by omega)]
      clear Hs2 hz
      go_region_held3 (fun W => w.heap.size ≤ W.heap.size ∧ Below w.heap.size w W) (first | exact H1 | exact held0 (by assumption) (by assumption))
        (first
          | (go_at_call 22; refine (Hs3.out _).mono ?_; rintro e w' ⟨rfl, hb9⟩))
      have hB := held0_below (W := w') (w := w) (by assumption)
      go_wp2
      go_meet
      case rel => exact ⟨rfl, hB⟩
    · have hd : decide ((q : Int) ≤ 4096) = false := decide_eq_false (by omega)
      go_quiet (fail)
      go_wp2
      go_meet
      case rel => exact ⟨rfl, bdN hb3 nq⟩
  case rest =>
    obtain ⟨rfl, hB⟩ := hcut
    clear hb3
    go_wp2_with fail
    refine (Hlog2.out _).mono ?_
    rintro e w6 ⟨rfl, rfl⟩
    go_wp2_with fail
    refine (Hg2.out _).mono ?_
    rintro e w6 ⟨rfl, hb6⟩
    have hf6 := hB.trans (hb6.mono hB.size)
    clear hb6 hB
    obtain ⟨m, hm⟩ : ∃ m : Nat, v + 1 = m := ⟨_, rfl⟩
    have i1 : (v : Int) + 1 = (m : Int) := by omega
    have hv6 : ((m : Int) == 1) = true := by rw [beq_iff_eq]; have := Hc.out; omega
    have hv4 : ¬ (4294967296 : Int) < (m : Int) := by have := Hc.out; omega
    clear hm
    go_wp2
    go_ret
    exact ⟨rfl, hf6⟩
end Go.Proofs.Ytfahcmiignnnkaa
