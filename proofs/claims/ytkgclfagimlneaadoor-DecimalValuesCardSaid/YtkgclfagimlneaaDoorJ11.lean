/-
  Joined texts: Ga, Gb.
-/
import Derived.Test.YtkgclfagimlneaaDoorRows
import Derived.Test.YtkgclfagimlneaaDoorJ05
import Derived.Lay
import Derived.LaidMore
import Derived.Lib.LaidTab
import Derived.Test.YtkgclfagimlneaaDoorJ02
import Derived.Test.YtkgclfagimlneaaDoorJ10
set_option linter.unusedVariables false
set_option linter.unusedSimpArgs false
/-
  The variables that the rows list: what they give to the walks.
-/
namespace Go.Proofs.YtkgclfagimlneaaDoor
open Go.RowKit Go.Proofs Wv Wv.Dc
set_option linter.unusedVariables false

def laidL : List (String × DataW Unit) := [("math/bits.deBruijn32tab", Rows.laid_math_bits_deBruijn32tab), ("math/bits.deBruijn64tab", Rows.laid_math_bits_deBruijn64tab), ("internal/strconv.uint64pow10", Rows.laid_internal_strconv_uint64pow10), ("unicode/utf8.acceptRanges", Rows.laid_unicode_utf8_acceptRanges), ("unicode/utf8.first", Rows.laid_unicode_utf8_first)]
theorem laid_tail {P : Program} {x : String × DataW Unit} {l : List (String × DataW Unit)} {W : World} (h : laidMet P (x :: l) W) : laidMet P l W := by
  obtain ⟨n, d⟩ := x
  obtain ⟨ps, ⟨g, t, cs, fuel, p, q, h1, h2, h3, h4, h5, rfl⟩, hn, hr⟩ := h
  refine ⟨q, h5, (List.nodup_append.1 hn).2.1, fun b off hp => hr b off (List.mem_append_right _ hp)⟩
theorem tab_laid {W : World} (h : laidMetH Tryd.prog laidL W) : Lib.TabIs Tryd.prog W "internal/strconv.uint64pow10" .u64 Lib.pow10Tab := by
  rw [MakeChecks.laidMetH_plain _ _ _ (by kernel_rfl)] at h
  have h2 := laid_tail (laid_tail h)
  exact Lib.tabIs_of_head (g := 1) (by kernel_rfl) (t := 100) (e := 75) (n := 20) (by kernel_rfl) (by kernel_rfl) (by kernel_rfl) (by kernel_rfl) (by kernel_rfl) h2
theorem var_below {W W' : World} (hb : Below W.heap.size W W') {cs : Array Value} (h : W.var? Tryd.prog "internal/strconv.uint64pow10" = some cs) : W'.var? Tryd.prog "internal/strconv.uint64pow10" = W.var? Tryd.prog "internal/strconv.uint64pow10" := by
  have hg : Tryd.prog.globalNamed "internal/strconv.uint64pow10" = some 1 := by kernel_rfl
  unfold World.var? at h ⊢
  rw [hg] at h ⊢
  simp only [Option.bind_some] at h ⊢
  have hlt : 1 < W.heap.size := by
    rcases Nat.lt_or_ge 1 W.heap.size with h1 | h1
    · exact h1
    · rw [Array.getElem?_eq_none h1] at h
      cases h
  rw [hb.block _ hlt]
theorem tab_world {W : World} (h : laidMetH Tryd.prog laidL W) : Tab W := fun W' hb => by
  have h1 := tab_laid h
  unfold Lib.TabIs at h1 ⊢
  rw [← h1]
  exact var_below hb h1
end Go.Proofs.YtkgclfagimlneaaDoor
/-
  The laws of decimal numbers: the examples that each checks first; whether texts are short.
-/
namespace Go.Proofs.YtkgclfagimlneaaDoor
open Go.RowKit Go.Proofs Wv Wv.Dc
set_option linter.unusedVariables false

theorem at_new {w : World} {e : Nat} (vs : List Value) : At (w.alloc (.cells vs.toArray e)) (some ⟨w.heap.size, 0, none⟩) vs := by
  have := (Bk.new w e vs.toArray).at_
  simpa using this
theorem bel_new (w : World) (o : Obj) : Below w.heap.size w (w.alloc o) := (Below.refl w.heap.size w).alloc (Nat.le_refl _) o
theorem bel_step {w w1 w2 : World} (h : Below w.heap.size w w1) (k : Below w1.heap.size w1 w2) : Below w.heap.size w w2 := h.trans (k.mono h.size)
set_option maxRecDepth 100000 in
set_option maxHeartbeats 2000000 in
theorem awake_any {w : World} (ht : Tab w) :
    Calls Tryd.prog 10 #[] w fun x w' => x = .returned (.bool true) ∧ Below w.heap.size w w' := by
  have H1 : Hid (∀ W, Below w.heap.size w W → Calls Tryd.prog 13 #[.string ⟨#[48, 46, 48, 48, 49, 50, 48, 69, 51]⟩] W fun x w' => x = .returned (.tuple #[.string ⟨#[49, 46, 50, 101, 48]⟩, .int .i64 0]) ∧ Below W.heap.size W w') := hide (fun W h => by
    have := pparse_any (w := W) ⟨#[48, 46, 48, 48, 49, 50, 48, 69, 51]⟩ (ht.below h)
    rw [show toL ⟨#[48, 46, 48, 48, 49, 50, 48, 69, 51]⟩ = [48, 46, 48, 48, 49, 50, 48, 69, 51] from rfl, ex1] at this
    exact this)
  have H2 : Hid (∀ W, Below w.heap.size w W → Calls Tryd.prog 13 #[.string ⟨#[45, 48, 101, 57]⟩] W fun x w' => x = .returned (.tuple #[.string ⟨#[48]⟩, .int .i64 0]) ∧ Below W.heap.size W w') := hide (fun W h => by
    have := pparse_any (w := W) ⟨#[45, 48, 101, 57]⟩ (ht.below h)
    rw [show toL ⟨#[45, 48, 101, 57]⟩ = [45, 48, 101, 57] from rfl, ex2] at this
    exact this)
  have H3 : Hid (∀ W, Below w.heap.size w W → Calls Tryd.prog 18 #[.string ⟨#[57, 46, 57, 101, 48]⟩, .string ⟨#[49, 101, 45, 49]⟩] W fun x w' => x = .returned (.tuple #[.string ⟨#[49, 101, 49]⟩, .int .i64 0]) ∧ Below W.heap.size W w') := hide (fun W h => by
    have := psumS_any (w := W) ⟨#[57, 46, 57, 101, 48]⟩ ⟨#[49, 101, 45, 49]⟩ (ht.below h)
    rw [show toL ⟨#[57, 46, 57, 101, 48]⟩ = [57, 46, 57, 101, 48] from rfl, show toL ⟨#[49, 101, 45, 49]⟩ = [49, 101, 45, 49] from rfl, ex3] at this
    exact this)
  have H4 : Hid (∀ W, Below w.heap.size w W → Calls Tryd.prog 11 #[.string ⟨#[49, 46, 53, 101, 45, 50]⟩] W fun x w' => x = .returned (.tuple #[.string ⟨#[48, 46, 48, 49, 53]⟩, .bool true]) ∧ Below W.heap.size W w') := hide (fun W h => by
    have := pplainS_any (w := W) ⟨#[49, 46, 53, 101, 45, 50]⟩ (ht.below h)
    rw [show toL ⟨#[49, 46, 53, 101, 45, 50]⟩ = [49, 46, 53, 101, 45, 50] from rfl, ex4] at this
    exact this)
  have H5 : Hid (∀ W, Below w.heap.size w W → Calls Tryd.prog 20 #[.string ⟨#[49, 101, 48]⟩, .string ⟨#[49, 46, 49, 101, 48]⟩, .string ⟨#[49, 101, 45, 49]⟩] W fun x w' => x = .returned (.bool true) ∧ Below W.heap.size W w') := hide (fun W h => by
    have := pwithS_any (w := W) ⟨#[49, 101, 48]⟩ ⟨#[49, 46, 49, 101, 48]⟩ ⟨#[49, 101, 45, 49]⟩ (ht.below h)
    rw [show toL ⟨#[49, 101, 48]⟩ = [49, 101, 48] from rfl, show toL ⟨#[49, 46, 49, 101, 48]⟩ = [49, 46, 49, 101, 48] from rfl, show toL ⟨#[49, 101, 45, 49]⟩ = [49, 101, 45, 49] from rfl, ex5] at this
    exact this)
  clear ht
  go_enter Tryd.func10, Tryd.ntmps10
  go_wp2_with fail
  refine (H1.out w (Below.refl _ _)).mono ?_
  rintro x w1 ⟨rfl, hb⟩
  have Hb1 := hide hb
  clear hb
  go_wp2_with fail
  refine (H2.out w1 Hb1.out).mono ?_
  rintro x w2 ⟨rfl, hb⟩
  have Hb2 := hide (bel_step Hb1.out hb)
  clear hb
  go_wp2_with fail
  refine (H3.out w2 Hb2.out).mono ?_
  rintro x w3 ⟨rfl, hb⟩
  have Hb3 := hide (bel_step Hb2.out hb)
  clear hb
  go_wp2_with fail
  refine (H4.out w3 Hb3.out).mono ?_
  rintro x w4 ⟨rfl, hb⟩
  have Hb4 := hide (bel_step Hb3.out hb)
  clear hb
  go_wp2_with fail
  refine (H5.out w4 Hb4.out).mono ?_
  rintro x w5 ⟨rfl, hb⟩
  have Hb5 := hide (bel_step Hb4.out hb)
  clear hb
  go_wp2
  go_returns
  exact ⟨rfl, Hb5.out⟩
def svs (l : List ByteArray) : List Value := l.map Value.string
set_option maxHeartbeats 1000000 in
theorem short_any {w : World} {A : Option Addr} {l : List ByteArray} (h : At w A (svs l)) (n cap : Nat) (hn : n = l.length) (hn9 : n ≤ 10) :
    Calls Tryd.prog 14 #[.slice A n cap] w fun x w' => x = .returned (.bool (l.all fun s => decide (s.size ≤ 100))) ∧ w = w' := by
  have Hat := hide h
  have Hn := hide hn
  clear h hn
  go_enter Tryd.func14, Tryd.ntmps14
  go_wp2
  go_loopw [7] (fun v wr => ∃ i : Nat, i ≤ n ∧ v = .int .i64 (i : Int) ∧ Hid (∀ j (h : j < l.length), j < i → l[j].size ≤ 100) ∧ w = wr) (fun v _ => (n - intOf v).toNat)
  case atStart => exact ⟨0, Nat.zero_le _, rfl, hide (fun j h hj => by omega), rfl⟩
  case round =>
    obtain ⟨i, hi, rfl, hall, rfl⟩ := hrel
    by_cases hlt : i < n
    · have hil : i < l.length := by rw [← Hn.out]; exact hlt
      obtain ⟨b, o, rfl, hb, hc⟩ := Hat.out i (by unfold svs; rw [List.length_map]; exact hil)
      have hc2 : w.cell? ⟨b, o + i, none⟩ = some (.string l[i]) := by
        rw [hc]
        simp [svs]
      obtain ⟨u, hu⟩ : ∃ u, l[i] = u := ⟨_, rfl⟩
      rw [hu] at hc2
      by_cases hs : u.size ≤ 100
      · have hs2 : ¬ (100 : Int) < (u.size : Int) := by omega
        have Hall : Hid (∀ j (h : j < l.length), j < i + 1 → l[j].size ≤ 100) := hide (fun j h hj => by
          rcases Nat.lt_or_ge j i with h1 | h1
          · exact hall.out j h h1
          · have : j = i := by omega
            subst this
            rw [hu]
            exact hs)
        clear hc hu hall hs hil
        go_wp2
        refine ⟨⟨i + 1, hlt, by go_num, Hall, by first | trivial | rfl⟩, ?_⟩
        simp [intOf] <;> omega
      · have hs2 : (100 : Int) < (u.size : Int) := by omega
        have hf : Hid ((l.all fun s => decide (s.size ≤ 100)) = false) := hide (by
          rw [Bool.eq_false_iff]
          intro h
          rw [List.all_eq_true] at h
          have := h u (hu ▸ List.getElem_mem _)
          simp at this
          exact hs this)
        clear hc hu hall hs hil
        go_wp2
        go_returns
        exact ⟨ret_bool hf.out.symm, rfl⟩
    · have hin : i = n := by omega
      have hf : Hid ((l.all fun s => decide (s.size ≤ 100)) = true) := hide (by
        rw [List.all_eq_true]
        intro s hs
        obtain ⟨j, hj, rfl⟩ := List.getElem_of_mem hs
        have := hall.out j hj (by rw [hin, Hn.out]; exact hj)
        simpa using this)
      subst hin
      clear hall
      go_wp2
      go_returns
      exact ⟨ret_bool hf.out.symm, rfl⟩
end Go.Proofs.YtkgclfagimlneaaDoor
