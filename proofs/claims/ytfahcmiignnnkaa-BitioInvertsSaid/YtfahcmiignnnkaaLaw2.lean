/-
  The laws of the bit strings: sizes and bytes are those of the definitions.
-/
import Derived.Test.YtfahcmiignnnkaaLaw0
import Derived.Test.YtfahcmiignnnkaaRef5
import Derived.Deep.RegionHeld3
namespace Go.Proofs.Ytfahcmiignnnkaa
open Go.RowKit Go.Proofs Wv Wv.Bit

/-- Three cells of a block hold what they held, behind a call that turns nothing old. -/
theorem held3 {W W' : World} {B : Nat} {x y z : Value} {w : World} {b : Nat} (h : W.cell? ⟨B, 0, none⟩ = some x ∧ W.cell? ⟨B, 1, none⟩ = some y ∧ W.cell? ⟨B, 2, none⟩ = some z ∧ B < W.heap.size ∧ b ≤ W.heap.size ∧ Below b w W) (hb : Below W.heap.size W W') :
    W'.cell? ⟨B, 0, none⟩ = some x ∧ W'.cell? ⟨B, 1, none⟩ = some y ∧ W'.cell? ⟨B, 2, none⟩ = some z ∧ B < W'.heap.size ∧ b ≤ W'.heap.size ∧ Below b w W' := by
  obtain ⟨h0, h1, h2, h3, h4, h5⟩ := h
  refine ⟨(hb.cell h3).trans h0, (hb.cell h3).trans h1, (hb.cell h3).trans h2, Nat.lt_of_lt_of_le h3 hb.size, Nat.le_trans h4 hb.size, h5.trans (hb.mono h4)⟩
theorem held3_new {w : World} {W : World} {b : Nat} {x y z : Value} {t : TypeId} (hb : Below b w W) (hB : b ≤ W.heap.size) :
    ((W.alloc (.cells #[x, y, z] t)).drew).cell? ⟨W.heap.size, 0, none⟩ = some x ∧ ((W.alloc (.cells #[x, y, z] t)).drew).cell? ⟨W.heap.size, 1, none⟩ = some y ∧ ((W.alloc (.cells #[x, y, z] t)).drew).cell? ⟨W.heap.size, 2, none⟩ = some z ∧ W.heap.size < ((W.alloc (.cells #[x, y, z] t)).drew).heap.size ∧ b ≤ ((W.alloc (.cells #[x, y, z] t)).drew).heap.size ∧ Below b w ((W.alloc (.cells #[x, y, z] t)).drew) :=
  ⟨(Bk.new W t #[x, y, z]).drew.cell 0, (Bk.new W t #[x, y, z]).drew.cell 1, (Bk.new W t #[x, y, z]).drew.cell 2, (Bk.new W t #[x, y, z]).drew.lt, Nat.le_trans hB (Nat.le_of_lt (Bk.new W t #[x, y, z]).drew.lt), (hb.alloc hB _).drew⟩
theorem held3_below {W : World} {B : Nat} {x y z : Value} {w : World} {b : Nat} (h : W.cell? ⟨B, 0, none⟩ = some x ∧ W.cell? ⟨B, 1, none⟩ = some y ∧ W.cell? ⟨B, 2, none⟩ = some z ∧ B < W.heap.size ∧ b ≤ W.heap.size ∧ Below b w W) : Below b w W := h.2.2.2.2.2
theorem few_any {A : Option Addr} (n cap m : Nat) (w : World) :
    Calls Try.prog 21 #[.slice A n cap, .int .i64 m] w fun e w' => e = .returned (.bool (decide (n ≤ m))) ∧ w = w' := by
  by_cases h : (n : Int) ≤ (m : Int)
  · have hd : decide (n ≤ m) = true := decide_eq_true (by omega)
    rw [hd]
    clear hd
    go_enter Try.func21, Try.ntmps21
    go_wp2
    go_ret
    exact ⟨rfl, rfl⟩
  · have hd : decide (n ≤ m) = false := decide_eq_false (by omega)
    rw [hd]
    clear hd
    go_enter Try.func21, Try.ntmps21
    go_wp2
    go_ret
    exact ⟨rfl, rfl⟩
attribute [local go_sem ↓] Go.wp_at_zero Go.wp_at_succ
set_option maxHeartbeats 2000000 in
theorem sizes_any {A : Option Addr} {l : List Cd} {w : World} (h : CodesAt w A l) (hk : ∀ c ∈ l, CdOk c) (n cap : Nat) (hn : n = l.length) (hm : n ≤ 9223372036854775807) :
    Calls Try.prog 6 #[.slice A n cap] w fun e w' => e = .returned (.bool true) ∧ Below w.heap.size w w' := by
  have Ha := hide awake_any
  have Hl := hide hn
  have hnl : n ≤ l.length := by omega
  have Hf := hide (few_any (A := A) n cap 20)
  clear hn
  go_enter Try.func6, Try.ntmps6
  go_wp2_with fail
  refine (Ha.out _).mono ?_
  rintro e w1 ⟨rfl, hb1⟩
  by_cases hc : n ≤ 20
  · have hd : decide (n ≤ 20) = true := decide_eq_true hc
    rw [hd] at Hf
    clear hd
    go_wp2_with fail
    refine (Hf.out _).mono ?_
    rintro e w2 ⟨rfl, rfl⟩
    have hc1 := h.below hb1
    go_wp2
    go_loopw [16] (fun i wr => ∃ k : Nat, k ≤ n ∧ i = .int .i64 k ∧ Below w.heap.size w wr ∧ CodesAt wr A l) (fun i _ => (n - intOf i).toNat)
    case atStart => exact ⟨0, by omega, rfl, hb1, hc1⟩
    case round =>
      clear hb1 hc1
      obtain ⟨k, hkn, rfl, hf, hc2⟩ := hrel
      by_cases hlt : k < n
      · obtain ⟨b, o, rfl, hbw, c0, c1, c2⟩ := hc2 k (by omega)
        obtain ⟨c, hcd⟩ : ∃ c, l[k] = c := ⟨_, rfl⟩
        rw [hcd] at c0 c1 c2
        obtain ⟨_, ⟨_, hp2⟩, hv1, hv2⟩ := hk c (hcd ▸ List.getElem_mem _)
        clear hcd
        have Hp := hide (psize_any c.k c.p c.v hv1 hv2)
        have Hq := hide (fun W => refsize_any c.k c.p c.v W hp2 hv2)
        obtain ⟨z, hz⟩ : ∃ z : Nat, csz c.k c.p c.v = z := ⟨_, rfl⟩
        have hz2 : csize c.k c.p c.v = z := hz
        rw [hz] at Hp
        rw [hz2] at Hq
        clear hz hz2
        have hsz := hf.size
        have H1 := held3_new (x := .int .i64 c.k) (y := .int .i64 c.p) (z := .int .i64 c.v) (t := 42) hf hsz
        go_wp2
        clear c0 c1 c2
        go_region_held3 (fun W => W.cell? ⟨wr.heap.size, 0, none⟩ = some (.int .i64 c.k) ∧ W.cell? ⟨wr.heap.size, 1, none⟩ = some (.int .i64 c.p) ∧ W.cell? ⟨wr.heap.size, 2, none⟩ = some (.int .i64 c.v) ∧ wr.heap.size < W.heap.size ∧ w.heap.size ≤ W.heap.size ∧ Below w.heap.size w W) (first | exact H1 | exact held3 (by assumption) (by assumption))
          (first
            | (go_at_call 22; refine (Hp.out _).mono ?_; rintro e w' ⟨rfl, hb2⟩)
            | (go_at_call 23; refine (Hq.out _).mono ?_; rintro e w' ⟨rfl, hb3⟩))
        have hB := held3_below (W := w') (w := w) (by assumption)
        have hc9 := h.below hB
        clear H1 Hp Hq hc2 hf
        go_wp2
        go_roundw
        case rel => exact ⟨k + 1, by omega, by go_num, hB, hc9⟩
        case measure => simp [intOf]; omega
      · have H3 := hide (encode_any hc2 hk n cap Hl.out hm)
        go_wp2_with fail
        refine (H3.out).mono ?_
        rintro e w3 ⟨rfl, hb3⟩
        have H4 := hide (refencode_any (hc2.below hb3) hk n cap Hl.out hm)
        obtain ⟨q, hq⟩ : ∃ q, encR l = q := ⟨_, rfl⟩
        have hq2 : encRr l = q := hq
        rw [hq2] at H4
        rw [hq]
        clear hq hq2
        go_wp2_with fail
        refine (H4.out).mono ?_
        rintro e w4 ⟨rfl, hb4⟩
        have hf3 := hf.trans (hb3.mono hf.size)
        have hf4 := hf3.trans (hb4.mono hf3.size)
        go_wp2
        go_ret
        exact ⟨rfl, hf4⟩
  · have hd : decide (n ≤ 20) = false := decide_eq_false hc
    rw [hd] at Hf
    clear hd
    go_wp2_with fail
    refine (Hf.out _).mono ?_
    rintro e w2 ⟨rfl, rfl⟩
    go_wp2
    go_ret
    exact ⟨rfl, hb1⟩
end Go.Proofs.Ytfahcmiignnnkaa
