/-
  The walks over the bit strings of the program: a reader of bytes; Encode.
-/
import Derived.Test.YtfahcmiignnnkaaPw7
import Derived.Test.YtfahcmiignnnkaaBits4
import Derived.Test.YtfahcmiignnnkaaPr9
namespace Go.Proofs.Ytfahcmiignnnkaa
open Go.RowKit Go.Proofs Wv Wv.Bit

theorem byte_last (s : ByteArray) (h : s.size - 1 < s.size) : s.data.toList.getD (s.size - 1) 0 = s[s.size - 1] := by
  simp only [List.getD, Array.getElem?_toList]
  rw [Array.getElem?_eq_getElem (show s.size - 1 < s.data.size from h)]
  rfl
theorem toList_len (s : ByteArray) : s.toList.length = s.size := by
  rw [Lib.toList_data, ← Lib.size_eq]
theorem toList_ne (s : ByteArray) (h : 0 < s.size) : ¬ s.toList = [] := fun e => by
  have := toList_len s
  rw [e] at this; simp at this; omega
theorem isEmpty_false (s : ByteArray) (h : 0 < s.size) : s.toList.isEmpty = false := by
  have := toList_ne s h
  simpa using this

set_option maxHeartbeats 400000 in
theorem newreader_none (s : ByteArray) (w : World) (hs : s.size ≤ 9223372036854775807) (h8 : s.size ≤ 1000000000000000) (h : nrd s = none) :
    Calls Try.prog 11 #[.string s] w fun e w' => e = .returned (.tuple #[.pointer none, .int .i64 12]) ∧ Below w.heap.size w w' := by
  by_cases h0 : s.size = 0
  · have he : s = ⟨#[]⟩ := by
      apply ByteArray.ext
      exact Array.eq_empty_of_size_eq_zero h0
    subst he
    clear h h0 hs h8
    go_enter Try.func11, Try.ntmps11
    go_wp2
    go_ret2
    exact ⟨rfl, Below.refl _ _⟩
  · have hpos : 0 < s.size := by omega
    have hlt : s.size - 1 < s.size := by omega
    obtain ⟨x, hx⟩ : ∃ x, s[s.size - 1] = x := ⟨_, rfl⟩
    have hx2 : s.data.toList.getD (s.size - 1) 0 = x := by rw [byte_last s hlt, hx]
    have hE := isEmpty_false s hpos
    have hE2 := toList_ne s hpos
    by_cases hz : x = 0
    · have hb : ((x.toNat : Int) == 0) = true := by subst hz; rfl
      clear h hx2 h0 hz
      go_enter Try.func11, Try.ntmps11
      go_wp2
      go_ret2
      exact ⟨rfl, Below.refl _ _⟩
    · have hb : ((x.toNat : Int) == 0) = false := by
        rw [beq_eq_false_iff_ne]
        intro e
        exact hz (by
          have e2 : x.toNat = 0 := by omega
          have := congrArg UInt8.ofNat e2
          simpa using this)
      have hn : 65536 < 8 * s.size - 1 - Lib.trailingZeros8 x.toNat := by
        unfold nrd at h
        rw [if_neg h0, hx2, if_neg hz] at h
        split at h
        · assumption
        · cases h
      have ht : Lib.trailingZeros8 x.toNat ≤ 8 := Lib.trailingZeros8_le8 ⟨_, UInt8.toNat_lt _⟩
      have Ht := hide (fun w => Go.Proofs.Try.bits_TrailingZeros8 (x.toNat : Int) w (by omega) (by have := UInt8.toNat_lt x; omega))
      rw [Int.toNat_natCast] at Ht
      generalize Lib.trailingZeros8 x.toNat = t at *
      clear h hx2 h0 hz
      go_enter Try.func11, Try.ntmps11
      go_wp2_with (go_at_call 27; refine (Ht.out _).mono ?_; rintro e w1 ⟨rfl, rfl⟩)
      go_ret2
      exact ⟨rfl, Below.refl _ _⟩

set_option maxHeartbeats 400000 in
theorem newreader_some (s : ByteArray) (w : World) (n : Nat) (h : nrd s = some n) :
    Calls Try.prog 11 #[.string s] w fun e w' => e = .returned (.tuple #[.pointer (some ⟨w.heap.size, 0, none⟩), .int .i64 0]) ∧ RdAt w' w.heap.size s 0 n ∧ Below w.heap.size w w' := by
  obtain ⟨a1, a2, a3⟩ := nrd_le h
  by_cases h0 : s.size = 0
  · rw [nrd_none0 h0] at h; cases h
  · have hpos : 0 < s.size := by omega
    have hlt : s.size - 1 < s.size := by omega
    obtain ⟨x, hx⟩ : ∃ x, s[s.size - 1] = x := ⟨_, rfl⟩
    have hx2 : s.data.toList.getD (s.size - 1) 0 = x := by rw [byte_last s hlt, hx]
    have hE := isEmpty_false s hpos
    have hE2 := toList_ne s hpos
    have hz : x ≠ 0 := fun e => by
      rw [nrd_none1 (hx2.trans e)] at h; cases h
    have hb : ((x.toNat : Int) == 0) = false := by
      rw [beq_eq_false_iff_ne]
      intro e
      exact hz (by
        have e2 : x.toNat = 0 := by omega
        have := congrArg UInt8.ofNat e2
        simpa using this)
    have hn : n = 8 * s.size - 1 - Lib.trailingZeros8 x.toNat := by
      unfold nrd at h
      rw [if_neg h0, hx2, if_neg hz] at h
      split at h
      · cases h
      · injection h with h; exact h.symm
    have ht : Lib.trailingZeros8 x.toNat < 8 := (tz8_spec ⟨x.toNat, UInt8.toNat_lt x⟩ (fun e => hz (by
      have := congrArg UInt8.ofNat e
      simpa using this))).1
    have Ht := hide (fun w => Go.Proofs.Try.bits_TrailingZeros8 (x.toNat : Int) w (by omega) (by have := UInt8.toNat_lt x; omega))
    rw [Int.toNat_natCast] at Ht
    generalize Lib.trailingZeros8 x.toNat = t at *
    have hc : 8 * (s.size : Int) - 1 - (t : Int) = (n : Int) := by
      have := a2.1
      by_cases h8 : 8 * s.size - 1 < t
      · omega
      · omega
    have hq := a2.1
    have hs9 : s.size ≤ 9223372036854775807 := by omega
    clear h hx2 h0 hz hn a2
    go_enter Try.func11, Try.ntmps11
    go_wp2_with (go_at_call 27; refine (Ht.out _).mono ?_; rintro e w1 ⟨rfl, rfl⟩)
    go_ret2
    exact ⟨rfl, ⟨Bk.new _ _ _, by omega, a1, by omega⟩, (Below.refl _ _).alloc (Nat.le_refl _) _⟩
end Go.Proofs.Ytfahcmiignnnkaa
