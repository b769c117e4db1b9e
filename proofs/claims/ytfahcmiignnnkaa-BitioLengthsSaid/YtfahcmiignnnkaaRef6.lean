/-
  The walks over the reference of the bit strings, sixth part: the bits in bytes.
-/
import Derived.Test.YtfahcmiignnnkaaRef5
namespace Go.Proofs.Ytfahcmiignnnkaa
open Go.RowKit Go.Proofs Wv Wv.Bit

theorem ret_sb {s t : ByteArray} {a b : Bool} (h : s = t) (h2 : a = b) : Ending.returned (.tuple #[.string s, .bool a]) = .returned (.tuple #[.string t, .bool b]) := by rw [h, h2]
/-- The text that is made of bytes, as far as it stands. -/
def rows (s : ByteArray) (k : Nat) : List UInt8 := (rbits s k).map dig ++ List.replicate (8 * s.size - k) 0
theorem rows_length (s : ByteArray) (k : Nat) (h : k ≤ 8 * s.size) : (rows s k).length = 8 * s.size := by simp [rows, rbits_length]; omega
theorem rows_succ (s : ByteArray) (k : Nat) (h : k < 8 * s.size) : rows s (k + 1) = (rows s k).set k (dig (rbit s k)) := by
  have h1 : (rbits s (k + 1)).map dig = (rbits s k).map dig ++ [dig (rbit s k)] := by simp [rbits, List.range_succ]
  unfold rows
  rw [h1, List.set_append_right _ _ (by simp [rbits_length])]
  simp only [List.length_map, rbits_length, Nat.sub_self]
  rw [show 8 * s.size - k = (8 * s.size - (k + 1)) + 1 from by omega, List.replicate_succ, List.set_cons_zero, List.append_assoc]
  rfl
theorem rows_get? (s : ByteArray) (k j : Nat) (hj : j < k) : (rows s k)[j]? = some (dig (rbit s j)) := by
  unfold rows
  rw [List.getElem?_append_left (by simp [rbits_length]; exact hj)]
  simp [rbits, hj]
theorem rows_get (s : ByteArray) (k j : Nat) (hj : j < k) (h : j < (rows s k).length) : (rows s k)[j] = dig (rbit s j) :=
  (List.getElem?_eq_some_iff.1 (rows_get? s k j hj)).2
theorem rows_take (s : ByteArray) (n : Nat) (h : n ≤ 8 * s.size) : rows s (8 * s.size) = (rbits s n).map dig ++ (rows s (8 * s.size)).drop n := by
  have : (rbits s n).map dig = (rows s (8 * s.size)).take n := by
    apply List.ext_getElem
    · rw [List.length_take, rows_length _ _ (Nat.le_refl _), List.length_map, rbits_length]; omega
    · intro j h1 h2
      have h3 : j < n := by simpa [rbits_length] using h1
      rw [List.getElem_take, rows_get s _ j (by omega)]
      simp [rbits]
  rw [this, List.take_append_drop]

theorem fill_arith (s : ByteArray) (k z : Nat) (hz : k / 8 = z) (h : z < s.size) : (48 + Go.bits .and .u8 ((s[z].toNat : Int) / 2 ^ (7 - k % 8)) 1) % 256 = ((dig (rbit s k)).toNat : Int) := by
  subst hz
  have h1 : ((s[k / 8].toNat : Int)) / 2 ^ (7 - k % 8) = ((s[k / 8].toNat / 2 ^ (7 - k % 8) : Nat) : Int) := by push_cast; rfl
  have h2 : s[k / 8].toNat / 2 ^ (7 - k % 8) < 256 := Nat.lt_of_le_of_lt (Nat.div_le_self _ _) (UInt8.toNat_lt _)
  rw [h1, and1_u8 _ h2, dig_nat, rbit_nat s k h]
  omega

set_option maxHeartbeats 1000000 in
theorem refread_main (s : ByteArray) (w : World) (n : Nat) (h : IsLast s n) (hs : s.size ≤ 8193) (hl : s.data.toList.getD (s.size - 1) 0 ≠ 0) :
    Calls Try.prog 12 #[.string s] w fun e w' => e = .returned (.tuple #[.string (txt (rbits s n)), .bool (decide (n ≤ 65536))]) ∧ Below w.heap.size w w' := by
  have hn := h.1
  have hlt : s.size - 1 < s.size := by omega
  have hpos : 0 < s.size := by omega
  obtain ⟨x, hx⟩ : ∃ x, s[s.size - 1] = x := ⟨_, rfl⟩
  have hx2 : s.data.toList.getD (s.size - 1) 0 = x := by
    rw [← hx]
    simp only [List.getD, Array.getElem?_toList]
    rw [Array.getElem?_eq_getElem (show s.size - 1 < s.data.size from hlt)]
    rfl
  have hb : ((x.toNat : Int) == 0) = false := by
    rw [beq_eq_false_iff_ne]
    intro e
    exact hl (hx2.trans (by
      have e2 : x.toNat = 0 := by omega
      have := congrArg UInt8.ofNat e2
      simpa using this))
  have hs0 : ((s.size : Int) == 0) = false := by rw [beq_eq_false_iff_ne]; omega
  obtain ⟨M, hM⟩ : ∃ M, 8 * s.size = M := ⟨_, rfl⟩
  have hM2 : 8 * (s.size : Int) = (M : Int) := by omega
  have hmk := mk_row (P := Try.prog) 61 5 _ _ Try.underlying61 u8info rfl ((M : Nat) : Int) M rfl (by omega) (by omega)
  rw [bc_replicate] at hmk
  have hr0 : List.replicate M 0 = rows s 0 := by simp [rows, rbits, hM]
  rw [hr0] at hmk
  have HM := hide hM
  have Hh := hide h
  clear hl hx2 hr0 h hM
  go_enter Try.func12, Try.ntmps12
  go_wp2
  go_loopw [5] (fun i wr => ∃ k : Nat, k ≤ M ∧ i = .int .i64 k ∧ Bk wr w.heap.size 5 (bc (rows s k)) ∧ Below w.heap.size w wr) (fun i _ => (M - intOf i).toNat)
  case atStart => exact ⟨0, by omega, rfl, Bk.new _ _ _, (Below.refl _ _).alloc (Nat.le_refl _) _⟩
  case round =>
    obtain ⟨k, hk, rfl, hbk, hf⟩ := hrel
    by_cases hkM : k < M
    · obtain ⟨z, hz⟩ : ∃ z, k / 8 = z := ⟨_, rfl⟩
      have hzs : z < s.size := by have := HM.out; omega
      have hzs2 : (z : Int) < (s.size : Int) := by omega
      have i3 : (k : Int) / 8 = (z : Int) := by omega
      have hlen := rows_length s k (by have := HM.out; omega)
      have hcl := hbk.cell k
      rw [bc_get _ _ (by have := HM.out; omega)] at hcl
      have hfk := hbk.frozen k
      have Hfa := hide (fill_arith s k z hz hzs)
      have Hsucc := hide (rows_succ s k (by have := HM.out; omega))
      clear hz
      go_wp2
      go_roundw
      case rel =>
        refine ⟨k + 1, by omega, by go_num, ?_, hf.setCell (p := ⟨w.heap.size, k, none⟩) (Nat.le_refl _) _⟩
        rw [Hfa.out]
        have := hbk.put k (.int .u8 ((dig (rbit s k)).toNat : Int))
        rw [bc_set _ _ _ (by omega) (by have := UInt8.toNat_lt (dig (rbit s k)); omega), Int.toNat_natCast] at this
        rw [Hsucc.out]
        simpa using this
      case measure => simp [intOf]; omega
    · have hkM2 : k = M := by omega
      subst hkM2
      have hk8 := HM.out
      have hall : Bk wr w.heap.size 5 (bc (rows s (8 * s.size))) := by rw [hk8]; exact hbk
      have Hall := hide hall
      clear hbk hall hk8 hmk
      go_wp2
      go_loop [6] (fun i => ∃ j : Nat, n ≤ j ∧ j < k ∧ i = .int .i64 j) (fun i => (intOf i).toNat)
      case atStart => exact ⟨k - 1, by have := HM.out; omega, by have := HM.out; omega, by congr 1; have := HM.out; omega⟩
      case round =>
        obtain ⟨j, hj1, hj2, rfl⟩ := hrel
        have hcl := Hall.out.cell j
        have hg8 := HM.out
        rw [bc_get _ _ (by rw [rows_length _ _ (Nat.le_refl _)]; omega), rows_get s _ j (by omega), dig_nat] at hcl
        clear hg8
        by_cases hbit : rbit s j = true
        · have hjn : j = n := by
            rcases Nat.lt_or_ge n j with h9 | h9
            · have := Hh.out.2.2 j h9 (by have := HM.out; omega)
              rw [hbit] at this; cases this
            · omega
          have e1 : (((48 + (rbit s j).toNat : Nat) : Int) == 48) = false := by rw [hbit]; rfl
          have hcv := conv_all (P := Try.prog) 61 9 5 Try.underlying61 Try.underlying5 Try.underlying9 wr w.heap.size j k ((rbits s j).map dig) ((rows s (8 * s.size)).drop j) (by rw [← rows_take s j (by have := HM.out; omega)]; exact Hall.out) (by simp [rbits_length])
          have hd := hide (show decide ((j : Int) ≤ 65536) = decide (n ≤ 65536) from by rw [hjn]; simp; omega)
          have Hjn := hide hjn
          clear hbit hjn
          generalize ((48 + (rbit s j).toNat : Nat) : Int) = y at *
          go_wp2
          go_ret2
          exact ⟨ret_sb (by rw [← Hjn.out]; rfl) hd.out, hf⟩
        · have hbf : rbit s j = false := by simpa using hbit
          have hne : n ≠ j := fun e => by
            have := Hh.out.2.1
            rw [e, hbf] at this; cases this
          have e1 : (((48 + (rbit s j).toNat : Nat) : Int) == 48) = true := by rw [hbf]; rfl
          clear hbit hbf
          generalize ((48 + (rbit s j).toNat : Nat) : Int) = y at *
          go_wp2
          go_round
          case rel => exact ⟨j - 1, by omega, by omega, by congr 1; omega⟩
          case measure => simp [intOf]; omega

set_option maxHeartbeats 400000 in
theorem refread_few (s : ByteArray) (w : World) (h : s.size = 0 ∨ s.data.toList.getD (s.size - 1) 0 = 0 ∨ 8193 < s.size) (h9 : s.size ≤ 9223372036854775807) :
    Calls Try.prog 12 #[.string s] w fun e w' => e = .returned (.tuple #[.string ⟨#[]⟩, .bool false]) ∧ Below w.heap.size w w' := by
  by_cases h0 : s.size = 0
  · have hs0 : ((s.size : Int) == 0) = true := by rw [beq_iff_eq]; omega
    clear h h0
    go_enter Try.func12, Try.ntmps12
    go_wp2
    go_ret2
    exact ⟨rfl, Below.refl _ _⟩
  · have hlt : s.size - 1 < s.size := by omega
    have hpos : 0 < s.size := by omega
    obtain ⟨x, hx⟩ : ∃ x, s[s.size - 1] = x := ⟨_, rfl⟩
    have hx2 : s.data.toList.getD (s.size - 1) 0 = x := by
      rw [← hx]
      simp only [List.getD, Array.getElem?_toList]
      rw [Array.getElem?_eq_getElem (show s.size - 1 < s.data.size from hlt)]
      rfl
    have hs0 : ((s.size : Int) == 0) = false := by rw [beq_eq_false_iff_ne]; omega
    by_cases hz : x = 0
    · have hb : ((x.toNat : Int) == 0) = true := by rw [hz]; rfl
      clear h h0 hx2 hz
      go_enter Try.func12, Try.ntmps12
      go_wp2
      go_ret2
      exact ⟨rfl, Below.refl _ _⟩
    · have h8 : 8193 < s.size := by
        rcases h with h | h | h
        · omega
        · exact (hz (hx2.symm.trans h)).elim
        · exact h
      have hb : ((x.toNat : Int) == 0) = false := by
        rw [beq_eq_false_iff_ne]
        intro e
        exact hz (by
          have e2 : x.toNat = 0 := by omega
          have := congrArg UInt8.ofNat e2
          simpa using this)
      clear h h0 hx2 hz
      go_enter Try.func12, Try.ntmps12
      go_wp2
      go_ret2
      exact ⟨rfl, Below.refl _ _⟩

theorem refread_none (s : ByteArray) (w : World) (h : nrd s = none) (h9 : s.size ≤ 9223372036854775807) :
    Calls Try.prog 12 #[.string s] w fun e w' => (∃ t, e = .returned (.tuple #[.string t, .bool false])) ∧ Below w.heap.size w w' := by
  by_cases h0 : s.size = 0 ∨ s.data.toList.getD (s.size - 1) 0 = 0 ∨ 8193 < s.size
  · exact (refread_few s w h0 h9).mono fun e w' ⟨a, b⟩ => ⟨⟨_, a⟩, b⟩
  · have a1 : s.size ≠ 0 := fun e => h0 (.inl e)
    have a2 : s.data.toList.getD (s.size - 1) 0 ≠ 0 := fun e => h0 (.inr (.inl e))
    have a3 : s.size ≤ 8193 := by
      rcases Nat.lt_or_ge 8193 s.size with c | c
      · exact (h0 (.inr (.inr c))).elim
      · exact c
    have hl := last_of s a1 a2
    have hn := nrd_of hl a1 a2
    rw [h] at hn
    have hm := refread_main s w _ hl a3 a2
    rw [show decide (8 * s.size - 1 - Lib.trailingZeros8 (s.data.toList.getD (s.size - 1) 0).toNat ≤ 65536) = false from by
      rw [decide_eq_false_iff_not]
      intro c
      rw [if_neg (by omega)] at hn
      cases hn] at hm
    exact hm.mono fun e w' ⟨a, b⟩ => ⟨⟨_, a⟩, b⟩
theorem refread_some (s : ByteArray) (w : World) (n : Nat) (h : nrd s = some n) :
    Calls Try.prog 12 #[.string s] w fun e w' => e = .returned (.tuple #[.string (txt (rbits s n)), .bool true]) ∧ Below w.heap.size w w' := by
  obtain ⟨a1, a2, a3⟩ := nrd_le h
  have hl : s.data.toList.getD (s.size - 1) 0 ≠ 0 := fun e => by rw [nrd_none1 e] at h; cases h
  have := refread_main s w n a2 a3 hl
  rw [show decide (n ≤ 65536) = true from by simpa using a1] at this
  exact this
end Go.Proofs.Ytfahcmiignnnkaa
