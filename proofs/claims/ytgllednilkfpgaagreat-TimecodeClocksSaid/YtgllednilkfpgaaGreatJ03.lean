/-
  Joined texts: Va, Vb, Vc, Vd, Ve, Vf.
-/
import Derived.Test.YtgllednilkfpgaaGreatChecked
import Derived.Test.YtgllednilkfpgaaGreatJ01
import Derived.Test.YtgllednilkfpgaaGreatJ02
import Derived.WalkKit
import Derived.WalkSpells
import Derived.WalkLawsBesides
import Derived.Deep.QuietTactic
import Derived.BigQuiet
import Derived.IntWalk
import Derived.Outline
import Derived.Laws.BitsAllLaws
set_option linter.unusedVariables false
set_option linter.unusedSimpArgs false
/-
  The walks over numbers as bytes, first part: bounds, sizes, the bytes of a number and of a text.
-/
namespace Go.Proofs.YtgllednilkfpgaaGreat
open Go.RowKit Go.Proofs Wv Wv.Vi
set_option linter.unusedVariables false

theorem ret_int {k : IntKind} {a b : Int} (h : a = b) : Ending.returned (.int k a) = .returned (.int k b) := by rw [h]
theorem ret_bool {a b : Bool} (h : a = b) : Ending.returned (.bool a) = .returned (.bool b) := by rw [h]
theorem ret_str {a b : ByteArray} (h : a = b) : Ending.returned (.string a) = .returned (.string b) := by rw [h]

set_option maxHeartbeats 400000 in
theorem bound_any (k : Int) (h0 : 0 ≤ k) (h8 : k ≤ 8) (w : World) :
    Calls Tryz.prog 121 #[.int .i64 k] w fun e w' => e = .returned (.int .i64 (bnd k.toNat : Nat)) ∧ w = w' := by
  obtain ⟨k, rfl⟩ := Int.eq_ofNat_of_zero_le h0
  rw [Int.toNat_natCast]
  have hv := hide bnd_vals
  go_enter Tryz.func121, Tryz.ntmps121
  go_wp2
  go_loop [3, 4] (fun b i => ∃ j : Nat, j ≤ k ∧ i = .int .i64 ((j : Int) + 1) ∧ b = .int .i64 (bnd j : Nat)) (fun _ i => k + 1 - (intOf i).toNat)
  case atStart => exact ⟨0, Nat.zero_le _, rfl, rfl⟩
  case round =>
    obtain ⟨j, hj, rfl, rfl⟩ := hrel
    by_cases hlt : j < k
    · have hb := bnd_le j (by omega)
      have hz : j = 0 ∨ j = 1 ∨ j = 2 ∨ j = 3 ∨ j = 4 ∨ j = 5 ∨ j = 6 ∨ j = 7 := by omega
      rcases hz with rfl | rfl | rfl | rfl | rfl | rfl | rfl | rfl
      all_goals
        go_wp2
        go_round
        case rel => exact ⟨_, hlt, by rfl, by rfl⟩
        case measure => simp [intOf]; omega
    · go_wp2
      go_ret
      exact ⟨ret_int (by rw [show k = j from by omega]), rfl⟩

set_option maxHeartbeats 400000 in
theorem size_any (n : Int) (h0 : 0 ≤ n) (h63 : n ≤ 9223372036854775807) (w : World) :
    Calls Tryz.prog 120 #[.int .i64 n] w fun e w' => e = .returned (.int .i64 ((kof n.toNat : Int) + 1)) ∧ w = w' := by
  obtain ⟨n, rfl⟩ := Int.eq_ofNat_of_zero_le h0
  rw [Int.toNat_natCast]
  have hk8 := kof_le n
  have H := hide bound_any
  go_enter Tryz.func120, Tryz.ntmps120
  go_wp2
  go_loop [3] (fun k => ∃ j : Nat, j ≤ kof n ∧ k = .int .i64 j) (fun k => 9 - (intOf k).toNat)
  case atStart => exact ⟨0, Nat.zero_le _, rfl⟩
  case round =>
    obtain ⟨j, hj, rfl⟩ := hrel
    by_cases h8 : j < 8
    · have hs := kof_step n j h8 hj
      have hb := H.out ((j : Int) + 1) (by omega) (by omega) w
      rw [show (((j : Int) + 1).toNat) = j + 1 from by omega] at hb
      have Hb := hide hb
      by_cases hlt : j < kof n
      · have hle : bnd (j + 1) ≤ n := hs.2 hlt
        clear hs hb
        go_wp2_with (go_at_call 121; refine (Hb.out).mono ?_; rintro e w' ⟨rfl, rfl⟩)
        go_round
        case rel => exact ⟨j + 1, by omega, by go_num⟩
        case measure => simp [intOf]; omega
      · have hle : ¬ bnd (j + 1) ≤ n := fun h => hlt (hs.1 h)
        clear hs hb
        go_wp2_with (go_at_call 121; refine (Hb.out).mono ?_; rintro e w' ⟨rfl, rfl⟩)
        go_ret
        exact ⟨ret_int (by omega), rfl⟩
    · go_wp2
      go_ret
      exact ⟨ret_int (by omega), rfl⟩
end Go.Proofs.YtgllednilkfpgaaGreat
/-
  The walks over numbers as bytes, second part: the bytes of a number and of a text.
-/
namespace Go.Proofs.YtgllednilkfpgaaGreat
open Go.RowKit Go.Proofs Wv Wv.Vi
set_option linter.unusedVariables false

theorem u8info : (Tryz.prog.info? 5).map (fun i => (i.zero, i.size, i.bytes)) = some (some (.int .u8 0), 1, 1) := by kernel_rfl
theorem u8bytes : (Tryz.prog.info? 5).map (fun i => i.bytes) = some 1 := by kernel_rfl
theorem first_all : ∀ k : Nat, k < 9 → ∀ r : Nat, r < 128 → (k ≤ 7 → r < 2 ^ (7 - k)) → (k = 8 → r = 0) → bits .or .u8 (((65280 / 2 ^ k % 256 : Nat) : Int)) (r : Int) = ((256 - 2 ^ (8 - k) + r : Nat) : Int) := by decide +kernel
theorem sh_cast (k : Nat) : (65280 : Int) / 2 ^ k % 256 = ((65280 / 2 ^ k % 256 : Nat) : Int) := by
  rw [Int.natCast_emod, Int.natCast_ediv, Int.natCast_pow]
  rfl
theorem be_set (k j r : Nat) (hj : 0 < j) (hjk : j ≤ k) : (List.replicate (j + 1) (0 : UInt8) ++ be (k - j) r).set j (UInt8.ofNat (r / 256 ^ (k - j) % 256)) = List.replicate (j - 1 + 1) 0 ++ be (k - (j - 1)) r := by
  have h1 : k - (j - 1) = k - j + 1 := by omega
  have h2 : UInt8.ofNat (r / 256 ^ (k - j) % 256) = UInt8.ofNat (r / 256 ^ (k - j)) := by
    apply UInt8.toNat_inj.1
    simp
  rw [h1, h2]
  have h3 : List.replicate (j + 1) (0 : UInt8) ++ be (k - j) r = List.replicate j 0 ++ (0 :: be (k - j) r) := by rw [List.replicate_succ']; simp
  rw [h3, List.set_append_right _ _ (by simp), show j - 1 + 1 = j from by omega]
  simp [be]
theorem div_step (r m : Nat) : r / 256 ^ m / 256 = r / 256 ^ (m + 1) := by rw [Nat.div_div_eq_div_mul, Nat.pow_succ]

set_option maxHeartbeats 1000000 in
theorem number_any (n : Int) (h0 : 0 ≤ n) (h63 : n ≤ 9223372036854775807) (w : World) :
    Calls Tryz.prog 83 #[.int .i64 n] w fun e w' => e = .returned (.string (bs (num n.toNat))) ∧ Below w.heap.size w w' := by
  obtain ⟨n, rfl⟩ := Int.eq_ofNat_of_zero_le h0
  rw [Int.toNat_natCast]
  obtain ⟨k, hk⟩ : ∃ k, kof n = k := ⟨_, rfl⟩
  have hk8 := kof_le n
  have hkb := bnd_kof n
  have hrl := rest_lt n (by omega)
  have H1 := hide (size_any (n : Int) (by omega) h63)
  have H2 := hide (bound_any (k : Int) (by omega) (by omega))
  rw [Int.toNat_natCast, hk] at H1
  rw [Int.toNat_natCast] at H2
  rw [hk] at hk8 hkb hrl
  obtain ⟨b, hb⟩ : ∃ b, bnd k = b := ⟨_, rfl⟩
  rw [hb] at H2 hkb hrl
  obtain ⟨r, hr⟩ : ∃ r, n - b = r := ⟨_, rfl⟩
  rw [hr] at hrl
  have Hnum : Hid (num n = UInt8.ofNat (256 - 2 ^ (8 - k) + r / 256 ^ k) :: be k r) := hide (by unfold num; rw [hk, hb, hr])
  have i1 : (n : Int) - (b : Int) = (r : Int) := by omega
  have Hrl := hide hrl
  have hr63 : r ≤ 9223372036854775807 := by omega
  have hmk := mk_row (P := Tryz.prog) 44 5 _ _ Tryz.underlying44 u8info rfl ((k : Int) + 1) (k + 1) rfl (by omega) (by omega)
  rw [bc_replicate] at hmk
  clear hk hb hr hrl hkb
  go_enter Tryz.func83, Tryz.ntmps83
  go_wp2_with fail
  refine (H1.out _).mono ?_
  rintro e w1 ⟨rfl, rfl⟩
  go_wp2_with fail
  refine (H2.out _).mono ?_
  rintro e w1 ⟨rfl, rfl⟩
  go_wp2
  go_loopw [4, 6] (fun x i wr => ∃ j : Nat, j ≤ k ∧ i = .int .i64 j ∧ x = .int .i64 ((r / 256 ^ (k - j) : Nat) : Int) ∧ Bk wr w.heap.size 5 (bc (List.replicate (j + 1) 0 ++ be (k - j) r)) ∧ Below w.heap.size w wr) (fun _ i _ => (intOf i).toNat)
  case atStart => exact ⟨k, Nat.le_refl _, rfl, by simp, by rw [Nat.sub_self]; simpa [be] using Bk.new w 5 (bc (List.replicate (k + 1) 0)), (Below.refl _ _).alloc (Nat.le_refl _) _⟩
  case round =>
    obtain ⟨j, hj, rfl, rfl, hbk, hf⟩ := hrel
    have hlen : (List.replicate (j + 1) (0 : UInt8) ++ be (k - j) r).length = k + 1 := by rw [List.length_append, List.length_replicate, be_length]; omega
    have hxl : r / 256 ^ (k - j) ≤ r := Nat.div_le_self _ _
    by_cases hlt : 0 < j
    · obtain ⟨x, hx⟩ : ∃ x, r / 256 ^ (k - j) = x := ⟨_, rfl⟩
      have Hset := hide (be_set k j r hlt hj)
      have Hdiv := hide (div_step r (k - j))
      obtain ⟨y0, hck⟩ : ∃ y : Int, wr.cell? ⟨w.heap.size, j, none⟩ = some (.int .u8 y) := ⟨_, by rw [hbk.cell, bc_get _ _ (by omega)]⟩
      have hfk := hbk.frozen j
      have hjk : (j : Int) < (k : Int) + 1 := by omega
      have hx63 : x ≤ 9223372036854775807 := by omega
      rw [hx] at Hset Hdiv ⊢
      have Hbk := hide hbk
      clear hx hbk hxl hlen hmk
      go_wp2
      go_roundw
      case rel =>
        refine ⟨j - 1, by omega, by congr 1; omega, ?_, ?_, hf.setCell (p := ⟨w.heap.size, j, none⟩) (Nat.le_refl _) _⟩
        · rw [show k - (j - 1) = k - j + 1 from by omega, ← Hdiv.out]
          congr 1
        · have := Hbk.out.put j (.int .u8 ((x : Int) % 256))
          rw [bc_set _ _ _ (by omega) (by omega)] at this
          rw [← Hset.out]
          have e : ((x : Int) % 256).toNat = x % 256 := by omega
          rw [e] at this
          exact this
      case measure => simp [intOf]; omega
    · have hj0 : j = 0 := by omega
      subst hj0
      rw [Nat.sub_zero] at hbk ⊢ hlen
      obtain ⟨x, hx⟩ : ∃ x, r / 256 ^ k = x := ⟨_, rfl⟩
      have hrl := Hrl.out
      rw [hx] at hrl
      have hx128 : x < 128 := Nat.lt_of_lt_of_le hrl.1 (Nat.pow_le_pow_right (by omega) (show 7 - k ≤ 7 by omega))
      have hfst := first_all k (by omega) x hx128 (fun _ => hrl.1) hrl.2
      have e1 := sh_cast k
      have e2 : (x : Int) % 256 = (x : Int) := by omega
      rw [← e1] at hfst
      have hfl : 256 - 2 ^ (8 - k) + x < 256 := (lead_first k x (by omega) hrl.1 hrl.2).1
      rw [hx] at Hnum ⊢
      obtain ⟨y, hy⟩ : ∃ y, 256 - 2 ^ (8 - k) + x = y := ⟨_, rfl⟩
      rw [hy] at Hnum hfst hfl
      obtain ⟨y0, hck⟩ : ∃ y : Int, wr.cell? ⟨w.heap.size, 0, none⟩ = some (.int .u8 y) := ⟨_, by rw [hbk.cell, bc_get _ _ (by omega)]⟩
      have hfk := hbk.frozen 0
      have hput := hbk.put 0 (.int .u8 (y : Int))
      rw [bc_set _ _ _ (by omega) (by omega), Int.toNat_natCast] at hput
      have hcv := conv_all (P := Tryz.prog) 44 9 5 Tryz.underlying44 Tryz.underlying5 Tryz.underlying9 _ w.heap.size (k + 1) (k + 1) (num n) [] (by rw [List.append_nil, Hnum.out]; exact hput) (by rw [Hnum.out]; simp [be_length])
      have hjk : (0 : Int) < (k : Int) + 1 := by omega
      clear hx hbk hxl hlen hmk hput hy hrl e1
      go_wp2
      go_ret
      exact ⟨rfl, hf.setCell (p := ⟨w.heap.size, 0, none⟩) (Nat.le_refl _) _⟩
end Go.Proofs.YtgllednilkfpgaaGreat
/-
  The walks over numbers as bytes, third part: a text, a reader, the number at the front.
-/
namespace Go.Proofs.YtgllednilkfpgaaGreat
open Go.RowKit Go.Proofs Wv Wv.Vi Wv.Ru
set_option linter.unusedVariables false

theorem kof9 (n : Nat) : (num n).length ≤ 9 := by rw [num_length]; have := kof_le n; omega
theorem text_any (s : ByteArray) (hs : s.size ≤ 1099511627776) (w : World) :
    Calls Tryz.prog 86 #[.string s] w fun e w' => e = .returned (.string (bs (text s))) ∧ Below w.heap.size w w' := by
  have H := number_any (s.size : Int) (by omega) (by omega) w
  rw [Int.toNat_natCast] at H
  have hl := kof9 s.size
  have hr := hide (show bs (num s.size) ++ s = bs (text s) from by rw [← bs_toL s, bs_append]; rfl)
  rw [← bs_size] at hl
  generalize bs (num s.size) = t at *
  have H := hide H
  go_enter Tryz.func86, Tryz.ntmps86
  go_wp2_with fail
  refine (H.out).mono ?_
  rintro e w1 ⟨rfl, hb⟩
  go_wp2
  go_ret
  exact ⟨ret_str hr.out, hb⟩
/-- A reader of bytes in memory: what is left, and its error. -/
def RV (w : World) (b : Nat) (s : ByteArray) (e : Nat) : Prop := Bk w b 137 #[.string s, .int .i64 (e : Int)]
theorem RV.c0 {w : World} {b e : Nat} {s : ByteArray} (h : RV w b s e) : w.cell? ⟨b, 0, none⟩ = some (.string s) := Bk.cell h 0
theorem RV.c1 {w : World} {b e : Nat} {s : ByteArray} (h : RV w b s e) : w.cell? ⟨b, 1, none⟩ = some (.int .i64 (e : Int)) := Bk.cell h 1
theorem RV.f0 {w : World} {b e : Nat} {s : ByteArray} (h : RV w b s e) : w.frozen? ⟨b, 0, none⟩ = false := Bk.frozen h 0
theorem RV.f1 {w : World} {b e : Nat} {s : ByteArray} (h : RV w b s e) : w.frozen? ⟨b, 1, none⟩ = false := Bk.frozen h 1
set_option maxHeartbeats 400000 in
theorem vnew_any (s : ByteArray) (w : World) :
    Calls Tryz.prog 70 #[.string s] w fun e w' => e = .returned (.pointer (some ⟨w.heap.size, 0, none⟩)) ∧ RV w' w.heap.size s 0 ∧ Below w.heap.size w w' := by
  go_enter Tryz.func70, Tryz.ntmps70
  go_wp2
  go_ret
  exact ⟨rfl, Bk.new _ _ _, (Below.refl _ _).alloc (Nat.le_refl _) _⟩
set_option maxHeartbeats 400000 in
theorem vfail_any {w : World} {b e : Nat} {s : ByteArray} (h : RV w b s e) (n : Nat) :
    Calls Tryz.prog 116 #[.pointer (some ⟨b, 0, none⟩), .int .i64 (n : Int)] w fun e w' => e = .returned (.tuple #[]) ∧ RV w' b s n ∧ Fr (only b) w w' := by
  have h1 := h.c1
  have f1 := h.f1
  go_enter Tryz.func116, Tryz.ntmps116
  go_wp2
  go_end0
  exact ⟨rfl, by simpa [RV] using Bk.put h 1 (.int .i64 (n : Int)), (Fr.refl (only b) _).setCell (p := ⟨b, 1, none⟩) (.inl rfl) _⟩
set_option maxHeartbeats 400000 in
theorem verr_any {w : World} {b e : Nat} {s : ByteArray} (h : RV w b s e) :
    Calls Tryz.prog 72 #[.pointer (some ⟨b, 0, none⟩)] w fun x w' => x = .returned (.int .i64 (e : Int)) ∧ w = w' := by
  have h1 := h.c1
  go_enter Tryz.func72, Tryz.ntmps72
  go_wp2
  go_ret
  exact ⟨rfl, rfl⟩
set_option maxHeartbeats 400000 in
theorem vleft_any {w : World} {b e : Nat} {s : ByteArray} (h : RV w b s e) (hs : s.size ≤ 9223372036854775807) :
    Calls Tryz.prog 75 #[.pointer (some ⟨b, 0, none⟩)] w fun x w' => x = .returned (.int .i64 (s.size : Int)) ∧ w = w' := by
  have h1 := h.c0
  go_enter Tryz.func75, Tryz.ntmps75
  go_wp2
  go_ret
  exact ⟨rfl, rfl⟩
theorem lead_bit : ∀ c : Nat, c < 256 → ∀ j : Nat, j < 8 → j ≤ lead c → (bits .and .u8 (c : Int) (((128 / 2 ^ j : Nat) : Int)) != 0) = decide (j < lead c) := by decide +kernel
theorem lead_rest : ∀ c : Nat, c < 256 → bits .and .u8 (c : Int) (((127 / 2 ^ lead c : Nat) : Int)) = ((c - (256 - 2 ^ (8 - lead c)) : Nat) : Int) := by decide +kernel
theorem sh128 (k : Nat) : (128 : Int) / 2 ^ k = ((128 / 2 ^ k : Nat) : Int) := by
  rw [Int.natCast_ediv, Int.natCast_pow]
  rfl
theorem sh127 (k : Nat) : (127 : Int) / 2 ^ k = ((127 / 2 ^ k : Nat) : Int) := by
  rw [Int.natCast_ediv, Int.natCast_pow]
  rfl
theorem or_byte (n b : Nat) (hn : n < 72057594037927936) (hb : b < 256) : bits .or .u64 ((n : Int) * 256) (b : Int) = ((256 * n + b : Nat) : Int) := by
  rw [show (n : Int) * 256 = ((256 * n : Nat) : Int) from by rw [Int.natCast_mul, Int.mul_comm]; rfl, u64_or_nat _ _ (by omega) (by omega), nat_join 8 _ _ (by omega) (by omega)]
theorem vl_lt (l : List UInt8) : ∀ a, vl a l < (a + 1) * 256 ^ l.length := by
  induction l with
  | nil => intro a; simp [vl]
  | cons b t ih =>
    intro a
    have h := ih (256 * a + b.toNat)
    have hb := UInt8.toNat_lt b
    rw [List.length_cons, Nat.pow_succ]
    refine Nat.lt_of_lt_of_le h ?_
    have h1 : 256 * a + b.toNat + 1 ≤ (a + 1) * 256 := by omega
    have := Nat.mul_le_mul_right (256 ^ t.length) h1
    rw [Nat.mul_comm (256 ^ t.length) 256, ← Nat.mul_assoc]
    exact this
theorem first_lt (c : Nat) (hc : c < 256) : (c - (256 - 2 ^ (8 - lead c)) + 1) * 256 ^ lead c ≤ 18446744073709551616 ∧ (c - (256 - 2 ^ (8 - lead c)) + 1) * 256 ^ (lead c - 1) ≤ 72057594037927936 := by
  have h := lead_spec c
  have h8 := lead_le c
  rcases nine (lead c) h8 with e | e | e | e | e | e | e | e | e <;> rw [e] at h ⊢ <;> simp only [Nat.reducePow, Nat.reduceSub] <;> omega
end Go.Proofs.YtgllednilkfpgaaGreat
/-
  The walks over numbers as bytes, fourth part: the number at the front of bytes.
-/
namespace Go.Proofs.YtgllednilkfpgaaGreat
open Go.RowKit Go.Proofs Wv Wv.Vi Wv.Ru
set_option linter.unusedVariables false

theorem emp1 {s : ByteArray} (h : s.size = 0) : s.toList.isEmpty = true := by
  rw [ByteArray.toList_eq]
  have : s.data.toList.length = 0 := h
  rw [List.eq_nil_of_length_eq_zero this]
  rfl
theorem emp0 {s : ByteArray} (h : 0 < s.size) : s.toList.isEmpty = false := by
  rw [ByteArray.toList_eq]
  have : s.data.toList.length = s.size := rfl
  match hl : s.data.toList with
  | [] => rw [hl] at this; simp at this; omega
  | _ :: _ => rfl
theorem peek_nil {w : World} {b e : Nat} {s : ByteArray} (h : RV w b s e) (hs : s.size = 0) :
    Calls Tryz.prog 141 #[.pointer (some ⟨b, 0, none⟩)] w fun x w' => x = .returned (.tuple #[.int .i64 0, .int .i64 0, .bool false]) ∧ w = w' := by
  have h1 := h.c0
  have he2 := emp1 hs
  go_enter Tryz.func141, Tryz.ntmps141
  go_wp2
  go_ret3
  exact ⟨rfl, rfl⟩
/-- What a byte says at the front, and its number. -/
structure Fst (s : ByteArray) (c k : Nat) : Prop where
  pos : 0 < s.size
  get : ∀ h : 0 < s.size, (s[0]'h).toNat = c
  lt : c < 256
  lead : lead c = k
theorem fst_of {s : ByteArray} (h : 0 < s.size) : ∃ c, Fst s c (lead c) ∧ c = (s[0]).toNat ∧ toL s = UInt8.ofNat c :: (toL s).drop 1 := by
  refine ⟨(s[0]).toNat, ⟨h, fun _ => rfl, UInt8.toNat_lt _, rfl⟩, rfl, ?_⟩
  have h1 : 0 < (toL s).length := h
  have h2 : toL s = (toL s)[0] :: (toL s).drop 1 := by rw [← List.drop_eq_getElem_cons h1, List.drop_zero]
  have h3 : (toL s)[0] = s[0] := by simp [toL]; rfl
  rw [h3] at h2
  rw [UInt8.ofNat_toNat]
  exact h2
theorem vl_take_byte (a m : Nat) (s : ByteArray) (h1 : 1 ≤ m) (h : m < s.size) : vl a (((toL s).drop 1).take m) = 256 * vl a (((toL s).drop 1).take (m - 1)) + (s[m]).toNat := by
  have hl : m < (toL s).length := h
  obtain ⟨j, rfl⟩ : ∃ j, m = j + 1 := ⟨m - 1, by omega⟩
  have h2 : j < ((toL s).drop 1).length := by rw [List.length_drop]; omega
  rw [List.take_succ_eq_append_getElem h2, Nat.add_sub_cancel]
  have h3 : ((toL s).drop 1)[j] = s[j + 1] := by
    rw [List.getElem_drop]
    simp only [toL, Nat.add_comm 1 j]
    rw [Array.getElem_toList]
    rfl
  rw [h3]
  simp only [vl, List.foldl_append, List.foldl_cons, List.foldl_nil]
  rfl
/-- What 'peek' answers. -/
def pk (s : ByteArray) : Value := match rd (toL s) with
  | none => .tuple #[.int .i64 0, .int .i64 0, .bool false]
  | some x => .tuple #[.int .i64 (x.1 : Int), .int .i64 (x.2 : Int), .bool true]
theorem pk_none {s : ByteArray} (h : rd (toL s) = none) : pk s = .tuple #[.int .i64 0, .int .i64 0, .bool false] := by unfold pk; rw [h]
theorem pk_some {s : ByteArray} {n z : Nat} (h : rd (toL s) = some (n, z)) : pk s = .tuple #[.int .i64 (n : Int), .int .i64 (z : Int), .bool true] := by unfold pk; rw [h]
theorem ret_of {a b : Value} (h : a = b) : Ending.returned a = .returned b := by rw [h]

set_option maxHeartbeats 1000000 in
theorem peek_main {w : World} {b e : Nat} {s : ByteArray} (h : RV w b s e) (hp : 0 < s.size) (hm : s.size ≤ 1099511627776) :
    Calls Tryz.prog 141 #[.pointer (some ⟨b, 0, none⟩)] w fun x w' => x = .returned (pk s) ∧ w = w' := by
  obtain ⟨c, hf, hc0, hs⟩ := fst_of hp
  have h1 := h.c0
  have he3 := emp0 hp
  have hg := hf.get hp
  have hc := hf.lt
  have hk8 := lead_le c
  have hrest := lead_rest c hc
  have hlim := first_lt c hc
  have hrd := rd_cons (UInt8.ofNat c) ((toL s).drop 1)
  rw [← hs, show (UInt8.ofNat c).toNat = c from by simp; omega, show ((toL s).drop 1).length = s.size - 1 from by rw [List.length_drop]; rfl] at hrd
  have Hlb := hide (lead_bit c hc)
  have Hbnd := hide (bound_any (lead c : Int) (by omega) (by omega))
  rw [Int.toNat_natCast] at Hbnd
  have hb8 := bnd_le (lead c) hk8
  obtain ⟨k, hk⟩ : ∃ k, lead c = k := ⟨_, rfl⟩
  rw [hk] at Hlb hrest hlim hrd Hbnd hk8 hb8
  obtain ⟨a, ha⟩ : ∃ a, c - (256 - 2 ^ (8 - k)) = a := ⟨_, rfl⟩
  rw [ha] at hrest hlim hrd
  obtain ⟨B, hB⟩ : ∃ B, bnd k = B := ⟨_, rfl⟩
  rw [hB] at Hbnd hrd hb8
  rw [← sh127] at hrest
  have Hrd := hide hrd
  have Hlim := hide hlim
  have ha256 : a < 256 := by omega
  clear hs hc0 hf hk ha hB hrd hlim
  go_enter Tryz.func141, Tryz.ntmps141
  go_wp2
  go_loop [6] (fun i => ∃ j : Nat, j ≤ k ∧ i = .int .i64 j) (fun i => (9 - intOf i).toNat)
  case atStart => exact ⟨0, by omega, rfl⟩
  case round =>
    obtain ⟨j, hj, rfl⟩ := hrel
    by_cases hjk : j < k
    · have hb := Hlb.out j (by omega) hj
      rw [← sh128, decide_eq_true hjk] at hb
      go_wp2
      go_round
      case rel => exact ⟨j + 1, by omega, by go_num⟩
      case measure => simp [intOf]; omega
    · have hjk2 : j = k := by omega
      subst hjk2
      have hcase : (j < 8 ∧ (bits .and .u8 (c : Int) (128 / 2 ^ j) != 0) = false) ∨ 8 ≤ j := by
        by_cases h8 : j < 8
        · have := Hlb.out j h8 (Nat.le_refl _)
          rw [← sh128, decide_eq_false hjk] at this
          exact .inl ⟨h8, this⟩
        · exact .inr (by omega)
      rcases hcase with ⟨h8, hb⟩ | h8
      all_goals
        by_cases hsz : s.size < j + 1
        · have hpk := hide (pk_none (by rw [Hrd.out, if_pos (by omega)]))
          go_wp2
          go_ret3
          exact ⟨ret_of hpk.out.symm, rfl⟩
        · go_wp2
          go_loop [7, 8] (fun n i => ∃ m : Nat, 1 ≤ m ∧ m ≤ j + 1 ∧ i = .int .i64 m ∧ n = .int .u64 ((vl a (((toL s).drop 1).take (m - 1)) : Nat) : Int)) (fun _ i => (j + 2 - intOf i).toNat)
          case atStart => exact ⟨1, by omega, by omega, rfl, by simp [vl]⟩
          case round =>
            obtain ⟨m, hm1, hmj, rfl, rfl⟩ := hrel
            have hvl := vl_lt (((toL s).drop 1).take (m - 1)) a
            by_cases hmk : m ≤ j
            · have hms : m < s.size := by omega
              have Hst := hide (vl_take_byte a m s hm1 hms)
              have hlen : (((toL s).drop 1).take (m - 1)).length = m - 1 := by
                rw [List.length_take, List.length_drop, toL_length]; omega
              rw [hlen] at hvl
              have hv56 : vl a (((toL s).drop 1).take (m - 1)) < 72057594037927936 := by
                refine Nat.lt_of_lt_of_le hvl (Nat.le_trans ?_ Hlim.out.2)
                exact Nat.mul_le_mul_left _ (Nat.pow_le_pow_right (by omega) (by omega))
              obtain ⟨y, hy⟩ : ∃ y, (s[m]).toNat = y := ⟨_, rfl⟩
              have hy8 : y < 256 := by rw [← hy]; exact UInt8.toNat_lt _
              rw [hy] at Hst
              obtain ⟨v, hv⟩ : ∃ v, vl a (((toL s).drop 1).take (m - 1)) = v := ⟨_, rfl⟩
              rw [hv] at Hst hv56 ⊢
              have Hor := hide (or_byte v y hv56 hy8)
              clear hvl hlen hv
              go_wp2
              go_round
              case rel => exact ⟨m + 1, by omega, by omega, by go_num, by rw [Hor.out, Nat.add_sub_cancel, Hst.out]⟩
              case measure => simp [intOf]; omega
            · have hmj2 : m = j + 1 := by omega
              subst hmj2
              rw [Nat.add_sub_cancel] at hvl ⊢
              have hlen : (((toL s).drop 1).take j).length = j := by
                rw [List.length_take, List.length_drop, toL_length]; omega
              rw [hlen] at hvl
              have hv64 := Nat.lt_of_lt_of_le hvl Hlim.out.1
              obtain ⟨v, hv⟩ : ∃ v, vl a (((toL s).drop 1).take j) = v := ⟨_, rfl⟩
              rw [hv] at hv64 ⊢
              have Hrd2 := Hrd.out
              rw [hv, if_neg (by omega)] at Hrd2
              clear hvl hlen hv
              by_cases hov : 9223372036854775807 < v + B
              · rw [if_pos hov] at Hrd2
                have hpk := hide (pk_none Hrd2)
                have i2 : (9223372036854775807 : Int) - (B : Int) < (v : Int) := by omega
                clear Hrd2 hov
                go_wp2_with (go_at_call 121; refine (Hbnd.out _).mono ?_; rintro e w' ⟨rfl, rfl⟩)
                go_ret3
                exact ⟨ret_of hpk.out.symm, rfl⟩
              · rw [if_neg hov] at Hrd2
                have hpk := hide (pk_some Hrd2)
                have i2 : ¬ (9223372036854775807 : Int) - (B : Int) < (v : Int) := by omega
                clear Hrd2 hov
                go_wp2_with (go_at_call 121; refine (Hbnd.out _).mono ?_; rintro e w' ⟨rfl, rfl⟩)
                go_ret3
                exact ⟨ret_of (by rw [hpk.out]; push_cast; rfl), rfl⟩
end Go.Proofs.YtgllednilkfpgaaGreat
/-
  The walks over numbers as bytes, fifth part: the calls of a reader.
-/
namespace Go.Proofs.YtgllednilkfpgaaGreat
open Go.RowKit Go.Proofs Wv Wv.Vi Wv.Ru
set_option linter.unusedVariables false

theorem peek_any {w : World} {b e : Nat} {s : ByteArray} (h : RV w b s e) (hm : s.size ≤ 1099511627776) :
    Calls Tryz.prog 141 #[.pointer (some ⟨b, 0, none⟩)] w fun x w' => x = .returned (pk s) ∧ w = w' := by
  by_cases hp : 0 < s.size
  · exact peek_main h hp hm
  · have hs : s.size = 0 := by omega
    refine (peek_nil h hs).mono ?_
    rintro x w' ⟨rfl, rfl⟩
    have : toL s = [] := List.eq_nil_of_length_eq_zero hs
    exact ⟨ret_of (pk_none (by rw [this]; rfl)).symm, rfl⟩
/-- What a reader answers to 'Number', and what it is then. -/
def numR (s : ByteArray) (e : Nat) (most : Int) : Nat × ByteArray × Nat :=
  if e = 0 then match rd (toL s) with
    | none => (0, s, 12)
    | some x => if most < (x.1 : Int) then (0, s, 2) else (x.1, bs ((toL s).drop x.2), 0)
  else (0, s, e)
theorem ext_drop (s : ByteArray) (z : Nat) : s.extract z s.size = bs ((toL s).drop z) := by
  apply ByteArray.ext
  apply Array.toList_inj.1
  simp only [bs, toL, ByteArray.data_extract, Array.toList_extract, List.extract_eq_take_drop, List.toList_toArray]
  rw [List.take_of_length_le (by rw [List.length_drop]; exact Nat.le_refl _)]
theorem ext_take (s : ByteArray) (z : Nat) : s.extract 0 z = bs ((toL s).take z) := by
  apply ByteArray.ext
  apply Array.toList_inj.1
  simp [bs, toL]

theorem num1_any (n : Int) (w : World) : Calls Tryz.prog 113 #[.int .i64 n] w fun x w' => x = .returned (.int .i64 n) ∧ w = w' := by
  go_enter Tryz.func113, Tryz.ntmps113
  go_wp2
  go_ret
  exact ⟨rfl, rfl⟩
set_option maxHeartbeats 400000 in
theorem vread_any {w : World} {b e : Nat} {s : ByteArray} (h : RV w b s e) (hm : s.size ≤ 1099511627776) (most : Int) :
    Calls Tryz.prog 112 #[.pointer (some ⟨b, 0, none⟩), .func (.func 113) #[] #[], .int .i64 0, .int .i64 most] w fun x w' => x = .returned (.int .i64 ((numR s e most).1 : Nat)) ∧ RV w' b (numR s e most).2.1 (numR s e most).2.2 ∧ Fr (only b) w w' := by
  have h0 := h.c0
  have h1 := h.c1
  have f0 := h.f0
  have f1 := h.f1
  by_cases he : e = 0
  · subst he
    have hpk := peek_any h hm
    have hr : numR s 0 most = match rd (toL s) with
      | none => (0, s, 12)
      | some x => if most < (x.1 : Int) then (0, s, 2) else (x.1, bs ((toL s).drop x.2), 0) := rfl
    match hrd : rd (toL s) with
    | none =>
      rw [pk_none hrd] at hpk
      rw [hrd] at hr
      have Hpk := hide hpk
      have Hr := hide hr
      have Hf := hide (vfail_any h 12)
      clear hpk hr hrd
      go_enter Tryz.func112, Tryz.ntmps112
      go_wp2_with (first | (go_at_call 113; refine (num1_any _ _).mono ?_; rintro x w' ⟨rfl, rfl⟩) | (go_at_call 141; refine (Hpk.out).mono ?_; rintro x w' ⟨rfl, rfl⟩) | (go_at_call 116; refine (Hf.out).mono ?_; rintro x w' ⟨rfl, hr9, hf9⟩))
      go_ret
      rw [Hr.out]
      exact ⟨rfl, hr9, hf9⟩
    | some (n, z) =>
      have hle := rd_le hrd
      rw [pk_some hrd] at hpk
      rw [hrd] at hr
      have hzs : z ≤ s.size := hle.2.2.1
      have hn63 := hle.1
      have hz1 := hle.2.1
      have Hpk := hide hpk
      clear hpk hrd hle
      by_cases hmn : most < (n : Int)
      · simp only [if_pos hmn] at hr
        have Hr := hide hr
        have Hf := hide (vfail_any h 2)
        have hmn0 : ¬ (n : Int) < 0 := by omega
        clear hr
        go_enter Tryz.func112, Tryz.ntmps112
        go_wp2_with (first | (go_at_call 113; refine (num1_any _ _).mono ?_; rintro x w' ⟨rfl, rfl⟩) | (go_at_call 141; refine (Hpk.out).mono ?_; rintro x w' ⟨rfl, rfl⟩) | (go_at_call 116; refine (Hf.out).mono ?_; rintro x w' ⟨rfl, hr9, hf9⟩))
        go_ret
        rw [Hr.out]
        exact ⟨rfl, hr9, hf9⟩
      · simp only [if_neg hmn] at hr
        have Hr := hide hr
        have hmn0 : ¬ (n : Int) < 0 := by omega
        have hput := hide (Bk.put h 0 (.string (bs ((toL s).drop z))))
        have hex := ext_drop s z
        clear hr
        go_enter Tryz.func112, Tryz.ntmps112
        go_wp2_with (first | (go_at_call 113; refine (num1_any _ _).mono ?_; rintro x w' ⟨rfl, rfl⟩) | (go_at_call 141; refine (Hpk.out).mono ?_; rintro x w' ⟨rfl, rfl⟩))
        go_ret
        rw [Hr.out]
        exact ⟨rfl, by simpa [RV] using hput.out, (Fr.refl (only b) _).setCell (p := ⟨b, 0, none⟩) (.inl rfl) _⟩
  · have hr : numR s e most = (0, s, e) := by unfold numR; rw [if_neg he]
    have hne : ((e : Int) != 0) = true := by rw [bne_iff_ne]; omega
    have Hr := hide hr
    clear hr
    go_enter Tryz.func112, Tryz.ntmps112
    go_wp2
    go_ret
    rw [Hr.out]
    exact ⟨rfl, h, Fr.refl _ _⟩
theorem vnum_any {w : World} {b e : Nat} {s : ByteArray} (h : RV w b s e) (hm : s.size ≤ 1099511627776) (most : Int) :
    Calls Tryz.prog 71 #[.pointer (some ⟨b, 0, none⟩), .int .i64 most] w fun x w' => x = .returned (.int .i64 ((numR s e most).1 : Nat)) ∧ RV w' b (numR s e most).2.1 (numR s e most).2.2 ∧ Fr (only b) w w' := by
  have H := hide (vread_any h hm most)
  generalize numR s e most = r at *
  go_enter Tryz.func71, Tryz.ntmps71
  go_wp2_with fail
  refine (H.out).mono ?_
  rintro x w1 ⟨rfl, hr, hf⟩
  go_wp2
  go_ret
  exact ⟨rfl, hr, hf⟩
/-- What a reader answers to 'Take', and what it is then. -/
def takeR (s : ByteArray) (e : Nat) (n : Int) : ByteArray × ByteArray × Nat :=
  if e = 0 then if n < 0 then (bs [], s, 2) else if (s.size : Int) < n then (bs [], s, 12) else (bs ((toL s).take n.toNat), bs ((toL s).drop n.toNat), 0)
  else (bs [], s, e)
set_option maxHeartbeats 400000 in
theorem vtake_any {w : World} {b e : Nat} {s : ByteArray} (h : RV w b s e) (hm : s.size ≤ 1099511627776) (n : Int) :
    Calls Tryz.prog 74 #[.pointer (some ⟨b, 0, none⟩), .int .i64 n] w fun x w' => x = .returned (.string (takeR s e n).1) ∧ RV w' b (takeR s e n).2.1 (takeR s e n).2.2 ∧ Fr (only b) w w' := by
  have h0 := h.c0
  have h1 := h.c1
  have f0 := h.f0
  have f1 := h.f1
  by_cases he : e = 0
  · subst he
    have hr : takeR s 0 n = if n < 0 then (bs [], s, 2) else if (s.size : Int) < n then (bs [], s, 12) else (bs ((toL s).take n.toNat), bs ((toL s).drop n.toNat), 0) := rfl
    by_cases hn : n < 0
    · rw [if_pos hn] at hr
      have Hr := hide hr
      have Hf := hide (vfail_any h 2)
      clear hr
      go_enter Tryz.func74, Tryz.ntmps74
      go_wp2_with (first | (go_at_call 116; refine (Hf.out).mono ?_; rintro x w' ⟨rfl, hr9, hf9⟩))
      go_ret
      rw [Hr.out]
      exact ⟨rfl, hr9, hf9⟩
    · obtain ⟨n, rfl⟩ := Int.eq_ofNat_of_zero_le (show 0 ≤ n by omega)
      rw [if_neg hn] at hr
      by_cases hs : (s.size : Int) < (n : Int)
      · rw [if_pos hs] at hr
        have Hr := hide hr
        have Hf := hide (vfail_any h 12)
        have hs2 : s.size < n := by omega
        clear hr hn
        go_enter Tryz.func74, Tryz.ntmps74
        go_wp2_with (first | (go_at_call 116; refine (Hf.out).mono ?_; rintro x w' ⟨rfl, hr9, hf9⟩))
        go_ret
        rw [Hr.out]
        exact ⟨rfl, hr9, hf9⟩
      · rw [if_neg hs, Int.toNat_natCast] at hr
        have Hr := hide hr
        have hput := hide (Bk.put h 0 (.string (bs ((toL s).drop n))))
        have hex := ext_drop s n
        have hex2 := ext_take s n
        have hs2 : n ≤ s.size := by omega
        clear hr hn hs
        go_enter Tryz.func74, Tryz.ntmps74
        go_wp2
        go_ret
        rw [Hr.out]
        exact ⟨rfl, by simpa [RV] using hput.out, (Fr.refl (only b) _).setCell (p := ⟨b, 0, none⟩) (.inl rfl) _⟩
  · have hr : takeR s e n = (bs [], s, e) := by unfold takeR; rw [if_neg he]
    have hne : ((e : Int) != 0) = true := by rw [bne_iff_ne]; omega
    have Hr := hide hr
    clear hr
    go_enter Tryz.func74, Tryz.ntmps74
    go_wp2
    go_ret
    rw [Hr.out]
    exact ⟨rfl, h, Fr.refl _ _⟩
end Go.Proofs.YtgllednilkfpgaaGreat
/-
  The walks over numbers as bytes, sixth part: a reader's text, and its end.
-/
namespace Go.Proofs.YtgllednilkfpgaaGreat
open Go.RowKit Go.Proofs Wv Wv.Vi Wv.Ru
set_option linter.unusedVariables false

/-- What a reader answers to 'Text', and what it is then. -/
def textR (s : ByteArray) (e : Nat) (most : Int) : ByteArray × ByteArray × Nat :=
  if (takeR (numR s e most).2.1 (numR s e most).2.2 ((numR s e most).1 : Nat)).2.2 = 0 then takeR (numR s e most).2.1 (numR s e most).2.2 ((numR s e most).1 : Nat)
  else (bs [], s, (takeR (numR s e most).2.1 (numR s e most).2.2 ((numR s e most).1 : Nat)).2.2)
theorem numR_size {s : ByteArray} {e : Nat} {most : Int} : (numR s e most).2.1.size ≤ s.size := by
  unfold numR
  split
  · split
    · exact Nat.le_refl _
    · split
      · exact Nat.le_refl _
      · rw [bs_size, List.length_drop, toL_length]; omega
  · exact Nat.le_refl _
set_option maxHeartbeats 400000 in
theorem vtext_any {w : World} {b e : Nat} {s : ByteArray} (h : RV w b s e) (hm : s.size ≤ 1099511627776) (most : Int) :
    Calls Tryz.prog 117 #[.pointer (some ⟨b, 0, none⟩), .int .i64 most] w fun x w' => x = .returned (.string (textR s e most).1) ∧ RV w' b (textR s e most).2.1 (textR s e most).2.2 ∧ Fr (only b) w w' := by
  have h0 := h.c0
  have hlt := Bk.lt h
  have Hn := hide (vnum_any h hm most)
  have hsz := numR_size (s := s) (e := e) (most := most)
  have ht : textR s e most = if (takeR (numR s e most).2.1 (numR s e most).2.2 ((numR s e most).1 : Nat)).2.2 = 0 then takeR (numR s e most).2.1 (numR s e most).2.2 ((numR s e most).1 : Nat)
    else (bs [], s, (takeR (numR s e most).2.1 (numR s e most).2.2 ((numR s e most).1 : Nat)).2.2) := rfl
  generalize numR s e most = q at *
  obtain ⟨n, s1, e1⟩ := q
  generalize textR s e most = r at *
  obtain ⟨⟨t, s2, e2⟩, htk⟩ : ∃ x, takeR s1 e1 (n : Int) = x := ⟨_, rfl⟩
  simp only at ht Hn hsz
  rw [htk] at ht
  simp only at ht
  have Htk := hide htk
  have Hr := hide ht
  clear htk ht
  go_enter Tryz.func117, Tryz.ntmps117
  go_wp2_with fail
  refine (Hn.out).mono ?_
  rintro x w1 ⟨rfl, hr1, hf1⟩
  have Ht := hide (vtake_any hr1 (Nat.le_trans hsz hm) (n : Int))
  rw [Htk.out] at Ht
  go_wp2_with fail
  refine (Ht.out).mono ?_
  rintro x w2 ⟨rfl, hr2, hf2⟩
  have g1 := hr2.c1
  have g0 := hr2.c0
  have p0 := hr2.f0
  have hf := hf1.trans hf2
  by_cases he : e2 = 0
  · subst he
    go_wp2
    go_ret
    rw [Hr.out]
    exact ⟨rfl, hr2, hf⟩
  · have hne : ((e2 : Int) != 0) = true := by rw [bne_iff_ne]; omega
    have Hr2 : Hid (r = (bs [], s, e2)) := hide (by rw [Hr.out, if_neg he])
    clear he
    go_wp2
    go_ret
    rw [Hr2.out]
    exact ⟨rfl, by simpa [RV] using Bk.put hr2 0 (.string s), hf.setCell (p := ⟨b, 0, none⟩) (.inl rfl) _⟩
def endR (s : ByteArray) (e : Nat) : Nat := if e = 0 ∧ s.size ≠ 0 then 12 else e
set_option maxHeartbeats 400000 in
theorem vend_any {w : World} {b e : Nat} {s : ByteArray} (h : RV w b s e) :
    Calls Tryz.prog 78 #[.pointer (some ⟨b, 0, none⟩)] w fun x w' => x = .returned (.int .i64 (endR s e : Nat)) ∧ Fr (only b) w w' := by
  have h0 := h.c0
  have h1 := h.c1
  by_cases he : e = 0
  · subst he
    by_cases hs : s.size = 0
    · have hr : endR s 0 = 0 := by unfold endR; rw [if_neg (by omega)]
      have hem := emp1 hs
      have Hr := hide hr
      clear hs hr
      go_enter Tryz.func78, Tryz.ntmps78
      go_wp2
      go_ret
      exact ⟨ret_int (by rw [Hr.out]; rfl), Fr.refl _ _⟩
    · have hr : endR s 0 = 12 := by unfold endR; rw [if_pos ⟨rfl, hs⟩]
      have hem := emp0 (s := s) (by omega)
      have Hr := hide hr
      have Hf := hide (vfail_any h 12)
      clear hs hr
      go_enter Tryz.func78, Tryz.ntmps78
      go_wp2_with fail
      refine (Hf.out).mono ?_
      rintro x w2 ⟨rfl, hr2, hf2⟩
      have g1 := hr2.c1
      go_wp2
      go_ret
      exact ⟨ret_int (by rw [Hr.out]; rfl), hf2⟩
  · have hr : endR s e = e := by unfold endR; rw [if_neg (by omega)]
    have hne : ((e : Int) == 0) = false := by rw [beq_eq_false_iff_ne]; omega
    have Hr := hide hr
    clear hr he
    go_enter Tryz.func78, Tryz.ntmps78
    go_wp2
    go_ret
    exact ⟨ret_int (by rw [Hr.out]), Fr.refl _ _⟩
end Go.Proofs.YtgllednilkfpgaaGreat
