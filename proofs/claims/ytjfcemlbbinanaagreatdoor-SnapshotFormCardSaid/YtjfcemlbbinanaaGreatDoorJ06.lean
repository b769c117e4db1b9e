/-
  Joined texts: Vb, Vc.
-/
import Derived.Test.YtjfcemlbbinanaaGreatDoorJ03
set_option linter.unusedVariables false
set_option linter.unusedSimpArgs false
/-
  The walks over numbers as bytes, second part: the bytes of a number and of a text.
-/
namespace Go.Proofs.YtjfcemlbbinanaaGreatDoor
open Go.RowKit Go.Proofs Wv Wv.Vi
set_option linter.unusedVariables false

theorem u8info : (Tryz.prog.info? 5).map (fun i => (i.zero, i.size, i.bytes)) = some (some (.int .u8 0), 1, 1) := by kernel_rfl
theorem first_all : ∀ k : Nat, k < 9 → ∀ r : Nat, r < 128 → (k ≤ 7 → r < 2 ^ (7 - k)) → (k = 8 → r = 0) → bits .or .u8 (((65280 / 2 ^ k % 256 : Nat) : Int)) (r : Int) = ((256 - 2 ^ (8 - k) + r : Nat) : Int) := by decide +kernel
theorem sh_cast (k : Nat) : (65280 : Int) / 2 ^ k % 256 = ((65280 / 2 ^ k % 256 : Nat) : Int) := by
 rw [Int.natCast_emod, Int.natCast_ediv, Int.natCast_pow]
 rfl
theorem be_set (k j r : Nat) (hj : 0 < j) (hjk : j ≤ k) : (List.replicate (j + 1) (0 : UInt8) ++ be (k - j) r).set j (UInt8.ofNat (r / 256 ^ (k - j) % 256)) = List.replicate (j - 1 + 1) 0 ++ be (k - (j - 1)) r := by
 have h1 : k - (j - 1) = k - j + 1 := by omega
 have h2 : UInt8.ofNat (r / 256 ^ (k - j) % 256) = UInt8.ofNat (r / 256 ^ (k - j)) := by
  apply UInt8.toNat_inj.1
  simp
 rw [h1, h2]
 have h3 : List.replicate (j + 1) (0 : UInt8) ++ be (k - j) r = List.replicate j 0 ++ (0 :: be (k - j) r) := by rw [List.replicate_succ']; simp
 rw [h3, List.set_append_right _ _ (by simp), show j - 1 + 1 = j from by omega]
 simp [be]
theorem div_step (r m : Nat) : r / 256 ^ m / 256 = r / 256 ^ (m + 1) := by rw [Nat.div_div_eq_div_mul, Nat.pow_succ]

set_option maxHeartbeats 1000000 in
theorem number_any (n : Int) (h0 : 0 ≤ n) (h63 : n ≤ 9223372036854775807) (w : World) :
  Calls Tryz.prog 36 #[.int .i64 n] w fun e w' => e = .returned (.string (bs (num n.toNat))) ∧ Below w.heap.size w w' := by
 obtain ⟨n, rfl⟩ := Int.eq_ofNat_of_zero_le h0
 rw [Int.toNat_natCast]
 obtain ⟨k, hk⟩ : ∃ k, kof n = k := ⟨_, rfl⟩
 have hk8 := kof_le n
 have hkb := bnd_kof n
 have hrl := rest_lt n (by omega)
 have H1 := hide (size_any (n : Int) (by omega) h63)
 have H2 := hide (bound_any (k : Int) (by omega) (by omega))
 rw [Int.toNat_natCast, hk] at H1
 rw [Int.toNat_natCast] at H2
 rw [hk] at hk8 hkb hrl
 obtain ⟨b, hb⟩ : ∃ b, bnd k = b := ⟨_, rfl⟩
 rw [hb] at H2 hkb hrl
 obtain ⟨r, hr⟩ : ∃ r, n - b = r := ⟨_, rfl⟩
 rw [hr] at hrl
 have Hnum : Hid (num n = UInt8.ofNat (256 - 2 ^ (8 - k) + r / 256 ^ k) :: be k r) := hide (by unfold num; rw [hk, hb, hr])
 have i1 : (n : Int) - (b : Int) = (r : Int) := by omega
 have Hrl := hide hrl
 have hr63 : r ≤ 9223372036854775807 := by omega
 have hmk := mk_row (P := Tryz.prog) 74 5 _ _ Tryz.underlying74 u8info rfl ((k : Int) + 1) (k + 1) rfl (by omega) (by omega)
 rw [bc_replicate] at hmk
 clear hk hb hr hrl hkb
 go_enter Tryz.func36, Tryz.ntmps36
 go_wp2_with fail
 refine (H1.out _).mono ?_
 rintro e w1 ⟨rfl, rfl⟩
 go_wp2_with fail
 refine (H2.out _).mono ?_
 rintro e w1 ⟨rfl, rfl⟩
 go_wp2
 go_loopw [4, 6] (fun x i wr => ∃ j : Nat, j ≤ k ∧ i = .int .i64 j ∧ x = .int .i64 ((r / 256 ^ (k - j) : Nat) : Int) ∧ Bk wr w.heap.size 5 (bc (List.replicate (j + 1) 0 ++ be (k - j) r)) ∧ Below w.heap.size w wr) (fun _ i _ => (intOf i).toNat)
 case atStart => exact ⟨k, Nat.le_refl _, rfl, by simp, by rw [Nat.sub_self]; simpa [be] using Bk.new w 5 (bc (List.replicate (k + 1) 0)), (Below.refl _ _).alloc (Nat.le_refl _) _⟩
 case round =>
  obtain ⟨j, hj, rfl, rfl, hbk, hf⟩ := hrel
  have hlen : (List.replicate (j + 1) (0 : UInt8) ++ be (k - j) r).length = k + 1 := by rw [List.length_append, List.length_replicate, be_length]; omega
  have hxl : r / 256 ^ (k - j) ≤ r := Nat.div_le_self _ _
  by_cases hlt : 0 < j
  ·obtain ⟨x, hx⟩ : ∃ x, r / 256 ^ (k - j) = x := ⟨_, rfl⟩
   have Hset := hide (be_set k j r hlt hj)
   have Hdiv := hide (div_step r (k - j))
   obtain ⟨y0, hck⟩ : ∃ y : Int, wr.cell? ⟨w.heap.size, j, none⟩ = some (.int .u8 y) := ⟨_, by rw [hbk.cell, bc_get _ _ (by omega)]⟩
   have hfk := hbk.frozen j
   have hjk : (j : Int) < (k : Int) + 1 := by omega
   have hx63 : x ≤ 9223372036854775807 := by omega
   rw [hx] at Hset Hdiv ⊢
   have Hbk := hide hbk
   clear hx hbk hxl hlen hmk
   go_wp2
   go_roundw
   case rel =>
    refine ⟨j - 1, by omega, by congr 1; omega, ?_, ?_, hf.setCell (p := ⟨w.heap.size, j, none⟩) (Nat.le_refl _) _⟩
    ·rw [show k - (j - 1) = k - j + 1 from by omega, ← Hdiv.out]
     congr 1
    ·have := Hbk.out.put j (.int .u8 ((x : Int) % 256))
     rw [bc_set _ _ _ (by omega) (by omega)] at this
     rw [← Hset.out]
     have e : ((x : Int) % 256).toNat = x % 256 := by omega
     rw [e] at this
     exact this
   case measure => simp [intOf]; omega
  ·have hj0 : j = 0 := by omega
   subst hj0
   rw [Nat.sub_zero] at hbk ⊢ hlen
   obtain ⟨x, hx⟩ : ∃ x, r / 256 ^ k = x := ⟨_, rfl⟩
   have hrl := Hrl.out
   rw [hx] at hrl
   have hx128 : x < 128 := Nat.lt_of_lt_of_le hrl.1 (Nat.pow_le_pow_right (by omega) (show 7 - k ≤ 7 by omega))
   have hfst := first_all k (by omega) x hx128 (fun _ => hrl.1) hrl.2
   have e1 := sh_cast k
   have e2 : (x : Int) % 256 = (x : Int) := by omega
   rw [← e1] at hfst
   have hfl : 256 - 2 ^ (8 - k) + x < 256 := (lead_first k x (by omega) hrl.1 hrl.2).1
   rw [hx] at Hnum ⊢
   obtain ⟨y, hy⟩ : ∃ y, 256 - 2 ^ (8 - k) + x = y := ⟨_, rfl⟩
   rw [hy] at Hnum hfst hfl
   obtain ⟨y0, hck⟩ : ∃ y : Int, wr.cell? ⟨w.heap.size, 0, none⟩ = some (.int .u8 y) := ⟨_, by rw [hbk.cell, bc_get _ _ (by omega)]⟩
   have hfk := hbk.frozen 0
   have hput := hbk.put 0 (.int .u8 (y : Int))
   rw [bc_set _ _ _ (by omega) (by omega), Int.toNat_natCast] at hput
   have hcv := conv_all (P := Tryz.prog) 74 9 5 Tryz.underlying74 Tryz.underlying5 Tryz.underlying9 _ w.heap.size (k + 1) (k + 1) (num n) [] (by rw [List.append_nil, Hnum.out]; exact hput) (by rw [Hnum.out]; simp [be_length])
   have hjk : (0 : Int) < (k : Int) + 1 := by omega
   clear hx hbk hxl hlen hmk hput hy hrl e1
   go_wp2
   go_ret
   exact ⟨rfl, hf.setCell (p := ⟨w.heap.size, 0, none⟩) (Nat.le_refl _) _⟩
end Go.Proofs.YtjfcemlbbinanaaGreatDoor
/-
  The walks over numbers as bytes, third part: a text, a reader, the number at the front.
-/
namespace Go.Proofs.YtjfcemlbbinanaaGreatDoor
open Go.RowKit Go.Proofs Wv Wv.Vi Wv.Ru
set_option linter.unusedVariables false

theorem kof9 (n : Nat) : (num n).length ≤ 9 := by rw [num_length]; have := kof_le n; omega
theorem text_any (s : ByteArray) (hs : s.size ≤ 1099511627776) (w : World) :
  Calls Tryz.prog 25 #[.string s] w fun e w' => e = .returned (.string (bs (text s))) ∧ Below w.heap.size w w' := by
 have H := number_any (s.size : Int) (by omega) (by omega) w
 rw [Int.toNat_natCast] at H
 have hl := kof9 s.size
 have hr := hide (show bs (num s.size) ++ s = bs (text s) from by rw [← bs_toL s, bs_append]; rfl)
 rw [← bs_size] at hl
 generalize bs (num s.size) = t at *
 have H := hide H
 go_enter Tryz.func25, Tryz.ntmps25
 go_wp2_with fail
 refine (H.out).mono ?_
 rintro e w1 ⟨rfl, hb⟩
 go_wp2
 go_ret
 exact ⟨ret_str hr.out, hb⟩
def RV (w : World) (b : Nat) (s : ByteArray) (e : Nat) : Prop := Bk w b 83 #[.string s, .int .i64 (e : Int)]
theorem RV.c0 {w : World} {b e : Nat} {s : ByteArray} (h : RV w b s e) : w.cell? ⟨b, 0, none⟩ = some (.string s) := Bk.cell h 0
theorem RV.c1 {w : World} {b e : Nat} {s : ByteArray} (h : RV w b s e) : w.cell? ⟨b, 1, none⟩ = some (.int .i64 (e : Int)) := Bk.cell h 1
theorem RV.f0 {w : World} {b e : Nat} {s : ByteArray} (h : RV w b s e) : w.frozen? ⟨b, 0, none⟩ = false := Bk.frozen h 0
theorem RV.f1 {w : World} {b e : Nat} {s : ByteArray} (h : RV w b s e) : w.frozen? ⟨b, 1, none⟩ = false := Bk.frozen h 1
set_option maxHeartbeats 400000 in
theorem vnew_any (s : ByteArray) (w : World) :
  Calls Tryz.prog 31 #[.string s] w fun e w' => e = .returned (.pointer (some ⟨w.heap.size, 0, none⟩)) ∧ RV w' w.heap.size s 0 ∧ Below w.heap.size w w' := by
 go_enter Tryz.func31, Tryz.ntmps31
 go_wp2
 go_ret
 exact ⟨rfl, Bk.new _ _ _, (Below.refl _ _).alloc (Nat.le_refl _) _⟩
set_option maxHeartbeats 400000 in
theorem vfail_any {w : World} {b e : Nat} {s : ByteArray} (h : RV w b s e) (n : Nat) :
  Calls Tryz.prog 51 #[.pointer (some ⟨b, 0, none⟩), .int .i64 (n : Int)] w fun e w' => e = .returned (.tuple #[]) ∧ RV w' b s n ∧ Fr (only b) w w' := by
 have h1 := h.c1
 have f1 := h.f1
 go_enter Tryz.func51, Tryz.ntmps51
 go_wp2
 go_end0
 exact ⟨rfl, by simpa [RV] using Bk.put h 1 (.int .i64 (n : Int)), (Fr.refl (only b) _).setCell (p := ⟨b, 1, none⟩) (.inl rfl) _⟩
set_option maxHeartbeats 400000 in
theorem verr_any {w : World} {b e : Nat} {s : ByteArray} (h : RV w b s e) :
  Calls Tryz.prog 65 #[.pointer (some ⟨b, 0, none⟩)] w fun x w' => x = .returned (.int .i64 (e : Int)) ∧ w = w' := by
 have h1 := h.c1
 go_enter Tryz.func65, Tryz.ntmps65
 go_wp2
 go_ret
 exact ⟨rfl, rfl⟩
set_option maxHeartbeats 400000 in
theorem vleft_any {w : World} {b e : Nat} {s : ByteArray} (h : RV w b s e) (hs : s.size ≤ 9223372036854775807) :
  Calls Tryz.prog 66 #[.pointer (some ⟨b, 0, none⟩)] w fun x w' => x = .returned (.int .i64 (s.size : Int)) ∧ w = w' := by
 have h1 := h.c0
 go_enter Tryz.func66, Tryz.ntmps66
 go_wp2
 go_ret
 exact ⟨rfl, rfl⟩
theorem lead_bit : ∀ c : Nat, c < 256 → ∀ j : Nat, j < 8 → j ≤ lead c → (bits .and .u8 (c : Int) (((128 / 2 ^ j : Nat) : Int)) != 0) = decide (j < lead c) := by decide +kernel
theorem lead_rest : ∀ c : Nat, c < 256 → bits .and .u8 (c : Int) (((127 / 2 ^ lead c : Nat) : Int)) = ((c - (256 - 2 ^ (8 - lead c)) : Nat) : Int) := by decide +kernel
theorem sh128 (k : Nat) : (128 : Int) / 2 ^ k = ((128 / 2 ^ k : Nat) : Int) := by
 rw [Int.natCast_ediv, Int.natCast_pow]
 rfl
theorem sh127 (k : Nat) : (127 : Int) / 2 ^ k = ((127 / 2 ^ k : Nat) : Int) := by
 rw [Int.natCast_ediv, Int.natCast_pow]
 rfl
theorem or_byte (n b : Nat) (hn : n < 72057594037927936) (hb : b < 256) : bits .or .u64 ((n : Int) * 256) (b : Int) = ((256 * n + b : Nat) : Int) := by
 rw [show (n : Int) * 256 = ((256 * n : Nat) : Int) from by rw [Int.natCast_mul, Int.mul_comm]; rfl, u64_or_nat _ _ (by omega) (by omega), nat_join 8 _ _ (by omega) (by omega)]
theorem vl_lt (l : List UInt8) : ∀ a, vl a l < (a + 1) * 256 ^ l.length := by
 induction l with
 | nil => intro a; simp [vl]
 | cons b t ih =>
  intro a
  have h := ih (256 * a + b.toNat)
  have hb := UInt8.toNat_lt b
  rw [List.length_cons, Nat.pow_succ]
  refine Nat.lt_of_lt_of_le h ?_
  have h1 : 256 * a + b.toNat + 1 ≤ (a + 1) * 256 := by omega
  have := Nat.mul_le_mul_right (256 ^ t.length) h1
  rw [Nat.mul_comm (256 ^ t.length) 256, ← Nat.mul_assoc]
  exact this
theorem first_lt (c : Nat) (hc : c < 256) : (c - (256 - 2 ^ (8 - lead c)) + 1) * 256 ^ lead c ≤ 18446744073709551616 ∧ (c - (256 - 2 ^ (8 - lead c)) + 1) * 256 ^ (lead c - 1) ≤ 72057594037927936 := by
 have h := lead_spec c
 have h8 := lead_le c
 rcases nine (lead c) h8 with e | e | e | e | e | e | e | e | e <;> rw [e] at h ⊢ <;> simp only [Nat.reducePow, Nat.reduceSub] <;> omega
end Go.Proofs.YtjfcemlbbinanaaGreatDoor
