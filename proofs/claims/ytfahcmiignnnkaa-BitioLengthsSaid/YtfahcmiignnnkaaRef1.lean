/-
  The walks over the reference of the bit strings, first part: numbers, runs, parameters, valid codes.
-/
import Derived.Test.YtfahcmiignnnkaaChecked
import Derived.Test.YtfahcmiignnnkaaBase
import Derived.Test.YtfahcmiignnnkaaBits
import Derived.WalkKit
import Derived.WalkSpells
import Derived.WalkLawsBesides
import Derived.Deep.QuietTactic
import Derived.BigQuiet
import Derived.IntWalk
namespace Go.Proofs.Ytfahcmiignnnkaa
open Go.RowKit Go.Proofs Wv Wv.Bit

theorem ret_int {k : IntKind} {a b : Int} (h : a = b) : Ending.returned (.int k a) = .returned (.int k b) := by rw [h]

theorem ret_bool {a b : Bool} (h : a = b) : Ending.returned (.bool a) = .returned (.bool b) := by rw [h]
set_option maxHeartbeats 400000 in
theorem value_any (l : List Bool) (n : Int) (w : World) (h0 : 0 ≤ n) (hn : n ≤ l.length) (h62 : n ≤ 62) :
    Calls Try.prog 39 #[.string (txt l), .int .i64 n] w fun e w' => e = .returned (.int .i64 (val (l.take n.toNat) : Nat)) ∧ w = w' := by
  obtain ⟨n, rfl⟩ := Int.eq_ofNat_of_zero_le h0
  rw [Int.toNat_natCast]
  have hsz := txt_size l
  have hget := txt_get l
  generalize txt l = s at *
  have Hget := hide hget
  have hs1 : l.length ≤ s.size := by omega
  have hs2 : s.size ≤ l.length := by omega
  clear hsz hget
  go_enter Try.func39, Try.ntmps39
  go_wp2
  go_loop [5, 6] (fun v i => ∃ k : Nat, k ≤ n ∧ i = .int .i64 k ∧ v = .int .i64 (val (l.take k) : Nat)) (fun _ i => n - (intOf i).toNat)
  case atStart => exact ⟨0, Nat.zero_le _, rfl, rfl⟩
  case round =>
    obtain ⟨k, hk, rfl, rfl⟩ := hrel
    have hb : val (l.take k) < 4611686018427387904 := val_take_lt62 l k (by omega)
    have hb2 := bt_le l k
    by_cases hlt : k < n
    · have hv := hide (val_take_succ l k (by omega))
      have hg := Hget.out k (by omega)
      go_wp2
      go_round
      case rel => exact ⟨k + 1, by omega, by go_num, by rw [hv.out]; go_num⟩
      case measure => simp [intOf]; omega
    · go_wp2
      go_ret
      exact ⟨ret_int (by rw [show k = n from by omega]), rfl⟩

set_option maxHeartbeats 400000 in
theorem ones_any (l : List Bool) (m : Int) (w : World) (h0 : 0 ≤ m) (hl : l.length ≤ 4611686018427387904) :
    Calls Try.prog 66 #[.string (txt l), .int .i64 m] w fun e w' => e = .returned (.int .i64 (ones m.toNat l : Nat)) ∧ w = w' := by
  obtain ⟨m, rfl⟩ := Int.eq_ofNat_of_zero_le h0
  rw [Int.toNat_natCast]
  have hsz := txt_size l
  have hget := txt_get l
  generalize txt l = s at *
  have Hget := hide hget
  have hs1 : l.length ≤ s.size := by omega
  have hs2 : s.size ≤ l.length := by omega
  clear hsz hget
  go_enter Try.func66, Try.ntmps66
  go_wp2
  go_loop [5] (fun i => ∃ k : Nat, k ≤ m ∧ k ≤ l.length ∧ Hid (∀ j, j < k → l.getD j false = true) ∧ i = .int .i64 k) (fun i => l.length - (intOf i).toNat)
  case atStart => exact ⟨0, Nat.zero_le _, Nat.zero_le _, hide (fun j hj => by omega), rfl⟩
  case round =>
    obtain ⟨k, hk, hkl, hall, rfl⟩ := hrel
    have hb2 := bt_le l k
    have hend : (k = m ∨ k = l.length ∨ bt l k ≠ 1) → ones m l = k := fun h => ones_eq m l k hk hkl hall.out (h.imp_right fun h => h.imp_right bt_false)
    have Hend := hide hend
    clear hend
    by_cases hlt : k < l.length
    · have hg := Hget.out k (by omega)
      by_cases hm : k < m
      · by_cases h1 : bt l k = 1
        · have Hall := hide (all_succ hall.out h1)
          have h2 : (((s[k]).toNat : Int) == 49) = true := by rw [beq_iff_eq]; omega
          clear h1 hg
          go_wp2
          go_round
          case rel => exact ⟨k + 1, by omega, by omega, Hall, by go_num⟩
          case measure => simp [intOf]; omega
        · have h2 : (((s[k]).toNat : Int) == 49) = false := by rw [beq_eq_false_iff_ne]; omega
          have He := hide (Hend.out (.inr (.inr h1)))
          clear h1 hg
          go_wp2
          go_ret
          exact ⟨ret_int (by rw [He.out]), rfl⟩
      · have He := hide (Hend.out (.inl (by omega)))
        clear hg
        go_wp2
        go_ret
        exact ⟨ret_int (by rw [He.out]), rfl⟩
    · have He := hide (Hend.out (.inr (.inl (by omega))))
      go_wp2
      go_ret
      exact ⟨ret_int (by rw [He.out]), rfl⟩

set_option maxHeartbeats 400000 in
theorem length_any (n : Int) (w : World) (h0 : 0 ≤ n) (h63 : n ≤ 9223372036854775807) :
    Calls Try.prog 38 #[.int .i64 n] w fun e w' => e = .returned (.int .i64 (blen n.toNat : Nat)) ∧ w = w' := by
  obtain ⟨n, rfl⟩ := Int.eq_ofNat_of_zero_le h0
  rw [Int.toNat_natCast]
  have hbl : blen n ≤ 63 := blen_le n 63 (by omega)
  go_enter Try.func38, Try.ntmps38
  go_wp2
  go_loop [0, 3] (fun x v => ∃ j k : Nat, j ≤ n ∧ blen j + k ≤ blen n ∧ blen n ≤ blen j + k ∧ x = .int .i64 j ∧ v = .int .i64 k) (fun x _ => (intOf x).toNat)
  case atStart => exact ⟨n, 0, by omega, by omega, by omega, rfl, rfl⟩
  case round =>
    obtain ⟨j, k, hj, h1, h2, rfl, rfl⟩ := hrel
    by_cases hlt : 0 < j
    · have hb := blen_step j hlt
      have h3 : blen (j / 2) + (k + 1) ≤ blen n := by omega
      have h4 : blen n ≤ blen (j / 2) + (k + 1) := by omega
      clear hb
      go_wp2
      go_round
      case rel => exact ⟨j / 2, k + 1, by omega, h3, h4, by go_num, by go_num⟩
      case measure => simp [intOf]; omega
    · have : j = 0 := by omega
      subst this
      rw [blen_zero] at h1 h2
      have h3 : k = blen n := by omega
      clear hlt h1 h2
      go_wp2
      go_ret
      exact ⟨ret_int (by omega), rfl⟩

theorem num_byte (v j : Nat) (x : Int) (hx : x = (48 + (v : Int) / 2 ^ j % 2)) : (⟨#[UInt8.ofNat x.toNat]⟩ : ByteArray) = txt [v.testBit j] := by
  have h1 : ((v : Int) / 2 ^ j % 2) = ((v / 2 ^ j % 2 : Nat) : Int) := by push_cast; rfl
  subst hx
  show _ = (⟨#[dig (v.testBit j)]⟩ : ByteArray)
  rw [dig_eq (v.testBit j) (48 + v / 2 ^ j % 2) (by rw [bit_nat])]
  congr 3
theorem num_grow (c v j : Nat) (hj : 0 < j) (hc : j ≤ c) : num (c - (j - 1)) (v / 2 ^ (j - 1)) = num (c - j) (v / 2 ^ j) ++ [v.testBit (j - 1)] := by
  have := num_snoc (c - j) (v / 2 ^ (j - 1))
  rw [show c - (j - 1) = c - j + 1 from by omega, this, Nat.div_div_eq_div_mul, ← Nat.pow_succ, Nat.succ_eq_add_one, show j - 1 + 1 = j from by omega, Nat.testBit_div_two_pow]
  simp

set_option maxHeartbeats 400000 in
theorem number_any (c v : Int) (w : World) (h0 : 0 ≤ c) (hc : c ≤ 63) (hv : 0 ≤ v) (hv2 : v ≤ 9223372036854775807) :
    Calls Try.prog 40 #[.int .i64 c, .int .i64 v] w fun e w' => e = .returned (.string (txt (num c.toNat v.toNat))) ∧ Below w.heap.size w w' := by
  obtain ⟨c, rfl⟩ := Int.eq_ofNat_of_zero_le h0
  obtain ⟨v, rfl⟩ := Int.eq_ofNat_of_zero_le hv
  rw [Int.toNat_natCast, Int.toNat_natCast]
  have hcv := conv_one (P := Try.prog) 61 9 5 Try.underlying61 Try.underlying5 Try.underlying9
  have ha := and1
  go_enter Try.func40, Try.ntmps40
  go_wp2
  go_loopw [5, 6] (fun s i wr => ∃ j : Nat, j ≤ c ∧ i = .int .i64 ((j : Int) - 1) ∧ s = .string (txt (num (c - j) (v / 2 ^ j))) ∧ Below w.heap.size w wr) (fun _ i _ => (intOf i + 1).toNat)
  case atStart => exact ⟨c, by omega, rfl, by rw [Nat.sub_self]; rfl, Below.refl _ _⟩
  case round =>
    obtain ⟨j, hj, rfl, rfl, hb⟩ := hrel
    by_cases hlt : 0 < j
    · have hm : 0 ≤ (v : Int) / 2 ^ (j - 1) % 2 := Int.emod_nonneg _ (by omega)
      have hm2 : (v : Int) / 2 ^ (j - 1) % 2 < 2 := Int.emod_lt_of_pos _ (by omega)
      have hs : (txt (num (c - j) (v / 2 ^ j))).size ≤ 63 := by rw [txt_size, num_length]; omega
      go_wp2
      go_roundw
      case rel => exact ⟨j - 1, by omega, by congr 1; omega, by rw [num_byte v (j - 1) _ (by omega), ← txt_append, num_grow c v j hlt hj], hb.alloc hb.size _⟩
      case measure => simp [intOf]; omega
    · have : j = 0 := by omega
      subst this
      go_wp2
      go_ret
      exact ⟨by simp, hb⟩

theorem u8info : (Try.prog.info? 5).map (fun i => (i.zero, i.size, i.bytes)) = some (some (.int .u8 0), 1, 1) := by kernel_rfl
theorem rep_set (k m : Nat) (a b : UInt8) : (List.replicate k a ++ List.replicate (m + 1) b).set k a = List.replicate (k + 1) a ++ List.replicate m b := by
  rw [List.set_append_right _ _ (by simp)]
  rw [List.length_replicate, Nat.sub_self, List.replicate_succ, List.set_cons_zero, List.replicate_succ' (n := k), List.append_assoc]
  rfl
theorem rep_set' (k m : Nat) (a b c : UInt8) : (List.replicate k a ++ List.replicate (m + 1) b).set k c = List.replicate k a ++ [c] ++ List.replicate m b := by
  rw [List.set_append_right _ _ (by simp)]
  rw [List.length_replicate, Nat.sub_self, List.replicate_succ, List.set_cons_zero, List.append_assoc]
  rfl
theorem una_dig (k : Nat) : List.replicate k 49 ++ [48] ++ List.replicate 0 0 = (una k).map dig ++ [] := by simp [una, dig]
set_option maxHeartbeats 400000 in
theorem unary_any (n : Int) (w : World) (h0 : 0 ≤ n) (hn : n ≤ 65536) :
    Calls Try.prog 41 #[.int .i64 n] w fun e w' => e = .returned (.string (txt (una n.toNat))) ∧ Below w.heap.size w w' := by
  obtain ⟨n, rfl⟩ := Int.eq_ofNat_of_zero_le h0
  rw [Int.toNat_natCast]
  have hmk := mk_row (P := Try.prog) 61 5 _ _ Try.underlying61 u8info rfl ((n : Int) + 1) (n + 1) (by omega) (by omega) (by omega)
  rw [bc_replicate] at hmk
  have hcv := fun W cap => conv_all (P := Try.prog) 61 9 5 Try.underlying61 Try.underlying5 Try.underlying9 W w.heap.size (n + 1) cap ((una n).map dig)
  have Hcv := hide hcv
  clear hcv
  go_enter Try.func41, Try.ntmps41
  go_wp2
  go_loopw [4] (fun i wr => ∃ k : Nat, k ≤ n ∧ i = .int .i64 k ∧ Bk wr w.heap.size 5 (bc (List.replicate k 49 ++ List.replicate (n + 1 - k) 0)) ∧ Below w.heap.size w wr) (fun i _ => (n - intOf i).toNat)
  case atStart => exact ⟨0, by omega, rfl, Bk.new _ _ _, (Below.refl _ _).alloc (Nat.le_refl _) _⟩
  case round =>
    obtain ⟨k, hk, rfl, hb, hf⟩ := hrel
    have hfz := hb.frozen
    have hcl := hb.cell k
    rw [bc_get _ _ (by simp; omega)] at hcl
    have hfk := hfz k
    by_cases hlt : k < n
    · go_wp2
      go_roundw
      case rel =>
        refine ⟨k + 1, by omega, by go_num, ?_, hf.setCell (Nat.le_refl _) _⟩
        have := hb.put k (.int .u8 49)
        rw [bc_set _ _ _ (by omega) (by omega), show n + 1 - k = n - k + 1 from by omega, show UInt8.ofNat (Int.toNat 49) = 49 from rfl, rep_set] at this
        rw [show n + 1 - (k + 1) = n - k from by omega]
        exact this
      case measure => simp [intOf]; omega
    · have : k = n := by omega
      subst this
      have hb2 := hb.put k (.int .u8 48)
      rw [bc_set _ _ _ (by omega) (by omega), show k + 1 - k = 0 + 1 from by omega, show UInt8.ofNat (Int.toNat 48) = 48 from rfl, rep_set' k 0, una_dig] at hb2
      have hc := Hcv.out (wr.setCell ⟨w.heap.size, k, none⟩ (.int .u8 48)) (k + 1) _ hb2 (by simp [una])
      clear Hcv
      have hf2 := hf.setCell (p := ⟨w.heap.size, k, none⟩) (Nat.le_refl _) (.int .u8 48)
      go_wp2
      go_ret
      exact ⟨rfl, hf2⟩

set_option maxHeartbeats 400000 in
theorem prefix_any (l : List Bool) (m : Int) (w : World) (h0 : 0 ≤ m) (hl : l.length ≤ 4611686018427387904) :
    Calls Try.prog 37 #[.string (txt l), .int .i64 m] w fun e w' => e = .returned (.tuple #[.int .i64 ((pfx m.toNat (ones m.toNat l) l.length).1 : Nat), .int .i64 ((pfx m.toNat (ones m.toNat l) l.length).2 : Nat)]) ∧ w = w' := by
  have hs := hide (txt_size l)
  have hh := ones_any l m w h0 hl
  obtain ⟨m, rfl⟩ := Int.eq_ofNat_of_zero_le h0
  rw [Int.toNat_natCast] at *
  have Hh := hide hh
  clear hh
  generalize hn : ones m l = n at *
  clear hn
  by_cases h1 : n = m
  · subst h1
    go_enter Try.func37, Try.ntmps37
    go_wp2_with (go_at_call 66; refine (Hh.out).mono ?_; rintro e w' ⟨rfl, rfl⟩)
    go_ret2
    exact ⟨by simp [pfx], rfl⟩
  · have h2 : ((n : Int) == (m : Int)) = false := by rw [beq_eq_false_iff_ne]; omega
    by_cases h3 : n = l.length
    · have h4 : ((n : Int) == ((txt l).size : Int)) = true := by rw [hs.out, beq_iff_eq]; omega
      go_enter Try.func37, Try.ntmps37
      go_wp2_with (go_at_call 66; refine (Hh.out).mono ?_; rintro e w' ⟨rfl, rfl⟩)
      go_ret2
      exact ⟨by subst h3; simp [pfx, h1], rfl⟩
    · have h4 : ((n : Int) == ((txt l).size : Int)) = false := by rw [hs.out, beq_eq_false_iff_ne]; omega
      go_enter Try.func37, Try.ntmps37
      go_wp2_with (go_at_call 66; refine (Hh.out).mono ?_; rintro e w' ⟨rfl, rfl⟩)
      go_ret2
      exact ⟨by simp [pfx, h1, h3], rfl⟩

set_option maxHeartbeats 400000 in
theorem parameter_any (k p : Int) (w : World) :
    Calls Try.prog 29 #[.int .i64 k, .int .i64 p] w fun e w' => e = .returned (.bool (par k p)) ∧ w = w' := by
  go_enter Try.func29, Try.ntmps29
  go_wp2
  all_goals
    go_ret
    refine ⟨ret_bool ?_, rfl⟩
    grind [par]

set_option maxHeartbeats 400000 in
theorem valid_any (k p v : Int) (w : World) (hp1 : p ≤ 9223372036854775807) (hv1 : v ≤ 9223372036854775807) :
    Calls Try.prog 32 #[.agg #[.int .i64 k, .int .i64 p, .int .i64 v]] w fun e w' => e = .returned (.bool (vld k p v)) ∧ Below w.heap.size w w' := by
  have hpar := parameter_any k p
  have H := hide hpar
  clear hpar
  have hb := (Below.refl w.heap.size w).alloc (Nat.le_refl _)
  by_cases hp : par k p = true
  · by_cases hv : v < 0
    · have hd : decide (v < 0) = true := by simpa using hv
      rw [hp] at H
      have hr : vld k p v = false := by simp [vld]; intro _ h; omega
      have Hr := hide hr
      clear hp hr
      go_enter Try.func32, Try.ntmps32
      go_wp2_with (go_at_call 29; refine (H.out _).mono ?_; rintro e w' ⟨rfl, rfl⟩)
      go_ret
      exact ⟨ret_bool Hr.out.symm, hb _⟩
    · have hd : decide (v < 0) = false := by simpa using hv
      have hp2 := par_cases hp
      rw [hp] at H
      rcases hp2 with ⟨rfl, h1, h2⟩ | ⟨rfl, rfl⟩ | ⟨rfl, h1, h2⟩ | ⟨rfl, h1, h2⟩ | ⟨rfl, h1, h2⟩
      · have hr : vld 0 p v = decide (v < 2 ^ p.toNat) := by simp [vld, hp]; omega
        have Hr := hide hr
        clear hp hr
        go_enter Try.func32, Try.ntmps32
        go_wp2_with (go_at_call 29; refine (H.out _).mono ?_; rintro e w' ⟨rfl, rfl⟩)
        go_quiet (fail)
        go_wp2
        go_ret
        exact ⟨ret_bool (by rw [pow_wrap _ (by omega), Hr.out]), bdN (hb _) _⟩
      · have hr : vld 1 0 v = decide (v ≤ 4096) := by simp [vld, hp]; omega
        have Hr := hide hr
        clear hp hr
        go_enter Try.func32, Try.ntmps32
        go_wp2_with (go_at_call 29; refine (H.out _).mono ?_; rintro e w' ⟨rfl, rfl⟩)
        go_ret
        exact ⟨ret_bool Hr.out.symm, hb _⟩
      · have hr : vld 2 p v = decide (v / 2 ^ p.toNat ≤ 4096) := by simp [vld, hp]; omega
        have Hr := hide hr
        clear hp hr
        go_enter Try.func32, Try.ntmps32
        go_wp2_with (go_at_call 29; refine (H.out _).mono ?_; rintro e w' ⟨rfl, rfl⟩)
        go_ret
        exact ⟨ret_bool Hr.out.symm, hb _⟩
      · have hr : vld 3 p v = decide (v ≤ 4611686018427387903) := by simp [vld, hp]; omega
        have Hr := hide hr
        clear hp hr
        go_enter Try.func32, Try.ntmps32
        go_wp2_with (go_at_call 29; refine (H.out _).mono ?_; rintro e w' ⟨rfl, rfl⟩)
        go_ret
        exact ⟨ret_bool Hr.out.symm, hb _⟩
      · have hr : vld 4 p v = decide (v < p) := by simp [vld, hp]; omega
        have Hr := hide hr
        clear hp hr
        go_enter Try.func32, Try.ntmps32
        go_wp2_with (go_at_call 29; refine (H.out _).mono ?_; rintro e w' ⟨rfl, rfl⟩)
        go_ret
        exact ⟨ret_bool Hr.out.symm, hb _⟩
  · have hp' : par k p = false := by simpa using hp
    rw [hp'] at H
    have hr : vld k p v = false := by simp [vld, hp']
    have Hr := hide hr
    clear hp hp' hr
    go_enter Try.func32, Try.ntmps32
    go_wp2_with (go_at_call 29; refine (H.out _).mono ?_; rintro e w' ⟨rfl, rfl⟩)
    go_ret
    exact ⟨ret_bool Hr.out.symm, hb _⟩

end Go.Proofs.Ytfahcmiignnnkaa
