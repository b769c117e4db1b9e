/-
  Joined texts: X2, Xa, Xb, Xc.
-/
import Derived.Test.YtjfcemlbbinanaaGreatDoorJ21
import Derived.Test.YtjfcemlbbinanaaGreatDoorJ34
set_option linter.unusedVariables false
set_option linter.unusedSimpArgs false
/-
  The walks over the kinds of values: what is a type, what is a value of it, which is the first.
-/
namespace Go.Proofs.YtjfcemlbbinanaaGreatDoor
open Go.RowKit Go.Proofs Wv Wv.Vi Wv.Bc Wv.Sn Wv.Dc
set_option linter.unusedVariables false
theorem kd_out {w : World} {n : Int} {kc : Array Value} (h : KdR w n kc) (hn : n < 0 ∨ 4 ≤ n) : kc = zkC := by
 rcases h with ⟨_, h⟩ | ⟨h0, h1, _⟩
 ·exact h
 ·omega
theorem kd0 {w : World} {kc : Array Value} (h : KdR w 0 kc) : ∃ b, kc = #[.int .i64 1, .int .i64 128, .func (.func 77) #[] #[], .func (.func 78) #[] #[], .func (.func 80) #[] #[], .func (.func 81) #[] #[], .string ⟨#[98]⟩] ∧ Bk w b 9 #[.string ⟨#[]⟩] := by
 rcases h with ⟨h, _⟩ | ⟨_, _, b, h1, h2⟩
 ·omega
 ·exact ⟨b, h1, h2⟩
theorem kd1 {w : World} {kc : Array Value} (h : KdR w 1 kc) : ∃ b, kc = #[.int .i64 0, .int .i64 0, .func (.func 82) #[] #[], .func (.func 114) #[] #[.pointer (some ⟨b, 0, none⟩)], .func (.func 85) #[] #[], .func (.func 87) #[] #[], .string ⟨#[114]⟩] ∧ Bk w b 9 #[.string ⟨#[48]⟩] := by
 rcases h with ⟨h, _⟩ | ⟨_, _, b, h1, h2⟩
 ·omega
 ·exact ⟨b, h1, h2⟩
theorem kd2 {w : World} {kc : Array Value} (h : KdR w 2 kc) : ∃ b, kc = #[.int .i64 0, .int .i64 0, .func (.func 88) #[] #[], .func (.func 114) #[] #[.pointer (some ⟨b, 0, none⟩)], .func (.func 89) #[] #[], .func (.func 91) #[] #[], .string ⟨#[115]⟩] ∧ Bk w b 9 #[.string ⟨#[]⟩] := by
 rcases h with ⟨h, _⟩ | ⟨_, _, b, h1, h2⟩
 ·omega
 ·exact ⟨b, h1, h2⟩
theorem kd3 {w : World} {kc : Array Value} (h : KdR w 3 kc) : ∃ b, kc = #[.int .i64 0, .int .i64 0, .func (.func 92) #[] #[], .func (.func 114) #[] #[.pointer (some ⟨b, 0, none⟩)], .func (.func 93) #[] #[], .func (.func 94) #[] #[], .string ⟨#[]⟩] ∧ Bk w b 9 #[.string ⟨#[]⟩] := by
 rcases h with ⟨h, _⟩ | ⟨_, _, b, h1, h2⟩
 ·omega
 ·exact ⟨b, h1, h2⟩
set_option maxRecDepth 100000 in
theorem bvalid_any (W : Int) (v : List UInt8) (hv : v.length ≤ 1099511627776) (w : World) :
  Calls Tryz.prog 77 #[.int .i64 W, .string (bs v)] w fun x w' => x = .returned (.bool (vld W v)) ∧ Below w.heap.size w w' := by
 have Hi := hide (is_any v hv w)
 have hsz : (bs v).size = v.length := bs_size v
 have hv2 : vld W v = (isV v && decide ((v.length : Int) = W)) := rfl
 cases hi : isV v with
 | false =>
  rw [hi] at Hi hv2
  have HV := hide hv2
  clear hsz hv2 hi
  generalize bs v = S at *
  go_enter Tryz.func77, Tryz.ntmps77
  go_wp2_with fail
  refine (Hi.out).mono ?_
  rintro x w1 ⟨rfl, hb1⟩
  go_wp2
  go_returns
  exact ⟨ret_bool (by rw [HV.out]; rfl), hb1⟩
 | true =>
  rw [hi] at Hi hv2
  have HV := hide hv2
  have HS : Hid ((((bs v).size : Int) == W) = vld W v) := hide (by
   rw [hv2, hsz, Bool.true_and, Bool.eq_iff_iff, beq_iff_eq, decide_eq_true_iff])
  clear hsz hv2 hi
  generalize bs v = S at *
  go_enter Tryz.func77, Tryz.ntmps77
  go_wp2_with fail
  refine (Hi.out).mono ?_
  rintro x w1 ⟨rfl, hb1⟩
  go_wp2
  go_returns
  exact ⟨ret_bool HS.out, hb1⟩
theorem k1_any (n : Int) (w : World) :
  Calls Tryz.prog 78 #[.int .i64 n] w fun x w' => x = .returned (.string (bs (allV n 120))) ∧ Below w.heap.size w w' := by
 have H := hide (all_any n 120 w)
 rw [show ((120 : UInt8).toNat : Int) = 120 from rfl] at H
 generalize bs (allV n 120) = S at *
 go_enter Tryz.func78, Tryz.ntmps78
 go_wp2_with fail
 refine (H.out).mono ?_
 rintro x w1 ⟨rfl, hb1⟩
 go_wp2
 go_returns
 exact ⟨rfl, hb1⟩
theorem k2_any (n : Int) (v : List UInt8) {w : World} (ht : Tab w) :
  Calls Tryz.prog 82 #[.int .i64 n, .string (bs v)] w fun x w' => x = .returned (.bool (validS v)) ∧ Below w.heap.size w w' := by
 have H := hide (pvalid_any (bs v) ht)
 rw [toL_bs] at H
 clear ht
 generalize bs v = S at *
 go_enter Tryz.func82, Tryz.ntmps82
 go_wp2_with fail
 refine (H.out).mono ?_
 rintro x w1 ⟨rfl, hb1⟩
 go_wp2
 go_returns
 exact ⟨rfl, hb1⟩
theorem k5_any (n : Int) (v : List UInt8) (w : World) :
  Calls Tryz.prog 88 #[.int .i64 n, .string (bs v)] w fun x w' => x = .returned (.bool (decide (v.length ≤ 64))) ∧ Below w.heap.size w w' := by
 have hsz : (bs v).size = v.length := bs_size v
 have HS : Hid (decide (((bs v).size : Int) ≤ 64) = decide (v.length ≤ 64)) := hide (by rw [hsz]; simp only [decide_eq_decide]; omega)
 clear hsz
 generalize bs v = S at *
 go_enter Tryz.func88, Tryz.ntmps88
 go_wp2
 go_returns
 exact ⟨ret_bool HS.out, Below.refl _ _⟩
theorem k7_any (n : Int) (v : List UInt8) (w : World) :
  Calls Tryz.prog 92 #[.int .i64 n, .string (bs v)] w fun x w' => x = .returned (.bool (decide (v = []))) ∧ Below w.heap.size w w' := by
 have HS := hide (bs_emp v)
 generalize bs v = S at *
 go_enter Tryz.func92, Tryz.ntmps92
 go_wp2
 go_returns
 exact ⟨ret_bool HS.out, Below.refl _ _⟩
theorem same1_any (n : Int) (b : Nat) (s : ByteArray) {w : World} (h : Bk w b 9 #[.string s]) :
  Calls Tryz.prog 114 #[.int .i64 n, .pointer (some ⟨b, 0, none⟩)] w fun x w' => x = .returned (.string s) ∧ w = w' := by
 have c0 : w.cell? ⟨b, 0, none⟩ = some (.string s) := h.cell 0
 clear h
 go_enter Tryz.func114, Tryz.ntmps114
 go_wp2
 go_returns
 exact ⟨rfl, rfl⟩
set_option maxRecDepth 100000 in
set_option maxHeartbeats 4000000 in
theorem vtype_any (n wd : Int) (w : World) :
  Calls Tryz.prog 33 #[.int .i64 n, .int .i64 wd] w fun x w' => x = .returned (.bool (tyB (n, wd))) ∧ Below w.heap.size w w' := by
 have Hof := hide (of_any n wd w)
 generalize tyB (n, wd) = B at *
 by_cases hout : n < 0 ∨ 4 ≤ n
 ·have Ho := hide hout
  clear hout
  go_enter Tryz.func33, Tryz.ntmps33
  go_wp2_with fail
  refine (Hof.out).mono ?_
  rintro x w1 ⟨kc, rfl, hk, hb1⟩
  have := kd_out hk Ho.out
  subst this
  have Hb := hide (hb1.alloc hb1.size (.cells zkC 69))
  unfold zkC at *
  clear hk hb1
  go_wp2
  go_returns
  exact ⟨rfl, Hb.out⟩
 ·have hn4 : n = 0 ∨ n = 1 ∨ n = 2 ∨ n = 3 := by omega
  rcases hn4 with rfl | rfl | rfl | rfl
  ·clear hout
   go_enter Tryz.func33, Tryz.ntmps33
   go_wp2_with fail
   refine (Hof.out).mono ?_
   rintro x w1 ⟨kc, rfl, hk, hb1⟩
   obtain ⟨b, rfl, hB⟩ := kd0 hk
   have Hb := hide (hb1.alloc hb1.size (.cells #[.int .i64 1, .int .i64 128, .func (.func 77) #[] #[], .func (.func 78) #[] #[], .func (.func 80) #[] #[], .func (.func 81) #[] #[], .string ⟨#[98]⟩] 69))
   clear hk hb1 hB
   go_wp2
   go_returns
   exact ⟨rfl, Hb.out⟩
  ·clear hout
   go_enter Tryz.func33, Tryz.ntmps33
   go_wp2_with fail
   refine (Hof.out).mono ?_
   rintro x w1 ⟨kc, rfl, hk, hb1⟩
   obtain ⟨b, rfl, hB⟩ := kd1 hk
   have Hb := hide (hb1.alloc hb1.size (.cells #[.int .i64 0, .int .i64 0, .func (.func 82) #[] #[], .func (.func 114) #[] #[.pointer (some ⟨b, 0, none⟩)], .func (.func 85) #[] #[], .func (.func 87) #[] #[], .string ⟨#[114]⟩] 69))
   clear hk hb1 hB
   go_wp2
   go_returns
   exact ⟨rfl, Hb.out⟩
  ·clear hout
   go_enter Tryz.func33, Tryz.ntmps33
   go_wp2_with fail
   refine (Hof.out).mono ?_
   rintro x w1 ⟨kc, rfl, hk, hb1⟩
   obtain ⟨b, rfl, hB⟩ := kd2 hk
   have Hb := hide (hb1.alloc hb1.size (.cells #[.int .i64 0, .int .i64 0, .func (.func 88) #[] #[], .func (.func 114) #[] #[.pointer (some ⟨b, 0, none⟩)], .func (.func 89) #[] #[], .func (.func 91) #[] #[], .string ⟨#[115]⟩] 69))
   clear hk hb1 hB
   go_wp2
   go_returns
   exact ⟨rfl, Hb.out⟩
  ·clear hout
   go_enter Tryz.func33, Tryz.ntmps33
   go_wp2_with fail
   refine (Hof.out).mono ?_
   rintro x w1 ⟨kc, rfl, hk, hb1⟩
   obtain ⟨b, rfl, hB⟩ := kd3 hk
   have Hb := hide (hb1.alloc hb1.size (.cells #[.int .i64 0, .int .i64 0, .func (.func 92) #[] #[], .func (.func 114) #[] #[.pointer (some ⟨b, 0, none⟩)], .func (.func 93) #[] #[], .func (.func 94) #[] #[], .string ⟨#[]⟩] 69))
   clear hk hb1 hB
   go_wp2
   go_returns
   exact ⟨rfl, Hb.out⟩
set_option maxRecDepth 100000 in
set_option maxHeartbeats 4000000 in
theorem vvalid_any (n wd : Int) (v : List UInt8) (hv : v.length ≤ 1099511627776) {w : World} (ht : Tab w) :
  Calls Tryz.prog 30 #[.int .i64 n, .int .i64 wd, .string (bs v)] w fun x w' => x = .returned (.bool (vaB validS (n, wd) v)) ∧ Below w.heap.size w w' := by
 have Hof := hide (of_any n wd w)
 have hva : vaB validS (n, wd) v = (tyB (n, wd) && kvB validS n wd v) := rfl
 by_cases hout : n < 0 ∨ 4 ≤ n
 ·have hty := ty_out (wd := wd) hout
  have Ho := hide hout
  rw [hty] at Hof hva
  have Hva := hide hva
  clear hout hty hva
  generalize bs v = S at *
  go_enter Tryz.func30, Tryz.ntmps30
  go_wp2_with fail
  refine (Hof.out).mono ?_
  rintro x w1 ⟨kc, rfl, hk, hb1⟩
  have := kd_out hk Ho.out
  subst this
  have Hb := hide (hb1.alloc hb1.size (.cells zkC 69))
  unfold zkC at *
  clear hk hb1
  go_wp2
  go_returns
  exact ⟨ret_bool (by rw [Hva.out]; rfl), Hb.out⟩
 ·have hn4 : n = 0 ∨ n = 1 ∨ n = 2 ∨ n = 3 := by omega
  rcases hn4 with rfl | rfl | rfl | rfl
  ·clear hout
   have Ht := hide ht
   have Hc := hide (fun (W : World) (hW : Tab W) => bvalid_any wd v hv W)
   have hkv : kvB validS 0 wd v = vld wd v := rfl
   rw [hkv] at hva
   clear hkv ht
   generalize vld wd v = R at *
   clear hv
   generalize bs v = S at *
   cases hty : tyB (0, wd) with
   | false =>
    rw [hty] at Hof hva
    have Hva := hide hva
    clear hty hva
    go_enter Tryz.func30, Tryz.ntmps30
    go_wp2_with fail
    refine (Hof.out).mono ?_
    rintro x w1 ⟨kc, rfl, hk, hb1⟩
    obtain ⟨b, rfl, hB⟩ := kd0 hk
    have Hb := hide (hb1.alloc hb1.size (.cells #[.int .i64 1, .int .i64 128, .func (.func 77) #[] #[], .func (.func 78) #[] #[], .func (.func 80) #[] #[], .func (.func 81) #[] #[], .string ⟨#[98]⟩] 69))
    clear hk hb1 hB
    go_wp2
    go_returns
    exact ⟨ret_bool (by rw [Hva.out]; rfl), Hb.out⟩
   | true =>
    rw [hty] at Hof hva
    have Hva := hide hva
    clear hty hva
    go_enter Tryz.func30, Tryz.ntmps30
    go_wp2_with fail
    refine (Hof.out).mono ?_
    rintro x w1 ⟨kc, rfl, hk, hb1⟩
    obtain ⟨b, rfl, hB⟩ := kd0 hk
    have Hb := hide (hb1.alloc hb1.size (.cells #[.int .i64 1, .int .i64 128, .func (.func 77) #[] #[], .func (.func 78) #[] #[], .func (.func 80) #[] #[], .func (.func 81) #[] #[], .string ⟨#[98]⟩] 69))
    clear hk hb1 hB
    go_wp2_with fail
    refine (Hc.out _ (Ht.out.below Hb.out)).mono ?_
    rintro x w2 ⟨rfl, hb2⟩
    have Hb2 := hide (Hb.out.trans (hb2.mono Hb.out.size))
    clear hb2
    go_wp2
    go_returns
    exact ⟨ret_bool (by rw [Hva.out]; rfl), Hb2.out⟩
  ·clear hout
   have Ht := hide ht
   have Hc := hide (fun (W : World) (hW : Tab W) => k2_any wd v hW)
   have hkv : kvB validS 1 wd v = validS v := rfl
   rw [hkv] at hva
   clear hkv ht
   generalize validS v = R at *
   clear hv
   generalize bs v = S at *
   cases hty : tyB (1, wd) with
   | false =>
    rw [hty] at Hof hva
    have Hva := hide hva
    clear hty hva
    go_enter Tryz.func30, Tryz.ntmps30
    go_wp2_with fail
    refine (Hof.out).mono ?_
    rintro x w1 ⟨kc, rfl, hk, hb1⟩
    obtain ⟨b, rfl, hB⟩ := kd1 hk
    have Hb := hide (hb1.alloc hb1.size (.cells #[.int .i64 0, .int .i64 0, .func (.func 82) #[] #[], .func (.func 114) #[] #[.pointer (some ⟨b, 0, none⟩)], .func (.func 85) #[] #[], .func (.func 87) #[] #[], .string ⟨#[114]⟩] 69))
    clear hk hb1 hB
    go_wp2
    go_returns
    exact ⟨ret_bool (by rw [Hva.out]; rfl), Hb.out⟩
   | true =>
    rw [hty] at Hof hva
    have Hva := hide hva
    clear hty hva
    go_enter Tryz.func30, Tryz.ntmps30
    go_wp2_with fail
    refine (Hof.out).mono ?_
    rintro x w1 ⟨kc, rfl, hk, hb1⟩
    obtain ⟨b, rfl, hB⟩ := kd1 hk
    have Hb := hide (hb1.alloc hb1.size (.cells #[.int .i64 0, .int .i64 0, .func (.func 82) #[] #[], .func (.func 114) #[] #[.pointer (some ⟨b, 0, none⟩)], .func (.func 85) #[] #[], .func (.func 87) #[] #[], .string ⟨#[114]⟩] 69))
    clear hk hb1 hB
    go_wp2_with fail
    refine (Hc.out _ (Ht.out.below Hb.out)).mono ?_
    rintro x w2 ⟨rfl, hb2⟩
    have Hb2 := hide (Hb.out.trans (hb2.mono Hb.out.size))
    clear hb2
    go_wp2
    go_returns
    exact ⟨ret_bool (by rw [Hva.out]; rfl), Hb2.out⟩
  ·clear hout
   have Ht := hide ht
   have Hc := hide (fun (W : World) (hW : Tab W) => k5_any wd v W)
   have hkv : kvB validS 2 wd v = decide (v.length ≤ 64) := rfl
   rw [hkv] at hva
   clear hkv ht
   generalize decide (v.length ≤ 64) = R at *
   clear hv
   generalize bs v = S at *
   cases hty : tyB (2, wd) with
   | false =>
    rw [hty] at Hof hva
    have Hva := hide hva
    clear hty hva
    go_enter Tryz.func30, Tryz.ntmps30
    go_wp2_with fail
    refine (Hof.out).mono ?_
    rintro x w1 ⟨kc, rfl, hk, hb1⟩
    obtain ⟨b, rfl, hB⟩ := kd2 hk
    have Hb := hide (hb1.alloc hb1.size (.cells #[.int .i64 0, .int .i64 0, .func (.func 88) #[] #[], .func (.func 114) #[] #[.pointer (some ⟨b, 0, none⟩)], .func (.func 89) #[] #[], .func (.func 91) #[] #[], .string ⟨#[115]⟩] 69))
    clear hk hb1 hB
    go_wp2
    go_returns
    exact ⟨ret_bool (by rw [Hva.out]; rfl), Hb.out⟩
   | true =>
    rw [hty] at Hof hva
    have Hva := hide hva
    clear hty hva
    go_enter Tryz.func30, Tryz.ntmps30
    go_wp2_with fail
    refine (Hof.out).mono ?_
    rintro x w1 ⟨kc, rfl, hk, hb1⟩
    obtain ⟨b, rfl, hB⟩ := kd2 hk
    have Hb := hide (hb1.alloc hb1.size (.cells #[.int .i64 0, .int .i64 0, .func (.func 88) #[] #[], .func (.func 114) #[] #[.pointer (some ⟨b, 0, none⟩)], .func (.func 89) #[] #[], .func (.func 91) #[] #[], .string ⟨#[115]⟩] 69))
    clear hk hb1 hB
    go_wp2_with fail
    refine (Hc.out _ (Ht.out.below Hb.out)).mono ?_
    rintro x w2 ⟨rfl, hb2⟩
    have Hb2 := hide (Hb.out.trans (hb2.mono Hb.out.size))
    clear hb2
    go_wp2
    go_returns
    exact ⟨ret_bool (by rw [Hva.out]; rfl), Hb2.out⟩
  ·clear hout
   have Ht := hide ht
   have Hc := hide (fun (W : World) (hW : Tab W) => k7_any wd v W)
   have hkv : kvB validS 3 wd v = decide (v = []) := rfl
   rw [hkv] at hva
   clear hkv ht
   generalize decide (v = []) = R at *
   clear hv
   generalize bs v = S at *
   cases hty : tyB (3, wd) with
   | false =>
    rw [hty] at Hof hva
    have Hva := hide hva
    clear hty hva
    go_enter Tryz.func30, Tryz.ntmps30
    go_wp2_with fail
    refine (Hof.out).mono ?_
    rintro x w1 ⟨kc, rfl, hk, hb1⟩
    obtain ⟨b, rfl, hB⟩ := kd3 hk
    have Hb := hide (hb1.alloc hb1.size (.cells #[.int .i64 0, .int .i64 0, .func (.func 92) #[] #[], .func (.func 114) #[] #[.pointer (some ⟨b, 0, none⟩)], .func (.func 93) #[] #[], .func (.func 94) #[] #[], .string ⟨#[]⟩] 69))
    clear hk hb1 hB
    go_wp2
    go_returns
    exact ⟨ret_bool (by rw [Hva.out]; rfl), Hb.out⟩
   | true =>
    rw [hty] at Hof hva
    have Hva := hide hva
    clear hty hva
    go_enter Tryz.func30, Tryz.ntmps30
    go_wp2_with fail
    refine (Hof.out).mono ?_
    rintro x w1 ⟨kc, rfl, hk, hb1⟩
    obtain ⟨b, rfl, hB⟩ := kd3 hk
    have Hb := hide (hb1.alloc hb1.size (.cells #[.int .i64 0, .int .i64 0, .func (.func 92) #[] #[], .func (.func 114) #[] #[.pointer (some ⟨b, 0, none⟩)], .func (.func 93) #[] #[], .func (.func 94) #[] #[], .string ⟨#[]⟩] 69))
    clear hk hb1 hB
    go_wp2_with fail
    refine (Hc.out _ (Ht.out.below Hb.out)).mono ?_
    rintro x w2 ⟨rfl, hb2⟩
    have Hb2 := hide (Hb.out.trans (hb2.mono Hb.out.size))
    clear hb2
    go_wp2
    go_returns
    exact ⟨ret_bool (by rw [Hva.out]; rfl), Hb2.out⟩
theorem all_x {n : Int} (h : tyB (0, n) = true) : allV n 120 = initV (0, n) := by
  obtain ⟨h1, h2⟩ := tyB_bits h rfl
  unfold allV initV
  rw [if_neg (by rintro (h | h | h); · exact absurd h (by omega)
                 · exact absurd h (by omega)
                 · exact absurd h (by decide)), if_pos rfl]
set_option maxRecDepth 100000 in
set_option maxHeartbeats 4000000 in
theorem vinit_any (n wd : Int) (w : World) :
  Calls Tryz.prog 22 #[.int .i64 n, .int .i64 wd] w fun x w' => x = .returned (.string (bs (if tyB (n, wd) then initV (n, wd) else []))) ∧ Below w.heap.size w w' := by
 have Hof := hide (of_any n wd w)
 by_cases hout : n < 0 ∨ 4 ≤ n
 ·have hty := ty_out (wd := wd) hout
  have Ho := hide hout
  rw [hty] at Hof ⊢
  rw [if_neg (by decide), show bs ([] : List UInt8) = ⟨#[]⟩ from rfl]
  clear hout hty
  go_enter Tryz.func22, Tryz.ntmps22
  go_wp2_with fail
  refine (Hof.out).mono ?_
  rintro x w1 ⟨kc, rfl, hk, hb1⟩
  have := kd_out hk Ho.out
  subst this
  have Hb := hide (hb1.alloc hb1.size (.cells zkC 69))
  unfold zkC at *
  clear hk hb1
  go_wp2
  go_returns
  exact ⟨rfl, Hb.out⟩
 ·have hn4 : n = 0 ∨ n = 1 ∨ n = 2 ∨ n = 3 := by omega
  rcases hn4 with rfl | rfl | rfl | rfl
  ·clear hout
   cases hty : tyB (0, wd) with
   | false =>
    rw [hty] at Hof
    rw [if_neg (by decide), show bs ([] : List UInt8) = ⟨#[]⟩ from rfl]
    clear hty
    go_enter Tryz.func22, Tryz.ntmps22
    go_wp2_with fail
    refine (Hof.out).mono ?_
    rintro x w1 ⟨kc, rfl, hk, hb1⟩
    obtain ⟨b, rfl, hB⟩ := kd0 hk
    have Hb := hide (hb1.alloc hb1.size (.cells #[.int .i64 1, .int .i64 128, .func (.func 77) #[] #[], .func (.func 78) #[] #[], .func (.func 80) #[] #[], .func (.func 81) #[] #[], .string ⟨#[98]⟩] 69))
    clear hk hb1 hB
    go_wp2
    go_returns
    exact ⟨rfl, Hb.out⟩
   | true =>
    rw [hty] at Hof
    rw [if_pos rfl]
    have Hc := hide (fun W => k1_any wd W)
    rw [all_x hty] at Hc
    generalize bs (initV (0, wd)) = S at *
    clear hty
    go_enter Tryz.func22, Tryz.ntmps22
    go_wp2_with fail
    refine (Hof.out).mono ?_
    rintro x w1 ⟨kc, rfl, hk, hb1⟩
    obtain ⟨b, rfl, hB⟩ := kd0 hk
    have Hb := hide (hb1.alloc hb1.size (.cells #[.int .i64 1, .int .i64 128, .func (.func 77) #[] #[], .func (.func 78) #[] #[], .func (.func 80) #[] #[], .func (.func 81) #[] #[], .string ⟨#[98]⟩] 69))
    have HB := hide hB
    clear hk hb1 hB
    go_wp2_with fail
    refine (Hc.out _).mono ?_
    rintro x w2 ⟨rfl, hb2⟩
    have Hb2 := hide (Hb.out.trans (hb2.mono Hb.out.size))
    clear hb2
    go_wp2
    go_returns
    exact ⟨rfl, Hb2.out⟩
  ·clear hout
   cases hty : tyB (1, wd) with
   | false =>
    rw [hty] at Hof
    rw [if_neg (by decide), show bs ([] : List UInt8) = ⟨#[]⟩ from rfl]
    clear hty
    go_enter Tryz.func22, Tryz.ntmps22
    go_wp2_with fail
    refine (Hof.out).mono ?_
    rintro x w1 ⟨kc, rfl, hk, hb1⟩
    obtain ⟨b, rfl, hB⟩ := kd1 hk
    have Hb := hide (hb1.alloc hb1.size (.cells #[.int .i64 0, .int .i64 0, .func (.func 82) #[] #[], .func (.func 114) #[] #[.pointer (some ⟨b, 0, none⟩)], .func (.func 85) #[] #[], .func (.func 87) #[] #[], .string ⟨#[114]⟩] 69))
    clear hk hb1 hB
    go_wp2
    go_returns
    exact ⟨rfl, Hb.out⟩
   | true =>
    rw [hty] at Hof
    rw [if_pos rfl]
    rw [show bs (initV (1, wd)) = ⟨#[48]⟩ from rfl]
    clear hty
    go_enter Tryz.func22, Tryz.ntmps22
    go_wp2_with fail
    refine (Hof.out).mono ?_
    rintro x w1 ⟨kc, rfl, hk, hb1⟩
    obtain ⟨b, rfl, hB⟩ := kd1 hk
    have Hb := hide (hb1.alloc hb1.size (.cells #[.int .i64 0, .int .i64 0, .func (.func 82) #[] #[], .func (.func 114) #[] #[.pointer (some ⟨b, 0, none⟩)], .func (.func 85) #[] #[], .func (.func 87) #[] #[], .string ⟨#[114]⟩] 69))
    have HB := hide hB
    clear hk hb1 hB
    go_wp2_with fail
    refine (same1_any wd b _ (HB.out.alloc (.cells #[.int .i64 0, .int .i64 0, .func (.func 82) #[] #[], .func (.func 114) #[] #[.pointer (some ⟨b, 0, none⟩)], .func (.func 85) #[] #[], .func (.func 87) #[] #[], .string ⟨#[114]⟩] 69))).mono ?_
    rintro x w2 ⟨rfl, rfl⟩
    have Hb2 := Hb
    go_wp2
    go_returns
    exact ⟨rfl, Hb2.out⟩
  ·clear hout
   cases hty : tyB (2, wd) with
   | false =>
    rw [hty] at Hof
    rw [if_neg (by decide), show bs ([] : List UInt8) = ⟨#[]⟩ from rfl]
    clear hty
    go_enter Tryz.func22, Tryz.ntmps22
    go_wp2_with fail
    refine (Hof.out).mono ?_
    rintro x w1 ⟨kc, rfl, hk, hb1⟩
    obtain ⟨b, rfl, hB⟩ := kd2 hk
    have Hb := hide (hb1.alloc hb1.size (.cells #[.int .i64 0, .int .i64 0, .func (.func 88) #[] #[], .func (.func 114) #[] #[.pointer (some ⟨b, 0, none⟩)], .func (.func 89) #[] #[], .func (.func 91) #[] #[], .string ⟨#[115]⟩] 69))
    clear hk hb1 hB
    go_wp2
    go_returns
    exact ⟨rfl, Hb.out⟩
   | true =>
    rw [hty] at Hof
    rw [if_pos rfl]
    rw [show bs (initV (2, wd)) = ⟨#[]⟩ from rfl]
    clear hty
    go_enter Tryz.func22, Tryz.ntmps22
    go_wp2_with fail
    refine (Hof.out).mono ?_
    rintro x w1 ⟨kc, rfl, hk, hb1⟩
    obtain ⟨b, rfl, hB⟩ := kd2 hk
    have Hb := hide (hb1.alloc hb1.size (.cells #[.int .i64 0, .int .i64 0, .func (.func 88) #[] #[], .func (.func 114) #[] #[.pointer (some ⟨b, 0, none⟩)], .func (.func 89) #[] #[], .func (.func 91) #[] #[], .string ⟨#[115]⟩] 69))
    have HB := hide hB
    clear hk hb1 hB
    go_wp2_with fail
    refine (same1_any wd b _ (HB.out.alloc (.cells #[.int .i64 0, .int .i64 0, .func (.func 88) #[] #[], .func (.func 114) #[] #[.pointer (some ⟨b, 0, none⟩)], .func (.func 89) #[] #[], .func (.func 91) #[] #[], .string ⟨#[115]⟩] 69))).mono ?_
    rintro x w2 ⟨rfl, rfl⟩
    have Hb2 := Hb
    go_wp2
    go_returns
    exact ⟨rfl, Hb2.out⟩
  ·clear hout
   cases hty : tyB (3, wd) with
   | false =>
    rw [hty] at Hof
    rw [if_neg (by decide), show bs ([] : List UInt8) = ⟨#[]⟩ from rfl]
    clear hty
    go_enter Tryz.func22, Tryz.ntmps22
    go_wp2_with fail
    refine (Hof.out).mono ?_
    rintro x w1 ⟨kc, rfl, hk, hb1⟩
    obtain ⟨b, rfl, hB⟩ := kd3 hk
    have Hb := hide (hb1.alloc hb1.size (.cells #[.int .i64 0, .int .i64 0, .func (.func 92) #[] #[], .func (.func 114) #[] #[.pointer (some ⟨b, 0, none⟩)], .func (.func 93) #[] #[], .func (.func 94) #[] #[], .string ⟨#[]⟩] 69))
    clear hk hb1 hB
    go_wp2
    go_returns
    exact ⟨rfl, Hb.out⟩
   | true =>
    rw [hty] at Hof
    rw [if_pos rfl]
    rw [show bs (initV (3, wd)) = ⟨#[]⟩ from rfl]
    clear hty
    go_enter Tryz.func22, Tryz.ntmps22
    go_wp2_with fail
    refine (Hof.out).mono ?_
    rintro x w1 ⟨kc, rfl, hk, hb1⟩
    obtain ⟨b, rfl, hB⟩ := kd3 hk
    have Hb := hide (hb1.alloc hb1.size (.cells #[.int .i64 0, .int .i64 0, .func (.func 92) #[] #[], .func (.func 114) #[] #[.pointer (some ⟨b, 0, none⟩)], .func (.func 93) #[] #[], .func (.func 94) #[] #[], .string ⟨#[]⟩] 69))
    have HB := hide hB
    clear hk hb1 hB
    go_wp2_with fail
    refine (same1_any wd b _ (HB.out.alloc (.cells #[.int .i64 0, .int .i64 0, .func (.func 92) #[] #[], .func (.func 114) #[] #[.pointer (some ⟨b, 0, none⟩)], .func (.func 93) #[] #[], .func (.func 94) #[] #[], .string ⟨#[]⟩] 69))).mono ?_
    rintro x w2 ⟨rfl, rfl⟩
    have Hb2 := Hb
    go_wp2
    go_returns
    exact ⟨rfl, Hb2.out⟩
end Go.Proofs.YtjfcemlbbinanaaGreatDoor
/-
  The walks over snapshots: whether types are types, whether texts are values of them, the first values.
-/
namespace Go.Proofs.YtjfcemlbbinanaaGreatDoor
open Go.RowKit Go.Proofs Wv Wv.Vi Wv.Bc Wv.Sn
set_option linter.unusedVariables false
theorem at_type {w : World} {A : Option Addr} {st : List (Int × Int)} (ha : At w A (pv st)) (k : Nat) (h : k < st.length) : ∃ b o, A = some ⟨b, o, none⟩ ∧ w.cell? ⟨b, o + k * 2, none⟩ = some (.int .i64 st[k].1) ∧ w.cell? ⟨b, o + k * 2 + 1, none⟩ = some (.int .i64 st[k].2) := by
 have hp := pv_get st k h
 obtain ⟨b, o, hA, _, c0⟩ := ha.get (k * 2) _ hp.1
 obtain ⟨b', o', hA', _, c1⟩ := ha.get (k * 2 + 1) _ hp.2
 rw [hA] at hA'
 injection hA' with hA'
 injection hA' with h1 h2
 subst h1; subst h2
 exact ⟨b, o, hA, c0, c1⟩
set_option maxRecDepth 100000 in
set_option maxHeartbeats 2000000 in
theorem stypes_any {w : World} {A : Option Addr} {st : List (Int × Int)} (ha : At w A (pv st)) (n cap : Nat) (hn : n = st.length) (hn4 : n ≤ 9223372036854775807) :
  Calls Tryz.prog 29 #[.slice A n cap] w fun x w' => x = .returned (.bool (tysB st)) ∧ Below w.heap.size w w' := by
 have Ha := hide ha
 have Hn := hide hn
 have Hv := hide (fun a b W => vtype_any a b W)
 have HT : Hid (tysB st = (st.all tyB && decide (st.length ≤ 64))) := hide rfl
 clear ha hn
 go_enter Tryz.func29, Tryz.ntmps29
 go_wp2
 go_loopw [7] (fun s7 wr => ∃ k : Nat, k ≤ n ∧ s7 = .int .i64 (k : Int) ∧ Hid ((st.take k).all tyB = true) ∧ Hid (Below w.heap.size w wr)) (fun s7 _ => (n - intOf s7).toNat)
 case atStart => exact ⟨0, Nat.zero_le _, rfl, hide rfl, hide (Below.refl _ _)⟩
 case round =>
  obtain ⟨k, hk, rfl, hall, hb⟩ := hrel
  by_cases hlt : k < n
  ·have hkl : k < st.length := by rw [← Hn.out]; exact hlt
   obtain ⟨bA, oA, rfl, c0, c1⟩ := at_type (Ha.out.below hb.out) k hkl
   have htk : st.take (k + 1) = st.take k ++ [st[k]] := List.take_succ_eq_append_getElem hkl
   have hmem : st[k] ∈ st := List.getElem_mem _
   obtain ⟨⟨a, c⟩, hs⟩ : ∃ x, st[k] = x := ⟨_, rfl⟩
   rw [hs] at c0 c1 htk hmem
   simp only at c0 c1
   have Hb := hide (hb.out.alloc hb.out.size (.cells #[.int .i64 a, .int .i64 c] 44))
   have Hva := hide (Hv.out a c)
   have hk0 : (0 : Int) ≤ (k : Int) := by omega
   have hltI : (k : Int) < (n : Int) := by omega
   cases hty : tyB (a, c) with
   | false =>
    have HR : Hid (tysB st = false) := hide (by
     rw [HT.out, Bool.and_eq_false_iff]
     left
     rw [List.all_eq_false]
     exact ⟨_, hmem, by rw [hty]; decide⟩)
    rw [hty] at Hva
    clear htk hmem hs hty hkl hb
    go_wp2_with fail
    refine (Hva.out _).mono ?_
    rintro x w1 ⟨rfl, hb1⟩
    have Hb1 := hide (Hb.out.trans (hb1.mono Hb.out.size))
    clear hb1
    go_wp2
    go_returns
    exact ⟨ret_bool HR.out.symm, Hb1.out⟩
   | true =>
    have Hall : Hid ((st.take (k + 1)).all tyB = true) := hide (by
     rw [htk, List.all_append, hall.out]
     simp [hty])
    rw [hty] at Hva
    clear htk hmem hs hty hkl hb hall
    go_wp2_with fail
    refine (Hva.out _).mono ?_
    rintro x w1 ⟨rfl, hb1⟩
    have Hb1 := hide (Hb.out.trans (hb1.mono Hb.out.size))
    clear hb1
    go_wp2
    refine ⟨⟨k + 1, hlt, by go_num, Hall, Hb1⟩, ?_⟩
    simp [intOf] <;> omega
  ·have hkn : k = n := by omega
   subst hkn
   have HR : Hid (tysB st = decide ((k : Int) ≤ 64)) := hide (by
    have h := hall.out
    rw [List.take_of_length_le (by rw [Hn.out]; exact Nat.le_refl _)] at h
    rw [HT.out, h, ← Hn.out, Bool.true_and]
    simp only [decide_eq_decide]
    omega)
   clear hall
   go_wp2
   go_returns
   exact ⟨ret_bool HR.out.symm, hb.out⟩
end Go.Proofs.YtjfcemlbbinanaaGreatDoor
/-
  The walks over snapshots: whether texts are values of types.
-/
namespace Wv.Sn
open Go Go.RowKit Wv Wv.Bc
theorem vasL_drop (dv : List UInt8 → Bool) (st : List (Int × Int)) (vs : List ByteArray) (k : Nat) (h : k < st.length) (h2 : k < vs.length) : vasL dv (st.drop k) (vs.drop k) = (vaB dv st[k] (toL vs[k]) && vasL dv (st.drop (k + 1)) (vs.drop (k + 1))) := by
 rw [List.drop_eq_getElem_cons h, List.drop_eq_getElem_cons h2]
 rfl
end Wv.Sn
namespace Go.Proofs.YtjfcemlbbinanaaGreatDoor
open Go.RowKit Go.Proofs Wv Wv.Vi Wv.Bc Wv.Sn Wv.Dc
set_option linter.unusedVariables false
def tvs (l : List ByteArray) : List Value := l.map Value.string
theorem tvs_get (l : List ByteArray) (k : Nat) (h : k < l.length) : (tvs l)[k]? = some (.string l[k]) := by
 rw [tvs, List.getElem?_map, List.getElem?_eq_getElem h]; rfl
theorem at_text {w : World} {A : Option Addr} {l : List ByteArray} (ha : At w A (tvs l)) (k : Nat) (h : k < l.length) : ∃ b o, A = some ⟨b, o, none⟩ ∧ b < w.heap.size ∧ w.cell? ⟨b, o + k, none⟩ = some (.string l[k]) :=
 ha.get k _ (tvs_get l k h)
theorem Below.cellAt {w w' : World} {B : Nat} (h : Below B w w') {p : Addr} (hp : p.block < B) {v : Value} (hc : w.cell? p = some v) : w'.cell? p = some v := by
 rw [World.cell?_of_block (h.block _ hp)]; exact hc
theorem two_cells {w W X : World} {bB p : Nat} {a c : Int} {v : ByteArray} (hW : W.heap = (w.alloc (.cells #[.int .i64 a, .int .i64 c] 44)).heap) (hl : bB < w.heap.size) (hc : w.cell? ⟨bB, p, none⟩ = some (.string v)) (hb : Below W.heap.size W X) :
  X.cell? ⟨w.heap.size, 0, none⟩ = some (.int .i64 a) ∧ X.cell? ⟨w.heap.size, 1, none⟩ = some (.int .i64 c) ∧ X.cell? ⟨bB, p, none⟩ = some (.string v) := by
 have hz : Bk W w.heap.size 44 #[.int .i64 a, .int .i64 c] := by
  unfold Bk
  rw [hW]
  exact Bk.new w 44 #[.int .i64 a, .int .i64 c]
 have h2 := hz.below hb hz.lt
 have hWc : W.cell? ⟨bB, p, none⟩ = some (.string v) := by
  have h3 : (w.alloc (.cells #[.int .i64 a, .int .i64 c] 44)).cell? ⟨bB, p, none⟩ = some (.string v) := Below.cellAt (((Below.refl w.heap.size w).alloc (Nat.le_refl _) _)) hl hc
  simp only [World.cell?, hW] at h3 ⊢
  exact h3
 exact ⟨h2.cell 0, h2.cell 1, Below.cellAt hb (by rw [hW]; simp; omega) hWc⟩
set_option maxRecDepth 100000 in
set_option maxHeartbeats 4000000 in
theorem svalid_any {w : World} {A B : Option Addr} {st : List (Int × Int)} {vs : List ByteArray} (ha : At w A (pv st)) (hv : At w B (tvs vs)) (ht : Tab w) (hsz : ∀ s ∈ vs, s.size ≤ 1099511627776) (n cap m cap2 : Nat) (hn : n = st.length) (hm : m = vs.length) (hn4 : n ≤ 9223372036854775807) (hm4 : m ≤ 9223372036854775807) :
  Calls Tryz.prog 12 #[.slice A n cap, .slice B m cap2] w fun x w' => x = .returned (.bool (vasB validS st vs)) ∧ Below w.heap.size w w' := by
 have Hty := hide (stypes_any ha n cap hn hn4)
 have Ha := hide ha
 have Hv := hide hv
 have Ht := hide ht
 have Hn := hide hn
 have Hm := hide hm
 have HT : Hid (vasB validS st vs = (tysB st && vasL validS st vs)) := hide rfl
 have HV := hide (fun a b (s : ByteArray) (h : s ∈ vs) W (hW : Tab W) => vvalid_any a b (toL s) (by rw [toL_length]; exact hsz s h) hW)
 clear ha hv ht hsz hn hm
 cases hty : tysB st with
 | false =>
  rw [hty] at Hty
  have HR : Hid (vasB validS st vs = false) := hide (by rw [HT.out, hty]; rfl)
  clear hty
  go_enter Tryz.func12, Tryz.ntmps12
  go_wp2_with fail
  refine (Hty.out).mono ?_
  rintro x w1 ⟨rfl, hb1⟩
  go_wp2
  go_returns
  exact ⟨ret_bool HR.out.symm, hb1⟩
 | true =>
  rw [hty] at Hty
  have HR : Hid (vasB validS st vs = vasL validS st vs) := hide (by rw [HT.out, hty]; rfl)
  clear hty
  by_cases hnm : m = n
  ·subst hnm
   go_enter Tryz.func12, Tryz.ntmps12
   go_wp2_with fail
   refine (Hty.out).mono ?_
   rintro x w1 ⟨rfl, hb1⟩
   have Hb1 := hide hb1
   clear hb1
   go_wp2
   go_loopw [19] (fun s19 wr => ∃ k : Nat, k ≤ m ∧ s19 = .int .i64 (k : Int) ∧ Hid (vasL validS st vs = vasL validS (st.drop k) (vs.drop k)) ∧ Hid (Below w.heap.size w wr)) (fun s19 _ => (m - intOf s19).toNat)
   case atStart => exact ⟨0, Nat.zero_le _, rfl, hide rfl, Hb1⟩
   case round =>
    clear Hb1
    obtain ⟨k, hk, rfl, hall, hb⟩ := hrel
    by_cases hlt : k < m
    ·have hkl : k < st.length := by rw [← Hn.out]; exact hlt
     have hkv : k < vs.length := by rw [← Hm.out]; exact hlt
     obtain ⟨bA, oA, rfl, c0, c1⟩ := at_type (Ha.out.below hb.out) k hkl
     obtain ⟨bB, oB, rfl, hlB, d0⟩ := at_text (Hv.out.below hb.out) k hkv
     have hstep := vasL_drop validS st vs k hkl hkv
     have Hva := hide (HV.out st[k].1 st[k].2 vs[k] (List.getElem_mem _))
     obtain ⟨⟨a, c⟩, hs⟩ : ∃ x, st[k] = x := ⟨_, rfl⟩
     rw [hs] at c0 c1 hstep Hva
     simp only at c0 c1 Hva
     rw [bs_toL] at Hva
     generalize vs[k] = v at *
     have HX := hide (fun (W X : World) (hW : W.heap = (wr.alloc (.cells #[.int .i64 a, .int .i64 c] 44)).heap) (h : Below W.heap.size W X) => two_cells (p := oB + k) hW hlB d0 h)
     have Hb := hide (hb.out.alloc hb.out.size (.cells #[.int .i64 a, .int .i64 c] 44))
     have h0 := HX.out (wr.alloc (.cells #[.int .i64 a, .int .i64 c] 44)).drew (wr.alloc (.cells #[.int .i64 a, .int .i64 c] 44)).drew rfl (Below.refl _ _)
     have HXd := hide (fun (X : World) h => HX.out (wr.alloc (.cells #[.int .i64 a, .int .i64 c] 44)).drew X rfl h)
     have Htw := hide (Ht.out.below Hb.out.drew)
     have hk0 : (0 : Int) ≤ (k : Int) := by omega
     have hltI : (k : Int) < (m : Int) := by omega
     cases hvk : vaB validS (a, c) (toL v) with
     | false =>
      rw [hvk] at Hva
      have HR2 : Hid (vasB validS st vs = false) := hide (by rw [HR.out, hall.out, hstep, hvk]; rfl)
      clear hstep hs hvk hkl hkv hb hall
      go_wp2
      go_region_held3 (fun X => X.cell? ⟨wr.heap.size, 0, none⟩ = some (.int .i64 a) ∧ X.cell? ⟨wr.heap.size, 1, none⟩ = some (.int .i64 c) ∧ X.cell? ⟨bB, oB + k, none⟩ = some (.string v)) (first | with_reducible assumption) (first
       | (go_at_call 30; with_reducible refine (Hva.out _ Htw.out).mono ?_; rintro r w2 ⟨rfl, hb2⟩; have hx2 := HXd.out _ hb2; have Hb2 := hide (Hb.out.drew.trans (hb2.mono Hb.out.drew.size)); clear hb2))
      clear h0 hx2
      go_wp2
      go_returns
      exact ⟨ret_bool HR2.out.symm, Hb2.out⟩
     | true =>
      rw [hvk] at Hva
      have Hall : Hid (vasL validS st vs = vasL validS (st.drop (k + 1)) (vs.drop (k + 1))) := hide (by rw [hall.out, hstep, hvk]; rfl)
      clear hstep hs hvk hkl hkv hb hall
      go_wp2
      go_region_held3 (fun X => X.cell? ⟨wr.heap.size, 0, none⟩ = some (.int .i64 a) ∧ X.cell? ⟨wr.heap.size, 1, none⟩ = some (.int .i64 c) ∧ X.cell? ⟨bB, oB + k, none⟩ = some (.string v)) (first | with_reducible assumption) (first
       | (go_at_call 30; with_reducible refine (Hva.out _ Htw.out).mono ?_; rintro r w2 ⟨rfl, hb2⟩; have hx2 := HXd.out _ hb2; have Hb2 := hide (Hb.out.drew.trans (hb2.mono Hb.out.drew.size)); clear hb2))
      clear h0 hx2
      go_wp2
      refine ⟨⟨k + 1, hlt, by go_num, Hall, Hb2⟩, ?_⟩
      simp [intOf] <;> omega
    ·have hkn : k = m := by omega
     subst hkn
     have HR2 : Hid (vasB validS st vs = true) := hide (by
      rw [HR.out, hall.out, List.drop_eq_nil_of_le (by rw [Hn.out]; exact Nat.le_refl _), List.drop_eq_nil_of_le (by rw [← Hm.out]; exact Nat.le_refl _)]
      rfl)
     clear hall
     go_wp2
     go_returns
     exact ⟨ret_bool HR2.out.symm, hb.out⟩
  ·have hne : ((m : Int) != (n : Int)) = true := by rw [bne_iff_ne]; omega
   have HR2 : Hid (vasB validS st vs = false) := hide (by
    rw [HR.out]
    cases h : vasL validS st vs with
    | false => rfl
    | true => have := vasL_len h; have := Hn.out; have := Hm.out; omega)
   go_enter Tryz.func12, Tryz.ntmps12
   go_wp2_with fail
   refine (Hty.out).mono ?_
   rintro x w1 ⟨rfl, hb1⟩
   go_wp2
   go_returns
   exact ⟨ret_bool HR2.out.symm, hb1⟩
end Go.Proofs.YtjfcemlbbinanaaGreatDoor
/-
  The walks over snapshots: the first values of types.
-/
namespace Go.Proofs.YtjfcemlbbinanaaGreatDoor
open Go.RowKit Go.Proofs Wv Wv.Vi Wv.Bc Wv.Sn Wv.Dc
set_option linter.unusedVariables false
theorem tstrinf : (Tryz.prog.info? 9).map (fun i => (i.zero, i.size, i.bytes)) = some (some (.string ByteArray.empty), 1, 16) := by kernel_rfl
def TvR (w : World) (v : Value) (l : List ByteArray) : Prop := ∃ A cap, v = .slice A l.length cap ∧ At w A (tvs l)
theorem TvR.nil (w : World) : TvR w (.slice none 0 0) [] := ⟨none, 0, rfl, At.nil _ _⟩
theorem own_tvr {w : World} {base e : Nat} {v : Value} {l : List ByteArray} (h : w.ownsRow base e 1 v l.length (tvs l)) : TvR w v l := by
 obtain ⟨A, cap, hv, ha⟩ := own_at h
 exact ⟨A, cap, hv, ha⟩
theorem tvs_snoc (l : List ByteArray) (s : ByteArray) : tvs (l ++ [s]) = tvs l ++ [.string s] := by unfold tvs; rw [List.map_append]; rfl
set_option maxRecDepth 100000 in
set_option maxHeartbeats 4000000 in
theorem sinit_any {w : World} {A : Option Addr} {st : List (Int × Int)} (ha : At w A (pv st)) (n cap : Nat) (hn : n = st.length) (hn4 : n ≤ 9223372036854775807) :
  Calls Tryz.prog 23 #[.slice A n cap] w fun x w' => ∃ v, x = .returned v ∧ TvR w' v (initS st) ∧ Below w.heap.size w w' := by
 have Hty := hide (stypes_any ha n cap hn hn4)
 have Ha := hide ha
 have Hn := hide hn
 have HI := hide (fun a b W => vinit_any a b W)
 have HT : Hid (initS st = if tysB st = false then [] else st.map (fun s => bs (initV s))) := hide rfl
 have HA := hide (fun h => (tysB_iff (st := st)).1 h)
 clear ha hn
 cases hty : tysB st with
 | false =>
  rw [hty] at Hty
  have HR : Hid (initS st = []) := hide (by rw [HT.out, hty]; rfl)
  clear hty
  go_enter Tryz.func23, Tryz.ntmps23
  go_wp2_with fail
  refine (Hty.out).mono ?_
  rintro x w1 ⟨rfl, hb1⟩
  go_wp2
  go_returns
  exact ⟨_, rfl, by rw [HR.out]; exact TvR.nil _, hb1⟩
 | true =>
  rw [hty] at Hty
  have HR : Hid (initS st = st.map (fun s => bs (initV s))) := hide (by rw [HT.out, hty]; rfl)
  obtain ⟨hall, h64⟩ := HA.out hty
  have Hall := hide hall
  have hn64 : n ≤ 64 := by rw [Hn.out]; exact h64
  clear hty hall h64 HT HA
  go_enter Tryz.func23, Tryz.ntmps23
  go_wp2_with fail
  refine (Hty.out).mono ?_
  rintro x w1 ⟨rfl, hb1⟩
  have Hb1 := hide hb1
  clear hb1
  go_wp2
  go_loopw [3, 11] (fun s3 s11 wr => ∃ k : Nat, k ≤ n ∧ s11 = .int .i64 (k : Int) ∧ Hid (wr.ownsRow w.heap.size 9 1 s3 k (tvs ((st.take k).map (fun s => bs (initV s))))) ∧ Hid (Below w.heap.size w wr)) (fun _ s11 _ => (n - intOf s11).toNat)
  case atStart => exact ⟨0, Nat.zero_le _, rfl, hide own_nil, Hb1⟩
  case round =>
   clear Hb1
   obtain ⟨k, hk, rfl, hown, hb⟩ := hrel
   obtain ⟨A5, cap5, hv5, _⟩ := own_at hown.out
   subst hv5
   by_cases hlt : k < n
   ·have hkl : k < st.length := by rw [← Hn.out]; exact hlt
    obtain ⟨bA, oA, rfl, c0, c1⟩ := at_type (Ha.out.below hb.out) k hkl
    have htk : st.take (k + 1) = st.take k ++ [st[k]] := List.take_succ_eq_append_getElem hkl
    have hts := Hall.out st[k] (List.getElem_mem _)
    obtain ⟨⟨a, c⟩, hs⟩ : ∃ x, st[k] = x := ⟨_, rfl⟩
    rw [hs] at c0 c1 htk hts
    simp only at c0 c1
    have Hva := hide (HI.out a c)
    rw [hts, if_pos rfl] at Hva
    have Hb := hide (hb.out.alloc hb.out.size (.cells #[.int .i64 a, .int .i64 c] 44))
    have Hown := hide (own_fr hown.out (Fr.of_below (S := nob) ((Below.refl wr.heap.size wr).alloc (Nat.le_refl _) (.cells #[.int .i64 a, .int .i64 c] 44))) (fun _ _ f => f))
    have Hsn := hide (show tvs ((st.take (k + 1)).map (fun s => bs (initV s))) = tvs ((st.take k).map (fun s => bs (initV s))) ++ [.string (bs (initV (a, c)))] by rw [htk, List.map_append, ← tvs_snoc]; rfl)
    have hk0 : (0 : Int) ≤ (k : Int) := by omega
    have hltI : (k : Int) < (n : Int) := by omega
    generalize bs (initV (a, c)) = X at *
    clear htk hts hs hkl hb hown
    go_wp2_with fail
    refine (Hva.out _).mono ?_
    rintro x w2 ⟨rfl, hb2⟩
    have hown1 := own_fr Hown.out (Fr.of_below (S := nob) hb2) (fun _ _ f => f)
    have hbx := Hb.out.trans (hb2.mono Hb.out.size)
    obtain ⟨v', w4, hrun, hown4, hf4, _⟩ := app_own (P := Tryz.prog) 23 9 _ _ Tryz.underlying23 tstrinf rfl (w := w2) hown1 hbx hbx.size (.string X) rfl (by unfold maxLen; omega) (by omega)
    have Hrun := hide hrun
    have Hown4 := hide hown4
    rw [← Hsn.out] at Hown4
    have Hf4 := hide hf4
    clear hb2 hrun hown4 hf4 hown1 hbx Hsn Hown Hb
    go_wp2_with (
     at_builtin
     refine wpList_run (by with_reducible rfl) rfl _ _ _ rfl _ _ (by rfl) (by rfl) Hrun.out ?_)
    refine ⟨⟨k + 1, hlt, by go_num, Hown4, Hf4⟩, ?_⟩
    simp [intOf] <;> omega
   ·have hkn : k = n := by omega
    subst hkn
    have HR2 : Hid (TvR wr (.slice A5 k cap5) (initS st)) := hide (by
     have h := hown.out
     rw [List.take_of_length_le (by rw [Hn.out]; exact Nat.le_refl _), ← HR.out] at h
     have hl : (initS st).length = k := by rw [HR.out, List.length_map, ← Hn.out]
     rw [← hl] at h
     have := own_tvr h
     rw [hl] at this
     exact this)
    clear hown
    go_wp2
    go_returns
    exact ⟨_, rfl, HR2.out, hb.out⟩
end Go.Proofs.YtjfcemlbbinanaaGreatDoor
