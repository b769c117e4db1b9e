/-
  Joined texts: Hd, He, Hf, Oa.
-/
import Derived.Test.YtgllednilkfpgaaGreatJ11
import Derived.Test.YtgllednilkfpgaaGreatJ30
import Derived.Test.YtgllednilkfpgaaGreatJ10
set_option linter.unusedVariables false
set_option linter.unusedSimpArgs false
/-
  The codings of times, plain: what the bytes are, how many there are at most.
-/
namespace Go.Proofs.YtgllednilkfpgaaGreat
open Go.RowKit Go.Proofs Wv Wv.Vi Wv.Rc Wv.Mo Wv.Ru Wv.Tm
set_option linter.unusedVariables false
theorem tmencB_len (c : Nat) {l : List ByteArray} (hl : l.length ≤ 4096) (hs : ∀ s ∈ l, s.size ≤ 128) : (encB c l).length ≤ 2000000 := by
  have hDl := dict_length l
  have h1 := frontB_len c (dict l) (dict l).length (size_dict hs) (by omega)
  have h2 := encn_len (codeA c l) (fun v hv => by have := codeA_lt c l hl v hv; omega)
  have h3 := encn_len (cnts l) (fun v hv => by have := cnts_lt l hl v hv; omega)
  have h4 := kof9 (encA c l).length
  have h5 := runs_length (dict l) l
  rw [codeA_length] at h2
  rw [cnts_length] at h3
  have h6 : encB c l = frontB c (dict l) (dict l).length ++ (num (encA c l).length ++ encn (codeA c l)) ++ encn (cnts l) := by
    unfold encB frontB
    rw [List.take_length]
    rfl
  rw [h6, List.length_append, List.length_append, List.length_append]
  omega
theorem tmenc_len {l : List ByteArray} (hl : l.length ≤ 4096) (hs : ∀ s ∈ l, s.size ≤ 128) : (enc l).1.length ≤ 2000000 := by
  obtain ⟨c, hc, he⟩ := enc_cases hl hs
  rw [he]
  exact tmencB_len c hl hs
/-- Numbers, coded. -/
def numsI (l : List Int) : List UInt8 := encn (l.map Int.toNat)
def txts (l : List Int) : List ByteArray := l.map (fun g => bs (num g.toNat))
def cod0 (l : List Int) : List UInt8 := num 0 ++ numsI (gapsT l)
def cod1 (l : List Int) : List UInt8 := num 1 ++ num (detect l).st.toNat ++ num (detect l).f.toNat ++ num (detect l).s.toNat ++ num (detect l).n.toNat ++ text (bs (numsI (gapsT (missL (detect l) l)))) ++ numsI (gapsT (furL (detect l) l))
def cod2 (l : List Int) : List UInt8 := num 2 ++ (enc (txts (gapsT l))).1
def codT (c : Nat) (l : List Int) : List UInt8 := if c = 0 then cod0 l else if c = 1 then cod1 l else cod2 l
def encAsT (c : Int) (l : List Int) : List UInt8 × Nat := if c < 0 ∨ 2 < c ∨ (c = 1 ∧ l.length < 2) then ([], 1) else if validT l = true then (codT c.toNat l, 0) else ([], 2)
/-- The shorter one, the earlier one at a tie. -/
def mnT (a b : List UInt8) : List UInt8 := if b.length < a.length then b else a
def encT (l : List Int) : List UInt8 × Nat := if validT l = true then (if l.length < 2 then mnT (cod0 l) (cod2 l) else mnT (mnT (cod0 l) (cod1 l)) (cod2 l), 0) else ([], 2)
theorem numsI_len {l : List Int} (h : validT l = true) : (numsI (gapsT l)).length ≤ 600000 := by
  obtain ⟨_, _, v3⟩ := validT_iff.1 h
  have hg := gapsT_in h
  have := encn_len ((gapsT l).map Int.toNat) (fun v hv => by
    obtain ⟨g, hg1, rfl⟩ := List.mem_map.1 hv
    have := hg g hg1
    omega)
  rw [List.length_map] at this
  unfold gapsT at this
  rw [gp_length] at this
  unfold numsI gapsT
  omega
theorem txts_size (l : List Int) : ∀ s ∈ txts l, s.size ≤ 9 := by
  intro s hs
  obtain ⟨g, _, rfl⟩ := List.mem_map.1 hs
  rw [bs_size, num_length]
  have := kof_le g.toNat
  omega
theorem txts_length (l : List Int) : (txts l).length = l.length := by simp [txts]
theorem cod2_enc {l : List Int} (h : validT l = true) : (enc (txts (gapsT l))).2 = 0 ∧ (enc (txts (gapsT l))).1.length ≤ 2000000 := by
  obtain ⟨_, _, v3⟩ := validT_iff.1 h
  have hl : (txts (gapsT l)).length ≤ 4096 := by rw [txts_length]; unfold gapsT; rw [gp_length]; exact v3
  have hs : ∀ s ∈ txts (gapsT l), s.size ≤ 128 := fun s hs => by have := txts_size _ s hs; omega
  exact ⟨by obtain ⟨c, _, he⟩ := enc_cases hl hs; rw [he], tmenc_len hl hs⟩
end Go.Proofs.YtgllednilkfpgaaGreat
/-
  The codings of times, plain: the times with some bytes.
-/
namespace Go.Proofs.YtgllednilkfpgaaGreat
open Go.RowKit Go.Proofs Wv Wv.Vi Wv.Rc Wv.Mo Wv.Ru Wv.Tm
set_option linter.unusedVariables false
/-- A clock at the front of bytes, the missing ones behind it, and the rest. -/
def rclk (s : List UInt8) : Option (Clk × List UInt8 × List UInt8) :=
  match rnum s 1099511627776 with
  | none => none
  | some (a, s1) =>
    match rnum s1 1099511627776 with
    | none => none
    | some (b, s2) =>
      match rnum s2 1099511627776 with
      | none => none
      | some (d, s3) =>
        match rnum s3 4096 with
        | none => none
        | some (n, s4) =>
          match rtext s4 s4.length with
          | none => none
          | some (x, t) => some (⟨(a : Int), (b : Int), (d : Int), (n : Int)⟩, x, t)
/-- The times that a clock and its exceptions say. -/
def finC (c : Clk) (X Y : List Int × Nat) : Option (List Int) :=
  if vclk c = false ∨ X.2 ≠ 0 ∨ Y.2 ≠ 0 then none
  else match jnL X.1, jnL Y.1 with
    | some m, some x => some (rebL c m x)
    | _, _ => none
def readC (s : List UInt8) : Option (List Int) := match rclk s with
  | none => none
  | some (c, a, t) => finC c (decn a 4096) (decn t 4096)
def numsT : List ByteArray → Option (List Int)
  | [] => some []
  | s :: r => match rnum (toL s) 1099511627776 with
    | some (g, []) => (numsT r).map ((g : Int) :: ·)
    | _ => none
def readT (data : List UInt8) : Option (List Int) := match rnum data 2 with
  | none => none
  | some (c, r) =>
    if c = 0 then (if (decn r 4096).2 ≠ 0 then none else jnL (decn r 4096).1)
    else if c = 1 then readC r
    else if (dec r 4096).2 ≠ 0 then none else match numsT (dec r 4096).1 with
      | none => none
      | some g => jnL g
def decT (data : List UInt8) (most : Int) : List Int × Nat := match readT data with
  | none => ([], 12)
  | some l => if (encT l).2 ≠ 0 ∨ (encT l).1 ≠ data then ([], 12) else if most < (l.length : Int) then ([], 2) else (l, 0)
def q1 (s : ByteArray) := numR s 0 1099511627776
def q2 (s : ByteArray) := numR (q1 s).2.1 (q1 s).2.2 1099511627776
def q3 (s : ByteArray) := numR (q2 s).2.1 (q2 s).2.2 1099511627776
def q4 (s : ByteArray) := numR (q3 s).2.1 (q3 s).2.2 4096
def q5 (s : ByteArray) := textR (q4 s).2.1 (q4 s).2.2 ((q4 s).2.1.size : Int)
theorem rclk_run (s : List UInt8) : ((q5 (bs s)).2.2 ≠ 0 ∧ rclk s = none) ∨ ((q5 (bs s)).2.2 = 0 ∧ ∃ x t, rclk s = some (⟨((q1 (bs s)).1 : Int), ((q2 (bs s)).1 : Int), ((q3 (bs s)).1 : Int), ((q4 (bs s)).1 : Int)⟩, x, t) ∧ (q5 (bs s)).1 = bs x ∧ (q5 (bs s)).2.1 = bs t ∧ x.length ≤ s.length ∧ t.length ≤ s.length) := by
  unfold rclk
  match h1 : rnum s 1099511627776 with
  | none =>
    obtain ⟨e, he, hn⟩ := numR_nok h1
    have e1 : q1 (bs s) = (0, bs s, e) := hn
    have e2 : q2 (bs s) = (0, bs s, e) := by unfold q2; rw [e1]; exact numR_err he _
    have e3 : q3 (bs s) = (0, bs s, e) := by unfold q3; rw [e2]; exact numR_err he _
    have e4 : q4 (bs s) = (0, bs s, e) := by unfold q4; rw [e3]; exact numR_err he _
    have e5 : q5 (bs s) = (bs [], bs s, e) := by unfold q5; rw [e4]; exact textR_err he _
    rw [e5]
    exact .inl ⟨he, rfl⟩
  | some (a, s1) =>
    obtain ⟨hn1, hm1, hl1⟩ := numR_some h1
    have e1 : q1 (bs s) = (a, bs s1, 0) := hn1
    simp only
    match h2 : rnum s1 1099511627776 with
    | none =>
      obtain ⟨e, he, hn⟩ := numR_nok h2
      have e2 : q2 (bs s) = (0, bs s1, e) := by unfold q2; rw [e1]; exact hn
      have e3 : q3 (bs s) = (0, bs s1, e) := by unfold q3; rw [e2]; exact numR_err he _
      have e4 : q4 (bs s) = (0, bs s1, e) := by unfold q4; rw [e3]; exact numR_err he _
      have e5 : q5 (bs s) = (bs [], bs s1, e) := by unfold q5; rw [e4]; exact textR_err he _
      rw [e5]
      exact .inl ⟨he, rfl⟩
    | some (b, s2) =>
      obtain ⟨hn2, hm2, hl2⟩ := numR_some h2
      have e2 : q2 (bs s) = (b, bs s2, 0) := by unfold q2; rw [e1]; exact hn2
      simp only
      match h3 : rnum s2 1099511627776 with
      | none =>
        obtain ⟨e, he, hn⟩ := numR_nok h3
        have e3 : q3 (bs s) = (0, bs s2, e) := by unfold q3; rw [e2]; exact hn
        have e4 : q4 (bs s) = (0, bs s2, e) := by unfold q4; rw [e3]; exact numR_err he _
        have e5 : q5 (bs s) = (bs [], bs s2, e) := by unfold q5; rw [e4]; exact textR_err he _
        rw [e5]
        exact .inl ⟨he, rfl⟩
      | some (d, s3) =>
        obtain ⟨hn3, hm3, hl3⟩ := numR_some h3
        have e3 : q3 (bs s) = (d, bs s3, 0) := by unfold q3; rw [e2]; exact hn3
        simp only
        match h4 : rnum s3 4096 with
        | none =>
          obtain ⟨e, he, hn⟩ := numR_nok h4
          have e4 : q4 (bs s) = (0, bs s3, e) := by unfold q4; rw [e3]; exact hn
          have e5 : q5 (bs s) = (bs [], bs s3, e) := by unfold q5; rw [e4]; exact textR_err he _
          rw [e5]
          exact .inl ⟨he, rfl⟩
        | some (n, s4) =>
          obtain ⟨hn4, hm4, hl4⟩ := numR_some h4
          have e4 : q4 (bs s) = (n, bs s4, 0) := by unfold q4; rw [e3]; exact hn4
          simp only
          match h5 : rtext s4 s4.length with
          | none =>
            obtain ⟨e, he, hn⟩ := textR_nok h5
            have e5 : q5 (bs s) = (bs [], bs s4, e) := by unfold q5; rw [e4]; exact hn
            rw [e5]
            exact .inl ⟨he, rfl⟩
          | some (x, t) =>
            obtain ⟨hn5, hx5, ht5, _⟩ := textR_some h5
            have e5 : q5 (bs s) = (bs x, bs t, 0) := by unfold q5; rw [e4]; exact hn5
            rw [e1, e2, e3, e4, e5]
            exact .inr ⟨rfl, x, t, rfl, rfl, rfl, by omega, by omega⟩
theorem q_sizes (s : ByteArray) : (q1 s).2.1.size ≤ s.size ∧ (q2 s).2.1.size ≤ s.size ∧ (q3 s).2.1.size ≤ s.size ∧ (q4 s).2.1.size ≤ s.size := by
  have a1 : (q1 s).2.1.size ≤ s.size := numR_size
  have a2 : (q2 s).2.1.size ≤ (q1 s).2.1.size := numR_size
  have a3 : (q3 s).2.1.size ≤ (q2 s).2.1.size := numR_size
  have a4 : (q4 s).2.1.size ≤ (q3 s).2.1.size := numR_size
  omega
end Go.Proofs.YtgllednilkfpgaaGreat
/-
  A clock in bytes, as the reference reads it: greater limits, the same answer.
-/
namespace Go.Proofs.YtgllednilkfpgaaGreat
open Go.RowKit Go.Proofs Wv Wv.Vi Wv.Rc Wv.Mo Wv.Ru Wv.Tm
set_option linter.unusedVariables false
/-- The readers one behind the other, and the numbers. -/
def zs (s : ByteArray) : Nat → ByteArray × Nat
  | 0 => (s, 0)
  | i + 1 => (numR (zs s i).1 (zs s i).2 1099511627776).2
def zn (s : ByteArray) (i : Nat) : Nat := (numR (zs s i).1 (zs s i).2 1099511627776).1
def z5 (s : ByteArray) := textR (zs s 4).1 (zs s 4).2 (s.size : Int)
def zc (s : ByteArray) : Clk := ⟨(zn s 0 : Int), (zn s 1 : Int), (zn s 2 : Int), (zn s 3 : Int)⟩
theorem zs_q (s : ByteArray) : zs s 1 = (q1 s).2 ∧ zs s 2 = (q2 s).2 ∧ zs s 3 = (q3 s).2 ∧ zn s 0 = (q1 s).1 ∧ zn s 1 = (q2 s).1 ∧ zn s 2 = (q3 s).1 := ⟨rfl, rfl, rfl, rfl, rfl, rfl⟩
theorem zs_size (s : ByteArray) (i : Nat) : (zs s i).1.size ≤ s.size := by
  induction i with
  | zero => exact Nat.le_refl _
  | succ i ih =>
    have : (numR (zs s i).1 (zs s i).2 1099511627776).2.1.size ≤ (zs s i).1.size := numR_size
    exact Nat.le_trans this ih
theorem zs_step (s : ByteArray) (i : Nat) : numR (zs s i).1 (zs s i).2 1099511627776 = (zn s i, (zs s (i + 1)).1, (zs s (i + 1)).2) := rfl
theorem z5_eq (s : ByteArray) : textR (zs s 4).1 (zs s 4).2 (s.size : Int) = ((z5 s).1, (z5 s).2.1, (z5 s).2.2) := by
  unfold z5
  generalize textR (zs s 4).1 (zs s 4).2 (s.size : Int) = p
  rfl
theorem rnum_wide {s : List UInt8} {a b : Nat} (hab : a ≤ b) : rnum s b = rnum s a ∨ (rnum s a = none ∧ ∃ n u, rnum s b = some (n, u) ∧ a < n) := by
  unfold rnum
  match rd s with
  | none => exact .inl rfl
  | some (m, z) =>
    simp only
    by_cases h1 : a < m
    · rw [if_pos h1]
      by_cases h2 : b < m
      · rw [if_pos h2]; exact .inl rfl
      · rw [if_neg h2]; exact .inr ⟨rfl, _, _, rfl, h1⟩
    · rw [if_neg h1, if_neg (by omega)]; exact .inl rfl
theorem rtext_wide {s : List UInt8} {m : Nat} (hm : s.length ≤ m) : rtext s m = rtext s s.length := by
  unfold rtext
  rcases rnum_wide (s := s) hm with h | ⟨h1, n, u, h2, h3⟩
  · rw [h]
  · rw [h1, h2]
    simp only
    have := (numR_some h2).2.2
    rw [if_pos (by omega)]
theorem zn_le (s : ByteArray) (i : Nat) : zn s i ≤ 1099511627776 := by
  unfold zn numR
  split
  · split
    · simp
    · split
      · simp
      · simp only; omega
  · simp
theorem rclkN (s : List UInt8) : (((z5 (bs s)).2.2 ≠ 0 ∨ vclk (zc (bs s)) = false) ∧ readC s = none) ∨ ((z5 (bs s)).2.2 = 0 ∧ vclk (zc (bs s)) = true ∧ ∃ x t, readC s = finC (zc (bs s)) (decn x 4096) (decn t 4096) ∧ (z5 (bs s)).1 = bs x ∧ (z5 (bs s)).2.1 = bs t ∧ x.length ≤ s.length ∧ t.length ≤ s.length) := by
  obtain ⟨y1, y2, y3, y4, y5, y6⟩ := zs_q (bs s)
  have hc : zc (bs s) = ⟨((q1 (bs s)).1 : Int), ((q2 (bs s)).1 : Int), ((q3 (bs s)).1 : Int), (zn (bs s) 3 : Int)⟩ := rfl
  have h4 : numR (q3 (bs s)).2.1 (q3 (bs s)).2.2 1099511627776 = (zn (bs s) 3, (zs (bs s) 4).1, (zs (bs s) 4).2) := rfl
  have h5 : z5 (bs s) = textR (zs (bs s) 4).1 (zs (bs s) 4).2 ((bs s).size : Int) := rfl
  rw [bs_size] at h5
  have hrd : readC s = match rclk s with
    | none => none
    | some (c, a, t) => finC c (decn a 4096) (decn t 4096) := rfl
  unfold rclk at hrd
  match h1 : rnum s 1099511627776 with
  | none =>
    obtain ⟨e, he, hn⟩ := numR_nok h1
    have e1 : q1 (bs s) = (0, bs s, e) := hn
    have e2 : q2 (bs s) = (0, bs s, e) := by unfold q2; rw [e1]; exact numR_err he _
    have e3 : q3 (bs s) = (0, bs s, e) := by unfold q3; rw [e2]; exact numR_err he _
    rw [e3, numR_err he] at h4
    injection h4 with h4 h4b
    rw [show zs (bs s) 4 = _ from h4b.symm] at h5
    rw [h1] at hrd
    refine .inl ⟨.inl ?_, hrd⟩
    rw [h5, textR_err he]
    exact he
  | some (a, s1) =>
    obtain ⟨hn1, hm1, hl1⟩ := numR_some h1
    have e1 : q1 (bs s) = (a, bs s1, 0) := hn1
    rw [h1] at hrd
    simp only at hrd
    match h2 : rnum s1 1099511627776 with
    | none =>
      obtain ⟨e, he, hn⟩ := numR_nok h2
      have e2 : q2 (bs s) = (0, bs s1, e) := by unfold q2; rw [e1]; exact hn
      have e3 : q3 (bs s) = (0, bs s1, e) := by unfold q3; rw [e2]; exact numR_err he _
      rw [e3, numR_err he] at h4
      injection h4 with h4 h4b
      rw [show zs (bs s) 4 = _ from h4b.symm] at h5
      rw [h2] at hrd
      refine .inl ⟨.inl ?_, hrd⟩
      rw [h5, textR_err he]
      exact he
    | some (b, s2) =>
      obtain ⟨hn2, hm2, hl2⟩ := numR_some h2
      have e2 : q2 (bs s) = (b, bs s2, 0) := by unfold q2; rw [e1]; exact hn2
      rw [h2] at hrd
      simp only at hrd
      match h3 : rnum s2 1099511627776 with
      | none =>
        obtain ⟨e, he, hn⟩ := numR_nok h3
        have e3 : q3 (bs s) = (0, bs s2, e) := by unfold q3; rw [e2]; exact hn
        rw [e3, numR_err he] at h4
        injection h4 with h4 h4b
        rw [show zs (bs s) 4 = _ from h4b.symm] at h5
        rw [h3] at hrd
        refine .inl ⟨.inl ?_, hrd⟩
        rw [h5, textR_err he]
        exact he
      | some (d, s3) =>
        obtain ⟨hn3, hm3, hl3⟩ := numR_some h3
        have e3 : q3 (bs s) = (d, bs s3, 0) := by unfold q3; rw [e2]; exact hn3
        rw [h3] at hrd
        simp only at hrd
        rw [e3] at h4
        rw [e1, e2, e3] at hc
        simp only at hc h4
        rcases rnum_wide (s := s3) (a := 4096) (b := 1099511627776) (by omega) with hw | ⟨hw, n, u, hu, hn4⟩
        · match h6 : rnum s3 4096 with
          | none =>
            rw [h6] at hw
            obtain ⟨e, he, hn⟩ := numR_nok hw
            have hn' : numR (bs s3) 0 1099511627776 = (0, bs s3, e) := hn
            rw [hn'] at h4
            injection h4 with h4 h4b
            rw [show zs (bs s) 4 = _ from h4b.symm] at h5
            rw [h6] at hrd
            refine .inl ⟨.inl ?_, hrd⟩
            rw [h5, textR_err he]
            exact he
          | some (n, s4) =>
            rw [h6] at hw
            obtain ⟨hn4, hm4, hl4⟩ := numR_some hw
            have hn' : numR (bs s3) 0 1099511627776 = (n, bs s4, 0) := hn4
            rw [hn'] at h4
            injection h4 with h4 h4b
            rw [show zs (bs s) 4 = _ from h4b.symm] at h5
            rw [← h4] at hc
            rw [h6] at hrd
            simp only at hrd h5
            have hw5 := rtext_wide (s := s4) (m := s.length) (by omega)
            match h7 : rtext s4 s4.length with
            | none =>
              rw [h7] at hw5
              obtain ⟨e, he, hn⟩ := textR_nok hw5
              rw [hn] at h5
              rw [h7] at hrd
              refine .inl ⟨.inl ?_, hrd⟩
              rw [h5]
              exact he
            | some (x, t) =>
              rw [h7] at hw5
              obtain ⟨hn5, hx5, ht5, _⟩ := textR_some hw5
              rw [hn5] at h5
              rw [h7] at hrd
              simp only at hrd
              rw [← hc] at hrd
              rw [h5]
              cases hv : vclk (zc (bs s)) with
              | false =>
                refine .inl ⟨.inr rfl, ?_⟩
                rw [hrd]
                unfold finC
                rw [if_pos (.inl hv)]
              | true => exact .inr ⟨rfl, rfl, x, t, hrd, rfl, rfl, by omega, by omega⟩
        · rw [hw] at hrd
          obtain ⟨hn5, _, _⟩ := numR_some hu
          have hn' : numR (bs s3) 0 1099511627776 = (n, bs u, 0) := hn5
          rw [hn'] at h4
          injection h4 with h4 h4b
          refine .inl ⟨.inr ?_, hrd⟩
          rw [hc]
          unfold vclk
          rw [decide_eq_false (fun h => by
            have h8 := h.2.1
            simp only at h8
            omega)]
          rfl
end Go.Proofs.YtgllednilkfpgaaGreat
/-
  The codings of times, plain: what is encoded is decoded, and nothing else is.
-/
namespace Go.Proofs.YtgllednilkfpgaaGreat
open Go.RowKit Go.Proofs Wv Wv.Vi Wv.Rc Wv.Mo Wv.Ru Wv.Tm
set_option linter.unusedVariables false
theorem encn_moreT (l : List Nat) (hl : l.length ≤ 4096) (hv : ∀ v ∈ l, v < 4611686018427387904) (b : UInt8) : (decn (encn l ++ [b]) 4096).2 = 12 := by
  have h2 : rd (encn l ++ [b]) = some (l.length, kof l.length + 1) := by
    unfold encn
    rw [List.append_assoc]
    exact rd_num l.length (by omega) _
  unfold decn
  rw [h2]
  simp only
  rw [if_neg (by omega), if_neg (by omega)]
  have hlen := num_length l.length
  by_cases h0 : l = []
  · subst h0
    rfl
  · have hne : l.length ≠ 0 := fun e => h0 (List.eq_nil_of_length_eq_zero e)
    have hd : (encn l ++ [b]).drop (kof l.length + 1) = efin (nencs l (t0, e0)).2 ++ [b] := by
      unfold encn
      rw [if_neg h0, ← hlen, List.append_assoc, List.drop_left]
    rw [if_neg hne, hd]
    obtain ⟨k1, k2⟩ := nencs_val l (x := (t0, e0)) tnum_0 val_0
    have hw := wi_fin k2
    have hw2 : Wi (efin (nencs l (t0, e0)).2 ++ [b]) (nencs l (t0, e0)).2 := by
      have hl : (nencs l (t0, e0)).2.out.length + 4 ≤ (efin (nencs l (t0, e0)).2).length := hw.len
      have hp : Rc.P (efin (nencs l (t0, e0)).2 ++ [b]) ((nencs l (t0, e0)).2.out.length + 4) = Rc.P (efin (nencs l (t0, e0)).2) ((nencs l (t0, e0)).2.out.length + 4) := by
        unfold Rc.P
        rw [List.take_append_of_le_length hl]
      exact ⟨by rw [List.length_append]; omega, by rw [hp]; exact hw.lo, by rw [hp]; exact hw.hi⟩
    have hs := sy_start (wi_nencs l (x := (t0, e0)) tnum_0 val_0 hw2)
    obtain ⟨a1, a2⟩ := sy_nencs l (x := (t0, e0)) tnum_0 val_0 (fun v h => by have := hv v h; omega) hs hw2
    have h4 := a2.rest
    have h5 : (efin (nencs l (t0, e0)).2).length = (nencs l (t0, e0)).2.out.length + 4 := by simp [efin, be_length]
    rw [← h5, List.drop_left] at h4
    have h6 : dend (ndecs l.length t0 (d0 (efin (nencs l (t0, e0)).2 ++ [b]))).2 = false := by simp [dend, h4]
    rw [h6, if_neg (by simp)]
/-- Numbers that are at most the greatest time. -/
theorem nat_gaps {l : List Int} (h : validT l = true) : ((gapsT l).map Int.toNat).length ≤ 4096 ∧ (∀ v ∈ (gapsT l).map Int.toNat, v < 4611686018427387904) ∧ ((gapsT l).map Int.toNat).map Int.ofNat = gapsT l := by
  obtain ⟨_, _, v3⟩ := validT_iff.1 h
  have hg := gapsT_in h
  refine ⟨?_, ?_, ?_⟩
  · rw [List.length_map]; unfold gapsT; rw [gp_length]; exact v3
  · intro v hv
    obtain ⟨g, h1, rfl⟩ := List.mem_map.1 hv
    have := hg g h1
    omega
  · rw [List.map_map]
    conv => rhs; rw [← List.map_id (gapsT l)]
    apply List.map_congr_left
    intro g h1
    have := hg g h1
    simp only [Function.comp, id]
    exact Int.toNat_of_nonneg this.1
theorem numsI_dec {l : List Int} (h : validT l = true) : decn (numsI (gapsT l)) 4096 = (gapsT l, 0) := by
  obtain ⟨n1, n2, n3⟩ := nat_gaps h
  have := decn_encn _ 4096 n1 (by omega) n2
  rw [n3] at this
  exact this
theorem numsI_more {l : List Int} (h : validT l = true) (b : UInt8) : (decn (numsI (gapsT l) ++ [b]) 4096).2 ≠ 0 := by
  obtain ⟨n1, n2, n3⟩ := nat_gaps h
  have := encn_moreT _ n1 n2 b
  unfold numsI
  rw [this]
  decide
/-- A clock at the front. -/
theorem rclk_cod {c : Clk} {X R : List UInt8} (hc : inC c) (hX : X.length ≤ 1000000000) :
    rclk (num c.st.toNat ++ num c.f.toNat ++ num c.s.toNat ++ num c.n.toNat ++ text (bs X) ++ R) = some (c, X, R) := by
  obtain ⟨h1, h2, h3, h4, h5, h6, h7, h8⟩ := hc
  unfold rclk text
  simp only [List.append_assoc]
  rw [rnum_num _ _ (by omega) (by omega)]
  simp only
  rw [rnum_num _ _ (by omega) (by omega)]
  simp only
  rw [rnum_num _ _ (by omega) (by omega)]
  simp only
  rw [rnum_num _ _ (by omega) (by omega)]
  simp only
  have hs : (bs X).size = X.length := bs_size X
  rw [hs, toL_bs]
  rw [rtext_text X _ (by rw [List.length_append, List.length_append]; omega) (by omega)]
  simp only [Option.some.injEq, Prod.mk.injEq, and_true]
  obtain ⟨a, b, d, n⟩ := c
  simp only at h1 h2 h3 h4 h5 h6 h7 h8 ⊢
  rw [Int.toNat_of_nonneg (by omega), Int.toNat_of_nonneg (by omega), Int.toNat_of_nonneg (by omega), Int.toNat_of_nonneg (by omega)]
theorem readT_num {c : Nat} (hc : c ≤ 2) (r : List UInt8) : readT (num c ++ r) = if c = 0 then (if (decn r 4096).2 ≠ 0 then none else jnL (decn r 4096).1) else if c = 1 then readC r else if (dec r 4096).2 ≠ 0 then none else match numsT (dec r 4096).1 with | none => none | some g => jnL g := by
  unfold readT
  rw [rnum_num c 2 hc (by omega) r]
  all_goals rfl
theorem numsT_txts {g : List Int} (h : ∀ x ∈ g, 0 ≤ x ∧ x ≤ 1099511627776) : numsT (txts g) = some g := by
  induction g with
  | nil => rfl
  | cons a r ih =>
    have ha := h a List.mem_cons_self
    have hr := ih (fun x hx => h x (List.mem_cons_of_mem _ hx))
    have h1 : txts (a :: r) = bs (num a.toNat) :: txts r := rfl
    have h2 : numsT (bs (num a.toNat) :: txts r) = match rnum (toL (bs (num a.toNat))) 1099511627776 with
      | some (g, []) => (numsT (txts r)).map ((g : Int) :: ·)
      | _ => none := rfl
    have h3 := rnum_num a.toNat 1099511627776 (by omega) (by omega) []
    rw [List.append_nil] at h3
    rw [h1, h2, toL_bs, h3, hr]
    simp only [Option.map_some, Option.some.injEq, List.cons.injEq, and_true]
    exact Int.toNat_of_nonneg ha.1
theorem cod1_eq (l : List Int) : cod1 l = num 1 ++ (num (detect l).st.toNat ++ num (detect l).f.toNat ++ num (detect l).s.toNat ++ num (detect l).n.toNat ++ text (bs (numsI (gapsT (missL (detect l) l)))) ++ numsI (gapsT (furL (detect l) l))) := by
  unfold cod1
  simp only [List.append_assoc]
theorem txts_ok {l : List Int} (h : validT l = true) : (txts (gapsT l)).length ≤ 4096 ∧ ∀ s ∈ txts (gapsT l), s.size ≤ 128 := by
  obtain ⟨_, _, v3⟩ := validT_iff.1 h
  refine ⟨by rw [txts_length]; unfold gapsT; rw [gp_length]; exact v3, fun s hs => by have := txts_size _ s hs; omega⟩
theorem readC_cod {c : Clk} {l : List Int} (hc : vclk c = true) (h : validT l = true) (R : List UInt8) :
    readC (num c.st.toNat ++ num c.f.toNat ++ num c.s.toNat ++ num c.n.toNat ++ text (bs (numsI (gapsT (missL c l)))) ++ (numsI (gapsT (furL c l)) ++ R)) = finC c (gapsT (missL c l), 0) (decn (numsI (gapsT (furL c l)) ++ R) 4096) := by
  have hi := (vclk_iff.1 hc).1
  unfold readC
  rw [rclk_cod hi (by have := numsI_len (missL_valid hi l); omega)]
  simp only
  rw [numsI_dec (missL_valid hi l)]
/-- Each coding comes back. -/
theorem readT_cod {l : List Int} (h : validT l = true) (c : Nat) (hc : c ≤ 2) (h1 : c = 1 → 2 ≤ l.length) : readT (codT c l) = some l := by
  have hc3 : c = 0 ∨ c = 1 ∨ c = 2 := by omega
  rcases hc3 with rfl | rfl | rfl
  · show readT (num 0 ++ numsI (gapsT l)) = _
    rw [readT_num (by omega), if_pos rfl, numsI_dec h, if_neg (by simp)]
    exact jnL_gaps h
  · show readT (cod1 l) = _
    have hv := detect_vclk h (h1 rfl)
    have hi := (vclk_iff.1 hv).1
    rw [cod1_eq, readT_num (by omega), if_neg (by decide), if_pos rfl]
    have := readC_cod hv h []
    rw [List.append_nil] at this
    rw [this, numsI_dec (furL_valid h)]
    unfold finC
    rw [if_neg (by simp [hv])]
    simp only
    rw [jnL_gaps (missL_valid hi l), jnL_gaps (furL_valid h)]
    simp only
    rw [reb_exc hi h]
  · show readT (num 2 ++ (enc (txts (gapsT l))).1) = _
    obtain ⟨t1, t2⟩ := txts_ok h
    have hde := dec_enc t1 t2 4096
    rw [if_neg (by omega)] at hde
    rw [readT_num (by omega), if_neg (by decide), if_neg (by decide), hde, if_neg (by simp)]
    simp only
    rw [numsT_txts (gapsT_in h)]
    exact jnL_gaps h
/-- With a further byte none does. -/
theorem readT_more {l : List Int} (h : validT l = true) (c : Nat) (hc : c ≤ 2) (h1 : c = 1 → 2 ≤ l.length) (b : UInt8) : readT (codT c l ++ [b]) = none := by
  have hc3 : c = 0 ∨ c = 1 ∨ c = 2 := by omega
  rcases hc3 with rfl | rfl | rfl
  · show readT ((num 0 ++ numsI (gapsT l)) ++ [b]) = _
    rw [List.append_assoc, readT_num (by omega), if_pos rfl, if_pos (numsI_more h b)]
  · show readT (cod1 l ++ [b]) = _
    have hv := detect_vclk h (h1 rfl)
    have hi := (vclk_iff.1 hv).1
    rw [cod1_eq, List.append_assoc, readT_num (by omega), if_neg (by decide), if_pos rfl]
    have := readC_cod hv h [b]
    rw [← List.append_assoc] at this
    rw [this]
    unfold finC
    rw [if_pos (.inr (.inr (numsI_more (furL_valid h) b)))]
  · show readT ((num 2 ++ (enc (txts (gapsT l))).1) ++ [b]) = _
    obtain ⟨t1, t2⟩ := txts_ok h
    obtain ⟨e1, _⟩ := cod2_enc h
    rw [List.append_assoc, readT_num (by omega), if_neg (by decide), if_neg (by decide)]
    rw [dec_more (l := txts (gapsT l)) (Prod.ext rfl e1) t1 t2 b, if_pos (by decide)]
/-- The bytes are those of a coding. -/
theorem encT_cases {l : List Int} (h : validT l = true) : ∃ c, c ≤ 2 ∧ (c = 1 → 2 ≤ l.length) ∧ encT l = (codT c l, 0) := by
  unfold encT
  rw [if_pos h]
  by_cases h2 : l.length < 2
  · rw [if_pos h2]
    unfold mnT
    split
    · exact ⟨2, by omega, by omega, rfl⟩
    · exact ⟨0, by omega, by omega, rfl⟩
  · rw [if_neg h2]
    obtain ⟨z, hz⟩ : ∃ z, mnT (cod0 l) (cod1 l) = z := ⟨_, rfl⟩
    rw [hz]
    have h3 : mnT z (cod2 l) = if (cod2 l).length < z.length then cod2 l else z := rfl
    rw [h3]
    by_cases h4 : (cod2 l).length < z.length
    · rw [if_pos h4]; exact ⟨2, by omega, by omega, rfl⟩
    · rw [if_neg h4, ← hz]
      unfold mnT
      by_cases h5 : (cod1 l).length < (cod0 l).length
      · rw [if_pos h5]; exact ⟨1, by omega, by omega, rfl⟩
      · rw [if_neg h5]; exact ⟨0, by omega, by omega, rfl⟩
theorem encT_bad {l : List Int} (h : validT l = false) : encT l = ([], 2) := by
  unfold encT
  rw [if_neg (by rw [h]; simp)]
theorem decT_cod {l : List Int} (h : validT l = true) (c : Nat) (hc : c ≤ 2) (h1 : c = 1 → 2 ≤ l.length) (most : Int) :
    decT (codT c l) most = if (encT l).1 ≠ codT c l then ([], 12) else if most < (l.length : Int) then ([], 2) else (l, 0) := by
  have h2 : (encT l).2 = 0 := by obtain ⟨c, _, _, he⟩ := encT_cases h; rw [he]
  unfold decT
  rw [readT_cod h c hc h1]
  simp only
  rw [h2]
  simp
theorem decT_enc {l : List Int} (h : validT l = true) (most : Int) : decT (encT l).1 most = if most < (l.length : Int) then ([], 2) else (l, 0) := by
  obtain ⟨c, hc, h1, he⟩ := encT_cases h
  have := decT_cod h c hc h1 most
  rw [he] at this ⊢
  simpa using this
theorem finC_valid {c : Clk} {X Y : List Int × Nat} {l : List Int} (h : finC c X Y = some l) (he : (encT l).2 = 0) : validT l = true := by
  cases hv : validT l with
  | true => rfl
  | false => rw [encT_bad hv] at he; cases he
theorem enc_valid {l : List Int} (he : (encT l).2 = 0) : validT l = true := by
  cases hv : validT l with
  | true => rfl
  | false => rw [encT_bad hv] at he; cases he
/-- What is decoded are times whose bytes these are; or there is an error, and no times. -/
theorem decT_strict (data : List UInt8) (most : Int) : (decT data most = ([], 12) ∨ decT data most = ([], 2)) ∨ ∃ l, decT data most = (l, 0) ∧ encT l = (data, 0) ∧ validT l = true ∧ readT data = some l ∧ (l.length : Int) ≤ most := by
  unfold decT
  match h : readT data with
  | none => exact .inl (.inl rfl)
  | some l =>
    simp only
    by_cases h1 : (encT l).2 ≠ 0 ∨ (encT l).1 ≠ data
    · rw [if_pos h1]; exact .inl (.inl rfl)
    · rw [if_neg h1]
      have h3 : (encT l).2 = 0 := by
        rcases Nat.eq_zero_or_pos (encT l).2 with h | h
        · exact h
        · exact absurd (.inl (by omega)) h1
      have h4 : (encT l).1 = data := by
        rcases Classical.em ((encT l).1 = data) with h | h
        · exact h
        · exact absurd (.inr h) h1
      by_cases h2 : most < (l.length : Int)
      · rw [if_pos h2]; exact .inl (.inr rfl)
      · rw [if_neg h2]
        exact .inr ⟨l, rfl, Prod.ext h4 h3, enc_valid h3, rfl, by omega⟩
theorem decT_more {data : List UInt8} {l : List Int} (he : encT l = (data, 0)) (b : UInt8) (most : Int) : decT (data ++ [b]) most = ([], 12) := by
  have hv : validT l = true := enc_valid (by rw [he])
  obtain ⟨c, hc, h1, he2⟩ := encT_cases hv
  rw [he] at he2
  injection he2 with he2
  subst he2
  unfold decT
  rw [readT_more hv c hc h1 b]
end Go.Proofs.YtgllednilkfpgaaGreat
