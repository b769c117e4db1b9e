/-
  Joined texts: Fg, Fi, Fj.
-/
import Derived.Test.YtkgclfagimlneaaDoorJ17
import Derived.Test.YtkgclfagimlneaaDoorJ16
import Derived.Test.YtkgclfagimlneaaDoorJ07
import Derived.Test.YtkgclfagimlneaaDoorJ02
set_option linter.unusedVariables false
set_option linter.unusedSimpArgs false
/-
  The walks over the references: the canonical text of a text, and whether a text is one.
-/
namespace Go.Proofs.YtkgclfagimlneaaDoor
open Go.RowKit Go.Proofs Wv Wv.Dc
set_option linter.unusedVariables false

theorem ptext2_def (s : List UInt8) : ptext cl2 s = match scn cl2 s with
    | none => ([], 3)
    | some n => ctext (trimN n) := rfl
theorem rread_all (s : ByteArray) (hs : (s.size : Int) ≤ 9223372036854775807) (w : World) :
    Calls Tryd.prog 35 #[.string s] w fun x w' => RdRes w w' (scn cl2 (toL s)) x := by
  by_cases h : 64 < s.size
  · exact rread_big s hs h w
  · exact rread_any s (by omega) w
set_option maxRecDepth 10000 in
set_option maxHeartbeats 1000000 in
theorem rparse_any (s : ByteArray) (hs : (s.size : Int) ≤ 9223372036854775807) (w : World) :
    Calls Tryd.prog 15 #[.string s] w fun x w' => x = .returned (.tuple #[.string (bs (ptext cl1 (toL s)).1), .int .i64 ((ptext cl1 (toL s)).2 : Int)]) ∧ Below w.heap.size w w' := by
  have Hs := hide (rread_all s hs w)
  have hd := ptext2_def (toL s)
  clear hs
  rw [← ptext_eq] at hd
  generalize ptext cl1 (toL s) = P at *
  cases ho : scn cl2 (toL s) with
  | none =>
    rw [ho] at Hs hd
    simp only at hd
    subst hd
    clear ho
    go_enter Tryd.func15, Tryd.ntmps15
    go_wp2_with fail
    refine (Hs.out).mono ?_
    rintro x w1 ⟨b, d, e, ok, rfl, hb, rfl⟩
    have Hb := hide (hb.alloc hb.size (.cells #[.bool b, .string (bs d), .int .i64 e] 49))
    clear hb
    generalize bs d = SD at *
    go_wp2
    go_returns
    exact ⟨rfl, Hb.out⟩
  | some n =>
    rw [ho] at Hs hd
    simp only at hd
    clear ho
    go_enter Tryd.func15, Tryd.ntmps15
    go_wp2_with fail
    refine (Hs.out).mono ?_
    rintro x w1 ⟨b, d, e, ok, rfl, hb, rfl, rfl, he1, he2, hdl⟩
    have Hb := hide (hb.alloc hb.size (.cells #[.bool b, .string (bs d), .int .i64 e] 49))
    have Htx := hide (rtext_any b d e (by omega) (by omega) (by omega) (w1.alloc (.cells #[.bool b, .string (bs d), .int .i64 e] 49)))
    rw [← hd] at Htx
    clear hb hd he1 he2 hdl Hs
    generalize bs d = SD at *
    go_wp2_with fail
    refine (Htx.out).mono ?_
    rintro x w3 ⟨rfl, hb3⟩
    have Hb3 := hide (Hb.out.trans (hb3.mono Hb.out.size))
    clear hb3
    go_wp2
    go_returns
    exact ⟨rfl, Hb3.out⟩
set_option maxRecDepth 10000 in
set_option maxHeartbeats 1000000 in
theorem rvalid_any (s : ByteArray) (hs : (s.size : Int) ≤ 9223372036854775807) (w : World) :
    Calls Tryd.prog 12 #[.string s] w fun x w' => x = .returned (.bool (validS (toL s))) ∧ Below w.heap.size w w' := by
  have Hp := hide (rparse_any s hs w)
  clear hs
  have hv := validS_ptext (toL s)
  generalize ptext cl1 (toL s) = P at *
  generalize validS (toL s) = v at *
  obtain ⟨T, e⟩ := P
  have Hseq := hide (@seq_eq (bs T) s)
  have Hv := hide hv
  clear hv
  simp only at Hp
  by_cases he : e = 0
  · subst he
    have hq : Hid (((bs T).toList == s.toList) = v) := hide (by
      rw [Hseq.out, Hv.out, Bool.eq_iff_iff, decide_eq_true_iff, decide_eq_true_iff, Prod.mk.injEq]
      constructor
      · intro h; exact ⟨by rw [← h]; rfl, rfl⟩
      · intro h; rw [h.1]; rfl)
    clear Hseq Hv
    generalize bs T = ST at *
    go_enter Tryd.func12, Tryd.ntmps12
    go_wp2_with fail
    refine (Hp.out).mono ?_
    rintro x w1 ⟨rfl, hb⟩
    go_wp2
    go_returns
    exact ⟨ret_bool hq.out, hb⟩
  · have hne : ((e : Int) == 0) = false := by rw [beq_eq_false_iff_ne]; omega
    have hq : Hid (v = false) := hide (by
      rw [Hv.out, decide_eq_false_iff_not, Prod.mk.injEq]
      exact fun h => he h.2)
    clear Hseq Hv he
    generalize bs T = ST at *
    go_enter Tryd.func12, Tryd.ntmps12
    go_wp2_with fail
    refine (Hp.out).mono ?_
    rintro x w1 ⟨rfl, hb⟩
    go_wp2
    go_returns
    exact ⟨ret_bool hq.out.symm, hb⟩
end Go.Proofs.YtkgclfagimlneaaDoor
/-
  The walks over the references: parts of a text, places, zeros, padding, digits as an integer.
-/
namespace Go.Proofs.YtkgclfagimlneaaDoor
open Go.RowKit Go.Proofs Wv Wv.Dc
set_option linter.unusedVariables false

/-- What these walks ask of a number's size. -/
structure Sm (n : Num) : Prop where
  lo : -3000 ≤ n.ex
  hi : n.ex ≤ 3000
  len : n.dg.length ≤ 3000
  zero : n.dg = [] → n.ex = 0
theorem sm_fits {n : Num} (h : Fits n) : Sm n := by
  have s := fits_ex h
  by_cases h0 : n.dg = []
  · have h1 := (h.canon.zero h0).2
    exact ⟨by omega, by omega, by rw [h0]; simp, fun _ => h1⟩
  · have h1 := h.hi h0
    have h2 := h.len
    have h3 : 0 < n.dg.length := List.length_pos_iff.2 h0
    unfold firstN at h1
    exact ⟨by omega, by omega, by omega, fun e => absurd e h0⟩
theorem sm_fst {n : Num} (h : Sm n) : ∃ E, PV n = .agg #[.bool n.neg, .string (bs n.dg), .int .i64 E] ∧ (n.dg.length : Int) - 1 - E = (if n.dg = [] then -1 else -n.ex) ∧ -7000 ≤ E ∧ E ≤ 7000 := by
  obtain ⟨h1, h2, h3, h4⟩ := h
  refine ⟨fstE n, rfl, ?_, ?_, ?_⟩
  · unfold fstE firstN
    by_cases h0 : n.dg = []
    · rw [if_pos h0, if_pos h0, h0]; rfl
    · rw [if_neg h0, if_neg h0]; omega
  · unfold fstE firstN
    split <;> omega
  · unfold fstE firstN
    split <;> omega
set_option maxRecDepth 10000 in
set_option maxHeartbeats 1000000 in
theorem rplaces_any {a b : Num} (ha : Sm a) (hb : Sm b) (w : World) :
    Calls Tryd.prog 45 #[PV a, PV b] w fun x w' => x = .returned (.int .i64 (plc a b : Int)) ∧ Below w.heap.size w w' := by
  obtain ⟨Ea, pa, ea, la1, la2⟩ := sm_fst ha
  obtain ⟨Eb, pb, eb, lb1, lb2⟩ := sm_fst hb
  have sa := ha.len
  have sb := hb.len
  have za := ha.zero
  have zb := hb.zero
  rw [pa, pb]
  obtain ⟨ba, da, xa⟩ := a
  obtain ⟨bb, db, xb⟩ := b
  simp only at *
  have hm : max (max 0 ((da.length : Int) - 1 - Ea)) ((db.length : Int) - 1 - Eb) = (plc ⟨ba, da, xa⟩ ⟨bb, db, xb⟩ : Int) := by
    rw [ea, eb]
    unfold plc
    simp only
    by_cases h0 : da = [] <;> by_cases h1 : db = []
    · rw [if_pos h0, if_pos h1, za h0, zb h1]; rfl
    · rw [if_pos h0, if_neg h1, za h0]; omega
    · rw [if_neg h0, if_pos h1, zb h1]; omega
    · rw [if_neg h0, if_neg h1]; omega
  have Hm := hide hm
  have z1 : (bs da).size = da.length := bs_size _
  have z2 : (bs db).size = db.length := bs_size _
  clear ea eb za zb hm pa pb ha hb
  generalize plc ⟨ba, da, xa⟩ ⟨bb, db, xb⟩ = p at *
  generalize da.length = la at *
  generalize db.length = lb at *
  generalize bs da = SA at *
  generalize bs db = SB at *
  go_enter Tryd.func45, Tryd.ntmps45
  go_wp2
  all_goals
    go_returns
    exact ⟨ret_int (by have := Hm.out; omega), two_below _ _ _⟩
theorem conv_zs {w : World} {g n : Nat} (h : Bk w g 5 (bc (zs n))) : (convert 39 9 (.slice (some ⟨g, 0, none⟩) n n)).run Tryd.prog w = .ok (.string (bs (zs n))) w :=
  conv_all (P := Tryd.prog) 39 9 5 Tryd.underlying39 Tryd.underlying5 Tryd.underlying9 w g n n (zs n) [] (by rw [List.append_nil]; exact h) (zs_len n).symm
set_option maxRecDepth 10000 in
set_option maxHeartbeats 1000000 in
theorem rzeros_any (n : Nat) (hn : n ≤ 16000) (w : World) :
    Calls Tryd.prog 61 #[.int .i64 (n : Int)] w fun x w' => ∃ g, x = .returned (.slice (some ⟨g, 0, none⟩) n n) ∧ Bk w' g 5 (bc (zs n)) ∧ Below w.heap.size w w' := by
  have hmk := mk_row (P := Tryd.prog) 39 5 _ _ Tryd.underlying39 u8inf rfl (n : Int) n rfl (by omega) (by omega)
  rw [bc_replicate] at hmk
  have Hk0 := hide (Bk.new w 5 (bc (List.replicate n 0)))
  have Hb0 := hide ((Below.refl w.heap.size w).alloc (Nat.le_refl _) (.cells (bc (List.replicate n 0)) 5))
  have hni : (n : Int) ≤ 16000 := by omega
  go_enter Tryd.func61, Tryd.ntmps61
  go_wp2
  go_loopw [4] (fun s4 wr => ∃ j : Nat, j ≤ n ∧ s4 = .int .i64 (j : Int) ∧ Hid (Bk wr w.heap.size 5 (bc (zs j ++ List.replicate (n - j) 0))) ∧ Hid (Below w.heap.size w wr)) (fun s4 _ => (n - intOf s4).toNat)
  case atStart => exact ⟨0, Nat.zero_le _, rfl, hide (by have := Hk0.out; simpa [zs] using this), Hb0⟩
  case round =>
    obtain ⟨j, hj, rfl, hk, hb⟩ := hrel
    by_cases hlt : j < n
    · have hput := hk.out.put j (.int .u8 48)
      rw [bc_set _ _ _ (by omega) (by omega)] at hput
      have e1 : (zs j ++ List.replicate (n - j) (0 : UInt8)).set j (UInt8.ofNat (48 : Int).toNat) = zs (j + 1) ++ List.replicate (n - (j + 1)) 0 := by
        rw [List.set_append_right _ _ (by rw [zs_len]; exact Nat.le_refl _), zs_len, Nat.sub_self, show n - j = (n - (j + 1)) + 1 by omega, List.replicate_succ]
        unfold zs
        rw [List.replicate_succ' (n := j), List.append_assoc]
        rfl
      rw [e1] at hput
      have Hput := hide hput
      have Hbb := hide (hb.out.setCell (p := ⟨w.heap.size, j, none⟩) (Nat.le_refl _) (.int .u8 48))
      obtain ⟨y0, hck⟩ : ∃ y : Int, wr.cell? ⟨w.heap.size, j, none⟩ = some (.int .u8 y) := ⟨_, by rw [hk.out.cell, bc_get _ _ (by rw [List.length_append, zs_len, List.length_replicate]; omega)]⟩
      have hfk := hk.out.frozen j
      have hji : (j : Int) < (n : Int) := by omega
      clear hput e1 hk hb hmk Hk0 Hb0
      go_wp2
      refine ⟨⟨j + 1, hlt, by go_num, Hput, Hbb⟩, ?_⟩
      simp [intOf] <;> omega
    · have hjn : j = n := by omega
      subst hjn
      have Hkk := hide (show Bk wr w.heap.size 5 (bc (zs j)) by have := hk.out; rw [Nat.sub_self] at this; simpa using this)
      clear hk hmk Hk0 Hb0
      go_wp2
      go_returns
      exact ⟨_, rfl, Hkk.out, hb.out⟩
set_option maxRecDepth 10000 in
set_option maxHeartbeats 1000000 in
theorem rpad_any (f : List UInt8) (k : Nat) (hf : f.length ≤ 16000) (hk : k ≤ 16000) (w : World) :
    Calls Tryd.prog 46 #[.string (bs f), .int .i64 (k : Int)] w fun x w' => x = .returned (.string (bs (padL f k))) ∧ Below w.heap.size w w' := by
  have hsz : (bs f).size = f.length := bs_size _
  by_cases h : k ≤ f.length
  · have e : padL f k = f := by
      unfold padL
      rw [show k - f.length = 0 by omega]
      rfl
    rw [e]
    have hki : (k : Int) ≤ (f.length : Int) := by omega
    generalize f.length = l at *
    generalize bs f = SF at *
    clear e
    go_enter Tryd.func46, Tryd.ntmps46
    go_wp2
    go_returns
    exact ⟨rfl, Below.refl _ _⟩
  · obtain ⟨d, hd⟩ : ∃ d, k - f.length = d := ⟨_, rfl⟩
    have e : bs (padL f k) = bs (zs d) ++ bs f := by
      unfold padL
      rw [hd, bs_append]
    rw [e]
    have Hz := hide (rzeros_any d (by omega) w)
    have hki : ¬ (k : Int) ≤ (f.length : Int) := by omega
    have hdi : (k : Int) - (f.length : Int) = (d : Int) := by omega
    have z2 : (bs (zs d)).size ≤ 16000 := by rw [bs_size, zs_len]; omega
    have hcv := fun (W : World) (g : Nat) => @conv_zs W g d
    have Hcv := hide hcv
    have z1 : (bs f).size ≤ 16000 := by omega
    generalize f.length = l at *
    generalize bs f = SF at *
    generalize bs (zs d) = SD at *
    clear e hcv hd
    go_enter Tryd.func46, Tryd.ntmps46
    go_wp2_with fail
    refine (Hz.out).mono ?_
    rintro x w1 ⟨g, rfl, hg, hb⟩
    have hcv := Hcv.out _ _ hg
    clear hg Hz Hcv
    go_wp2
    go_returns
    exact ⟨rfl, hb⟩
set_option maxRecDepth 10000 in
set_option maxHeartbeats 1000000 in
theorem rfixed_any {n : Num} (hn : Sm n) (m : Nat) (hm : 0 ≤ n.ex + m) (hm2 : m ≤ 3000) (w : World) :
    Calls Tryd.prog 47 #[PV n, .int .i64 (m : Int)] w fun x w' => x = .returned (.string (bs (fixL n m))) ∧ Below w.heap.size w w' := by
  obtain ⟨E, pn, en, l1, l2⟩ := sm_fst hn
  obtain ⟨h1, h2, h3, h4⟩ := hn
  rw [pn]
  obtain ⟨K, hK, hfx⟩ : ∃ K : Nat, (n.dg.length : Int) - 1 - E + K = m ∧ fixL n m = n.dg ++ zs K := by
    rw [en]
    unfold fixL
    by_cases h0 : n.dg = []
    · rw [if_pos h0, if_pos h0]
      exact ⟨m + 1, by omega, by rw [h0]; rfl⟩
    · rw [if_neg h0, if_neg h0]
      exact ⟨(m + n.ex).toNat, by omega, rfl⟩
  rw [hfx]
  obtain ⟨b, d, x⟩ := n
  simp only at *
  have hsz : (bs d).size = d.length := bs_size _
  have hK6 : K ≤ 6001 := by rw [en] at hK; split at hK <;> omega
  obtain ⟨l, hl⟩ : ∃ l, d.length = l := ⟨_, rfl⟩
  rw [hl] at hK h3 hsz
  have Hl := hide hl
  have Hb0 := hide ((Below.refl w.heap.size w).alloc (Nat.le_refl _) (.cells #[.bool b, .string (bs d), .int .i64 E] 49))
  obtain ⟨SD, hSD⟩ : ∃ S, bs d = S := ⟨_, rfl⟩
  rw [hSD] at hsz Hb0 ⊢
  have HSD := hide hSD
  obtain ⟨q, hq⟩ : ∃ q, (l : Int) - 1 - E = q := ⟨_, rfl⟩
  rw [hq] at hK
  have hmq : (m : Int) = q + K := by omega
  have Hq := hide hq
  obtain ⟨SK, hSK⟩ : ∃ S, bs (d ++ zs K) = S := ⟨_, rfl⟩
  rw [hSK]
  have HSK := hide hSK
  have hq1 : (l : Int) - 1 - E = q := hq
  clear en hfx h1 h2 h4 pn hl hSD hq hm hK hSK
  go_enter Tryd.func47, Tryd.ntmps47
  go_wp2
  go_loopw [5, 6] (fun s5 s6 wr => ∃ j : Nat, j ≤ K ∧ s5 = .string (bs (d ++ zs j)) ∧ s6 = .int .i64 (q + j) ∧ Hid (Below w.heap.size w wr)) (fun _ s6 _ => (q + K - intOf s6).toNat)
  case atStart => exact ⟨0, Nat.zero_le _, by rw [← HSD.out]; simp [zs], by rw [← Hq.out]; first | rfl | go_num | simp, Hb0⟩
  case round =>
    obtain ⟨j, hj, rfl, rfl, hb⟩ := hrel
    have hq9 : -8000 ≤ q ∧ q ≤ 10000 := by have := Hq.out; omega
    obtain ⟨hq7, hq8⟩ := hq9
    by_cases hlt : j < K
    · have e1 : bs (d ++ zs (j + 1)) = bs (d ++ zs j) ++ (⟨#[48]⟩ : ByteArray) := by
        have e2 : (⟨#[48]⟩ : ByteArray) = bs [48] := rfl
        have e3 : d ++ zs (j + 1) = (d ++ zs j) ++ [48] := by
          unfold zs
          rw [List.replicate_succ', List.append_assoc]
        rw [e2, e3, bs_append]
      have z1 : (bs (d ++ zs j)).size ≤ 10000 := by rw [bs_size, List.length_append, zs_len, Hl.out]; omega
      have E1 := hide e1
      have hji : q + (j : Int) < q + (K : Int) := by omega
      clear e1 hq1
      generalize bs (d ++ zs j) = SJ at *
      go_wp2
      refine ⟨⟨j + 1, hlt, by rw [E1.out], by go_num, hb⟩, ?_⟩
      simp [intOf] <;> omega
    · have hjK : j = K := by omega
      subst hjK
      have hji : ¬ q + (j : Int) < q + (j : Int) := by omega
      clear hq1
      generalize bs (d ++ zs j) = SJ at *
      go_wp2
      go_returns
      exact ⟨ret_str HSK.out, hb.out⟩
end Go.Proofs.YtkgclfagimlneaaDoor
/-
  The walks over the references: sums and differences of integers in digits.
-/
namespace Go.Proofs.YtkgclfagimlneaaDoor
open Go.RowKit Go.Proofs Wv Wv.Dc
set_option linter.unusedVariables false

theorem conv_row {w : World} {g n : Nat} (l : List UInt8) (h : Bk w g 5 (bc l)) (hn : n = l.length) : (convert 39 9 (.slice (some ⟨g, 0, none⟩) n n)).run Tryd.prog w = .ok (.string (bs l)) w :=
  conv_all (P := Tryd.prog) 39 9 5 Tryd.underlying39 Tryd.underlying5 Tryd.underlying9 w g n n l [] (by rw [List.append_nil]; exact h) hn
theorem bs_get {X : List UInt8} {j : Nat} (h : j < X.length) : ∃ h' : j < (bs X).size, ((bs X)[j]'h') = X[j] := ⟨h, rfl⟩
theorem set_lead (j : Nat) (R : List UInt8) (d : UInt8) : (List.replicate (j + 1 + 1) (0 : UInt8) ++ R).set (j + 1) d = List.replicate (j + 1) 0 ++ d :: R := by
  rw [List.replicate_succ' (n := j + 1), List.append_assoc, List.set_append_right _ _ (by rw [List.length_replicate]; exact Nat.le_refl _), List.length_replicate, Nat.sub_self]
  rfl
theorem set_lead0 (j : Nat) (R : List UInt8) (d : UInt8) : (List.replicate (j + 1) (0 : UInt8) ++ R).set j d = List.replicate j 0 ++ d :: R := by
  rw [List.replicate_succ' (n := j), List.append_assoc, List.set_append_right _ _ (by rw [List.length_replicate]; exact Nat.le_refl _), List.length_replicate, Nat.sub_self]
  rfl
set_option maxRecDepth 10000 in
set_option maxHeartbeats 2000000 in
theorem radd_any (X Y : List UInt8) (hX : AllD X) (hY : AllD Y) (hl : X.length = Y.length) (hz : X.length ≤ 16000) (w : World) :
    Calls Tryd.prog 59 #[.string (bs X), .string (bs Y)] w fun x w' => x = .returned (.string (bs (digs (X.length + 1) (vd X + vd Y)))) ∧ Below w.heap.size w w' := by
  have Hend := hide (add_end hX hY hl)
  have Hcar := hide (add_carry hX hY hl)
  obtain ⟨k, hk⟩ : ∃ k, X.length = k := ⟨_, rfl⟩
  have hYk : Y.length = k := by omega
  have hmk := mk_row (P := Tryd.prog) 39 5 _ _ Tryd.underlying39 u8inf rfl ((k : Int) + 1) (k + 1) rfl (by omega) (by omega)
  rw [bc_replicate] at hmk
  rw [hk] at Hend Hcar hz ⊢
  obtain ⟨SE, hSE⟩ : ∃ S, bs (digs (k + 1) (vd X + vd Y)) = S := ⟨_, rfl⟩
  rw [hSE]
  have HSE := hide hSE
  have sX : (bs X).size = k := by rw [bs_size]; exact hk
  have sY : (bs Y).size = k := by rw [bs_size]; exact hYk
  obtain ⟨SX, hSX⟩ : ∃ S, bs X = S := ⟨_, rfl⟩
  obtain ⟨SY, hSY⟩ : ∃ S, bs Y = S := ⟨_, rfl⟩
  have Hx : Hid (∀ j (h : j < X.length), ∃ h' : j < SX.size, (SX[j]'h').toNat = X[j].toNat) := hide (fun j h => by subst hSX; exact ⟨h, rfl⟩)
  have Hy : Hid (∀ j (h : j < Y.length), ∃ h' : j < SY.size, (SY[j]'h').toNat = Y[j].toNat) := hide (fun j h => by subst hSY; exact ⟨h, rfl⟩)
  rw [hSX] at sX ⊢
  rw [hSY] at sY ⊢
  have Hk := hide hk
  have HYk := hide hYk
  have HX := hide hX
  have HY := hide hY
  have Hk0 := hide (Bk.new w 5 (bc (List.replicate (k + 1) 0)))
  have Hb0 := hide ((Below.refl w.heap.size w).alloc (Nat.le_refl _) (.cells (bc (List.replicate (k + 1) 0)) 5))
  clear hk hYk hX hY hl hSE hSX hSY
  go_enter Tryd.func59, Tryd.ntmps59
  go_wp2
  go_loopw [6, 7] (fun s6 s7 wr => ∃ (i c : Nat), i ≤ k ∧ c ≤ 1 ∧ s6 = .int .i64 (c : Int) ∧ Hid (c = (vd (X.drop i) + vd (Y.drop i)) / 10 ^ (k - i)) ∧ s7 = .int .i64 ((i : Int) - 1) ∧ Hid (Bk wr w.heap.size 5 (bc (List.replicate (i + 1) 0 ++ digs (k - i) (vd (X.drop i) + vd (Y.drop i))))) ∧ Hid (Below w.heap.size w wr)) (fun _ s7 _ => (intOf s7 + 1).toNat)
  case atStart =>
    have e1 : X.drop k = [] := List.drop_eq_nil_of_le (by rw [Hk.out]; exact Nat.le_refl _)
    have e2 : Y.drop k = [] := List.drop_eq_nil_of_le (by rw [HYk.out]; exact Nat.le_refl _)
    refine ⟨k, 0, Nat.le_refl _, by omega, rfl, hide (by rw [e1, e2]; simp [vd_nil]), rfl, hide ?_, Hb0⟩
    rw [Nat.sub_self]
    simpa [digs] using Hk0.out
  case round =>
    obtain ⟨i, c, hi, hc1, rfl, hc, rfl, hbk, hb⟩ := hrel
    by_cases h0 : i = 0
    · subst h0
      have hput := hbk.out.put 0 (.int .u8 (48 + (c : Int)))
      rw [bc_set _ _ _ (by omega) (by omega)] at hput
      have e1 : (List.replicate (0 + 1) (0 : UInt8) ++ digs (k - 0) (vd (X.drop 0) + vd (Y.drop 0))).set 0 (UInt8.ofNat (48 + (c : Int)).toNat) = digs (k + 1) (vd X + vd Y) := by
        rw [← Hend.out]
        have := hc.out
        rw [List.drop_zero, List.drop_zero, Nat.sub_zero] at this
        rw [List.drop_zero, List.drop_zero, Nat.sub_zero, ← this, show (48 + (c : Int)).toNat = 48 + c by omega]
        rfl
      rw [e1] at hput
      have hcv := conv_row _ hput (show k + 1 = _ by rw [digs_len])
      rw [HSE.out] at hcv
      have Hb := hide (hb.out.setCell (p := ⟨w.heap.size, 0, none⟩) (Nat.le_refl _) (.int .u8 (48 + (c : Int))))
      obtain ⟨y0, hck⟩ : ∃ y : Int, wr.cell? ⟨w.heap.size, 0, none⟩ = some (.int .u8 y) := ⟨_, by rw [hbk.out.cell, bc_get _ _ (by simp)]⟩
      have hfk := hbk.out.frozen 0
      have hki : (0 : Int) < (k : Int) + 1 := by omega
      clear hput e1 hbk hb hmk Hk0 Hb0 hc Hend Hcar
      go_wp2
      go_returns
      exact ⟨rfl, Hb.out⟩
    · obtain ⟨j, rfl⟩ : ∃ j, i = j + 1 := ⟨i - 1, by omega⟩
      have hjX : j < X.length := by rw [Hk.out]; omega
      have hjY : j < Y.length := by rw [HYk.out]; omega
      obtain ⟨gx, ex⟩ := Hx.out j hjX
      obtain ⟨gy, ey⟩ := Hy.out j hjY
      have dX : X.drop j = X[j] :: X.drop (j + 1) := List.drop_eq_getElem_cons hjX
      have dY : Y.drop j = Y[j] :: Y.drop (j + 1) := List.drop_eq_getElem_cons hjY
      obtain ⟨q1, q2, q3⟩ := dig_dv (HX.out X[j] (List.getElem_mem _))
      obtain ⟨p1, p2, p3⟩ := dig_dv (HY.out Y[j] (List.getElem_mem _))
      have lX : (X.drop (j + 1)).length = k - (j + 1) := by rw [List.length_drop, Hk.out]
      have lY : (Y.drop (j + 1)).length = k - (j + 1) := by rw [List.length_drop, HYk.out]
      obtain ⟨t1, t2⟩ := add_step (x := X[j]) (y := Y[j]) (X := X.drop (j + 1)) (Y := Y.drop (j + 1)) (by rw [lX, lY])
      rw [← dX, ← dY, lX, ← hc.out, q3, p3] at t1 t2
      have km : k - (j + 1) + 1 = k - j := by omega
      rw [km] at t1 t2
      obtain ⟨xv, hxv⟩ : ∃ xv, X[j].toNat = xv := ⟨_, rfl⟩
      obtain ⟨yv, hyv⟩ : ∃ yv, Y[j].toNat = yv := ⟨_, rfl⟩
      rw [hxv] at q1 q2 t1 t2 ex
      rw [hyv] at p1 p2 t1 t2 ey
      have Hrel : Hid (∀ (nq : Nat) (V C : Int), V = (48 + (xv - 48 + (yv - 48) + c) % 10 : Nat) → C = ((xv - 48 + (yv - 48) + c) / 10 : Nat) → ∃ (i c : Nat), i ≤ k ∧ c ≤ 1 ∧ (Value.int .i64 C : Value) = .int .i64 (c : Int) ∧ Hid (c = (vd (X.drop i) + vd (Y.drop i)) / 10 ^ (k - i)) ∧ (Value.int .i64 ((j : Int) - 1) : Value) = .int .i64 ((i : Int) - 1) ∧ Hid (Bk ((wr.drewN nq).setCell ⟨w.heap.size, j + 1, none⟩ (.int .u8 V)) w.heap.size 5 (bc (List.replicate (i + 1) 0 ++ digs (k - i) (vd (X.drop i) + vd (Y.drop i))))) ∧ Hid (Below w.heap.size w ((wr.drewN nq).setCell ⟨w.heap.size, j + 1, none⟩ (.int .u8 V)))) := hide (fun nq V C hV hC => by
        refine ⟨j, (xv - 48 + (yv - 48) + c) / 10, by omega, by omega, by rw [hC], hide t2.symm, rfl, hide ?_, hide ((bdN hb.out nq).setCell (p := ⟨w.heap.size, j + 1, none⟩) (Nat.le_refl _) _)⟩
        have hput := (hbk.out.drewN nq).put (j + 1) (.int .u8 V)
        rw [bc_set _ _ _ (by omega) (by omega), set_lead, hV, Int.toNat_natCast] at hput
        rw [t1, hV]
        exact hput)
      obtain ⟨y0, hck⟩ : ∃ y : Int, wr.cell? ⟨w.heap.size, j + 1, none⟩ = some (.int .u8 y) := ⟨_, by rw [hbk.out.cell, bc_get _ _ (by simp; omega)]⟩
      have hfk := hbk.out.frozen (j + 1)
      have hjk : (j : Int) < (k : Int) := by omega
      have e9 : ((j + 1 : Nat) : Int) - 1 = (j : Int) := by omega
      rw [e9]
      clear hjX hjY dX dY q3 p3 lX lY t1 t2 km hxv hyv hbk hb hmk Hk0 Hb0 hc Hend Hcar Hx Hy HX HY Hk HYk e9 HSE h0
      go_wp2
      go_quiet (fail)
      go_wp2
      refine ⟨Hrel.out _ _ _ (by omega) (by omega), ?_⟩
      simp [intOf] <;> omega
set_option maxRecDepth 10000 in
set_option maxHeartbeats 2000000 in
theorem rsub_any (X Y : List UInt8) (hX : AllD X) (hY : AllD Y) (hl : X.length = Y.length) (hle : vd Y ≤ vd X) (hz : X.length ≤ 16000) (w : World) :
    Calls Tryd.prog 60 #[.string (bs X), .string (bs Y)] w fun x w' => x = .returned (.string (bs (digs X.length (vd X - vd Y)))) ∧ Below w.heap.size w w' := by
  have Hend := hide (sub_end (X := X) hle)
  obtain ⟨k, hk⟩ : ∃ k, X.length = k := ⟨_, rfl⟩
  have hYk : Y.length = k := by omega
  have hmk := mk_row (P := Tryd.prog) 39 5 _ _ Tryd.underlying39 u8inf rfl (k : Int) k rfl (by omega) (by omega)
  rw [bc_replicate] at hmk
  rw [hk] at Hend hz ⊢
  obtain ⟨SE, hSE⟩ : ∃ S, bs (digs k (vd X - vd Y)) = S := ⟨_, rfl⟩
  rw [hSE]
  have HSE := hide hSE
  have sX : (bs X).size = k := by rw [bs_size]; exact hk
  have sY : (bs Y).size = k := by rw [bs_size]; exact hYk
  obtain ⟨SX, hSX⟩ : ∃ S, bs X = S := ⟨_, rfl⟩
  obtain ⟨SY, hSY⟩ : ∃ S, bs Y = S := ⟨_, rfl⟩
  have Hx : Hid (∀ j (h : j < X.length), ∃ h' : j < SX.size, (SX[j]'h').toNat = X[j].toNat) := hide (fun j h => by subst hSX; exact ⟨h, rfl⟩)
  have Hy : Hid (∀ j (h : j < Y.length), ∃ h' : j < SY.size, (SY[j]'h').toNat = Y[j].toNat) := hide (fun j h => by subst hSY; exact ⟨h, rfl⟩)
  rw [hSX] at sX ⊢
  rw [hSY] at sY ⊢
  have Hk := hide hk
  have HYk := hide hYk
  have HX := hide hX
  have HY := hide hY
  have Hk0 := hide (Bk.new w 5 (bc (List.replicate k 0)))
  have Hb0 := hide ((Below.refl w.heap.size w).alloc (Nat.le_refl _) (.cells (bc (List.replicate k 0)) 5))
  clear hk hYk hX hY hl hSE hSX hSY
  go_enter Tryd.func60, Tryd.ntmps60
  go_wp2
  go_loopw [6, 7] (fun s6 s7 wr => ∃ (i c : Nat), i ≤ k ∧ c ≤ 1 ∧ s6 = .int .i64 (c : Int) ∧ Hid (c = 1 - lent (X.drop i) (Y.drop i) / 10 ^ (k - i)) ∧ s7 = .int .i64 ((i : Int) - 1) ∧ Hid (Bk wr w.heap.size 5 (bc (List.replicate i 0 ++ digs (k - i) (lent (X.drop i) (Y.drop i))))) ∧ Hid (Below w.heap.size w wr)) (fun _ s7 _ => (intOf s7 + 1).toNat)
  case atStart =>
    have e1 : X.drop k = [] := List.drop_eq_nil_of_le (by rw [Hk.out]; exact Nat.le_refl _)
    have e2 : Y.drop k = [] := List.drop_eq_nil_of_le (by rw [HYk.out]; exact Nat.le_refl _)
    refine ⟨k, 0, Nat.le_refl _, by omega, rfl, hide (by rw [e1, e2]; simp [lent, vd_nil]), rfl, hide ?_, Hb0⟩
    rw [Nat.sub_self]
    simpa [digs] using Hk0.out
  case round =>
    obtain ⟨i, c, hi, hc1, rfl, hc, rfl, hbk, hb⟩ := hrel
    by_cases h0 : i = 0
    · subst h0
      have e1 : List.replicate 0 (0 : UInt8) ++ digs (k - 0) (lent (X.drop 0) (Y.drop 0)) = digs k (vd X - vd Y) := by
        rw [List.drop_zero, List.drop_zero, Nat.sub_zero, Hend.out]
        rfl
      have hput := hbk.out
      rw [e1] at hput
      have hcv := conv_row _ hput (show k = _ by rw [digs_len])
      rw [HSE.out] at hcv
      have Hb := hb
      clear hput e1 hbk hb hmk Hk0 Hb0 hc Hend
      go_wp2
      go_returns
      exact ⟨rfl, Hb.out⟩
    · obtain ⟨j, rfl⟩ : ∃ j, i = j + 1 := ⟨i - 1, by omega⟩
      have hjX : j < X.length := by rw [Hk.out]; omega
      have hjY : j < Y.length := by rw [HYk.out]; omega
      obtain ⟨gx, ex⟩ := Hx.out j hjX
      obtain ⟨gy, ey⟩ := Hy.out j hjY
      have dX : X.drop j = X[j] :: X.drop (j + 1) := List.drop_eq_getElem_cons hjX
      have dY : Y.drop j = Y[j] :: Y.drop (j + 1) := List.drop_eq_getElem_cons hjY
      obtain ⟨q1, q2, q3⟩ := dig_dv (HX.out X[j] (List.getElem_mem _))
      obtain ⟨p1, p2, p3⟩ := dig_dv (HY.out Y[j] (List.getElem_mem _))
      have lX : (X.drop (j + 1)).length = k - (j + 1) := by rw [List.length_drop, Hk.out]
      have lY : (Y.drop (j + 1)).length = k - (j + 1) := by rw [List.length_drop, HYk.out]
      obtain ⟨t1, t2⟩ := sub_step (x := X[j]) (y := Y[j]) (X := X.drop (j + 1)) (Y := Y.drop (j + 1)) (by rw [← dX]; exact fun c hc => HX.out c (List.mem_of_mem_drop hc)) (by rw [← dY]; exact fun c hc => HY.out c (List.mem_of_mem_drop hc)) (by rw [lX, lY])
      rw [← dX, ← dY, lX, ← hc.out, q3, p3] at t1 t2
      have km : k - (j + 1) + 1 = k - j := by omega
      rw [km] at t1 t2
      obtain ⟨xv, hxv⟩ : ∃ xv, X[j].toNat = xv := ⟨_, rfl⟩
      obtain ⟨yv, hyv⟩ : ∃ yv, Y[j].toNat = yv := ⟨_, rfl⟩
      rw [hxv] at q1 q2 t1 t2 ex
      rw [hyv] at p1 p2 t1 t2 ey
      have Hrel : Hid (∀ (nq : Nat) (V C : Int), V = (48 + (10 + (xv - 48) - (yv - 48) - c) % 10 : Nat) → C = (1 - (10 + (xv - 48) - (yv - 48) - c) / 10 : Nat) → ∃ (i c : Nat), i ≤ k ∧ c ≤ 1 ∧ (Value.int .i64 C : Value) = .int .i64 (c : Int) ∧ Hid (c = 1 - lent (X.drop i) (Y.drop i) / 10 ^ (k - i)) ∧ (Value.int .i64 ((j : Int) - 1) : Value) = .int .i64 ((i : Int) - 1) ∧ Hid (Bk ((wr.drewN nq).setCell ⟨w.heap.size, j, none⟩ (.int .u8 V)) w.heap.size 5 (bc (List.replicate i 0 ++ digs (k - i) (lent (X.drop i) (Y.drop i))))) ∧ Hid (Below w.heap.size w ((wr.drewN nq).setCell ⟨w.heap.size, j, none⟩ (.int .u8 V)))) := hide (fun nq V C hV hC => by
        refine ⟨j, 1 - (10 + (xv - 48) - (yv - 48) - c) / 10, by omega, by omega, by rw [hC], hide (by rw [t2]), rfl, hide ?_, hide ((bdN hb.out nq).setCell (p := ⟨w.heap.size, j, none⟩) (Nat.le_refl _) _)⟩
        have hput := (hbk.out.drewN nq).put j (.int .u8 V)
        rw [bc_set _ _ _ (by omega) (by omega), set_lead0, hV, Int.toNat_natCast] at hput
        rw [t1, hV]
        exact hput)
      obtain ⟨y0, hck⟩ : ∃ y : Int, wr.cell? ⟨w.heap.size, j, none⟩ = some (.int .u8 y) := ⟨_, by rw [hbk.out.cell, bc_get _ _ (by simp; omega)]⟩
      have hfk := hbk.out.frozen j
      have hjk : (j : Int) < (k : Int) := by omega
      have e9 : ((j + 1 : Nat) : Int) - 1 = (j : Int) := by omega
      rw [e9]
      clear hjX hjY dX dY q3 p3 lX lY t1 t2 km hxv hyv hbk hb hmk Hk0 Hb0 hc Hend Hx Hy HX HY Hk HYk e9 HSE h0
      go_wp2
      go_quiet (fail)
      go_wp2
      refine ⟨Hrel.out _ _ _ (by omega) (by omega), ?_⟩
      simp [intOf] <;> omega
end Go.Proofs.YtkgclfagimlneaaDoor
