/-
  Joined texts: Df, Gh.
-/
import Derived.Test.YtkgclfagimlneaaDoorJ02
import Derived.Test.YtkgclfagimlneaaDoorJ19
set_option linter.unusedVariables false
set_option linter.unusedSimpArgs false
/-
  Decimal numbers in plain Lean: the letters of a text without exponent. No program stands here.
-/
namespace Wv.Dc
/-- What a text without exponent looks like: where its digits begin, where its point stands (beyond its end, if there is none). -/
structure PlShape (p : List UInt8) (F k : Nat) : Prop where
  lt : F < p.length
  le : p.length ≤ 40
  f1 : F ≤ 1
  sign : p[0]? = some 45 ↔ F = 1
  pt : ∀ (i : Nat) (c : UInt8), p[i]? = some c → (c = 46 ↔ i = k)
  no : ∀ (i : Nat) (c : UInt8), p[i]? = some c → c ≠ 101 ∧ c ≠ 43
  kf : F < k
  last : k < p.length → p[p.length - 1]? ≠ some 48
  front : p[F]? ≠ some 48 ∨ p.length = F + 1 ∨ p[F + 1]? = some 46
theorem isD_not {c : UInt8} (h : isD c = true) : c ≠ 46 ∧ c ≠ 101 ∧ c ≠ 43 ∧ c ≠ 45 := by
  unfold isD at h
  simp at h
  refine ⟨?_, ?_, ?_, ?_⟩
  all_goals
    intro e
    subst e
    simp at h
theorem plain_facts {n : Num} (h : Fits n) {p : List UInt8} (hp : plainN n = some p) : ∃ F k, PlShape p F k := by
  obtain ⟨w, q, hpq, hw, hq, hw0, hql, hw48, hlen⟩ := plain_shape h hp
  obtain ⟨S, hS⟩ : ∃ S : List UInt8, (if n.neg then [45] else []) = S := ⟨_, rfl⟩
  rw [hS] at hpq
  have hS2 : S = [] ∨ S = [45] := by
    rw [← hS]
    cases n.neg
    · exact .inl rfl
    · exact .inr rfl
  have hwl : 0 < w.length := List.length_pos_iff.2 hw0
  obtain ⟨r, hr⟩ : ∃ r : List UInt8, (if q = [] then [] else 46 :: q) = r := ⟨_, rfl⟩
  rw [hr] at hpq
  have hpl : p.length = S.length + (w.length + r.length) := by rw [hpq, List.length_append, List.length_append]
  have hget : ∀ (i : Nat) (c : UInt8), p[i]? = some c → (i < S.length ∧ c = 45) ∨ (S.length ≤ i ∧ i < S.length + w.length ∧ isD c = true) ∨ (i = S.length + w.length ∧ c = 46 ∧ q ≠ []) ∨ (S.length + w.length < i ∧ isD c = true ∧ q ≠ []) := by
    intro i c hc
    rw [hpq] at hc
    by_cases h1 : i < S.length
    · left
      rw [List.getElem?_append_left h1] at hc
      refine ⟨h1, ?_⟩
      rcases hS2 with e | e
      · rw [e] at h1; simp at h1
      · rw [e] at hc
        have := List.mem_of_getElem? hc
        simpa using this
    · right
      rw [List.getElem?_append_right (by omega)] at hc
      by_cases h2 : i - S.length < w.length
      · left
        rw [List.getElem?_append_left h2] at hc
        exact ⟨by omega, by omega, hw c (List.mem_of_getElem? hc)⟩
      · right
        rw [List.getElem?_append_right (by omega)] at hc
        by_cases hq0 : q = []
        · rw [if_pos hq0] at hr
          rw [← hr] at hc
          simp at hc
        · rw [if_neg hq0] at hr
          rw [← hr] at hc
          rcases Nat.eq_zero_or_pos (i - S.length - w.length) with h3 | h3
          · left
            rw [h3] at hc
            simp at hc
            exact ⟨by omega, hc.symm, hq0⟩
          · right
            obtain ⟨j, hj⟩ : ∃ j, i - S.length - w.length = j + 1 := ⟨i - S.length - w.length - 1, by omega⟩
            rw [hj, List.getElem?_cons_succ] at hc
            exact ⟨by omega, hq c (List.mem_of_getElem? hc), hq0⟩
  have hSl : S.length ≤ 1 := by rcases hS2 with e | e <;> rw [e] <;> simp
  have hw0' : p[S.length]? = w.head? := by
    rw [hpq, List.getElem?_append_right (Nat.le_refl _), Nat.sub_self, List.getElem?_append_left hwl, List.head?_eq_getElem?]
  have hsign : p[0]? = some 45 ↔ S.length = 1 := by
    constructor
    · intro h0
      rcases hget 0 45 h0 with h1 | h1 | h1 | h1
      · omega
      · exact absurd rfl (isD_not h1.2.2).2.2.2
      · omega
      · exact absurd rfl (isD_not h1.2.1).2.2.2
    · intro h1
      rcases hS2 with e | e
      · rw [e] at h1; simp at h1
      · rw [hpq, e]; rfl
  have hfront : p[S.length]? ≠ some 48 ∨ p.length = S.length + 1 ∨ p[S.length + 1]? = some 46 := by
    by_cases h48 : p[S.length]? = some 48
    · right
      rw [hw0'] at h48
      have hw1 := hw48 h48
      rw [hw1] at hpq hpl
      by_cases hq0 : q = []
      · rw [if_pos hq0] at hr
        left
        rw [hpl, ← hr]
        simp
      · rw [if_neg hq0] at hr
        right
        rw [hpq, ← hr, List.getElem?_append_right (by omega)]
        simp
    · exact .inl h48
  by_cases hq0 : q = []
  · have hr0 : r = [] := by rw [← hr, if_pos hq0]
    refine ⟨S.length, 1000, ⟨by omega, hlen, hSl, hsign, ?_, ?_, by omega, fun h => by omega, hfront⟩⟩
    · intro i c hc
      have hil := (List.getElem?_eq_some_iff.1 hc).1
      rcases hget i c hc with h1 | h1 | h1 | h1
      · constructor
        · intro e; rw [h1.2] at e; simp at e
        · intro e; omega
      · constructor
        · intro e; exact absurd e (isD_not h1.2.2).1
        · intro e; omega
      · exact absurd hq0 h1.2.2
      · exact absurd hq0 h1.2.2
    · intro i c hc
      rcases hget i c hc with h1 | h1 | h1 | h1
      · rw [h1.2]; decide
      · exact ⟨(isD_not h1.2.2).2.1, (isD_not h1.2.2).2.2.1⟩
      · exact absurd hq0 h1.2.2
      · exact absurd hq0 h1.2.2
  · have hr0 : r = 46 :: q := by rw [← hr, if_neg hq0]
    refine ⟨S.length, S.length + w.length, ⟨by omega, hlen, hSl, hsign, ?_, ?_, by omega, ?_, hfront⟩⟩
    · intro i c hc
      rcases hget i c hc with h1 | h1 | h1 | h1
      · constructor
        · intro e; rw [h1.2] at e; simp at e
        · intro e; omega
      · constructor
        · intro e; exact absurd e (isD_not h1.2.2).1
        · intro e; omega
      · exact ⟨fun _ => h1.1, fun _ => h1.2.1⟩
      · constructor
        · intro e; exact absurd e (isD_not h1.2.1).1
        · intro e; omega
    · intro i c hc
      rcases hget i c hc with h1 | h1 | h1 | h1
      · rw [h1.2]; decide
      · exact ⟨(isD_not h1.2.2).2.1, (isD_not h1.2.2).2.2.1⟩
      · rw [h1.2.1]; decide
      · exact ⟨(isD_not h1.2.1).2.1, (isD_not h1.2.1).2.2.1⟩
    · intro _ h1
      have h2 := hql hq0
      apply h2
      rw [← h1, List.getLast?_eq_getElem?]
      have hqp : 0 < q.length := List.length_pos_iff.2 hq0
      rw [hpl, hr0, hpq, hr0, List.getElem?_append_right (by simp; omega), List.getElem?_append_right (by simp; omega)]
      rw [show S.length + (w.length + (46 :: q).length) - 1 - S.length - w.length = (q.length - 1) + 1 by simp; omega, List.getElem?_cons_succ]
end Wv.Dc
/-
  The law DecimalPlain: its walk.
-/
namespace Go.Proofs.YtkgclfagimlneaaDoor
open Go.RowKit Go.Proofs Wv Wv.Dc
set_option linter.unusedVariables false

set_option maxRecDepth 100000 in
set_option maxHeartbeats 4000000 in
theorem lplain_any (s : ByteArray) (hs : s.size ≤ 9223372036854775807) {w : World} (ht : Tab w) :
    Calls Tryd.prog 3 #[.string s] w fun x w' => x = .returned (.bool true) ∧ Below w.heap.size w w' := by
  have Haw := hide (awake_any ht)
  have Hpl := hide (fun W (h : Below w.heap.size w W) => pplainS_any s (ht.below h))
  have Hpa := hide (fun (s : ByteArray) W (h : Below w.heap.size w W) => pparse_any s (ht.below h))
  have Hva := hide (fun W => rvalid_any s (by omega) W)
  clear ht hs
  have hv : plainS (toL s) = match canN (toL s) with | some n => (match plainN n with | some p => (p, true) | none => ([], false)) | none => ([], false) := rfl
  have hway : plainS (toL s) = ([], false) ∨ ∃ n p, canN (toL s) = some n ∧ plainN n = some p ∧ plainS (toL s) = (p, true) := by
    rw [hv]
    cases canN (toL s) with
    | none => exact .inl rfl
    | some n =>
      cases hp : plainN n with
      | none => left; simp only; rw [hp]
      | some p => right; exact ⟨n, p, rfl, hp, by simp only; rw [hp]⟩
  clear hv
  go_enter Tryd.func3, Tryd.ntmps3
  go_wp2_with fail
  refine (Haw.out).mono ?_
  rintro x w1 ⟨rfl, hb1⟩
  have Hb1 := hide hb1
  clear hb1
  go_wp2_with fail
  refine (Hpl.out _ Hb1.out).mono ?_
  rintro x w2 ⟨rfl, hb2⟩
  have Hb2 := hide (bel_step Hb1.out hb2)
  clear hb2
  rcases hway with hw | ⟨n, p, hcn, hpn, hw⟩
  · rw [hw]
    have hem : (bs ([] : List UInt8)).toList.isEmpty = true := emp1 rfl
    clear hw Hpl
    generalize validS (toL s) = v at *
    generalize bs ([] : List UInt8) = SE at *
    go_wp2_with fail
    refine (Hva.out _).mono ?_
    rintro x w3 ⟨rfl, hb3⟩
    have Hb3 := hide (bel_step Hb2.out hb3)
    clear hb3
    cases v
    all_goals
      go_wp2
      go_returns
      exact ⟨by first | rfl | simp, Hb3.out⟩
  · rw [hw]
    have fn := can_fits hcn
    have hvs : validS (toL s) = true := by unfold validS; rw [hcn]; rfl
    have hps := ptext_plain fn hpn
    have htx : (ctext n).1 = toL s := (canN_iff.1 hcn).2.symm
    rw [htx] at hps
    obtain ⟨F, k, hsh⟩ := plain_facts fn hpn
    have Pp : Hid (∀ W, Below w.heap.size w W → Calls Tryd.prog 13 #[.string (bs p)] W fun x w' => x = .returned (.tuple #[.string s, .int .i64 0]) ∧ Below W.heap.size W w') := hide (fun W h => by
      have := Hpa.out (bs p) W h
      rw [toL_bs, hps] at this
      exact this)
    rw [hvs] at Hva
    have hbyte : ∀ i (h : i < (bs p).size), (((bs p)[i]'h).toNat = 46 ↔ i = k) ∧ ((bs p)[i]'h).toNat ≠ 101 ∧ ((bs p)[i]'h).toNat ≠ 43 := fun i h => by
      have h1 := byte_at (bs p) i h
      rw [toL_bs] at h1
      obtain ⟨a1, a2⟩ := hsh.no i _ h1
      have a3 := hsh.pt i _ h1
      refine ⟨⟨fun e => a3.1 (UInt8.toNat_inj.1 e), fun e => by rw [a3.2 e]; rfl⟩, fun e => a1 (UInt8.toNat_inj.1 e), fun e => a2 (UInt8.toNat_inj.1 e)⟩
    have hsz : (bs p).size = p.length := rfl
    have h0 : 0 < (bs p).size := by have := hsh.lt; omega
    have hb0 : ((bs p)[0]'h0).toNat = 45 ↔ F = 1 := by
      have h1 := byte_at (bs p) 0 h0
      rw [toL_bs] at h1
      rw [← hsh.sign, h1]
      constructor
      · intro e; rw [show ((bs p)[0]'h0) = 45 from UInt8.toNat_inj.1 e]
      · intro e; injection e with e; rw [e]; rfl
    have hFl := hsh.lt
    have hle := hsh.le
    have hF1 := hsh.f1
    have hkf := hsh.kf
    have hbL : ∀ (h : p.length - 1 < (bs p).size), k < p.length → ((bs p)[p.length - 1]'h).toNat ≠ 48 := fun h hk e => by
      apply hsh.last hk
      have h1 := byte_at (bs p) (p.length - 1) h
      rw [toL_bs] at h1
      rw [h1, show ((bs p)[p.length - 1]'h) = 48 from UInt8.toNat_inj.1 e]
    have hbF : ∀ (h : F < (bs p).size), ((bs p)[F]'h).toNat ≠ 48 ∨ p.length = F + 1 ∨ ∃ h2 : F + 1 < (bs p).size, ((bs p)[F + 1]'h2).toNat = 46 := fun h => by
      rcases hsh.front with h1 | h1 | h1
      · left
        intro e
        apply h1
        have h2 := byte_at (bs p) F h
        rw [toL_bs] at h2
        rw [h2, show ((bs p)[F]'h) = 48 from UInt8.toNat_inj.1 e]
      · exact .inr (.inl h1)
      · right; right
        obtain ⟨h3, _⟩ := List.getElem?_eq_some_iff.1 h1
        have h2 := byte_at (bs p) (F + 1) h3
        rw [toL_bs, h1] at h2
        injection h2 with h2
        exact ⟨h3, by rw [← h2]; rfl⟩
    obtain ⟨M, hM⟩ : ∃ M, p.length = M + 1 := ⟨p.length - 1, by omega⟩
    rw [hM] at hsz hFl hle hbL hbF
    have HbL := hide (show ∀ (h : M < (bs p).size), k < M + 1 → ((bs p)[M]'h).toNat ≠ 48 from hbL)
    have HbF := hide hbF
    have Hb0' := hide hb0
    have Hbyte := hide hbyte
    clear hw hcn hpn fn hvs hps htx hsh hbyte hb0 hbL hbF hM Hpl Hpa
    generalize bs p = SP at *
    have q1 : (s.toList != s.toList) = false := by simp
    have hl1 : ¬ (40 : Int) < (SP.size : Int) := by omega
    have hl2 : ((SP.size : Int) == 0) = false := by rw [beq_eq_false_iff_ne]; omega
    have hl3 : ¬ (40 : Int) < (M : Int) + 1 := by omega
    have hl4 : (((M : Int) + 1) == 0) = false := by rw [beq_eq_false_iff_ne]; omega
    have hl5 : ¬ (M : Int) + 1 = 0 := by omega
    have hl6 : (M : Int) ≤ 39 := by omega
    go_wp2_with fail
    refine (Hva.out _).mono ?_
    rintro x w3 ⟨rfl, hb3⟩
    have Hb3 := hide (bel_step Hb2.out hb3)
    clear hb3
    go_wp2_with fail
    refine (Pp.out _ Hb3.out).mono ?_
    rintro x w4 ⟨rfl, hb4⟩
    have Hb4 := hide (bel_step Hb3.out hb4)
    clear hb4 Hva Pp
    go_wp2
    go_loopw [7, 8] (fun s7 s8 wr => ∃ i : Nat, i ≤ M + 1 ∧ s7 = .int .i64 (if k < i then (k : Int) else -1) ∧ s8 = .int .i64 (i : Int) ∧ wr = w4) (fun _ s8 _ => (M + 1 - intOf s8).toNat)
    case atStart => exact ⟨0, Nat.zero_le _, by rw [if_neg (by omega)], rfl, rfl⟩
    case round =>
      obtain ⟨i, hi, rfl, rfl, rfl⟩ := hrel
      by_cases hlt : i < M + 1
      · have his : i < SP.size := by omega
        obtain ⟨b1, b2, b3⟩ := Hbyte.out i his
        obtain ⟨C, hC⟩ : ∃ C, (SP[i]'his).toNat = C := ⟨_, rfl⟩
        rw [hC] at b1 b2 b3
        have c2 : ((C : Int) == 101) = false := by rw [beq_eq_false_iff_ne]; omega
        have c3 : ((C : Int) == 43) = false := by rw [beq_eq_false_iff_ne]; omega
        by_cases hik : i = k
        · have hC46 := b1.2 hik
          have hpt : (if k < i then (k : Int) else -1) = -1 := by rw [if_neg (by omega)]
          have hpt2 : (if k < i + 1 then (k : Int) else -1) = (i : Int) := by rw [if_pos (by omega)]; omega
          have Hpt2 := hide hpt2
          rw [hpt]
          subst hC46
          clear hpt hpt2 b1 b2 b3 hik Hbyte HbL HbF Hb0' h0
          go_wp2
          refine ⟨⟨i + 1, hlt, by rw [Hpt2.out], by go_num, by first | trivial | rfl⟩, ?_⟩
          simp [intOf] <;> omega
        · have c1 : ((C : Int) == 46) = false := by
            rw [beq_eq_false_iff_ne]
            intro e
            exact hik (b1.1 (by omega))
          obtain ⟨pt, hpt⟩ : ∃ z, (if k < i then (k : Int) else -1) = z := ⟨_, rfl⟩
          have hpt2 : (if k < i + 1 then (k : Int) else -1) = pt := by
            rw [← hpt]
            by_cases h : k < i
            · rw [if_pos h, if_pos (by omega)]
            · rw [if_neg h, if_neg (by omega)]
          have Hpt2 := hide hpt2
          rw [hpt]
          clear hpt hpt2 b1 b2 b3 hik Hbyte HbL HbF Hb0' h0
          go_wp2
          refine ⟨⟨i + 1, hlt, by rw [Hpt2.out], by go_num, by first | trivial | rfl⟩, ?_⟩
          simp [intOf] <;> omega
      · have hiM : i = M + 1 := by omega
        subst hiM
        have hMs : M < SP.size := by omega
        have hFs : F < SP.size := by omega
        have hnlt : ¬ ((M + 1 : Nat) : Int) < (SP.size : Int) := by omega
        obtain ⟨C0, hC0⟩ : ∃ C, (SP[0]'h0).toNat = C := ⟨_, rfl⟩
        have hb0 := Hb0'.out
        rw [hC0] at hb0
        obtain ⟨CM, hCM⟩ : ∃ C, (SP[M]'hMs).toNat = C := ⟨_, rfl⟩
        have hbL := HbL.out hMs
        rw [hCM] at hbL
        obtain ⟨CF, hCF⟩ : ∃ C, (SP[F]'hFs).toNat = C := ⟨_, rfl⟩
        have hbF := HbF.out hFs
        rw [hCF] at hbF
        clear Hbyte HbL HbF Hb0'
        have hpoint : ((if k < M + 1 then (k : Int) else -1) = -1) ∨ (∃ (K : Nat), (if k < M + 1 then (k : Int) else -1) = (K : Int) ∧ ((K : Int) == (F : Int)) = false ∧ ((CM : Int) == 48) = false) := by
          by_cases hk : k < M + 1
          · right
            refine ⟨k, by rw [if_pos hk], by rw [beq_eq_false_iff_ne]; omega, ?_⟩
            have := hbL hk
            rw [beq_eq_false_iff_ne]
            omega
          · left
            rw [if_neg hk]
        have hfr : ((CF : Int) == 48) = false ∨ (((CF : Int) == 48) = true ∧ M = F) ∨ (((CF : Int) == 48) = true ∧ M ≠ F ∧ ∃ h2 : F + 1 < SP.size, (SP[F + 1]'h2).toNat = 46) := by
          by_cases h48 : CF = 48
          · right
            have e : ((CF : Int) == 48) = true := by rw [beq_iff_eq]; omega
            by_cases hMF : M = F
            · exact .inl ⟨e, hMF⟩
            · right
              rcases hbF with h | h | h
              · exact absurd h48 h
              · omega
              · exact ⟨e, hMF, h⟩
          · left
            rw [beq_eq_false_iff_ne]
            omega
        obtain ⟨PT, hPT⟩ : ∃ z, (if k < M + 1 then (k : Int) else -1) = z := ⟨_, rfl⟩
        rw [hPT] at hpoint ⊢
        have hF01 : (F = 1 ∧ ((C0 : Int) == 45) = true) ∨ (F = 0 ∧ ((C0 : Int) == 45) = false) := by
          by_cases h : F = 1
          · exact .inl ⟨h, by rw [beq_iff_eq]; have := hb0.2 h; omega⟩
          · exact .inr ⟨by omega, by rw [beq_eq_false_iff_ne]; intro e; exact h (hb0.1 (by omega))⟩
        clear hPT hb0 hbL hbF hkf hF1 hi hlt
        rcases hF01 with ⟨rfl, c0⟩ | ⟨rfl, c0⟩
        · have hge : ¬ (M : Int) + 1 ≤ 1 := by omega
          have hge2 : ¬ (M : Int) ≤ 0 := by omega
          rcases hpoint with rfl | ⟨K, rfl, hK1, hK2⟩
          all_goals
            rcases hfr with hf1 | ⟨hf1, hf2⟩ | ⟨hf1, hf2, hf3, hf4⟩
            all_goals
              go_wp2 <;> (go_returns; exact ⟨by first | rfl | (refine ret_bool ?_; first | (simp; done) | (simp_all; done) | (simp; omega)), Hb4.out⟩)
        · have hge : ¬ (M : Int) + 1 ≤ 0 := by omega
          have hcc : CF = C0 := by rw [← hCF, ← hC0]
          subst hcc
          rcases hpoint with rfl | ⟨K, rfl, hK1, hK2⟩
          all_goals
            rcases hfr with hf1 | ⟨hf1, hf2⟩ | ⟨hf1, hf2, hf3, hf4⟩
            all_goals
              go_wp2 <;> (go_returns; exact ⟨by first | rfl | (refine ret_bool ?_; first | (simp; done) | (simp_all; done) | (simp; omega)), Hb4.out⟩)
end Go.Proofs.YtkgclfagimlneaaDoor
