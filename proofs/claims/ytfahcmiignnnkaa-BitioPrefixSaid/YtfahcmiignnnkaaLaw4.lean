/-
  The laws of the bit strings: no code is the front of another one.
-/
import Derived.Test.YtfahcmiignnnkaaLaw3
import Derived.Test.YtfahcmiignnnkaaPlain3
namespace Go.Proofs.Ytfahcmiignnnkaa
open Go.RowKit Go.Proofs Wv Wv.Bit
set_option linter.unusedVariables false

theorem enc_all (l : List Cd) (h : ∀ c ∈ l, c.ok = true) (hl : l.length ≤ 8) : encR l = (bstr (catb l), 0) := by
  have h1 := catb_len l h
  have h2 := encm_all l [] h (by simp only [List.length_nil]; omega)
  unfold encR
  rw [h2]
  simp
theorem csz_ok {k p v : Int} (h : csz k p v ≠ 0) : vld k p v = true := by
  unfold csz at h
  split at h
  · assumption
  · exact absurd rfl h
theorem CodesAt.mk2 {w : World} {g : Nat} {t : TypeId} {a b : Cd} (h : Bk w g t #[.int .i64 a.k, .int .i64 a.p, .int .i64 a.v, .int .i64 b.k, .int .i64 b.p, .int .i64 b.v]) : CodesAt w (some ⟨g, 0, none⟩) [a, b] := by
  intro i hi
  refine ⟨_, _, rfl, h.lt, ?_⟩
  simp only [h.cell]
  match i, hi with
  | 0, _ => exact ⟨rfl, rfl, rfl⟩
  | 1, _ => exact ⟨rfl, rfl, rfl⟩

theorem bk3 {w : World} {g : Nat} {t : TypeId} {x y z : Value} (h : Bk w g t #[x, y, z]) : w.cell? ⟨g, 0, none⟩ = some x ∧ w.cell? ⟨g, 1, none⟩ = some y ∧ w.cell? ⟨g, 2, none⟩ = some z := ⟨h.cell 0, h.cell 1, h.cell 2⟩
theorem blocks3 (W : World) (t1 t2 t3 : TypeId) (c1 c2 c3 : Array Value) : Bk (((W.alloc (.cells c1 t1)).alloc (.cells c2 t2)).alloc (.cells c3 t3)) W.heap.size t1 c1 ∧ Bk (((W.alloc (.cells c1 t1)).alloc (.cells c2 t2)).alloc (.cells c3 t3)) (W.heap.size + 1) t2 c2 ∧ Bk (((W.alloc (.cells c1 t1)).alloc (.cells c2 t2)).alloc (.cells c3 t3)) (W.heap.size + 2) t3 c3 := by
  refine ⟨((Bk.new W t1 c1).alloc _).alloc _, ?_, ?_⟩
  · have := (Bk.new (W.alloc (.cells c1 t1)) t2 c2).alloc (.cells c3 t3)
    simpa using this
  · have := Bk.new ((W.alloc (.cells c1 t1)).alloc (.cells c2 t2)) t3 c3
    simpa using this
/-- The two lists of codes, and the list of these lists. -/
def TwoL (wr : World) (g : Nat) (a b : Cd) : Prop :=
  Bk wr g 42 #[.int .i64 a.k, .int .i64 a.p, .int .i64 a.v, .int .i64 b.k, .int .i64 b.p, .int .i64 b.v] ∧
  Bk wr (g + 1) 42 #[.int .i64 b.k, .int .i64 b.p, .int .i64 b.v, .int .i64 a.k, .int .i64 a.p, .int .i64 a.v] ∧
  Bk wr (g + 2) 47 #[.slice (some ⟨g, 0, none⟩) 2 2, .slice (some ⟨g + 1, 0, none⟩) 2 2]
theorem TwoL.below {w w' : World} {g : Nat} {a b : Cd} (h : TwoL w g a b) (hb : Below w.heap.size w w') : TwoL w' g a b := ⟨h.1.below hb h.1.lt, h.2.1.below hb h.2.1.lt, h.2.2.below hb h.2.2.lt⟩
theorem TwoL.pick {w : World} {g : Nat} {a b : Cd} (h : TwoL w g a b) (i : Nat) (hi : i < 2) : ∃ G u v, w.cell? ⟨g + 2, i, none⟩ = some (.slice (some ⟨G, 0, none⟩) 2 2) ∧ CodesAt w (some ⟨G, 0, none⟩) [u, v] ∧ ((u = a ∧ v = b) ∨ (u = b ∧ v = a)) := by
  match i, hi with
  | 0, _ => exact ⟨g, a, b, h.2.2.cell 0, CodesAt.mk2 h.1, .inl ⟨rfl, rfl⟩⟩
  | 1, _ => exact ⟨g + 1, b, a, h.2.2.cell 1, CodesAt.mk2 h.2.1, .inr ⟨rfl, rfl⟩⟩
theorem csz_bits {k p v : Int} (h : csz k p v ≠ 0) : (k = 0 ∧ p ≠ 0) ∨ (k = 4 ∧ p ≠ 1) ∨ (k ≠ 0 ∧ k ≠ 4) := by
  by_cases h0 : k = 0
  · refine .inl ⟨h0, fun hp => h ?_⟩
    subst h0 hp
    unfold csz
    split <;> simp [cbits, num]
  · by_cases h4 : k = 4
    · refine .inr (.inl ⟨h4, fun hp => ?_⟩)
      have hv := csz_ok h
      subst h4 hp
      have : v = 0 := by
        have := vld_cases hv
        omega
      subst this
      exact h (by decide)
    · exact .inr (.inr ⟨h0, h4⟩)

set_option maxHeartbeats 2000000 in
theorem prefix_law {w : World} (k : Int) (hk : -9223372036854775808 ≤ k ∧ k ≤ 9223372036854775807) (p : Int) (hp : -9223372036854775808 ≤ p ∧ p ≤ 9223372036854775807) (a : Int) (ha : -9223372036854775808 ≤ a ∧ a ≤ 9223372036854775807) (b : Int) (hb : -9223372036854775808 ≤ b ∧ b ≤ 9223372036854775807) :
    Calls Try.prog 8 #[.int .i64 k, .int .i64 p, .int .i64 a, .int .i64 b] w fun e w' => e = .returned (.bool true) ∧ Below w.heap.size w w' := by
  have Ha := hide awake_any
  have Hx := psize_any k p a ha.1 ha.2
  have Hy := psize_any k p b hb.1 hb.2
  obtain ⟨x, hx⟩ : ∃ x, csz k p a = x := ⟨_, rfl⟩
  obtain ⟨y, hy⟩ : ∃ x, csz k p b = x := ⟨_, rfl⟩
  rw [hx] at Hx
  rw [hy] at Hy
  have Hx' := hide Hx
  have Hy' := hide Hy
  have HX := hide hx
  have HY := hide hy
  have Hbk := hide hk
  have Hbp := hide hp
  clear hx hy Hx Hy hk hp
  go_enter Try.func8, Try.ntmps8
  go_wp2_with fail
  refine (Ha.out _).mono ?_
  rintro e w1 ⟨rfl, hb1⟩
  obtain ⟨W, hW⟩ : ∃ W, (w1.alloc (.cells #[.int .i64 k, .int .i64 p, .int .i64 a] 42)).alloc (.cells #[.int .i64 k, .int .i64 p, .int .i64 b] 42) = W := ⟨_, rfl⟩
  have hB1 : Bk W w1.heap.size 42 #[.int .i64 k, .int .i64 p, .int .i64 a] := hW ▸ (Bk.new w1 _ _).alloc _
  have hB2 : Bk W (w1.heap.size + 1) 42 #[.int .i64 k, .int .i64 p, .int .i64 b] := by
    have := Bk.new (w1.alloc (.cells #[.int .i64 k, .int .i64 p, .int .i64 a] 42)) 42 #[.int .i64 k, .int .i64 p, .int .i64 b]
    rw [hW] at this
    simpa using this
  have hfW : Below w.heap.size w W := hW ▸ (hb1.alloc hb1.size _).alloc (Nat.le_trans hb1.size (by simp)) _
  obtain ⟨d0, d1, d2⟩ := bk3 hB1
  go_wp2_with fail
  refine (Hx'.out _).mono ?_
  rintro e w2 ⟨rfl, hb2⟩
  have hf2 := hfW.trans (hb2.mono hfW.size)
  have hB1 := hB1.below hb2 hB1.lt
  have hB2 := hB2.below hb2 hB2.lt
  clear hW d0 d1 d2 hfW hb2 hb1
  by_cases hx0 : x = 0
  · have hx1 : ((x : Int) == 0) = true := by rw [hx0]; rfl
    clear hx0
    go_wp2
    go_ret
    exact ⟨rfl, hf2⟩
  have hx1 : ((x : Int) == 0) = false := by rw [beq_eq_false_iff_ne]; omega
  obtain ⟨d0, d1, d2⟩ := bk3 hB2
  go_wp2_with fail
  refine (Hy'.out _).mono ?_
  rintro e w3 ⟨rfl, hb3⟩
  have hf3 := hf2.trans (hb3.mono hf2.size)
  have hB1 := hB1.below hb3 hB1.lt
  have hB2 := hB2.below hb3 hB2.lt
  clear d0 d1 d2 hf2 hb3
  by_cases hy0 : y = 0
  · have hy1 : ((y : Int) == 0) = true := by rw [hy0]; rfl
    clear hy0
    go_wp2
    go_ret
    exact ⟨rfl, hf3⟩
  have hy1 : ((y : Int) == 0) = false := by rw [beq_eq_false_iff_ne]; omega
  have hxv := hide (csz_ok (by rw [HX.out]; exact hx0))
  have hyv := hide (csz_ok (by rw [HY.out]; exact hy0))
  obtain ⟨d0, d1, d2⟩ := bk3 hB1
  obtain ⟨d3, d4, d5⟩ := bk3 hB2
  have hz1 := hB1.lt
  have hz2 := hB2.lt
  have hcs := csz_bits (k := k) (p := p) (v := a) (by rw [HX.out]; exact hx0)
  have hbool : ((k == 0) = true ∧ (p == 0) = false ∧ (k == 4) = false) ∨ ((k == 0) = false ∧ (k == 4) = true ∧ (p == 1) = false) ∨ ((k == 0) = false ∧ (k == 4) = false) := by
    simp only [beq_eq_false_iff_ne, beq_iff_eq]
    omega
  clear hx0 hy0 hcs
  have HT := hide (blocks3 w3 42 42 47 #[.int .i64 k, .int .i64 p, .int .i64 a, .int .i64 k, .int .i64 p, .int .i64 b] #[.int .i64 k, .int .i64 p, .int .i64 b, .int .i64 k, .int .i64 p, .int .i64 a] #[.slice (some ⟨w3.heap.size, 0, none⟩) 2 2, .slice (some ⟨w3.heap.size + 1, 0, none⟩) 2 2])
  have HF := hide (((hf3.alloc hf3.size (.cells #[.int .i64 k, .int .i64 p, .int .i64 a, .int .i64 k, .int .i64 p, .int .i64 b] 42)).alloc (Nat.le_trans hf3.size (by simp)) (.cells #[.int .i64 k, .int .i64 p, .int .i64 b, .int .i64 k, .int .i64 p, .int .i64 a] 42)).alloc (Nat.le_trans hf3.size (by simp; omega)) (.cells #[.slice (some ⟨w3.heap.size, 0, none⟩) 2 2, .slice (some ⟨w3.heap.size + 1, 0, none⟩) 2 2] 47))
  have hz3 := hf3.size
  clear hf3 hB1 hB2
  obtain ⟨X, hX⟩ : ∃ X : Cd, (⟨k, p, a⟩ : Cd) = X := ⟨_, rfl⟩
  obtain ⟨Y, hY⟩ : ∃ X : Cd, (⟨k, p, b⟩ : Cd) = X := ⟨_, rfl⟩
  have hXc : Hid (X.ok = true ∧ X.k = k ∧ X.p = p ∧ CdOk X) := hide (by rw [← hX]; exact ⟨hxv.out, rfl, rfl, Hbk.out, Hbp.out, ha⟩)
  have hYc : Hid (Y.ok = true ∧ Y.k = k ∧ Y.p = p ∧ CdOk Y) := hide (by rw [← hY]; exact ⟨hyv.out, rfl, rfl, Hbk.out, Hbp.out, hb⟩)
  have HT2 : Hid (TwoL _ w3.heap.size X Y) := hide (by rw [← hX, ← hY]; exact HT.out)
  clear HT hX hY
  rcases hbool with ⟨q1, q2, q3⟩ | ⟨q1, q2, q3⟩ | ⟨q1, q2⟩
  all_goals (
    go_wp2
    go_loopw [63] (fun i wr => ∃ j : Nat, j ≤ 2 ∧ i = .int .i64 j ∧ TwoL wr w3.heap.size X Y ∧ Below w.heap.size w wr) (fun i _ => (2 - intOf i).toNat)
    case atStart => exact ⟨0, by omega, rfl, HT2.out, HF.out⟩
    case round =>
      clear d0 d1 d2 d3 d4 d5 HT2 HF
      obtain ⟨j, hj2, rfl, ht, hf⟩ := hrel
      by_cases hlt : j < 2
      · obtain ⟨G, u, v, hcl, hco, huv⟩ := ht.pick j hlt
        have huc : Hid (u.ok = true ∧ u.k = k ∧ u.p = p ∧ CdOk u) := by
          rcases huv with ⟨h1, _⟩ | ⟨h1, _⟩
          · exact h1 ▸ hXc
          · exact h1 ▸ hYc
        have hvc : Hid (v.ok = true ∧ v.k = k ∧ v.p = p ∧ CdOk v) := by
          rcases huv with ⟨_, h1⟩ | ⟨_, h1⟩
          · exact h1 ▸ hYc
          · exact h1 ▸ hXc
        have hall : ∀ c ∈ [u, v], c.ok = true ∧ c.k = k ∧ c.p = p ∧ CdOk c := by
          intro c hc
          simp at hc
          rcases hc with rfl | rfl
          · exact huc.out
          · exact hvc.out
        have Hall := hide hall
        clear huv hall huc hvc
        have He := encode_any hco (fun c hc => (Hall.out c hc).2.2.2) 2 2 rfl (by omega)
        rw [enc_all [u, v] (fun c hc => (Hall.out c hc).1) (by simp)] at He
        obtain ⟨T, hT⟩ : ∃ T, catb [u, v] = T := ⟨_, rfl⟩
        have hTl : T.length ≤ 65536 := by
          have := catb_len [u, v] (fun c hc => (Hall.out c hc).1)
          rw [hT] at this
          simp at this
          omega
        rw [hT] at He
        have He2 := hide He
        have HT := hide hT
        obtain ⟨hn1, hn2⟩ := nrd_bstr T hTl
        have Hn1 := hide hn1
        have Hn2 := hide hn2
        clear hT He hn1 hn2
        go_wp2_with fail
        refine (He2.out).mono ?_
        rintro e w4 ⟨rfl, hb4⟩
        have hf4 := hf.trans (hb4.mono hf.size)
        have ht4 := ht.below hb4
        have hco4 := hco.below hb4
        have Hr := hide (newreader_some (bstr T) w4 T.length Hn1.out)
        clear hf ht hco hb4 hcl
        go_wp2_with fail
        refine (Hr.out).mono ?_
        rintro e w5 ⟨rfl, hr5, hb5⟩
        have hst : T.drop 0 = catb ([u, v].drop 0) := HT.out.symm
        have Hst := hide hst
        have hz4 := hf4.size
        clear hst
        go_wp2
        go_loopw [89] (fun i wr => ∃ m x : Nat, m ≤ 2 ∧ i = .int .i64 m ∧ RdAt wr w4.heap.size (bstr T) x T.length ∧ Hid (T.drop x = catb ([u, v].drop m)) ∧ Below w4.heap.size w4 wr) (fun i _ => (2 - intOf i).toNat)
        case atStart => exact ⟨0, 0, by omega, rfl, hr5, Hst, hb5⟩
        case round =>
          clear hr5 Hst hb5
          obtain ⟨m, x, hm2, rfl, hrx, hd, hbx⟩ := hrel
          have hcx := hco4.below hbx
          by_cases hlm : m < 2
          · obtain ⟨gb, go, hgo, hgl, c0, c1, c2⟩ := hcx m (by simpa using hlm)
            obtain ⟨c, hcd⟩ : ∃ c, [u, v][m] = c := ⟨_, rfl⟩
            rw [hcd] at c0 c1 c2
            have hc := Hall.out c (hcd ▸ List.getElem_mem _)
            have Hg := getm_next [u, v] m (by simpa using hlm) (by rw [hcd]; exact hc.1) 4611686018427387903 (by rw [hcd]; exact vld_max hc.1) T x hd.out
            rw [hcd, hc.2.1, hc.2.2.1] at Hg
            have hra := hrx.alloc (.cells #[.int .i64 c.k, .int .i64 c.p, .int .i64 c.v] 42)
            have hv0 : ((c.v.toNat : Nat) : Int) = c.v := Int.toNat_of_nonneg (vld_cases hc.1).1
            have Hp := get_any hra k p 4611686018427387903
            rw [Hn2.out, Hg, hv0] at Hp
            have Hp2 := hide Hp
            have hbk := Bk.new wr 42 #[.int .i64 c.k, .int .i64 c.p, .int .i64 c.v]
            have hba := hbx.alloc hbx.size (.cells #[.int .i64 c.k, .int .i64 c.p, .int .i64 c.v] 42)
            have hrl := hrx.1.lt
            simp at hgo
            obtain ⟨rfl, rfl⟩ := hgo
            simp only [Nat.zero_add] at c0 c1 c2
            clear Hg Hp hc hcd hv0
            go_wp2_with fail
            refine (Hp2.out).mono ?_
            rintro e w6 ⟨y, rfl, hr6, hf6, hd6⟩
            have hbk6 := hbk.fr hf6 (fun e => by
              have : wr.heap.size = w4.heap.size := e
              omega)
            have d2 := hbk6.cell 2
            simp at d2
            have hb6 := hba.trans (only_below hf6 hba.size (Nat.le_refl _))
            have Hd6 := hide hd6
            clear hd6 c0 c1 c2 hbk hbk6
            go_wp2
            go_roundw
            case rel => exact ⟨m + 1, y, by omega, by go_num, hr6, hide Hd6.out.symm, hb6⟩
            case measure => simp [intOf]; omega
          · have hme : m = 2 := by omega
            have hdx := hd.out
            rw [hme] at hdx
            have hl := congrArg List.length hdx
            have hx1 := hrx.2.1
            simp [catb] at hl
            have hle : (T.length : Int) - (x : Int) = 0 := by omega
            have H6 := left_any hrx
            rw [hle] at H6
            have H7 := hide H6
            clear H6 hle hdx hme hl
            go_wp2_with fail
            refine (H7.out).mono ?_
            rintro e w7 ⟨rfl, q2, rfl⟩
            have hfx := hf4.trans (hbx.mono hz4)
            have htx := ht4.below hbx
            clear hrx hcx
            go_wp2
            go_roundw
            case rel => exact ⟨j + 1, by omega, by go_num, htx, bdN hfx q2⟩
            case measure => simp [intOf]; omega
      · go_wp2
        go_ret
        exact ⟨rfl, hf⟩)
end Go.Proofs.Ytfahcmiignnnkaa
