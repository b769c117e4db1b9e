/-
  The walks over decimal numbers: texts without exponent.
-/
import Derived.Test.YtkgclfagimlneaaDoorJ09
import Derived.Deep.CutBlock
set_option linter.unusedVariables false
set_option linter.unusedSimpArgs false
namespace Go.Proofs.YtkgclfagimlneaaDoor
open Go.RowKit Go.Proofs Wv Wv.Dc
set_option linter.unusedVariables false

/-- The cells that a plain text reads. -/
abbrev PlC (B : Nat) (b : Bool) (A : Option Addr) (l c : Nat) (e : Int) (W : World) : Prop := W.cell? ⟨B, 0, none⟩ = some (.bool b) ∧ W.cell? ⟨B, 1, none⟩ = some (.slice A l c) ∧ W.cell? ⟨B, 2, none⟩ = some (.int .i64 e)
theorem pl_below {B : Nat} {b : Bool} {A : Option Addr} {l c : Nat} {e : Int} {W W' : World} (hb : Below W.heap.size W W') (h : PlC B b A l c e W) : PlC B b A l c e W' := ⟨keep_cell h.1 hb, keep_cell h.2.1 hb, keep_cell h.2.2 hb⟩
theorem pl_dralloc {B : Nat} {b : Bool} {A : Option Addr} {l c : Nat} {e : Int} {W : World} (h : PlC B b A l c e W.drew) (o : Obj) : PlC B b A l c e (W.alloc o).drew := pl_below ((Below.refl W.drew.heap.size W.drew).alloc (Nat.le_refl _) o) h
theorem wr_conv {w W : World} {g : Nat} {cs : Array Value} {xs : List UInt8} (h : Hid (Bk W g 5 cs ∧ xs.length ≤ cs.size ∧ cs.toList.take xs.length = xs.map bv ∧ w.heap.size ≤ g)) : (convert 39 9 (.slice (some ⟨g, 0, none⟩) xs.length xs.length)).run Tryd.prog W = .ok (.string (bs xs)) W := by
  obtain ⟨h1, h2, h3, _⟩ := h.out
  refine conv_at 39 9 5 Tryd.underlying39 Tryd.underlying5 Tryd.underlying9 (l := xs) ?_ xs.length
  rw [← h3]
  exact at_front h1.at_ _
set_option maxRecDepth 100000 in
set_option maxHeartbeats 4000000 in
theorem pplainS_any (s : ByteArray) {w : World} (ht : Tab w) :
    Calls Tryd.prog 11 #[.string s] w fun x w' => x = .returned (.tuple #[.string (bs (plainS (toL s)).1), .bool (plainS (toL s)).2]) ∧ Below w.heap.size w w' := by
  have Hc := hide (pcan s ht)
  have hv : plainS (toL s) = match canN (toL s) with | some n => (match plainN n with | some p => (p, true) | none => ([], false)) | none => ([], false) := rfl
  clear ht
  generalize plainS (toL s) = z at *
  cases ho : canN (toL s) with
  | none =>
    rw [ho] at Hc hv
    simp only at hv
    subst hv
    clear ho
    go_enter Tryd.func11, Tryd.ntmps11
    go_wp2_with fail
    refine (Hc.out).mono ?_
    rintro x w1 ⟨b0, A, l, c, e, rfl, hb, _⟩
    have Hb := hide (hb.alloc hb.size (.cells #[.bool b0, .slice A l c, .int .i64 e] 41))
    clear hb
    go_wp2
    go_returns
    exact ⟨rfl, Hb.out⟩
  | some n =>
    rw [ho] at Hc hv
    simp only at hv
    have fn := can_fits ho
    clear ho
    go_enter Tryd.func11, Tryd.ntmps11
    go_wp2_with fail
    refine (Hc.out).mono ?_
    rintro x w1 ⟨b0, A, l, c, e, rfl, hb, hn⟩
    have hba := (Below.refl w1.heap.size w1).alloc (Nat.le_refl _) (.cells #[.bool b0, .slice A l c, .int .i64 e] 41)
    have Hn := hide ((hn n rfl).below hba)
    have Hb := hide (hb.alloc hb.size (.cells #[.bool b0, .slice A l c, .int .i64 e] 41))
    have Hk := hide (Bk.new w1 41 #[.bool b0, .slice A l c, .int .i64 e])
    clear hb hn hba Hc
    go_upto_region 2 with fail
    obtain ⟨B, hB⟩ : ∃ B, w1.heap.size = B := ⟨_, rfl⟩
    rw [hB] at Hk ⊢
    obtain ⟨W1, hW1⟩ : ∃ W, w1.alloc (.cells #[.bool b0, .slice A l c, .int .i64 e] 41) = W := ⟨_, rfl⟩
    rw [hW1] at Hk Hb Hn ⊢
    clear hB hW1
    obtain ⟨A', cap, heq, hat, hc1, hc2⟩ := Hn.out
    obtain ⟨bn, dn, en⟩ := n
    simp only [Value.agg.injEq] at heq hat hc1
    simp at heq
    obtain ⟨rfl, ⟨rfl, rfl, rfl⟩, rfl⟩ := heq
    have n0 := Hk.out.cell 0
    have n1 := Hk.out.cell 1
    have n2 := Hk.out.cell 2
    simp at n0 n1 n2
    obtain ⟨l, hl⟩ : ∃ l, dn.length = l := ⟨_, rfl⟩
    rw [hl] at n1 hc1 Hk ⊢
    have s1 := fn.len
    simp only at s1
    rw [hl] at s1
    have hpl : plainN ⟨b0, dn, e⟩ = if dn = [] then some [48] else if 40 < firstN ⟨b0, dn, e⟩ ∨ e < -40 then none
      else if 40 < ((if b0 then [45] else []) ++ body ⟨b0, dn, e⟩).length then none else some ((if b0 then [45] else []) ++ body ⟨b0, dn, e⟩) := rfl
    have hf : firstN ⟨b0, dn, e⟩ = e + l - 1 := by rw [← hl]; rfl
    rw [hf] at hpl
    have Hat := hide hat
    have Hl := hide hl
    have hsz := fits_sz fn
    have hs1 : -2000000 ≤ e := hsz.lo
    have hs2 : e ≤ 2000000 := hsz.hi
    by_cases h0 : dn = []
    · have hz : l = 0 := by rw [← hl, h0]; rfl
      subst hz
      rw [if_pos h0] at hpl
      rw [hpl] at hv
      subst hv
      have hsg : sgL b0 0 = 0 := rfl
      clear hpl hf hat hl h0 hsz fn
      go_wp2_with fail
      refine (psign_raw _ _ _ _ _ _).mono ?_
      rintro x w2 ⟨rfl, hb2⟩
      have Hb2 := hide (Hb.out.trans (hb2.mono Hb.out.size))
      clear hb2
      go_wp2
      go_returns
      exact ⟨rfl, Hb2.out⟩
    · have hl0 : l ≠ 0 := fun e => h0 (List.eq_nil_of_length_eq_zero (by omega))
      rw [if_neg h0] at hpl
      have hsg : (sgL b0 l == 0) = false := by
        unfold sgL
        rw [if_neg hl0]
        cases b0 <;> rfl
      go_wp2_with fail
      refine (psign_raw _ _ _ _ _ _).mono ?_
      rintro x w2 ⟨rfl, hb2⟩
      have hk2 := Hk.out.below hb2 Hk.out.lt
      have n0' := hk2.cell 0
      have n1' := hk2.cell 1
      have n2' := hk2.cell 2
      simp at n0' n1' n2'
      have Hk2 := hide hk2
      have Hb2 := hide (Hb.out.trans (hb2.mono Hb.out.size))
      have Hat2 := hide (Hat.out.below hb2)
      clear hb2 hk2 n0 n1 n2 hat hf Hk Hb Hat
      by_cases h40 : 40 < e + (l : Int) - 1
      · rw [if_pos (.inl h40)] at hpl
        rw [hpl] at hv
        subst hv
        clear hpl
        go_wp2_with fail
        refine (pfirst_raw _ _ _ _ _ (by omega) (by omega) (by omega) _).mono ?_
        rintro x w3 ⟨rfl, hb3⟩
        have Hb3 := hide (Hb2.out.trans (hb3.mono Hb2.out.size))
        clear hb3
        go_wp2
        go_returns
        exact ⟨rfl, Hb3.out⟩
      · go_wp2_with fail
        refine (pfirst_raw _ _ _ _ _ (by omega) (by omega) (by omega) _).mono ?_
        rintro x w3 ⟨rfl, hb3⟩
        have Hb3 := hide (Hb2.out.trans (hb3.mono Hb2.out.size))
        have hk3 := Hk2.out.below hb3 Hk2.out.lt
        have n0 := hk3.cell 0
        have n1 := hk3.cell 1
        have n2 := hk3.cell 2
        simp at n0 n1 n2
        have Hk3 := hide hk3
        have Hat3 := hide (Hat2.out.below hb3)
        clear hb3 hk3 n0' n1' n2' Hk2 Hb2 Hat2
        by_cases hm40 : e < -40
        · rw [if_pos (.inr hm40)] at hpl
          rw [hpl] at hv
          subst hv
          clear hpl
          go_wp2
          go_returns
          exact ⟨rfl, Hb3.out⟩
        · rw [if_neg (by omega)] at hpl
          have Hpl := hide hpl
          have Hv := hide hv
          clear hpl hv hsg
          go_upto_region 9 with fail
          go_cut [7] (fun s7 wx => s7 = .int .i64 (e + (l : Int)) ∧ Bk wx B 41 #[.bool b0, .slice A l c, .int .i64 e] ∧ At wx A (dn.map bv) ∧ Below w.heap.size w wx)
          case first =>
            go_wp2_with fail
            refine (pfirst_raw _ _ _ _ _ (by omega) (by omega) (by omega) _).mono ?_
            rintro x w4 ⟨rfl, hb4⟩
            have Hb4 := hide (Hb3.out.trans (hb4.mono Hb3.out.size))
            have Hk4 := hide (Hk3.out.below hb4 Hk3.out.lt)
            have Hat4 := hide (Hat3.out.below hb4)
            clear hb4 n0 n1 n2 Hk3 Hb3 Hat3
            go_wp2
            go_meet
            case rel => exact ⟨by first | rfl | go_num, Hk4.out, Hat4.out, Hb4.out⟩
          case rest =>
            obtain ⟨rfl, hk, hat, hb⟩ := hcut
            clear Hk3 Hb3 Hat3 n0 n1 n2
            go_upto_block 0 with fail
            go_cut [6] (fun s6 wx => s6 = .string (bs (body ⟨b0, dn, e⟩)) ∧ Bk wx B 41 #[.bool b0, .slice A l c, .int .i64 e] ∧ Below w.heap.size w wx)
            case first =>
              have n0 := hk.cell 0
              have n1 := hk.cell 1
              have n2 := hk.cell 2
              simp at n0 n1 n2
              have Hk := hide hk
              have Hat := hide hat
              have Hb := hide hb
              have hlp : 0 < l := Nat.pos_of_ne_zero hl0
              clear Hpl Hv hk hat hb
              by_cases he : 0 ≤ e
              · obtain ⟨E, rfl⟩ := Int.eq_ofNat_of_zero_le he
                have hE : E ≤ 40 := by omega
                have hcv : ∀ W, At W A (dn.map bv) → (convert 39 9 (.slice A l c)).run Tryd.prog W = .ok (.string (bs dn)) W := fun W h => by
                  have := conv_at (P := Tryd.prog) 39 9 5 Tryd.underlying39 Tryd.underlying5 Tryd.underlying9 (w := W) (A := A) (l := dn) h c
                  rw [Hl.out] at this
                  exact this
                have hc1 := hcv wc.drew Hat.out.drew
                have ha2 := (Hat.out.alloc (.cells #[.int .u8 48] 5)).drew
                have hc2 := hcv _ ha2
                have ha48 : At (wc.alloc (.cells #[.int .u8 48] 5)).drew (some ⟨wc.heap.size, 0, none⟩) [bv 48] := (Bk.new wc 5 #[.int .u8 48]).drew.at_
                have Hrep := hide (prep_any ha48 1 E (by omega) (Nat.le_refl _))
                have hbody : body ⟨b0, dn, (E : Int)⟩ = dn ++ zs E := by
                  unfold body
                  rw [if_pos (by simp only; omega)]
                  rfl
                have Hcat : Hid (bs dn ++ bs (List.replicate E 48) = bs (body ⟨b0, dn, (E : Int)⟩)) := hide (by rw [hbody, bs_append]; rfl)
                have z1 : (bs dn).size ≤ 17 := by rw [bs_size, Hl.out]; exact s1
                have z2 : (bs (List.replicate E 48)).size ≤ 40 := by rw [bs_size, List.length_replicate]; exact hE
                have Hcv := hide hcv
                clear hcv ha2 ha48 hbody
                generalize bs dn = SD at *
                obtain ⟨SZ, hSZ⟩ : ∃ SZ, bs (List.replicate E 48) = SZ := ⟨_, rfl⟩
                rw [hSZ] at Hcat z2
                have HSZ := hide hSZ
                clear hSZ
                have Hba := hide (((Below.refl wc.heap.size wc).alloc (Nat.le_refl _) (.cells #[.int .u8 48] 5)).drew)
                go_wp2
                have hp4 : PlC B b0 A l c (E : Int) (wc.alloc (.cells #[.int .u8 48] 5)).drew := pl_dralloc ⟨n0, n1, n2⟩ _
                have Hp4 := hide hp4
                have hlt4 := Hk.out.lt
                clear hp4
                go_region_with ((go_at_call 32; with_reducible refine (Hrep.out).mono ?_; rintro r w5 ⟨v', rfl, hwr, hb5⟩; obtain ⟨g, cs, hv', hkx⟩ := wr_open hwr; subst hv'; have hcz := wr_conv hkx; rw [List.length_replicate, HSZ.out] at hcz; have hc5 := Hcv.out w5 ((Hat.out.below Hba.out).below hb5); obtain ⟨m0, m1, m2⟩ := pl_below hb5 Hp4.out))
                all_goals
                  have hbx := Hba.out.trans (hb5.mono Hba.out.size)
                  have HbF := hide (Hb.out.trans (hbx.mono Hb.out.size))
                  have HkF := hide (Hk.out.below hbx Hk.out.lt)
                  clear hbx hb5 hwr hkx hcz hc5 n0 n1 n2 hc1 hc2 Hrep Hat Hk Hb
                  go_wp2
                  go_meet
                  case rel => exact ⟨by rw [← Hcat.out], HkF.out, HbF.out⟩
              · obtain ⟨bA, oA, rfl, hbA, _⟩ := Hat.out 0 (by rw [List.length_map, Hl.out]; exact hlp)
                have hcv : ∀ W, At W (some ⟨bA, oA, none⟩) (dn.map bv) → (convert 39 9 (.slice (some ⟨bA, oA, none⟩) l c)).run Tryd.prog W = .ok (.string (bs dn)) W := fun W h => by
                  have := conv_at (P := Tryd.prog) 39 9 5 Tryd.underlying39 Tryd.underlying5 Tryd.underlying9 (w := W) (A := some ⟨bA, oA, none⟩) (l := dn) h c
                  rw [Hl.out] at this
                  exact this
                by_cases hkp : 0 < e + (l : Int)
                · obtain ⟨K, hK⟩ : ∃ K : Nat, e + (l : Int) = (K : Int) := ⟨(e + (l : Int)).toNat, by omega⟩
                  have hKl : K < l := by omega
                  have hK0 : 0 < K := by omega
                  have hK0' : (0 : Int) < (K : Int) := by omega
                  have hK1 : ¬ c = K := by omega
                  have hK2 : (K : Int) ≤ (l : Int) := by omega
                  have hK3 : (K : Int) ≤ (c : Int) := by omega
                  have hK4 : (0 : Int) ≤ (K : Int) := by omega
                  have hat2 : At wc.drew (some ⟨bA, oA, none⟩) (dn.map bv) := Hat.out.drew
                  have l1 : (dn.take K).length = K := by rw [List.length_take, Hl.out]; omega
                  have l2 : (dn.drop K).length = l - K := by rw [List.length_drop, Hl.out]
                  have hcv1 : (convert 39 9 (.slice (some ⟨bA, oA, none⟩) K c)).run Tryd.prog wc.drew = .ok (.string (bs (dn.take K))) wc.drew := by
                    have := conv_at (P := Tryd.prog) 39 9 5 Tryd.underlying39 Tryd.underlying5 Tryd.underlying9 (w := wc.drew) (A := some ⟨bA, oA, none⟩) (l := dn.take K) (by rw [List.map_take]; exact at_front hat2 K) c
                    rw [l1] at this
                    exact this
                  have hcv2 : (convert 39 9 (.slice (some ⟨bA, oA + K, none⟩) (l - K) (c - K))).run Tryd.prog wc.drew = .ok (.string (bs (dn.drop K))) wc.drew := by
                    have := conv_at (P := Tryd.prog) 39 9 5 Tryd.underlying39 Tryd.underlying5 Tryd.underlying9 (w := wc.drew) (A := some ⟨bA, oA + K, none⟩) (l := dn.drop K) (by rw [List.map_drop]; exact at_shift hat2 K) (c - K)
                    rw [l2] at this
                    exact this
                  have hbody : body ⟨b0, dn, e⟩ = dn.take K ++ ([46] ++ dn.drop K) := by
                    unfold body
                    have hfe : firstN ⟨b0, dn, e⟩ + 1 = (K : Int) := by
                      show e + (dn.length : Int) - 1 + 1 = _
                      rw [Hl.out]
                      omega
                    rw [if_neg (by simp only; omega), hfe, if_pos hK0', Int.toNat_natCast]
                    rfl
                  have Hcat : Hid (bs (dn.take K) ++ ((⟨#[46]⟩ : ByteArray) ++ bs (dn.drop K)) = bs (body ⟨b0, dn, e⟩)) := hide (by
                    rw [hbody]
                    have e1 : (⟨#[46]⟩ : ByteArray) = bs [46] := rfl
                    rw [e1, bs_append, bs_append])
                  have z1 : (bs (dn.take K)).size ≤ 17 := by rw [bs_size, l1]; omega
                  have z2 : (bs (dn.drop K)).size ≤ 17 := by rw [bs_size, l2]; omega
                  generalize bs (dn.take K) = S1 at *
                  generalize bs (dn.drop K) = S2 at *
                  have hen : ¬ (0 : Int) ≤ e := he
                  have hKt : (e + (l : Int)).toNat = K := by omega
                  have hKa : (0 : Int) < e + (l : Int) := hkp
                  have hKb : (0 : Int) ≤ e + (l : Int) := by omega
                  have hKc : e + (l : Int) ≤ (l : Int) := by omega
                  have hKd : e + (l : Int) ≤ (c : Int) := by omega
                  clear hat2 l1 l2 hbody hcv he hK hkp Hat
                  go_wp2
                  go_region
                  all_goals
                    go_wp2
                    go_meet
                    case rel => exact ⟨by rw [← Hcat.out, ByteArray.append_assoc], Hk.out, Hb.out.drew⟩
                · obtain ⟨E, hE0⟩ : ∃ E : Nat, -(e + (l : Int)) = (E : Int) := ⟨(-(e + (l : Int))).toNat, by omega⟩
                  have hE : E ≤ 40 := by omega
                  have hen : ¬ (0 : Int) ≤ e := he
                  have hkn : ¬ (0 : Int) < e + (l : Int) := hkp
                  have hEw : IntKind.i64.wrap (E : Int) = (E : Int) := by rw [IntWalk.i64_in _ (by omega)]
                  have ha2 := (Hat.out.alloc (.cells #[.int .u8 48] 5)).drew
                  have hc1 := hcv wc.drew Hat.out.drew
                  have hc2 := hcv _ ha2
                  have ha48 : At (wc.alloc (.cells #[.int .u8 48] 5)).drew (some ⟨wc.heap.size, 0, none⟩) [bv 48] := (Bk.new wc 5 #[.int .u8 48]).drew.at_
                  have Hrep := hide (prep_any ha48 1 E (by omega) (Nat.le_refl _))
                  have hbody : body ⟨b0, dn, e⟩ = [48, 46] ++ (zs E ++ dn) := by
                    unfold body
                    have hfe : firstN ⟨b0, dn, e⟩ + 1 = -(E : Int) := by
                      show e + (dn.length : Int) - 1 + 1 = _
                      rw [Hl.out]
                      omega
                    rw [if_neg (by simp only; omega), hfe, if_neg (by omega), Int.neg_neg, Int.toNat_natCast]
                    rfl
                  obtain ⟨SZ, hSZ⟩ : ∃ SZ, bs (List.replicate E 48) = SZ := ⟨_, rfl⟩
                  have Hcat : Hid ((⟨#[48, 46]⟩ : ByteArray) ++ SZ ++ bs dn = bs (body ⟨b0, dn, e⟩)) := hide (by
                    rw [hbody, ← hSZ]
                    have e1 : (⟨#[48, 46]⟩ : ByteArray) = bs [48, 46] := rfl
                    rw [e1, bs_append, bs_append, List.append_assoc]
                    rfl)
                  have z1 : (bs dn).size ≤ 17 := by rw [bs_size, Hl.out]; exact s1
                  have z2 : SZ.size ≤ 40 := by rw [← hSZ, bs_size, List.length_replicate]; exact hE
                  have HSZ := hide hSZ
                  have Hcv := hide hcv
                  have Hba := hide (((Below.refl wc.heap.size wc).alloc (Nat.le_refl _) (.cells #[.int .u8 48] 5)).drew)
                  clear hcv ha2 ha48 hbody hSZ he hkp
                  generalize bs dn = SD at *
                  go_wp2
                  have hp4 : PlC B b0 (some ⟨bA, oA, none⟩) l c e (wc.alloc (.cells #[.int .u8 48] 5)).drew := pl_dralloc ⟨n0, n1, n2⟩ _
                  have Hp4 := hide hp4
                  have hlt4 := Hk.out.lt
                  clear hp4
                  go_region_with ((go_at_call 32; with_reducible refine (Hrep.out).mono ?_; rintro r w5 ⟨v', rfl, hwr, hb5⟩; obtain ⟨g, cs, hv', hkx⟩ := wr_open hwr; subst hv'; have hcz := wr_conv hkx; rw [List.length_replicate, HSZ.out] at hcz; have hc5 := Hcv.out w5 ((Hat.out.below Hba.out).below hb5); obtain ⟨m0, m1, m2⟩ := pl_below hb5 Hp4.out))
                  all_goals
                    have hbx := Hba.out.trans (hb5.mono Hba.out.size)
                    have HbF := hide (Hb.out.trans (hbx.mono Hb.out.size))
                    have HkF := hide (Hk.out.below hbx Hk.out.lt)
                    clear hbx hb5 hwr hkx hcz hc5 n0 n1 n2 hc1 hc2 Hrep Hat Hk Hb
                    go_wp2
                    go_meet
                    case rel => exact ⟨by rw [← Hcat.out], HkF.out, HbF.out⟩
            case rest =>
              obtain ⟨rfl, hk, hb⟩ := hcut
              have hbl : (body ⟨b0, dn, e⟩).length ≤ 200 := by
                unfold body
                have hfe : firstN ⟨b0, dn, e⟩ + 1 = e + (l : Int) := by
                  show e + (dn.length : Int) - 1 + 1 = _
                  rw [Hl.out]
                  omega
                rw [hfe]
                simp only
                split
                · rw [List.length_append, zs_len, Hl.out]; omega
                · split
                  · rw [List.length_append, List.length_cons, List.length_take, List.length_drop, Hl.out]; omega
                  · rw [List.length_cons, List.length_cons, List.length_append, zs_len, Hl.out]; omega
              obtain ⟨O, hO⟩ : ∃ O, body ⟨b0, dn, e⟩ = O := ⟨_, rfl⟩
              rw [hO] at hbl Hpl ⊢
              obtain ⟨L, hL⟩ : ∃ L, O.length = L := ⟨_, rfl⟩
              have hsz1 : (bs O).size = L := hL
              rw [hL] at hbl
              have n0 := hk.cell 0
              simp at n0
              have Hb := hide hb
              have Hpl2 := Hpl
              have HL := hide hL
              clear hk hb hat Hpl hO hL
              cases b0
              · have hpl := Hpl2.out
                simp only [Bool.false_eq_true, if_false, List.nil_append] at hpl
                rw [HL.out] at hpl
                by_cases hbig : 40 < L
                · rw [if_pos hbig] at hpl
                  have hv := Hv.out
                  rw [hpl] at hv
                  have Hv2 := hide hv
                  have hbigi : (40 : Int) < (L : Int) := by omega
                  clear hv hpl Hpl2 Hv hbig HL
                  generalize bs O = SO at *
                  go_wp2
                  go_returns
                  rw [Hv2.out]
                  exact ⟨rfl, Hb.out⟩
                · rw [if_neg hbig] at hpl
                  have hv := Hv.out
                  rw [hpl] at hv
                  have Hv2 := hide hv
                  have hbigi : ¬ (40 : Int) < (L : Int) := by omega
                  clear hv hpl Hpl2 Hv hbig HL
                  obtain ⟨SO, hSO⟩ : ∃ SO, bs O = SO := ⟨_, rfl⟩
                  rw [hSO] at hsz1 ⊢
                  have HSO := hide hSO
                  clear hSO
                  go_wp2
                  go_returns
                  rw [Hv2.out]
                  exact ⟨by rw [← HSO.out]; rfl, Hb.out⟩
              · have hpl := Hpl2.out
                simp only [if_true] at hpl
                rw [List.length_append, HL.out] at hpl
                have Hcat : Hid ((⟨#[45]⟩ : ByteArray) ++ bs O = bs ([45] ++ O)) := hide (by
                  have e1 : (⟨#[45]⟩ : ByteArray) = bs [45] := rfl
                  rw [e1, bs_append])
                by_cases hbig : 40 < 1 + L
                · rw [if_pos (by simpa using hbig)] at hpl
                  have hv := Hv.out
                  rw [hpl] at hv
                  have Hv2 := hide hv
                  have hbigi : (40 : Int) < 1 + (L : Int) := by omega
                  have hsz2 : ((⟨#[45]⟩ : ByteArray) ++ bs O).size = 1 + L := by rw [ByteArray.size_append, hsz1]; rfl
                  clear hv hpl Hpl2 Hv HL Hcat
                  generalize bs O = SO at *
                  go_wp2
                  go_returns
                  rw [Hv2.out]
                  exact ⟨rfl, Hb.out⟩
                · rw [if_neg (by simpa using hbig)] at hpl
                  have hv := Hv.out
                  rw [hpl] at hv
                  have Hv2 := hide hv
                  have hbigi : ¬ (40 : Int) < 1 + (L : Int) := by omega
                  have hsz2 : ((⟨#[45]⟩ : ByteArray) ++ bs O).size = 1 + L := by rw [ByteArray.size_append, hsz1]; rfl
                  clear hv hpl Hpl2 Hv HL
                  obtain ⟨SO, hSO⟩ : ∃ SO, bs O = SO := ⟨_, rfl⟩
                  rw [hSO] at hsz1 hsz2 Hcat ⊢
                  clear hSO
                  go_wp2
                  go_returns
                  rw [Hv2.out]
                  exact ⟨by simp only [← Hcat.out]; rfl, Hb.out⟩
end Go.Proofs.YtkgclfagimlneaaDoor
