/-
  Joined texts: Ia, Ib, Ic.
-/
import Derived.Test.YtgllednilkfpgaaGreatJ07
import Derived.Test.YtgllednilkfpgaaGreatJ10
import Derived.Test.YtgllednilkfpgaaGreatJ30
import Derived.Test.YtgllednilkfpgaaGreatShelf
import Derived.Test.YtgllednilkfpgaaGreatJ01
set_option linter.unusedVariables false
set_option linter.unusedSimpArgs false
/-
  The walks over times: whether times are valid, gaps, times out of gaps.
-/
namespace Go.Proofs.YtgllednilkfpgaaGreat
open Go.RowKit Go.Proofs Wv Wv.Vi Wv.Rc Wv.Mo Wv.Ru Wv.Tm
set_option linter.unusedVariables false

/-- Integers as the cells of a block. -/
def ica (l : List Int) : Array Value := (ivs l).toArray
theorem ica_len (l : List Int) : (ica l).size = l.length := by simp [ica, ivs]
theorem ica_get (l : List Int) (i : Nat) (h : i < l.length) : (ica l)[i]? = some (.int .i64 l[i]) := by simp [ica, ivs, iv, h]
theorem ica_set (l : List Int) (i : Nat) (x : Int) : (ica l).setIfInBounds i (.int .i64 x) = ica (l.set i x) := by
  apply Array.toList_inj.1
  simp [ica, ivs, iv, List.map_set]
theorem ica_replicate (n : Nat) : Array.replicate n (.int .i64 0 : Value) = ica (List.replicate n 0) := by
  apply Array.toList_inj.1
  simp [ica, ivs, iv]
theorem ica_at {w : World} {g : Nat} {l : List Int} (h : Bk w g 3 (ica l)) : At w (some ⟨g, 0, none⟩) (ivs l) := by
  have := h.at_
  simpa [ica] using this
theorem ivs_at (l : List Int) (i : Nat) (h : i < l.length) : (ivs l)[i]? = some (.int .i64 l[i]) := by simp [ivs, iv, h]
set_option maxRecDepth 10000 in
set_option maxHeartbeats 1000000 in
theorem tvalid_any {w : World} {A : Option Addr} {l : List Int} (ha : At w A (ivs l)) (n cap : Nat) (hn : n = l.length) (hn4 : n ≤ 9223372036854775807) :
    Calls Tryz.prog 16 #[.slice A n cap] w fun x w' => x = .returned (.bool (validT l)) ∧ w = w' := by
  have Ha := hide ha
  have Hn := hide hn
  obtain ⟨V, hV⟩ : ∃ V, validT l = V := ⟨_, rfl⟩
  have HV : Hid (V = (tv (-1) l && decide (l.length ≤ 4096))) := hide hV.symm
  rw [hV]
  clear ha hn hV
  go_enter Tryz.func16, Tryz.ntmps16
  go_wp2
  go_loopw [3, 8] (fun s3 s8 wr => ∃ (i : Nat) (last : Int), i ≤ n ∧ s3 = .int .i64 last ∧ s8 = .int .i64 (i : Int) ∧ Hid (tv (-1) l = tv last (l.drop i)) ∧ wr = w) (fun _ s8 _ => (n - intOf s8).toNat)
  case atStart => exact ⟨0, -1, Nat.zero_le _, rfl, rfl, hide rfl, rfl⟩
  case round =>
    obtain ⟨i, last, hi, rfl, rfl, htv, rfl⟩ := hrel
    by_cases hlt : i < n
    · have hil : i < l.length := by rw [← Hn.out]; exact hlt
      have hd : l.drop i = l[i] :: l.drop (i + 1) := List.drop_eq_getElem_cons hil
      have hget := ivs_at l i hil
      obtain ⟨x, hx⟩ : ∃ x, l[i] = x := ⟨_, rfl⟩
      rw [hx] at hd hget
      obtain ⟨b, o, hA, hb, hc⟩ := Ha.out.get i _ hget
      subst hA
      have ht1 := htv.out
      rw [hd] at ht1
      have ht2 : tv (-1) l = (decide (last < x) && decide (x ≤ 1099511627776) && tv x (l.drop (i + 1))) := ht1
      have hlti : (i : Int) < (n : Int) := by omega
      by_cases h1 : x ≤ last
      · have Hv : Hid (V = false) := hide (by rw [HV.out, ht2, decide_eq_false (show ¬ last < x by omega)]; rfl)
        clear hil hd hget hx ht1 ht2 htv
        go_wp2
        go_ret
        exact ⟨ret_bool Hv.out.symm, rfl⟩
      · by_cases h2 : 1099511627776 < x
        · have Hv : Hid (V = false) := hide (by rw [HV.out, ht2, decide_eq_false (show ¬ x ≤ 1099511627776 by omega), Bool.and_false]; rfl)
          clear hil hd hget hx ht1 ht2 htv
          go_wp2
          go_ret
          exact ⟨ret_bool Hv.out.symm, rfl⟩
        · have Hv : Hid (tv (-1) l = tv x (l.drop (i + 1))) := hide (by rw [ht2, decide_eq_true (show last < x by omega), decide_eq_true (show x ≤ 1099511627776 by omega)]; rfl)
          clear hil hd hget hx ht1 ht2 htv
          go_wp2
          refine ⟨⟨i + 1, x, hlt, rfl, by go_num, Hv, by first | trivial | rfl⟩, ?_⟩
          simp [intOf] <;> omega
    · have hiN : i = n := by omega
      have ht1 := htv.out
      rw [List.drop_eq_nil_of_le (by rw [← Hn.out]; omega)] at ht1
      have Hv : Hid (V = decide (n ≤ 4096)) := hide (by rw [HV.out, ht1, Hn.out]; rfl)
      subst hiN
      clear ht1 htv
      go_wp2
      go_ret
      exact ⟨ret_bool (by rw [Hv.out]; simp; omega), rfl⟩
set_option maxRecDepth 10000 in
set_option maxHeartbeats 1000000 in
theorem tgaps_any {w : World} {A : Option Addr} {l : List Int} (ha : At w A (ivs l)) (n cap : Nat) (hn : n = l.length) (hv : validT l = true) :
    Calls Tryz.prog 84 #[.slice A n cap] w fun x w' => ∃ v, x = .returned v ∧ IRes w' v (gapsT l) ∧ Below w.heap.size w w' := by
  obtain ⟨v1, v2, v3⟩ := validT_iff.1 hv
  have hn4 : n ≤ 4096 := by omega
  have hmk := mk_row (P := Tryz.prog) 22 3 _ _ Tryz.underlying22 intinf rfl (n : Int) n rfl (by omega) (by omega) w
  rw [ica_replicate] at hmk
  have Hk0 := hide (Bk.new w 3 (ica (List.replicate n 0)))
  have Hb0 := hide ((Below.refl w.heap.size w).alloc (Nat.le_refl _) (.cells (ica (List.replicate n 0)) 3))
  have Ha := hide ha
  have Hn := hide hn
  have Hv2 := hide v2
  have Hlen : Hid ((gapsT l).length = n) := hide (by unfold gapsT; rw [gp_length, hn])
  clear ha hn hv v1 v2 v3
  go_enter Tryz.func84, Tryz.ntmps84
  go_wp2
  go_loopw [3, 12] (fun s3 s12 wr => ∃ (i : Nat) (last : Int) (G : List Int), i ≤ n ∧ -1 ≤ last ∧ last ≤ 1099511627776 ∧ s3 = .int .i64 last ∧ s12 = .int .i64 (i : Int) ∧ Hid (gapsT l = G ++ gp last (l.drop i)) ∧ Hid (G.length = i) ∧ Hid (Bk wr w.heap.size 3 (ica (G ++ List.replicate (n - i) 0))) ∧ Hid (Below w.heap.size w wr)) (fun _ s12 _ => (n - intOf s12).toNat)
  case atStart => exact ⟨0, -1, [], Nat.zero_le _, by omega, by omega, rfl, rfl, hide rfl, hide rfl, hide (by simpa using Hk0.out), Hb0⟩
  case round =>
    obtain ⟨i, last, G, hi, hl1, hl2, rfl, rfl, hG, hGl, hbk, hb⟩ := hrel
    by_cases hlt : i < n
    · have hil : i < l.length := by rw [← Hn.out]; exact hlt
      have hd : l.drop i = l[i] :: l.drop (i + 1) := List.drop_eq_getElem_cons hil
      have hget := ivs_at l i hil
      have hx2 := Hv2.out l[i] (List.getElem_mem _)
      obtain ⟨x, hx⟩ : ∃ x, l[i] = x := ⟨_, rfl⟩
      rw [hx] at hd hget hx2
      obtain ⟨b, o, hA, hbA, hc0⟩ := Ha.out.get i _ hget
      subst hA
      have hc := (hb.out.cell (p := ⟨b, o + i, none⟩) hbA).trans hc0
      obtain ⟨hx3, hx4⟩ := hx2
      have hput := hbk.out.put i (.int .i64 (x - last - 1))
      rw [ica_set, show n - i = (n - (i + 1)) + 1 by omega, List.replicate_succ, List.set_append_right _ _ (by rw [hGl.out]; exact Nat.le_refl _), hGl.out, Nat.sub_self, List.set_cons_zero] at hput
      have Hput : Hid (Bk (wr.setCell ⟨w.heap.size, i, none⟩ (.int .i64 (x - last - 1))) w.heap.size 3 (ica ((G ++ [x - last - 1]) ++ List.replicate (n - (i + 1)) 0))) := hide (by rw [List.append_assoc]; exact hput)
      have Hbb := hide (hb.out.setCell (p := ⟨w.heap.size, i, none⟩) (Nat.le_refl _) (.int .i64 (x - last - 1)))
      have HG : Hid (gapsT l = (G ++ [x - last - 1]) ++ gp x (l.drop (i + 1))) := hide (by rw [hG.out, hd, List.append_assoc]; rfl)
      have HGl : Hid ((G ++ [x - last - 1]).length = i + 1) := hide (by rw [List.length_append, hGl.out]; rfl)
      obtain ⟨y0, hck⟩ : ∃ y : Int, wr.cell? ⟨w.heap.size, i, none⟩ = some (.int .i64 y) := ⟨_, by rw [hbk.out.cell, ica_get _ _ (by rw [List.length_append, hGl.out, List.length_replicate]; omega)]⟩
      have hfk := hbk.out.frozen i
      have hlti : (i : Int) < (n : Int) := by omega
      clear hil hd hget hx hput hG hGl hbk hb hmk Hk0 Hb0 hc0
      go_wp2
      refine ⟨⟨i + 1, x, _, hlt, by omega, hx4, rfl, by go_num, HG, HGl, Hput, Hbb⟩, ?_⟩
      simp [intOf] <;> omega
    · have hiN : i = n := by omega
      subst hiN
      have hG2 := hG.out
      rw [List.drop_eq_nil_of_le (by rw [← Hn.out]; exact Nat.le_refl _)] at hG2
      have hG3 : gapsT l = G := by rw [hG2]; exact List.append_nil _
      have Hres : Hid (IRes wr (.slice (some ⟨w.heap.size, 0, none⟩) i i) (gapsT l)) := hide ⟨_, i, by rw [Hlen.out], by
        have := ica_at hbk.out
        rw [Nat.sub_self, List.replicate_zero, List.append_nil] at this
        rw [hG3]; exact this⟩
      clear hG2 hG3 hG hGl hbk hmk Hk0 Hb0
      go_wp2
      go_ret
      exact ⟨_, rfl, Hres.out, hb.out⟩
/-- What joining gives back. -/
def JRes (w : World) (r : Option (List Int)) (x : Ending) (w' : World) : Prop := ∃ v ok, x = .returned (.tuple #[v, .bool ok]) ∧ ok = r.isSome ∧ (∀ l, r = some l → IRes w' v l) ∧ Below w.heap.size w w'
theorem jres_none {w w' : World} {r : Option (List Int)} {v : Value} (h : r = none) (hb : Below w.heap.size w w') : JRes w r (.returned (.tuple #[v, .bool false])) w' := ⟨_, _, rfl, by rw [h]; rfl, (fun l h2 => by rw [h] at h2; cases h2), hb⟩
set_option maxRecDepth 10000 in
set_option maxHeartbeats 1000000 in
theorem tjoin_any {w : World} {A : Option Addr} {l : List Int} (ha : At w A (ivs l)) (n cap : Nat) (hn : n = l.length) (hn4 : n ≤ 1000000) :
    Calls Tryz.prog 79 #[.slice A n cap] w fun x w' => JRes w (jnL l) x w' := by
  have hmk := mk_row (P := Tryz.prog) 22 3 _ _ Tryz.underlying22 intinf rfl (n : Int) n rfl (by omega) (by omega) w
  rw [ica_replicate] at hmk
  have Hk0 := hide (Bk.new w 3 (ica (List.replicate n 0)))
  have Hb0 := hide ((Below.refl w.heap.size w).alloc (Nat.le_refl _) (.cells (ica (List.replicate n 0)) 3))
  have Ha := hide ha
  have Hn := hide hn
  obtain ⟨R, hR⟩ : ∃ R, jnL l = R := ⟨_, rfl⟩
  have HR : Hid (R = match jn (-1) l with | some r => if r.length ≤ 4096 then some r else none | none => none) := hide hR.symm
  rw [hR]
  clear ha hn hR
  go_enter Tryz.func79, Tryz.ntmps79
  go_wp2
  go_loopw [4, 13] (fun s4 s13 wr => ∃ (i : Nat) (last : Int) (G : List Int), i ≤ n ∧ -1 ≤ last ∧ last ≤ 1099511627776 ∧ s4 = .int .i64 last ∧ s13 = .int .i64 (i : Int) ∧ Hid (jn (-1) l = (jn last (l.drop i)).map (G ++ ·)) ∧ Hid (G.length = i) ∧ Hid (Bk wr w.heap.size 3 (ica (G ++ List.replicate (n - i) 0))) ∧ Hid (Below w.heap.size w wr)) (fun _ s13 _ => (n - intOf s13).toNat)
  case atStart => exact ⟨0, -1, [], Nat.zero_le _, by omega, by omega, rfl, rfl, hide (by simp), hide rfl, hide (by simpa using Hk0.out), Hb0⟩
  case round =>
    obtain ⟨i, last, G, hi, hl1, hl2, rfl, rfl, hG, hGl, hbk, hb⟩ := hrel
    by_cases hlt : i < n
    · have hil : i < l.length := by rw [← Hn.out]; exact hlt
      have hd : l.drop i = l[i] :: l.drop (i + 1) := List.drop_eq_getElem_cons hil
      have hget := ivs_at l i hil
      obtain ⟨x, hx⟩ : ∃ x, l[i] = x := ⟨_, rfl⟩
      rw [hx] at hd hget
      obtain ⟨b, o, hA, hbA, hc0⟩ := Ha.out.get i _ hget
      subst hA
      have hc := (hb.out.cell (p := ⟨b, o + i, none⟩) hbA).trans hc0
      have hj : jn last (x :: l.drop (i + 1)) = if x < 0 ∨ 1099511627776 < x ∨ 1099511627776 < last + x + 1 then none else (jn (last + x + 1) (l.drop (i + 1))).map ((last + x + 1) :: ·) := rfl
      have hG2 := hG.out
      rw [hd, hj] at hG2
      have hlti : (i : Int) < (n : Int) := by omega
      by_cases h1 : x < 0
      · have Hv : Hid (R = none) := hide (by rw [HR.out, hG2, if_pos (.inl h1)]; rfl)
        clear hil hd hget hx hj hG2 hG hGl hbk hmk Hk0 Hb0 hc0
        go_wp2
        go_ret2
        exact jres_none Hv.out hb.out
      · by_cases h2 : 1099511627776 < x
        · have Hv : Hid (R = none) := hide (by rw [HR.out, hG2, if_pos (.inr (.inl h2))]; rfl)
          clear hil hd hget hx hj hG2 hG hGl hbk hmk Hk0 Hb0 hc0
          go_wp2
          go_ret2
          exact jres_none Hv.out hb.out
        · have e1 : last + (x + 1) = last + x + 1 := by omega
          obtain ⟨y, hy⟩ : ∃ y, last + x + 1 = y := ⟨_, rfl⟩
          have hput := hbk.out.put i (.int .i64 y)
          rw [ica_set, show n - i = (n - (i + 1)) + 1 by omega, List.replicate_succ, List.set_append_right _ _ (by rw [hGl.out]; exact Nat.le_refl _), hGl.out, Nat.sub_self, List.set_cons_zero] at hput
          have Hput : Hid (Bk (wr.setCell ⟨w.heap.size, i, none⟩ (.int .i64 y)) w.heap.size 3 (ica ((G ++ [y]) ++ List.replicate (n - (i + 1)) 0))) := hide (by rw [List.append_assoc]; exact hput)
          have Hbb := hide (hb.out.setCell (p := ⟨w.heap.size, i, none⟩) (Nat.le_refl _) (.int .i64 y))
          have HGl : Hid ((G ++ [y]).length = i + 1) := hide (by rw [List.length_append, hGl.out]; rfl)
          obtain ⟨y0, hck⟩ : ∃ y : Int, wr.cell? ⟨w.heap.size, i, none⟩ = some (.int .i64 y) := ⟨_, by rw [hbk.out.cell, ica_get _ _ (by rw [List.length_append, hGl.out, List.length_replicate]; omega)]⟩
          have hfk := hbk.out.frozen i
          rw [hy] at hG2
          by_cases h3 : 1099511627776 < y
          · have Hv : Hid (R = none) := hide (by rw [HR.out, hG2, if_pos (.inr (.inr h3))]; rfl)
            have hyy : last + (x + 1) = y := by omega
            clear hil hd hget hx hj hG2 hG hGl hbk hb hmk Hk0 Hb0 hc0 hput e1 hy
            go_wp2
            go_ret2
            exact jres_none Hv.out Hbb.out
          · have HG : Hid (jn (-1) l = (jn y (l.drop (i + 1))).map ((G ++ [y]) ++ ·)) := hide (by
              rw [hG2, if_neg (by omega), Option.map_map]
              congr 1
              funext r
              simp)
            have hyy : last + (x + 1) = y := by omega
            clear hil hd hget hx hj hG2 hG hGl hbk hb hmk Hk0 Hb0 hc0 hput e1 hy
            go_wp2
            refine ⟨⟨i + 1, y, _, hlt, by omega, by omega, rfl, by go_num, HG, HGl, Hput, Hbb⟩, ?_⟩
            simp [intOf] <;> omega
    · have hiN : i = n := by omega
      subst hiN
      have hG2 := hG.out
      rw [List.drop_eq_nil_of_le (by rw [← Hn.out]; exact Nat.le_refl _)] at hG2
      have hG3 : jn (-1) l = some G := by rw [hG2]; simp [jn]
      have Hres : Hid (IRes wr (.slice (some ⟨w.heap.size, 0, none⟩) i i) G) := hide ⟨_, i, by rw [hGl.out], by
        have := ica_at hbk.out
        rw [Nat.sub_self, List.replicate_zero, List.append_nil] at this
        exact this⟩
      have Hv : Hid (R = if i ≤ 4096 then some G else none) := hide (by rw [HR.out, hG3]; simp only; rw [hGl.out])
      clear hG2 hG3 hG hGl hbk hmk Hk0 Hb0
      go_wp2
      go_ret2
      refine ⟨_, _, rfl, ?_, fun l h => ?_, hb.out⟩
      · rw [Hv.out]
        by_cases h : i ≤ 4096
        · rw [if_pos h]; simp; omega
        · rw [if_neg h]; simp; omega
      · rw [Hv.out] at h
        split at h
        · injection h with h
          subst h
          exact Hres.out
        · cases h
end Go.Proofs.YtgllednilkfpgaaGreat
/-
  The walks over times: clocks and their times.
-/
namespace Go.Proofs.YtgllednilkfpgaaGreat
open Go.RowKit Go.Proofs Wv Wv.Vi Wv.Rc Wv.Mo Wv.Ru Wv.Tm
set_option linter.unusedVariables false

/-- A clock as a value. -/
def CV (c : Clk) : Value := .agg #[.int .i64 c.st, .int .i64 c.f, .int .i64 c.s, .int .i64 c.n]
def inD (c : Clk) : Prop := 0 ≤ c.st ∧ c.st ≤ 1099511627776 ∧ 1 ≤ c.f ∧ c.f ≤ 1099511627776 ∧ 1 ≤ c.s ∧ c.s ≤ 1099511627776
theorem inC_d {c : Clk} (h : inC c) : inD c := ⟨h.2.2.1, h.2.2.2.1, h.2.2.2.2.1, h.2.2.2.2.2.1, h.2.2.2.2.2.2.1, h.2.2.2.2.2.2.2⟩
theorem mul_in {k : Nat} {f : Int} (hk : k ≤ 3000) (h1 : 1 ≤ f) (h2 : f ≤ 1099511627776) : 0 ≤ (k : Int) * f ∧ (k : Int) * f ≤ 3298534883328000 := by
  constructor
  · exact Int.mul_nonneg (Int.natCast_nonneg k) (by omega)
  · calc (k : Int) * f ≤ 3000 * f := Int.mul_le_mul_of_nonneg_right (by omega) (by omega)
      _ ≤ 3298534883328000 := by omega
set_option maxRecDepth 10000 in
set_option maxHeartbeats 1000000 in
theorem tat_any {c : Clk} (hc : inD c) (i : Nat) (hi : i ≤ 5000) (w : World) :
    Calls Tryz.prog 39 #[CV c, .int .i64 (i : Int)] w fun x w' => x = .returned (.int .i64 (atC c i)) ∧ Below w.heap.size w w' := by
  obtain ⟨h1, h2, h3, h4, h5, h6⟩ := hc
  obtain ⟨st, f, s, n⟩ := c
  simp only at *
  have hat : atC ⟨st, f, s, n⟩ i = st + ((i + 1) / 2 : Nat) * f + (i / 2 : Nat) * s := rfl
  obtain ⟨k1, hk1⟩ : ∃ k, (i + 1) / 2 = k := ⟨_, rfl⟩
  obtain ⟨k2, hk2⟩ : ∃ k, i / 2 = k := ⟨_, rfl⟩
  rw [hk1, hk2] at hat
  obtain ⟨m1, m2⟩ := mul_in (k := k1) (by omega) h3 h4
  obtain ⟨m3, m4⟩ := mul_in (k := k2) (by omega) h5 h6
  have e1 : ((i : Int) + 1) / 2 = (k1 : Int) := by omega
  have e2 : (i : Int) / 2 = (k2 : Int) := by omega
  obtain ⟨P1, hP1⟩ : ∃ P, (k1 : Int) * f = P := ⟨_, rfl⟩
  obtain ⟨P2, hP2⟩ : ∃ P, (k2 : Int) * s = P := ⟨_, rfl⟩
  rw [hP1] at m1 m2 hat
  rw [hP2] at m3 m4 hat
  have Hat := hide hat
  clear hk1 hk2 hat
  unfold CV
  simp only
  go_enter Tryz.func39, Tryz.ntmps39
  go_wp2
  go_ret
  exact ⟨by rw [Hat.out]; rfl, (Below.refl w.heap.size w).alloc (Nat.le_refl _) _⟩
theorem tin_any (n a b : Int) (w : World) :
    Calls Tryz.prog 60 #[.int .i64 n, .int .i64 a, .int .i64 b] w fun x w' => x = .returned (.bool (decide (a ≤ n) && decide (n ≤ b))) ∧ w = w' := by
  by_cases h1 : a ≤ n
  · by_cases h2 : n ≤ b
    · go_enter Tryz.func60, Tryz.ntmps60
      go_wp2
      go_ret
      exact ⟨ret_bool (by simp [h1, h2]), rfl⟩
    · go_enter Tryz.func60, Tryz.ntmps60
      go_wp2
      go_ret
      exact ⟨ret_bool (by rw [eq_comm, decide_eq_false_iff_not]; omega), rfl⟩
  · go_enter Tryz.func60, Tryz.ntmps60
    go_wp2
    go_ret
    exact ⟨ret_bool (by rw [eq_comm, Bool.and_eq_false_iff, decide_eq_false_iff_not, decide_eq_false_iff_not]; omega), rfl⟩
set_option maxRecDepth 10000 in
set_option maxHeartbeats 1000000 in
theorem tvclk_any (c : Clk) (w : World) :
    Calls Tryz.prog 38 #[CV c] w fun x w' => x = .returned (.bool (vclk c)) ∧ Below w.heap.size w w' := by
  obtain ⟨b1, hb1⟩ : ∃ b, (decide (1 ≤ c.n) && decide (c.n ≤ 4096)) = b := ⟨_, rfl⟩
  obtain ⟨b2, hb2⟩ : ∃ b, (decide (0 ≤ c.st) && decide (c.st ≤ 1099511627776)) = b := ⟨_, rfl⟩
  obtain ⟨b3, hb3⟩ : ∃ b, (decide (1 ≤ c.f) && decide (c.f ≤ 1099511627776)) = b := ⟨_, rfl⟩
  obtain ⟨b4, hb4⟩ : ∃ b, (decide (1 ≤ c.s) && decide (c.s ≤ 1099511627776)) = b := ⟨_, rfl⟩
  have H1 := hide (fun W => tin_any c.n 1 4096 W)
  have H2 := hide (fun W => tin_any c.st 0 1099511627776 W)
  have H3 := hide (fun W => tin_any c.f 1 1099511627776 W)
  have H4 := hide (fun W => tin_any c.s 1 1099511627776 W)
  rw [hb1] at H1
  rw [hb2] at H2
  rw [hb3] at H3
  rw [hb4] at H4
  have hv : vclk c = (b1 && b2 && b3 && b4 && decide (atC c (c.n - 1).toNat ≤ 1099511627776)) := by
    unfold vclk
    congr 1
    rw [← hb1, ← hb2, ← hb3, ← hb4, Bool.eq_iff_iff, decide_eq_true_iff]
    unfold inC
    simp [and_assoc]
  have Hbl := hide ((Below.refl w.heap.size w).alloc (Nat.le_refl _) (.cells #[.int .i64 c.st, .int .i64 c.f, .int .i64 c.s, .int .i64 c.n] 24))
  by_cases hall : b1 = true ∧ b2 = true ∧ b3 = true ∧ b4 = true
  · obtain ⟨rfl, rfl, rfl, rfl⟩ := hall
    have hin : inC c := by
      simp at hb1 hb2 hb3 hb4
      exact ⟨hb1.1, hb1.2, hb2.1, hb2.2, hb3.1, hb3.2, hb4.1, hb4.2⟩
    have n1 := hin.1
    have n2 := hin.2.1
    have Hat := hide (fun W => tat_any (inC_d hin) (c.n - 1).toNat (by omega) W)
    obtain ⟨m, hm⟩ : ∃ m, (c.n - 1).toNat = m := ⟨_, rfl⟩
    have hmi : c.n - 1 = (m : Int) := by omega
    rw [hm] at Hat hv
    obtain ⟨T, hT⟩ : ∃ T, atC c m = T := ⟨_, rfl⟩
    rw [hT] at Hat hv
    have Hv := hide hv
    clear hb1 hb2 hb3 hb4 hv hin hm hT
    obtain ⟨st, f, s, n⟩ := c
    simp only at *
    unfold CV at Hat ⊢
    simp only at Hat ⊢
    go_enter Tryz.func38, Tryz.ntmps38
    go_wp2_with fail
    refine (H1.out _).mono ?_
    rintro x w1 ⟨rfl, rfl⟩
    go_wp2_with fail
    refine (H2.out _).mono ?_
    rintro x w1 ⟨rfl, rfl⟩
    go_wp2_with fail
    refine (H3.out _).mono ?_
    rintro x w1 ⟨rfl, rfl⟩
    go_wp2_with fail
    refine (H4.out _).mono ?_
    rintro x w1 ⟨rfl, rfl⟩
    go_wp2_with fail
    refine (Hat.out _).mono ?_
    rintro x w1 ⟨rfl, hb⟩
    have Hb2 := hide (Hbl.out.trans (hb.mono Hbl.out.size))
    clear hb
    go_wp2
    go_ret
    exact ⟨ret_bool (by rw [Hv.out]; simp), Hb2.out⟩
  · have Hv : Hid (vclk c = false) := hide (by
      rw [hv]
      cases b1 <;> cases b2 <;> cases b3 <;> cases b4 <;> simp at hall <;> rfl)
    clear hb1 hb2 hb3 hb4 hv
    obtain ⟨st, f, s, n⟩ := c
    simp only at *
    unfold CV
    simp only
    cases b1 with
    | false =>
      clear hall
      go_enter Tryz.func38, Tryz.ntmps38
      go_wp2_with fail
      refine (H1.out _).mono ?_
      rintro x w1 ⟨rfl, rfl⟩
      go_wp2
      go_ret
      exact ⟨ret_bool Hv.out.symm, Hbl.out⟩
    | true =>
      cases b2 with
      | false =>
        clear hall
        go_enter Tryz.func38, Tryz.ntmps38
        go_wp2_with fail
        refine (H1.out _).mono ?_
        rintro x w1 ⟨rfl, rfl⟩
        go_wp2_with fail
        refine (H2.out _).mono ?_
        rintro x w1 ⟨rfl, rfl⟩
        go_wp2
        go_ret
        exact ⟨ret_bool Hv.out.symm, Hbl.out⟩
      | true =>
        cases b3 with
        | false =>
          clear hall
          go_enter Tryz.func38, Tryz.ntmps38
          go_wp2_with fail
          refine (H1.out _).mono ?_
          rintro x w1 ⟨rfl, rfl⟩
          go_wp2_with fail
          refine (H2.out _).mono ?_
          rintro x w1 ⟨rfl, rfl⟩
          go_wp2_with fail
          refine (H3.out _).mono ?_
          rintro x w1 ⟨rfl, rfl⟩
          go_wp2
          go_ret
          exact ⟨ret_bool Hv.out.symm, Hbl.out⟩
        | true =>
          obtain rfl : b4 = false := by cases b4 <;> simp at hall ⊢
          clear hall
          go_enter Tryz.func38, Tryz.ntmps38
          go_wp2_with fail
          refine (H1.out _).mono ?_
          rintro x w1 ⟨rfl, rfl⟩
          go_wp2_with fail
          refine (H2.out _).mono ?_
          rintro x w1 ⟨rfl, rfl⟩
          go_wp2_with fail
          refine (H3.out _).mono ?_
          rintro x w1 ⟨rfl, rfl⟩
          go_wp2_with fail
          refine (H4.out _).mono ?_
          rintro x w1 ⟨rfl, rfl⟩
          go_wp2
          go_ret
          exact ⟨ret_bool Hv.out.symm, Hbl.out⟩
/-- The times of a clock, and the error. -/
def TmRes (w : World) (c : Clk) (x : Ending) (w' : World) : Prop := if vclk c = true then (∃ g, x = .returned (.tuple #[.slice (some ⟨g, 0, none⟩) c.n.toNat c.n.toNat, .int .i64 0]) ∧ Bk w' g 3 (ica (timesL c)) ∧ w.heap.size ≤ g ∧ Below w.heap.size w w') else (x = .returned (.tuple #[.slice none 0 0, .int .i64 1]) ∧ Below w.heap.size w w')
set_option maxRecDepth 10000 in
set_option maxHeartbeats 1000000 in
theorem ttimes_any (c : Clk) (w : World) :
    Calls Tryz.prog 12 #[CV c] w fun x w' => TmRes w c x w' := by
  have Hv := hide (fun W => tvclk_any c W)
  cases hv : vclk c with
  | false =>
    rw [hv] at Hv
    have Hpost : Hid (∀ x w', TmRes w c x w' ↔ (x = .returned (.tuple #[.slice none 0 0, .int .i64 1]) ∧ Below w.heap.size w w')) := hide (fun x w' => by unfold TmRes; rw [if_neg (by rw [hv]; simp)])
    have Hbl := hide ((Below.refl w.heap.size w).alloc (Nat.le_refl _) (.cells #[.int .i64 c.st, .int .i64 c.f, .int .i64 c.s, .int .i64 c.n] 24))
    clear hv
    obtain ⟨st, f, s, n⟩ := c
    unfold CV at Hv ⊢
    simp only at Hv Hbl ⊢
    go_enter Tryz.func12, Tryz.ntmps12
    go_wp2_with fail
    refine (Hv.out _).mono ?_
    rintro x w1 ⟨rfl, hb⟩
    have Hb2 := hide (Hbl.out.trans (hb.mono Hbl.out.size))
    clear hb
    go_wp2
    go_ret2
    exact (Hpost.out _ _).2 ⟨rfl, Hb2.out⟩
  | true =>
    rw [hv] at Hv
    have Hpost : Hid (∀ x w', TmRes w c x w' ↔ (∃ g, x = .returned (.tuple #[.slice (some ⟨g, 0, none⟩) c.n.toNat c.n.toNat, .int .i64 0]) ∧ Bk w' g 3 (ica (timesL c)) ∧ w.heap.size ≤ g ∧ Below w.heap.size w w')) := hide (fun x w' => by unfold TmRes; rw [if_pos hv])
    obtain ⟨hin, _⟩ := vclk_iff.1 hv
    have n1 := hin.1
    have n2 := hin.2.1
    have Hat := hide (fun (i : Nat) (hi : i ≤ 5000) W => tat_any (inC_d hin) i hi W)
    have htl := timesL_length c
    have hti : ∀ i (h : i < c.n.toNat), timesL c = (timesL c).take i ++ atC c i :: (timesL c).drop (i + 1) := fun i h => by
      have h1 : i < (timesL c).length := by rw [htl]; exact h
      have h2 : (timesL c)[i] = atC c i := by simp [timesL]
      rw [← h2, ← List.drop_eq_getElem_cons h1, List.take_append_drop]
    obtain ⟨N, hN⟩ : ∃ N, c.n.toNat = N := ⟨_, rfl⟩
    have hNi : c.n = (N : Int) := by omega
    rw [hN] at Hpost htl hti
    obtain ⟨TL, hTL⟩ : ∃ TL, timesL c = TL := ⟨_, rfl⟩
    rw [hTL] at Hpost htl hti
    have Hti := hide hti
    have Htl := hide htl
    have Hbl := hide ((Below.refl w.heap.size w).alloc (Nat.le_refl _) (.cells #[.int .i64 c.st, .int .i64 c.f, .int .i64 c.s, .int .i64 c.n] 24))
    have Hkc := hide (Bk.new w 24 #[.int .i64 c.st, .int .i64 c.f, .int .i64 c.s, .int .i64 c.n])
    obtain ⟨atc, hatc⟩ : ∃ a, atC c = a := ⟨_, rfl⟩
    rw [hatc] at Hat Hti
    clear hv hin htl hti hTL hatc hN
    obtain ⟨st, f, s, n⟩ := c
    simp only at hNi
    subst hNi
    unfold CV at Hv Hat ⊢
    simp only at *
    have hN4 : N ≤ 4096 := by omega
    have hN1 : 1 ≤ N := by omega
    clear n1 n2
    go_enter Tryz.func12, Tryz.ntmps12
    go_wp2_with fail
    refine (Hv.out _).mono ?_
    rintro x w1 ⟨rfl, hb⟩
    have Hb1 := hide (Hbl.out.trans (hb.mono Hbl.out.size))
    have Hk1 := hide (Hkc.out.below hb Hkc.out.lt)
    clear hb Hbl Hkc Hv
    have hmk := mk_row (P := Tryz.prog) 22 3 _ _ Tryz.underlying22 intinf rfl (N : Int) N rfl (by omega) (by omega) w1
    rw [ica_replicate] at hmk
    have Hk0 := hide (Bk.new w1 3 (ica (List.replicate N 0)))
    have Hb0 := hide (Hb1.out.alloc Hb1.out.size (.cells (ica (List.replicate N 0)) 3))
    have Hkc0 := hide (Hk1.out.alloc (.cells (ica (List.replicate N 0)) 3))
    have Hle := hide Hb1.out.size
    have k0 := Hk1.out.cell 0
    have k1 := Hk1.out.cell 1
    have k2 := Hk1.out.cell 2
    have k3 := Hk1.out.cell 3
    have klt := Hk1.out.lt
    have Hlt := hide klt
    simp at k0 k1 k2 k3
    go_wp2
    clear k0 k1 k2 k3 klt hmk Hk1 Hb1
    go_loopw [14] (fun s14 wr => ∃ i : Nat, i ≤ N ∧ s14 = .int .i64 (i : Int) ∧ Hid (Bk wr w1.heap.size 3 (ica (TL.take i ++ List.replicate (N - i) 0))) ∧ Hid (Bk wr w.heap.size 24 #[.int .i64 st, .int .i64 f, .int .i64 s, .int .i64 (N : Int)]) ∧ Hid (Below w.heap.size w wr)) (fun s14 _ => (N - intOf s14).toNat)
    case atStart => exact ⟨0, Nat.zero_le _, rfl, hide (by simpa using Hk0.out), Hkc0, Hb0⟩
    case round =>
      obtain ⟨i, hi, rfl, hbk, hkc, hb⟩ := hrel
      by_cases hlt : i < N
      · have hlti : (i : Int) < (N : Int) := by omega
        have Hati := hide (Hat.out i (by omega))
        obtain ⟨T, hT⟩ : ∃ T, atc i = T := ⟨_, rfl⟩
        have hTi := Hti.out i hlt
        rw [hT] at Hati hTi
        have hst : TL.take (i + 1) = TL.take i ++ [T] := by
          have hl : (TL.take i).length = i := by rw [List.length_take, Htl.out]; omega
          conv => lhs; rw [hTi]
          rw [List.take_append, hl, show i + 1 - i = 1 by omega, List.take_of_length_le (by rw [hl]; omega)]
          rfl
        have k0 := hkc.out.cell 0
        have k1 := hkc.out.cell 1
        have k2 := hkc.out.cell 2
        have k3 := hkc.out.cell 3
        simp at k0 k1 k2 k3
        have Hst := hide hst
        clear hTi hT hst
        go_wp2_with fail
        refine (Hati.out _).mono ?_
        rintro x w2 ⟨rfl, hb2⟩
        have hbk2 := hbk.out.below hb2 hbk.out.lt
        have hkc2 := hkc.out.below hb2 hkc.out.lt
        have hbw2 := hb.out.trans (hb2.mono hb.out.size)
        have hput := hbk2.put i (.int .i64 T)
        have hl : (TL.take i).length = i := by rw [List.length_take, Htl.out]; omega
        rw [ica_set, show N - i = (N - (i + 1)) + 1 by omega, List.replicate_succ, List.set_append_right _ _ (by rw [hl]; exact Nat.le_refl _), hl, Nat.sub_self, List.set_cons_zero] at hput
        have Hput : Hid (Bk (w2.setCell ⟨w1.heap.size, i, none⟩ (.int .i64 T)) w1.heap.size 3 (ica (TL.take (i + 1) ++ List.replicate (N - (i + 1)) 0))) := hide (by rw [Hst.out, List.append_assoc]; exact hput)
        have Hbb := hide (hbw2.setCell (p := ⟨w1.heap.size, i, none⟩) Hle.out (.int .i64 T))
        have Hkk := hide (hkc2.off (p := ⟨w1.heap.size, i, none⟩) (by show w.heap.size ≠ w1.heap.size; have := Hlt.out; omega) (.int .i64 T))
        obtain ⟨y0, hck⟩ : ∃ y : Int, w2.cell? ⟨w1.heap.size, i, none⟩ = some (.int .i64 y) := ⟨_, by rw [hbk2.cell, ica_get _ _ (by rw [List.length_append, hl, List.length_replicate]; omega)]⟩
        have hfk := hbk2.frozen i
        clear k0 k1 k2 k3 hput hbk2 hkc2 hbw2 hb2 hbk hkc hb hl
        go_wp2
        refine ⟨⟨i + 1, hlt, by go_num, Hput, Hkk, Hbb⟩, ?_⟩
        simp [intOf] <;> omega
      · have hiN : i = N := by omega
        subst hiN
        have Hfin : Hid (Bk wr w1.heap.size 3 (ica TL)) := hide (by
          have := hbk.out
          rw [Nat.sub_self, List.replicate_zero, List.append_nil, List.take_of_length_le (by rw [Htl.out]; exact Nat.le_refl _)] at this
          exact this)
        clear hbk
        go_wp2
        go_ret2
        exact (Hpost.out _ _).2 ⟨_, rfl, Hfin.out, Hle.out, hb.out⟩
end Go.Proofs.YtgllednilkfpgaaGreat
/-
  The walks over times: what a clock misses, and the times that it does not have.
-/
namespace Go.Proofs.YtgllednilkfpgaaGreat
open Go.RowKit Go.Proofs Wv Wv.Vi Wv.Rc Wv.Mo Wv.Ru Wv.Tm
set_option linter.unusedVariables false

theorem tsearch_any {w : World} {A : Option Addr} {l : List Int} (ha : At w A (ivs l)) (n cap : Nat) (hn : n = l.length) (hn4 : n ≤ 1000000) (hs : l.Pairwise (· < ·)) (x : Int) :
    Calls Tryz.prog 41 #[.slice A n cap, .int .i64 x] w fun e w' => (∃ p : Int, e = .returned (.tuple #[.int .i64 p, .bool (l.contains x)])) ∧ ∃ q, w' = w.drewN q := by
  by_cases h0 : n = 0
  · subst h0
    have hl : l = [] := List.eq_nil_of_length_eq_zero hn.symm
    subst hl
    exact (Tryz.slices_BinarySearch_int_empty A cap x w).mono fun e w' ⟨h1, h2⟩ => ⟨⟨0, h1⟩, 0, h2⟩
  · obtain ⟨b, o, rfl, hb, _⟩ := ha 0 (by simp [ivs]; omega)
    refine (Tryz.slices_BinarySearch_int b o n cap l x w (by omega) (by omega) (fun j hj => ?_) ?_).mono fun e w' ⟨h1, h2⟩ => ⟨⟨_, by rw [List.take_of_length_le (by omega)] at h1; exact h1⟩, h2⟩
    · obtain ⟨b', o', hA, hb', hc⟩ := ha j (by simpa [ivs] using hj)
      injection hA with hA
      injection hA with hA1 hA2
      subst hA1; subst hA2
      rw [hc]
      simp [ivs, iv, hj]
    · rw [List.take_of_length_le (by omega)]
      exact hs.imp (fun h => Int.le_of_lt h)
/-- What Exceptions gives back. -/
def ExRes (w : World) (r : Option (List Int × List Int)) (x : Ending) (w' : World) : Prop := match r with
  | some (m, f) => ∃ v1 v2, x = .returned (.tuple #[v1, v2, .int .i64 0]) ∧ IRes w' v1 m ∧ IRes w' v2 f ∧ Below w.heap.size w w'
  | none => x = .returned (.tuple #[.slice none 0 0, .slice none 0 0, .int .i64 1]) ∧ Below w.heap.size w w'
def missP (c : Clk) (l : List Int) (i : Nat) : List Int := ((List.range i).filter (fun i => !l.contains (atC c i))).map Int.ofNat
theorem missP_succ (c : Clk) (l : List Int) (i : Nat) : missP c l (i + 1) = if l.contains (atC c i) = true then missP c l i else missP c l i ++ [(i : Int)] := by
  unfold missP
  rw [List.range_succ, List.filter_append, List.map_append]
  by_cases h : l.contains (atC c i) = true
  · rw [if_pos h, List.filter_cons, h]; simp
  · rw [if_neg h]
    simp only [Bool.not_eq_true] at h
    rw [List.filter_cons, h]
    rfl
theorem missP_len (c : Clk) (l : List Int) (i : Nat) : (missP c l i).length ≤ i := by
  unfold missP
  rw [List.length_map]
  have h1 := List.length_filter_le (fun i => !l.contains (atC c i)) (List.range i)
  rw [List.length_range] at h1
  exact h1
theorem ires_own {w : World} {base n : Nat} {v : Value} {l : List Int} (h : w.ownsRow base 3 1 v n (ivs l)) (hn : n = l.length) : IRes w v l := by
  obtain ⟨A, cap, hv, hat⟩ := own_at h
  exact ⟨A, cap, by rw [hv, hn], hat⟩
theorem IRes.bel {w w' : World} {v : Value} {l : List Int} (h : IRes w v l) (hb : Below w.heap.size w w') : IRes w' v l := by
  obtain ⟨A, cap, hv, hat⟩ := h
  exact ⟨A, cap, hv, hat.below hb⟩
set_option maxRecDepth 10000 in
set_option maxHeartbeats 2000000 in
theorem texc_any {w : World} {A : Option Addr} {l : List Int} (c : Clk) (ha : At w A (ivs l)) (n cap : Nat) (hn : n = l.length) (hn4 : n ≤ 9223372036854775807) :
    Calls Tryz.prog 14 #[CV c, .slice A n cap] w fun x w' => ExRes w (excT c l) x w' := by
  have Ht := hide (fun W => ttimes_any c W)
  have Ha := hide ha
  have Hn := hide hn
  have Hb0 := hide ((Below.refl w.heap.size w).alloc (Nat.le_refl _) (.cells #[.int .i64 c.st, .int .i64 c.f, .int .i64 c.s, .int .i64 c.n] 24))
  have hex : excT c l = if vclk c = true ∧ validT l = true then some (missL c l, furL c l) else none := rfl
  cases hv : vclk c with
  | false =>
    rw [hv, if_neg (by simp)] at hex
    rw [hex]
    have Ht2 : Hid (∀ W, Calls Tryz.prog 12 #[CV c] W fun x w' => x = .returned (.tuple #[.slice none 0 0, .int .i64 1]) ∧ Below W.heap.size W w') := hide (fun W => (Ht.out W).mono fun x w' h => by unfold TmRes at h; rw [if_neg (by rw [hv]; simp)] at h; exact h)
    clear hex hv Ht ha hn
    obtain ⟨st, f, s, cn⟩ := c
    unfold CV at Ht2 ⊢
    simp only at *
    go_enter Tryz.func14, Tryz.ntmps14
    go_wp2_with fail
    refine (Ht2.out _).mono ?_
    rintro x w1 ⟨rfl, hb⟩
    have Hb1 := hide (Hb0.out.trans (hb.mono Hb0.out.size))
    clear hb
    go_wp2
    go_ret3
    exact ⟨rfl, Hb1.out⟩
  | true =>
    obtain ⟨hin, _⟩ := vclk_iff.1 hv
    have Ht2 : Hid (∀ W, Calls Tryz.prog 12 #[CV c] W fun x w' => (∃ g, x = .returned (.tuple #[.slice (some ⟨g, 0, none⟩) c.n.toNat c.n.toNat, .int .i64 0]) ∧ Bk w' g 3 (ica (timesL c)) ∧ W.heap.size ≤ g ∧ Below W.heap.size W w')) := hide (fun W => (Ht.out W).mono fun x w' h => by unfold TmRes at h; rw [if_pos hv] at h; exact h)
    have n1 := hin.1
    have n2 := hin.2.1
    have htl := timesL_length c
    have hts := timesL_sorted hin
    have htg : ∀ i, i < c.n.toNat → (timesL c)[i]? = some (atC c i) := fun i h => by simp [timesL, h]
    have hmN : missL c l = missP c l c.n.toNat := rfl
    have Hval := hide (fun W (h : Below w.heap.size w W) => tvalid_any (ha.below h) n cap hn hn4)
    cases hl : validT l with
    | false =>
      rw [hv, hl, if_neg (by simp)] at hex
      rw [hex]
      rw [hl] at Hval
      clear hex hv Ht ha hn hin hl htl hts htg hmN
      obtain ⟨st, f, s, cn⟩ := c
      unfold CV at Ht2 ⊢
      simp only at *
      go_enter Tryz.func14, Tryz.ntmps14
      go_wp2_with fail
      refine (Ht2.out _).mono ?_
      rintro x w1 ⟨g, rfl, hg, hgw, hb⟩
      have Hb1 := hide (Hb0.out.trans (hb.mono Hb0.out.size))
      clear hb hg hgw
      go_wp2_with fail
      refine (Hval.out _ Hb1.out).mono ?_
      rintro x w2 ⟨rfl, rfl⟩
      go_wp2
      go_ret3
      exact ⟨rfl, Hb1.out⟩
    | true =>
      rw [hv, hl, if_pos ⟨rfl, rfl⟩, hmN] at hex
      rw [hex]
      rw [hl] at Hval
      obtain ⟨v1, v2, v3⟩ := validT_iff.1 hl
      have hn6 : n ≤ 4096 := by omega
      have hms := fun i => missP_succ c l i
      have hml := fun i => missP_len c l i
      have hfur : furL c l = l.filter (fun t => !(timesL c).contains t) := rfl
      rw [hfur]
      obtain ⟨N, hN⟩ : ∃ N, c.n.toNat = N := ⟨_, rfl⟩
      rw [hN] at htl htg Ht2 ⊢
      obtain ⟨TL, hTL⟩ : ∃ TL, timesL c = TL := ⟨_, rfl⟩
      rw [hTL] at htl hts htg Ht2 ⊢
      obtain ⟨mp, hmp⟩ : ∃ mp, missP c l = mp := ⟨_, rfl⟩
      rw [hmp] at hms hml ⊢
      obtain ⟨atc, hatc⟩ : ∃ a, atC c = a := ⟨_, rfl⟩
      rw [hatc] at hms htg
      have hm0 : mp 0 = [] := by rw [← hmp]; rfl
      have Hm0 := hide hm0
      have Hms := hide hms
      have Hml := hide hml
      have Htl := hide htl
      have Hts := hide hts
      have Htg := hide htg
      have Hls := hide v1
      have hN4 : N ≤ 4096 := by omega
      clear hex hv Ht ha hn hin hl htl hts htg hmN v1 v2 v3 hms hml hfur hN hTL hmp hatc hm0 n1 n2
      obtain ⟨st, f, s, cn⟩ := c
      unfold CV at Ht2 ⊢
      simp only at *
      go_enter Tryz.func14, Tryz.ntmps14
      go_wp2_with fail
      refine (Ht2.out _).mono ?_
      rintro x w1 ⟨g, rfl, hg, hgw, hb⟩
      have Hb1 := hide (Hb0.out.trans (hb.mono Hb0.out.size))
      have Hat1 := hide (ica_at hg)
      clear hb hg hgw Hb0
      go_wp2_with fail
      refine (Hval.out _ Hb1.out).mono ?_
      rintro x w2 ⟨rfl, rfl⟩
      have Hal := hide (Ha.out.below Hb1.out)
      clear Hval Ht2
      go_upto_region 5 with fail
      go_wp2
      go_loopw [9, 33] (fun s9 s33 wr => ∃ i : Nat, i ≤ N ∧ s33 = .int .i64 (i : Int) ∧ Hid (wr.ownsRow w1.heap.size 3 1 s9 (mp i).length (ivs (mp i))) ∧ Hid (Below w1.heap.size w1 wr)) (fun _ s33 _ => (N - intOf s33).toNat)
      case atStart => exact ⟨0, Nat.zero_le _, rfl, hide (by rw [Hm0.out]; exact own_nil), hide (Below.refl _ _)⟩
      case round =>
        obtain ⟨i, hi, rfl, hown, hbr⟩ := hrel
        have hat2 := Hat1.out.below hbr.out
        have hal2 := Hal.out.below hbr.out
        by_cases hlt : i < N
        · have hti := Htg.out i hlt
          obtain ⟨T, hT⟩ : ∃ T, atc i = T := ⟨_, rfl⟩
          have hms := Hms.out i
          rw [hT] at hti hms
          have hgetT : (ivs TL)[i]? = some (.int .i64 T) := by unfold ivs; rw [List.getElem?_map, hti]; rfl
          obtain ⟨b', o', hA, hb', hc⟩ := hat2.get i _ hgetT
          injection hA with hA
          injection hA with hA1 hA2
          subst hA1; subst hA2
          rw [Nat.zero_add] at hc
          have Hse := hide (tsearch_any hal2 n cap Hn.out (by omega) Hls.out T)
          have hlti : (i : Int) < (N : Int) := by omega
          have hml := Hml.out i
          have Hlen := hide hml
          cases hco : l.contains T with
          | true =>
            rw [hco] at Hse hms
            rw [if_pos rfl] at hms
            have Hms2 := hide hms
            clear hti hT hms hgetT hat2 hal2 hb' hml hco
            go_wp2_with fail
            refine (Hse.out).mono ?_
            rintro x w3 ⟨⟨p, rfl⟩, q, rfl⟩
            go_wp2
            refine ⟨⟨i + 1, hlt, by go_num, hide (by rw [Hms2.out]; exact hown.out), hide (bdN hbr.out q)⟩, ?_⟩
            simp [intOf] <;> omega
          | false =>
            rw [hco] at Hse hms
            rw [if_neg (by simp)] at hms
            have Hms2 := hide hms
            clear hti hT hms hgetT hat2 hal2 hb' hco
            go_wp2_with fail
            refine (Hse.out).mono ?_
            rintro x w3 ⟨⟨p, rfl⟩, q, rfl⟩
            obtain ⟨v', w4, hrun, hown1, hf1, _⟩ := app_own (P := Tryz.prog) 22 3 _ _ Tryz.underlying22 intinf rfl (w := wr.drewN q) hown.out (bdN hbr.out q) hbr.out.size (.int .i64 (i : Int)) rfl (by unfold maxLen; omega) (by omega)
            have Hrun := hide hrun
            have Hown1 : Hid (w4.ownsRow w1.heap.size 3 1 v' (mp (i + 1)).length (ivs (mp (i + 1)))) := hide (by
              rw [Hms2.out, List.length_append, ivs_snoc]
              exact hown1)
            have Hf1 := hide hf1
            clear hrun hown1 hf1 hown hbr hml
            go_wp2_with (
              at_builtin
              refine wpList_run (by with_reducible rfl) rfl _ _ _ rfl _ _ (by rfl) (by rfl) Hrun.out ?_)
            refine ⟨⟨i + 1, hlt, by go_num, Hown1, Hf1⟩, ?_⟩
            simp [intOf] <;> omega
        · have hiN : i = N := by omega
          subst hiN
          obtain ⟨W5, rfl⟩ : ∃ W, W = wr := ⟨_, rfl⟩
          obtain ⟨A9, cap9, hv9, hat9⟩ := own_at hown.out
          subst hv9
          have Hat9 := hide hat9
          have Hal2 := hide hal2
          have Hat2 := hide hat2
          have Hbw := hide (Hb1.out.trans (hbr.out.mono Hb1.out.size))
          have Hl0 := hide (show l.filter (fun t => !TL.contains t) = (l.take n).filter (fun t => !TL.contains t) by rw [List.take_of_length_le (by rw [Hn.out]; exact Nat.le_refl _)])
          clear hat9 hal2 hat2 hown hbr Hat1 Hal Hb1 Hm0 Hms Htg Hml
          go_wp2
          go_loopw [10, 53] (fun s10 s53 wx => ∃ k : Nat, k ≤ n ∧ s53 = .int .i64 (k : Int) ∧ Hid (wx.ownsRow W5.heap.size 3 1 s10 ((l.take k).filter (fun t => !TL.contains t)).length (ivs ((l.take k).filter (fun t => !TL.contains t)))) ∧ Hid (Below W5.heap.size W5 wx)) (fun _ s53 _ => (n - intOf s53).toNat)
          case atStart => exact ⟨0, Nat.zero_le _, rfl, hide own_nil, hide (Below.refl _ _)⟩
          case round =>
            obtain ⟨k, hk, rfl, hown, hbx⟩ := hrel
            have hat3 := Hat2.out.below hbx.out
            have hal3 := Hal2.out.below hbx.out
            by_cases hlt : k < n
            · have hkl : k < l.length := by rw [← Hn.out]; exact hlt
              have hget := ivs_at l k hkl
              have hT2 : l.take (k + 1) = l.take k ++ [l[k]] := List.take_succ_eq_append_getElem hkl
              obtain ⟨T, hT⟩ : ∃ T, l[k] = T := ⟨_, rfl⟩
              rw [hT] at hget hT2
              obtain ⟨b', o', hA, hb', hc⟩ := hal3.get k _ hget
              subst hA
              have Hse := hide (tsearch_any hat3 i i Htl.out.symm (by omega) Hts.out T)
              have hlti : (k : Int) < (n : Int) := by omega
              have Hfl : Hid (((l.take k).filter (fun t => !TL.contains t)).length ≤ 4096) := hide (by
                have h1 := List.length_filter_le (fun t => !TL.contains t) (l.take k)
                rw [List.length_take] at h1
                omega)
              cases hco : TL.contains T with
              | true =>
                rw [hco] at Hse
                have Hms2 : Hid ((l.take (k + 1)).filter (fun t => !TL.contains t) = (l.take k).filter (fun t => !TL.contains t)) := hide (by
                  rw [hT2, List.filter_append, List.filter_cons, hco]
                  simp)
                clear hT hget hT2 hat3 hal3 hb' hco hkl
                go_wp2_with fail
                refine (Hse.out).mono ?_
                rintro x w3 ⟨⟨p, rfl⟩, q, rfl⟩
                go_wp2
                refine ⟨⟨k + 1, hlt, by go_num, hide (by rw [Hms2.out]; exact hown.out), hide (bdN hbx.out q)⟩, ?_⟩
                simp [intOf] <;> omega
              | false =>
                rw [hco] at Hse
                have Hms2 : Hid ((l.take (k + 1)).filter (fun t => !TL.contains t) = (l.take k).filter (fun t => !TL.contains t) ++ [T]) := hide (by
                  rw [hT2, List.filter_append, List.filter_cons, hco]
                  rfl)
                clear hT hget hT2 hat3 hal3 hb' hco hkl
                go_wp2_with fail
                refine (Hse.out).mono ?_
                rintro x w3 ⟨⟨p, rfl⟩, q, rfl⟩
                have hfl := Hfl.out
                obtain ⟨v', w4, hrun, hown1, hf1, _⟩ := app_own (P := Tryz.prog) 22 3 _ _ Tryz.underlying22 intinf rfl (w := wr.drewN q) hown.out (bdN hbx.out q) hbx.out.size (.int .i64 T) rfl (by unfold maxLen; omega) (by omega)
                have Hrun := hide hrun
                have Hown1 : Hid (w4.ownsRow W5.heap.size 3 1 v' ((l.take (k + 1)).filter (fun t => !TL.contains t)).length (ivs ((l.take (k + 1)).filter (fun t => !TL.contains t)))) := hide (by
                  rw [Hms2.out, List.length_append, ivs_snoc]
                  exact hown1)
                have Hf1 := hide hf1
                clear hrun hown1 hf1 hown hbx hfl
                go_wp2_with (
                  at_builtin
                  refine wpList_run (by with_reducible rfl) rfl _ _ _ rfl _ _ (by rfl) (by rfl) Hrun.out ?_)
                refine ⟨⟨k + 1, hlt, by go_num, Hown1, Hf1⟩, ?_⟩
                simp [intOf] <;> omega
            · have hkn : k = n := by omega
              subst hkn
              have Hr2 := hide (ires_own hown.out rfl)
              have Hr1 : Hid (IRes wr (.slice A9 (mp i).length cap9) (mp i)) := hide ⟨A9, cap9, rfl, Hat9.out.below hbx.out⟩
              have Hbf := hide (Hbw.out.trans (hbx.out.mono Hbw.out.size))
              clear hat3 hal3 hown hbx
              go_wp2
              go_ret3
              exact ⟨_, _, rfl, Hr1.out, by rw [Hl0.out]; exact Hr2.out, Hbf.out⟩
end Go.Proofs.YtgllednilkfpgaaGreat
