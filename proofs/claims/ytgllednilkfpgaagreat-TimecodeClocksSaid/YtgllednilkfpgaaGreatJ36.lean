/-
  Joined texts: Na, Nb, Nc, Nd, Ne.
-/
import Derived.Test.YtgllednilkfpgaaGreatJ33
import Derived.Test.YtgllednilkfpgaaGreatJ14
set_option linter.unusedVariables false
set_option linter.unusedSimpArgs false
/-
  The walks over the reference of times: whether times are valid, whether a list holds a number.
-/
namespace Go.Proofs.YtgllednilkfpgaaGreat
open Go.RowKit Go.Proofs Wv Wv.Vi Wv.Rc Wv.Mo Wv.Ru Wv.Tm
set_option linter.unusedVariables false

set_option maxRecDepth 10000 in
set_option maxHeartbeats 1000000 in
theorem nvalid_any {w : World} {A : Option Addr} {l : List Int} (ha : At w A (ivs l)) (n cap : Nat) (hn : n = l.length) (hn4 : n ≤ 9223372036854775807) :
    Calls Tryz.prog 17 #[.slice A n cap] w fun x w' => x = .returned (.bool (validT l)) ∧ ∃ q, w' = w.drewN q := by
  have Ha := hide ha
  have Hn := hide hn
  obtain ⟨V, hV⟩ : ∃ V, validT l = V := ⟨_, rfl⟩
  have HV : Hid (V = (tv (-1) l && decide (l.length ≤ 4096))) := hide hV.symm
  rw [hV]
  clear ha hn hV
  go_enter Tryz.func17, Tryz.ntmps17
  go_wp2
  go_loopw [3] (fun s3 wr => ∃ (i : Nat) (last : Int), i ≤ n ∧ -1 ≤ last ∧ s3 = .int .i64 (i : Int) ∧ Hid (tv (-1) l = tv last (l.drop i)) ∧ Hid ((i = 0 → last = -1) ∧ ∀ j, i = j + 1 → (ivs l)[j]? = some (.int .i64 last)) ∧ ∃ q, wr = w.drewN q) (fun s3 _ => (n - intOf s3).toNat)
  case atStart => exact ⟨0, -1, Nat.zero_le _, by omega, rfl, hide rfl, hide ⟨fun _ => rfl, fun j h => by omega⟩, 0, rfl⟩
  case round =>
    obtain ⟨i, last, hi, hl1, rfl, htv, hlast, q, rfl⟩ := hrel
    by_cases hlt : i < n
    · have hil : i < l.length := by rw [← Hn.out]; exact hlt
      have hd : l.drop i = l[i] :: l.drop (i + 1) := List.drop_eq_getElem_cons hil
      have hget := ivs_at l i hil
      obtain ⟨x, hx⟩ : ∃ x, l[i] = x := ⟨_, rfl⟩
      rw [hx] at hd hget
      obtain ⟨b, o, hA, hb, hc0⟩ := Ha.out.get i _ hget
      subst hA
      have Hget := hide hget
      have ht1 := htv.out
      rw [hd] at ht1
      have ht2 : tv (-1) l = (decide (last < x) && decide (x ≤ 1099511627776) && tv x (l.drop (i + 1))) := ht1
      have hlti0 : (0 : Int) ≤ (i : Int) := by omega
      have hlti : (i : Int) < (n : Int) := by omega
      by_cases h1 : x < 0
      · have Hv : Hid (V = false) := hide (by rw [HV.out, ht2, decide_eq_false (show ¬ last < x by omega)]; rfl)
        have hd1 : decide (x < 0) = true := decide_eq_true h1
        clear hil hd hget hx ht1 ht2 htv hlast h1
        go_wp2
        go_quiet (fail)
        go_wp2
        go_ret
        exact ⟨ret_bool Hv.out.symm, q + nq, by first | rfl | rw [World.drewN_drewN]⟩
      · have hd1 : decide (x < 0) = false := decide_eq_false h1
        by_cases h2 : 1099511627776 < x
        · have Hv : Hid (V = false) := hide (by rw [HV.out, ht2, decide_eq_false (show ¬ x ≤ 1099511627776 by omega), Bool.and_false]; rfl)
          have hd2 : decide (1099511627776 < x) = true := decide_eq_true h2
          clear hil hd hget hx ht1 ht2 htv hlast h1 h2
          go_wp2
          go_quiet (fail)
          go_wp2
          go_ret
          exact ⟨ret_bool Hv.out.symm, q + nq, by first | rfl | rw [World.drewN_drewN]⟩
        · have hd2 : decide (1099511627776 < x) = false := decide_eq_false h2
          have Hn1 : Hid ((i + 1 = 0 → x = -1) ∧ ∀ j, i + 1 = j + 1 → (ivs l)[j]? = some (.int .i64 x)) := hide ⟨fun h => by omega, fun j h => by rw [← Nat.succ.inj h]; exact Hget.out⟩
          rcases Nat.eq_zero_or_pos i with h0 | h0
          · have hd3 : decide ((0 : Int) < (i : Int)) = false := decide_eq_false (by omega)
            have hd4 : decide (0 < i) = false := decide_eq_false (by omega)
            have hla := hlast.out.1 h0
            have Hv : Hid (tv (-1) l = tv x (l.drop (i + 1))) := hide (by rw [ht2, decide_eq_true (show last < x by omega), decide_eq_true (show x ≤ 1099511627776 by omega)]; rfl)
            have hx1 : -1 ≤ x := by omega
            clear hil hd hget hx ht1 ht2 htv hlast h1 h2 h0 hla
            go_wp2
            go_quiet (fail)
            go_wp2
            refine ⟨⟨i + 1, x, by omega, hx1, by go_num, Hv, Hn1, q + nq, by first | rfl | rw [World.drewN_drewN]⟩, ?_⟩
            simp [intOf] <;> omega
          · have hd3 : decide ((0 : Int) < (i : Int)) = true := decide_eq_true (by omega)
            have hd4 : decide (0 < i) = true := decide_eq_true (by omega)
            obtain ⟨j, hj⟩ : ∃ j, i - 1 = j := ⟨_, rfl⟩
            have hij : i = j + 1 := by omega
            have ik : (i : Int) - 1 = (j : Int) := by omega
            obtain ⟨b', o', hA', hb', hc1⟩ := Ha.out.get j _ (hlast.out.2 j hij)
            injection hA' with hA'
            injection hA' with hA1 hA2
            subst hA1; subst hA2
            have hj0 : (0 : Int) ≤ (j : Int) := by omega
            have hj1 : (j : Int) < (n : Int) := by omega
            by_cases h3 : x ≤ last
            · have hd5 : decide (x ≤ last) = true := decide_eq_true h3
              have Hv : Hid (V = false) := hide (by rw [HV.out, ht2, decide_eq_false (show ¬ last < x by omega)]; rfl)
              clear hil hd hget hx ht1 ht2 htv hlast h1 h2 h3 h0 hj hij
              go_wp2
              go_quiet (fail)
              go_wp2
              go_ret
              exact ⟨ret_bool Hv.out.symm, q + nq, by first | rfl | rw [World.drewN_drewN]⟩
            · have hd5 : decide (x ≤ last) = false := decide_eq_false h3
              have Hv : Hid (tv (-1) l = tv x (l.drop (i + 1))) := hide (by rw [ht2, decide_eq_true (show last < x by omega), decide_eq_true (show x ≤ 1099511627776 by omega)]; rfl)
              have hx1 : -1 ≤ x := by omega
              clear hil hd hget hx ht1 ht2 htv hlast h1 h2 h3 h0 hj hij
              go_wp2
              go_quiet (fail)
              go_wp2
              refine ⟨⟨i + 1, x, by omega, hx1, by go_num, Hv, Hn1, q + nq, by first | rfl | rw [World.drewN_drewN]⟩, ?_⟩
              simp [intOf] <;> omega
    · have hiN : i = n := by omega
      have ht1 := htv.out
      rw [List.drop_eq_nil_of_le (by rw [← Hn.out]; omega)] at ht1
      have Hv : Hid (V = decide (n ≤ 4096)) := hide (by rw [HV.out, ht1, Hn.out]; rfl)
      subst hiN
      clear ht1 htv hlast
      go_wp2
      go_ret
      exact ⟨ret_bool (by rw [Hv.out]; simp; omega), q, rfl⟩
set_option maxHeartbeats 1000000 in
theorem nhas_any {w : World} {A : Option Addr} {l : List Int} (ha : At w A (ivs l)) (n cap : Nat) (hn : n = l.length) (hn4 : n ≤ 9223372036854775807) (x : Int) :
    Calls Tryz.prog 42 #[.slice A n cap, .int .i64 x] w fun r w' => r = .returned (.bool (l.contains x)) ∧ w = w' := by
  have Ha := hide ha
  have Hn := hide hn
  obtain ⟨V, hV⟩ : ∃ V, l.contains x = V := ⟨_, rfl⟩
  have HV := hide hV
  rw [hV]
  clear ha hn hV
  go_enter Tryz.func42, Tryz.ntmps42
  go_wp2
  go_loopw [5] (fun s3 wr => ∃ (i : Nat), i ≤ n ∧ s3 = .int .i64 (i : Int) ∧ Hid (l.contains x = (l.drop i).contains x) ∧ wr = w) (fun s3 _ => (n - intOf s3).toNat)
  case atStart => exact ⟨0, Nat.zero_le _, rfl, hide rfl, rfl⟩
  case round =>
    obtain ⟨i, hi, rfl, htv, rfl⟩ := hrel
    by_cases hlt : i < n
    · have hil : i < l.length := by rw [← Hn.out]; exact hlt
      have hd : l.drop i = l[i] :: l.drop (i + 1) := List.drop_eq_getElem_cons hil
      have hget := ivs_at l i hil
      obtain ⟨y, hx⟩ : ∃ x, l[i] = x := ⟨_, rfl⟩
      rw [hx] at hd hget
      obtain ⟨b, o, hA, hb, hc0⟩ := Ha.out.get i _ hget
      subst hA
      have ht1 := htv.out
      rw [hd, List.contains_cons] at ht1
      have hlti0 : (0 : Int) ≤ (i : Int) := by omega
      have hlti : (i : Int) < (n : Int) := by omega
      by_cases h1 : y = x
      · have Hv : Hid (V = true) := hide (by rw [← HV.out, ht1, h1]; simp)
        have hd1 : (y == x) = true := by rw [h1]; simp
        clear hil hd hget hx ht1 htv
        subst h1
        go_wp2
        go_ret
        exact ⟨ret_bool Hv.out.symm, rfl⟩
      · have Hv : Hid (l.contains x = (l.drop (i + 1)).contains x) := hide (by rw [ht1, beq_eq_false_iff_ne.2 (fun e => h1 e.symm)]; rfl)
        have hd1 : (y == x) = false := beq_eq_false_iff_ne.2 h1
        clear hil hd hget hx ht1 htv h1
        go_wp2
        refine ⟨⟨i + 1, by omega, by go_num, Hv, by first | trivial | rfl⟩, ?_⟩
        simp [intOf] <;> omega
    · have ht1 := htv.out
      rw [List.drop_eq_nil_of_le (by rw [← Hn.out]; omega)] at ht1
      have Hv : Hid (V = false) := hide (by rw [← HV.out, ht1]; rfl)
      clear ht1 htv
      go_wp2
      go_ret
      exact ⟨ret_bool Hv.out.symm, rfl⟩
end Go.Proofs.YtgllednilkfpgaaGreat
/-
  The walks over the reference of times: gaps.
-/
namespace Go.Proofs.YtgllednilkfpgaaGreat
open Go.RowKit Go.Proofs Wv Wv.Vi Wv.Rc Wv.Mo Wv.Ru Wv.Tm
set_option linter.unusedVariables false

theorem ivs_snoc1 (a : List Int) (x : Int) : ivs (a ++ [x]) = ivs a ++ [.int .i64 x] := by simp [ivs, iv]
set_option maxRecDepth 100000 in
set_option maxHeartbeats 2000000 in
theorem ngaps_any {w : World} {A : Option Addr} {l : List Int} (ha : At w A (ivs l)) (n cap : Nat) (hn : n = l.length) (hv : validT l = true) :
    Calls Tryz.prog 52 #[.slice A n cap] w fun x w' => ∃ v, x = .returned v ∧ IRes w' v (gapsT l) ∧ Below w.heap.size w w' := by
  obtain ⟨v1, v2, v3⟩ := validT_iff.1 hv
  have hn4 : n ≤ 4096 := by omega
  have Ha := hide ha
  have Hn := hide hn
  have Hv2 := hide v2
  have Hlen : Hid ((gapsT l).length = n) := hide (by unfold gapsT; rw [gp_length, hn])
  have ho0 := hide (own_made0 3 w)
  have hb0 := hide ((Below.refl w.heap.size w).alloc (Nat.le_refl _) (.cells #[] 3))
  clear ha hn hv v1 v2 v3
  go_enter Tryz.func52, Tryz.ntmps52
  go_wp2
  go_loopw [3, 4] (fun s3 s4 wr => ∃ (i : Nat) (last : Int) (G : List Int), i ≤ n ∧ -1 ≤ last ∧ last ≤ 1099511627776 ∧ s4 = .int .i64 (i : Int) ∧ Hid (gapsT l = G ++ gp last (l.drop i)) ∧ Hid (G.length = i) ∧ Hid ((i = 0 → last = -1) ∧ ∀ j, i = j + 1 → (ivs l)[j]? = some (.int .i64 last)) ∧ Hid (wr.ownsRow w.heap.size 3 1 s3 i (ivs G)) ∧ Hid (Below w.heap.size w wr)) (fun _ s4 _ => (n - intOf s4).toNat)
  case atStart => exact ⟨0, -1, [], Nat.zero_le _, by omega, by omega, rfl, hide rfl, hide rfl, hide ⟨fun _ => rfl, fun j h => by omega⟩, ho0, hb0⟩
  case round =>
    clear ho0 hb0
    obtain ⟨i, last, G, hi, hl1, hl2, rfl, hG, hGl, hlast, hown, hb⟩ := hrel
    by_cases hlt : i < n
    · have hil : i < l.length := by rw [← Hn.out]; exact hlt
      have hd : l.drop i = l[i] :: l.drop (i + 1) := List.drop_eq_getElem_cons hil
      have hget := ivs_at l i hil
      have hx2 := Hv2.out l[i] (List.getElem_mem _)
      obtain ⟨x, hx⟩ : ∃ x, l[i] = x := ⟨_, rfl⟩
      rw [hx] at hd hget hx2
      obtain ⟨b, o, hA, hbA, hc0⟩ := Ha.out.get i _ hget
      subst hA
      have Hget := hide hget
      obtain ⟨hx3, hx4⟩ := hx2
      have hc : wr.cell? ⟨b, o + i, none⟩ = some (.int .i64 x) := (hb.out.cell (p := ⟨b, o + i, none⟩) hbA).trans hc0
      have Hn1 : Hid ((i + 1 = 0 → x = -1) ∧ ∀ j, i + 1 = j + 1 → (ivs l)[j]? = some (.int .i64 x)) := hide ⟨fun h => by omega, fun j h => by rw [← Nat.succ.inj h]; exact Hget.out⟩
      have HG : Hid (gapsT l = (G ++ [x - last - 1]) ++ gp x (l.drop (i + 1))) := hide (by rw [hG.out, hd, List.append_assoc]; rfl)
      have HGl : Hid ((G ++ [x - last - 1]).length = i + 1) := hide (by rw [List.length_append, hGl.out]; rfl)
      have hlti0 : (0 : Int) ≤ (i : Int) := by omega
      have hlti : (i : Int) < (n : Int) := by omega
      obtain ⟨g, hg⟩ : ∃ g, x - last - 1 = g := ⟨_, rfl⟩
      rw [hg] at HG HGl
      rcases Nat.eq_zero_or_pos i with h0 | h0
      · have hd3 : ((i : Int) == 0) = true := by simp; omega
        have hla := hlast.out.1 h0
        have hgx : g = x := by omega
        subst hgx
        have hcz : wr.cell? ⟨b, o, none⟩ = some (.int .i64 g) := by rw [h0] at hc; exact hc
        obtain ⟨v', w4, hrun, hown1, hf1, _⟩ := app_own (P := Tryz.prog) 22 3 _ _ Tryz.underlying22 intinf rfl (w := wr) hown.out hb.out hb.out.size (.int .i64 g) rfl (by unfold maxLen; omega) (by omega)
        have Hrun := hide hrun
        have Hown1 : Hid (w4.ownsRow w.heap.size 3 1 v' (i + 1) (ivs (G ++ [g]))) := hide (by rw [ivs_snoc1]; exact hown1)
        have Hf1 := hide hf1
        have hn0 : (0 : Int) < (n : Int) := by omega
        clear hil hd hget hx hG hGl hlast hown hb hc0 hc hg hla hrun hown1 hf1 h0
        go_wp2_with (
          at_builtin
          refine wpList_run (by with_reducible rfl) rfl _ _ _ rfl _ _ (by rfl) (by rfl) Hrun.out ?_)
        refine ⟨⟨i + 1, g, _, hlt, by omega, hx4, by go_num, HG, HGl, Hn1, Hown1, Hf1⟩, ?_⟩
        simp [intOf] <;> omega
      · have hd3 : ((i : Int) == 0) = false := by rw [beq_eq_false_iff_ne]; omega
        obtain ⟨j, hj⟩ : ∃ j, i - 1 = j := ⟨_, rfl⟩
        have hij : i = j + 1 := by omega
        obtain ⟨b', o', hA', hb', hc1⟩ := Ha.out.get j _ (hlast.out.2 j hij)
        injection hA' with hA'
        injection hA' with hA1 hA2
        subst hA1; subst hA2
        have hcj : wr.cell? ⟨b, o + j, none⟩ = some (.int .i64 last) := (hb.out.cell (p := ⟨b, o + j, none⟩) hb').trans hc1
        have hj0 : (0 : Int) ≤ (j : Int) := by omega
        have hj1 : (j : Int) < (n : Int) := by omega
        obtain ⟨d, hdd⟩ : ∃ d, x - last = d := ⟨_, rfl⟩
        have ik : IntKind.i64.wrap ((i : Int) - 1) = (j : Int) := by rw [IntWalk.i64_in _ (by omega)]; omega
        have ij : IntKind.i64.wrap (j : Int) = (j : Int) := by rw [IntWalk.i64_in _ (by omega)]
        have i1 : IntKind.i64.wrap (x - last) = d := by rw [IntWalk.i64_in _ (by omega)]; omega
        have i2 : IntKind.i64.wrap (d - 1) = g := by rw [IntWalk.i64_in _ (by omega)]; omega
        obtain ⟨A5, M5, cap5, rfl⟩ := own_slice hown.out
        obtain ⟨v', w4, hrun, hown1, hf1, _⟩ := app_own (P := Tryz.prog) 22 3 _ _ Tryz.underlying22 intinf rfl (w := wr.drew) hown.out (hb.out.drew) hb.out.size (.int .i64 g) rfl (by unfold maxLen; omega) (by omega)
        obtain ⟨A6, M6, cap6, rfl⟩ := own_slice hown1
        have Hrun := hide (show (Builtin.append_ #[22, 22] 22 #[.slice A5 M5 cap5, .slice (some ⟨wr.heap.size, 0, none⟩) 1 1]).run Tryz.prog (wr.alloc (.cells #[.int .i64 g] 3)).drew = .ok (.slice A6 M6 cap6) w4 from hrun)
        have Hown1 : Hid (w4.ownsRow w.heap.size 3 1 (.slice A6 M6 cap6) (i + 1) (ivs (G ++ [g]))) := hide (by rw [ivs_snoc1]; exact hown1)
        have Hf1 := hide hf1
        clear hil hd hget hx hG hGl hlast hown hb hc0 hg hrun hown1 hf1 h0 hdd hj hij hb' hc1
        have n0 := World.new_ne _ _ hc
        have n1 := World.new_ne _ _ hcj
        go_wp2
        go_region_law ((refine step_runW (by with_reducible rfl) (by rfl) _ _ _ (by rfl) _ _ (by rfl) (by rfl) Hrun.out ?_))
        all_goals
          go_wp2
          refine ⟨⟨i + 1, x, _, hlt, by omega, hx4, by go_num, HG, HGl, Hn1, Hown1, Hf1⟩, ?_⟩
          simp [intOf] <;> omega
    · have hiN : i = n := by omega
      subst hiN
      have hG2 := hG.out
      rw [List.drop_eq_nil_of_le (by rw [← Hn.out]; exact Nat.le_refl _)] at hG2
      have hG3 : gapsT l = G := by rw [hG2]; exact List.append_nil _
      obtain ⟨A5, M5, cap5, rfl⟩ := own_slice hown.out
      have Hres : Hid (IRes wr (.slice A5 M5 cap5) (gapsT l)) := hide (ires_own (by rw [hG3]; exact hown.out) (by rw [Hlen.out]))
      clear hG2 hG3 hG hGl hown hlast
      go_wp2
      go_ret
      exact ⟨_, rfl, Hres.out, hb.out⟩
end Go.Proofs.YtgllednilkfpgaaGreat
/-
  The walks over the reference of times: times out of gaps.
-/
namespace Go.Proofs.YtgllednilkfpgaaGreat
open Go.RowKit Go.Proofs Wv Wv.Vi Wv.Rc Wv.Mo Wv.Ru Wv.Tm
set_option linter.unusedVariables false

set_option maxRecDepth 100000 in
set_option maxHeartbeats 2000000 in
theorem nsums_any {w : World} {A : Option Addr} {l : List Int} (ha : At w A (ivs l)) (n cap : Nat) (hn : n = l.length) (hn4 : n ≤ 1000000) (hpos : ∀ g ∈ l, 0 ≤ g) :
    Calls Tryz.prog 47 #[.slice A n cap] w fun x w' => JRes w (jn (-1) l) x w' := by
  have Ha := hide ha
  have Hn := hide hn
  have Hp := hide hpos
  have ho0 := hide (own_made0 3 w)
  have hb0 := hide ((Below.refl w.heap.size w).alloc (Nat.le_refl _) (.cells #[] 3))
  obtain ⟨R, hR⟩ : ∃ R, jn (-1) l = R := ⟨_, rfl⟩
  have HR := hide hR
  rw [hR]
  clear ha hn hR hpos
  go_enter Tryz.func47, Tryz.ntmps47
  go_wp2
  go_loopw [4, 5, 6] (fun s4 s5 s6 wr => ∃ (i : Nat) (last : Int) (G : List Int), i ≤ n ∧ -1 ≤ last ∧ last ≤ 1099511627776 ∧ s5 = .int .i64 last ∧ s6 = .int .i64 (i : Int) ∧ Hid (jn (-1) l = (jn last (l.drop i)).map (G ++ ·)) ∧ Hid (G.length = i) ∧ Hid (wr.ownsRow w.heap.size 3 1 s4 i (ivs G)) ∧ Hid (Below w.heap.size w wr)) (fun _ _ s6 _ => (n - intOf s6).toNat)
  case atStart => exact ⟨0, -1, [], Nat.zero_le _, by omega, by omega, rfl, rfl, hide (by simp), hide rfl, ho0, hb0⟩
  case round =>
    clear ho0 hb0
    obtain ⟨i, last, G, hi, hl1, hl2, rfl, rfl, hG, hGl, hown, hb⟩ := hrel
    by_cases hlt : i < n
    · have hil : i < l.length := by rw [← Hn.out]; exact hlt
      have hd : l.drop i = l[i] :: l.drop (i + 1) := List.drop_eq_getElem_cons hil
      have hget := ivs_at l i hil
      have hx0 := Hp.out l[i] (List.getElem_mem _)
      obtain ⟨x, hx⟩ : ∃ x, l[i] = x := ⟨_, rfl⟩
      rw [hx] at hd hget hx0
      obtain ⟨b, o, hA, hbA, hc0⟩ := Ha.out.get i _ hget
      subst hA
      have hc : wr.cell? ⟨b, o + i, none⟩ = some (.int .i64 x) := (hb.out.cell (p := ⟨b, o + i, none⟩) hbA).trans hc0
      have hj : jn last (x :: l.drop (i + 1)) = if x < 0 ∨ 1099511627776 < x ∨ 1099511627776 < last + x + 1 then none else (jn (last + x + 1) (l.drop (i + 1))).map ((last + x + 1) :: ·) := rfl
      have hG2 := hG.out
      rw [hd, hj] at hG2
      have hlti0 : (0 : Int) ≤ (i : Int) := by omega
      have hlti : (i : Int) < (n : Int) := by omega
      by_cases h1 : 1099511627776 - last - 1 < x
      · have Hv : Hid (R = none) := hide (by rw [← HR.out, hG2, if_pos (by omega)]; rfl)
        clear hil hd hget hx hj hG2 hG hGl hown hc0
        go_wp2
        go_ret2
        exact jres_none Hv.out hb.out
      · obtain ⟨y, hy⟩ : ∃ y, last + x + 1 = y := ⟨_, rfl⟩
        have e1 : last + 1 + x = y := by omega
        have HG : Hid (jn (-1) l = (jn y (l.drop (i + 1))).map ((G ++ [y]) ++ ·)) := hide (by
          rw [hG2, if_neg (by omega), Option.map_map, hy]
          congr 1
          funext r
          simp)
        have HGl : Hid ((G ++ [y]).length = i + 1) := hide (by rw [List.length_append, hGl.out]; rfl)
        have hy1 : -1 ≤ y := by omega
        have hy2 : y ≤ 1099511627776 := by omega
        obtain ⟨v', w4, hrun, hown1, hf1, _⟩ := app_own (P := Tryz.prog) 22 3 _ _ Tryz.underlying22 intinf rfl (w := wr) hown.out hb.out hb.out.size (.int .i64 y) rfl (by unfold maxLen; omega) (by omega)
        have Hrun := hide hrun
        have Hown1 : Hid (w4.ownsRow w.heap.size 3 1 v' (i + 1) (ivs (G ++ [y]))) := hide (by rw [ivs_snoc1]; exact hown1)
        have Hf1 := hide hf1
        clear hil hd hget hx hj hG2 hG hGl hown hb hc0 hy hrun hown1 hf1
        go_wp2_with (
          at_builtin
          refine wpList_run (by with_reducible rfl) rfl _ _ _ rfl _ _ (by rfl) (by rfl) Hrun.out ?_)
        refine ⟨⟨i + 1, y, _, hlt, hy1, hy2, rfl, by go_num, HG, HGl, Hown1, Hf1⟩, ?_⟩
        simp [intOf] <;> omega
    · have hiN : i = n := by omega
      subst hiN
      have hG2 := hG.out
      rw [List.drop_eq_nil_of_le (by rw [← Hn.out]; exact Nat.le_refl _)] at hG2
      have hG3 : R = some G := by rw [← HR.out, hG2]; simp [jn]
      have Hv := hide hG3
      obtain ⟨A5, M5, cap5, rfl⟩ := own_slice hown.out
      have Hres : Hid (IRes wr (.slice A5 M5 cap5) G) := hide (ires_own hown.out (by rw [hGl.out]))
      clear hG2 hG3 hG hGl hown
      go_wp2
      go_ret2
      refine ⟨_, _, rfl, by rw [Hv.out]; rfl, fun l h => ?_, hb.out⟩
      rw [Hv.out] at h
      injection h with h
      subst h
      exact Hres.out
end Go.Proofs.YtgllednilkfpgaaGreat
/-
  The walks over the reference of times: clocks, their times.
-/
namespace Go.Proofs.YtgllednilkfpgaaGreat
open Go.RowKit Go.Proofs Wv Wv.Vi Wv.Rc Wv.Mo Wv.Ru Wv.Tm
set_option linter.unusedVariables false

theorem nstep_any (c : Clk) (i : Nat) (hi : i ≤ 5000) (w : World) :
    Calls Tryz.prog 40 #[CV c, .int .i64 (i : Int)] w fun x w' => x = .returned (.int .i64 (stepC c i)) ∧ Below w.heap.size w w' := by
  have hbl := (Below.refl w.heap.size w).alloc (Nat.le_refl _) (.cells #[.int .i64 c.st, .int .i64 c.f, .int .i64 c.s, .int .i64 c.n] 24)
  obtain ⟨st, f, s, n⟩ := c
  unfold CV
  simp only at *
  have hst : stepC ⟨st, f, s, n⟩ i = if i % 2 = 0 then f else s := rfl
  have Hbl := hide hbl
  clear hbl
  rcases Nat.mod_two_eq_zero_or_one i with h | h
  · rw [if_pos h] at hst
    rw [hst]
    have e1 : (i : Int) % 2 = 0 := by omega
    have e2 : (i : Int).tmod 2 = 0 := by rw [Int.tmod_eq_emod_of_nonneg (by omega)]; exact e1
    clear hst h
    go_enter Tryz.func40, Tryz.ntmps40
    go_wp2
    go_ret
    exact ⟨rfl, Hbl.out⟩
  · rw [if_neg (by omega)] at hst
    rw [hst]
    have e1 : (i : Int) % 2 = 1 := by omega
    have e2 : (i : Int).tmod 2 = 1 := by rw [Int.tmod_eq_emod_of_nonneg (by omega)]; exact e1
    clear hst h
    go_enter Tryz.func40, Tryz.ntmps40
    go_wp2
    go_ret
    exact ⟨rfl, Hbl.out⟩
set_option maxRecDepth 100000 in
set_option maxHeartbeats 2000000 in
theorem nclk_any (c : Clk) (w : World) :
    Calls Tryz.prog 33 #[CV c] w fun x w' => x = .returned (.bool (vclk c)) ∧ Below w.heap.size w w' := by
  have Hbl := hide ((Below.refl w.heap.size w).alloc (Nat.le_refl _) (.cells #[.int .i64 c.st, .int .i64 c.f, .int .i64 c.s, .int .i64 c.n] 24))
  have Hkc := hide (Bk.new w 24 #[.int .i64 c.st, .int .i64 c.f, .int .i64 c.s, .int .i64 c.n])
  have hcase : inC c ∨ ((c.n < 1) ∨ (1 ≤ c.n ∧ 4096 < c.n) ∨ ((1 ≤ c.n ∧ c.n ≤ 4096) ∧ c.st < 0) ∨ ((1 ≤ c.n ∧ c.n ≤ 4096 ∧ 0 ≤ c.st) ∧ 1099511627776 < c.st) ∨ ((1 ≤ c.n ∧ c.n ≤ 4096 ∧ 0 ≤ c.st ∧ c.st ≤ 1099511627776) ∧ c.f < 1) ∨ ((1 ≤ c.n ∧ c.n ≤ 4096 ∧ 0 ≤ c.st ∧ c.st ≤ 1099511627776 ∧ 1 ≤ c.f) ∧ 1099511627776 < c.f) ∨ ((1 ≤ c.n ∧ c.n ≤ 4096 ∧ 0 ≤ c.st ∧ c.st ≤ 1099511627776 ∧ 1 ≤ c.f ∧ c.f ≤ 1099511627776) ∧ c.s < 1) ∨ ((1 ≤ c.n ∧ c.n ≤ 4096 ∧ 0 ≤ c.st ∧ c.st ≤ 1099511627776 ∧ 1 ≤ c.f ∧ c.f ≤ 1099511627776 ∧ 1 ≤ c.s) ∧ 1099511627776 < c.s)) := by
    unfold inC
    omega
  by_cases hin : inC c
  · clear hcase
    have Hst := hide (fun (i : Nat) (hi : i ≤ 5000) W => nstep_any c i hi W)
    have Hsu := hide (fun i => atC_succ c i)
    have Hle := hide (fun (i j : Nat) (h : i ≤ j) => atC_le hin h)
    have Hsi := hide (fun i => stepC_in hin i)
    have Hz := hide (atC_zero c)
    have Hps := hide (fun i => atC_pos hin i)
    have hv : vclk c = decide (atC c (c.n - 1).toNat ≤ 1099511627776) := by unfold vclk; rw [decide_eq_true hin]; rfl
    obtain ⟨N, hN⟩ : ∃ N, c.n.toNat = N := ⟨_, rfl⟩
    have hNi : c.n = (N : Int) := by have := hin.1; omega
    rw [show (c.n - 1).toNat = N - 1 by omega] at hv
    obtain ⟨i1, i2, i3, i4, i5, i6, i7, i8⟩ := hin
    obtain ⟨V, hV⟩ : ∃ V, vclk c = V := ⟨_, rfl⟩
    rw [hV] at hv ⊢
    obtain ⟨atc, hatc⟩ : ∃ a, atC c = a := ⟨_, rfl⟩
    obtain ⟨stc, hstc⟩ : ∃ a, stepC c = a := ⟨_, rfl⟩
    rw [hatc] at Hsu Hle Hz hv Hps
    rw [hstc] at Hsu Hsi Hst
    have Hv := hide hv
    clear hV hatc hstc hv hN
    obtain ⟨st, f, s, n⟩ := c
    simp only at hNi
    subst hNi
    unfold CV at Hst ⊢
    simp only at *
    go_enter Tryz.func33, Tryz.ntmps33
    go_wp2
    go_loopw [3, 4] (fun s3 s4 wr => ∃ (i : Nat) (t : Int), i + 1 ≤ N ∧ 0 ≤ t ∧ t ≤ 1099511627776 ∧ s3 = .int .i64 t ∧ s4 = .int .i64 (i : Int) ∧ Hid (atc i = t) ∧ Hid (Bk wr w.heap.size 24 #[.int .i64 st, .int .i64 f, .int .i64 s, .int .i64 (N : Int)]) ∧ Hid (Below w.heap.size w wr)) (fun _ s4 _ => (N - intOf s4).toNat)
    case atStart => exact ⟨0, st, by omega, i3, i4, rfl, rfl, Hz, Hkc, Hbl⟩
    case round =>
      clear Hkc Hbl
      obtain ⟨i, t, hi, ht0, ht1, rfl, rfl, hat, hkc, hb⟩ := hrel
      have k0 := hkc.out.cell 0
      have k1 := hkc.out.cell 1
      have k2 := hkc.out.cell 2
      have k3 := hkc.out.cell 3
      simp at k0 k1 k2 k3
      by_cases hlt : i + 1 < N
      · have hlti : (i : Int) + 1 < (N : Int) := by omega
        have Hc := hide (Hst.out i (by omega))
        have hsi := Hsi.out i
        have hsu := Hsu.out i
        rw [hat.out] at hsu
        obtain ⟨d, hd⟩ : ∃ d, stc i = d := ⟨_, rfl⟩
        rw [hd] at Hc hsi hsu
        obtain ⟨d1, d2⟩ := hsi
        obtain ⟨y, hy⟩ : ∃ y, t + d = y := ⟨_, rfl⟩
        have Hsu2 : Hid (atc (i + 1) = y) := hide (by rw [hsu, hy])
        clear hd hsu
        go_wp2_with fail
        refine (Hc.out _).mono ?_
        rintro x w1 ⟨rfl, hb1⟩
        have Hk1 := hide (hkc.out.below hb1 hkc.out.lt)
        have Hb1 := hide (hb.out.trans (hb1.mono hb.out.size))
        clear k0 k1 k2 k3 hkc hb hb1 Hc
        by_cases h1 : 1099511627776 < y
        · have Hr : Hid (V = false) := hide (by
            rw [Hv.out, decide_eq_false_iff_not]
            have := Hle.out (i + 1) (N - 1) (by omega)
            rw [Hsu2.out] at this
            omega)
          have h2 : 1099511627776 < t + d := by omega
          go_wp2
          go_ret
          exact ⟨ret_bool Hr.out.symm, Hb1.out⟩
        · have h2 : ¬ 1099511627776 < t + d := by omega
          have hy2 : 0 ≤ t + d := by omega
          rw [← hy] at Hsu2 h1
          clear hy
          go_wp2
          refine ⟨⟨i + 1, t + d, hlt, by omega, by omega, rfl, by go_num, Hsu2, Hk1, Hb1⟩, ?_⟩
          simp [intOf] <;> omega
      · have hiN : N - 1 = i := by omega
        have Hr : Hid (V = true) := hide (by
          rw [Hv.out, decide_eq_true_iff, hiN, hat.out]
          exact ht1)
        have hlti : ¬ (i : Int) + 1 < (N : Int) := by omega
        clear hkc hat
        go_wp2
        go_ret
        exact ⟨ret_bool Hr.out.symm, hb.out⟩
  · have Hv : Hid (vclk c = false) := hide (by unfold vclk; rw [decide_eq_false hin]; rfl)
    have hcase := hcase.resolve_left hin
    clear hin
    obtain ⟨V, hV⟩ : ∃ V, vclk c = V := ⟨_, rfl⟩
    rw [hV] at Hv ⊢
    clear hV
    obtain ⟨st, f, s, n⟩ := c
    unfold CV
    simp only at *
    rcases hcase with h | ⟨g1, h⟩ | ⟨⟨g1, g2⟩, h⟩ | ⟨⟨g1, g2, g3⟩, h⟩ | ⟨⟨g1, g2, g3, g4⟩, h⟩ | ⟨⟨g1, g2, g3, g4, g5⟩, h⟩ | ⟨⟨g1, g2, g3, g4, g5, g6⟩, h⟩ | ⟨⟨g1, g2, g3, g4, g5, g6, g7⟩, h⟩
    all_goals
      go_enter Tryz.func33, Tryz.ntmps33
      go_wp2
      go_ret
      exact ⟨ret_bool Hv.out.symm, Hbl.out⟩
end Go.Proofs.YtgllednilkfpgaaGreat
/-
  The walks over the reference of times: the times of a clock.
-/
namespace Go.Proofs.YtgllednilkfpgaaGreat
open Go.RowKit Go.Proofs Wv Wv.Vi Wv.Rc Wv.Mo Wv.Ru Wv.Tm
set_option linter.unusedVariables false

/-- The reference's times of a clock, and the error. -/
def NTm (w : World) (c : Clk) (x : Ending) (w' : World) : Prop := ∃ A cap e, x = .returned (.tuple #[.slice A (if vclk c = true then timesL c else []).length cap, .int .i64 (e : Nat)]) ∧ e = (if vclk c = true then 0 else 1) ∧ At w' A (ivs (if vclk c = true then timesL c else [])) ∧ Below w.heap.size w w'
set_option maxRecDepth 100000 in
set_option maxHeartbeats 2000000 in
theorem ntimes_any (c : Clk) (w : World) :
    Calls Tryz.prog 13 #[CV c] w fun x w' => NTm w c x w' := by
  have Hv := hide (fun W => nclk_any c W)
  have Hbl := hide ((Below.refl w.heap.size w).alloc (Nat.le_refl _) (.cells #[.int .i64 c.st, .int .i64 c.f, .int .i64 c.s, .int .i64 c.n] 24))
  have Hkc := hide (Bk.new w 24 #[.int .i64 c.st, .int .i64 c.f, .int .i64 c.s, .int .i64 c.n])
  cases hv : vclk c with
  | false =>
    rw [hv] at Hv
    have Hpost : Hid (∀ w', Below w.heap.size w w' → NTm w c (.returned (.tuple #[.slice none 0 0, .int .i64 1])) w') := hide (fun w' hb => by
      unfold NTm
      rw [if_neg (by rw [hv]; simp), if_neg (by rw [hv]; simp)]
      exact ⟨none, 0, 1, rfl, rfl, At.nil _ _, hb⟩)
    clear hv
    obtain ⟨st, f, s, n⟩ := c
    unfold CV at Hv ⊢
    simp only at Hv Hbl Hkc ⊢
    have k0 := Hkc.out.cell 0
    have k1 := Hkc.out.cell 1
    have k2 := Hkc.out.cell 2
    have k3 := Hkc.out.cell 3
    simp at k0 k1 k2 k3
    go_enter Tryz.func13, Tryz.ntmps13
    go_wp2_with fail
    refine (Hv.out _).mono ?_
    rintro x w1 ⟨rfl, hb⟩
    have Hb2 := hide (Hbl.out.trans (hb.mono Hbl.out.size))
    clear hb k0 k1 k2 k3
    go_wp2
    go_ret2
    exact Hpost.out _ Hb2.out
  | true =>
    rw [hv] at Hv
    have Hpost : Hid (∀ A cap n w', At w' A (ivs (timesL c)) → n = (timesL c).length → Below w.heap.size w w' → NTm w c (.returned (.tuple #[.slice A n cap, .int .i64 0])) w') := hide (fun A cap n w' ha hn hb => by
      unfold NTm
      rw [if_pos hv, if_pos hv]
      exact ⟨A, cap, 0, by rw [hn]; rfl, rfl, ha, hb⟩)
    obtain ⟨hin, hlast⟩ := vclk_iff.1 hv
    have Hst := hide (fun (i : Nat) (hi : i ≤ 5000) W => nstep_any c i hi W)
    have Hsu := hide (fun i => atC_succ c i)
    have Hle := hide (fun (i j : Nat) (h : i ≤ j) => atC_le hin h)
    have Hsi := hide (fun i => stepC_in hin i)
    have Hz := hide (atC_zero c)
    have Hps := hide (fun i => atC_pos hin i)
    have htl := timesL_length c
    have hti : ∀ i, i < c.n.toNat → (timesL c).take (i + 1) = (timesL c).take i ++ [atC c i] := fun i h => by
      have h1 : i < (timesL c).length := by rw [htl]; exact h
      have h2 : (timesL c)[i] = atC c i := by simp [timesL]
      rw [List.take_succ_eq_append_getElem h1, h2]
    obtain ⟨N, hN⟩ : ∃ N, c.n.toNat = N := ⟨_, rfl⟩
    obtain ⟨i1, i2, i3, i4, i5, i6, i7, i8⟩ := hin
    have hNi : c.n = (N : Int) := by omega
    rw [show (c.n - 1).toNat = N - 1 by omega] at hlast
    have Hlast := hide hlast
    rw [hN] at htl hti
    obtain ⟨TL, hTL⟩ : ∃ TL, timesL c = TL := ⟨_, rfl⟩
    rw [hTL] at Hpost htl hti
    have Hti := hide hti
    have Htl := hide htl
    obtain ⟨atc, hatc⟩ : ∃ a, atC c = a := ⟨_, rfl⟩
    obtain ⟨stc, hstc⟩ : ∃ a, stepC c = a := ⟨_, rfl⟩
    rw [hatc] at Hsu Hle Hz Hps Hlast Hti
    rw [hstc] at Hsu Hsi Hst
    clear hatc hstc hv hN hlast htl hti hTL
    obtain ⟨st, f, s, n⟩ := c
    simp only at hNi
    subst hNi
    unfold CV at Hst Hv ⊢
    simp only at *
    have hN4 : N ≤ 4096 := by omega
    have k0 := Hkc.out.cell 0
    have k1 := Hkc.out.cell 1
    have k2 := Hkc.out.cell 2
    have k3 := Hkc.out.cell 3
    simp at k0 k1 k2 k3
    go_enter Tryz.func13, Tryz.ntmps13
    go_wp2_with fail
    refine (Hv.out _).mono ?_
    rintro x w1 ⟨rfl, hb⟩
    clear k0 k1 k2 k3
    have Hb1 := hide (Hbl.out.trans (hb.mono Hbl.out.size))
    have Hk1 := hide (Hkc.out.below hb Hkc.out.lt)
    clear hb Hbl Hkc Hv
    have ho0 := hide (own_made0 3 w1)
    have hb0 := hide ((Below.refl w1.heap.size w1).alloc (Nat.le_refl _) (.cells #[] 3))
    have Hkc0 := hide (Hk1.out.alloc (.cells #[] 3))
    have Hlt := hide Hk1.out.lt
    have k0 := Hk1.out.cell 0
    have k1 := Hk1.out.cell 1
    have k2 := Hk1.out.cell 2
    have k3 := Hk1.out.cell 3
    have klt := Hk1.out.lt
    simp at k0 k1 k2 k3
    go_wp2
    clear k0 k1 k2 k3 klt
    go_loopw [4, 5, 6] (fun s4 s5 s6 wr => ∃ (i : Nat) (t : Int), i ≤ N ∧ 0 ≤ t ∧ (i < N → t ≤ 1099511627776) ∧ s5 = .int .i64 t ∧ s6 = .int .i64 (i : Int) ∧ Hid (atc i = t) ∧ Hid (wr.ownsRow w1.heap.size 3 1 s4 i (ivs (TL.take i))) ∧ Hid (Bk wr w.heap.size 24 #[.int .i64 st, .int .i64 f, .int .i64 s, .int .i64 (N : Int)]) ∧ Hid (Below w1.heap.size w1 wr)) (fun _ _ s6 _ => (N - intOf s6).toNat)
    case atStart => exact ⟨0, st, by omega, i3, fun _ => i4, rfl, rfl, Hz, ho0, Hkc0, hb0⟩
    case round =>
      clear Hkc0 hb0 ho0
      obtain ⟨i, t, hi, ht0, ht1, rfl, rfl, hat, hown, hkc, hb⟩ := hrel
      by_cases hlt : i < N
      · have hlti : (i : Int) < (N : Int) := by omega
        have ht2 := ht1 hlt
        have Hc := hide (Hst.out i (by omega))
        have hsi := Hsi.out i
        have hsu := Hsu.out i
        rw [hat.out] at hsu
        obtain ⟨d, hd⟩ : ∃ d, stc i = d := ⟨_, rfl⟩
        rw [hd] at Hc hsi hsu
        obtain ⟨d1, d2⟩ := hsi
        have Hsu2 := hide hsu
        have hnx : Hid (i + 1 < N → t + d ≤ 1099511627776) := hide (fun h => by
          have h1 := Hle.out (i + 1) (N - 1) (by omega)
          rw [hsu] at h1
          exact Int.le_trans h1 Hlast.out)
        have htk := Hti.out i hlt
        rw [hat.out] at htk
        obtain ⟨v', w4, hrun, hown1, hf1, _⟩ := app_own (P := Tryz.prog) 22 3 _ _ Tryz.underlying22 intinf rfl (w := wr) hown.out hb.out hb.out.size (.int .i64 t) rfl (by unfold maxLen; omega) (by omega)
        have Hrun := hide hrun
        have Hown1 : Hid (w4.ownsRow w1.heap.size 3 1 v' (i + 1) (ivs (TL.take (i + 1)))) := hide (by rw [htk, ivs_snoc1]; exact hown1)
        have Hf1 := hide hf1
        have hk4 := Hk1.out.below hf1 Hk1.out.lt
        have Hk4 := hide hk4
        have k0 := hkc.out.cell 0
        have k1 := hkc.out.cell 1
        have k2 := hkc.out.cell 2
        have k3 := hkc.out.cell 3
        have j0 := hk4.cell 0
        have j1 := hk4.cell 1
        have j2 := hk4.cell 2
        have j3 := hk4.cell 3
        simp at k0 k1 k2 k3 j0 j1 j2 j3
        clear hd hsu hown hb hrun hown1 hf1 hk4 htk
        go_wp2_with (
          at_builtin
          refine wpList_run (by with_reducible rfl) rfl _ _ _ rfl _ _ (by rfl) (by rfl) Hrun.out ?_)
        refine (Hc.out _).mono ?_
        rintro x w5 ⟨rfl, hb5⟩
        have Hk5 := hide (Hk4.out.below hb5 Hk4.out.lt)
        have Hf5 := hide (Hf1.out.trans (hb5.mono Hf1.out.size))
        have Ho5 := hide (own_fr Hown1.out (Fr.of_below (S := nob) hb5) (fun g hg h => h))
        clear k0 k1 k2 k3 j0 j1 j2 j3 hb5
        have hy2 : 0 ≤ t + d := by omega
        go_wp2
        refine ⟨⟨i + 1, t + d, hlt, hy2, hnx.out, rfl, by go_num, Hsu2, Ho5, Hk5, Hf5⟩, ?_⟩
        simp [intOf] <;> omega
      · have hiN : i = N := by omega
        subst hiN
        obtain ⟨A5, cap5, rfl, hat5⟩ := own_at hown.out
        rw [List.take_of_length_le (by rw [Htl.out]; exact Nat.le_refl _)] at hat5
        have Hat5 := hide hat5
        have Hbe := hide (Hb1.out.trans (hb.out.mono Hb1.out.size))
        have k0 := hkc.out.cell 0
        have k1 := hkc.out.cell 1
        have k2 := hkc.out.cell 2
        have k3 := hkc.out.cell 3
        simp at k0 k1 k2 k3
        clear hat5 hown hkc hat hb
        go_wp2
        go_ret2
        exact Hpost.out _ _ _ _ Hat5.out Htl.out.symm Hbe.out
end Go.Proofs.YtgllednilkfpgaaGreat
