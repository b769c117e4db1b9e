/-
  Joined texts: Sa, Sj, Sk, Sl, Sm, Sn.
-/
import Derived.Test.YtgllednilkfpgaaGreatJ09
import Derived.Test.YtgllednilkfpgaaGreatJ13
import Derived.Test.YtgllednilkfpgaaGreatJ01
import Derived.Test.YtgllednilkfpgaaGreatJ08
set_option linter.unusedVariables false
set_option linter.unusedSimpArgs false
/-
  The walks over the references: lists that are held against each other.
-/
namespace Go.Proofs.YtgllednilkfpgaaGreat
open Go.RowKit Go.Proofs Wv Wv.Vi Wv.Rc Wv.Mo Wv.Ru
set_option linter.unusedVariables false

theorem str_ne {a b : ByteArray} : (a.toList != b.toList) = !decide (a = b) := by
  rw [← str_eq]
  rfl
set_option maxHeartbeats 1000000 in
theorem ints_any {w : World} {A B : Option Addr} {a b : List Int} (ha : At w A (ivs a)) (hb : At w B (ivs b)) (n cap m cap2 : Nat) (hn : n = a.length) (hm : m = b.length) (hn4 : n ≤ 9223372036854775807) (hm4 : m ≤ 9223372036854775807) :
    Calls Tryz.prog 20 #[.slice A n cap, .slice B m cap2] w fun x w' => x = .returned (.bool (decide (a = b))) ∧ ∃ q, w' = w.drewN q := by
  have Ha := hide ha
  have Hb := hide hb
  have Hn := hide hn
  have Hm := hide hm
  clear ha hb hn hm
  by_cases hl : n = m
  · subst hl
    have hbn : ((n : Int) != (n : Int)) = false := by simp
    go_enter Tryz.func20, Tryz.ntmps20
    go_wp2
    go_loopw [5] (fun i wr => ∃ k : Nat, k ≤ n ∧ i = .int .i64 k ∧ (∃ q, wr = w.drewN q) ∧ Hid (a.take k = b.take k)) (fun i _ => (n - intOf i).toNat)
    case atStart => exact ⟨0, by omega, rfl, ⟨0, rfl⟩, hide (by simp)⟩
    case round =>
      obtain ⟨k, hk, rfl, ⟨q, rfl⟩, hall⟩ := hrel
      by_cases hlt : k < n
      · have hka : k < a.length := by rw [← Hn.out]; exact hlt
        have hkb : k < b.length := by rw [← Hm.out]; exact hlt
        obtain ⟨x, hx⟩ : ∃ x, a[k] = x := ⟨_, rfl⟩
        obtain ⟨y, hy⟩ : ∃ y, b[k] = y := ⟨_, rfl⟩
        obtain ⟨bA, oA, hA, hbA, hcA⟩ := Ha.out.get k (.int .i64 x) (by rw [ivs_get a k hka, ← hx]; simp [List.getD, hka])
        subst hA
        obtain ⟨bB, oB, hB, hbB, hcB⟩ := Hb.out.get k (.int .i64 y) (by rw [ivs_get b k hkb, ← hy]; simp [List.getD, hkb])
        subst hB
        have hlt0 : (0 : Int) ≤ (k : Int) := by omega
        have hlt1 : (k : Int) < (n : Int) := by omega
        by_cases he : x = y
        · have hne : (x != y) = false := by rw [he]; simp
          have Hall : Hid (a.take (k + 1) = b.take (k + 1)) := hide (by
            rw [List.take_succ_eq_append_getElem hka, List.take_succ_eq_append_getElem hkb, hall.out, hx, hy, he])
          clear he hx hy
          go_wp2
          go_quiet (fail)
          go_wp2
          refine ⟨⟨k + 1, by omega, by go_num, ⟨q + nq, by first | rfl | rw [World.drewN_drewN]⟩, Hall⟩, ?_⟩
          simp [intOf] <;> omega
        · have hne : (x != y) = true := by rw [bne_iff_ne]; exact he
          have Hr : Hid (decide (a = b) = false) := hide (decide_eq_false (fun e => he (by subst e; exact hx.symm.trans hy)))
          clear he hx hy
          go_wp2
          go_quiet (fail)
          go_wp2
          go_ret
          exact ⟨ret_bool Hr.out.symm, q + nq, by first | rfl | rw [World.drewN_drewN]⟩
      · have Hr : Hid (decide (a = b) = true) := hide (decide_eq_true (by
          have := hall.out
          rwa [List.take_of_length_le (by rw [← Hn.out]; omega), List.take_of_length_le (by rw [← Hm.out]; omega)] at this))
        go_wp2
        go_ret
        exact ⟨ret_bool Hr.out.symm, q, rfl⟩
  · have hbn : ((n : Int) != (m : Int)) = true := by rw [bne_iff_ne]; omega
    have Hr : Hid (decide (a = b) = false) := hide (decide_eq_false (fun e => hl (by rw [Hn.out, Hm.out, e])))
    clear hl
    go_enter Tryz.func20, Tryz.ntmps20
    go_wp2
    go_ret
    exact ⟨ret_bool Hr.out.symm, 0, rfl⟩
/-- Few and short texts. -/
def shortB (l : List ByteArray) (most bytes : Int) : Bool := decide ((∀ s ∈ l, (s.size : Int) ≤ bytes) ∧ (l.length : Int) ≤ most)
set_option maxHeartbeats 400000 in
theorem short_any {w : World} {A : Option Addr} {l : List ByteArray} (ha : At w A (svs l)) (hsz : ∀ s ∈ l, s.size ≤ 9223372036854775807) (n cap : Nat) (hn : n = l.length) (hn4 : n ≤ 9223372036854775807) (most bytes : Int) :
    Calls Tryz.prog 126 #[.slice A n cap, .int .i64 most, .int .i64 bytes] w fun x w' => x = .returned (.bool (shortB l most bytes)) ∧ w = w' := by
  have Ha := hide ha
  have Hn := hide hn
  have Hs := hide hsz
  clear ha hn hsz
  go_enter Tryz.func126, Tryz.ntmps126
  go_wp2
  go_loop [7] (fun i => ∃ k : Nat, k ≤ n ∧ i = .int .i64 k ∧ Hid (∀ s ∈ l.take k, (s.size : Int) ≤ bytes)) (fun i => (n - intOf i).toNat)
  case atStart => exact ⟨0, by omega, rfl, hide (by simp)⟩
  case round =>
    obtain ⟨k, hk, rfl, hall⟩ := hrel
    by_cases hlt : k < n
    · have hkl : k < l.length := by rw [← Hn.out]; exact hlt
      obtain ⟨s, hs⟩ : ∃ s, l[k] = s := ⟨_, rfl⟩
      have hmem : s ∈ l := hs ▸ List.getElem_mem _
      have hss := Hs.out s hmem
      obtain ⟨bA, oA, hA, hbA, hcA⟩ := Ha.out.get k (.string s) (by rw [svs_get l k hkl, hs])
      subst hA
      by_cases hl : (s.size : Int) ≤ bytes
      · have Hall : Hid (∀ u ∈ l.take (k + 1), (u.size : Int) ≤ bytes) := hide (by
          intro u hu
          rw [List.take_succ_eq_append_getElem hkl, hs] at hu
          rcases List.mem_append.1 hu with h | h
          · exact hall.out u h
          · rw [List.mem_singleton] at h; rw [h]; exact hl)
        have hl2 : ¬ bytes < (s.size : Int) := by omega
        clear hs hl hmem
        go_wp2
        go_round
        case rel => exact ⟨k + 1, by omega, by go_num, Hall⟩
        case measure => simp [intOf] <;> omega
      · have Hr : Hid (shortB l most bytes = false) := hide (decide_eq_false (fun h => hl (h.1 s hmem)))
        have hl2 : bytes < (s.size : Int) := by omega
        clear hs hl hmem
        go_wp2
        go_ret
        exact ⟨ret_bool Hr.out.symm, rfl⟩
    · have hall2 : ∀ s ∈ l, (s.size : Int) ≤ bytes := by
        have := hall.out
        rwa [List.take_of_length_le (by rw [← Hn.out]; omega)] at this
      by_cases hmo : (n : Int) ≤ most
      · have Hr : Hid (shortB l most bytes = true) := hide (decide_eq_true ⟨hall2, by rw [← Hn.out]; exact hmo⟩)
        have hd := hide (show decide ((n : Int) ≤ most) = true from decide_eq_true hmo)
        clear hall2
        go_wp2
        go_ret
        exact ⟨ret_bool Hr.out.symm, rfl⟩
      · have Hr : Hid (shortB l most bytes = false) := hide (decide_eq_false (fun h => hmo (by rw [Hn.out]; exact h.2)))
        have hd := hide (show decide ((n : Int) ≤ most) = false from decide_eq_false hmo)
        clear hall2
        go_wp2
        go_ret
        exact ⟨ret_bool Hr.out.symm, rfl⟩
end Go.Proofs.YtgllednilkfpgaaGreat
/-
  The walks over the references: runs of texts, places of texts, the different texts.
-/
namespace Go.Proofs.YtgllednilkfpgaaGreat
open Go.RowKit Go.Proofs Wv Wv.Vi Wv.Rc Wv.Mo Wv.Ru
set_option linter.unusedVariables false

theorem own_cap {w : World} {base e size n g cap : Nat} {xs : List Value} (h : w.ownsRow base e size (.slice (some ⟨g, 0, none⟩) n cap) n xs) : cap ≤ maxLen := by
  rcases h.2 with ⟨h, _⟩ | ⟨g', cap', cur, hv, _, _, _, hm, _⟩
  · cases h
  · injection hv with _ _ hv
    rw [hv]; exact hm
set_option maxHeartbeats 1000000 in
theorem rindex_any {w : World} {A : Option Addr} {l : List ByteArray} (ha : At w A (svs l)) (n cap : Nat) (hn : n = l.length) (hm : n ≤ 9223372036854775807) (s : ByteArray) :
    Calls Tryz.prog 155 #[.slice A n cap, .string s] w fun x w' => x = .returned (.int .i64 (ix l s : Nat)) ∧ w = w' := by
  have Ha := hide ha
  have Hn := hide hn
  have hle := ix_le l s
  rw [← hn] at hle
  clear ha hn
  go_enter Tryz.func155, Tryz.ntmps155
  go_wp2
  go_loop [5] (fun i => ∃ j : Nat, j ≤ ix l s ∧ i = .int .i64 j) (fun i => (n - intOf i).toNat)
  case atStart => exact ⟨0, by omega, rfl⟩
  case round =>
    obtain ⟨j, hj, rfl⟩ := hrel
    by_cases hlt : j < n
    · have hjl : j < l.length := by rw [← Hn.out]; exact hlt
      obtain ⟨u, hu⟩ : ∃ u, l[j] = u := ⟨_, rfl⟩
      obtain ⟨bA, oA, hA, hbA, hcA⟩ := Ha.out.get j (.string u) (by rw [svs_get l j hjl, hu])
      subst hA
      by_cases hji : j < ix l s
      · have hne2 : (u.toList == s.toList) = false := by
          rw [str_eq]
          have : u ≠ s := fun e => ix_before j hji (by rw [List.getElem?_eq_getElem hjl, hu, e])
          simp [this]
        have hne : (u.toList != s.toList) = true := by rw [bne, hne2]; rfl
        clear hu
        go_wp2
        go_round
        case rel => exact ⟨j + 1, by omega, by go_num⟩
        case measure => simp [intOf] <;> omega
      · have hje : j = ix l s := by omega
        have hne2 : (u.toList == s.toList) = true := by
          have hm : s ∈ l := ix_lt.1 (by omega)
          have := ix_get? hm
          rw [← hje, List.getElem?_eq_getElem hjl, hu] at this
          injection this with this
          rw [this]
          exact beq_self_eq_true _
        have hne : (u.toList != s.toList) = false := by rw [bne, hne2]; rfl
        have Hje := hide hje
        clear hu hje hji
        go_wp2
        go_ret
        exact ⟨ret_int (by rw [← Hje.out]), rfl⟩
    · have hje : j = ix l s := by omega
      have Hje := hide hje
      clear hje
      go_wp2
      go_ret
      exact ⟨ret_int (by rw [← Hje.out]), rfl⟩
set_option maxHeartbeats 1000000 in
theorem rdict_all {w : World} {A : Option Addr} {l : List ByteArray} (ha : At w A (svs l)) (n cap : Nat) (hn : n = l.length) (hm : n ≤ 4096) :
    Calls Tryz.prog 127 #[.slice A n cap] w fun x w' => ∃ A' cap', x = .returned (.slice A' (dict l).length cap') ∧ At w' A' (svs (dict l)) ∧ Below w.heap.size w w' ∧ (∀ b o, A' = some ⟨b, o, none⟩ → w.heap.size ≤ b) := by
  have Ha := hide ha
  have Hn := hide hn
  have ho0 := hide (own_made0 9 w)
  have hb0 := hide ((Below.refl w.heap.size w).alloc (Nat.le_refl _) (.cells #[] 9))
  clear ha hn
  go_enter Tryz.func127, Tryz.ntmps127
  go_wp2
  go_loopw [3, 4] (fun v i wr => ∃ k : Nat, k ≤ n ∧ i = .int .i64 k ∧ wr.ownsRow w.heap.size 9 1 v (dict (l.take k)).length (svs (dict (l.take k))) ∧ Below w.heap.size w wr) (fun _ i _ => (n - intOf i).toNat)
  case atStart => exact ⟨0, by omega, rfl, ho0.out, hb0.out⟩
  case round =>
    clear ho0 hb0
    obtain ⟨k, hk, rfl, hown, hf⟩ := hrel
    have hdl := dict_length (l.take k)
    rw [List.length_take] at hdl
    by_cases hlt : k < n
    · have hkl : k < l.length := by rw [← Hn.out]; exact hlt
      obtain ⟨s, hs⟩ : ∃ s, l[k] = s := ⟨_, rfl⟩
      obtain ⟨bA, oA, hA, hbA, hcA⟩ := (Ha.out.below hf).get k (.string s) (by rw [svs_get l k hkl, hs])
      subst hA
      obtain ⟨d1, d2⟩ := dict_take l k hkl
      rw [hs] at d1 d2
      obtain ⟨D, hD⟩ : ∃ D, dict (l.take k) = D := ⟨_, rfl⟩
      rw [hD] at d1 d2 hown hdl
      obtain ⟨A4, cap4, hv4, hat4⟩ := own_at hown
      subst hv4
      have Hi := hide (rindex_any hat4 D.length cap4 rfl (by omega) s)
      by_cases hin : s ∈ D
      · have hne : ((ix D s : Int) == (D.length : Int)) = false := by
          rw [beq_eq_false_iff_ne]
          have := ix_lt.2 hin
          omega
        have Hd := hide (d1 hin)
        have Hown := hide hown
        clear d1 d2 hs hD hin hown hdl hat4
        go_wp2_with fail
        refine (Hi.out).mono ?_
        rintro x w1 ⟨rfl, rfl⟩
        go_wp2
        go_roundw
        case rel => exact ⟨k + 1, by omega, by go_num, by rw [Hd.out]; exact Hown.out, hf⟩
        case measure => simp [intOf] <;> omega
      · have hixe : ix D s = D.length := by
          have h1 := ix_le D s
          have h2 : ¬ ix D s < D.length := fun h => hin (ix_lt.1 h)
          omega
        rw [hixe] at Hi
        obtain ⟨v', w1, hrun, hown1, hf1, _⟩ := app_own (P := Tryz.prog) 64 9 _ _ Tryz.underlying64 strinf rfl hown hf hf.size (.string s) rfl (by unfold maxLen; omega) (by omega)
        have Hd := hide (d2 hin)
        have Hrun := hide hrun
        have Hown1 : Hid (w1.ownsRow w.heap.size 9 1 v' (D ++ [s]).length (svs (D ++ [s]))) := hide (by
          rw [List.length_append]
          unfold svs at hown1 ⊢
          rw [List.map_append]
          exact hown1)
        have Hf1 := hide hf1
        clear d1 d2 hs hD hin hown hdl hat4 hrun hown1 hf1 hf hixe
        go_wp2_with fail
        refine (Hi.out).mono ?_
        rintro x w2 ⟨rfl, rfl⟩
        go_wp2_with (
          at_builtin
          refine wpList_run (by with_reducible rfl) rfl _ _ _ rfl _ _ (by rfl) (by rfl) Hrun.out ?_)
        go_roundw
        case rel => exact ⟨k + 1, by omega, by go_num, by rw [Hd.out]; exact Hown1.out, Hf1.out⟩
        case measure => simp [intOf] <;> omega
    · have hkn : k = n := by omega
      have htk : l.take k = l := List.take_of_length_le (by rw [← Hn.out]; omega)
      rw [htk] at hown
      obtain ⟨A4, cap4, hv4, hat4⟩ := own_at hown
      subst hv4
      have Hat := hide hat4
      have Hfar := hide (fun (b o : Nat) (h : A4 = some ⟨b, o, none⟩) => (hown.lt b (by rw [h]; rfl)).1)
      clear htk hown hat4 hdl
      go_wp2
      go_returns
      exact ⟨A4, cap4, rfl, Hat.out, hf, Hfar.out⟩
theorem rdict_any {w : World} {A : Option Addr} {l : List ByteArray} (ha : At w A (svs l)) (n cap : Nat) (hn : n = l.length) (hm : n ≤ 4096) :
    Calls Tryz.prog 127 #[.slice A n cap] w fun x w' => DRes w (dict l) x w' :=
  (rdict_all ha n cap hn hm).mono fun x w' ⟨A', cap', hx, hat, hb, _⟩ => ⟨_, hx, ⟨A', cap', rfl, hat⟩, hb⟩
set_option maxHeartbeats 1000000 in
theorem rrow_any (w : World) :
    Calls Tryz.prog 139 #[] w fun x w' => ∃ A cap, x = .returned (.slice A 4096 cap) ∧ (4096 ≤ cap ∧ cap ≤ maxLen) ∧ At w' A (ns r0) ∧ Below w.heap.size w w' ∧ (∀ b o, A = some ⟨b, o, none⟩ → w.heap.size ≤ b) := by
  have ho0 := hide (own_made0 3 w)
  have hb0 := hide ((Below.refl w.heap.size w).alloc (Nat.le_refl _) (.cells #[] 3))
  go_enter Tryz.func139, Tryz.ntmps139
  go_wp2
  go_loopw [1, 2] (fun v i wr => ∃ k : Nat, k ≤ 4096 ∧ i = .int .i64 k ∧ wr.ownsRow w.heap.size 3 1 v k (ns (List.range k)) ∧ Below w.heap.size w wr) (fun _ i _ => (4096 - intOf i).toNat)
  case atStart => exact ⟨0, by omega, rfl, ho0.out, hb0.out⟩
  case round =>
    clear ho0 hb0
    obtain ⟨k, hk, rfl, hown, hf⟩ := hrel
    by_cases hlt : k < 4096
    · have hlt2 : (k : Int) < 4096 := by omega
      obtain ⟨v', w1, hrun, hown1, hf1, _⟩ := app_own (P := Tryz.prog) 22 3 _ _ Tryz.underlying22 intinf rfl hown hf hf.size (.int .i64 (k : Int)) rfl (by unfold maxLen; omega) (by omega)
      rw [← ns_snoc, ← List.range_succ] at hown1
      have Hrun := hide hrun
      have Hown1 := hide hown1
      have Hf1 := hide hf1
      have Hk := hide (And.intro hk hlt)
      clear hrun hown hown1 hf1 hf hk hlt
      go_wp2_with (
        at_builtin
        refine wpList_run (by with_reducible rfl) rfl _ _ _ rfl _ _ (by rfl) (by rfl) Hrun.out ?_)
      go_roundw
      case rel => exact ⟨k + 1, (by have := Hk.out; omega), by go_num, Hown1.out, Hf1.out⟩
      case measure => simp [intOf] <;> omega
    · have hk2 : k = 4096 := by omega
      clear hk hlt
      subst hk2
      obtain ⟨g, capg, hvg, hcg⟩ := own_form hown (by omega)
      subst hvg
      obtain ⟨A4, cap4, hv4, hat4⟩ := own_at hown
      injection hv4 with h1 h2 h3
      subst h1; subst h3
      have Hat := hide hat4
      have Hcg := hide (And.intro hcg (own_cap hown))
      have hgl := hide ((hown.lt g rfl).1)
      clear hown hat4 hcg h2
      go_wp2
      go_returns
      exact ⟨_, capg, rfl, Hcg.out, Hat.out, hf, fun b o h => by injection h with h; injection h with h; have := hgl.out; omega⟩
set_option maxHeartbeats 1000000 in
theorem rcheck_any {w : World} {A : Option Addr} {l : List Int} (ha : At w A (ivs l)) (n cap : Nat) (hn : n = l.length) (hm : n ≤ 9223372036854775807) :
    Calls Tryz.prog 138 #[.slice A n cap] w fun x w' => x = .returned (.int .i64 (chkn l : Nat)) ∧ w = w' := by
  have Ha := hide ha
  have Hn := hide hn
  by_cases h4 : 4096 < n
  · have hc : chkn l = 9 := by unfold chkn; rw [if_pos (by omega)]
    have Hc := hide hc
    have h42 : (4096 : Int) < (n : Int) := by omega
    clear ha hn hc h4
    go_enter Tryz.func138, Tryz.ntmps138
    go_wp2
    go_ret
    exact ⟨ret_int (by rw [Hc.out]; rfl), rfl⟩
  · have hc : chkn l = if ∀ n ∈ l, 0 ≤ n ∧ n < 4096 then 0 else 2 := by unfold chkn; rw [if_neg (by omega)]
    have Hc := hide hc
    have h42 : ¬ (4096 : Int) < (n : Int) := by omega
    clear ha hn hc
    go_enter Tryz.func138, Tryz.ntmps138
    go_wp2
    go_loop [3] (fun i => ∃ k : Nat, k ≤ n ∧ i = .int .i64 k ∧ Hid (∀ v ∈ l.take k, 0 ≤ v ∧ v < 4096)) (fun i => (n - intOf i).toNat)
    case atStart => exact ⟨0, by omega, rfl, hide (by simp)⟩
    case round =>
      obtain ⟨k, hk, rfl, hall⟩ := hrel
      by_cases hlt : k < n
      · have hkl : k < l.length := by rw [← Hn.out]; exact hlt
        obtain ⟨v, hv⟩ : ∃ v, l[k] = v := ⟨_, rfl⟩
        obtain ⟨bA, oA, hA, hbA, hcA⟩ := Ha.out.get k (.int .i64 v) (by rw [← hv]; simp [ivs, iv, hkl])
        subst hA
        by_cases hbad : v < 0 ∨ 4096 ≤ v
        · have hr : chkn l = 2 := by
            rw [Hc.out, if_neg]
            intro h
            have := h v (hv ▸ List.getElem_mem _)
            omega
          have Hr := hide hr
          have hb2 : v < 0 ∨ (¬ v < 0 ∧ (4096 : Int) ≤ v) := by omega
          clear hr hv hbad
          rcases hb2 with b1 | ⟨b1, b2⟩
          all_goals
            go_wp2
            go_ret
            exact ⟨ret_int (by rw [Hr.out]; rfl), rfl⟩
        · have b1 : ¬ v < 0 := by omega
          have b2 : ¬ (4096 : Int) ≤ v := by omega
          have hall2 : Hid (∀ u ∈ l.take (k + 1), 0 ≤ u ∧ u < 4096) := hide (by
            intro u hu
            rw [List.take_succ_eq_append_getElem hkl, hv] at hu
            rcases List.mem_append.1 hu with h | h
            · exact hall.out u h
            · rw [List.mem_singleton] at h; omega)
          clear hv hbad
          go_wp2
          go_round
          case rel => exact ⟨k + 1, by omega, by go_num, hall2⟩
          case measure => simp [intOf] <;> omega
      · have hkn : k = n := by omega
        have hr : chkn l = 0 := by
          rw [Hc.out, if_pos]
          intro v hv
          refine hall.out v ?_
          rw [List.take_of_length_le (by rw [← Hn.out]; omega)]
          exact hv
        have Hr := hide hr
        clear hr
        go_wp2
        go_ret
        exact ⟨ret_int (by rw [Hr.out]; rfl), rfl⟩
end Go.Proofs.YtgllednilkfpgaaGreat
/-
  The walks over the references: runs of texts, places of numbers.
-/
namespace Go.Proofs.YtgllednilkfpgaaGreat
open Go.RowKit Go.Proofs Wv Wv.Vi Wv.Rc Wv.Mo Wv.Ru
set_option linter.unusedVariables false
/-- A row of one new element. -/
theorem own_made1 (w : World) (e : TypeId) (x : Value) : (w.alloc (.cells #[x] e)).ownsRow w.heap.size e 1 (.slice (some ⟨w.heap.size, 0, none⟩) 1 1) 1 [x] :=
  ⟨by simp, .inr ⟨w.heap.size, 1, #[x], rfl, Nat.le_refl _, heap_alloc_new w _, Nat.le_refl _, by unfold maxLen; omega, by simp, by simp⟩⟩
theorem ns_append (a b : List Nat) : ns (a ++ b) = ns a ++ ns b := by simp [ns, ivs]
theorem at_take {w : World} {A : Option Addr} {t : List Nat} (h : At w A (ns t)) (p : Nat) : At w A (ns (t.take p)) := by
  intro i hi
  rw [ns_len, List.length_take] at hi
  obtain ⟨b, o, hA, hb, hc⟩ := h i (by rw [ns_len]; omega)
  refine ⟨b, o, hA, hb, hc.trans ?_⟩
  simp [ns, ivs]
theorem at_drop {w : World} {b o : Nat} {t : List Nat} (h : At w (some ⟨b, o, none⟩) (ns t)) (p : Nat) : At w (some ⟨b, o + p, none⟩) (ns (t.drop p)) := by
  intro i hi
  rw [ns_len, List.length_drop] at hi
  obtain ⟨b', o', hA, hb, hc⟩ := h (p + i) (by rw [ns_len]; omega)
  injection hA with hA
  injection hA with hA hO
  subst hA; subst hO
  refine ⟨b, o + p, rfl, hb, ?_⟩
  rw [Nat.add_assoc, hc]
  simp [ns, ivs]
set_option maxRecDepth 100000 in
set_option maxHeartbeats 2000000 in
theorem rmoved_any {w : World} {A : Option Addr} {r : List Nat} (ha : At w A (ns r)) (hr : r.length = 4096) (cap : Nat) (hcap : 4096 ≤ cap) (hcm : cap ≤ maxLen) (p : Nat) (hp : p < 4096) :
    Calls Tryz.prog 140 #[.slice A 4096 cap, .int .i64 (p : Int)] w fun x w' => ∃ A' cap', x = .returned (.slice A' 4096 cap') ∧ (4096 ≤ cap' ∧ cap' ≤ maxLen) ∧ At w' A' (ns (movef r p)) ∧ Below w.heap.size w w' ∧ (∀ b o, A' = some ⟨b, o, none⟩ → w.heap.size ≤ b) := by
  obtain ⟨bA, oA, hA, hbA, hcA⟩ := ha.get p _ (ns_get r p (by omega))
  subst hA
  obtain ⟨z, hz⟩ : ∃ z, r.getD p 0 = z := ⟨_, rfl⟩
  rw [hz] at hcA
  obtain ⟨q, hq⟩ : ∃ q, p + 1 = q := ⟨_, rfl⟩
  have h1 := own_made1 w 3 (.int .i64 (z : Int))
  have h1' : (w.alloc (.cells #[.int .i64 (z : Int)] 3)).drew.ownsRow w.heap.size 3 1 (.slice (some ⟨w.heap.size, 0, none⟩) 1 1) 1 [.int .i64 (z : Int)] := h1
  obtain ⟨v1, w1, e1, o1, g1, _⟩ := run_appAt (P := Tryz.prog) 22 3 _ _ Tryz.underlying22 intinf rfl h1' ((at_take ha p).alloc (.cells #[.int .i64 (z : Int)] 3)).drew cap p (by rw [ns_len, List.length_take]; omega) (fun h => by cases h) (ns_one _) (by unfold maxLen; omega) (by omega) (by show _ ≤ (w.alloc _).heap.size; simp)
  have hb1 : Below w.heap.size w w1 := (((Below.refl w.heap.size w).alloc (Nat.le_refl _) (.cells #[.int .i64 (z : Int)] 3)).drew).grown g1 (by show _ ≤ (w.alloc _).heap.size; simp) (fun k hk => by simp [Value.ownBlock] at hk; omega)
  have haq : At w (if cap = q then some ⟨bA, oA, none⟩ else some ⟨bA, oA + q, none⟩) (ns (r.drop q)) := by
    split
    · rw [List.drop_of_length_le (by omega)]
      exact At.nil _ _
    · exact at_drop ha q
  obtain ⟨v2, w2, e2, o2, g2, _⟩ := run_appAt (P := Tryz.prog) 22 3 _ _ Tryz.underlying22 intinf rfl o1 (haq.below hb1) (cap - q) (4096 - q) (by rw [ns_len, List.length_drop]; omega) (fun h => by split at h <;> cases h) (ns_one _) (by unfold maxLen; omega) (by omega) hb1.size
  have hb2 : Below w.heap.size w w2 := hb1.grown g2 hb1.size (fun k hk => (o1.lt k hk).1)
  have hmv : [.int .i64 (z : Int)] ++ ns (r.take p) ++ ns (r.drop q) = ns (movef r p) := by
    subst hq
    unfold movef
    rw [hz, List.eraseIdx_eq_take_drop_succ, show z :: (r.take p ++ r.drop (p + 1)) = [z] ++ (r.take p ++ r.drop (p + 1)) from rfl, ns_append, ns_append, List.append_assoc]
    rfl
  rw [hmv, show 1 + p + (4096 - q) = 4096 from by omega] at o2
  obtain ⟨A1, M1, cap1, rfl⟩ := own_slice o1
  obtain ⟨g, cap2, hvg, hcg⟩ := own_form o2 (by omega)
  subst hvg
  obtain ⟨A4, cap4, hv4, hat4⟩ := own_at o2
  injection hv4 with h5 h6 h7
  subst h5; subst h7
  have hcm2 := own_cap o2
  have hgl := (o2.lt g rfl).1
  have E1 := hide e1
  have E2 := hide e2
  have Hfin := hide (And.intro hat4 (And.intro hb2 (And.intro hcg hcm2)))
  have Hb1 := hide hb1
  have hp2 : (p : Int) < 4096 := by omega
  have hcap2 : (p : Int) ≤ (cap : Int) := by omega
  have hcap3 : (4096 : Int) ≤ (cap : Int) := by omega
  have i1 : IntKind.i64.wrap ((p : Int) + 1) = (q : Int) := by rw [IntWalk.i64_in _ (by omega)]; omega
  have hq2 : (q : Int) ≤ 4096 := by omega
  have hq3 : (q : Int) ≤ (cap : Int) := by omega
  have hq4 : (0 : Int) ≤ (q : Int) := by omega
  clear e1 e2 o1 o2 g1 g2 h1 h1' hb1 hb2 hmv ha hat4 hcg hcm2 hz h6 hr hq haq
  have n0 := World.new_ne _ _ hcA
  have c1 : w1.cell? ⟨bA, oA + p, none⟩ = some (.int .i64 (z : Int)) := (Hb1.out.cell (p := ⟨bA, oA + p, none⟩) hbA).trans hcA
  have c2 : w2.cell? ⟨bA, oA + p, none⟩ = some (.int .i64 (z : Int)) := (Hfin.out.2.1.cell (p := ⟨bA, oA + p, none⟩) hbA).trans hcA
  go_enter Tryz.func140, Tryz.ntmps140
  go_wp2
  go_region_held3 (fun W => W.cell? ⟨bA, oA + p, none⟩ = some (.int .i64 (z : Int))) (first | go_keep)
    ((first | (refine step_at (w.alloc (.cells #[.int .i64 (z : Int)] 3)).drew (by with_reducible rfl) ?_; refine step_run (by rfl) _ _ _ (by rfl) _ _ (by rfl) (by rfl) E1.out ?_) | (refine step_at w1 (by with_reducible rfl) ?_; refine step_run (by rfl) _ _ _ (by rfl) _ _ (by rfl) (by rfl) E2.out ?_)))
  go_wp2
  all_goals
    go_returns
    exact ⟨_, cap2, rfl, Hfin.out.2.2, Hfin.out.1, Hfin.out.2.1, fun b o h => by injection h with h; injection h with h; omega⟩
theorem ivs_ns {l : List Int} (h : ∀ n ∈ l, 0 ≤ n ∧ n < 4096) : ivs l = ns (l.map Int.toNat) := by
  unfold ns
  rw [map_toNat_nat h]
set_option maxRecDepth 100000 in
set_option maxHeartbeats 2000000 in
theorem rfront_any {w : World} {A : Option Addr} {l : List Int} (ha : At w A (ivs l)) (n cap : Nat) (hn : n = l.length) (hm : n ≤ 9223372036854775807) :
    Calls Tryz.prog 129 #[.slice A n cap] w fun x w' => NRes w x w' (front l) := by
  have Hc := hide (rcheck_any ha n cap hn hm)
  by_cases hc : chkn l = 0
  · obtain ⟨h1, h2⟩ := front_ok hc
    have hf : front l = (frontA r0 (l.map Int.toNat), 0) := by unfold front; rw [if_pos hc]
    rw [hf]
    rw [hc] at Hc
    have hin := mem_r0 h2
    rw [ivs_ns h2] at ha
    have hln : n = (l.map Int.toNat).length := by rw [List.length_map]; exact hn
    generalize l.map Int.toNat = L at *
    have ho0 := hide (own_made0 3 w)
    have hb0 := hide ((Below.refl w.heap.size w).alloc (Nat.le_refl _) (.cells #[] 3))
    have Hrow := hide (rrow_any (w.alloc (.cells #[] 3)))
    have Ha := hide ha
    have Hn := hide hln
    have Hin := hide hin
    have hn4 : n ≤ 4096 := by omega
    clear ha hln hn hin h1 h2 hc hf hm
    go_enter Tryz.func129, Tryz.ntmps129
    go_wp2_with fail
    refine (Hc.out).mono ?_
    rintro x w1 ⟨rfl, rfl⟩
    go_wp2_with fail
    refine (Hrow.out).mono ?_
    rintro x w1 ⟨A1, cap1, rfl, ⟨hc1, hcm1⟩, hat1, hb1, hfar1⟩
    have hbb := hb0.out.trans (hb1.mono (by simp))
    have ho1 := own_fr ho0.out (Fr.of_below (S := nob) hb1) (fun g hg h => h)
    have hfar : Hid (∀ b o, A1 = some ⟨b, o, none⟩ → (Value.slice (some ⟨w.heap.size, 0, none⟩) 0 0).ownBlock ≠ some b) := hide (fun b o h => by
      have := hfar1 b o h
      simp at this
      simp [Value.ownBlock]
      omega)
    have Hc1 := hide (And.intro hc1 hcm1)
    have Hat1 := hide hat1
    have Hbb := hide hbb
    have Ho1 := hide ho1
    clear hat1 hb1 hfar1 hbb ho1 hc1 hcm1 ho0 hb0 Hrow Hc
    go_wp2
    go_loopw [5, 6, 7] (fun v5 v6 i wr => ∃ (k cap' : Nat) (Ar : Option Addr), k ≤ n ∧ i = .int .i64 k ∧ v6 = .slice Ar 4096 cap' ∧ Hid (4096 ≤ cap' ∧ cap' ≤ maxLen) ∧ At wr Ar (ns (rowF r0 (L.take k))) ∧ wr.ownsRow w.heap.size 3 1 v5 k (ns (frontA r0 (L.take k))) ∧ Hid (∀ b o, Ar = some ⟨b, o, none⟩ → v5.ownBlock ≠ some b) ∧ Below w.heap.size w wr) (fun _ _ i _ => (n - intOf i).toNat)
    case atStart => exact ⟨0, cap1, A1, by omega, rfl, rfl, Hc1, Hat1.out, Ho1.out, hfar, Hbb.out⟩
    case round =>
      clear Hc1 Hat1 Ho1 hfar Hbb
      obtain ⟨k, cap', Ar, hk, rfl, rfl, hcap, hat, hown, hfar, hf⟩ := hrel
      by_cases hlt : k < n
      · have hkl : k < L.length := by rw [← Hn.out]; exact hlt
        obtain ⟨v, hv⟩ : ∃ v, L.getD k 0 = v := ⟨_, rfl⟩
        have hvL : L[k] = v := by rw [← hv]; simp [List.getD, hkl]
        obtain ⟨bA, oA, hA, hbA, hcA⟩ := (Ha.out.below hf).get k _ (ns_get L k hkl)
        subst hA
        rw [hv] at hcA
        obtain ⟨s1, s2⟩ := frontA_snoc (L.take k) v r0
        rw [← hvL, ← List.take_succ_eq_append_getElem hkl, hvL] at s1 s2
        obtain ⟨q1, q2⟩ := rowF_ok (L.take k) r0 (fun m hm => Hin.out m (List.mem_of_mem_take hm))
        have hvr := q2 v (Hin.out v (hvL ▸ List.getElem_mem _))
        have hr0 : r0.length = 4096 := by simp [r0]
        rw [hr0] at q1
        obtain ⟨R, hR⟩ : ∃ R, rowF r0 (L.take k) = R := ⟨_, rfl⟩
        rw [hR] at s1 s2 q1 hvr hat
        have hix := ix_lt.2 hvr
        obtain ⟨p, hp⟩ : ∃ p, ix R v = p := ⟨_, rfl⟩
        have hbef := @ix_before _ _ R v
        have hget := ix_get? hvr
        rw [hp] at s1 s2 hix hbef hget
        rw [q1] at hix
        obtain ⟨bR, oR, hAr, hbR, _⟩ := hat.get 0 _ (ns_get R 0 (by omega))
        subst hAr
        have Hat := hide hat
        have Hown := hide hown
        have Hf := hide hf
        have Hbef := hide hbef
        have Hget := hide hget
        have Hq1 := hide q1
        have Hix := hide hix
        have S1 := hide s1
        have S2 := hide s2
        have hkn0 : (0 : Int) ≤ (k : Int) := by omega
        have hkn1 : (k : Int) < (n : Int) := by omega
        clear hat hown hf hbef hget q1 q2 s1 s2 hix hvr hr0 hR hp hv hvL Ha
        go_wp2
        go_loopw [8] (fun a wx => ∃ j : Nat, j ≤ p ∧ a = .int .i64 j ∧ ∃ q, wx = wr.drewN q) (fun a _ => (p - intOf a).toNat)
        case atStart => exact ⟨0, by omega, rfl, 0, rfl⟩
        case round =>
          obtain ⟨j, hj, rfl, q, rfl⟩ := hrel
          have hjR : j < R.length := by rw [Hq1.out]; have := Hix.out; omega
          obtain ⟨y, hy⟩ : ∃ y, R.getD j 0 = y := ⟨_, rfl⟩
          have hjy : R[j]? = some y := by rw [List.getElem?_eq_getElem hjR, ← hy]; simp [List.getD, hjR]
          obtain ⟨b3, o3, hA3, _, hcR⟩ := Hat.out.get j _ (ns_get R j hjR)
          injection hA3 with hA3
          injection hA3 with hA3 hO3
          subst hA3; subst hO3
          rw [hy] at hcR
          have hj0 : (0 : Int) ≤ (j : Int) := by omega
          have hj1 : (j : Int) < 4096 := by have := Hix.out; omega
          by_cases hlt2 : j < p
          · have hne : ((y : Int) != (v : Int)) = true := by
              rw [bne_iff_ne]
              intro e
              exact Hbef.out j hlt2 (by rw [hjy]; congr 1; omega)
            clear hy hjy hjR
            go_wp2
            go_quiet (fail)
            go_wp2
            refine ⟨⟨j + 1, by omega, by go_num, q + nq, by first | rfl | rw [World.drewN_drewN]⟩, ?_⟩
            simp [intOf] <;> omega
          · have hjp : j = p := by omega
            have hne : ((y : Int) != (v : Int)) = false := by
              have := Hget.out
              rw [← hjp, hjy] at this
              injection this with this
              rw [this]
              exact bne_self_eq_false _
            subst hjp
            clear hy hjy hjR hlt2 hj
            go_upto_region 11 with fail
            go_quiet (fail)
            try simp only [World.drewN_drewN]
            have hatM := Hat.out.drewN (q + nq)
            have hownM : (wr.drewN (q + nq)).ownsRow w.heap.size 3 1 u5 k (ns (frontA r0 (L.take k))) := Hown.out
            have hfM := bdN Hf.out (q + nq)
            generalize wr.drewN (q + nq) = W at *
            obtain ⟨v', w3, hrun, hown3, hf3, hblk, hsz3, hkeep⟩ := app_own2 (P := Tryz.prog) 22 3 _ _ Tryz.underlying22 intinf rfl hownM hfM hfM.size (.int .i64 (j : Int)) rfl (by unfold maxLen; omega) (by omega)
            have hat3 := hkeep _ _ hatM hfar.out
            have Hm := hide (rmoved_any hat3 Hq1.out cap' hcap.out.1 hcap.out.2 j Hix.out)
            have Hrun := hide hrun
            have Hown3 : Hid (w3.ownsRow w.heap.size 3 1 v' (k + 1) (ns (frontA r0 (L.take (k + 1))))) := hide (by rw [S1.out, ns_snoc]; exact hown3)
            have Hf3 := hide hf3
            clear hcR hcA hatM hownM hfM hrun hown3 hf3 hblk hsz3 hkeep hat3 hne
            go_wp2_with (
              at_builtin
              refine wpList_run (by with_reducible rfl) rfl _ _ _ rfl _ _ (by rfl) (by rfl) Hrun.out ?_)
            refine (Hm.out).mono ?_
            rintro x w4 ⟨A4, cap4, rfl, hcp4, hat4, hb4, hfar4⟩
            have hf4 := Hf3.out.trans (hb4.mono Hf3.out.size)
            have ho4 := own_fr Hown3.out (Fr.of_below (S := nob) hb4) (fun g hg h => h)
            have Hfar4 : Hid (∀ b o, A4 = some ⟨b, o, none⟩ → v'.ownBlock ≠ some b) := hide (fun b o h hs => by
              have h5 := hfar4 b o h
              have h6 := (Hown3.out.lt b hs).2
              omega)
            have Hf4 := hide hf4
            have Ho4 := hide ho4
            have Hat4 := hide hat4
            have Hcp4 := hide hcp4
            clear hf4 ho4 hat4 hb4 hfar4 hcp4 Hm Hrun Hown3 Hf3
            go_wp2
            refine ⟨⟨k + 1, cap4, A4, by omega, by go_num, rfl, Hcp4.out, by rw [S2.out]; exact Hat4.out, Ho4.out, Hfar4, Hf4.out⟩, ?_⟩
            simp [intOf] <;> omega
      · have hkn : k = n := by omega
        have htk : L.take k = L := List.take_of_length_le (by rw [← Hn.out]; omega)
        rw [htk] at hown
        obtain ⟨A4, cap4, hv4, hat4⟩ := own_at hown
        subst hv4
        have Hat4 := hide hat4
        have hfl : (frontA r0 L).length = k := by rw [frontA_length, ← Hn.out, hkn]
        have Hfl := hide hfl
        clear htk hown hat4 hat Ha hfl
        go_wp2
        go_returns
        exact ⟨_, rfl, ⟨A4, cap4, by simp only [List.length_map]; rw [Hfl.out]; rfl, Hat4.out⟩, hf⟩
  · have hf : front l = ([], chkn l) := by unfold front; rw [if_neg hc]
    rw [hf]
    obtain ⟨e, he⟩ : ∃ e, chkn l = e := ⟨_, rfl⟩
    rw [he] at Hc hc ⊢
    have hne : ((e : Int) != 0) = true := by rw [bne_iff_ne]; omega
    have hb := hide (Below.refl w.heap.size w)
    clear he hf hc ha hn hm
    go_enter Tryz.func129, Tryz.ntmps129
    go_wp2_with fail
    refine (Hc.out).mono ?_
    rintro x w1 ⟨rfl, rfl⟩
    go_wp2
    go_returns
    exact nres_err e hb.out
end Go.Proofs.YtgllednilkfpgaaGreat
/-
  The walks over the references: runs of texts, numbers with some places.
-/
namespace Go.Proofs.YtgllednilkfpgaaGreat
open Go.RowKit Go.Proofs Wv Wv.Vi Wv.Rc Wv.Mo Wv.Ru
set_option linter.unusedVariables false
set_option maxRecDepth 100000 in
set_option maxHeartbeats 2000000 in
theorem runfront_any {w : World} {A : Option Addr} {l : List Int} (ha : At w A (ivs l)) (n cap : Nat) (hn : n = l.length) (hm : n ≤ 9223372036854775807) :
    Calls Tryz.prog 110 #[.slice A n cap] w fun x w' => NRes w x w' (unfront l) := by
  have Hc := hide (rcheck_any ha n cap hn hm)
  by_cases hc : chkn l = 0
  · obtain ⟨h1, h2⟩ := front_ok hc
    have hf : unfront l = (unfrontA r0 (l.map Int.toNat), 0) := by unfold unfront; rw [if_pos hc]
    rw [hf]
    rw [hc] at Hc
    have hin : ∀ m ∈ l.map Int.toNat, m < 4096 := fun m hm => by
      obtain ⟨x, hx, rfl⟩ := List.mem_map.1 hm
      have := h2 x hx
      omega
    rw [ivs_ns h2] at ha
    have hln : n = (l.map Int.toNat).length := by rw [List.length_map]; exact hn
    generalize l.map Int.toNat = L at *
    have ho0 := hide (own_made0 3 w)
    have hb0 := hide ((Below.refl w.heap.size w).alloc (Nat.le_refl _) (.cells #[] 3))
    have Hrow := hide (rrow_any (w.alloc (.cells #[] 3)))
    have Ha := hide ha
    have Hn := hide hln
    have Hin := hide hin
    have hn4 : n ≤ 4096 := by omega
    clear ha hln hn hin h1 h2 hc hf hm
    go_enter Tryz.func110, Tryz.ntmps110
    go_wp2_with fail
    refine (Hc.out).mono ?_
    rintro x w1 ⟨rfl, rfl⟩
    go_wp2_with fail
    refine (Hrow.out).mono ?_
    rintro x w1 ⟨A1, cap1, rfl, ⟨hc1, hcm1⟩, hat1, hb1, hfar1⟩
    have hbb := hb0.out.trans (hb1.mono (by simp))
    have ho1 := own_fr ho0.out (Fr.of_below (S := nob) hb1) (fun g hg h => h)
    have hfar : Hid (∀ b o, A1 = some ⟨b, o, none⟩ → (Value.slice (some ⟨w.heap.size, 0, none⟩) 0 0).ownBlock ≠ some b) := hide (fun b o h => by
      have := hfar1 b o h
      simp at this
      simp [Value.ownBlock]
      omega)
    have Hc1 := hide (And.intro hc1 hcm1)
    have Hat1 := hide hat1
    have Hbb := hide hbb
    have Ho1 := hide ho1
    clear hat1 hb1 hfar1 hbb ho1 hc1 hcm1 ho0 hb0 Hrow Hc
    go_wp2
    go_loopw [5, 6, 7] (fun v5 v6 i wr => ∃ (k cap' : Nat) (Ar : Option Addr), k ≤ n ∧ i = .int .i64 k ∧ v6 = .slice Ar 4096 cap' ∧ Hid (4096 ≤ cap' ∧ cap' ≤ maxLen) ∧ At wr Ar (ns (rowU r0 (L.take k))) ∧ wr.ownsRow w.heap.size 3 1 v5 k (ns (unfrontA r0 (L.take k))) ∧ Hid (∀ b o, Ar = some ⟨b, o, none⟩ → v5.ownBlock ≠ some b) ∧ Below w.heap.size w wr) (fun _ _ i _ => (n - intOf i).toNat)
    case atStart => exact ⟨0, cap1, A1, by omega, rfl, rfl, Hc1, Hat1.out, Ho1.out, hfar, Hbb.out⟩
    case round =>
      clear Hc1 Hat1 Ho1 hfar Hbb
      obtain ⟨k, cap', Ar, hk, rfl, rfl, hcap, hat, hown, hfar, hf⟩ := hrel
      by_cases hlt : k < n
      · have hkl : k < L.length := by rw [← Hn.out]; exact hlt
        obtain ⟨v, hv⟩ : ∃ v, L.getD k 0 = v := ⟨_, rfl⟩
        have hvL : L[k] = v := by rw [← hv]; simp [List.getD, hkl]
        obtain ⟨bA, oA, hA, hbA, hcA⟩ := (Ha.out.below hf).get k _ (ns_get L k hkl)
        subst hA
        rw [hv] at hcA
        obtain ⟨s1, s2⟩ := unfrontA_snoc (L.take k) v r0
        rw [← hvL, ← List.take_succ_eq_append_getElem hkl, hvL] at s1 s2
        have hvb := Hin.out v (hvL ▸ List.getElem_mem _)
        have hr0 : r0.length = 4096 := by simp [r0]
        have q1 := (rowU_ok (L.take k) r0 (fun m hm => by rw [hr0]; exact Hin.out m (List.mem_of_mem_take hm))).trans hr0
        obtain ⟨R, hR⟩ : ∃ R, rowU r0 (L.take k) = R := ⟨_, rfl⟩
        rw [hR] at s1 s2 q1 hat
        obtain ⟨y, hy⟩ : ∃ y, R.getD v 0 = y := ⟨_, rfl⟩
        rw [hy] at s1
        obtain ⟨bR, oR, hAr, hbR, hcR⟩ := hat.get v _ (ns_get R v (by omega))
        subst hAr
        rw [hy] at hcR
        obtain ⟨v', w3, hrun, hown3, hf3, hblk, hsz3, hkeep⟩ := app_own2 (P := Tryz.prog) 22 3 _ _ Tryz.underlying22 intinf rfl hown hf hf.size (.int .i64 (y : Int)) rfl (by unfold maxLen; omega) (by omega)
        have hat3 := hkeep _ _ hat hfar.out
        obtain ⟨b9, o9, hA9, hb9, hcA3⟩ := (Ha.out.below hf3).get k _ (ns_get L k hkl)
        injection hA9 with hA9
        injection hA9 with hA9 hO9
        subst hA9; subst hO9
        rw [hv] at hcA3
        have Hm := hide (rmoved_any hat3 q1 cap' hcap.out.1 hcap.out.2 v hvb)
        have Hrun := hide hrun
        have Hown3 : Hid (w3.ownsRow w.heap.size 3 1 v' (k + 1) (ns (unfrontA r0 (L.take (k + 1))))) := hide (by rw [s1, ns_snoc]; exact hown3)
        have Hf3 := hide hf3
        have S2 := hide s2
        have hvb2 : (v : Int) < 4096 := by omega
        clear hat hown hf q1 s1 s2 hr0 hR hv hvL Ha hrun hown3 hf3 hblk hsz3 hkeep hat3 hvb hy
        go_wp2_with (
          at_builtin
          refine wpList_run (by with_reducible rfl) rfl _ _ _ rfl _ _ (by rfl) (by rfl) Hrun.out ?_)
        refine (Hm.out).mono ?_
        rintro x w4 ⟨A4, cap4, rfl, hcp4, hat4, hb4, hfar4⟩
        have hf4 := Hf3.out.trans (hb4.mono Hf3.out.size)
        have ho4 := own_fr Hown3.out (Fr.of_below (S := nob) hb4) (fun g hg h => h)
        have Hfar4 : Hid (∀ b o, A4 = some ⟨b, o, none⟩ → v'.ownBlock ≠ some b) := hide (fun b o h hs => by
          have h5 := hfar4 b o h
          have h6 := (Hown3.out.lt b hs).2
          omega)
        have Hf4 := hide hf4
        have Ho4 := hide ho4
        have Hat4 := hide hat4
        have Hcp4 := hide hcp4
        clear hf4 ho4 hat4 hb4 hfar4 hcp4 Hm Hrun Hown3 Hf3
        go_wp2
        refine ⟨⟨k + 1, cap4, A4, by omega, by go_num, rfl, Hcp4.out, by rw [S2.out]; exact Hat4.out, Ho4.out, Hfar4, Hf4.out⟩, ?_⟩
        simp [intOf] <;> omega
      · have hkn : k = n := by omega
        have htk : L.take k = L := List.take_of_length_le (by rw [← Hn.out]; omega)
        rw [htk] at hown
        obtain ⟨A4, cap4, hv4, hat4⟩ := own_at hown
        subst hv4
        have Hat4 := hide hat4
        have hfl : (unfrontA r0 L).length = k := by rw [unfrontA_length, ← Hn.out, hkn]
        have Hfl := hide hfl
        clear htk hown hat4 hat Ha hfl
        go_wp2
        go_returns
        exact ⟨_, rfl, ⟨A4, cap4, by simp only [List.length_map]; rw [Hfl.out]; rfl, Hat4.out⟩, hf⟩
  · have hf : unfront l = ([], chkn l) := by unfold unfront; rw [if_neg hc]
    rw [hf]
    obtain ⟨e, he⟩ : ∃ e, chkn l = e := ⟨_, rfl⟩
    rw [he] at Hc hc ⊢
    have hne : ((e : Int) != 0) = true := by rw [bne_iff_ne]; omega
    have hb := hide (Below.refl w.heap.size w)
    clear he hf hc ha hn hm
    go_enter Tryz.func110, Tryz.ntmps110
    go_wp2_with fail
    refine (Hc.out).mono ?_
    rintro x w1 ⟨rfl, rfl⟩
    go_wp2
    go_returns
    exact nres_err e hb.out
end Go.Proofs.YtgllednilkfpgaaGreat
/-
  The walks over the references: runs of texts, the runs.
-/
namespace Go.Proofs.YtgllednilkfpgaaGreat
open Go.RowKit Go.Proofs Wv Wv.Vi Wv.Rc Wv.Mo Wv.Ru
set_option linter.unusedVariables false
set_option maxRecDepth 100000 in
set_option maxHeartbeats 2000000 in
theorem rruns_any {w : World} {A : Option Addr} {l : List ByteArray} (ha : At w A (svs l)) (n cap : Nat) (hn : n = l.length) (hm : n ≤ 4096) :
    Calls Tryz.prog 128 #[.slice A n cap] w fun x w' => PRes w (cast2 (runs (dict l) l)) x w' := by
  have Hd := hide (rdict_all (ha.alloc (.cells #[] 134)) n cap hn hm)
  have Ha := hide ha
  have Hn := hide hn
  have ho0 : (w.alloc (.cells #[] 134)).ownsRow w.heap.size 134 2 (.slice (some ⟨w.heap.size, 0, none⟩) 0 0) 0 [] := ⟨by simp, .inr ⟨w.heap.size, 0, #[], rfl, Nat.le_refl _, heap_alloc_new w _, Nat.le_refl _, by unfold maxLen; omega, by simp, by simp⟩⟩
  have hb0 := (Below.refl w.heap.size w).alloc (Nat.le_refl _) (.cells #[] 134)
  have Ho0 := hide ho0
  have Hb0 := hide hb0
  obtain ⟨Dl, hDl⟩ : ∃ Dl, dict l = Dl := ⟨_, rfl⟩
  have Hmem := hide (fun s (hs : s ∈ l) => show s ∈ Dl from hDl ▸ (mem_dict l s).2 hs)
  have hDll := dict_length l
  rw [hDl] at Hd hDll ⊢
  have hD4 : Dl.length ≤ 4096 := by omega
  clear ha hn hDl ho0 hb0 hDll
  go_enter Tryz.func128, Tryz.ntmps128
  go_wp2_with fail
  refine (Hd.out).mono ?_
  rintro x w1 ⟨AD, capD, rfl, hatD, hb1, hfarD⟩
  have Hfar : Hid (∀ b o, AD = some ⟨b, o, none⟩ → (Value.slice (some ⟨w.heap.size, 0, none⟩) 0 0).ownBlock ≠ some b) := hide (fun b o h => by
    have := hfarD b o h
    simp at this
    simp [Value.ownBlock]
    omega)
  have hbb := Hb0.out.trans (hb1.mono (by simp))
  have ho1 := own_fr Ho0.out (Fr.of_below (S := nob) hb1) (fun g hg h => h)
  have HatD := hide hatD
  have Hbb := hide hbb
  have Ho1 := hide ho1
  clear hatD hfarD hb1 hbb ho1 Ho0 Hb0 Hd
  go_wp2
  go_loopw [3, 5] (fun v3 i wr => ∃ k : Nat, k ≤ n ∧ i = .int .i64 k ∧ wr.ownsRow w.heap.size 134 2 v3 (cast2 (runs Dl (l.take k))).length (pv (cast2 (runs Dl (l.take k)))) ∧ Hid (At wr AD (svs Dl)) ∧ Hid (∀ b o, AD = some ⟨b, o, none⟩ → v3.ownBlock ≠ some b) ∧ Below w.heap.size w wr) (fun _ i _ => (n - intOf i).toNat)
  case atStart => exact ⟨0, by omega, rfl, Ho1.out, HatD, Hfar, Hbb.out⟩
  case round =>
    clear Ho1 HatD Hfar Hbb
    obtain ⟨k, hk, rfl, hown, hatD, hfar, hf1⟩ := hrel
    by_cases hlt : k < n
    · have hkl : k < l.length := by rw [← Hn.out]; exact hlt
      obtain ⟨s, hs⟩ : ∃ s, l[k] = s := ⟨_, rfl⟩
      obtain ⟨bA, oA, hA, hbA, hcA⟩ := (Ha.out.below hf1).get k (.string s) (by rw [svs_get l k hkl, hs])
      subst hA
      have hsm := hide (Hmem.out s (hs ▸ List.getElem_mem _))
      obtain ⟨r1, r2⟩ := runs_take Dl l k hkl
      rw [hs] at r1 r2
      have hrl := runs_length Dl (l.take k)
      rw [List.length_take] at hrl
      have hk0i : (0 : Int) ≤ (k : Int) := by omega
      have hkni : (k : Int) < (n : Int) := by omega
      by_cases hsame : 0 < k ∧ l[k - 1]? = some s
      · obtain ⟨h0, hsm1⟩ := hsame
        have hprev := (Ha.out.below hf1).get (k - 1) (.string s) (by
          rw [svs, List.getElem?_map, hsm1]
          rfl)
        obtain ⟨bA2, oA2, hA2, _, hcP⟩ := hprev
        injection hA2 with hA2
        injection hA2 with hA2 hA3
        subst hA2; subst hA3
        obtain ⟨xs, c, hx, hc1⟩ := runs_open Dl l (k - 1) (by omega)
        rw [show k - 1 + 1 = k from by omega] at hx
        obtain ⟨ii, hii⟩ : ∃ ii, ix Dl (l[k - 1]'(by omega)) = ii := ⟨_, rfl⟩
        rw [hii] at hx
        have hr1 := r1 h0 hsm1
        rw [hx, bump_snoc] at hr1
        rw [hx] at hown hrl
        have hc2 : cast2 (xs ++ [(ii, c)]) = cast2 xs ++ [((ii : Int), (c : Int))] := by simp [cast2]
        have hc3 : cast2 (xs ++ [(ii, c + 1)]) = cast2 xs ++ [((ii : Int), (c : Int) + 1)] := by simp [cast2]
        rw [hc2] at hown
        have hps := pv_set1 (cast2 xs) ((ii : Int), (c : Int)) ((c : Int) + 1)
        obtain ⟨X, hX⟩ : ∃ X, cast2 xs = X := ⟨_, rfl⟩
        have hXl : X.length = xs.length := by rw [← hX]; simp [cast2]
        rw [hX] at hown hps hc3
        rw [List.length_append, List.length_singleton] at hown
        obtain ⟨g, cap2, hv5, hcap2⟩ := own_formS hown (by omega)
        subst hv5
        have hcb : c ≤ 4096 := by
          have := (runs_bound Dl (l.take k) (ii, c) (by rw [hx]; simp)).2.2
          rw [List.length_take] at this
          simp only at this
          omega
        have hxl : xs.length + 1 ≤ k := by
          rw [List.length_append, List.length_singleton] at hrl
          omega
        have hlen : X.length ≤ 4096 := by omega
        have i1 : ((X.length : Int) + 1) - 1 = (X.length : Int) := by omega
        have heq : (s.toList == s.toList) = true := by simp
        have hd : decide ((0 : Int) < (k : Int)) = true := decide_eq_true (by omega)
        have ik : (k : Int) - 1 = ((k - 1 : Nat) : Int) := by omega
        obtain ⟨kp, hkp⟩ : ∃ kp, k - 1 = kp := ⟨_, rfl⟩
        rw [hkp] at ik hcP
        have hkp1 : (0 : Int) ≤ (kp : Int) := by omega
        have hkp2 : (kp : Int) < (n : Int) := by omega
        have Hr1 := hide hr1
        have Hc3 := hide hc3
        have Hps := hide hps
        have Hown := hide hown
        have Hf1 := hide hf1
        clear r1 r2 hs hx hr1 hc2 hc3 hps hX hXl hown hii hrl hkp hsm1 hf1 Ha
        go_wp2
        go_quiet (fail)
        have hown : (wr.drewN nq).ownsRow w.heap.size 134 2 (.slice (some ⟨g, 0, none⟩) (X.length + 1) cap2) (X.length + 1) (pv (X ++ [((ii : Int), (c : Int))])) := Hown.out
        have hatW := hide (hatD.out.drewN nq)
        have hfW := bdN Hf1.out nq
        generalize wr.drewN nq = W at *
        have hcell := own_cellS hown (X.length * 2 + 1) (iv (c : Int)) (by
          have := (pv_get (X ++ [((ii : Int), (c : Int))]) X.length (by simp)).2
          simpa using this)
        obtain ⟨q1, q2⟩ := hcell
        have hput := own_putS hown (X.length * 2 + 1) (iv ((c : Int) + 1))
        rw [Hps.out] at hput
        have hgb := (hown.lt g rfl).1
        have hfx := hfW.setCell (p := ⟨g, X.length * 2 + 1, none⟩) hgb (iv ((c : Int) + 1))
        unfold iv at q1
        have hputv := hput
        have Hput := hide hput
        have Hfx := hide hfx
        have HatX := hide (hatW.out.keep ((Fr.refl (only g) W).setCell (p := ⟨g, X.length * 2 + 1, none⟩) (.inl rfl) (iv ((c : Int) + 1))) (fun b o hb hs => by
          have hs2 : b = g := hs
          exact hfar.out b o hb (by rw [hs2]; rfl)))
        clear hown hfW hput hputv hfx hatW hatD Hown Hf1 Hps
        go_wp2
        go_roundw
        case rel =>
          refine ⟨k + 1, by omega, by go_num, ?_, HatX, hfar, Hfx.out⟩
          rw [Hr1.out, Hc3.out, List.length_append, List.length_singleton]
          exact Hput.out
        case measure => simp [intOf] <;> omega
      · have hcase : k = 0 ∨ l[k - 1]? ≠ some s := by
          rcases Nat.eq_zero_or_pos k with h0 | h0
          · exact .inl h0
          · exact .inr (fun h => hsame ⟨h0, h⟩)
        have hr2 := r2 hcase
        obtain ⟨ii, hii⟩ : ∃ ii, ix Dl s = ii := ⟨_, rfl⟩
        rw [hii] at hr2
        obtain ⟨R, hR⟩ : ∃ R, runs Dl (l.take k) = R := ⟨_, rfl⟩
        rw [hR] at hr2 hown hrl
        have hc3 : cast2 (R ++ [(ii, 1)]) = cast2 R ++ [((ii : Int), 1)] := by simp [cast2]
        obtain ⟨X, hX⟩ : ∃ X, cast2 R = X := ⟨_, rfl⟩
        have hXl : X.length = R.length := by rw [← hX]; simp [cast2]
        rw [hX] at hown hc3
        have hXk : X.length ≤ 4096 := by omega
        obtain ⟨A4, cap4, hv4, hat4⟩ := own_at hown
        subst hv4
        have hdec : (k = 0 ∧ decide ((0 : Int) < (k : Int)) = false) ∨ (0 < k ∧ decide ((0 : Int) < (k : Int)) = true ∧ ∃ s2 : ByteArray, (s2.toList == s.toList) = false ∧ wr.cell? ⟨bA, oA + (k - 1), none⟩ = some (.string s2)) := by
          rcases Nat.eq_zero_or_pos k with h0 | h0
          · exact .inl ⟨h0, decide_eq_false (by omega)⟩
          · right
            have hlt3 : k - 1 < l.length := by omega
            obtain ⟨bA2, oA2, hA2, _, hcP⟩ := (Ha.out.below hf1).get (k - 1) (.string (l[k - 1])) (svs_get l (k - 1) hlt3)
            injection hA2 with hA2
            injection hA2 with hA2 hA3
            subst hA2; subst hA3
            refine ⟨h0, decide_eq_true (by omega), l[k - 1], ?_, hcP⟩
            rw [str_eq, decide_eq_false_iff_not]
            intro e
            refine hsame ⟨h0, ?_⟩
            rw [List.getElem?_eq_getElem hlt3, e]
        have Hr2 := hide hr2
        have Hc3 := hide hc3
        have Hown := hide hown
        have Hf1 := hide hf1
        have Hi := hide (fun W (h : At W AD (svs Dl)) => rindex_any h Dl.length capD rfl (by omega) s)
        rw [hii] at Hi
        clear r1 r2 hs hr2 hc3 hX hown hrl hii hR hat4 hsame hcase hf1 hXl Ha
        have key : ∀ (W : World) (hW : ∃ q, W = wr.drewN q), ∃ v' w2, (Builtin.append_ #[132, 132] 132 #[.slice A4 X.length cap4, .slice (some ⟨W.heap.size, 0, none⟩) 1 1]).run Tryz.prog (W.alloc (.cells #[.int .i64 (ii : Int), .int .i64 1] 134)) = .ok v' w2 ∧ w2.ownsRow w.heap.size 134 2 v' (X ++ [((ii : Int), (1 : Int))]).length (pv (X ++ [((ii : Int), (1 : Int))])) ∧ Below w.heap.size w w2 ∧ At w2 AD (svs Dl) ∧ (∀ b o, AD = some ⟨b, o, none⟩ → v'.ownBlock ≠ some b) := by
          rintro W ⟨q, rfl⟩
          obtain ⟨v', w2, hr, ho, hb, hblk, hsz, hkeep⟩ := app_ownL (P := Tryz.prog) 132 134 _ 16 2 Tryz.underlying132 repinf rfl (by omega) (w := wr.drewN q) (show (wr.drewN q).ownsRow _ _ _ _ _ _ from Hown.out) (bdN Hf1.out q) (bdN Hf1.out q).size [.int .i64 (ii : Int), .int .i64 1] rfl (by simp [Value.oneCell']) (by unfold maxLen; omega) (by omega)
          refine ⟨v', w2, hr, ?_, hb, hkeep _ _ (hatD.out.drewN q) hfar.out, fun b o h hs => ?_⟩
          · rw [List.length_append, pv_snoc]
            exact ho
          · rcases hblk with h1 | h1
            · exact hfar.out b o h (h1 ▸ hs)
            · have h2 : some b = some ((wr.drewN q).heap.size + 1) := hs.symm.trans h1
              injection h2 with h2
              have h3 : (wr.drewN q).heap.size = wr.heap.size := rfl
              rw [h3] at h2
              obtain ⟨b', o', h4, h5, _⟩ := hatD.out 0 (by simp only [svs, List.length_map]; exact List.length_pos_of_mem hsm.out)
              rw [h] at h4
              injection h4 with h4
              injection h4 with h4
              omega
        have Key := hide key
        clear key hXk
        rcases hdec with ⟨hk0, hd⟩ | ⟨hk0, hd, s2, he2, hcP⟩
        · have hd2 : decide (0 < k) = false := decide_eq_false (by omega)
          clear hk0
          go_wp2
          go_quiet (fail)
          obtain ⟨v', w2, hrun, ho2, hf2, hat2, hfar2⟩ := Key.out (wr.drewN nq) ⟨nq, rfl⟩
          have hI := Hi.out (wr.drewN nq) (hatD.out.drewN nq)
          have hcW : (wr.drewN nq).cell? ⟨bA, oA + k, none⟩ = some (.string s) := hcA
          generalize wr.drewN nq = W at *
          have HI := hide hI
          have Hrun := hide hrun
          have Ho2 := hide ho2
          have Hf2 := hide hf2
          have Hat2 := hide hat2
          have Hfar2 := hide hfar2
          clear hI hrun ho2 hf2 hat2 hfar2 hcA Key Hi Hown Hf1
          go_wp2_with fail
          refine (HI.out).mono ?_
          rintro x w3 ⟨rfl, rfl⟩
          go_wp2_with (
            at_builtin
            refine wpList_run (by with_reducible rfl) rfl _ _ _ rfl _ _ (by rfl) (by rfl) Hrun.out ?_)
          refine ⟨⟨k + 1, by omega, by go_num, by rw [Hr2.out, Hc3.out]; exact Ho2.out, Hat2, Hfar2, Hf2.out⟩, ?_⟩
          simp [intOf] <;> omega
        · have ik : (k : Int) - 1 = ((k - 1 : Nat) : Int) := by omega
          obtain ⟨kp, hkp⟩ : ∃ kp, k - 1 = kp := ⟨_, rfl⟩
          rw [hkp] at ik hcP
          have hkp1 : (0 : Int) ≤ (kp : Int) := by omega
          have hkp2 : (kp : Int) < (n : Int) := by omega
          have hd2 : decide (0 < k) = true := decide_eq_true hk0
          clear hkp
          go_wp2
          go_quiet (fail)
          obtain ⟨v', w2, hrun, ho2, hf2, hat2, hfar2⟩ := Key.out (wr.drewN nq) ⟨nq, rfl⟩
          have hI := Hi.out (wr.drewN nq) (hatD.out.drewN nq)
          have hcW : (wr.drewN nq).cell? ⟨bA, oA + k, none⟩ = some (.string s) := hcA
          generalize wr.drewN nq = W at *
          have HI := hide hI
          have Hrun := hide hrun
          have Ho2 := hide ho2
          have Hf2 := hide hf2
          have Hat2 := hide hat2
          have Hfar2 := hide hfar2
          clear hI hrun ho2 hf2 hat2 hfar2 hcA Key Hi Hown Hf1 hcP
          go_wp2_with fail
          refine (HI.out).mono ?_
          rintro x w3 ⟨rfl, rfl⟩
          go_wp2_with (
            at_builtin
            refine wpList_run (by with_reducible rfl) rfl _ _ _ rfl _ _ (by rfl) (by rfl) Hrun.out ?_)
          refine ⟨⟨k + 1, by omega, by go_num, by rw [Hr2.out, Hc3.out]; exact Ho2.out, Hat2, Hfar2, Hf2.out⟩, ?_⟩
          simp [intOf] <;> omega
    · have hkn : k = n := by omega
      have htk : l.take k = l := List.take_of_length_le (by rw [← Hn.out]; omega)
      rw [htk] at hown
      obtain ⟨A4, cap4, hv4, hat4⟩ := own_at hown
      subst hv4
      have Hat := hide hat4
      clear htk hown hat4
      go_wp2
      go_returns
      exact ⟨A4, cap4, rfl, Hat.out, hf1⟩
end Go.Proofs.YtgllednilkfpgaaGreat
/-
  The walks over the references: runs of texts, the texts of runs; two lists of runs held against each other.
-/
namespace Go.Proofs.YtgllednilkfpgaaGreat
open Go.RowKit Go.Proofs Wv Wv.Vi Wv.Rc Wv.Mo Wv.Ru
set_option linter.unusedVariables false
set_option maxRecDepth 100000 in
set_option maxHeartbeats 2000000 in
theorem rexpand_any {w : World} {A B : Option Addr} {d : List ByteArray} {l : List (Int × Int)} (ha : At w A (svs d)) (hp : At w B (pv l)) (n cap m cap2 : Nat) (hn : n = d.length) (hm : m = l.length) (hn4 : n ≤ 9223372036854775807) (hm4 : m ≤ 9223372036854775807) :
    Calls Tryz.prog 111 #[.slice A n cap, .slice B m cap2] w fun x w' => TRes w (expand d l []) x w' := by
  have Ha := hide ha
  have Hp := hide hp
  have Hn := hide hn
  have Hm := hide hm
  obtain ⟨i0, hi, hz0, hz1, hz2⟩ := info_parts strinf
  have Hinf := hide (And.intro hi (And.intro hz0 (And.intro hz1 hz2)))
  clear ha hp hn hm hi hz0 hz1 hz2
  have ho0 := hide (own_made0 9 w)
  have hb0 := hide ((Below.refl w.heap.size w).alloc (Nat.le_refl _) (.cells #[] 9))
  go_enter Tryz.func111, Tryz.ntmps111
  go_wp2
  go_loopw [6, 7] (fun v6 i wr => ∃ (k : Nat) (acc : List ByteArray), k ≤ m ∧ i = .int .i64 k ∧ acc.length ≤ 4096 ∧ wr.ownsRow w.heap.size 9 1 v6 acc.length (svs acc) ∧ Hid (expand d (l.drop k) acc = expand d l []) ∧ Below w.heap.size w wr) (fun _ i _ => (m - intOf i).toNat)
  case atStart => exact ⟨0, [], by omega, rfl, by simp, ho0.out, hide rfl, hb0.out⟩
  case round =>
    clear ho0 hb0
    obtain ⟨k, acc, hk, rfl, hal, hown, hex, hf⟩ := hrel
    obtain ⟨A4, cap4, hv4, hat4⟩ := own_at hown
    subst hv4
    by_cases hlt : k < m
    · have hkl : k < l.length := by rw [← Hm.out]; exact hlt
      have hstep := expand_drop d l k hkl acc
      have hpk := pv_get l k hkl
      obtain ⟨⟨i, c⟩, hic⟩ : ∃ x, l[k] = x := ⟨_, rfl⟩
      rw [hic] at hstep hpk
      simp only at hstep hpk
      have hpw := Hp.out.below hf
      obtain ⟨bB, oB, hB, hbB, hcB0⟩ := hpw.get (k * 2) (iv i) hpk.1
      obtain ⟨bB', oB', hB', _, hcB1⟩ := hpw.get (k * 2 + 1) (iv c) hpk.2
      rw [hB] at hB'
      injection hB' with hB'
      injection hB' with hB1 hB2
      subst hB1; subst hB2; subst hB
      unfold iv at hcB0 hcB1
      have Hown := hide hown
      have Hf := hide hf
      have hcB1' : wr.cell? ⟨bB, oB + k * 2 + 1, none⟩ = some (.int .i64 c) := hcB1
      have hbel := hide (hf.alloc hf.size (.cells #[.int .i64 i, .int .i64 c] 134))
      by_cases hbad : i < 0 ∨ (d.length : Int) ≤ i ∨ c < 1
      · rw [if_pos hbad] at hstep
        have Hr : Hid (expand d l [] = ([], 2)) := hide (by rw [← hex.out, hstep])
        have hb2 : i < 0 ∨ (n : Int) ≤ i ∨ c < 1 := by rw [Hn.out]; exact hbad
        clear hbad hstep hic hpk hpw hat4 hown hf hcB1
        by_cases b1 : i < 0
        · clear hb2
          go_wp2
          go_returns
          rw [Hr.out]
          exact tres_err 2 hbel.out
        · by_cases b2 : (n : Int) ≤ i
          · clear hb2
            go_wp2
            go_returns
            rw [Hr.out]
            exact tres_err 2 hbel.out
          · have b3 : c < 1 := by omega
            clear hb2
            go_wp2
            go_returns
            rw [Hr.out]
            exact tres_err 2 hbel.out
      · rw [if_neg hbad] at hstep
        have b1 : ¬ i < 0 := by omega
        have b2 : ¬ (n : Int) ≤ i := by rw [Hn.out]; omega
        have b3 : ¬ c < 1 := by omega
        by_cases hbig : 4096 - (acc.length : Int) < c
        · rw [if_pos hbig] at hstep
          have Hr : Hid (expand d l [] = ([], 9)) := hide (by rw [← hex.out, hstep])
          clear hbad hstep hic hpk hpw hat4 hown hf hcB1
          go_wp2
          go_returns
          rw [Hr.out]
          exact tres_err 9 hbel.out
        · rw [if_neg hbig] at hstep
          obtain ⟨i, rfl⟩ := Int.eq_ofNat_of_zero_le (show 0 ≤ i by omega)
          obtain ⟨c, rfl⟩ := Int.eq_ofNat_of_zero_le (show 0 ≤ c by omega)
          rw [Int.toNat_natCast, Int.toNat_natCast] at hstep
          have hid : i < d.length := by omega
          have hin : (i : Int) < (n : Int) := by omega
          obtain ⟨s, hs⟩ : ∃ s, d.getD i default = s := ⟨_, rfl⟩
          have hds : (svs d)[i]? = some (.string s) := by
            rw [svs_get d i hid, ← hs]
            simp [List.getD, hid]
          rw [hs] at hstep
          have Hst : Hid (expand d (l.drop (k + 1)) (acc ++ List.replicate c s) = expand d l []) := hide (by rw [← hstep]; exact hex.out)
          have hc4 : acc.length + c ≤ 4096 := by omega
          clear hbad hstep hic hpk hpw hat4 hown hf hcB1 hex hs
          have hxb := Bk.new wr 134 #[.int .i64 (i : Int), .int .i64 (c : Int)]
          have ho2 := Hown.out.alloc (.cells #[.int .i64 (i : Int), .int .i64 (c : Int)] 134)
          go_wp2
          go_loopw [6, 9] (fun v6 j wr2 => ∃ q : Nat, q ≤ c ∧ j = .int .i64 q ∧ wr2.ownsRow w.heap.size 9 1 v6 (acc ++ List.replicate q s).length (svs (acc ++ List.replicate q s)) ∧ Bk wr2 wr.heap.size 134 #[.int .i64 (i : Int), .int .i64 (c : Int)] ∧ Below w.heap.size w wr2) (fun _ j _ => (c - intOf j).toNat)
          case atStart => exact ⟨0, by omega, rfl, by simpa using ho2, hxb, hbel.out⟩
          case round =>
            have Hsz := hide Hf.out.size
            clear hxb ho2
            obtain ⟨q, hq, rfl, hown, hxb, hf⟩ := hrel
            have x1 := hxb.cell 1
            simp at x1
            by_cases hlt2 : q < c
            · have hat := Ha.out.below hf
              obtain ⟨bA, oA, hA, hbA, hcA⟩ := hat.get i (.string s) hds
              subst hA
              have x0 := hxb.cell 0
              simp at x0
              obtain ⟨L, hL⟩ : ∃ L, acc ++ List.replicate q s = L := ⟨_, rfl⟩
              have hLl : L.length = acc.length + q := by rw [← hL]; simp
              have hL2 : acc ++ List.replicate (q + 1) s = L ++ [s] := by rw [List.replicate_succ', ← List.append_assoc, hL]
              rw [hL] at hown
              obtain ⟨A5, cap5, hv5, _⟩ := own_at hown
              subst hv5
              have hp1 : L.length + 1 ≤ maxLen := by unfold maxLen; omega
              have hp2 : (L.length + 1) * 16 ≤ 140737488355328 := by omega
              have hbase := hf.size
              have HL2 := hide hL2
              have Hown2 := hide hown
              have Hxb := hide hxb
              have Hf2 := hide hf
              have Hb2 := hide hcB0
              clear hL hL2 hown hxb hat hf hLl hcB0 hcB1'
              obtain ⟨hi, hz0, hz1, hz2⟩ := Hinf.out
              go_wp2_with (
                at_builtin
                refine wpList_append_own_at _ rfl (.tmp 50) (.tmp 56) _ rfl w.heap.size 9 i0 (.string ByteArray.empty) 1 16 Tryz.underlying64 hi hz0 hz1 hz2 rfl (by omega) (.slice A5 L.length cap5) L.length (svs L) (by rfl) (Hown2.out.alloc _) ⟨_, 0, none⟩ 1 1 [.string s] (by rfl) rfl (news_one _ _ _) (by simp [Value.oneCell']) hp1 hp2 (Nat.le_trans hbase (by simp)) ?_
                intro v' w3 hown1 hg1 _ hat1
                have Hown1 := hide hown1
                have Hg1 := hide hg1
                clear hown1 hg1 hat1)
              have hxb3 := (Hxb.out.alloc (.cells #[.string s] 9)).grown Hg1.out (fun e => own_apart Hown2.out Hxb.out (by decide) e.symm)
              have hf3 : Below w.heap.size w w3 := (Hf2.out.alloc hbase (.cells #[.string s] 9)).grown Hg1.out (Nat.le_trans hbase (by simp)) (fun j hj => (Hown2.out.lt j hj).1)
              have ho3 : w3.ownsRow w.heap.size 9 1 v' (L ++ [s]).length (svs (L ++ [s])) := by
                have := Hown1.out
                rw [List.length_append]
                unfold svs at this ⊢
                rw [List.map_append]
                exact this
              clear Hown1 Hg1 hcA x0 x1
              go_wp2
              go_roundw
              case rel => exact ⟨q + 1, by omega, by go_num, by rw [HL2.out]; exact ho3, hxb3, hf3⟩
              case measure => simp [intOf] <;> omega
            · have hqc : q = c := by omega
              subst hqc
              have Hown2 := hide hown
              have Hf2 := hide hf
              clear hown hxb hf hcB0 hcB1'
              go_wp2
              go_roundw
              case rel => exact ⟨k + 1, acc ++ List.replicate q s, by omega, by go_num, by rw [List.length_append, List.length_replicate]; omega, Hown2.out, Hst, Hf2.out⟩
              case measure => simp [intOf] <;> omega
    · have hkm : k = m := by omega
      subst hkm
      have hdr : l.drop k = [] := List.drop_of_length_le (by rw [← Hm.out]; exact Nat.le_refl _)
      have hfin := hex.out
      rw [hdr, expand] at hfin
      have Hfin := hide hfin
      have hres := hide (own_sres hown)
      clear hdr hfin hown hat4
      go_wp2
      go_returns
      rw [← Hfin.out]
      exact ⟨.slice A4 acc.length cap4, rfl, hres.out, hf⟩
end Go.Proofs.YtgllednilkfpgaaGreat
