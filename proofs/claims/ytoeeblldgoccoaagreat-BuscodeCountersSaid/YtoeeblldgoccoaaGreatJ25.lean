/-
  Joined texts: BioPw8, Sj, Sk.
-/
import Derived.Test.YtoeeblldgoccoaaGreatJ16
import Derived.Test.YtoeeblldgoccoaaGreatJ24
set_option linter.unusedVariables false
set_option linter.unusedSimpArgs false
/-
  The walks over the bit strings of the program: a reader of bytes; Encode.
-/
namespace Go.Proofs.YtoeeblldgoccoaaGreat.Bio
set_option maxRecDepth 100000
open Go.RowKit Go.Proofs Wv Wv.Bit

theorem byte_last (s : ByteArray) (h : s.size - 1 < s.size) : s.data.toList.getD (s.size - 1) 0 = s[s.size - 1] := by
 simp only [List.getD, Array.getElem?_toList]
 rw [Array.getElem?_eq_getElem (show s.size - 1 < s.data.size from h)]
 rfl
theorem toList_len (s : ByteArray) : s.toList.length = s.size := by
 rw [Lib.toList_data, ← Lib.size_eq]
theorem toList_ne (s : ByteArray) (h : 0 < s.size) : ¬ s.toList = [] := fun e => by
 have := toList_len s
 rw [e] at this; simp at this; omega
theorem isEmpty_false (s : ByteArray) (h : 0 < s.size) : s.toList.isEmpty = false := by
 have := toList_ne s h
 simpa using this

set_option maxHeartbeats 400000 in
theorem newreader_none (s : ByteArray) (w : World) (hs : s.size ≤ 9223372036854775807) (h8 : s.size ≤ 1000000000000000) (h : nrd s = none) :
  Calls Tryz.prog 128 #[.string s] w fun e w' => e = .returned (.tuple #[.pointer none, .int .i64 12]) ∧ Below w.heap.size w w' := by
 by_cases h0 : s.size = 0
 ·have he : s = ⟨#[]⟩ := by
   apply ByteArray.ext
   exact Array.eq_empty_of_size_eq_zero h0
  subst he
  clear h h0 hs h8
  go_enter Tryz.func128, Tryz.ntmps128
  go_wp2
  go_ret2
  exact ⟨rfl, Below.refl _ _⟩
 ·have hpos : 0 < s.size := by omega
  have hlt : s.size - 1 < s.size := by omega
  obtain ⟨x, hx⟩ : ∃ x, s[s.size - 1] = x := ⟨_, rfl⟩
  have hx2 : s.data.toList.getD (s.size - 1) 0 = x := by rw [byte_last s hlt, hx]
  have hE := isEmpty_false s hpos
  have hE2 := toList_ne s hpos
  by_cases hz : x = 0
  ·have hb : ((x.toNat : Int) == 0) = true := by subst hz; rfl
   clear h hx2 h0 hz
   go_enter Tryz.func128, Tryz.ntmps128
   go_wp2
   go_ret2
   exact ⟨rfl, Below.refl _ _⟩
  ·have hb : ((x.toNat : Int) == 0) = false := by
    rw [beq_eq_false_iff_ne]
    intro e
    exact hz (by
     have e2 : x.toNat = 0 := by omega
     have := congrArg UInt8.ofNat e2
     simpa using this)
   have hn : 65536 < 8 * s.size - 1 - Lib.trailingZeros8 x.toNat := by
    unfold nrd at h
    rw [if_neg h0, hx2, if_neg hz] at h
    split at h
    ·assumption
    ·cases h
   have ht : Lib.trailingZeros8 x.toNat ≤ 8 := Lib.trailingZeros8_le8 ⟨_, UInt8.toNat_lt _⟩
   have Ht := hide (fun w => Go.Proofs.Tryz.bits_TrailingZeros8 (x.toNat : Int) w (by omega) (by have := UInt8.toNat_lt x; omega))
   rw [Int.toNat_natCast] at Ht
   generalize Lib.trailingZeros8 x.toNat = t at *
   clear h hx2 h0 hz
   go_enter Tryz.func128, Tryz.ntmps128
   go_wp2_with (go_at_call 158; refine (Ht.out _).mono ?_; rintro e w1 ⟨rfl, rfl⟩)
   go_ret2
   exact ⟨rfl, Below.refl _ _⟩

set_option maxHeartbeats 400000 in
theorem newreader_some (s : ByteArray) (w : World) (n : Nat) (h : nrd s = some n) :
  Calls Tryz.prog 128 #[.string s] w fun e w' => e = .returned (.tuple #[.pointer (some ⟨w.heap.size, 0, none⟩), .int .i64 0]) ∧ RdAt w' w.heap.size s 0 n ∧ Below w.heap.size w w' := by
 obtain ⟨a1, a2, a3⟩ := nrd_le h
 by_cases h0 : s.size = 0
 ·rw [nrd_none0 h0] at h; cases h
 ·have hpos : 0 < s.size := by omega
  have hlt : s.size - 1 < s.size := by omega
  obtain ⟨x, hx⟩ : ∃ x, s[s.size - 1] = x := ⟨_, rfl⟩
  have hx2 : s.data.toList.getD (s.size - 1) 0 = x := by rw [byte_last s hlt, hx]
  have hE := isEmpty_false s hpos
  have hE2 := toList_ne s hpos
  have hz : x ≠ 0 := fun e => by
   rw [nrd_none1 (hx2.trans e)] at h; cases h
  have hb : ((x.toNat : Int) == 0) = false := by
   rw [beq_eq_false_iff_ne]
   intro e
   exact hz (by
    have e2 : x.toNat = 0 := by omega
    have := congrArg UInt8.ofNat e2
    simpa using this)
  have hn : n = 8 * s.size - 1 - Lib.trailingZeros8 x.toNat := by
   unfold nrd at h
   rw [if_neg h0, hx2, if_neg hz] at h
   split at h
   ·cases h
   ·injection h with h; exact h.symm
  have ht : Lib.trailingZeros8 x.toNat < 8 := (tz8_spec ⟨x.toNat, UInt8.toNat_lt x⟩ (fun e => hz (by
   have := congrArg UInt8.ofNat e
   simpa using this))).1
  have Ht := hide (fun w => Go.Proofs.Tryz.bits_TrailingZeros8 (x.toNat : Int) w (by omega) (by have := UInt8.toNat_lt x; omega))
  rw [Int.toNat_natCast] at Ht
  generalize Lib.trailingZeros8 x.toNat = t at *
  have hc : 8 * (s.size : Int) - 1 - (t : Int) = (n : Int) := by
   have := a2.1
   by_cases h8 : 8 * s.size - 1 < t
   ·omega
   ·omega
  have hq := a2.1
  have hs9 : s.size ≤ 9223372036854775807 := by omega
  clear h hx2 h0 hz hn a2
  go_enter Tryz.func128, Tryz.ntmps128
  go_wp2_with (go_at_call 158; refine (Ht.out _).mono ?_; rintro e w1 ⟨rfl, rfl⟩)
  go_ret2
  exact ⟨rfl, ⟨Bk.new _ _ _, by omega, a1, by omega⟩, (Below.refl _ _).alloc (Nat.le_refl _) _⟩
end Go.Proofs.YtoeeblldgoccoaaGreat.Bio
/-
  The walks over the references: runs of texts, places of texts, the different texts.
-/
namespace Go.Proofs.YtoeeblldgoccoaaGreat
open Go.RowKit Go.Proofs Wv Wv.Vi Wv.Rc Wv.Mo Wv.Ru
set_option linter.unusedVariables false

theorem own_cap {w : World} {base e size n g cap : Nat} {xs : List Value} (h : w.ownsRow base e size (.slice (some ⟨g, 0, none⟩) n cap) n xs) : cap ≤ maxLen := by
 rcases h.2 with ⟨h, _⟩ | ⟨g', cap', cur, hv, _, _, _, hm, _⟩
 ·cases h
 ·injection hv with _ _ hv
  rw [hv]; exact hm
set_option maxHeartbeats 1000000 in
theorem rindex_any {w : World} {A : Option Addr} {l : List ByteArray} (ha : At w A (svs l)) (n cap : Nat) (hn : n = l.length) (hm : n ≤ 9223372036854775807) (s : ByteArray) :
  Calls Tryz.prog 151 #[.slice A n cap, .string s] w fun x w' => x = .returned (.int .i64 (ix l s : Nat)) ∧ w = w' := by
 have Ha := hide ha
 have Hn := hide hn
 have hle := ix_le l s
 rw [← hn] at hle
 clear ha hn
 go_enter Tryz.func151, Tryz.ntmps151
 go_wp2
 go_loop [5] (fun i => ∃ j : Nat, j ≤ ix l s ∧ i = .int .i64 j) (fun i => (n - intOf i).toNat)
 case atStart => exact ⟨0, by omega, rfl⟩
 case round =>
  obtain ⟨j, hj, rfl⟩ := hrel
  by_cases hlt : j < n
  ·have hjl : j < l.length := by rw [← Hn.out]; exact hlt
   obtain ⟨u, hu⟩ : ∃ u, l[j] = u := ⟨_, rfl⟩
   obtain ⟨bA, oA, hA, hbA, hcA⟩ := Ha.out.get j (.string u) (by rw [svs_get l j hjl, hu])
   subst hA
   by_cases hji : j < ix l s
   ·have hne2 : (u.toList == s.toList) = false := by
     rw [str_eq]
     have : u ≠ s := fun e => ix_before j hji (by rw [List.getElem?_eq_getElem hjl, hu, e])
     simp [this]
    have hne : (u.toList != s.toList) = true := by rw [bne, hne2]; rfl
    clear hu
    go_wp2
    go_round
    case rel => exact ⟨j + 1, by omega, by go_num⟩
    case measure => simp [intOf] <;> omega
   ·have hje : j = ix l s := by omega
    have hne2 : (u.toList == s.toList) = true := by
     have hm : s ∈ l := ix_lt.1 (by omega)
     have := ix_get? hm
     rw [← hje, List.getElem?_eq_getElem hjl, hu] at this
     injection this with this
     rw [this]
     exact beq_self_eq_true _
    have hne : (u.toList != s.toList) = false := by rw [bne, hne2]; rfl
    have Hje := hide hje
    clear hu hje hji
    go_wp2
    go_ret
    exact ⟨ret_int (by rw [← Hje.out]), rfl⟩
  ·have hje : j = ix l s := by omega
   have Hje := hide hje
   clear hje
   go_wp2
   go_ret
   exact ⟨ret_int (by rw [← Hje.out]), rfl⟩
set_option maxHeartbeats 1000000 in
theorem rdict_all {w : World} {A : Option Addr} {l : List ByteArray} (ha : At w A (svs l)) (n cap : Nat) (hn : n = l.length) (hm : n ≤ 4096) :
  Calls Tryz.prog 114 #[.slice A n cap] w fun x w' => ∃ A' cap', x = .returned (.slice A' (dict l).length cap') ∧ At w' A' (svs (dict l)) ∧ Below w.heap.size w w' ∧ (∀ b o, A' = some ⟨b, o, none⟩ → w.heap.size ≤ b) := by
 have Ha := hide ha
 have Hn := hide hn
 have ho0 := hide (own_made0 9 w)
 have hb0 := hide ((Below.refl w.heap.size w).alloc (Nat.le_refl _) (.cells #[] 9))
 clear ha hn
 go_enter Tryz.func114, Tryz.ntmps114
 go_wp2
 go_loopw [3, 4] (fun v i wr => ∃ k : Nat, k ≤ n ∧ i = .int .i64 k ∧ wr.ownsRow w.heap.size 9 1 v (dict (l.take k)).length (svs (dict (l.take k))) ∧ Below w.heap.size w wr) (fun _ i _ => (n - intOf i).toNat)
 case atStart => exact ⟨0, by omega, rfl, ho0.out, hb0.out⟩
 case round =>
  clear ho0 hb0
  obtain ⟨k, hk, rfl, hown, hf⟩ := hrel
  have hdl := dict_length (l.take k)
  rw [List.length_take] at hdl
  by_cases hlt : k < n
  ·have hkl : k < l.length := by rw [← Hn.out]; exact hlt
   obtain ⟨s, hs⟩ : ∃ s, l[k] = s := ⟨_, rfl⟩
   obtain ⟨bA, oA, hA, hbA, hcA⟩ := (Ha.out.below hf).get k (.string s) (by rw [svs_get l k hkl, hs])
   subst hA
   obtain ⟨d1, d2⟩ := dict_take l k hkl
   rw [hs] at d1 d2
   obtain ⟨D, hD⟩ : ∃ D, dict (l.take k) = D := ⟨_, rfl⟩
   rw [hD] at d1 d2 hown hdl
   obtain ⟨A4, cap4, hv4, hat4⟩ := own_at hown
   subst hv4
   have Hi := hide (rindex_any hat4 D.length cap4 rfl (by omega) s)
   by_cases hin : s ∈ D
   ·have hne : ((ix D s : Int) == (D.length : Int)) = false := by
     rw [beq_eq_false_iff_ne]
     have := ix_lt.2 hin
     omega
    have Hd := hide (d1 hin)
    have Hown := hide hown
    clear d1 d2 hs hD hin hown hdl hat4
    go_wp2_with fail
    refine (Hi.out).mono ?_
    rintro x w1 ⟨rfl, rfl⟩
    go_wp2
    go_roundw
    case rel => exact ⟨k + 1, by omega, by go_num, by rw [Hd.out]; exact Hown.out, hf⟩
    case measure => simp [intOf] <;> omega
   ·have hixe : ix D s = D.length := by
     have h1 := ix_le D s
     have h2 : ¬ ix D s < D.length := fun h => hin (ix_lt.1 h)
     omega
    rw [hixe] at Hi
    obtain ⟨v', w1, hrun, hown1, hf1, _⟩ := app_own (P := Tryz.prog) 22 9 _ _ Tryz.underlying22 strinf rfl hown hf hf.size (.string s) rfl (by unfold maxLen; omega) (by omega)
    have Hd := hide (d2 hin)
    have Hrun := hide hrun
    have Hown1 : Hid (w1.ownsRow w.heap.size 9 1 v' (D ++ [s]).length (svs (D ++ [s]))) := hide (by
     rw [List.length_append]
     unfold svs at hown1 ⊢
     rw [List.map_append]
     exact hown1)
    have Hf1 := hide hf1
    clear d1 d2 hs hD hin hown hdl hat4 hrun hown1 hf1 hf hixe
    go_wp2_with fail
    refine (Hi.out).mono ?_
    rintro x w2 ⟨rfl, rfl⟩
    go_wp2_with (
     at_builtin
     refine wpList_run (by with_reducible rfl) rfl _ _ _ rfl _ _ (by rfl) (by rfl) Hrun.out ?_)
    go_roundw
    case rel => exact ⟨k + 1, by omega, by go_num, by rw [Hd.out]; exact Hown1.out, Hf1.out⟩
    case measure => simp [intOf] <;> omega
  ·have hkn : k = n := by omega
   have htk : l.take k = l := List.take_of_length_le (by rw [← Hn.out]; omega)
   rw [htk] at hown
   obtain ⟨A4, cap4, hv4, hat4⟩ := own_at hown
   subst hv4
   have Hat := hide hat4
   have Hfar := hide (fun (b o : Nat) (h : A4 = some ⟨b, o, none⟩) => (hown.lt b (by rw [h]; rfl)).1)
   clear htk hown hat4 hdl
   go_wp2
   go_returns
   exact ⟨A4, cap4, rfl, Hat.out, hf, Hfar.out⟩
theorem rdict_any {w : World} {A : Option Addr} {l : List ByteArray} (ha : At w A (svs l)) (n cap : Nat) (hn : n = l.length) (hm : n ≤ 4096) :
  Calls Tryz.prog 114 #[.slice A n cap] w fun x w' => DRes w (dict l) x w' :=
 (rdict_all ha n cap hn hm).mono fun x w' ⟨A', cap', hx, hat, hb, _⟩ => ⟨_, hx, ⟨A', cap', rfl, hat⟩, hb⟩
set_option maxHeartbeats 1000000 in
theorem rrow_any (w : World) :
  Calls Tryz.prog 153 #[] w fun x w' => ∃ A cap, x = .returned (.slice A 4096 cap) ∧ (4096 ≤ cap ∧ cap ≤ maxLen) ∧ At w' A (ns r0) ∧ Below w.heap.size w w' ∧ (∀ b o, A = some ⟨b, o, none⟩ → w.heap.size ≤ b) := by
 have ho0 := hide (own_made0 3 w)
 have hb0 := hide ((Below.refl w.heap.size w).alloc (Nat.le_refl _) (.cells #[] 3))
 go_enter Tryz.func153, Tryz.ntmps153
 go_wp2
 go_loopw [1, 2] (fun v i wr => ∃ k : Nat, k ≤ 4096 ∧ i = .int .i64 k ∧ wr.ownsRow w.heap.size 3 1 v k (ns (List.range k)) ∧ Below w.heap.size w wr) (fun _ i _ => (4096 - intOf i).toNat)
 case atStart => exact ⟨0, by omega, rfl, ho0.out, hb0.out⟩
 case round =>
  clear ho0 hb0
  obtain ⟨k, hk, rfl, hown, hf⟩ := hrel
  by_cases hlt : k < 4096
  ·have hlt2 : (k : Int) < 4096 := by omega
   obtain ⟨v', w1, hrun, hown1, hf1, _⟩ := app_own (P := Tryz.prog) 85 3 _ _ Tryz.underlying85 intinf rfl hown hf hf.size (.int .i64 (k : Int)) rfl (by unfold maxLen; omega) (by omega)
   rw [← ns_snoc, ← List.range_succ] at hown1
   have Hrun := hide hrun
   have Hown1 := hide hown1
   have Hf1 := hide hf1
   have Hk := hide (And.intro hk hlt)
   clear hrun hown hown1 hf1 hf hk hlt
   go_wp2_with (
    at_builtin
    refine wpList_run (by with_reducible rfl) rfl _ _ _ rfl _ _ (by rfl) (by rfl) Hrun.out ?_)
   go_roundw
   case rel => exact ⟨k + 1, (by have := Hk.out; omega), by go_num, Hown1.out, Hf1.out⟩
   case measure => simp [intOf] <;> omega
  ·have hk2 : k = 4096 := by omega
   clear hk hlt
   subst hk2
   obtain ⟨g, capg, hvg, hcg⟩ := own_form hown (by omega)
   subst hvg
   obtain ⟨A4, cap4, hv4, hat4⟩ := own_at hown
   injection hv4 with h1 h2 h3
   subst h1; subst h3
   have Hat := hide hat4
   have Hcg := hide (And.intro hcg (own_cap hown))
   have hgl := hide ((hown.lt g rfl).1)
   clear hown hat4 hcg h2
   go_wp2
   go_returns
   exact ⟨_, capg, rfl, Hcg.out, Hat.out, hf, fun b o h => by injection h with h; injection h with h; have := hgl.out; omega⟩
set_option maxHeartbeats 1000000 in
theorem rcheck_any {w : World} {A : Option Addr} {l : List Int} (ha : At w A (ivs l)) (n cap : Nat) (hn : n = l.length) (hm : n ≤ 9223372036854775807) :
  Calls Tryz.prog 152 #[.slice A n cap] w fun x w' => x = .returned (.int .i64 (chkn l : Nat)) ∧ w = w' := by
 have Ha := hide ha
 have Hn := hide hn
 by_cases h4 : 4096 < n
 ·have hc : chkn l = 9 := by unfold chkn; rw [if_pos (by omega)]
  have Hc := hide hc
  have h42 : (4096 : Int) < (n : Int) := by omega
  clear ha hn hc h4
  go_enter Tryz.func152, Tryz.ntmps152
  go_wp2
  go_ret
  exact ⟨ret_int (by rw [Hc.out]; rfl), rfl⟩
 ·have hc : chkn l = if ∀ n ∈ l, 0 ≤ n ∧ n < 4096 then 0 else 2 := by unfold chkn; rw [if_neg (by omega)]
  have Hc := hide hc
  have h42 : ¬ (4096 : Int) < (n : Int) := by omega
  clear ha hn hc
  go_enter Tryz.func152, Tryz.ntmps152
  go_wp2
  go_loop [3] (fun i => ∃ k : Nat, k ≤ n ∧ i = .int .i64 k ∧ Hid (∀ v ∈ l.take k, 0 ≤ v ∧ v < 4096)) (fun i => (n - intOf i).toNat)
  case atStart => exact ⟨0, by omega, rfl, hide (by simp)⟩
  case round =>
   obtain ⟨k, hk, rfl, hall⟩ := hrel
   by_cases hlt : k < n
   ·have hkl : k < l.length := by rw [← Hn.out]; exact hlt
    obtain ⟨v, hv⟩ : ∃ v, l[k] = v := ⟨_, rfl⟩
    obtain ⟨bA, oA, hA, hbA, hcA⟩ := Ha.out.get k (.int .i64 v) (by rw [← hv]; simp [ivs, iv, hkl])
    subst hA
    by_cases hbad : v < 0 ∨ 4096 ≤ v
    ·have hr : chkn l = 2 := by
      rw [Hc.out, if_neg]
      intro h
      have := h v (hv ▸ List.getElem_mem _)
      omega
     have Hr := hide hr
     have hb2 : v < 0 ∨ (¬ v < 0 ∧ (4096 : Int) ≤ v) := by omega
     clear hr hv hbad
     rcases hb2 with b1 | ⟨b1, b2⟩
     all_goals
      go_wp2
      go_ret
      exact ⟨ret_int (by rw [Hr.out]; rfl), rfl⟩
    ·have b1 : ¬ v < 0 := by omega
     have b2 : ¬ (4096 : Int) ≤ v := by omega
     have hall2 : Hid (∀ u ∈ l.take (k + 1), 0 ≤ u ∧ u < 4096) := hide (by
      intro u hu
      rw [List.take_succ_eq_append_getElem hkl, hv] at hu
      rcases List.mem_append.1 hu with h | h
      ·exact hall.out u h
      ·rw [List.mem_singleton] at h; omega)
     clear hv hbad
     go_wp2
     go_round
     case rel => exact ⟨k + 1, by omega, by go_num, hall2⟩
     case measure => simp [intOf] <;> omega
   ·have hkn : k = n := by omega
    have hr : chkn l = 0 := by
     rw [Hc.out, if_pos]
     intro v hv
     refine hall.out v ?_
     rw [List.take_of_length_le (by rw [← Hn.out]; omega)]
     exact hv
    have Hr := hide hr
    clear hr
    go_wp2
    go_ret
    exact ⟨ret_int (by rw [Hr.out]; rfl), rfl⟩
end Go.Proofs.YtoeeblldgoccoaaGreat
/-
  The walks over the references: runs of texts, places of numbers.
-/
namespace Go.Proofs.YtoeeblldgoccoaaGreat
open Go.RowKit Go.Proofs Wv Wv.Vi Wv.Rc Wv.Mo Wv.Ru
set_option linter.unusedVariables false
theorem own_made1 (w : World) (e : TypeId) (x : Value) : (w.alloc (.cells #[x] e)).ownsRow w.heap.size e 1 (.slice (some ⟨w.heap.size, 0, none⟩) 1 1) 1 [x] :=
 ⟨by simp, .inr ⟨w.heap.size, 1, #[x], rfl, Nat.le_refl _, heap_alloc_new w _, Nat.le_refl _, by unfold maxLen; omega, by simp, by simp⟩⟩
theorem ns_append (a b : List Nat) : ns (a ++ b) = ns a ++ ns b := by simp [ns, ivs]
theorem at_take {w : World} {A : Option Addr} {t : List Nat} (h : At w A (ns t)) (p : Nat) : At w A (ns (t.take p)) := by
 intro i hi
 rw [ns_len, List.length_take] at hi
 obtain ⟨b, o, hA, hb, hc⟩ := h i (by rw [ns_len]; omega)
 refine ⟨b, o, hA, hb, hc.trans ?_⟩
 simp [ns, ivs]
theorem at_drop {w : World} {b o : Nat} {t : List Nat} (h : At w (some ⟨b, o, none⟩) (ns t)) (p : Nat) : At w (some ⟨b, o + p, none⟩) (ns (t.drop p)) := by
 intro i hi
 rw [ns_len, List.length_drop] at hi
 obtain ⟨b', o', hA, hb, hc⟩ := h (p + i) (by rw [ns_len]; omega)
 injection hA with hA
 injection hA with hA hO
 subst hA; subst hO
 refine ⟨b, o + p, rfl, hb, ?_⟩
 rw [Nat.add_assoc, hc]
 simp [ns, ivs]
set_option maxRecDepth 100000 in
set_option maxHeartbeats 2000000 in
theorem rmoved_any {w : World} {A : Option Addr} {r : List Nat} (ha : At w A (ns r)) (hr : r.length = 4096) (cap : Nat) (hcap : 4096 ≤ cap) (hcm : cap ≤ maxLen) (p : Nat) (hp : p < 4096) :
  Calls Tryz.prog 154 #[.slice A 4096 cap, .int .i64 (p : Int)] w fun x w' => ∃ A' cap', x = .returned (.slice A' 4096 cap') ∧ (4096 ≤ cap' ∧ cap' ≤ maxLen) ∧ At w' A' (ns (movef r p)) ∧ Below w.heap.size w w' ∧ (∀ b o, A' = some ⟨b, o, none⟩ → w.heap.size ≤ b) := by
 obtain ⟨bA, oA, hA, hbA, hcA⟩ := ha.get p _ (ns_get r p (by omega))
 subst hA
 obtain ⟨z, hz⟩ : ∃ z, r.getD p 0 = z := ⟨_, rfl⟩
 rw [hz] at hcA
 obtain ⟨q, hq⟩ : ∃ q, p + 1 = q := ⟨_, rfl⟩
 have h1 := own_made1 w 3 (.int .i64 (z : Int))
 have h1' : (w.alloc (.cells #[.int .i64 (z : Int)] 3)).drew.ownsRow w.heap.size 3 1 (.slice (some ⟨w.heap.size, 0, none⟩) 1 1) 1 [.int .i64 (z : Int)] := h1
 obtain ⟨v1, w1, e1, o1, g1, _⟩ := run_appAt (P := Tryz.prog) 85 3 _ _ Tryz.underlying85 intinf rfl h1' ((at_take ha p).alloc (.cells #[.int .i64 (z : Int)] 3)).drew cap p (by rw [ns_len, List.length_take]; omega) (fun h => by cases h) (ns_one _) (by unfold maxLen; omega) (by omega) (by show _ ≤ (w.alloc _).heap.size; simp)
 have hb1 : Below w.heap.size w w1 := (((Below.refl w.heap.size w).alloc (Nat.le_refl _) (.cells #[.int .i64 (z : Int)] 3)).drew).grown g1 (by show _ ≤ (w.alloc _).heap.size; simp) (fun k hk => by simp [Value.ownBlock] at hk; omega)
 have haq : At w (if cap = q then some ⟨bA, oA, none⟩ else some ⟨bA, oA + q, none⟩) (ns (r.drop q)) := by
  split
  ·rw [List.drop_of_length_le (by omega)]
   exact At.nil _ _
  ·exact at_drop ha q
 obtain ⟨v2, w2, e2, o2, g2, _⟩ := run_appAt (P := Tryz.prog) 85 3 _ _ Tryz.underlying85 intinf rfl o1 (haq.below hb1) (cap - q) (4096 - q) (by rw [ns_len, List.length_drop]; omega) (fun h => by split at h <;> cases h) (ns_one _) (by unfold maxLen; omega) (by omega) hb1.size
 have hb2 : Below w.heap.size w w2 := hb1.grown g2 hb1.size (fun k hk => (o1.lt k hk).1)
 have hmv : [.int .i64 (z : Int)] ++ ns (r.take p) ++ ns (r.drop q) = ns (movef r p) := by
  subst hq
  unfold movef
  rw [hz, List.eraseIdx_eq_take_drop_succ, show z :: (r.take p ++ r.drop (p + 1)) = [z] ++ (r.take p ++ r.drop (p + 1)) from rfl, ns_append, ns_append, List.append_assoc]
  rfl
 rw [hmv, show 1 + p + (4096 - q) = 4096 from by omega] at o2
 obtain ⟨A1, M1, cap1, rfl⟩ := own_slice o1
 obtain ⟨g, cap2, hvg, hcg⟩ := own_form o2 (by omega)
 subst hvg
 obtain ⟨A4, cap4, hv4, hat4⟩ := own_at o2
 injection hv4 with h5 h6 h7
 subst h5; subst h7
 have hcm2 := own_cap o2
 have hgl := (o2.lt g rfl).1
 have E1 := hide e1
 have E2 := hide e2
 have Hfin := hide (And.intro hat4 (And.intro hb2 (And.intro hcg hcm2)))
 have Hb1 := hide hb1
 have hp2 : (p : Int) < 4096 := by omega
 have hcap2 : (p : Int) ≤ (cap : Int) := by omega
 have hcap3 : (4096 : Int) ≤ (cap : Int) := by omega
 have i1 : IntKind.i64.wrap ((p : Int) + 1) = (q : Int) := by rw [IntWalk.i64_in _ (by omega)]; omega
 have hq2 : (q : Int) ≤ 4096 := by omega
 have hq3 : (q : Int) ≤ (cap : Int) := by omega
 have hq4 : (0 : Int) ≤ (q : Int) := by omega
 clear e1 e2 o1 o2 g1 g2 h1 h1' hb1 hb2 hmv ha hat4 hcg hcm2 hz h6 hr hq haq
 have n0 := World.new_ne _ _ hcA
 have c1 : w1.cell? ⟨bA, oA + p, none⟩ = some (.int .i64 (z : Int)) := (Hb1.out.cell (p := ⟨bA, oA + p, none⟩) hbA).trans hcA
 have c2 : w2.cell? ⟨bA, oA + p, none⟩ = some (.int .i64 (z : Int)) := (Hfin.out.2.1.cell (p := ⟨bA, oA + p, none⟩) hbA).trans hcA
 go_enter Tryz.func154, Tryz.ntmps154
 go_wp2
 go_region_held3 (fun W => W.cell? ⟨bA, oA + p, none⟩ = some (.int .i64 (z : Int))) (first | go_keep)
  ((first | (refine step_at (w.alloc (.cells #[.int .i64 (z : Int)] 3)).drew (by with_reducible rfl) ?_; refine step_run (by rfl) _ _ _ (by rfl) _ _ (by rfl) (by rfl) E1.out ?_) | (refine step_at w1 (by with_reducible rfl) ?_; refine step_run (by rfl) _ _ _ (by rfl) _ _ (by rfl) (by rfl) E2.out ?_)))
 go_wp2
 all_goals
  go_returns
  exact ⟨_, cap2, rfl, Hfin.out.2.2, Hfin.out.1, Hfin.out.2.1, fun b o h => by injection h with h; injection h with h; omega⟩
theorem ivs_ns {l : List Int} (h : ∀ n ∈ l, 0 ≤ n ∧ n < 4096) : ivs l = ns (l.map Int.toNat) := by
 unfold ns
 rw [map_toNat_nat h]
set_option maxRecDepth 100000 in
set_option maxHeartbeats 2000000 in
theorem rfront_any {w : World} {A : Option Addr} {l : List Int} (ha : At w A (ivs l)) (n cap : Nat) (hn : n = l.length) (hm : n ≤ 9223372036854775807) :
  Calls Tryz.prog 116 #[.slice A n cap] w fun x w' => NRes w x w' (front l) := by
 have Hc := hide (rcheck_any ha n cap hn hm)
 by_cases hc : chkn l = 0
 ·obtain ⟨h1, h2⟩ := front_ok hc
  have hf : front l = (frontA r0 (l.map Int.toNat), 0) := by unfold front; rw [if_pos hc]
  rw [hf]
  rw [hc] at Hc
  have hin := mem_r0 h2
  rw [ivs_ns h2] at ha
  have hln : n = (l.map Int.toNat).length := by rw [List.length_map]; exact hn
  generalize l.map Int.toNat = L at *
  have ho0 := hide (own_made0 3 w)
  have hb0 := hide ((Below.refl w.heap.size w).alloc (Nat.le_refl _) (.cells #[] 3))
  have Hrow := hide (rrow_any (w.alloc (.cells #[] 3)))
  have Ha := hide ha
  have Hn := hide hln
  have Hin := hide hin
  have hn4 : n ≤ 4096 := by omega
  clear ha hln hn hin h1 h2 hc hf hm
  go_enter Tryz.func116, Tryz.ntmps116
  go_wp2_with fail
  refine (Hc.out).mono ?_
  rintro x w1 ⟨rfl, rfl⟩
  go_wp2_with fail
  refine (Hrow.out).mono ?_
  rintro x w1 ⟨A1, cap1, rfl, ⟨hc1, hcm1⟩, hat1, hb1, hfar1⟩
  have hbb := hb0.out.trans (hb1.mono (by simp))
  have ho1 := own_fr ho0.out (Fr.of_below (S := nob) hb1) (fun g hg h => h)
  have hfar : Hid (∀ b o, A1 = some ⟨b, o, none⟩ → (Value.slice (some ⟨w.heap.size, 0, none⟩) 0 0).ownBlock ≠ some b) := hide (fun b o h => by
   have := hfar1 b o h
   simp at this
   simp [Value.ownBlock]
   omega)
  have Hc1 := hide (And.intro hc1 hcm1)
  have Hat1 := hide hat1
  have Hbb := hide hbb
  have Ho1 := hide ho1
  clear hat1 hb1 hfar1 hbb ho1 hc1 hcm1 ho0 hb0 Hrow Hc
  go_wp2
  go_loopw [5, 6, 7] (fun v5 v6 i wr => ∃ (k cap' : Nat) (Ar : Option Addr), k ≤ n ∧ i = .int .i64 k ∧ v6 = .slice Ar 4096 cap' ∧ Hid (4096 ≤ cap' ∧ cap' ≤ maxLen) ∧ At wr Ar (ns (rowF r0 (L.take k))) ∧ wr.ownsRow w.heap.size 3 1 v5 k (ns (frontA r0 (L.take k))) ∧ Hid (∀ b o, Ar = some ⟨b, o, none⟩ → v5.ownBlock ≠ some b) ∧ Below w.heap.size w wr) (fun _ _ i _ => (n - intOf i).toNat)
  case atStart => exact ⟨0, cap1, A1, by omega, rfl, rfl, Hc1, Hat1.out, Ho1.out, hfar, Hbb.out⟩
  case round =>
   clear Hc1 Hat1 Ho1 hfar Hbb
   obtain ⟨k, cap', Ar, hk, rfl, rfl, hcap, hat, hown, hfar, hf⟩ := hrel
   by_cases hlt : k < n
   ·have hkl : k < L.length := by rw [← Hn.out]; exact hlt
    obtain ⟨v, hv⟩ : ∃ v, L.getD k 0 = v := ⟨_, rfl⟩
    have hvL : L[k] = v := by rw [← hv]; simp [List.getD, hkl]
    obtain ⟨bA, oA, hA, hbA, hcA⟩ := (Ha.out.below hf).get k _ (ns_get L k hkl)
    subst hA
    rw [hv] at hcA
    obtain ⟨s1, s2⟩ := frontA_snoc (L.take k) v r0
    rw [← hvL, ← List.take_succ_eq_append_getElem hkl, hvL] at s1 s2
    obtain ⟨q1, q2⟩ := rowF_ok (L.take k) r0 (fun m hm => Hin.out m (List.mem_of_mem_take hm))
    have hvr := q2 v (Hin.out v (hvL ▸ List.getElem_mem _))
    have hr0 : r0.length = 4096 := by simp [r0]
    rw [hr0] at q1
    obtain ⟨R, hR⟩ : ∃ R, rowF r0 (L.take k) = R := ⟨_, rfl⟩
    rw [hR] at s1 s2 q1 hvr hat
    have hix := ix_lt.2 hvr
    obtain ⟨p, hp⟩ : ∃ p, ix R v = p := ⟨_, rfl⟩
    have hbef := @ix_before _ _ R v
    have hget := ix_get? hvr
    rw [hp] at s1 s2 hix hbef hget
    rw [q1] at hix
    obtain ⟨bR, oR, hAr, hbR, _⟩ := hat.get 0 _ (ns_get R 0 (by omega))
    subst hAr
    have Hat := hide hat
    have Hown := hide hown
    have Hf := hide hf
    have Hbef := hide hbef
    have Hget := hide hget
    have Hq1 := hide q1
    have Hix := hide hix
    have S1 := hide s1
    have S2 := hide s2
    have hkn0 : (0 : Int) ≤ (k : Int) := by omega
    have hkn1 : (k : Int) < (n : Int) := by omega
    clear hat hown hf hbef hget q1 q2 s1 s2 hix hvr hr0 hR hp hv hvL Ha
    go_wp2
    go_loopw [8] (fun a wx => ∃ j : Nat, j ≤ p ∧ a = .int .i64 j ∧ ∃ q, wx = wr.drewN q) (fun a _ => (p - intOf a).toNat)
    case atStart => exact ⟨0, by omega, rfl, 0, rfl⟩
    case round =>
     obtain ⟨j, hj, rfl, q, rfl⟩ := hrel
     have hjR : j < R.length := by rw [Hq1.out]; have := Hix.out; omega
     obtain ⟨y, hy⟩ : ∃ y, R.getD j 0 = y := ⟨_, rfl⟩
     have hjy : R[j]? = some y := by rw [List.getElem?_eq_getElem hjR, ← hy]; simp [List.getD, hjR]
     obtain ⟨b3, o3, hA3, _, hcR⟩ := Hat.out.get j _ (ns_get R j hjR)
     injection hA3 with hA3
     injection hA3 with hA3 hO3
     subst hA3; subst hO3
     rw [hy] at hcR
     have hj0 : (0 : Int) ≤ (j : Int) := by omega
     have hj1 : (j : Int) < 4096 := by have := Hix.out; omega
     by_cases hlt2 : j < p
     ·have hne : ((y : Int) != (v : Int)) = true := by
       rw [bne_iff_ne]
       intro e
       exact Hbef.out j hlt2 (by rw [hjy]; congr 1; omega)
      clear hy hjy hjR
      go_wp2
      go_quiet (fail)
      go_wp2
      refine ⟨⟨j + 1, by omega, by go_num, q + nq, by first | rfl | rw [World.drewN_drewN]⟩, ?_⟩
      simp [intOf] <;> omega
     ·have hjp : j = p := by omega
      have hne : ((y : Int) != (v : Int)) = false := by
       have := Hget.out
       rw [← hjp, hjy] at this
       injection this with this
       rw [this]
       exact bne_self_eq_false _
      subst hjp
      clear hy hjy hjR hlt2 hj
      go_upto_region 11 with fail
      go_quiet (fail)
      try simp only [World.drewN_drewN]
      have hatM := Hat.out.drewN (q + nq)
      have hownM : (wr.drewN (q + nq)).ownsRow w.heap.size 3 1 u5 k (ns (frontA r0 (L.take k))) := Hown.out
      have hfM := bdN Hf.out (q + nq)
      generalize wr.drewN (q + nq) = W at *
      obtain ⟨v', w3, hrun, hown3, hf3, hblk, hsz3, hkeep⟩ := app_own2 (P := Tryz.prog) 85 3 _ _ Tryz.underlying85 intinf rfl hownM hfM hfM.size (.int .i64 (j : Int)) rfl (by unfold maxLen; omega) (by omega)
      have hat3 := hkeep _ _ hatM hfar.out
      have Hm := hide (rmoved_any hat3 Hq1.out cap' hcap.out.1 hcap.out.2 j Hix.out)
      have Hrun := hide hrun
      have Hown3 : Hid (w3.ownsRow w.heap.size 3 1 v' (k + 1) (ns (frontA r0 (L.take (k + 1))))) := hide (by rw [S1.out, ns_snoc]; exact hown3)
      have Hf3 := hide hf3
      clear hcR hcA hatM hownM hfM hrun hown3 hf3 hblk hsz3 hkeep hat3 hne
      go_wp2_with (
       at_builtin
       refine wpList_run (by with_reducible rfl) rfl _ _ _ rfl _ _ (by rfl) (by rfl) Hrun.out ?_)
      refine (Hm.out).mono ?_
      rintro x w4 ⟨A4, cap4, rfl, hcp4, hat4, hb4, hfar4⟩
      have hf4 := Hf3.out.trans (hb4.mono Hf3.out.size)
      have ho4 := own_fr Hown3.out (Fr.of_below (S := nob) hb4) (fun g hg h => h)
      have Hfar4 : Hid (∀ b o, A4 = some ⟨b, o, none⟩ → v'.ownBlock ≠ some b) := hide (fun b o h hs => by
       have h5 := hfar4 b o h
       have h6 := (Hown3.out.lt b hs).2
       omega)
      have Hf4 := hide hf4
      have Ho4 := hide ho4
      have Hat4 := hide hat4
      have Hcp4 := hide hcp4
      clear hf4 ho4 hat4 hb4 hfar4 hcp4 Hm Hrun Hown3 Hf3
      go_wp2
      refine ⟨⟨k + 1, cap4, A4, by omega, by go_num, rfl, Hcp4.out, by rw [S2.out]; exact Hat4.out, Ho4.out, Hfar4, Hf4.out⟩, ?_⟩
      simp [intOf] <;> omega
   ·have hkn : k = n := by omega
    have htk : L.take k = L := List.take_of_length_le (by rw [← Hn.out]; omega)
    rw [htk] at hown
    obtain ⟨A4, cap4, hv4, hat4⟩ := own_at hown
    subst hv4
    have Hat4 := hide hat4
    have hfl : (frontA r0 L).length = k := by rw [frontA_length, ← Hn.out, hkn]
    have Hfl := hide hfl
    clear htk hown hat4 hat Ha hfl
    go_wp2
    go_returns
    exact ⟨_, rfl, ⟨A4, cap4, by simp only [List.length_map]; rw [Hfl.out]; rfl, Hat4.out⟩, hf⟩
 ·have hf : front l = ([], chkn l) := by unfold front; rw [if_neg hc]
  rw [hf]
  obtain ⟨e, he⟩ : ∃ e, chkn l = e := ⟨_, rfl⟩
  rw [he] at Hc hc ⊢
  have hne : ((e : Int) != 0) = true := by rw [bne_iff_ne]; omega
  have hb := hide (Below.refl w.heap.size w)
  clear he hf hc ha hn hm
  go_enter Tryz.func116, Tryz.ntmps116
  go_wp2_with fail
  refine (Hc.out).mono ?_
  rintro x w1 ⟨rfl, rfl⟩
  go_wp2
  go_returns
  exact nres_err e hb.out
end Go.Proofs.YtoeeblldgoccoaaGreat
