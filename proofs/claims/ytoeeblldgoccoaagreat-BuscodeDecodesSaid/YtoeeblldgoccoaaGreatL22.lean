/-
  Joined texts: Rd, Re, Rf, Rg.
-/
import Derived.Test.YtoeeblldgoccoaaGreatL21
set_option linter.unusedVariables false
set_option linter.unusedSimpArgs false
set_option maxRecDepth 100000
set_option maxHeartbeats 8000000
namespace Go.Proofs.YtoeeblldgoccoaaGreat
open Go.RowKit Go.Proofs Wv Wv.Vi Wv.Rc Wv.Mo Wv.Ru
theorem each_bad_unfront {w : World} {A : Option Addr} {l : List Int} (ha : At w A (ivs l)) (n cap : Nat) (hn : n = l.length) (hm : n ≤ 9223372036854775807) (hb : chkn l ≠ 0) :
  Calls Tryz.prog 211 #[.slice A n cap, .func (.func 221) #[] #[]] w fun x w' => NRes w x w' ([], chkn l) := by
 have Ha := hide ha;have Hlen := hide hn;have hbel : Below w.heap.size w w := Below.refl _ _
 by_cases h9 : 4096 < n
 ·have hc : Hid (chkn l = 9) := hide (by unfold chkn; rw [if_pos (by omega)])
  have h92 : (4096 : Int) < (n : Int) := by omega
  clear ha hn hb h9
  go_enter Tryz.func211, Tryz.ntmps211
  go_wp2
  go_returns
  rw [hc.out];exact nres_err 9 hbel
 ·have hc : Hid (chkn l = 2) := hide (by
   unfold chkn at hb ⊢;rw [if_neg (by omega)] at hb ⊢
   by_cases h : ∀ n ∈ l, 0 ≤ n ∧ n < 4096
   ·rw [if_pos h] at hb; exact absurd rfl hb
   ·rw [if_neg h])
  have hbad : Hid (¬ ∀ n ∈ l, 0 ≤ n ∧ n < 4096) := hide (by
   intro h
   apply hb
   exact chkn_ok (by omega) h)
  have h92 : ¬ (4096 : Int) < (n : Int) := by omega
  clear ha hn hb h9
  go_enter Tryz.func211, Tryz.ntmps211
  go_wp2
  go_loop [7, 19] (fun _ i => ∃ k : Nat, k ≤ n ∧ i = .int .i64 k ∧ Hid (∀ v ∈ l.take k, 0 ≤ v ∧ v < 4096)) (fun _ i => (n - intOf i).toNat)
  case atStart => exact ⟨0, by omega, rfl, hide (by simp)⟩
  case round =>
   obtain ⟨k, hk, rfl, hall⟩ := hrel
   by_cases hlt : k < n
   ·have hkl : k < l.length := by rw [← Hlen.out]; exact hlt
    obtain ⟨v, hv⟩ : ∃ v, l.getD k 0 = v := ⟨_, rfl⟩
    have hlk : l[k] = v := by rw [← hv]; simp [List.getD, hkl]
    obtain ⟨bA, oA, hA, hbA, hcA⟩ := Ha.out.get k (.int .i64 v) (by rw [ivs_get _ _ hkl, hv]);subst hA
    by_cases hok : 0 ≤ v ∧ v < 4096
    ·obtain ⟨o1, o2⟩ := hok
     have o3 : ¬ v < 0 := by omega
     have o4 : ¬ 4096 ≤ v := by omega
     have hall2 : Hid (∀ u ∈ l.take (k + 1), 0 ≤ u ∧ u < 4096) := hide (by
      intro u hu;rw [List.take_succ_eq_append_getElem hkl, hlk] at hu
      rcases List.mem_append.1 hu with h | h
      ·exact hall.out u h
      ·rw [List.mem_singleton] at h; omega)
     clear hv hlk
     go_wp2
     go_round
     case rel => exact ⟨k + 1, by omega, by go_num, hall2⟩
     case measure => simp [intOf] <;> omega
    ·clear hv hlk
     by_cases o1 : v < 0
     ·clear hok
      go_wp2
      go_returns
      rw [hc.out];exact nres_err 2 hbel
     ·have o2 : 4096 ≤ v := by omega
      clear hok
      go_wp2
      go_returns
      rw [hc.out];exact nres_err 2 hbel
   ·exfalso
    apply hbad.out
    have := hall.out
    rwa [List.take_of_length_le (by rw [← Hlen.out]; omega)] at this
theorem each_ok_unfront {w : World} {A : Option Addr} {l : List Nat} (ha : At w A (ivs (l.map Int.ofNat))) (n cap : Nat) (hn : n = l.length) (hl : l.length ≤ 4096) (hv : ∀ v ∈ l, v < 4096) :
  Calls Tryz.prog 211 #[.slice A n cap, .func (.func 221) #[] #[]] w fun x w' => NRes w x w' (unfrontA r0 l, 0) := by
 have Ha := hide ha;have Hlen := hide hn;have Hv := hide hv
 have hn4 : n ≤ 4096 := by omega
 have h92 : ¬ (4096 : Int) < (n : Int) := by omega
 have Hrow := hide (row_any w);have Hin := hide (fun (v : Nat) (h : v < 4096) => show v ∈ r0 from List.mem_range.2 h);have Hlr := hide (show r0.length = 4096 from List.length_range);clear ha hn hv hl
 go_enter Tryz.func211, Tryz.ntmps211
 go_wp2
 go_loop [7, 19] (fun _ i => ∃ k : Nat, k ≤ n ∧ i = .int .i64 k) (fun _ i => (n - intOf i).toNat)
 case atStart => exact ⟨0, by omega, rfl⟩
 case round =>
  obtain ⟨k, hk, rfl⟩ := hrel
  by_cases hlt : k < n
  ·have hkl : k < l.length := by rw [← Hlen.out]; exact hlt
   obtain ⟨v, hvk⟩ : ∃ v, l.getD k 0 = v := ⟨_, rfl⟩
   have hv4 : v < 4096 := by
    have h1 : l.getD k 0 = l[k] := by simp [List.getD, hkl]
    rw [← hvk, h1];exact Hv.out _ (List.getElem_mem _)
   obtain ⟨bA, oA, hA, hbA, hcA⟩ := Ha.out.get k (.int .i64 (v : Int)) (by
    rw [ivs_get _ _ (by rw [List.length_map]; exact hkl)]
    have h1 : (l.map Int.ofNat).getD k 0 = ((l.getD k 0 : Nat) : Int) := by simp [List.getD, hkl]
    rw [h1, hvk])
   subst hA
   have o3 : ¬ (v : Int) < 0 := by omega
   have o4 : ¬ (4096 : Int) ≤ (v : Int) := by omega
   clear hvk hv4
   go_wp2
   go_round
   case rel => exact ⟨k + 1, by omega, by go_num⟩
   case measure => simp [intOf] <;> omega
  ·have hkn : k = n := by omega
   subst hkn
   go_wp2_with fail
   refine (Hrow.out).mono ?_;rintro x w1 ⟨rfl, hr1, hb1⟩;have hs1 := hb1.size;have hmk := mk_row (P := Tryz.prog) 85 3 _ _ Tryz.underlying85 intinf rfl (k : Int) k rfl (by omega) (by omega) w1;rw [← rowp_none] at hmk;have ha1 := Ha.out.below hb1;have hrl := hr1.lt;have hr2 := hr1.alloc (.cells (nc (List.replicate k 0)) 3);have hb2 := hb1.alloc hs1 (.cells (nc (List.replicate k 0)) 3);have ha2 := ha1.alloc (.cells (nc (List.replicate k 0)) 3);have ho2 := Bk.new w1 3 (nc (List.replicate k 0));have Hs := hide (show w.heap.size < w1.heap.size ∧ w.heap.size ≠ w1.heap.size from ⟨by omega, by omega⟩);clear hr1 hb1 ha1
   go_wp2
   go_loopw [8, 10, 11, 12, 13, 36] (fun s8 _ _ _ _ i wr => ∃ j : Nat, j ≤ k ∧ i = .int .i64 j ∧ s8 = .slice (some ⟨w.heap.size, 0, none⟩) 4096 4096 ∧ Bk wr w.heap.size 3 (nc (rowU r0 (l.take j))) ∧ Bk wr w1.heap.size 3 (nc (unfrontA r0 (l.take j) ++ List.replicate (k - j) 0)) ∧ At wr A (ivs (l.map Int.ofNat)) ∧ Below w.heap.size w wr) (fun _ _ _ _ _ i _ => (k - intOf i).toNat)
   case atStart => exact ⟨0, by omega, rfl, rfl, hr2, ho2, ha2, hb2⟩
   case round =>
    clear hr2 ho2 ha2 hb2 hmk;obtain ⟨j, hj, rfl, rfl, hrow, hout, hat, hf⟩ := hrel
    have hmem : ∀ m ∈ l.take j, m < 4096 := fun m hm => Hv.out m (List.mem_of_mem_take hm)
    by_cases hlt2 : j < k
    ·have hkl : j < l.length := by rw [← Hlen.out]; exact hlt2
     obtain ⟨v, hvk⟩ : ∃ v, l.getD j 0 = v := ⟨_, rfl⟩
     have hv4 : v < 4096 := by
      have h1 : l.getD j 0 = l[j] := by simp [List.getD, hkl]
      rw [← hvk, h1];exact Hv.out _ (List.getElem_mem _)
     obtain ⟨bA, oA, hA, hbA, hcA⟩ := hat.get j (.int .i64 (v : Int)) (by
      rw [ivs_get _ _ (by rw [List.length_map]; exact hkl)]
      have h1 : (l.map Int.ofNat).getD j 0 = ((l.getD j 0 : Nat) : Int) := by simp [List.getD, hkl]
      rw [h1, hvk])
     subst hA;obtain ⟨sn1, sn2⟩ := unfrontA_snoc (l.take j) v r0;rw [← hvk, ← take_snocD l j hkl, hvk] at sn1 sn2;have hfl := unfrontA_length (l.take j) r0;rw [List.length_take, Nat.min_eq_left (by omega)] at hfl;have hrl2 : (rowU r0 (l.take j)).length = 4096 := (rowU_ok (l.take j) r0 (fun m hm => by rw [Hlr.out]; exact hmem m hm)).trans Hlr.out;have hvm : True := trivial;obtain ⟨R, hR⟩ : ∃ R, rowU r0 (l.take j) = R := ⟨_, rfl⟩;obtain ⟨O, hO⟩ : ∃ O, unfrontA r0 (l.take j) = O := ⟨_, rfl⟩;rw [hR] at sn1 sn2 hrow hrl2;rw [hO] at sn1 hout hfl;have Hst := hide (unfront1_any hrow hrl2 v hv4);obtain ⟨pl, hpl2⟩ : ∃ pl, R.getD v 0 = pl := ⟨_, rfl⟩;rw [hpl2] at sn1 Hst;clear hpl2;have Hsn1 := hide sn1;have Hsn2 := hide sn2;have Hrow2 := hide hrow;have hset := npad_set O k pl (by omega);rw [hfl] at hset;have Hset := hide hset;have hput := hout.put j (.int .i64 ((pl : Nat) : Int));rw [nc_set, Hset.out] at hput
     have hol : (O ++ List.replicate (k - j) 0).length = k := by rw [List.length_append, List.length_replicate]; omega
     obtain ⟨y0, hc0⟩ : ∃ y0 : Int, wr.cell? ⟨w1.heap.size, j, none⟩ = some (.int .i64 y0) := ⟨_, by rw [hout.cell, nc_get _ _ (by omega)]⟩;have hfz := hout.frozen j;have hrow3 := hrow.off (p := ⟨w1.heap.size, j, none⟩) (Hs.out.2) (.int .i64 ((pl : Nat) : Int));have hf3 := hf.setCell (p := ⟨w1.heap.size, j, none⟩) (Nat.le_of_lt Hs.out.1) (.int .i64 ((pl : Nat) : Int));have Hmv := hide (move_any hrow3 hrl2 v (by exact hv4));have Hput := hide hput;have Hf3 := hide hf3;clear sn1 sn2 hset hput hol hrow hout hR hO hvk hfl hmem hrow3 hf3 hat hf hrl2 hvm
     go_wp2_with fail
     refine (Hst.out).mono ?_;rintro x w3 ⟨rfl, rfl⟩
     go_wp2_with fail
     refine (Hmv.out).mono ?_;rintro x w4 ⟨rfl, hr4, hf4⟩;have hout4 := Hput.out.fr hf4 (fun e => Hs.out.2 e.symm);have hb4 : Below w.heap.size w w4 := Hf3.out.trans (hf4.toBelow' Hf3.out.size (fun i hi e => by have : i = w.heap.size := e; omega));have ha4 := Ha.out.below hb4
     go_wp2
     go_roundw
     case rel => exact ⟨j + 1, by omega, by go_num, rfl, by rw [Hsn2.out]; exact hr4, by rw [Hsn1.out]; exact hout4, ha4, hb4⟩
     case measure => simp [intOf] <;> omega
    ·have hjk : j = k := by omega
     subst hjk;have htk : l.take j = l := List.take_of_length_le (by rw [← Hlen.out]; exact Nat.le_refl _);rw [htk, Nat.sub_self, List.replicate_zero, List.append_nil] at hout;have hat2 := hide hout.at_;have hfl := hide (unfrontA_length l r0);clear hrow hout hat htk hmem
     go_wp2
     go_returns
     have h9 := hat2.out;rw [nc_ivs] at h9;exact ⟨.slice (some ⟨w1.heap.size, 0, none⟩) j j, rfl, ⟨some ⟨w1.heap.size, 0, none⟩, j, by rw [List.length_map, hfl.out, ← Hlen.out], h9⟩, hf⟩
theorem map_toNat_nat {l : List Int} (h : ∀ n ∈ l, 0 ≤ n ∧ n < 4096) : (l.map Int.toNat).map Int.ofNat = l := by
 rw [List.map_map];refine (List.map_congr_left fun n hn => ?_).trans (List.map_id l);exact Int.toNat_of_nonneg (h n hn).1
theorem each_front {w : World} {A : Option Addr} {l : List Int} (ha : At w A (ivs l)) (n cap : Nat) (hn : n = l.length) (hm : n ≤ 9223372036854775807) :
  Calls Tryz.prog 211 #[.slice A n cap, .func (.func 212) #[] #[]] w fun x w' => NRes w x w' (front l) := by
 by_cases hc : chkn l = 0
 ·obtain ⟨h1, h2⟩ := front_ok hc
  have e := map_toNat_nat h2
  have hf : front l = (frontA r0 (l.map Int.toNat), 0) := by unfold front; rw [if_pos hc]
  rw [hf]
  exact each_ok_front (by rw [e]; exact ha) n cap (by rw [List.length_map]; exact hn) (by rw [List.length_map]; exact h1) (fun v hv => by
   obtain ⟨u, hu, rfl⟩ := List.mem_map.1 hv;have := h2 u hu
   omega)
 ·have hf : front l = ([], chkn l) := by unfold front; rw [if_neg hc]
  rw [hf];exact each_bad_front ha n cap hn hm hc
theorem each_unfront {w : World} {A : Option Addr} {l : List Int} (ha : At w A (ivs l)) (n cap : Nat) (hn : n = l.length) (hm : n ≤ 9223372036854775807) :
  Calls Tryz.prog 211 #[.slice A n cap, .func (.func 221) #[] #[]] w fun x w' => NRes w x w' (unfront l) := by
 by_cases hc : chkn l = 0
 ·obtain ⟨h1, h2⟩ := front_ok hc
  have e := map_toNat_nat h2
  have hf : unfront l = (unfrontA r0 (l.map Int.toNat), 0) := by unfold unfront; rw [if_pos hc]
  rw [hf]
  exact each_ok_unfront (by rw [e]; exact ha) n cap (by rw [List.length_map]; exact hn) (by rw [List.length_map]; exact h1) (fun v hv => by
   obtain ⟨u, hu, rfl⟩ := List.mem_map.1 hv;have := h2 u hu
   omega)
 ·have hf : unfront l = ([], chkn l) := by unfold unfront; rw [if_neg hc]
  rw [hf];exact each_bad_unfront ha n cap hn hm hc
theorem pfront_any {w : World} {A : Option Addr} {l : List Int} (ha : At w A (ivs l)) (n cap : Nat) (hn : n = l.length) (hm : n ≤ 9223372036854775807) :
  Calls Tryz.prog 171 #[.slice A n cap] w fun x w' => NRes w x w' (front l) := by
 have H := hide (each_front ha n cap hn hm)
 generalize front l = r at *
 clear ha hn
 go_enter Tryz.func171, Tryz.ntmps171
 go_wp2_with fail
 refine (H.out).mono ?_;rintro x w1 ⟨v, rfl, hi, hb⟩
 go_wp2
 go_returns
 exact ⟨v, rfl, hi, hb⟩
theorem punfront_any {w : World} {A : Option Addr} {l : List Int} (ha : At w A (ivs l)) (n cap : Nat) (hn : n = l.length) (hm : n ≤ 9223372036854775807) :
  Calls Tryz.prog 183 #[.slice A n cap] w fun x w' => NRes w x w' (unfront l) := by
 have H := hide (each_unfront ha n cap hn hm)
 generalize unfront l = r at *
 clear ha hn
 go_enter Tryz.func183, Tryz.ntmps183
 go_wp2_with fail
 refine (H.out).mono ?_;rintro x w1 ⟨v, rfl, hi, hb⟩
 go_wp2
 go_returns
 exact ⟨v, rfl, hi, hb⟩
def svs (l : List ByteArray) : List Value := l.map sv
theorem svs_get (l : List ByteArray) (i : Nat) (h : i < l.length) : (svs l)[i]? = some (.string l[i]) := by
 simp [svs, sv, List.getElem?_eq_getElem h]
theorem long1_any (s : ByteArray) (hs : s.size ≤ 9223372036854775807) (w : World) :
  Calls Tryz.prog 168 #[.string s] w fun x w' => x = .returned (.bool (decide (128 < s.size))) ∧ w = w' := by
 have h := hide (show decide ((128 : Int) < (s.size : Int)) = decide (128 < s.size) from by
  rw [Bool.eq_iff_iff, decide_eq_true_iff, decide_eq_true_iff]; omega)
 go_enter Tryz.func168, Tryz.ntmps168
 go_wp2
 go_ret
 exact ⟨ret_bool h.out, rfl⟩
def LongR (w : World) (L : Bool) (x : Ending) (w' : World) : Prop := ((∃ k : Nat, k ≤ 4096 ∧ L = true ∧ x = .returned (.int .i64 k)) ∨ (L = false ∧ x = .returned (.int .i64 (-1)))) ∧ w = w'
def longB (l : List ByteArray) : Bool := decide (∃ s ∈ l, 128 < s.size)
theorem long_any {w : World} {A : Option Addr} {l : List ByteArray} (ha : At w A (svs l)) (hsz : ∀ s ∈ l, s.size ≤ 9223372036854775807) (n cap : Nat) (hn : n = l.length) (hm : n ≤ 4096) :
  Calls Tryz.prog 167 #[.slice A n cap, .func (.func 168) #[] #[]] w fun x w' => x = .returned (.bool (longB l)) ∧ w = w' := by
 have H : Hid (Calls Tryz.prog 209 #[.slice A n cap, .func (.func 168) #[] #[]] w fun x w' => LongR w (longB l) x w') := hide (by
  have Ha := hide ha;have Hn := hide hn;have Hs := hide hsz;clear ha hn hsz
  go_enter Tryz.func209, Tryz.ntmps209
  go_wp2
  go_loop [5, 8] (fun _ i => ∃ k : Nat, k ≤ n ∧ i = .int .i64 k ∧ Hid (∀ s ∈ l.take k, ¬ 128 < s.size)) (fun _ i => (n - intOf i).toNat)
  case atStart => exact ⟨0, by omega, rfl, hide (by simp)⟩
  case round =>
   obtain ⟨k, hk, rfl, hall⟩ := hrel
   by_cases hlt : k < n
   ·have hkl : k < l.length := by rw [← Hn.out]; exact hlt
    obtain ⟨s, hs⟩ : ∃ s, l[k] = s := ⟨_, rfl⟩;obtain ⟨bA, oA, hA, hbA, hcA⟩ := Ha.out.get k (.string s) (by rw [svs_get l k hkl, hs]);subst hA;have Hc := long1_any s (Hs.out s (hs ▸ List.getElem_mem _)) w
    by_cases hl : 128 < s.size
    ·rw [decide_eq_true hl] at Hc
     have Hc := hide Hc;have hL : longB l = true := decide_eq_true ⟨s, hs ▸ List.getElem_mem _, hl⟩;have HL := hide hL;clear hL hl hs
     go_wp2_with fail
     refine (Hc.out).mono ?_;rintro x w1 ⟨rfl, rfl⟩
     go_wp2
     go_ret
     exact ⟨.inl ⟨k, by omega, HL.out, rfl⟩, rfl⟩
    ·rw [decide_eq_false hl] at Hc
     have Hc := hide Hc
     have hall2 : Hid (∀ u ∈ l.take (k + 1), ¬ 128 < u.size) := hide (by
      intro u hu;rw [List.take_succ_eq_append_getElem hkl, hs] at hu
      rcases List.mem_append.1 hu with h | h
      ·exact hall.out u h
      ·rw [List.mem_singleton] at h; rw [h]; exact hl)
     clear hl hs
     go_wp2_with fail
     refine (Hc.out).mono ?_;rintro x w1 ⟨rfl, rfl⟩
     go_wp2
     go_round
     case rel => exact ⟨k + 1, by omega, by go_num, hall2⟩
     case measure => simp [intOf] <;> omega
   ·have hL : longB l = false := decide_eq_false (by
     rintro ⟨s, h1, h2⟩;refine hall.out s ?_ h2
     rwa [List.take_of_length_le (by rw [← Hn.out]; omega)])
    have HL := hide hL;clear hL
    go_wp2
    go_ret
    exact ⟨.inr ⟨HL.out, rfl⟩, rfl⟩)
 clear ha hsz hn
 generalize longB l = L at *
 go_enter Tryz.func167, Tryz.ntmps167
 go_wp2_with fail
 refine (H.out).mono ?_;rintro x w1 ⟨⟨k, hk, rfl, rfl⟩ | ⟨rfl, rfl⟩, rfl⟩
 ·go_wp2
  go_ret
  exact ⟨rfl, rfl⟩
 ·go_wp2
  go_ret
  exact ⟨rfl, rfl⟩
end Go.Proofs.YtoeeblldgoccoaaGreat
namespace Wv
open Go Go.RowKit Wv.Ru
def entl : Nat → List ByteArray → List MapEntry
 | _, [] => []
 | k, a :: t => ⟨.string a, .int .i64 (k : Int), k⟩ :: entl (k + 1) t
def ents (l : List ByteArray) : Array MapEntry := (entl 0 l).toArray
theorem entl_snoc (l : List ByteArray) (s : ByteArray) : ∀ k, entl k (l ++ [s]) = entl k l ++ [⟨.string s, .int .i64 ((k + l.length : Nat) : Int), k + l.length⟩] := by
 induction l with
 | nil => intro k; rfl
 | cons a t ih =>
  intro k;rw [List.cons_append, entl, ih, entl, List.length_cons, show k + 1 + t.length = k + (t.length + 1) from by omega];rfl
theorem ents_snoc (l : List ByteArray) (s : ByteArray) : ents (l ++ [s]) = (ents l).push ⟨.string s, .int .i64 (l.length : Int), l.length⟩ := by
 unfold ents;rw [entl_snoc]
 apply Array.toList_inj.1
 simp
theorem find_ents (s : ByteArray) (l : List ByteArray) : ∀ k i, (s ∈ l → Instr.findNow .string (.string s) (entl k l) i = some (some (i + ix l s, .int .i64 ((k + ix l s : Nat) : Int)))) ∧ (s ∉ l → Instr.findNow .string (.string s) (entl k l) i = some none) := by
 induction l with
 | nil => intro k i; exact ⟨fun h => absurd h (List.not_mem_nil), fun _ => rfl⟩
 | cons a t ih =>
  intro k i;obtain ⟨r, hr, hiff⟩ := MapKept.sameNow_of_keys (d := .string) (a := .string s) (b := .string a) trivial trivial
  cases r with
  | true =>
   have h1 : Value.string s = Value.string a := hiff.1 rfl
   injection h1 with h1
   subst h1
   have hx : ix (s :: t) s = 0 := by simp [ix]
   exact ⟨fun _ => by rw [entl, Instr.findNow, hr, hx]; rfl, fun h => absurd List.mem_cons_self h⟩
  | false =>
   have h1 : a ≠ s := fun e => by
    have := hiff.2 (by rw [e])
    cases this
   have hx : ix (a :: t) s = ix t s + 1 := by rw [ix, if_neg h1]
   obtain ⟨i1, i2⟩ := ih (k + 1) (i + 1);refine ⟨fun h => ?_, fun h => ?_⟩
   ·rw [entl, Instr.findNow, hr, hx]
    simp only;rw [i1 ((List.mem_cons.1 h).resolve_left (fun e => h1 e.symm)), show i + 1 + ix t s = i + (ix t s + 1) from by omega, show k + 1 + ix t s = k + (ix t s + 1) from by omega]
   ·rw [entl, Instr.findNow, hr]
    simp only;exact i2 (fun h2 => h (List.mem_cons_of_mem _ h2))
theorem find_yes {s : ByteArray} {l : List ByteArray} (h : s ∈ l) : Instr.findNow .string (.string s) (ents l).toList 0 = some (some (ix l s, .int .i64 (ix l s : Nat))) := by
 have := (find_ents s l 0 0).1 h
 simpa [ents] using this
theorem find_no {s : ByteArray} {l : List ByteArray} (h : s ∉ l) : Instr.findNow .string (.string s) (ents l).toList 0 = some none := by
 have := (find_ents s l 0 0).2 h
 simpa [ents] using this
def MAt (w : World) (b : Nat) (l : List ByteArray) : Prop := w.heap[b]? = some (.map (ents l) l.length)
theorem MAt.lt {w : World} {b : Nat} {l : List ByteArray} (h : MAt w b l) : b < w.heap.size := (Array.getElem?_eq_some_iff.1 h).1
theorem MAt.alloc {w : World} {b : Nat} {l : List ByteArray} (h : MAt w b l) (o : Obj) : MAt (w.alloc o) b l := (Below.heap_alloc w o b h.lt).trans h
theorem MAt.grown {w w' : World} {b : Nat} {l : List ByteArray} {row : Option Nat} (h : MAt w b l) (hg : w.grownBy w' row) (hne : some b ≠ row) : MAt w' b l := (hg.block b h.lt hne).trans h
def setMap (w : World) (b : Nat) (l : List ByteArray) : World := { w with heap := w.heap.setIfInBounds b (.map (ents l) l.length) }
theorem setMap_at {w : World} {b : Nat} {l l' : List ByteArray} (h : MAt w b l) : MAt (setMap w b l') b l' := by
 have := h.lt
 simp [MAt, setMap, this]
theorem setMap_fr {S : Nat → Prop} {a w : World} {b : Nat} {l : List ByteArray} (h : Fr S a w) (hb : S b ∨ a.heap.size ≤ b) : Fr S a (setMap w b l) :=
 ⟨h.os, h.tape, h.output, by simpa [setMap] using h.size, fun k hk hn => by
  refine Eq.trans ?_ (h.block k hk hn)
  have : b ≠ k := by
   rintro rfl
   rcases hb with hb | hb
   ·exact hn hb
   ·omega
  simp [setMap, this]⟩
theorem ck_str {P : Program} {k : TypeId} (hk : P.underlying k = some .string) (e : Bool) (s : ByteArray) (W : World) : (Instr.checkKey e 10000 k (.string s)).run P W = .ok () W :=
 MapKept.run_checkKey (w := W) hk (show MapKept.IsKey .string (.string s) from trivial) e 9999
theorem mat_put {P : Program} {t k e : TypeId} (ht : P.underlying t = some (.map k e)) (hk : P.underlying k = some .string) {w : World} {b : Nat} {l : List ByteArray} (h : MAt w b l) (s : ByteArray) (hn : s ∉ l) :
  (Instr.mapUpdate t (.map (some b)) (.string s) (.int .i64 (l.length : Int))).run P w = .ok () (setMap w b (l ++ [s])) := by
 have h2 := fun o => MapKept.run_setObj_map (P := P) o h
 have hf2 := find_no hn;unfold Instr.mapUpdate;simp only [Sem.run_bind, run_underlying ht, Result.andThen_ok, MapKept.run_getObj_map h, ck_str hk, MapKept.run_findKey hk hf2, h2];unfold setMap;rw [ents_snoc]
 simp
theorem mat_ok {P : Program} {t k e : TypeId} (ht : P.underlying t = some (.map k e)) (hk : P.underlying k = some .string) {w : World} {b : Nat} {l : List ByteArray} (h : MAt w b l) (s : ByteArray) (hs : s ∈ l) :
  (Instr.lookup t (.map (some b)) (.string s) true).run P w = .ok (.tuple #[.int .i64 (ix l s : Nat), .bool true]) w := by
 have hf2 := find_yes hs;unfold Instr.lookup;simp only [Sem.run_bind, Sem.run_pure, run_underlying ht, Result.andThen_ok, MapKept.run_getObj_map h, ck_str hk, MapKept.run_findKey hk hf2];rfl
theorem mat_no {P : Program} {t k e : TypeId} (ht : P.underlying t = some (.map k e)) (hk : P.underlying k = some .string) {w : World} {b : Nat} {l : List ByteArray} (h : MAt w b l) (s : ByteArray) (hs : s ∉ l) (hz : (zeroValue e).run P w = .ok (.int .i64 0) w) :
  (Instr.lookup t (.map (some b)) (.string s) true).run P w = .ok (.tuple #[.int .i64 0, .bool false]) w := by
 have hf2 := find_no hs;unfold Instr.lookup;simp only [Sem.run_bind, Sem.run_pure, run_underlying ht, Result.andThen_ok, MapKept.run_getObj_map h, ck_str hk, MapKept.run_findKey hk hf2, hz];rfl
theorem mat_get {P : Program} {t k e : TypeId} (ht : P.underlying t = some (.map k e)) (hk : P.underlying k = some .string) {w : World} {b : Nat} {l : List ByteArray} (h : MAt w b l) (s : ByteArray) (hs : s ∈ l) :
  (Instr.lookup t (.map (some b)) (.string s) false).run P w = .ok (.int .i64 (ix l s : Nat)) w := by
 have hf2 := find_yes hs;unfold Instr.lookup;simp only [Sem.run_bind, Sem.run_pure, run_underlying ht, Result.andThen_ok, MapKept.run_getObj_map h, ck_str hk, MapKept.run_findKey hk hf2];rfl
end Wv
namespace Go.Proofs.YtoeeblldgoccoaaGreat
open Go.RowKit Go.Proofs Wv Wv.Vi Wv.Rc Wv.Mo Wv.Ru
theorem strinf : (Tryz.prog.info? 9).map (fun i => (i.zero, i.size, i.bytes)) = some (some (.string ByteArray.empty), 1, 16) := by kernel_rfl
theorem zeroInt (w : World) : (zeroValue 3).run Tryz.prog w = .ok (.int .i64 0) w := by kernel_rfl
theorem dict_take (l : List ByteArray) (k : Nat) (h : k < l.length) : (l[k] ∈ dict (l.take k) → dict (l.take (k + 1)) = dict (l.take k)) ∧ (l[k] ∉ dict (l.take k) → dict (l.take (k + 1)) = dict (l.take k) ++ [l[k]]) := by
 rw [List.take_succ_eq_append_getElem h, dict_snoc];exact ⟨fun h => by rw [if_pos h], fun h => by rw [if_neg h]⟩
def SRes (w : World) (v : Value) (l : List ByteArray) : Prop := ∃ A cap, v = .slice A l.length cap ∧ At w A (svs l)
theorem SRes.nil (w : World) : SRes w (.slice none 0 0) [] := ⟨none, 0, rfl, At.nil _ _⟩
theorem own_sres {w : World} {base e : Nat} {v : Value} {l : List ByteArray} (h : w.ownsRow base e 1 v l.length (svs l)) : SRes w v l := by
 obtain ⟨A, cap, hv, ha⟩ := own_at h;exact ⟨A, cap, hv, ha⟩
def IdxR (w : World) (l : List ByteArray) (x : Ending) (w' : World) : Prop :=
 ∃ v b, x = .returned (.tuple #[v, .map (some b)]) ∧ w.heap.size ≤ b ∧ w'.ownsRow w.heap.size 9 1 v (dict l).length (svs (dict l)) ∧ MAt w' b (dict l) ∧ Below w.heap.size w w'
theorem own_notmap {w : World} {base e size n b : Nat} {v : Value} {xs : List Value} {l : List ByteArray} (h : w.ownsRow base e size v n xs) (hm : MAt w b l) : v.ownBlock ≠ some b := by
 rcases h.2 with ⟨rfl, _⟩ | ⟨g', cap, cur, rfl, _, hh, _⟩
 ·simp [Value.ownBlock]
 ·intro he
  have : g' = b := by simpa [Value.ownBlock] using he
  subst this;unfold MAt at hm;rw [hm] at hh
  cases hh
theorem index_any {w : World} {A : Option Addr} {l : List ByteArray} (ha : At w A (svs l)) (n cap : Nat) (hn : n = l.length) (hm : n ≤ 4096) :
  Calls Tryz.prog 210 #[.slice A n cap] w fun x w' => IdxR w l x w' := by
 have hmm := @run_makeMap Tryz.prog;have Ha := hide ha;have Hn := hide hn;obtain ⟨i0, hi, hz0, hz1, hz2⟩ := info_parts strinf;have Hinf := hide (And.intro hi (And.intro hz0 (And.intro hz1 hz2)));have hf0 : Below w.heap.size w (w.alloc (.map #[] 0)) := (Below.refl _ _).alloc (Nat.le_refl _) _;have hm0 : MAt (w.alloc (.map #[] 0)) w.heap.size [] := heap_alloc_new w _;have ha0 := ha.alloc (.map #[] 0);clear ha hn hi hz0 hz1 hz2
 go_enter Tryz.func210, Tryz.ntmps210
 go_wp2
 go_loopw [4, 7, 8, 9, 13] (fun v4 _ _ _ i wr => ∃ k : Nat, k ≤ n ∧ i = .int .i64 k ∧ wr.ownsRow w.heap.size 9 1 v4 (dict (l.take k)).length (svs (dict (l.take k))) ∧ MAt wr w.heap.size (dict (l.take k)) ∧ At wr A (svs l) ∧ Below w.heap.size w wr) (fun _ _ _ _ i _ => (n - intOf i).toNat)
 case atStart => exact ⟨0, by omega, rfl, own_nil, hm0, ha0, hf0⟩
 case round =>
  clear hf0 hm0 ha0 hmm;obtain ⟨k, hk, rfl, hown, hmap, hat, hf⟩ := hrel
  by_cases hlt : k < n
  ·have hkl : k < l.length := by rw [← Hn.out]; exact hlt
   obtain ⟨s, hs⟩ : ∃ s, l[k] = s := ⟨_, rfl⟩;obtain ⟨bA, oA, hA, hbA, hcA⟩ := hat.get k (.string s) (by rw [svs_get l k hkl, hs]);subst hA;obtain ⟨d1, d2⟩ := dict_take l k hkl;rw [hs] at d1 d2;have hdl := dict_length (l.take k);rw [List.length_take] at hdl;obtain ⟨D, hD⟩ : ∃ D, dict (l.take k) = D := ⟨_, rfl⟩;rw [hD] at d1 d2 hown hmap hdl
   by_cases hin : s ∈ D
   ·have hl := mat_ok (P := Tryz.prog) Tryz.underlying54 Tryz.underlying9 hmap s hin
    have Hd := hide (d1 hin);have Hown := hide hown;have Hmap := hide hmap;clear d1 d2 hs hD hin hown hmap hdl
    go_wp2
    go_roundw
    case rel => exact ⟨k + 1, by omega, by go_num, by rw [Hd.out]; exact Hown.out, by rw [Hd.out]; exact Hmap.out, hat, hf⟩
    case measure => simp [intOf] <;> omega
   ·have hl := mat_no (P := Tryz.prog) Tryz.underlying54 Tryz.underlying9 hmap s hin (zeroInt wr)
    have hu := mat_put (P := Tryz.prog) Tryz.underlying54 Tryz.underlying9 hmap s hin;obtain ⟨A4, cap4, hv4, hat4⟩ := own_at hown;have hnm := own_notmap hown hmap;subst hv4;have hown2 : (setMap wr w.heap.size (D ++ [s])).ownsRow w.heap.size 9 1 (.slice A4 D.length cap4) D.length (svs D) := own_fr hown (setMap_fr (S := fun j => j = w.heap.size) (Fr.refl _ wr) (.inl rfl)) (fun g hg e => hnm (by rw [hg, e]));have hmap2 := setMap_at (l' := D ++ [s]) hmap;have hf2 : Below w.heap.size w (setMap wr w.heap.size (D ++ [s])) := hf.trans ((setMap_fr (S := fun j => j = w.heap.size) (Fr.refl _ wr) (.inl rfl)).toBelow' hf.size (fun j hj e => by omega));have hd2 := d2 hin
    have hp1 : D.length + 1 ≤ maxLen := by unfold maxLen; omega
    have hp2 : (D.length + 1) * 16 ≤ 140737488355328 := by omega
    obtain ⟨W, hW⟩ : ∃ W, setMap wr w.heap.size (D ++ [s]) = W := ⟨_, rfl⟩;rw [hW] at hu hown2 hmap2 hf2;have Hd := hide hd2;have Hown := hide hown2;have Hmap := hide hmap2;have Hf2 := hide hf2;have hbase := hf2.size;have Hm0 := hide hmap.lt;clear d1 d2 hs hD hin hown hmap hdl hW hown2 hmap2 hf2 hat4 hd2 hat hf hnm;obtain ⟨hi, hz0, hz1, hz2⟩ := Hinf.out
    go_wp2_with (
     at_builtin
     refine wpList_append_own_at _ rfl (.tmp 29) (.tmp 31) _ rfl w.heap.size 9 i0 (.string ByteArray.empty) 1 16 Tryz.underlying22 hi hz0 hz1 hz2 rfl (by omega) (.slice A4 D.length cap4) D.length (svs D) (by rfl) (Hown.out.alloc _) ⟨W.heap.size, 0, none⟩ 1 1 [.string s] (by rfl) rfl (news_one _ _ _) (by simp [Value.oneCell']) hp1 hp2 (Nat.le_trans hbase (by simp)) ?_;intro v' w1 hown1 hg1 _ hat1;have Hown1 := hide hown1;have Hg1 := hide hg1
     clear hown1 hg1 hat1)
    have hm1 := (Hmap.out.alloc (.cells #[.string s] 9)).grown Hg1.out (fun e => own_notmap (Hown.out) Hmap.out e.symm);have hf3 : Below w.heap.size w w1 := (Hf2.out.alloc hbase (.cells #[.string s] 9)).grown Hg1.out (Nat.le_trans hbase (by simp)) (fun j hj => (Hown.out.lt j hj).1);have ha3 := Ha.out.below hf3
    have ho3 : w1.ownsRow w.heap.size 9 1 v' (D ++ [s]).length (svs (D ++ [s])) := by
     have := Hown1.out;rw [List.length_append];unfold svs at this ⊢;rw [List.map_append];exact this
    clear Hown1 Hg1 hu hl hcA
    go_wp2
    go_roundw
    case rel => exact ⟨k + 1, by omega, by go_num, by rw [Hd.out]; exact ho3, by rw [Hd.out]; exact hm1, ha3, hf3⟩
    case measure => simp [intOf] <;> omega
  ·have hkn : k = n := by omega
   subst hkn;have htk : l.take k = l := List.take_of_length_le (by rw [← Hn.out]; exact Nat.le_refl _);rw [htk] at hown hmap;clear htk hat
   go_wp2
   go_returns
   exact ⟨_, _, rfl, Nat.le_refl _, hown, hmap, hf⟩
def DRes (w : World) (l : List ByteArray) (x : Ending) (w' : World) : Prop := ∃ v, x = .returned v ∧ SRes w' v l ∧ Below w.heap.size w w'
theorem dictionary_any {w : World} {A : Option Addr} {l : List ByteArray} (ha : At w A (svs l)) (n cap : Nat) (hn : n = l.length) (hm : n ≤ 4096) :
  Calls Tryz.prog 169 #[.slice A n cap] w fun x w' => DRes w (dict l) x w' := by
 have H := hide (index_any ha n cap hn hm);clear ha hn
 go_enter Tryz.func169, Tryz.ntmps169
 go_wp2_with fail
 refine (H.out).mono ?_;rintro x w1 ⟨v, b, rfl, hb, ho, hm2, hf⟩;have hr := own_sres ho;clear ho hm2
 go_wp2
 go_ret
 exact ⟨v, rfl, hr, hf⟩
end Go.Proofs.YtoeeblldgoccoaaGreat
