/-
  Joined texts: Ua, Sl, Sg, Sh, Si.
-/
import Derived.Test.YtoeeblldgoccoaaGreatL26
import Derived.Test.YtoeeblldgoccoaaGreatL28
set_option linter.unusedVariables false
set_option linter.unusedSimpArgs false
set_option maxRecDepth 100000
set_option maxHeartbeats 8000000
namespace Go.Proofs.YtoeeblldgoccoaaGreat
open Go.RowKit Go.Proofs Wv Wv.Vi Wv.Rc Wv.Mo Wv.Ru
def contR (c len : Nat) (ws : List ByteArray) (r : Option (List ByteArray × List UInt8)) : Option (List ByteArray) :=
 match r with
 | none => none
 | some x => match rtext x.2 len with
  | none => none
  | some y => fin c (ws ++ x.1) (decn y.1 4096) (decn y.2 4096)
theorem contR_go {c len k : Nat} {ws : List ByteArray} {s a u : List UInt8} (h : rtext s 128 = some (a, u)) : contR c len ws (rtexts (k + 1) s) = contR c len (ws ++ [bs a]) (rtexts k u) := by
 rw [rtexts_go h]
 match rtexts k u with
 | none => rfl
 | some x => simp [contR, List.append_assoc]
theorem contR_no {c len k : Nat} {ws : List ByteArray} {s : List UInt8} (h : rtext s 128 = none) : contR c len ws (rtexts (k + 1) s) = none := by
 rw [rtexts_no h];rfl
theorem contR_0 {c len : Nat} {ws : List ByteArray} {s : List UInt8} : contR c len ws (rtexts 0 s) = match rtext s len with
  | none => none
  | some y => fin c ws (decn y.1 4096) (decn y.2 4096) := by
 rw [rtexts];simp only [contR, List.append_nil]
theorem start_cases (data : ByteArray) : ∃ c S1 e1 n S2 e2, numR data 0 1 = (c, S1, e1) ∧ numR S1 e1 4096 = (n, S2, e2) ∧ n ≤ 4096 ∧ S1.size ≤ data.size ∧ S2.size ≤ data.size ∧ c ≤ 1 ∧
  ((e2 = 0 ∧ ∃ s2, S2 = bs s2 ∧ readL (toL data) = contR c data.size [] (rtexts n s2)) ∨ (e2 ≠ 0 ∧ readL (toL data) = none)) := by
 match h1 : rnum (toL data) 1 with
 | none =>
  obtain ⟨e, he, hn⟩ := numR_nok h1
  have hr : readL (toL data) = none := by unfold readL; rw [h1]
  exact ⟨0, data, e, 0, data, e, hn, numR_err he 4096, by omega, Nat.le_refl _, Nat.le_refl _, by omega, .inr ⟨he, hr⟩⟩
 | some (c, s1) =>
  obtain ⟨n1, hc1, hl1⟩ := numR_some h1;rw [toL_length] at hl1
  match h2 : rnum s1 4096 with
  | none =>
   obtain ⟨e, he, hn⟩ := numR_nok h2
   have hr : readL (toL data) = none := by unfold readL; rw [h1]; simp only; rw [h2]
   exact ⟨c, bs s1, 0, 0, bs s1, e, n1, hn, by omega, hl1, hl1, hc1, .inr ⟨he, hr⟩⟩
  | some (n, s2) =>
   obtain ⟨n2, hn4, hl2⟩ := numR_some h2
   have hl3 : (bs s2).size ≤ data.size := by rw [bs_size]; omega
   refine ⟨c, bs s1, 0, n, bs s2, 0, n1, n2, hn4, hl1, hl3, hc1, .inl ⟨rfl, s2, rfl, ?_⟩⟩;unfold readL contR;rw [h1];simp only;rw [h2];simp only [List.nil_append]
   match rtexts n s2 with
   | none => rfl
   | some (ws, s3) =>
    simp only;rw [toL_length]
    match rtext s3 data.size with
    | none => rfl
    | some (a, s4) => rfl
def cl (v : Int) : Int := min v 4096 + 1
theorem expand_much (d : List ByteArray) (Z : List (Int × Int)) : ∀ acc : List ByteArray, (∃ z ∈ Z, 4096 < z.2) → (expand d Z acc).2 ≠ 0 := by
 induction Z with
 | nil => rintro acc ⟨z, hz, _⟩; cases hz
 | cons x t ih =>
  rintro acc ⟨z, hz, hz2⟩;rw [expand]
  split
  ·simp
  ·split
   ·simp
   ·rename_i c1 c2
    refine ih _ ?_
    rcases List.mem_cons.1 hz with h | h
    ·subst h; omega
    ·exact ⟨z, h, hz2⟩
theorem zip_mem : ∀ (I B : List Int), I.length = B.length → ∀ v ∈ B, ∃ i, (i, v) ∈ I.zip B
 | [], [], _, v, hv => by cases hv
 | [], _ :: _, h, _, _ => by simp at h
 | _ :: _, [], _, v, hv => by cases hv
 | i :: I, b :: B, h, v, hv => by
  rcases List.mem_cons.1 hv with e | e
  ·subst e; exact ⟨i, by simp⟩
  ·obtain ⟨j, hj⟩ := zip_mem I B (by simpa using h) v e
   exact ⟨j, by simp [hj]⟩
theorem fin_clamp (ws : List ByteArray) (I B : List Int) (hl : I.length = B.length) :
  (if ∃ v ∈ B, 4096 ≤ v then none else if (expand ws (I.zip (B.map (· + 1))) []).2 = 0 then some (expand ws (I.zip (B.map (· + 1))) []).1 else none) =
   if (expand ws (I.zip (B.map cl)) []).2 = 0 then some (expand ws (I.zip (B.map cl)) []).1 else none := by
 by_cases h : ∃ v ∈ B, 4096 ≤ v
 ·rw [if_pos h]
  obtain ⟨v, hv, h4⟩ := h;have hm : cl v ∈ B.map cl := List.mem_map.2 ⟨v, hv, rfl⟩;obtain ⟨i, hi⟩ := zip_mem I (B.map cl) (by rw [List.length_map]; exact hl) (cl v) hm;rw [if_neg (expand_much ws _ [] ⟨(i, cl v), hi, by show 4096 < cl v; unfold cl; omega⟩)]
 ·rw [if_neg h]
  have e : B.map (· + 1) = B.map cl := List.map_congr_left (fun v hv => by
   have h1 : ¬ 4096 ≤ v := fun h4 => h ⟨v, hv, h4⟩
   show v + 1 = cl v
   unfold cl
   omega)
  rw [e]
theorem runfront_any {w : World} {A : Option Addr} {l : List Int} (ha : At w A (ivs l)) (n cap : Nat) (hn : n = l.length) (hm : n ≤ 9223372036854775807) :
  Calls Tryz.prog 124 #[.slice A n cap] w fun x w' => NRes w x w' (unfront l) := by
 have Hc := hide (rcheck_any ha n cap hn hm)
 by_cases hc : chkn l = 0
 ·obtain ⟨h1, h2⟩ := front_ok hc
  have hf : unfront l = (unfrontA r0 (l.map Int.toNat), 0) := by unfold unfront; rw [if_pos hc]
  rw [hf];rw [hc] at Hc
  have hin : ∀ m ∈ l.map Int.toNat, m < 4096 := fun m hm => by
   obtain ⟨x, hx, rfl⟩ := List.mem_map.1 hm;have := h2 x hx;omega
  rw [ivs_ns h2] at ha
  have hln : n = (l.map Int.toNat).length := by rw [List.length_map]; exact hn
  generalize l.map Int.toNat = L at *
  have ho0 := hide (own_made0 3 w);have hb0 := hide ((Below.refl w.heap.size w).alloc (Nat.le_refl _) (.cells #[] 3));have Hrow := hide (rrow_any (w.alloc (.cells #[] 3)));have Ha := hide ha;have Hn := hide hln;have Hin := hide hin
  have hn4 : n ≤ 4096 := by omega
  clear ha hln hn hin h1 h2 hc hf hm
  go_enter Tryz.func124, Tryz.ntmps124
  go_wp2_with fail
  refine (Hc.out).mono ?_;rintro x w1 ⟨rfl, rfl⟩
  go_wp2_with fail
  refine (Hrow.out).mono ?_;rintro x w1 ⟨A1, cap1, rfl, ⟨hc1, hcm1⟩, hat1, hb1, hfar1⟩;have hbb := hb0.out.trans (hb1.mono (by simp));have ho1 := own_fr ho0.out (Fr.of_below (S := nob) hb1) (fun g hg h => h)
  have hfar : Hid (∀ b o, A1 = some ⟨b, o, none⟩ → (Value.slice (some ⟨w.heap.size, 0, none⟩) 0 0).ownBlock ≠ some b) := hide (fun b o h => by
   have := hfar1 b o h
   simp at this
   simp [Value.ownBlock]
   omega)
  have Hc1 := hide (And.intro hc1 hcm1);have Hat1 := hide hat1;have Hbb := hide hbb;have Ho1 := hide ho1;clear hat1 hb1 hfar1 hbb ho1 hc1 hcm1 ho0 hb0 Hrow Hc
  go_wp2
  go_loopw [5, 6, 7] (fun v5 v6 i wr => ∃ (k cap' : Nat) (Ar : Option Addr), k ≤ n ∧ i = .int .i64 k ∧ v6 = .slice Ar 4096 cap' ∧ Hid (4096 ≤ cap' ∧ cap' ≤ maxLen) ∧ At wr Ar (ns (rowU r0 (L.take k))) ∧ wr.ownsRow w.heap.size 3 1 v5 k (ns (unfrontA r0 (L.take k))) ∧ Hid (∀ b o, Ar = some ⟨b, o, none⟩ → v5.ownBlock ≠ some b) ∧ Below w.heap.size w wr) (fun _ _ i _ => (n - intOf i).toNat)
  case atStart => exact ⟨0, cap1, A1, by omega, rfl, rfl, Hc1, Hat1.out, Ho1.out, hfar, Hbb.out⟩
  case round =>
   clear Hc1 Hat1 Ho1 hfar Hbb;obtain ⟨k, cap', Ar, hk, rfl, rfl, hcap, hat, hown, hfar, hf⟩ := hrel
   by_cases hlt : k < n
   ·have hkl : k < L.length := by rw [← Hn.out]; exact hlt
    obtain ⟨v, hv⟩ : ∃ v, L.getD k 0 = v := ⟨_, rfl⟩
    have hvL : L[k] = v := by rw [← hv]; simp [List.getD, hkl]
    obtain ⟨bA, oA, hA, hbA, hcA⟩ := (Ha.out.below hf).get k _ (ns_get L k hkl);subst hA;rw [hv] at hcA;obtain ⟨s1, s2⟩ := unfrontA_snoc (L.take k) v r0;rw [← hvL, ← List.take_succ_eq_append_getElem hkl, hvL] at s1 s2;have hvb := Hin.out v (hvL ▸ List.getElem_mem _)
    have hr0 : r0.length = 4096 := by simp [r0]
    have q1 := (rowU_ok (L.take k) r0 (fun m hm => by rw [hr0]; exact Hin.out m (List.mem_of_mem_take hm))).trans hr0;obtain ⟨R, hR⟩ : ∃ R, rowU r0 (L.take k) = R := ⟨_, rfl⟩;rw [hR] at s1 s2 q1 hat;obtain ⟨y, hy⟩ : ∃ y, R.getD v 0 = y := ⟨_, rfl⟩;rw [hy] at s1;obtain ⟨bR, oR, hAr, hbR, hcR⟩ := hat.get v _ (ns_get R v (by omega));subst hAr;rw [hy] at hcR;obtain ⟨v', w3, hrun, hown3, hf3, hblk, hsz3, hkeep⟩ := app_own2 (P := Tryz.prog) 85 3 _ _ Tryz.underlying85 intinf rfl hown hf hf.size (.int .i64 (y : Int)) rfl (by unfold maxLen; omega) (by omega);have hat3 := hkeep _ _ hat hfar.out;obtain ⟨b9, o9, hA9, hb9, hcA3⟩ := (Ha.out.below hf3).get k _ (ns_get L k hkl)
    injection hA9 with hA9
    injection hA9 with hA9 hO9
    subst hA9; subst hO9
    rw [hv] at hcA3;have Hm := hide (rmoved_any hat3 q1 cap' hcap.out.1 hcap.out.2 v hvb);have Hrun := hide hrun;have Hown3 : Hid (w3.ownsRow w.heap.size 3 1 v' (k + 1) (ns (unfrontA r0 (L.take (k + 1))))) := hide (by rw [s1, ns_snoc]; exact hown3);have Hf3 := hide hf3;have S2 := hide s2
    have hvb2 : (v : Int) < 4096 := by omega
    clear hat hown hf q1 s1 s2 hr0 hR hv hvL Ha hrun hown3 hf3 hblk hsz3 hkeep hat3 hvb hy
    go_wp2_with (
     at_builtin
     refine wpList_run (by with_reducible rfl) rfl _ _ _ rfl _ _ (by rfl) (by rfl) Hrun.out ?_)
    refine (Hm.out).mono ?_;rintro x w4 ⟨A4, cap4, rfl, hcp4, hat4, hb4, hfar4⟩;have hf4 := Hf3.out.trans (hb4.mono Hf3.out.size);have ho4 := own_fr Hown3.out (Fr.of_below (S := nob) hb4) (fun g hg h => h)
    have Hfar4 : Hid (∀ b o, A4 = some ⟨b, o, none⟩ → v'.ownBlock ≠ some b) := hide (fun b o h hs => by
     have h5 := hfar4 b o h;have h6 := (Hown3.out.lt b hs).2
     omega)
    have Hf4 := hide hf4;have Ho4 := hide ho4;have Hat4 := hide hat4;have Hcp4 := hide hcp4;clear hf4 ho4 hat4 hb4 hfar4 hcp4 Hm Hrun Hown3 Hf3
    go_wp2
    refine ⟨⟨k + 1, cap4, A4, by omega, by go_num, rfl, Hcp4.out, by rw [S2.out]; exact Hat4.out, Ho4.out, Hfar4, Hf4.out⟩, ?_⟩
    simp [intOf] <;> omega
   ·have hkn : k = n := by omega
    have htk : L.take k = L := List.take_of_length_le (by rw [← Hn.out]; omega);rw [htk] at hown;obtain ⟨A4, cap4, hv4, hat4⟩ := own_at hown;subst hv4;have Hat4 := hide hat4
    have hfl : (unfrontA r0 L).length = k := by rw [unfrontA_length, ← Hn.out, hkn]
    have Hfl := hide hfl;clear htk hown hat4 hat Ha hfl
    go_wp2
    go_returns
    exact ⟨_, rfl, ⟨A4, cap4, by simp only [List.length_map]; rw [Hfl.out]; rfl, Hat4.out⟩, hf⟩
 ·have hf : unfront l = ([], chkn l) := by unfold unfront; rw [if_neg hc]
  rw [hf];obtain ⟨e, he⟩ : ∃ e, chkn l = e := ⟨_, rfl⟩;rw [he] at Hc hc ⊢
  have hne : ((e : Int) != 0) = true := by rw [bne_iff_ne]; omega
  have hb := hide (Below.refl w.heap.size w);clear he hf hc ha hn hm
  go_enter Tryz.func124, Tryz.ntmps124
  go_wp2_with fail
  refine (Hc.out).mono ?_;rintro x w1 ⟨rfl, rfl⟩
  go_wp2
  go_returns
  exact nres_err e hb.out
end Go.Proofs.YtoeeblldgoccoaaGreat
namespace Go.Proofs.YtoeeblldgoccoaaGreat
open Go.RowKit Go.Proofs Wv Wv.Vi Wv.Rc Wv.Mo
def ERT (w : World) (A : Option Addr) (r : List Nat × En) (x : Ending) (w' : World) : Prop := ∃ v' A' cap', x = .returned (.tuple #[v', .slice A' 64 cap']) ∧ REn w' v' r.2 ∧ At w' A' (ns r.1) ∧ Below w.heap.size w w' ∧ (∀ b o, A' = some ⟨b, o, none⟩ → A' = A ∨ w.heap.size ≤ b)
theorem ftenc_any {w : World} {v : Value} {e : En} {A : Option Addr} {t : List Nat} (h : REn w v e) (hv : Val 0 e) (ha : At w A (ns t)) (ht : TNum t) (n cap : Nat) (hn : n ≤ 9223372036854775807) (hl : e.out.length ≤ 800000) :
  Calls Tryz.prog 149 #[v, .slice A 64 cap, .int .i64 (n : Int)] w fun x w' => ERT w A (tenc 6 n 1 t e) x w' := by
 obtain ⟨Ae, cape, rfl, hat⟩ := h
 have hrb0 : RB ((w.alloc (.cells #[.slice Ae e.out.length cape, .int .i64 (e.low : Int), .int .i64 (e.size : Int)] 122)).alloc (.cells #[.slice none 0 0, .int .i64 0, .int .i64 0] 122)) w.heap.size Ae cape e :=
  RB.alloc ⟨Bk.new _ _ _, hat.alloc _⟩ _
 have hbel0 := (((Below.refl w.heap.size w).alloc (Nat.le_refl _) (.cells #[.slice Ae e.out.length cape, .int .i64 (e.low : Int), .int .i64 (e.size : Int)] 122)).alloc (by simp) (.cells #[.slice none 0 0, .int .i64 0, .int .i64 0] 122));have hres0 := (Bk.new (w.alloc (.cells #[.slice Ae e.out.length cape, .int .i64 (e.low : Int), .int .i64 (e.size : Int)] 122)) 122 #[.slice none 0 0, .int .i64 0, .int .i64 0]);simp only [World.size_alloc] at hres0;have hat0 := (ha.alloc (.cells #[.slice Ae e.out.length cape, .int .i64 (e.low : Int), .int .i64 (e.size : Int)] 122)).alloc (.cells #[.slice none 0 0, .int .i64 0, .int .i64 0] 122);have Hrb0 := hide hrb0;have Hbel0 := hide hbel0;have Hres0 := hide hres0;have Hat0 := hide hat0
 have Hbl : Hid (Hid (∀ b o, A = some ⟨b, o, none⟩ → b ≠ w.heap.size ∧ b ≠ w.heap.size + 1)) := hide (hide (fun b o h => by
  obtain ⟨b', o', h1, h2, _⟩ := ha 0 (by rw [ns_len, ht.2]; omega);rw [h] at h1
  injection h1 with h1
  injection h1 with h1
  omega))
 clear hrb0 hbel0 hres0 hat ha hat0
 go_enter Tryz.func149, Tryz.ntmps149
 go_wp2
 go_loopw [1, 8, 9] (fun tv mv av wr => ∃ (j m : Nat) (A' At' : Option Addr) (cap' capt : Nat) (u : List Nat) (x : En), j ≤ 6 ∧ av = .int .i64 ((2 ^ j / 2 : Nat) : Int) ∧ mv = .int .i64 m ∧ (m + 1) * 2 ^ j ≤ 128 ∧ tv = .slice At' 64 capt ∧ At wr At' (ns u) ∧ Hid (∀ b o, At' = some ⟨b, o, none⟩ → At' = A ∨ w.heap.size + 2 ≤ b) ∧ TNum u ∧ RB wr w.heap.size A' cap' x ∧ Val 0 x ∧ Hid (tenc j n m u x = tenc 6 n 1 t e) ∧ Bk wr (w.heap.size + 1) 122 #[.slice none 0 0, .int .i64 0, .int .i64 0] ∧ Below w.heap.size w wr ∧ x.out.length ≤ e.out.length + 2 * (6 - j)) (fun _ _ av _ => (intOf av).toNat)
 case atStart => exact ⟨6, 1, Ae, A, cape, cap, t, e, by omega, rfl, rfl, by decide, rfl, Hat0.out, hide (fun _ _ _ => .inl rfl), ht, Hrb0.out, hv, hide rfl, Hres0.out, Hbel0.out, by omega⟩
 case round =>
  clear Hrb0 Hbel0 Hres0 Hat0 ht hv;obtain ⟨j, m, A', At', cap', capt, u, x, hj, rfl, rfl, hm, rfl, hat, hfar0, htu, hx, hvx, hte, hres, hf, hlx⟩ := hrel
  have hfar : Hid (∀ b o, At' = some ⟨b, o, none⟩ → b ≠ w.heap.size ∧ b ≠ w.heap.size + 1) := hide (fun b o h => by
   rcases hfar0.out b o h with h1 | h1
   ·exact Hbl.out.out b o (h1 ▸ h)
   ·omega)
  by_cases hlt : 0 < j
  ·obtain ⟨k, rfl⟩ : ∃ k, j = k + 1 := ⟨j - 1, by omega⟩
   have hm64 : m < u.length := node_lt (by rw [htu.2]; exact hm);have hst := tenc_step k n m u x
   have hpk : 2 ^ (k + 1) / 2 = 2 ^ k := by rw [Nat.pow_succ, Nat.mul_div_cancel _ (by omega)]
   have hand := and_two n k (by omega) (by omega);have hpp : 0 < 2 ^ k := Nat.two_pow_pos k;have hpl : 2 ^ k ≤ 2 ^ 6 := Nat.pow_le_pow_right (by omega) (by omega);obtain ⟨y, hy⟩ : ∃ y, n / 2 ^ k % 2 = y := ⟨_, rfl⟩
   have hy2 : y < 2 := by omega
   have hp := tok_get htu.1 hm64;have hmn : (2 * m + y + 1) * 2 ^ k ≤ 128 := node_step (L := 64) hy2 hm;obtain ⟨bA, oA, hA, hbA, hcA⟩ := hat.get m _ (ns_get u m hm64);subst hA;obtain ⟨z, hz⟩ : ∃ z, u.getD m 0 = z := ⟨_, rfl⟩;rw [hy] at hand;rw [hy, hz] at hst;rw [hz] at hcA hp;obtain ⟨P, hP⟩ : ∃ P, 2 ^ k = P := ⟨_, rfl⟩
   have hm2 : 2 ^ k / 2 < 2 ^ k := by omega
   have Hmn := hide hmn;rw [hP] at hand hpk hpp hpl hm2;rw [hpk]
   have hbit : (bits .and .i64 (n : Int) (P : Int) != 0) = (y == 1) := by
    rw [hand]
    have hz : y = 0 ∨ y = 1 := by omega
    rcases hz with rfl | rfl
    ·simp
    ·rw [Nat.one_mul]
     have : ((P : Int) != 0) = true := by rw [bne_iff_ne]; omega
     rw [this];rfl
   have hpl2 : (P : Int) ≤ 64 := by omega
   have hm642 : (m : Int) < 64 := by rw [htu.2] at hm64; omega
   have Hb := hide (fbit_any hx.drew.en hvx z y hp.1 hp.2 hy2 (by omega));have Ha := hide (fadapt_any z y hp.1 hp.2 hy2);have hel := ebit_len z y x;have hval := ebit_val hvx (b := y) hp.1 hp.2;have htn : TNum (u.set m (adapt z y)) := ⟨tok_set htu.1 m (adapt_ok hp), by rw [List.length_set]; exact htu.2⟩;have Hs := hide (fun W (h : At W (some ⟨bA, oA, none⟩) (ns u)) => fset_any h 64 capt htu.2.symm m (adapt z y) hm64 (by rw [htu.2]; omega));have c0 : wr.cell? ⟨w.heap.size, 0, none⟩ = some (.slice A' x.out.length cap') := hx.1.cell 0;have c1 : wr.cell? ⟨w.heap.size, 1, none⟩ = some (.int .i64 (x.low : Int)) := hx.1.cell 1;have c2 : wr.cell? ⟨w.heap.size, 2, none⟩ = some (.int .i64 (x.size : Int)) := hx.1.cell 2;have Hst := hide hst;have Hx := hide hx;have Hat := hide hat;have Hres := hide hres;have Hf := hide hf;have HP := hide hP;have Hz := hide hz;have Htu := hide htu;have Hlt := hide (And.intro hlx (And.intro hj hel));clear hst hand hpk hy hz hP hx hvx htu hm hm64 hp hat hres hf hlx hel hmn hpl hn hl
   go_upto_if 21 with fail
   go_cut [10] (fun s10 wx => s10 = .int .i64 (y : Int) ∧ wr = wx)
   case first =>
    have hz : y = 0 ∨ y = 1 := by omega
    clear Hb Ha Hs Hst Hx Hat Hres Hf HP Htu Hlt c0 c1 c2 hcA hval htn Hmn hm2
    rcases hz with rfl | rfl
    ·have h0 : (bits .and .i64 (n : Int) (P : Int) != 0) = false := hbit
     clear hbit
     go_wp2
     go_meet
     case rel => exact ⟨rfl, rfl⟩
    ·have h0 : (bits .and .i64 (n : Int) (P : Int) != 0) = true := hbit
     clear hbit
     go_wp2
     go_meet
     case rel => exact ⟨rfl, rfl⟩
   case rest =>
    obtain ⟨rfl, rfl⟩ := hcut;clear hbit
    go_wp2
    go_region_with ((go_at_call 177; refine (Hb.out).mono ?_; rintro r w2 ⟨v2, rfl, ⟨A2, cap2, rfl, hat2⟩, hb2⟩; have hrb2 := Hx.out.drew.below hb2; have p0 := hrb2.1.frozen 0; have p1 := hrb2.1.frozen 1; have p2 := hrb2.1.frozen 2; have q0 : w2.cell? ⟨w.heap.size, 0, none⟩ = some (.slice A' x.out.length cap') := hrb2.1.cell 0; have q1 : w2.cell? ⟨w.heap.size, 1, none⟩ = some (.int .i64 (x.low : Int)) := hrb2.1.cell 1; have q2 : w2.cell? ⟨w.heap.size, 2, none⟩ = some (.int .i64 (x.size : Int)) := hrb2.1.cell 2; have Hrb2 := hide hrb2; have Hat2 := hide hat2; have Hb2 := hide hb2; clear hrb2 hat2 hb2))
    all_goals
     have hlt := Hres.out.lt;have hne := (hfar.out _ _ rfl).1;have hrbA := Hrb2.out.putAll (cap' := cap2) Hat2.out;have hresA := (((Hres.out.drew.below Hb2.out hlt).off (p := ⟨w.heap.size, 0, none⟩) (by simp) (.slice A2 (ebit z y x).out.length cap2)).off (p := ⟨w.heap.size, 1, none⟩) (by simp) (.int .i64 ((ebit z y x).low : Int))).off (p := ⟨w.heap.size, 2, none⟩) (by simp) (.int .i64 ((ebit z y x).size : Int));have hfA := (((Hf.out.drew.trans (Hb2.out.mono Hf.out.size)).setCell (p := ⟨w.heap.size, 0, none⟩) (Nat.le_refl _) (.slice A2 (ebit z y x).out.length cap2)).setCell (p := ⟨w.heap.size, 1, none⟩) (Nat.le_refl _) (.int .i64 ((ebit z y x).low : Int))).setCell (p := ⟨w.heap.size, 2, none⟩) (Nat.le_refl _) (.int .i64 ((ebit z y x).size : Int));have hatA := (Hat.out.drew.below Hb2.out).keep ((((Fr.refl (only w.heap.size) w2).setCell (p := ⟨w.heap.size, 0, none⟩) (.inl rfl) (.slice A2 (ebit z y x).out.length cap2)).setCell (p := ⟨w.heap.size, 1, none⟩) (.inl rfl) (.int .i64 ((ebit z y x).low : Int))).setCell (p := ⟨w.heap.size, 2, none⟩) (.inl rfl) (.int .i64 ((ebit z y x).size : Int))) (fun b o hbo hs => hne (by injection hbo with hbo; injection hbo with hbo; rw [hbo]; exact hs));clear p0 p1 p2 q0 q1 q2 c0 c1 c2 hcA hlt hne
     generalize (((w2.setCell ⟨w.heap.size, 0, none⟩ (.slice A2 (ebit z y x).out.length cap2)).setCell ⟨w.heap.size, 1, none⟩ (.int .i64 ((ebit z y x).low : Int))).setCell ⟨w.heap.size, 2, none⟩ (.int .i64 ((ebit z y x).size : Int))) = W3 at *
     obtain ⟨b3, o3, hA3, hb3, hc3⟩ := hatA.get m _ (by have := ns_get u m (by have := Htu.out.2; omega); exact this)
     injection hA3 with hA3
     injection hA3 with hA3 hO3
     subst hA3; subst hO3
     have hz3 : W3.cell? ⟨bA, oA + m, none⟩ = some (.int .i64 (z : Int)) := by rw [hc3, Hz.out]
     have Hset := hide (Hs.out W3 hatA);have HrbA := hide hrbA;have HresA := hide hresA;have HfA := hide hfA;clear hc3 hatA hrbA hresA hfA Hrb2 Hat2 Hb2 Hx Hat Hres Hf Hb Hs
     go_wp2_with fail
     refine (Ha.out _).mono ?_;rintro r w4 ⟨rfl, rfl⟩
     go_wp2_with fail
     refine (Hset.out).mono ?_;rintro r w4 ⟨A4, cap4, rfl, hat4, hb4, hfr4⟩;have hrb4 := HrbA.out.below hb4;have hres4 := HresA.out.below hb4 HresA.out.lt;have hf4 := HfA.out.trans (hb4.mono HfA.out.size);have hlt4 := HresA.out.lt;have Hrb4 := hide hrb4;have Hres4 := hide hres4;have Hf4 := hide hf4;have Hat4 := hide hat4;have Hfr4 : Hid (∀ b o, A4 = some ⟨b, o, none⟩ → A4 = A ∨ w.heap.size + 2 ≤ b) := hide (fun b o h => by have := hfr4 b o h; exact .inr (by omega));clear hrb4 hres4 hf4 hat4 hb4 hfr4 hlt4 HrbA HresA HfA Hset
     go_wp2
     go_roundw
     case rel => exact ⟨k, 2 * m + y, A2, A4, cap2, cap4, u.set m (adapt z y), ebit z y x, by have := Hlt.out.2.1; omega, (by rw [HP.out]; exact congrArg (Value.int .i64) (by omega)), by congr 1, Hmn.out, rfl, Hat4.out, Hfr4, htn, Hrb4.out, hval, hide (by rw [← Hst.out]; exact hte.out), Hres4.out, Hf4.out, by have := Hlt.out; omega⟩
     case measure => simp [intOf] <;> omega
  ·have hj0 : j = 0 := by omega
   subst hj0;have hfin := hte.out;rw [tenc] at hfin;obtain ⟨WF, hWF, u0, u1, u2, hren, hfr⟩ := res_end hx hres rfl;have c0 : wr.cell? ⟨w.heap.size, 0, none⟩ = some (.slice A' x.out.length cap') := hx.1.cell 0;have c1 : wr.cell? ⟨w.heap.size, 1, none⟩ = some (.int .i64 (x.low : Int)) := hx.1.cell 1;have c2 : wr.cell? ⟨w.heap.size, 2, none⟩ = some (.int .i64 (x.size : Int)) := hx.1.cell 2;have z0 : wr.cell? ⟨w.heap.size + 1, 0, none⟩ = some (.slice none 0 0) := hres.cell 0;have z1 : wr.cell? ⟨w.heap.size + 1, 1, none⟩ = some (.int .i64 0) := hres.cell 1;have z2 : wr.cell? ⟨w.heap.size + 1, 2, none⟩ = some (.int .i64 0) := hres.cell 2;have y0 := hres.frozen 0;have y1 := hres.frozen 1;have y2 := hres.frozen 2;have hbe := own_below hfr hf.size (show w.heap.size ≤ w.heap.size + 1 by omega);have Hren := hide hren;have Hbe := hide (hf.trans hbe);have HWF := hide hWF;have Hfin := hide hfin;have HatF := hide (hat.keep hfr (fun b o hbo hs => (hfar.out b o hbo).2 hs));clear hx hres hf hren hbe hfr hWF hat hfin hte hlx hm
   go_wp2
   rw [HWF.out];clear c0 c1 c2 z0 z1 z2 y0 y1 y2;refine bodyPost_ret (by simp [results, Tryz.results149, go_sem, u0, u1, u2]; try rfl) rfl ?_;rw [← Hfin.out];exact ⟨_, At', capt, rfl, Hren.out, HatF.out, Hbe.out, fun b o h => (hfar0.out b o h).imp id (fun h => by omega)⟩
theorem fnenc_any {w : World} {v : Value} {e : En} {A : Option Addr} {t : List Nat} (h : REn w v e) (hv : Val 0 e) (ha : At w A (ns t)) (ht : TNum t) (n cap : Nat) (hn : n < 4611686018427387904) (hl : e.out.length ≤ 700000) :
  Calls Tryz.prog 112 #[v, .slice A 64 cap, .int .i64 (n : Int)] w fun x w' => ERT w A (nenc n (t, e)) x w' := by
 have hb62 := blen_le hn;have Hl := hide (flength_any n (by omega));obtain ⟨k, hk⟩ : ∃ k, blen n = k := ⟨_, rfl⟩
 have hne : nenc n (t, e) = ((tenc 6 k 1 t e).1, if 2 ≤ k then edir (k - 1) n (tenc 6 k 1 t e).2 else (tenc 6 k 1 t e).2) := by unfold nenc; rw [hk]
 rw [hk] at Hl hb62;obtain ⟨k1, k2, k3⟩ := tenc_val 6 k 1 ht.1 (by rw [ht.2]; decide) hv;have hlen := tenc_len k 6 1 t e;have Ht := hide (fun W (hr : REn W v e) (ha : At W A (ns t)) => ftenc_any hr hv ha ht k cap (by omega) (by omega))
 generalize tenc 6 k 1 t e = D at *
 obtain ⟨t2, e2⟩ := D;simp only at hne Ht k3 hlen;have Hne := hide hne;have k1l := hide (show t2.length = 64 from k2.trans ht.2);obtain ⟨Ae, cape, rfl, hat⟩ := h;have hbel0 := (((Below.refl w.heap.size w).alloc (Nat.le_refl _) (.cells #[.slice Ae e.out.length cape, .int .i64 (e.low : Int), .int .i64 (e.size : Int)] 122)).alloc (by simp) (.cells #[.slice none 0 0, .int .i64 0, .int .i64 0] 122));have hres0 := (Bk.new (w.alloc (.cells #[.slice Ae e.out.length cape, .int .i64 (e.low : Int), .int .i64 (e.size : Int)] 122)) 122 #[.slice none 0 0, .int .i64 0, .int .i64 0]);simp only [World.size_alloc] at hres0;have hat0 := (ha.alloc (.cells #[.slice Ae e.out.length cape, .int .i64 (e.low : Int), .int .i64 (e.size : Int)] 122)).alloc (.cells #[.slice none 0 0, .int .i64 0, .int .i64 0] 122);have hren0 : REn ((w.alloc (.cells #[.slice Ae e.out.length cape, .int .i64 (e.low : Int), .int .i64 (e.size : Int)] 122)).alloc (.cells #[.slice none 0 0, .int .i64 0, .int .i64 0] 122)) (.agg #[.slice Ae e.out.length cape, .int .i64 (e.low : Int), .int .i64 (e.size : Int)]) e := ⟨Ae, cape, rfl, (hat.alloc _).alloc _⟩;have Hx := hide (Ht.out _ hren0 hat0)
 have HbA : Hid (∀ b o, A = some ⟨b, o, none⟩ → b < w.heap.size) := hide (fun b o h => by
  obtain ⟨b', o', h1, h2, _⟩ := ha 0 (by rw [ns_len, ht.2]; omega);rw [h] at h1
  injection h1 with h1
  injection h1 with h1
  omega)
 have Hbel0 := hide hbel0;have Hres0 := hide hres0
 have hc0 : ¬ (n : Int) < 0 := by omega
 have hc1 : ¬ (4611686018427387903 : Int) < (n : Int) := by omega
 have hk0 : k < 63 := by omega
 have Hd := hide (fun W vv (hr : REn W vv e2) (h2 : 2 ≤ k) => fdirect_any hr k3 (k - 1) n (by omega) (by omega) (by omega));clear hbel0 hres0 hat ha hat0 hren0 Ht hne hk k1 k2 k3 hv hn ht hlen hl hb62
 go_enter Tryz.func112, Tryz.ntmps112
 go_wp2_with fail
 refine (Hl.out _).mono ?_;rintro x w1 ⟨rfl, rfl⟩
 go_wp2_with fail
 refine (Hx.out).mono ?_;rintro x w2 ⟨v2, A4, cap4, rfl, ⟨A2, cap2, rfl, hat2⟩, hat4, hb2, hfar⟩;simp only at hat2 hat4;have hbel2 := Hbel0.out.trans (hb2.mono Hbel0.out.size);have hlt0 := Hres0.out.lt;have hres2 := Hres0.out.below hb2 hlt0;have hlt2 := hres2.lt;have hrb3 : RB (w2.alloc (.cells #[.slice A2 e2.out.length cap2, .int .i64 (e2.low : Int), .int .i64 (e2.size : Int)] 122)) w2.heap.size A2 cap2 e2 := ⟨Bk.new _ _ _, hat2.alloc _⟩;have hres3 := hres2.alloc (.cells #[.slice A2 e2.out.length cap2, .int .i64 (e2.low : Int), .int .i64 (e2.size : Int)] 122);have hbel3 := hbel2.alloc hbel2.size (.cells #[.slice A2 e2.out.length cap2, .int .i64 (e2.low : Int), .int .i64 (e2.size : Int)] 122);have hat43 := hat4.alloc (.cells #[.slice A2 e2.out.length cap2, .int .i64 (e2.low : Int), .int .i64 (e2.size : Int)] 122);have Hrb3 := hide hrb3;have Hres3 := hide hres3;have Hbel3 := hide hbel3;have Hat43 := hide hat43
 have hw2 : w.heap.size + 2 ≤ w2.heap.size := by
  have := hb2.size
  simp at this
  omega
 simp only [World.size_alloc] at hfar
 have Hfar : Hid (∀ b o, A4 = some ⟨b, o, none⟩ → b ≠ w.heap.size + 1 ∧ b ≠ w2.heap.size) := hide (fun b o h => by
  have h3 : b < w2.heap.size := by
   obtain ⟨b', o', h1, h2, _⟩ := hat4 0 (by rw [ns_len, k1l.out]; omega);rw [h] at h1
   injection h1 with h1
   injection h1 with h1
   omega
  rcases hfar b o h with h1 | h1
  ·have := HbA.out b o (h1 ▸ h)
   omega
  ·omega)
 have Hfar2 : Hid (∀ b o, A4 = some ⟨b, o, none⟩ → A4 = A ∨ w.heap.size ≤ b) := hide (fun b o h => (hfar b o h).imp id (fun h => by omega));clear hrb3 hres3 hbel3 hfar hat2 hat4 hb2 hbel2 hres2 hlt0 hat43 Hx Hl Hbel0 Hres0
 generalize hW3 : w2.alloc (.cells #[.slice A2 e2.out.length cap2, .int .i64 (e2.low : Int), .int .i64 (e2.size : Int)] 122) = W3 at *
 have HW3 := hide hW3;clear hW3;have c0 : W3.cell? ⟨w2.heap.size, 0, none⟩ = some (.slice A2 e2.out.length cap2) := Hrb3.out.1.cell 0;have c1 : W3.cell? ⟨w2.heap.size, 1, none⟩ = some (.int .i64 (e2.low : Int)) := Hrb3.out.1.cell 1;have c2 : W3.cell? ⟨w2.heap.size, 2, none⟩ = some (.int .i64 (e2.size : Int)) := Hrb3.out.1.cell 2
 by_cases h2 : 2 ≤ k
 ·have hk2 : (2 : Int) ≤ (k : Int) := by omega
  have Hd2 := hide (Hd.out _ _ Hrb3.out.en h2);have H2 := hide h2;obtain ⟨q, hq⟩ : ∃ q, k - 1 = q := ⟨_, rfl⟩;have hq0 := hq
  have i1 : (k : Int) - 1 = (q : Int) := by omega
  rw [hq] at Hd2;obtain ⟨EE, hEE⟩ : ∃ EE, edir q n e2 = EE := ⟨_, rfl⟩;have Hq : Hid (edir (k - 1) n e2 = EE) := hide (by rw [hq, hEE]);rw [hEE] at Hd2;clear hq h2 hq0 hEE
  go_upto_region 6 with fail
  rw [HW3.out]
  go_wp2_with fail
  refine (Hd2.out).mono ?_;rintro x w5 ⟨v5, rfl, ⟨A5, cap5, rfl, hat5⟩, hb5⟩;have hrb5 := Hrb3.out.below hb5;have p0 := hrb5.1.frozen 0;have p1 := hrb5.1.frozen 1;have p2 := hrb5.1.frozen 2;have q0 : w5.cell? ⟨w2.heap.size, 0, none⟩ = some (.slice A2 e2.out.length cap2) := hrb5.1.cell 0;have q1 : w5.cell? ⟨w2.heap.size, 1, none⟩ = some (.int .i64 (e2.low : Int)) := hrb5.1.cell 1;have q2 : w5.cell? ⟨w2.heap.size, 2, none⟩ = some (.int .i64 (e2.size : Int)) := hrb5.1.cell 2;have hrbA := hrb5.putAll (cap' := cap5) hat5
  have hneq : w.heap.size + 1 ≠ w2.heap.size := by omega
  have hresA := (((Hres3.out.below hb5 Hres3.out.lt).off (p := ⟨w2.heap.size, 0, none⟩) hneq (.slice A5 EE.out.length cap5)).off (p := ⟨w2.heap.size, 1, none⟩) hneq (.int .i64 (EE.low : Int))).off (p := ⟨w2.heap.size, 2, none⟩) hneq (.int .i64 (EE.size : Int))
  have hwl : w.heap.size ≤ w2.heap.size := by omega
  have hbA := (((Hbel3.out.trans (hb5.mono Hbel3.out.size)).setCell (p := ⟨w2.heap.size, 0, none⟩) hwl (.slice A5 EE.out.length cap5)).setCell (p := ⟨w2.heap.size, 1, none⟩) hwl (.int .i64 (EE.low : Int))).setCell (p := ⟨w2.heap.size, 2, none⟩) hwl (.int .i64 (EE.size : Int));have hatA := (Hat43.out.below hb5).keep ((((Fr.refl (only w2.heap.size) w5).setCell (p := ⟨w2.heap.size, 0, none⟩) (.inl rfl) (.slice A5 EE.out.length cap5)).setCell (p := ⟨w2.heap.size, 1, none⟩) (.inl rfl) (.int .i64 (EE.low : Int))).setCell (p := ⟨w2.heap.size, 2, none⟩) (.inl rfl) (.int .i64 (EE.size : Int))) (fun b o hbo hs => (Hfar.out b o hbo).2 hs);have HrbA := hide hrbA;have HresA := hide hresA;have HbA2 := hide hbA;have HatA := hide hatA;clear hrb5 hrbA hresA hbA hatA hat5 hb5 Hres3 Hbel3 Hat43 c0 c1 c2 Hrb3
  go_upto_region 7 with fail
  generalize (((w5.setCell ⟨w2.heap.size, 0, none⟩ (.slice A5 EE.out.length cap5)).setCell ⟨w2.heap.size, 1, none⟩ (.int .i64 (EE.low : Int))).setCell ⟨w2.heap.size, 2, none⟩ (.int .i64 (EE.size : Int))) = W6 at *
  clear p0 p1 p2 q0 q1 q2;obtain ⟨WF, hWF, u0, u1, u2, hren, hfr⟩ := res_end HrbA.out HresA.out rfl;have c0 : W6.cell? ⟨w2.heap.size, 0, none⟩ = some (.slice A5 EE.out.length cap5) := (HrbA.out).1.cell 0;have c1 : W6.cell? ⟨w2.heap.size, 1, none⟩ = some (.int .i64 (EE.low : Int)) := (HrbA.out).1.cell 1;have c2 : W6.cell? ⟨w2.heap.size, 2, none⟩ = some (.int .i64 (EE.size : Int)) := (HrbA.out).1.cell 2;have z0 : W6.cell? ⟨w.heap.size + 1, 0, none⟩ = some (.slice none 0 0) := (HresA.out).cell 0;have z1 : W6.cell? ⟨w.heap.size + 1, 1, none⟩ = some (.int .i64 0) := (HresA.out).cell 1;have z2 : W6.cell? ⟨w.heap.size + 1, 2, none⟩ = some (.int .i64 0) := (HresA.out).cell 2;have y0 := (HresA.out).frozen 0;have y1 := (HresA.out).frozen 1;have y2 := (HresA.out).frozen 2;have hbe := own_below hfr (HbA2.out).size (show w.heap.size ≤ w.heap.size + 1 by omega);have Hren := hide hren;have Hbe := hide ((HbA2.out).trans hbe);have HWF := hide hWF;have HatF := hide ((HatA.out).keep hfr (fun b o hbo hs => (Hfar.out b o hbo).1 hs));clear hren hbe hWF hfr
  go_wp2
  rw [HWF.out];clear c0 c1 c2 z0 z1 z2 y0 y1 y2;refine bodyPost_ret (by simp [results, Tryz.results112, go_sem, u0, u1, u2]; try rfl) rfl ?_;rw [Hne.out];exact ⟨_, A4, cap4, rfl, by rw [if_pos H2.out, Hq.out]; exact Hren.out, HatF.out, Hbe.out, Hfar2.out⟩
 ·have hk2 : ¬ (2 : Int) ≤ (k : Int) := by omega
  have H2 := hide h2;clear h2
  go_upto_region 7 with fail
  rw [HW3.out];obtain ⟨WF, hWF, u0, u1, u2, hren, hfr⟩ := res_end Hrb3.out Hres3.out rfl;have c0 : W3.cell? ⟨w2.heap.size, 0, none⟩ = some (.slice A2 e2.out.length cap2) := (Hrb3.out).1.cell 0;have c1 : W3.cell? ⟨w2.heap.size, 1, none⟩ = some (.int .i64 (e2.low : Int)) := (Hrb3.out).1.cell 1;have c2 : W3.cell? ⟨w2.heap.size, 2, none⟩ = some (.int .i64 (e2.size : Int)) := (Hrb3.out).1.cell 2;have z0 : W3.cell? ⟨w.heap.size + 1, 0, none⟩ = some (.slice none 0 0) := (Hres3.out).cell 0;have z1 : W3.cell? ⟨w.heap.size + 1, 1, none⟩ = some (.int .i64 0) := (Hres3.out).cell 1;have z2 : W3.cell? ⟨w.heap.size + 1, 2, none⟩ = some (.int .i64 0) := (Hres3.out).cell 2;have y0 := (Hres3.out).frozen 0;have y1 := (Hres3.out).frozen 1;have y2 := (Hres3.out).frozen 2;have hbe := own_below hfr (Hbel3.out).size (show w.heap.size ≤ w.heap.size + 1 by omega);have Hren := hide hren;have Hbe := hide ((Hbel3.out).trans hbe);have HWF := hide hWF;have HatF := hide ((Hat43.out).keep hfr (fun b o hbo hs => (Hfar.out b o hbo).1 hs));clear hren hbe hWF hfr;clear Hrb3 Hres3 Hbel3 Hat43
  go_wp2
  rw [HWF.out];clear c0 c1 c2 z0 z1 z2 y0 y1 y2;refine bodyPost_ret (by simp [results, Tryz.results112, go_sem, u0, u1, u2]; try rfl) rfl ?_;rw [Hne.out];exact ⟨_, A4, cap4, rfl, by rw [if_neg H2.out]; exact Hren.out, HatF.out, Hbe.out, Hfar2.out⟩
theorem heldE {w W W' : World} {b : Nat} {A : Option Addr} {cap : Nat} {e : En}
  (h : W.cell? ⟨b, 0, none⟩ = some (.slice A e.out.length cap) ∧ W.cell? ⟨b, 1, none⟩ = some (.int .i64 (e.low : Int)) ∧ W.cell? ⟨b, 2, none⟩ = some (.int .i64 (e.size : Int)) ∧ RB W b A cap e ∧ Below w.heap.size w W) (hb : Below W.heap.size W W') :
  W'.cell? ⟨b, 0, none⟩ = some (.slice A e.out.length cap) ∧ W'.cell? ⟨b, 1, none⟩ = some (.int .i64 (e.low : Int)) ∧ W'.cell? ⟨b, 2, none⟩ = some (.int .i64 (e.size : Int)) ∧ RB W' b A cap e ∧ Below w.heap.size w W' := by
 have h2 := h.2.2.2.1.below hb;exact ⟨h2.1.cell 0, h2.1.cell 1, h2.1.cell 2, h2, h.2.2.2.2.trans (hb.mono h.2.2.2.2.size)⟩
theorem heldE_fin {w W : World} {b : Nat} {A : Option Addr} {cap : Nat} {e : En}
  (h : W.cell? ⟨b, 0, none⟩ = some (.slice A e.out.length cap) ∧ W.cell? ⟨b, 1, none⟩ = some (.int .i64 (e.low : Int)) ∧ W.cell? ⟨b, 2, none⟩ = some (.int .i64 (e.size : Int)) ∧ RB W b A cap e ∧ Below w.heap.size w W) : Below w.heap.size w W := h.2.2.2.2
theorem heldE_rb {w W : World} {b : Nat} {A : Option Addr} {cap : Nat} {e : En}
  (h : W.cell? ⟨b, 0, none⟩ = some (.slice A e.out.length cap) ∧ W.cell? ⟨b, 1, none⟩ = some (.int .i64 (e.low : Int)) ∧ W.cell? ⟨b, 2, none⟩ = some (.int .i64 (e.size : Int)) ∧ RB W b A cap e ∧ Below w.heap.size w W) : RB W b A cap e := h.2.2.2.1
theorem fencn_any {w : World} {A : Option Addr} {l : List Nat} (ha : At w A (ns l)) (n cap : Nat) (hn : n = l.length) (hl : l.length ≤ 4096) (hv : ∀ v ∈ l, v < 4611686018427387904) :
  Calls Tryz.prog 72 #[.slice A n cap] w fun x w' => x = .returned (.tuple #[.string (bs (encn l)), .int .i64 0]) ∧ Below w.heap.size w w' := by
 have Hne := hide (fnewenc_any w);have Hnt := hide (fun W => fnewtree_any W);have Hnn := hide (fun (m : Nat) (hm : m ≤ 4096) W => rnumber_any (m : Int) (by omega) (by omega) W);have hec := nencs_val l (x := (t0, e0)) tnum_0 val_0;have hel := nencs_len l (t0, e0) hv;have Ha := hide ha;have Hv := hide hv
 have hn4 : (n : Int) ≤ 4096 := by omega
 have Hn := hide hn;have Hl := hide hl;clear ha hv hn hl
 go_enter Tryz.func72, Tryz.ntmps72
 go_wp2_with fail
 refine (Hne.out).mono ?_;rintro x w1 ⟨v1, rfl, ⟨A1, cap1, rfl, hat1⟩, hb1⟩
 go_wp2_with fail
 refine (Hnt.out w1).mono ?_;rintro x w2 ⟨A2, cap2, rfl, hat2, hb2⟩;have hbb := hb1.trans (hb2.mono hb1.size);have hrb : RB (w2.alloc (.cells #[.slice A1 e0.out.length cap1, .int .i64 (e0.low : Int), .int .i64 (e0.size : Int)] 122)) w2.heap.size A1 cap1 e0 := ⟨Bk.new _ _ _, (hat1.below hb2).alloc _⟩;have hat3 := hat2.alloc (.cells #[.slice A1 e0.out.length cap1, .int .i64 (e0.low : Int), .int .i64 (e0.size : Int)] 122);have hbb3 := hbb.alloc hbb.size (.cells #[.slice A1 e0.out.length cap1, .int .i64 (e0.low : Int), .int .i64 (e0.size : Int)] 122)
 have Hfar : Hid (∀ b o, A2 = some ⟨b, o, none⟩ → b ≠ w2.heap.size) := hide (fun b o h => by
  obtain ⟨b', o', h1, h2, _⟩ := hat2 0 (by rw [ns_len, tnum_0.2]; omega);rw [h] at h1
  injection h1 with h1
  injection h1 with h1
  omega)
 have Hrb := hide hrb;have Hat3 := hide hat3;have Hbb3 := hide hbb3;have Hw2 := hide hbb.size;clear hrb hat3 hbb3 hat1 hat2 hb1 hb2 hbb Hne Hnt
 go_wp2
 go_loopw [5, 6] (fun tv i wr => ∃ (k : Nat) (At' A' : Option Addr) (capt cap' : Nat), k ≤ n ∧ i = .int .i64 k ∧ tv = .slice At' 64 capt ∧ At wr At' (ns (nencs (l.take k) (t0, e0)).1) ∧ Hid (∀ b o, At' = some ⟨b, o, none⟩ → b ≠ w2.heap.size) ∧ RB wr w2.heap.size A' cap' (nencs (l.take k) (t0, e0)).2 ∧ Below w.heap.size w wr) (fun _ i _ => (n - intOf i).toNat)
 case atStart => exact ⟨0, A2, A1, cap2, cap1, by omega, rfl, rfl, Hat3.out, Hfar, Hrb.out, Hbb3.out⟩
 case round =>
  clear Hrb Hat3 Hbb3 Hfar;obtain ⟨k, At', A', capt, cap', hk, rfl, rfl, hat, hfar, hrb, hf⟩ := hrel;obtain ⟨kt, ke⟩ := nencs_val (l.take k) (x := (t0, e0)) tnum_0 val_0;have klen := nencs_len (l.take k) (t0, e0) (fun v hv => Hv.out v (List.mem_of_mem_take hv))
  have ktl : (l.take k).length ≤ 4096 := by have := Hl.out; rw [List.length_take]; omega
  by_cases hlt : k < n
  ·have hkl : k < l.length := by rw [← Hn.out]; exact hlt
   have hstep := nencs_take l k hkl (t0, e0);obtain ⟨D, hD⟩ : ∃ D, nencs (l.take k) (t0, e0) = D := ⟨_, rfl⟩;rw [hD] at hstep hat hrb kt ke klen;obtain ⟨t, x⟩ := D;simp only at hat hrb kt ke klen;obtain ⟨v, hvk⟩ : ∃ v, l.getD k 0 = v := ⟨_, rfl⟩
   have hv62 : v < 4611686018427387904 := by
    have h1 : l.getD k 0 = l[k] := by simp [List.getD, hkl]
    rw [← hvk, h1];exact Hv.out _ (List.getElem_mem _)
   have hatl := Ha.out.below hf;obtain ⟨bA, oA, hA, hbA, hcA⟩ := hatl.get k _ (ns_get l k hkl);subst hA;rw [hvk] at hcA hstep
   have h62 : ¬ (4611686018427387903 : Int) < (v : Int) := by omega
   have hc0 : ¬ (v : Int) < 0 := by omega
   have he0 : (e0 : En).out.length = 0 := rfl;have Hb := hide (fnenc_any hrb.drew.en ke hat.drew kt v capt hv62 (by rw [he0] at klen; omega));have c0 : wr.cell? ⟨w2.heap.size, 0, none⟩ = some (.slice A' x.out.length cap') := hrb.1.cell 0;have c1 : wr.cell? ⟨w2.heap.size, 1, none⟩ = some (.int .i64 (x.low : Int)) := hrb.1.cell 1;have c2 : wr.cell? ⟨w2.heap.size, 2, none⟩ = some (.int .i64 (x.size : Int)) := hrb.1.cell 2;obtain ⟨F, hF⟩ : ∃ F, nenc v (t, x) = F := ⟨_, rfl⟩;rw [hF] at Hb hstep;obtain ⟨t9, e9⟩ := F;have Hstep := hide hstep;have Hx := hide hrb;have Hat := hide hat;have Hf := hide hf;clear hstep hD hF hvk hv62 hrb hat hf kt ke klen ktl hatl he0 hec hel
   go_wp2
   go_region_with ((go_at_call 112; refine (Hb.out).mono ?_; rintro r w3 ⟨v3, A4, cap4, rfl, ⟨A3, cap3, rfl, hat3⟩, hat4, hb3, hfar3⟩; simp only at hat3 hat4; have hrb3 := Hx.out.drew.below hb3; have p0 := hrb3.1.frozen 0; have p1 := hrb3.1.frozen 1; have p2 := hrb3.1.frozen 2; have q0 : w3.cell? ⟨w2.heap.size, 0, none⟩ = some (.slice A' x.out.length cap') := hrb3.1.cell 0; have q1 : w3.cell? ⟨w2.heap.size, 1, none⟩ = some (.int .i64 (x.low : Int)) := hrb3.1.cell 1; have q2 : w3.cell? ⟨w2.heap.size, 2, none⟩ = some (.int .i64 (x.size : Int)) := hrb3.1.cell 2; have Hrb3 := hide hrb3; have Hat3 := hide hat3; have Hat4 := hide hat4; have Hfar3 := hide hfar3; have Hb3 := hide hb3; clear hrb3 hat3 hat4 hfar3 hb3))
   all_goals
    have hltb : w2.heap.size < wr.heap.size := Hx.out.1.lt;have hw2 := Hw2.out
    have Hfar4 : Hid (∀ b o, A4 = some ⟨b, o, none⟩ → b ≠ w2.heap.size) := hide (fun b o h => by
     rcases Hfar3.out b o h with h1 | h1
     ·exact hfar.out b o (h1 ▸ h)
     ·have : wr.heap.size ≤ b := h1
      omega)
    have hrbA := Hrb3.out.putAll (cap' := cap3) Hat3.out;have hfr := (((Fr.refl (only w2.heap.size) w3).setCell (p := ⟨w2.heap.size, 0, none⟩) (.inl rfl) (.slice A3 e9.out.length cap3)).setCell (p := ⟨w2.heap.size, 1, none⟩) (.inl rfl) (.int .i64 (e9.low : Int))).setCell (p := ⟨w2.heap.size, 2, none⟩) (.inl rfl) (.int .i64 (e9.size : Int));have hatA := Hat4.out.keep hfr (fun b o hbo hs => Hfar4.out b o hbo hs);have hf3 := Hf.out.drew.trans (Hb3.out.mono Hf.out.size);have hfA := hf3.trans (own_below hfr hf3.size hw2);have HrbA := hide hrbA;have HatA := hide hatA;have HfA := hide hfA;clear hrbA hatA hfA hf3 hfr hltb hw2 p0 p1 p2 q0 q1 q2 c0 c1 c2 hcA Hrb3 Hat3 Hat4 Hb3 Hfar3 Hx Hat Hf Hb
    go_wp2
    go_roundw
    case rel => exact ⟨k + 1, A4, A3, cap4, cap3, by omega, by go_num, rfl, by rw [Hstep.out]; exact HatA.out, Hfar4, by rw [Hstep.out]; exact HrbA.out, HfA.out⟩
    case measure => simp [intOf] <;> omega
  ·have hkn : k = n := by omega
   subst hkn;have hln := Hn.out
   by_cases hk0 : k = 0
   ·have he : encn l = num 0 := by
     have : l = [] := List.eq_nil_of_length_eq_zero (by omega);subst this;rfl
    have He := hide he;have Hz := hide (Hnn.out 0 (by omega))
    have g0 : ((k : Int) == 0) = true := by rw [beq_iff_eq]; omega
    have Hf := hide hf;clear he hrb hat hfar hf kt ke klen ktl hec hel hln hk0 hlt
    go_wp2_with fail
    refine (Hz.out _).mono ?_;rintro x w9 ⟨rfl, hb9⟩;have hfin := Hf.out.trans (hb9.mono Hf.out.size)
    go_wp2
    go_returns
    exact ⟨by rw [He.out]; rfl, hfin⟩
   ·have htl : l.take k = l := by rw [hln]; exact List.take_length
    rw [htl] at hrb;obtain ⟨D, hD⟩ : ∃ D, nencs l (t0, e0) = D := ⟨_, rfl⟩
    have he : encn l = num k ++ efin D.2 := by
     unfold encn;rw [if_neg (fun h => by rw [h] at hln; simp at hln; omega), hD, ← hln]
    rw [hD] at hrb hec hel;obtain ⟨t, x⟩ := D;simp only at hrb hec hel he;have he0 : (e0 : En).out.length = 0 := rfl
    have hxl : x.out.length ≤ 700000 := by rw [he0] at hel; have := Hl.out; omega
    have hlow := hec.2.low;have Hfn := hide (fun W (h : RB W w2.heap.size A' cap' x) => ffinish_any h.en hlow (by omega));have hnum := Hnn.out k (by have := Hl.out; omega);simp only [Int.toNat_natCast] at hnum;have Hnum := hide hnum
    have g0 : ((k : Int) == 0) = false := by rw [beq_eq_false_iff_ne]; omega
    have hs1 : (bs (num k)).size ≤ 9 := by rw [bs_size]; exact kof9 k
    have hs2 : (bs (efin x)).size ≤ 800000 := by
     rw [bs_size];unfold efin;rw [List.length_append, be_length];omega
    have Hcat := hide (show bs (num k) ++ bs (efin x) = bs (encn l) by rw [bs_append, he]);have H1 : (wr.drew.cell? ⟨w2.heap.size, 0, none⟩ = some (.slice A' x.out.length cap') ∧ wr.drew.cell? ⟨w2.heap.size, 1, none⟩ = some (.int .i64 (x.low : Int)) ∧ wr.drew.cell? ⟨w2.heap.size, 2, none⟩ = some (.int .i64 (x.size : Int)) ∧ RB wr.drew w2.heap.size A' cap' x ∧ Below w.heap.size w wr.drew) := ⟨hrb.1.cell 0, hrb.1.cell 1, hrb.1.cell 2, hrb.drew, hf.drew⟩;clear he hrb hat hfar hf kt ke klen ktl hec hel hln hk0 hlt htl hD he0 hxl hlow
    generalize bs (num k) = s1 at *
    generalize bs (efin x) = s2 at *
    have hs3 : (9223372036854775807 < s1.size + s2.size) = False := by
     rw [eq_iff_iff, iff_false];omega
    clear hs1 hs2 hnum
    go_upto_region 12 with fail
    go_region_held3 (fun W => W.cell? ⟨w2.heap.size, 0, none⟩ = some (.slice A' x.out.length cap') ∧ W.cell? ⟨w2.heap.size, 1, none⟩ = some (.int .i64 (x.low : Int)) ∧ W.cell? ⟨w2.heap.size, 2, none⟩ = some (.int .i64 (x.size : Int)) ∧ RB W w2.heap.size A' cap' x ∧ Below w.heap.size w W) (first | exact H1 | exact heldE (by assumption) (by assumption))
     (first
      | (go_at_call 36; refine (Hnum.out _).mono ?_; rintro e w' ⟨rfl, hb2⟩)
      | (go_at_call 113; refine (Hfn.out _ (heldE_rb (by assumption))).mono ?_; rintro e w' ⟨rfl, hb3⟩))
    have hB := heldE_fin (W := w') (w := w) (by assumption)
    go_wp2
    go_returns
    exact ⟨by rw [Hcat.out]; rfl, hB⟩
end Go.Proofs.YtoeeblldgoccoaaGreat
