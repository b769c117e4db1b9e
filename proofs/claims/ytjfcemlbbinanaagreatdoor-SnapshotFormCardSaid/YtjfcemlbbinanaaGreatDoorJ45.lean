/-
  Joined texts: Xr, Xt.
-/
import Derived.Test.YtjfcemlbbinanaaGreatDoorJ44
set_option linter.unusedVariables false
set_option linter.unusedSimpArgs false
/-
  The laws of snapshots: one value; the first values.
-/
namespace Go.Proofs.YtjfcemlbbinanaaGreatDoor
open Go.RowKit Go.Proofs Wv Wv.Vi Wv.Bc Wv.Sn Wv.Dc Wv.Fm
set_option linter.unusedVariables false
set_option maxRecDepth 100000 in
set_option maxHeartbeats 4000000 in
theorem lones_any {A : Option Addr} {st : List (Int × Int)} {w : World} (ha : At w A (pv st)) (hst : ∀ c ∈ st, I64 c.1 ∧ I64 c.2) (n cap : Nat) (hn : n = st.length) (hn4 : n ≤ 9223372036854775807) (data : ByteArray) (hd : data.size ≤ 9223372036854775807) (i : Int) (hi : I64 i) (ht : Tab w) :
  Calls Tryz.prog 5 #[.slice A n cap, .string data, .int .i64 i] w fun x w' => x = .returned (.bool true) ∧ Below w.heap.size w w' := by
 have Haw := hide (snawake_any w ht)
 by_cases hg1 : (70 : Int) < (n : Int)
 ·clear ha hst hn hn4 hd ht
  go_enter Tryz.func5, Tryz.ntmps5
  go_wp2_with fail
  refine (Haw.out).mono ?_
  rintro x w1 ⟨rfl, hb1⟩
  go_wp2
  go_returns
  exact ⟨rfl, hb1⟩
 ·by_cases hg2 : (800 : Int) < (data.size : Int)
  ·clear ha hst hn hd ht
   go_enter Tryz.func5, Tryz.ntmps5
   go_wp2_with fail
   refine (Haw.out).mono ?_
   rintro x w1 ⟨rfl, hb1⟩
   go_wp2
   go_returns
   exact ⟨rfl, hb1⟩
  ·have HD := hide (fun W (hb : Below w.heap.size w W) => sdecode_any (ha.below hb) (toL data) (by rw [toL_length]; omega) (ht.below hb) n cap hn hn4)
   have HO := hide (fun W (hb : Below w.heap.size w W) => sone_any (ha.below hb) (toL data) (by rw [toL_length]; omega) (ht.below hb) i n cap hn hn4)
   have hlen := fun vs => Wv.Sn.snD_len (dv := validS) (st := st) (vs := vs) (data := toL data)
   have herr := snD_err (dv := validS) (st := st) (data := toL data)
   have hok := fun vs => snD_ok (dv := validS) (st := st) (vs := vs) (data := toL data)
   have hO : snO validS st (toL data) i = if tysB st = false then (bs [], 1) else if i < 0 ∨ (n : Int) ≤ i then (bs [], 2) else
    if (snD validS st (toL data)).2 ≠ 0 then (bs [], (snD validS st (toL data)).2) else ((snD validS st (toL data)).1.getD i.toNat default, 0) := by rw [hn]; rfl
   rw [bs_toL] at HD HO
   have hi2 := hi
   obtain ⟨i0, i1⟩ := hi2
   obtain ⟨⟨l, e⟩, hD⟩ : ∃ D, snD validS st (toL data) = D := ⟨_, rfl⟩
   rw [hD] at HD herr hlen hok hO
   generalize snO validS st (toL data) i = O at *
   have hbs0 : bs ([] : List UInt8) = ⟨#[]⟩ := rfl
   simp only at hO
   have pre : (∃ e2, e2 ≠ 0 ∧ O = (⟨#[]⟩, e2) ∧ ((e = 1 ∧ e2 = 1) ∨ (e ≠ 1 ∧ (i < 0 ∨ (n : Int) ≤ i) ∧ e2 = 2) ∨ (e ≠ 1 ∧ e ≠ 0 ∧ ¬ (i < 0 ∨ (n : Int) ≤ i) ∧ e2 = e))) ∨ (e = 0 ∧ l.length = n ∧ ∃ k : Nat, i = (k : Int) ∧ ∃ (hk : k < l.length) (V : ByteArray), l[k]'hk = V ∧ O = (V, 0)) := by
    have hty : (tysB st = false ↔ e = 1) := by
     by_cases he : e = 0
     ·have hv := (hok l (by rw [he])).2
      have h2 : tysB st = true ∧ vasL validS st l = true := by
       have : (tysB st && vasL validS st l) = true := hv
       rwa [Bool.and_eq_true] at this
      rw [h2.1, he]; simp
     ·rcases herr he with ⟨h1, h2⟩ | ⟨h1, h2⟩
      ·injection h2 with _ h3; rw [h1, h3]; simp
      ·injection h2 with _ h3; rw [h1, h3]; simp
    by_cases h1 : tysB st = false
    ·rw [if_pos h1] at hO
     exact .inl ⟨1, by decide, hO, .inl ⟨hty.1 h1, rfl⟩⟩
    ·rw [if_neg h1] at hO
     have hne : e ≠ 1 := fun h => h1 (hty.2 h)
     by_cases h2 : i < 0 ∨ (n : Int) ≤ i
     ·rw [if_pos h2] at hO
      exact .inl ⟨2, by decide, hO, .inr (.inl ⟨hne, h2, rfl⟩)⟩
     ·rw [if_neg h2] at hO
      by_cases he : e = 0
      ·rw [if_neg (by simp [he])] at hO
       have hl := hlen l (by rw [he])
       refine .inr ⟨he, by omega, i.toNat, by omega, by omega, _, rfl, ?_⟩
       rw [hO]
       simp [List.getD, show i.toNat < l.length by omega]
      ·rw [if_pos he] at hO
       exact .inl ⟨e, he, hO, .inr (.inr ⟨hne, he, h2, rfl⟩)⟩
   clear hO hlen herr hok hD hbs0
   rcases pre with ⟨e2, he2, rfl, hcase⟩ | ⟨rfl, hl, k, rfl, hk, V, hV, rfl⟩
   ·rcases hcase with ⟨rfl, rfl⟩ | ⟨h1, h2, rfl⟩ | ⟨h1, h0, h2, rfl⟩
    ·clear ha hst hn hd ht he2
     go_enter Tryz.func5, Tryz.ntmps5
     go_wp2_with fail
     refine (Haw.out).mono ?_
     rintro x w1 ⟨rfl, hb1⟩
     have Hb1 := hide hb1
     clear hb1 Haw
     go_wp2_with fail
     refine (HO.out _ Hb1.out).mono ?_
     rintro x w2 ⟨rfl, hb2⟩
     have Hb2 := hide (Hb1.out.trans (hb2.mono Hb1.out.size))
     clear hb2 HO
     go_wp2_with fail
     refine (HD.out _ Hb2.out).mono ?_
     rintro x w3 ⟨v, rfl, ⟨A2, cap2, rfl, hat⟩, hb3⟩
     have Hb3 := hide (Hb2.out.trans (hb3.mono Hb2.out.size))
     clear hb3 hat HD
     go_wp2
     go_returns
     exact ⟨rfl, Hb3.out⟩
    ·have e1 : ((e : Int) == 1) = false := by rw [beq_eq_false_iff_ne]; omega
     clear ha hst hn hd ht he2 h1
     rcases h2 with h2 | h2
     all_goals
      go_enter Tryz.func5, Tryz.ntmps5
      go_wp2_with fail
      refine (Haw.out).mono ?_
      rintro x w1 ⟨rfl, hb1⟩
      have Hb1 := hide hb1
      clear hb1 Haw
      go_wp2_with fail
      refine (HO.out _ Hb1.out).mono ?_
      rintro x w2 ⟨rfl, hb2⟩
      have Hb2 := hide (Hb1.out.trans (hb2.mono Hb1.out.size))
      clear hb2 HO
      go_wp2_with fail
      refine (HD.out _ Hb2.out).mono ?_
      rintro x w3 ⟨v, rfl, ⟨A2, cap2, rfl, hat⟩, hb3⟩
      have Hb3 := hide (Hb2.out.trans (hb3.mono Hb2.out.size))
      clear hb3 hat HD
      go_wp2
      go_returns
      exact ⟨rfl, Hb3.out⟩
    ·have e1 : ((e2 : Int) == 1) = false := by rw [beq_eq_false_iff_ne]; omega
     have e0 : ((e2 : Int) != 0) = true := by rw [bne_iff_ne]; omega
     have h20 : ¬ i < 0 := fun h => h2 (.inl h)
     have h21 : ¬ (n : Int) ≤ i := fun h => h2 (.inr h)
     clear ha hst hn hd ht he2 h1 h0 h2
     go_enter Tryz.func5, Tryz.ntmps5
     go_wp2_with fail
     refine (Haw.out).mono ?_
     rintro x w1 ⟨rfl, hb1⟩
     have Hb1 := hide hb1
     clear hb1 Haw
     go_wp2_with fail
     refine (HO.out _ Hb1.out).mono ?_
     rintro x w2 ⟨rfl, hb2⟩
     have Hb2 := hide (Hb1.out.trans (hb2.mono Hb1.out.size))
     clear hb2 HO
     go_wp2_with fail
     refine (HD.out _ Hb2.out).mono ?_
     rintro x w3 ⟨v, rfl, ⟨A2, cap2, rfl, hat⟩, hb3⟩
     have Hb3 := hide (Hb2.out.trans (hb3.mono Hb2.out.size))
     clear hb3 hat HD
     go_wp2
     go_returns
     exact ⟨rfl, Hb3.out⟩
   ·have hkn : (k : Int) < (n : Int) := by omega
    have hk0 : (0 : Int) ≤ (k : Int) := by omega
    have Hl := hide hl
    have Hk := hide hk
    have hkk : ¬ (n : Int) ≤ (k : Int) := by omega
    have hk1 : ¬ (k : Int) < 0 := by omega
    clear ha hst hn hd ht hl hi
    have HVk : Hid (l[k]'Hk.out = V) := hide hV
    clear hV hk
    go_enter Tryz.func5, Tryz.ntmps5
    go_wp2_with fail
    refine (Haw.out).mono ?_
    rintro x w1 ⟨rfl, hb1⟩
    have Hb1 := hide hb1
    clear hb1 Haw
    go_wp2_with fail
    refine (HO.out _ Hb1.out).mono ?_
    rintro x w2 ⟨rfl, hb2⟩
    have Hb2 := hide (Hb1.out.trans (hb2.mono Hb1.out.size))
    clear hb2 HO
    go_wp2_with fail
    refine (HD.out _ Hb2.out).mono ?_
    rintro x w3 ⟨v, rfl, ⟨A2, cap2, rfl, hat⟩, hb3⟩
    obtain ⟨bB, oB, rfl, _, d0⟩ := at_text hat k Hk.out
    rw [HVk.out] at d0
    rw [Hl.out]
    have Hb3 := hide (Hb2.out.trans (hb3.mono Hb2.out.size))
    clear hb3 hat HD
    go_wp2
    go_returns
    exact ⟨rfl, Hb3.out⟩
set_option maxRecDepth 100000 in
set_option maxHeartbeats 4000000 in
theorem linitial_any {A : Option Addr} {st : List (Int × Int)} {w : World} (ha : At w A (pv st)) (hst : ∀ c ∈ st, I64 c.1 ∧ I64 c.2) (n cap : Nat) (hn : n = st.length) (hn4 : n ≤ 9223372036854775807) (ht : Tab w) :
  Calls Tryz.prog 9 #[.slice A n cap] w fun x w' => x = .returned (.bool true) ∧ Below w.heap.size w w' := by
 have Haw := hide (snawake_any w ht)
 by_cases hg1 : (70 : Int) < (n : Int)
 ·clear ha hst hn hn4 ht
  go_enter Tryz.func9, Tryz.ntmps9
  go_wp2_with fail
  refine (Haw.out).mono ?_
  rintro x w1 ⟨rfl, hb1⟩
  go_wp2
  go_returns
  exact ⟨rfl, hb1⟩
 ·have HI := hide (fun W (hb : Below w.heap.size w W) => sinit_any (ha.below hb) n cap hn hn4)
  have HS := hide (fun W (hb : Below w.heap.size w W) => nstored_any (ha.below hb) n cap hn hn4)
  cases hty : tysB st with
  | false =>
   have hi : initS st = [] := by unfold initS; rw [if_pos hty]
   rw [hi] at HI
   rw [hty] at HS
   clear ha hst hn ht hty hi
   go_enter Tryz.func9, Tryz.ntmps9
   go_wp2_with fail
   refine (Haw.out).mono ?_
   rintro x w1 ⟨rfl, hb1⟩
   have Hb1 := hide hb1
   clear hb1 Haw
   go_wp2_with fail
   refine (HI.out _ Hb1.out).mono ?_
   rintro x w2 ⟨v, rfl, ⟨A2, cap2, rfl, hat⟩, hb2⟩
   have Hb2 := hide (Hb1.out.trans (hb2.mono Hb1.out.size))
   clear hb2 hat HI
   go_wp2_with fail
   refine (HS.out _ Hb2.out).mono ?_
   rintro x w3 ⟨rfl, hb3⟩
   have Hb3 := hide (Hb2.out.trans (hb3.mono Hb2.out.size))
   clear hb3 HS
   go_wp2
   go_returns
   exact ⟨rfl, Hb3.out⟩
  | true =>
   rw [hty] at HS
   obtain ⟨hv, he0⟩ := init_law (dv := validS) (by decide) hty
   obtain ⟨d, hE⟩ : ∃ d, snE validS st (initS st) = (d, 0) := ⟨_, Prod.ext rfl he0⟩
   have hD := snD_E hE
   have hdl := snE_dlen hE
   generalize initS st = l at *
   obtain ⟨hsz, hll, h64⟩ := vas_sizes hv
   have HE := hide (fun (W : World) (hb : Below w.heap.size w W) B cap2 (hB : At W B (tvs l)) => sencode_any (ha.below hb) hB (ht.below hb) hsz n cap l.length cap2 hn rfl hn4 (by omega))
   have HV := hide (fun (W : World) (hb : Below w.heap.size w W) B cap2 (hB : At W B (tvs l)) => svalid_any (ha.below hb) hB (ht.below hb) hsz n cap l.length cap2 hn rfl hn4 (by omega))
   have HD := hide (fun W (hb : Below w.heap.size w W) => sdecode_any (ha.below hb) d hdl (ht.below hb) n cap hn hn4)
   have HQ := hide (fun (W : World) (B C : Option Addr) (cap2 cap3 : Nat) (hB : At W B (tvs l)) (hC : At W C (tvs l)) => rsame_any hB hC l.length cap2 l.length cap3 rfl rfl (by omega) (by omega))
   rw [hE] at HE
   rw [hv] at HV
   rw [hD] at HD
   rw [decide_eq_true (show l = l from rfl)] at HQ
   simp only at HE
   generalize bs d = S at *
   have hl9 : l.length ≤ 64 := by omega
   clear ha hst hn ht hE hv hsz hll h64 hD hty hdl he0
   go_enter Tryz.func9, Tryz.ntmps9
   go_wp2_with fail
   refine (Haw.out).mono ?_
   rintro x w1 ⟨rfl, hb1⟩
   have Hb1 := hide hb1
   clear hb1 Haw
   go_wp2_with fail
   refine (HI.out _ Hb1.out).mono ?_
   rintro x w2 ⟨v, rfl, ⟨A2, cap2, rfl, hat⟩, hb2⟩
   have Hb2 := hide (Hb1.out.trans (hb2.mono Hb1.out.size))
   have Hat := hide (fun W (hb : Below w2.heap.size w2 W) => hat.below hb)
   clear hb2 hat HI
   go_wp2_with fail
   refine (HS.out _ Hb2.out).mono ?_
   rintro x w3 ⟨rfl, hb3⟩
   have Hb3 := hide (Hb2.out.trans (hb3.mono Hb2.out.size))
   have Hd3 := hide hb3
   have HE2 := hide (HE.out _ Hb3.out _ cap2 (Hat.out _ hb3))
   clear hb3 HS HE
   go_wp2_with fail
   refine (HE2.out).mono ?_
   rintro x w4 ⟨rfl, hb4⟩
   have Hb4 := hide (Hb3.out.trans (hb4.mono Hb3.out.size))
   have Hd4 := hide (Hd3.out.trans (hb4.mono Hd3.out.size))
   clear hb4 HE2
   go_wp2_with fail
   refine (HD.out _ Hb4.out).mono ?_
   rintro x w5 ⟨v, rfl, ⟨A5, cap5, rfl, hat5⟩, hb5⟩
   have Hb5 := hide (Hb4.out.trans (hb5.mono Hb4.out.size))
   have Hd5 := hide (Hd4.out.trans (hb5.mono Hd4.out.size))
   have Hat5 := hide (fun W (hb : Below w5.heap.size w5 W) => hat5.below hb)
   have HV2 := hide (HV.out _ Hb5.out _ cap2 (Hat.out _ Hd5.out))
   clear hb5 hat5 HD HV
   go_wp2_with fail
   refine (HV2.out).mono ?_
   rintro x w6 ⟨rfl, hb6⟩
   have Hb6 := hide (Hb5.out.trans (hb6.mono Hb5.out.size))
   have Hd6 := hide (Hd5.out.trans (hb6.mono Hd5.out.size))
   have HQ2 := hide (HQ.out _ _ _ cap5 cap2 (Hat5.out _ hb6) (Hat.out _ Hd6.out))
   clear hb6 HV2 HQ
   go_wp2_with fail
   refine (HQ2.out).mono ?_
   rintro x w7 ⟨rfl, hb7⟩
   have Hb7 := hide (Hb6.out.trans (hb7.mono Hb6.out.size))
   clear hb7
   go_wp2
   go_returns
   exact ⟨rfl, Hb7.out⟩
end Go.Proofs.YtjfcemlbbinanaaGreatDoor
/-
  The laws of snapshots: values after changes.
-/
namespace Go.Proofs.YtjfcemlbbinanaaGreatDoor
open Go.RowKit Go.Proofs Wv Wv.Vi Wv.Bc Wv.Sn Wv.Dc Wv.Fm
set_option linter.unusedVariables false
theorem shB_true {l : List ByteArray} {m s : Int} (h : shB l m s = true) : (∀ x ∈ l, (x.size : Int) ≤ s) ∧ (l.length : Int) ≤ m := by
 unfold shB at h
 rw [Bool.and_eq_true, List.all_eq_true, decide_eq_true_iff] at h
 exact ⟨fun x hx => of_decide_eq_true (h.1 x hx), h.2⟩
theorem fewB_len {l : List (Int × ByteArray)} {m : Int} (h : fewB l m = true) : (l.length : Int) ≤ m := by
 unfold fewB at h
 rw [Bool.and_eq_true, decide_eq_true_iff] at h
 exact h.2
set_option maxRecDepth 100000 in
set_option maxHeartbeats 4000000 in
theorem lafter_any {A : Option Addr} {vs : List ByteArray} {w : World} (ha : At w A (tvs vs)) (hs : ∀ s ∈ vs, s.size ≤ 9223372036854775807) (n cap : Nat) (hn : n = vs.length) (hn4 : n ≤ 9223372036854775807)
  {B : Option Addr} {L : List (List (Int × ByteArray))} (hc : ChA w B L) (hL : ∀ x ∈ L, x.length ≤ 9223372036854775807 ∧ ∀ c ∈ x, I64 c.1 ∧ c.2.size ≤ 9223372036854775807) (m cap2 : Nat) (hm : m = L.length) (hm4 : m ≤ 9223372036854775807) (ht : Tab w) :
  Calls Tryz.prog 6 #[.slice A n cap, .slice B m cap2] w fun x w' => x = .returned (.bool true) ∧ Below w.heap.size w w' := by
 have Haw := hide (snawake_any w ht)
 have HSh := hide (fun W (hb : Below w.heap.size w W) => rshort_any (ha.below hb) n cap hn hn4 20 150)
 cases hsh : shB vs 20 150 with
 | false =>
  rw [hsh] at HSh
  clear ha hs hn hn4 hc hL hm hm4 ht hsh
  go_enter Tryz.func6, Tryz.ntmps6
  go_wp2_with fail
  refine (Haw.out).mono ?_
  rintro x w1 ⟨rfl, hb1⟩
  have Hb1 := hide hb1
  clear hb1 Haw
  go_wp2_with fail
  refine (HSh.out _ Hb1.out).mono ?_
  rintro x w2 ⟨rfl, rfl⟩
  clear HSh
  go_wp2
  go_returns
  exact ⟨rfl, Hb1.out⟩
 | true =>
  rw [hsh] at HSh
  have hn20 := (shB_true hsh).2
  by_cases hm20 : (20 : Int) < (m : Int)
  ·clear ha hs hn hn4 hc hL hm ht hsh hn20
   go_enter Tryz.func6, Tryz.ntmps6
   go_wp2_with fail
   refine (Haw.out).mono ?_
   rintro x w1 ⟨rfl, hb1⟩
   have Hb1 := hide hb1
   clear hb1 Haw
   go_wp2_with fail
   refine (HSh.out _ Hb1.out).mono ?_
   rintro x w2 ⟨rfl, rfl⟩
   clear HSh
   go_wp2
   go_returns
   exact ⟨rfl, Hb1.out⟩
  ·have Hc := hide (fun W (hb : Below w.heap.size w W) => hc.below hb)
   have Hm := hide hm
   have HA1 := hide (fun (h : ∀ l ∈ L, l.length ≤ 4611686018427387903) W (hb : Below w.heap.size w W) => safter_any (ha.below hb) (hc.below hb) h n cap m cap2 hn hm (by omega) hm4)
   have HA2 := hide (fun (h : ∀ l ∈ L, l.length ≤ 4611686018427387903) W (hb : Below w.heap.size w W) => rafter_any (ha.below hb) (hc.below hb) h n cap m cap2 hn hm (by omega) hm4)
   have hal : (aftS vs L).length ≤ 9223372036854775807 := by rw [aftS_len]; omega
   have HQ := hide (fun (W : World) (B C : Option Addr) (cap2 cap3 : Nat) (hB : At W B (tvs (aftS vs L))) (hC : At W C (tvs (aftS vs L))) => rsame_any hB hC (aftS vs L).length cap2 (aftS vs L).length cap3 rfl rfl hal hal)
   rw [decide_eq_true (show aftS vs L = aftS vs L from rfl)] at HQ
   generalize aftS vs L = R at *
   have HL4 : Hid (∀ l ∈ L, l.length ≤ 9223372036854775807) := hide (fun l h => (hL l h).1)
   clear ha hs hn hn4 hc hL hm ht hsh hn20 hal
   go_enter Tryz.func6, Tryz.ntmps6
   go_wp2_with fail
   refine (Haw.out).mono ?_
   rintro x w1 ⟨rfl, hb1⟩
   have Hb1 := hide hb1
   clear hb1 Haw
   go_wp2_with fail
   refine (HSh.out _ Hb1.out).mono ?_
   rintro x w2 ⟨rfl, rfl⟩
   clear HSh
   go_wp2
   go_loopw [19] (fun s19 wr => ∃ k : Nat, k ≤ m ∧ s19 = .int .i64 (k : Int) ∧ Hid ((L.take k).all (fun l => fewB l 20) = true) ∧ wr = w1) (fun s19 _ => (m - intOf s19).toNat)
   case atStart => exact ⟨0, Nat.zero_le _, rfl, hide rfl, rfl⟩
   case round =>
    obtain ⟨k, hk, rfl, hall, rfl⟩ := hrel
    by_cases hlt : k < m
    ·have hkL : k < L.length := by rw [← Hm.out]; exact hlt
     obtain ⟨bA, oA, B2, capB, rfl, hlA, c0, hB, hcX⟩ := (Hc.out _ Hb1.out) k hkL
     clear hcX
     have htk : L.take (k + 1) = L.take k ++ [L[k]] := List.take_succ_eq_append_getElem hkL
     have HF := hide (rfew_any hB L[k].length capB rfl (HL4.out _ (List.getElem_mem hkL)) 20)
     have hk0 : (0 : Int) ≤ (k : Int) := by omega
     have hltI : (k : Int) < (m : Int) := by omega
     cases hf : fewB L[k] 20 with
     | false =>
      rw [hf] at HF
      generalize L[k].length = N at *
      clear htk hf hkL hB hall HA1 HA2 HQ
      go_wp2_with fail
      refine (HF.out).mono ?_
      rintro x w3 ⟨rfl, rfl⟩
      go_wp2
      go_returns
      exact ⟨rfl, Hb1.out⟩
     | true =>
      rw [hf] at HF
      have Hall : Hid ((L.take (k + 1)).all (fun l => fewB l 20) = true) := hide (by
       rw [htk, List.all_append, hall.out]
       simp [hf])
      generalize L[k].length = N at *
      clear htk hf hkL hB hall HA1 HA2 HQ
      go_wp2_with fail
      refine (HF.out).mono ?_
      rintro x w3 ⟨rfl, rfl⟩
      go_wp2
      refine ⟨⟨k + 1, hlt, by go_num, Hall, (by first | trivial | rfl)⟩, ?_⟩
      simp [intOf] <;> omega
    ·have hkn : k = m := by omega
     subst hkn
     have hall2 : ∀ l ∈ L, l.length ≤ 4611686018427387903 := by
      have h := hall.out
      rw [List.take_of_length_le (by rw [Hm.out]; exact Nat.le_refl _), List.all_eq_true] at h
      intro l hl
      have := fewB_len (h l hl)
      omega
     have HA1 := hide (HA1.out hall2)
     have HA2 := hide (HA2.out hall2)
     clear hall hall2 Hc HL4
     go_wp2_with fail
     refine (HA1.out _ Hb1.out).mono ?_
     rintro x w3 ⟨v3, rfl, ⟨A3, cap3, rfl, hat3⟩, hb3⟩
     have Hb3 := hide (Hb1.out.trans (hb3.mono Hb1.out.size))
     have Hat3 := hide (fun W (hb : Below w3.heap.size w3 W) => hat3.below hb)
     clear hb3 hat3
     go_wp2_with fail
     refine (HA2.out _ Hb3.out).mono ?_
     rintro x w4 ⟨v4, rfl, ⟨A4, cap4, rfl, hat4⟩, hb4⟩
     have Hb4 := hide (Hb3.out.trans (hb4.mono Hb3.out.size))
     have HQ2 := hide (HQ.out _ _ _ cap3 cap4 (Hat3.out _ hb4) hat4)
     clear hb4 hat4 HQ
     go_wp2_with fail
     refine (HQ2.out).mono ?_
     rintro x w5 ⟨rfl, hb5⟩
     have Hb5 := hide (Hb4.out.trans (hb5.mono Hb4.out.size))
     clear hb5
     go_wp2
     go_returns
     exact ⟨rfl, Hb5.out⟩
end Go.Proofs.YtjfcemlbbinanaaGreatDoor
