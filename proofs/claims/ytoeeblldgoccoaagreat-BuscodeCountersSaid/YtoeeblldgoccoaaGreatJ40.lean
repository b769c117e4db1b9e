/-
  Joined texts: Ag, So, Sp.
-/
import Derived.Test.YtoeeblldgoccoaaGreatJ38
import Derived.Test.YtoeeblldgoccoaaGreatJ39
set_option linter.unusedVariables false
set_option linter.unusedSimpArgs false
/-
  The walks over the reference of values: mixtures.
-/
namespace Go.Proofs.YtoeeblldgoccoaaGreat
open Go.RowKit Go.Proofs Wv Wv.Vi Wv.Bc
set_option linter.unusedVariables false
set_option maxRecDepth 100000
set_option maxHeartbeats 4000000 in
theorem amix_any (a b : List UInt8) (hal : a.length ≤ 1099511627776) (hbl : b.length ≤ 1099511627776) (w : World) :
  Calls Tryz.prog 48 #[.string (bs a), .string (bs b)] w fun x w' => x = .returned (.tuple #[.string (bs (mixV a b).1), .int .i64 ((mixV a b).2 : Int)]) ∧ Below w.heap.size w w' := by
 have Ha := hide (aisv_any a hal w)
 have Hb := hide (fun W => aisv_any b hbl W)
 have hsa : (bs a).size = a.length := bs_size a
 have hsb : (bs b).size = b.length := bs_size b
 have he : bs ([] : List UInt8) = ⟨#[]⟩ := rfl
 unfold mixV
 cases hka : isV a with
 | false =>
  rw [hka] at Ha
  rw [if_pos (.inl rfl)]
  simp only [he]
  clear hsa hsb he
  generalize bs a = SA at *
  generalize bs b = SB at *
  go_enter Tryz.func48, Tryz.ntmps48
  go_wp2_with fail
  refine (Ha.out).mono ?_
  rintro x w1 ⟨rfl, rfl⟩
  go_wp2
  go_returns
  exact ⟨rfl, Below.refl _ _⟩
 | true =>
  cases hkb : isV b with
  | false =>
   rw [hka] at Ha
   rw [hkb] at Hb
   rw [if_pos (.inr rfl)]
   simp only [he]
   clear hsa hsb he
   generalize bs a = SA at *
   generalize bs b = SB at *
   go_enter Tryz.func48, Tryz.ntmps48
   go_wp2_with fail
   refine (Ha.out).mono ?_
   rintro x w1 ⟨rfl, rfl⟩
   go_wp2_with fail
   refine (Hb.out _).mono ?_
   rintro x w2 ⟨rfl, rfl⟩
   go_wp2
   go_returns
   exact ⟨rfl, Below.refl _ _⟩
  | true =>
   rw [hka] at Ha
   rw [hkb] at Hb
   rw [if_neg (by simp)]
   by_cases hl : a.length = b.length
   ·rw [if_neg (by simp [hl])]
    simp only
    have hne : (((bs a).size : Int) != ((bs b).size : Int)) = false := by rw [hsa, hsb, hl]; exact bne_self_eq_false _
    obtain ⟨a1, a2, a3⟩ := isV_iff.1 hka
    obtain ⟨b1, b2, b3⟩ := isV_iff.1 hkb
    have Hga : Hid (∀ (i : Nat) (h : i < a.length) (h2 : i < (bs a).size), (bs a)[i]'h2 = a[i]'h) := hide (fun i h h2 => bs_get a i h h2)
    have Hgb : Hid (∀ (i : Nat) (h : i < b.length) (h2 : i < (bs b).size), (bs b)[i]'h2 = b[i]'h) := hide (fun i h h2 => bs_get b i h h2)
    obtain ⟨n, hn⟩ : ∃ n, a.length = n := ⟨_, rfl⟩
    have hnb : b.length = n := by omega
    have hst : ∀ i (h1 : i < a.length) (h2 : i < b.length), bs (List.zipWith mx (a.take (i + 1)) (b.take (i + 1))) = bs (List.zipWith mx (a.take i) (b.take i)) ++ ⟨#[mx (a[i]'h1) (b[i]'h2)]⟩ := fun i h1 h2 => by
     rw [List.take_succ_eq_append_getElem h1, List.take_succ_eq_append_getElem h2, List.zipWith_append (by rw [List.length_take, List.length_take]; omega), ← bs_append]
     rfl
    have Hst := hide hst
    have hln : ∀ i, (bs (List.zipWith mx (a.take i) (b.take i))).size ≤ 128 := fun i => by rw [bs_size, List.length_zipWith, List.length_take, List.length_take]; omega
    have Hln := hide hln
    have Hz : Hid (bs (List.zipWith mx (a.take 0) (b.take 0)) = ⟨#[]⟩) := hide rfl
    have Hall : Hid (bs (List.zipWith mx a b) = bs (List.zipWith mx (a.take n) (b.take n))) := hide (by rw [List.take_of_length_le (by omega), List.take_of_length_le (by omega)])
    have Ha1 := hide a1
    have Hb1 := hide b1
    have hn128 : n ≤ 128 := by omega
    have Hn := hide hn
    have Hnb := hide hnb
    rw [hn] at hsa
    rw [hnb] at hsb
    obtain ⟨OT, hOT⟩ : ∃ f : Nat → ByteArray, (fun i => bs (List.zipWith mx (a.take i) (b.take i))) = f := ⟨_, rfl⟩
    have hOi : ∀ i, bs (List.zipWith mx (a.take i) (b.take i)) = OT i := fun i => congrFun hOT i
    simp only [hOi] at Hst Hln Hz Hall
    generalize bs (List.zipWith mx a b) = SR at *
    have hcv := fun W (c : UInt8) => conv_one (P := Tryz.prog) 42 9 5 Tryz.underlying42 Tryz.underlying5 Tryz.underlying9 W (c.toNat : Int)
    simp only [u8_back] at hcv
    have Hcv := hide hcv
    obtain ⟨SA, hSA⟩ : ∃ s, bs a = s := ⟨_, rfl⟩
    obtain ⟨SB, hSB⟩ : ∃ s, bs b = s := ⟨_, rfl⟩
    rw [hSA] at hsa hne Hga Ha ⊢
    rw [hSB] at hsb hne Hgb Hb ⊢
    have Hsa := hide hsa
    have Hsb := hide hsb
    clear hst hln hOT hOi hcv a1 b1 hn hnb hSA hSB hsa hsb hal hbl a2 b2 a3 b3 he hka hkb hl
    go_enter Tryz.func48, Tryz.ntmps48
    go_wp2_with fail
    refine (Ha.out).mono ?_
    rintro x w1 ⟨rfl, rfl⟩
    go_wp2_with fail
    refine (Hb.out _).mono ?_
    rintro x w2 ⟨rfl, rfl⟩
    clear Ha Hb
    go_wp2
    go_loopw [6, 7] (fun s6 s7 wr => ∃ i : Nat, i ≤ n ∧ s7 = .int .i64 (i : Int) ∧ s6 = .string (OT i) ∧ Hid (Below w.heap.size w wr)) (fun _ s7 _ => (n - intOf s7).toNat)
    case atStart => exact ⟨0, Nat.zero_le _, rfl, by rw [Hz.out], hide (Below.refl _ _)⟩
    case round =>
     obtain ⟨i, hi, rfl, rfl, hb⟩ := hrel
     by_cases hlt : i < n
     ·have hia : i < a.length := by rw [Hn.out]; exact hlt
      have hib : i < b.length := by rw [Hnb.out]; exact hlt
      have hga := Hga.out i hia
      have hgb := Hgb.out i hib
      have hxa := Ha1.out (a[i]'hia) (List.getElem_mem _)
      have hxb := Hb1.out (b[i]'hib) (List.getElem_mem _)
      have hs := Hst.out i hia hib
      have hln := Hln.out i
      obtain ⟨x, hx⟩ : ∃ x, a[i]'hia = x := ⟨_, rfl⟩
      obtain ⟨y, hy⟩ : ∃ x, b[i]'hib = x := ⟨_, rfl⟩
      rw [hx] at hga hxa hs
      rw [hy] at hgb hxb hs
      have HC1 := hide (fun W => acode_any x W)
      have HC2 := hide (fun W => acode_any y W)
      obtain ⟨x1, x2, x3, x4⟩ := xor_lt _ hxa _ hxb
      have HC3 := hide (fun W => achar_any (cd x ^^^ cd y) x1 W)
      rw [cdI_ok hxa] at HC1
      rw [cdI_ok hxb] at HC2
      have hmx : mx x y = ch (cd x ^^^ cd y) := rfl
      rw [hmx] at hs
      have Hs := hide hs
      have hga' : ∀ h : i < SA.size, ((SA[i]'h).toNat : Int) = (x.toNat : Int) := fun h => by rw [hga h]
      have hgb' : ∀ h : i < SB.size, ((SB[i]'h).toNat : Int) = (y.toNat : Int) := fun h => by rw [hgb h]
      have hiA : i < SA.size := by rw [Hsa.out]; omega
      have hiB : i < SB.size := by rw [Hsb.out]; omega
      have hcw1 : (convert 42 9 (.slice (some ⟨wr.heap.size, 0, none⟩) 1 1)).run Tryz.prog (wr.alloc (.cells #[.int .u8 ((ch (cd x ^^^ cd y)).toNat : Int)] 5)).drew = .ok (.string ⟨#[ch (cd x ^^^ cd y)]⟩) (wr.alloc (.cells #[.int .u8 ((ch (cd x ^^^ cd y)).toNat : Int)] 5)).drew := Hcv.out wr.drew _
      have hz1 : (⟨#[ch (cd x ^^^ cd y)]⟩ : ByteArray).size = 1 := rfl
      obtain ⟨Z, hZ⟩ : ∃ z, (⟨#[ch (cd x ^^^ cd y)]⟩ : ByteArray) = z := ⟨_, rfl⟩
      rw [hZ] at Hs hcw1 hz1
      obtain ⟨C, hC⟩ : ∃ z, ((ch (cd x ^^^ cd y)).toNat : Int) = z := ⟨_, rfl⟩
      rw [hC] at HC3 hcw1
      clear hs hga hgb hmx x2 x3 hZ hC hx hy
      generalize (cd x ^^^ cd y) = M at *
      generalize cd x = P at *
      generalize cd y = Q at *
      have hgA := hga' hiA
      have hgB := hgb' hiB
      generalize (x.toNat : Int) = A at *
      generalize (y.toNat : Int) = B at *
      have hi0 : (0 : Int) ≤ (i : Int) := by omega
      clear hga' hgb' hia hib Hst Hln Hga Hgb Ha1 Hb1 Hcv
      have hsA : (i : Int) < (SA.size : Int) := by omega
      have hsB : (i : Int) < (SB.size : Int) := by omega
      have hmi : ((P : Int) + (Q : Int)) % 2 + 2 * (((P : Int) / 2 + (Q : Int) / 2) % 2) = (M : Int) := by rw [← x4]; omega
      go_wp2
      go_region_with (first
       | (go_at_call 85; with_reducible refine (HC1.out _).mono ?_; rintro r w9 ⟨rfl, rfl⟩)
       | (go_at_call 85; with_reducible refine (HC2.out _).mono ?_; rintro r w9 ⟨rfl, rfl⟩))
      all_goals
       clear HC1 HC2
       go_wp2_with fail
       refine (HC3.out _).mono ?_
       rintro r w9 ⟨rfl, rfl⟩
       go_wp2
       go_roundw
       case rel => exact ⟨i + 1, hlt, by go_num, by rw [Hs.out], hide (hb.out.alloc hb.out.size _).drew⟩
       case measure => simp [intOf] <;> omega
     ·have hin : i = n := by omega
      have hend : ¬ (i : Int) < (SA.size : Int) := by rw [Hsa.out]; omega
      have Hfin := hide (show SR = OT i by rw [hin]; exact Hall.out)
      clear hin Hst Hln Hga Hgb Ha1 Hb1 Hcv
      go_wp2
      go_returns
      exact ⟨by rw [Hfin.out]; rfl, hb.out⟩
   ·rw [if_pos hl]
    have hne : (((bs a).size : Int) != ((bs b).size : Int)) = true := by rw [hsa, hsb, bne_iff_ne]; omega
    simp only [he]
    clear hsa hsb he hka hkb hl
    generalize bs a = SA at *
    generalize bs b = SB at *
    go_enter Tryz.func48, Tryz.ntmps48
    go_wp2_with fail
    refine (Ha.out).mono ?_
    rintro x w1 ⟨rfl, rfl⟩
    go_wp2_with fail
    refine (Hb.out _).mono ?_
    rintro x w2 ⟨rfl, rfl⟩
    go_wp2
    go_returns
    exact ⟨rfl, Below.refl _ _⟩
end Go.Proofs.YtoeeblldgoccoaaGreat
/-
  The walks over the references: runs of texts, the bytes of a list in a coding.
-/
namespace Go.Proofs.YtoeeblldgoccoaaGreat
open Go.RowKit Go.Proofs Wv Wv.Vi Wv.Rc Wv.Mo Wv.Ru
set_option linter.unusedVariables false

set_option maxHeartbeats 1000000 in
theorem rencas_arg {w : World} (c : Int) (hc : c ≠ 0) (hc1 : c ≠ 1) (A : Option Addr) (n cap : Nat) :
  Calls Tryz.prog 76 #[.int .i64 c, .slice A n cap] w fun x w' => ERes w ([], 1) x w' := by
 have h0 : c < 0 ∨ (¬ c < 0 ∧ 1 < c) := by omega
 have hb := hide (Below.refl w.heap.size w)
 clear hc hc1
 rcases h0 with h0 | ⟨h0, h1⟩
 all_goals
  go_enter Tryz.func76, Tryz.ntmps76
  go_wp2
  go_returns
  exact eres_err 1 hb.out
set_option maxHeartbeats 1000000 in
theorem rencas_large {w : World} {A : Option Addr} {l : List ByteArray} (c : Nat) (hc : c ≤ 1) (ha : At w A (svs l)) (hsz : ∀ s ∈ l, s.size ≤ 9223372036854775807) (n cap : Nat) (hn : n = l.length) (hm : n ≤ 9223372036854775807) (hbig : 4096 < l.length ∨ ∃ s ∈ l, 128 < s.size) :
  Calls Tryz.prog 76 #[.int .i64 (c : Int), .slice A n cap] w fun x w' => ERes w ([], 9) x w' := by
 have hb := hide (Below.refl w.heap.size w)
 have hs : shortB l 4096 128 = false := decide_eq_false (by
  rintro ⟨h1, h2⟩
  rcases hbig with h | ⟨s, h3, h4⟩
  ·omega
  ·have := h1 s h3; omega)
 have HS := hide (short_any ha hsz n cap hn hm 4096 128)
 rw [hs] at HS
 have h0 : ¬ (c : Int) < 0 := by omega
 have h1 : ¬ (1 : Int) < (c : Int) := by omega
 clear hs hbig ha hsz hn hm hc
 go_enter Tryz.func76, Tryz.ntmps76
 go_wp2_with fail
 refine (HS.out).mono ?_
 rintro x w1 ⟨rfl, rfl⟩
 go_wp2
 go_returns
 exact eres_err 9 hb.out
set_option maxRecDepth 100000 in
set_option maxHeartbeats 4000000 in
theorem rencas_front {w : World} {A : Option Addr} {l : List ByteArray} (c : Nat) (hc : c ≤ 1) (ha : At w A (svs l)) (h128 : ∀ s ∈ l, s.size ≤ 128) (n cap : Nat) (hn : n = l.length) (hm : n ≤ 4096) :
  Calls Tryz.prog 76 #[.int .i64 (c : Int), .slice A n cap] w fun x w' => ERes w (encB c l, 0) x w' := by
 have hs : shortB l 4096 128 = true := decide_eq_true ⟨fun s hs => by have := h128 s hs; omega, by omega⟩
 have HS := hide (short_any ha (fun s hs => by have := h128 s hs; omega) n cap hn (by omega) 4096 128)
 rw [hs] at HS
 have Hd := hide (rdict_any ha n cap hn hm)
 have Ha := hide ha
 have Hn := hide hn
 have hRl := runs_length (dict l) l
 obtain ⟨R, hR⟩ : ∃ R, runs (dict l) l = R := ⟨_, rfl⟩
 have Hr := hide (fun W (h : At W A (svs l)) => rruns_any h n cap hn hm)
 have hRb := runs_bound (dict l) l
 rw [hR] at Hr hRl hRb
 have HR := hide hR
 have HRb := hide hRb
 obtain ⟨D, hD⟩ : ∃ D, dict l = D := ⟨_, rfl⟩
 have hDl := dict_length l
 have hD128 := size_dict h128
 rw [hD] at hDl hD128
 have hD4 : D.length ≤ 4096 := by omega
 have hR4 : R.length ≤ 4096 := by omega
 have H1 := fun w => rnumber_any (c : Int) (by omega) (by omega) w
 have H2 := fun w => rnumber_any (D.length : Int) (by omega) (by omega) w
 simp only [Int.toNat_natCast] at H1 H2
 have k1 := kof9 c
 have k2 := kof9 D.length
 rw [← bs_size] at k1 k2
 have hfr0 : bs (num c) ++ bs (num D.length) = bs (frontB c D 0) := by rw [bs_append]; unfold frontB; simp
 rw [hD] at Hd
 have HD := hide hD
 have HD128 := hide hD128
 have Hfr0 := hide hfr0
 generalize bs (num c) = s1 at *
 generalize bs (num D.length) = s2 at *
 have H1 := hide H1
 have H2 := hide H2
 have hc0 : ¬ (c : Int) < 0 := by omega
 have hc1 : ¬ (1 : Int) < (c : Int) := by omega
 clear ha hn hD hD128 hfr0 h128 hDl hs hR hRb hRl
 go_enter Tryz.func76, Tryz.ntmps76
 go_wp2_with fail
 refine (HS.out).mono ?_
 rintro x w1 ⟨rfl, rfl⟩
 go_wp2_with fail
 refine (Hd.out).mono ?_
 rintro x w1 ⟨v6, rfl, ⟨AD, capD, rfl, hatD⟩, hb1⟩
 have Hr1 := hide (Hr.out w1 (Ha.out.below hb1))
 go_wp2_with fail
 refine (Hr1.out).mono ?_
 rintro x w2 ⟨AR, capR, rfl, hatR, hb2⟩
 have hb12 := hb1.trans (hb2.mono hb1.size)
 have hatD2 := hatD.below hb2
 simp only [cast2_len]
 clear hb1 hb2 hatD Hr1 Hr HS Hd
 go_wp2_with fail
 refine (H1.out _).mono ?_
 rintro x w3 ⟨rfl, hb3⟩
 go_wp2_with fail
 refine (H2.out _).mono ?_
 rintro x w4 ⟨rfl, hb4⟩
 have hb34 := hb3.trans (hb4.mono hb3.size)
 have hatD4 := hatD2.below hb34
 have hatR4 := hatR.below hb34
 have hbw4 := hb12.trans (hb34.mono hb12.size)
 clear hb3 hb4 hb34 hb12 hatD2 hatR
 go_wp2
 rw [Hfr0.out]
 go_loopw [8, 9] (fun out i wr => ∃ k : Nat, k ≤ D.length ∧ i = .int .i64 k ∧ out = .string (bs (frontB c D k)) ∧ At wr AD (svs D) ∧ At wr AR (pv (cast2 R)) ∧ Below w.heap.size w wr) (fun _ i _ => (D.length - intOf i).toNat)
 case atStart => exact ⟨0, by omega, rfl, rfl, hatD4, hatR4, hbw4⟩
 case round =>
  clear hatD4 hatR4 hbw4 H1 H2 Hfr0
  obtain ⟨k, hk, rfl, rfl, hat, hatR, hf⟩ := hrel
  have hfl := frontB_len c D k HD128.out hD4
  rw [← bs_size] at hfl
  by_cases hlt : k < D.length
  ·obtain ⟨s, hs⟩ : ∃ s, D[k] = s := ⟨_, rfl⟩
   have hs128 := HD128.out s (hs ▸ List.getElem_mem _)
   obtain ⟨bA, oA, hA, hbA, hcA⟩ := hat.get k (.string s) (by rw [svs_get D k hlt, hs])
   subst hA
   have Ht := fun w => rtext_any s (by omega) w
   have htl := text_len s hs128
   rw [← bs_size] at htl
   have hnx : bs (frontB c D k) ++ bs (text s) = bs (frontB c D (k + 1)) := by rw [bs_append, frontB_succ c D k hlt, hs]
   have Hat := hide hat
   have HatR := hide hatR
   generalize bs (frontB c D k) = S1 at *
   generalize bs (text s) = S2 at *
   have Hnx := hide hnx
   have Ht := hide Ht
   clear hnx hs hat hs128 hatR
   go_wp2_with fail
   refine (Ht.out _).mono ?_
   rintro x w4 ⟨rfl, hb4⟩
   have hat4 := Hat.out.below hb4
   have hatR4 := HatR.out.below hb4
   have hf4 := hf.trans (hb4.mono hf.size)
   clear hb4
   go_wp2
   go_roundw
   case rel => exact ⟨k + 1, by omega, by go_num, by rw [Hnx.out], hat4, hatR4, hf4⟩
   case measure => simp [intOf] <;> omega
  ·have hkD : k = D.length := by omega
   subst hkD
   have Hf := hide hf
   have hbl := (Below.refl wr.heap.size wr).alloc (Nat.le_refl _) (.cells #[] 3)
   have hbl2 := hbl.alloc (by simp) (.cells #[] 3)
   have ho1 := (own_made0 3 wr).alloc (.cells #[] 3)
   have ho2 := own_made0 3 (wr.alloc (.cells #[] 3))
   have ho2' := own_base ho2 (base' := wr.heap.size) (by simp)
   simp only [World.size_alloc] at ho2'
   have HatR := hide hatR
   have htw0 : TwoSt wr wr.heap.size 3 (.slice (some ⟨wr.heap.size, 0, none⟩) 0 0) [] (.slice (some ⟨wr.heap.size + 1, 0, none⟩) 0 0) [] ((wr.alloc (.cells #[] 3)).alloc (.cells #[] 3)) := ⟨ho1, ho2', by simp [Value.ownBlock], hbl2, by simp; omega⟩
   have Htw0 := hide htw0
   clear hat hatR hf hlt hbl hbl2 ho1 ho2 ho2' htw0
   go_wp2
   generalize hw4 : wr = w4 at *
   clear hw4
   go_loopw [10, 11, 12] (fun v10 v11 i wr => ∃ k : Nat, k ≤ R.length ∧ i = .int .i64 k ∧ TwoSt w4 w4.heap.size 3 v10 (ivs (inx (R.take k))) v11 (ivs (cnx (R.take k))) wr) (fun _ _ i _ => (R.length - intOf i).toNat)
   case atStart => exact ⟨0, by omega, rfl, Htw0.out⟩
   case round =>
    obtain ⟨q, hq, rfl, htw⟩ := hrel
    by_cases hlt2 : q < R.length
    ·have hI := inx_take R q hlt2
     have hC := cnx_take R q hlt2
     obtain ⟨⟨ri, rc⟩, hrq⟩ : ∃ x, R[q] = x := ⟨_, rfl⟩
     have hbd := HRb.out R[q] (List.getElem_mem _)
     have hpk := pv_get (cast2 R) q (by rw [cast2_len]; exact hlt2)
     rw [cast2_get R q hlt2] at hpk
     rw [hrq] at hI hC hbd hpk
     simp only at hI hC hbd hpk
     have hlI : (ivs (inx (R.take q))).length ≤ 4096 := by rw [ivs_len]; unfold inx; rw [List.length_map, List.length_take]; omega
     have hlC : (ivs (cnx (R.take q))).length ≤ 4096 := by rw [ivs_len]; unfold cnx; rw [List.length_map, List.length_take]; omega
     obtain ⟨bB, oB, hB, hbB, _⟩ := HatR.out.get (q * 2) _ hpk.1
     have cells : ∀ W : World, Below w4.heap.size w4 W → W.cell? ⟨bB, oB + q * 2, none⟩ = some (.int .i64 (ri : Int)) ∧ W.cell? ⟨bB, oB + q * 2 + 1, none⟩ = some (.int .i64 (rc : Int)) := by
      intro W hW
      obtain ⟨b1, o1, h1, _, h2⟩ := (HatR.out.below hW).get (q * 2) _ hpk.1
      obtain ⟨b2, o2, h3, _, h4⟩ := (HatR.out.below hW).get (q * 2 + 1) _ hpk.2
      rw [hB] at h1 h3
      injection h1 with h1
      injection h1 with h1 h1'
      injection h3 with h3
      injection h3 with h3 h3'
      subst h1; subst h1'; subst h3; subst h3'
      exact ⟨h2, h4⟩
     subst hB
     obtain ⟨x0, x1⟩ := cells wr htw.bel
     have hrc : rc ≤ 4096 := by have := Hn.out; omega
     have i2 : IntKind.i64.wrap ((rc : Int) - 1) = (rc : Int) - 1 := by rw [IntWalk.i64_in _ (by omega)]
     obtain ⟨X, hX⟩ : ∃ X, ivs (inx (R.take q)) = X := ⟨_, rfl⟩
     obtain ⟨Y, hY⟩ : ∃ Y, ivs (cnx (R.take q)) = Y := ⟨_, rfl⟩
     rw [hX] at htw hlI
     rw [hY] at htw hlC
     have HI : Hid (ivs (inx (R.take (q + 1))) = X ++ [.int .i64 (ri : Int)]) := hide (by rw [hI, ivs_snoc, hX])
     have HC : Hid (ivs (cnx (R.take (q + 1))) = Y ++ [.int .i64 ((rc : Int) - 1)]) := hide (by rw [hC, ivs_snoc, hY])
     obtain ⟨t1, t2, t3⟩ := two_bothB (P := Tryz.prog) 85 3 _ 8 Tryz.underlying85 intinf rfl htw (.int .i64 (ri : Int)) (.int .i64 ((rc : Int) - 1)) (by rfl) (by rfl) (by unfold maxLen; omega) (by omega) (by unfold maxLen; omega) (by omega)
     obtain ⟨t4, t5, t6⟩ := two_bothB (P := Tryz.prog) 85 3 _ 8 Tryz.underlying85 intinf rfl htw.swap (.int .i64 ((rc : Int) - 1)) (.int .i64 (ri : Int)) (by rfl) (by rfl) (by unfold maxLen; omega) (by omega) (by unfold maxLen; omega) (by omega)
     have hbBr : bB < wr.heap.size := Nat.lt_of_lt_of_le hbB htw.base
     have hq0 : (0 : Int) ≤ (q : Int) := by omega
     have hq1 : (q : Int) < (R.length : Int) := by omega
     clear hI hC hpk hrq hX hY hbd
     obtain ⟨a1a, w1a, a1b, w1b, e1a, e1b, ts1, ba1, bb1⟩ := t1
     have E1a := hide e1a
     have E1b := hide e1b
     have TS1 := hide ts1
     obtain ⟨ca10, ca11⟩ := cells _ ba1
     obtain ⟨cb10, cb11⟩ := cells _ bb1
     clear e1a e1b ts1 ba1 bb1
     obtain ⟨a2a, w2a, a2b, w2b, e2a, e2b, ts2, ba2, bb2⟩ := t2
     have E2a := hide e2a
     have E2b := hide e2b
     have TS2 := hide ts2
     obtain ⟨ca20, ca21⟩ := cells _ ba2
     obtain ⟨cb20, cb21⟩ := cells _ bb2
     clear e2a e2b ts2 ba2 bb2
     obtain ⟨a3a, w3a, a3b, w3b, e3a, e3b, ts3, ba3, bb3⟩ := t3
     have E3a := hide e3a
     have E3b := hide e3b
     have TS3 := hide ts3
     obtain ⟨ca30, ca31⟩ := cells _ ba3
     obtain ⟨cb30, cb31⟩ := cells _ bb3
     clear e3a e3b ts3 ba3 bb3
     obtain ⟨a4a, w4a, a4b, w4b, e4a, e4b, ts4, ba4, bb4⟩ := t4
     have E4a := hide e4a
     have E4b := hide e4b
     have TS4 := hide ts4
     obtain ⟨ca40, ca41⟩ := cells _ ba4
     obtain ⟨cb40, cb41⟩ := cells _ bb4
     clear e4a e4b ts4 ba4 bb4
     obtain ⟨a5a, w5a, a5b, w5b, e5a, e5b, ts5, ba5, bb5⟩ := t5
     have E5a := hide e5a
     have E5b := hide e5b
     have TS5 := hide ts5
     obtain ⟨ca50, ca51⟩ := cells _ ba5
     obtain ⟨cb50, cb51⟩ := cells _ bb5
     clear e5a e5b ts5 ba5 bb5
     obtain ⟨a6a, w6a, a6b, w6b, e6a, e6b, ts6, ba6, bb6⟩ := t6
     have E6a := hide e6a
     have E6b := hide e6b
     have TS6 := hide ts6
     obtain ⟨ca60, ca61⟩ := cells _ ba6
     obtain ⟨cb60, cb61⟩ := cells _ bb6
     clear e6a e6b ts6 ba6 bb6
     clear cells htw
     have n0 := World.new_ne _ _ x0
     have n1 := World.new_ne _ _ x1
     go_upto_region 15 with fail
     go_region_held3 (fun W => W.cell? ⟨bB, oB + q * 2, none⟩ = some (.int .i64 (ri : Int)) ∧ W.cell? ⟨bB, oB + q * 2 + 1, none⟩ = some (.int .i64 (rc : Int))) (first | go_keep)
      ((first | refine step_runW (by with_reducible rfl) (by rfl) _ _ _ (by rfl) _ _ (by rfl) (by rfl) E1a.out ?_ | refine step_runW (by with_reducible rfl) (by rfl) _ _ _ (by rfl) _ _ (by rfl) (by rfl) E1b.out ?_ | refine step_runW (by with_reducible rfl) (by rfl) _ _ _ (by rfl) _ _ (by rfl) (by rfl) E2a.out ?_ | refine step_runW (by with_reducible rfl) (by rfl) _ _ _ (by rfl) _ _ (by rfl) (by rfl) E2b.out ?_ | refine step_runW (by with_reducible rfl) (by rfl) _ _ _ (by rfl) _ _ (by rfl) (by rfl) E3a.out ?_ | refine step_runW (by with_reducible rfl) (by rfl) _ _ _ (by rfl) _ _ (by rfl) (by rfl) E3b.out ?_ | refine step_runW (by with_reducible rfl) (by rfl) _ _ _ (by rfl) _ _ (by rfl) (by rfl) E4a.out ?_ | refine step_runW (by with_reducible rfl) (by rfl) _ _ _ (by rfl) _ _ (by rfl) (by rfl) E4b.out ?_ | refine step_runW (by with_reducible rfl) (by rfl) _ _ _ (by rfl) _ _ (by rfl) (by rfl) E5a.out ?_ | refine step_runW (by with_reducible rfl) (by rfl) _ _ _ (by rfl) _ _ (by rfl) (by rfl) E5b.out ?_ | refine step_runW (by with_reducible rfl) (by rfl) _ _ _ (by rfl) _ _ (by rfl) (by rfl) E6a.out ?_ | refine step_runW (by with_reducible rfl) (by rfl) _ _ _ (by rfl) _ _ (by rfl) (by rfl) E6b.out ?_))
     all_goals
      go_wp2
      go_roundw
      case rel =>
       refine ⟨q + 1, by omega, by go_num, ?_⟩
       rw [HI.out, HC.out]
       first | exact TS1.out | exact TS2.out | exact TS3.out | exact TS4.out.swap | exact TS5.out.swap | exact TS6.out.swap
      case measure => simp [intOf] <;> omega
    ·have hqR : q = R.length := by omega
     subst hqR
     rw [List.take_length] at htw
     have hI : inx R = (idxs l).map Int.ofNat := by
      unfold inx idxs
      rw [HR.out, List.map_map]
      rfl
     have hC : cnx R = (cnts l).map Int.ofNat := by
      unfold cnx cnts
      rw [HR.out, List.map_map]
      refine List.map_congr_left fun x hx => ?_
      have := (HRb.out x hx).2.1
      show (x.2 : Int) - 1 = ((x.2 - 1 : Nat) : Int)
      omega
     have hl1 : (ivs (inx R)).length = R.length := by rw [ivs_len]; simp [inx]
     have hl2 : (ivs (cnx R)).length = R.length := by rw [ivs_len]; simp [cnx]
     obtain ⟨A1, c1, rfl, hat1⟩ := own_at htw.own1
     obtain ⟨A2, c2, rfl, hat2⟩ := own_at htw.own2
     have hll : l.length ≤ 4096 := by rw [← Hn.out]; exact hm
     have hnI : (idxs l).length = R.length := by rw [idxs_length, HR.out]
     have hnC : (cnts l).length = R.length := by rw [cnts_length, HR.out]
     have hnA : (codeA c l).length = R.length := by rw [codeA_length, HR.out]
     rw [hI] at hat1
     rw [hC] at hat2
     have hbel := Hf.out.trans (htw.bel.mono Hf.out.size)
     have Hat1 := hide hat1
     have Hat2 := hide hat2
     have Hbel := hide hbel
     have hfront : front ((idxs l).map Int.ofNat) = (frontA r0 (idxs l), 0) := by
      unfold front
      rw [if_pos (chkn_ok (by rw [List.length_map, hnI]; exact hR4) (fun n hn => by
       obtain ⟨m, hm, rfl⟩ := List.mem_map.1 hn
       have := idxs_lt l hll m hm
       exact ⟨by simp, by simp; omega⟩)), map_toNat_ofNat]
     have HF := hide (rfront_any hat1 R.length c1 (by rw [List.length_map, hnI]) (by omega))
     rw [hfront] at HF
     have HlA := hide (codeA_lt c l hll)
     have HlC := hide (cnts_lt l hll)
     have hel1 := encn_len (codeA c l) (fun v hv => by have := codeA_lt c l hll v hv; omega)
     have hel2 := encn_len (cnts l) (fun v hv => by have := cnts_lt l hll v hv; omega)
     rw [hnA] at hel1
     rw [hnC] at hel2
     have hfl := frontB_len c D D.length HD128.out hD4
     have heA : encA c l = encn (codeA c l) := rfl
     have htx : (text (bs (encn (codeA c l)))).length ≤ 600000 := by
      unfold text
      rw [List.length_append, toL_bs]
      have := kof9 (bs (encn (codeA c l))).size
      omega
     have Hcat : Hid (bs (frontB c D D.length) ++ bs (text (bs (encn (codeA c l)))) ++ bs (encn (cnts l)) = bs (encB c l)) := hide (by
      rw [bs_append, bs_append]
      unfold frontB encB text
      rw [List.take_length, HD.out, heA, toL_bs, bs_size])
     have HnA := hide hnA
     have HnC := hide hnC
     have hes : (bs (encn (codeA c l))).size ≤ 1099511627776 := by rw [bs_size]; omega
     have Ht := fun w => rtext_any (bs (encn (codeA c l))) hes w
     have hc01 : c = 0 ∨ c = 1 := by omega
     have H0 : Hid (c = 0 → codeA c l = idxs l) := hide (fun h => by subst h; rfl)
     have H1 : Hid (c = 1 → codeA c l = frontA r0 (idxs l)) := hide (fun h => by subst h; rfl)
     rw [← bs_size] at hfl hel2 htx
     generalize bs (frontB c D D.length) = S1 at *
     generalize bs (text (bs (encn (codeA c l)))) = S2 at *
     have Ht := hide Ht
     clear hlt2 hq htw hat1 hat2 hbel hI hC hnI hnC hnA hfront heA hel1 hes
     rw [hl1, hl2]
     go_upto_if 75 with fail
     go_cut [10] (fun s10 wx => ∃ A cap, s10 = .slice A R.length cap ∧ At wx A (ivs ((codeA c l).map Int.ofNat)) ∧ Below wr.heap.size wr wx)
     case first =>
      rcases hc01 with hc0 | hc0
      ·have g0 : ¬ ((c : Int) = 1) := by omega
       have H0' := hide (H0.out hc0)
       clear H0 H1 hc0
       go_wp2
       go_meet
       case rel => exact ⟨A1, c1, rfl, by rw [H0'.out]; exact Hat1.out, Below.refl _ _⟩
      ·have g0 : ((c : Int) == 1) = true := by rw [beq_iff_eq]; omega
       have H1' := hide (H1.out hc0)
       have Hfl : Hid ((frontA r0 (idxs l)).length = R.length) := hide (by rw [← H1'.out, HnA.out])
       clear H0 H1 hc0 hc
       go_wp2_with fail
       refine (HF.out).mono ?_
       rintro x w5 ⟨v5, rfl, ⟨A5, cap5, rfl, hat5⟩, hb5⟩
       go_wp2
       go_meet
       case rel => exact ⟨A5, cap5, by rw [Hfl.out], by rw [H1'.out]; exact hat5, hb5⟩
     case rest =>
      obtain ⟨A5, cap5, rfl, hat5, hb5⟩ := hcut
      clear HF H0 H1 hc01
      have HE1 := hide (fencn_any hat5 R.length cap5 HnA.out.symm (by rw [HnA.out]; exact hR4) (fun v hv => by have := HlA.out v hv; omega))
      have hbx := Hbel.out.trans (hb5.mono Hbel.out.size)
      have hat2x := Hat2.out.below hb5
      clear hat5 hb5
      go_wp2_with fail
      refine (HE1.out).mono ?_
      rintro x w6 ⟨rfl, hb6⟩
      have HE2 := hide (fencn_any (hat2x.below hb6) R.length c2 HnC.out.symm (by rw [HnC.out]; exact hR4) (fun v hv => by have := HlC.out v hv; omega))
      have hbx6 := hbx.trans (hb6.mono hbx.size)
      clear hat2x hb6 hbx
      go_wp2_with fail
      refine (HE2.out).mono ?_
      rintro x w7 ⟨rfl, hb7⟩
      have hbx7 := hbx6.trans (hb7.mono hbx6.size)
      generalize bs (encn (codeA c l)) = S3 at *
      generalize bs (encn (cnts l)) = S4 at *
      clear hb7 hbx6
      go_wp2_with fail
      refine (Ht.out _).mono ?_
      rintro x w8 ⟨rfl, hb8⟩
      have hbx8 := hbx7.trans (hb8.mono hbx7.size)
      clear hb8 hbx7
      go_wp2
      go_returns
      exact ⟨by rw [Hcat.out]; rfl, hbx8⟩
end Go.Proofs.YtoeeblldgoccoaaGreat
/-
  The walks over the references: runs of texts, the bytes of a list, in any coding and in the shorter one.
-/
namespace Go.Proofs.YtoeeblldgoccoaaGreat
open Go.RowKit Go.Proofs Wv Wv.Vi Wv.Rc Wv.Mo Wv.Ru
set_option linter.unusedVariables false

theorem rencas_any {w : World} {A : Option Addr} {l : List ByteArray} (c : Int) (ha : At w A (svs l)) (hsz : ∀ s ∈ l, s.size ≤ 9223372036854775807) (n cap : Nat) (hn : n = l.length) (hm : n ≤ 9223372036854775807) :
  Calls Tryz.prog 76 #[.int .i64 c, .slice A n cap] w fun x w' => ERes w (encAs c l) x w' := by
 unfold encAs
 by_cases hc : c ≠ 0 ∧ c ≠ 1
 ·rw [if_pos hc]
  exact rencas_arg c hc.1 hc.2 A n cap
 ·rw [if_neg hc]
  have hc01 : c = 0 ∨ c = 1 := by omega
  obtain ⟨c, rfl⟩ := Int.eq_ofNat_of_zero_le (show 0 ≤ c by omega)
  by_cases hb : 4096 < l.length ∨ ∃ s ∈ l, 128 < s.size
  ·rw [if_pos hb]
   exact rencas_large c (by omega) ha hsz n cap hn hm hb
  ·rw [if_neg hb, Int.toNat_natCast]
   exact rencas_front c (by omega) ha (fun s hs => by
    rcases Nat.lt_or_ge 128 s.size with h | h
    ·exact absurd (.inr ⟨s, hs, h⟩) hb
    ·exact h) n cap hn (by omega)
theorem rencode_any {w : World} {A : Option Addr} {l : List ByteArray} (ha : At w A (svs l)) (hsz : ∀ s ∈ l, s.size ≤ 9223372036854775807) (n cap : Nat) (hn : n = l.length) (hm : n ≤ 9223372036854775807) :
  Calls Tryz.prog 39 #[.slice A n cap] w fun x w' => ERes w (enc l) x w' := by
 have H0 := hide (rencas_any 0 ha hsz n cap hn hm)
 have H1 := hide (fun w' (h : Below w.heap.size w w') => rencas_any 1 (ha.below h) hsz n cap hn hm)
 clear ha hn
 unfold enc
 unfold encAs at H0 H1
 rw [if_neg (by decide)] at H0
 simp only [show ¬ ((1 : Int) ≠ 0 ∧ (1 : Int) ≠ 1) from by decide, if_false] at H1
 by_cases hb : 4096 < l.length ∨ ∃ s ∈ l, 128 < s.size
 ·simp only [hb, if_true] at H0 ⊢
  clear H1 hb hsz
  go_enter Tryz.func39, Tryz.ntmps39
  go_wp2_with fail
  refine (H0.out).mono ?_
  rintro x w1 ⟨rfl, hb1⟩
  go_wp2
  go_returns
  exact eres_err 9 hb1
 ·simp only [hb, if_false, show (0 : Int).toNat = 0 from rfl, show (1 : Int).toNat = 1 from rfl] at H0 H1 ⊢
  clear hb hsz
  have hl0 := bs_size (encB 0 l)
  have hl1 := bs_size (encB 1 l)
  by_cases hlt : (encB 1 l).length < (encB 0 l).length
  ·rw [if_pos hlt]
   have hlt2 : ((bs (encB 1 l)).size : Int) < ((bs (encB 0 l)).size : Int) := by rw [hl0, hl1]; exact Int.ofNat_lt.2 hlt
   clear hlt hl0 hl1
   obtain ⟨S0, hS0⟩ : ∃ S, bs (encB 0 l) = S := ⟨_, rfl⟩
   have H0' : Hid (Calls Tryz.prog 76 #[.int .i64 0, .slice A n cap] w fun x w' => x = .returned (.tuple #[.string S0, .int .i64 0]) ∧ Below w.heap.size w w') := hide (by rw [← hS0]; exact H0.out)
   obtain ⟨S1, hS1⟩ : ∃ S, bs (encB 1 l) = S := ⟨_, rfl⟩
   have H1' : Hid (∀ w', Below w.heap.size w w' → Calls Tryz.prog 76 #[.int .i64 1, .slice A n cap] w' fun x w2 => x = .returned (.tuple #[.string S1, .int .i64 0]) ∧ Below w'.heap.size w' w2) := hide (by rw [← hS1]; exact H1.out)
   rw [hS0, hS1] at hlt2
   have Hr : Hid (∀ w', Below w.heap.size w w' → ERes w (encB 1 l, 0) (.returned (.tuple #[.string S1, .int .i64 0])) w') := hide (fun w' h => by rw [← hS1]; exact ⟨rfl, h⟩)
   clear H0 H1 hS0 hS1
   go_enter Tryz.func39, Tryz.ntmps39
   go_wp2_with fail
   refine (H0'.out).mono ?_
   rintro x w1 ⟨rfl, hb1⟩
   go_wp2_with fail
   refine (H1'.out _ hb1).mono ?_
   rintro x w2 ⟨rfl, hb2⟩
   have hb := hb1.trans (hb2.mono hb1.size)
   go_wp2
   go_returns
   exact Hr.out _ hb
  ·rw [if_neg hlt]
   have hlt2 : ¬ ((bs (encB 1 l)).size : Int) < ((bs (encB 0 l)).size : Int) := by rw [hl0, hl1]; omega
   clear hlt hl0 hl1
   obtain ⟨S0, hS0⟩ : ∃ S, bs (encB 0 l) = S := ⟨_, rfl⟩
   have H0' : Hid (Calls Tryz.prog 76 #[.int .i64 0, .slice A n cap] w fun x w' => x = .returned (.tuple #[.string S0, .int .i64 0]) ∧ Below w.heap.size w w') := hide (by rw [← hS0]; exact H0.out)
   obtain ⟨S1, hS1⟩ : ∃ S, bs (encB 1 l) = S := ⟨_, rfl⟩
   have H1' : Hid (∀ w', Below w.heap.size w w' → Calls Tryz.prog 76 #[.int .i64 1, .slice A n cap] w' fun x w2 => x = .returned (.tuple #[.string S1, .int .i64 0]) ∧ Below w'.heap.size w' w2) := hide (by rw [← hS1]; exact H1.out)
   rw [hS0, hS1] at hlt2
   have Hr : Hid (∀ w', Below w.heap.size w w' → ERes w (encB 0 l, 0) (.returned (.tuple #[.string S0, .int .i64 0])) w') := hide (fun w' h => by rw [← hS0]; exact ⟨rfl, h⟩)
   clear H0 H1 hS0 hS1
   go_enter Tryz.func39, Tryz.ntmps39
   go_wp2_with fail
   refine (H0'.out).mono ?_
   rintro x w1 ⟨rfl, hb1⟩
   go_wp2_with fail
   refine (H1'.out _ hb1).mono ?_
   rintro x w2 ⟨rfl, hb2⟩
   have hb := hb1.trans (hb2.mono hb1.size)
   go_wp2
   go_returns
   exact Hr.out _ hb
end Go.Proofs.YtoeeblldgoccoaaGreat
