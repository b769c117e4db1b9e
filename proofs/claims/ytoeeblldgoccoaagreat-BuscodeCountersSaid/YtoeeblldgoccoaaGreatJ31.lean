/-
  The walks over lists of values: the writer of all characters.
-/
import Derived.Test.YtoeeblldgoccoaaGreatJ30
import Derived.Test.YtoeeblldgoccoaaGreatJ16
set_option linter.unusedVariables false
set_option linter.unusedSimpArgs false
namespace Go.Proofs.YtoeeblldgoccoaaGreat
open Go.RowKit Go.Proofs Wv Wv.Vi Wv.Rc Wv.Mo Wv.Ru Wv.Bc
set_option linter.unusedVariables false
theorem cbit_num {k : Nat} (h : k < 4) : Wv.Bit.num 2 k = [decide (2 ≤ k), decide (k % 2 = 1)] := by
 rcases (show k = 0 ∨ k = 1 ∨ k = 2 ∨ k = 3 by omega) with rfl | rfl | rfl | rfl <;> decide
theorem putm_chr (L : List Bool) {c : UInt8} (h : cd c < 4) : Wv.Bit.putm L ⟨0, 2, (cd c : Int)⟩ = if 65536 < L.length + 2 then (L, 9) else (L ++ cbit c, 0) := by
 have hok : (⟨0, 2, (cd c : Int)⟩ : Wv.Bit.Cd).ok = true := by
  rcases (show cd c = 0 ∨ cd c = 1 ∨ cd c = 2 ∨ cd c = 3 by omega) with h | h | h | h <;> rw [h] <;> decide
 have hb : (⟨0, 2, (cd c : Int)⟩ : Wv.Bit.Cd).bits = cbit c := by
  have : (⟨0, 2, (cd c : Int)⟩ : Wv.Bit.Cd).bits = Wv.Bit.num 2 (cd c) := by
   rcases (show cd c = 0 ∨ cd c = 1 ∨ cd c = 2 ∨ cd c = 3 by omega) with h | h | h | h <;> rw [h] <;> decide
  rw [this, cbit_num h]
  rfl
 unfold Wv.Bit.putm
 rw [if_pos hok, hb]
 rfl
theorem bitsL_take (l : List ByteArray) (j : Nat) (h : j < l.length) : bitsL (l.take (j + 1)) = bitsL (l.take j) ++ bitsV (toL l[j]) := by
 unfold bitsL
 rw [List.take_succ_eq_append_getElem h, List.flatMap_append]
 simp
theorem bitsV_take (v : List UInt8) (i : Nat) (h : i < v.length) : bitsV (v.take (i + 1)) = bitsV (v.take i) ++ cbit v[i] := by
 unfold bitsV
 rw [List.take_succ_eq_append_getElem h, List.flatMap_append]
 simp
theorem bitsL_ge (l : List ByteArray) (j i : Nat) (h : j < l.length) (hi : i < (toL l[j]).length) : (bitsL (l.take j) ++ bitsV ((toL l[j]).take i)).length + 2 ≤ (bitsL l).length := by
 have h1 : bitsL l = bitsL (l.take (j + 1)) ++ bitsL (l.drop (j + 1)) := by
  unfold bitsL
  rw [← List.flatMap_append, List.take_append_drop]
 rw [h1, bitsL_take l j h, List.length_append, List.length_append, List.length_append, bitsV_len, bitsV_len, List.length_take]
 omega
theorem bitsL_le (l : List ByteArray) (j : Nat) : (bitsL (l.take j)).length ≤ (bitsL l).length := by
 have h1 : bitsL l = bitsL (l.take j) ++ bitsL (l.drop j) := by
  unfold bitsL
  rw [← List.flatMap_append, List.take_append_drop]
 rw [h1, List.length_append]
 omega
def BWr (w0 w : World) (b : Nat) (L : List Bool) : Prop := ∃ dv, Bio.WrAt w b dv L ∧ (∀ g, dv.ownBlock = some g → w0.heap.size ≤ g) ∧ w0.heap.size ≤ b ∧ Below w0.heap.size w0 w
theorem bput_chr {w0 w : World} {b : Nat} {L : List Bool} (h : BWr w0 w b L) (hl : L.length ≤ 65536) {c : UInt8} (hc : cd c < 4) :
    Calls Tryz.prog 99 #[.pointer (some ⟨b, 0, none⟩), .agg #[.int .i64 0, .int .i64 2, .int .i64 (cd c : Int)]] w fun e w' => e = .returned (.int .i64 (if 65536 < L.length + 2 then 9 else 0)) ∧ BWr w0 w' b (if 65536 < L.length + 2 then L else L ++ cbit c) := by
  obtain ⟨dv, h1, h2, h3, h4⟩ := h
  have hp := Bio.wput0 h1 hl 2 (cd c : Int) (by omega) (by omega) (by omega) (by omega)
  rw [putm_chr L hc] at hp
  refine hp.mono ?_
  rintro x w1 ⟨rfl, dv', k1, k2, k3⟩
  refine ⟨by split <;> rfl, dv', by split <;> rename_i hh <;> simpa [hh] using k1, ?_, h3, ?_⟩
  · intro g hg
    rcases k3 with k3 | k3
    · exact h2 g (by rw [← k3]; exact hg)
    · exact Nat.le_trans h4.size (k3 g hg)
  · exact h4.trans (k2.toBelow' h4.size (fun k hk hf => by
      rcases hf with hf | hf
      · omega
      · have := h2 k hf; omega))
theorem BWr.below {w0 w w' : World} {b : Nat} {L : List Bool} (h : BWr w0 w b L) (hb : Below w.heap.size w w') : BWr w0 w' b L := by
 obtain ⟨dv, h1, h2, h3, h4⟩ := h
 exact ⟨dv, h1.below hb, h2, h3, h4.trans (hb.mono h4.size)⟩
set_option maxRecDepth 10000 in
set_option maxHeartbeats 4000000 in
theorem plain_any {w : World} {A : Option Addr} {l : List ByteArray} (ha : At w A (svs l)) (hsz : ∀ s ∈ l, s.size ≤ 1099511627776) (hcd : ∀ s ∈ l, ∀ c ∈ toL s, cd c < 4) (n cap : Nat) (hn : n = l.length) (hm : n ≤ 4096) (W : Int) :
  Calls Tryz.prog 61 #[.agg #[.int .i64 W], .slice A n cap] w fun x w' => x = .returned (.tuple #[.string (bs ((codP l).getD [])), .bool (codP l).isSome]) ∧ Below w.heap.size w w' := by
 have hb0 := bel_new1 w (.cells #[.int .i64 W] 60)
 have HN := hide (Bio.newwriter_any (w.alloc (.cells #[.int .i64 W] 60)))
 have he : bs ([] : List UInt8) = ⟨#[]⟩ := rfl
 have hbad : 65536 < (bitsL l).length → codP l = none := fun h => by unfold codP; rw [if_pos h]
 have hgood : (bitsL l).length ≤ 65536 → codP l = some (num l.length ++ toL (Bit.bstr (bitsL l))) := fun h => by unfold codP; rw [if_neg (by omega)]
 have Hbad := hide hbad
 have Hgood := hide hgood
 obtain ⟨R, hR⟩ : ∃ R, codP l = R := ⟨_, rfl⟩
 rw [hR] at Hbad Hgood ⊢
 have Ha := hide ha
 have Hn := hide hn
 have Hcd := hide hcd
 have Hsz := hide hsz
 have Hb0 := hide hb0
 have HNum := hide (fun W2 => number_any (n : Int) (by omega) (by omega) W2)
 rw [Int.toNat_natCast] at HNum
 have hs0 : (w.alloc (.cells #[.int .i64 W] 60)).heap.size = w.heap.size + 1 := World.size_alloc _ _
 rw [hs0] at HN
 clear ha hn hcd hsz hb0 hbad hgood hR hs0
 go_enter Tryz.func61, Tryz.ntmps61
 go_wp2_with fail
 refine (HN.out).mono ?_
 rintro x w1 ⟨rfl, hw1, hb1⟩
 have Hw := hide (show BWr w w1 (w.heap.size + 1) [] from ⟨_, hw1, (fun g hg => by cases hg), by omega, Hb0.out.trans (hb1.mono (Nat.le_succ _))⟩)
 clear hw1 hb1 HN Hb0
 go_wp2
 go_loopw [13] (fun s13 wr => ∃ j : Nat, j ≤ n ∧ s13 = .int .i64 (j : Int) ∧ (bitsL (l.take j)).length ≤ 65536 ∧ Hid (BWr w wr (w.heap.size + 1) (bitsL (l.take j)))) (fun s13 _ => (n - intOf s13).toNat)
 case atStart => exact ⟨0, Nat.zero_le _, rfl, Nat.zero_le _, Hw⟩
 case round =>
  clear Hw
  obtain ⟨j, hj, rfl, hlen, hw⟩ := hrel
  have hbl : Below w.heap.size w wr := by
   obtain ⟨_, _, _, _, h4⟩ := hw.out
   exact h4
  by_cases hlt : j < n
  ·have hjl : j < l.length := by rw [← Hn.out]; exact hlt
   obtain ⟨b, o, rfl, hbb, hc⟩ := sv_cell (Ha.out.below hbl) j hjl
   have hcs := Hcd.out l[j] (List.getElem_mem _)
   have hge := fun i h => bitsL_ge l j i hjl h
   have hnx := bitsL_take l j hjl
   have hsS := Hsz.out l[j] (List.getElem_mem _)
   obtain ⟨S, hS⟩ : ∃ S, l[j] = S := ⟨_, rfl⟩
   rw [hS] at hc hcs hge hnx hsS
   obtain ⟨V, hV⟩ : ∃ V, toL S = V := ⟨_, rfl⟩
   have hSV : S = bs V := by rw [← hV, bs_toL]
   rw [hV] at hcs hge hnx
   subst hSV
   have hsz2 : (bs V).size = V.length := bs_size V
   have Hget : Hid (∀ (i : Nat) (h : i < V.length) (h2 : i < (bs V).size), (bs V)[i]'h2 = V[i]'h) := hide (fun i h h2 => bs_get V i h h2)
   have hV1 : V.length ≤ 1099511627776 := by rw [← hsz2]; exact hsS
   have Hcs := hide hcs
   have Hge := hide hge
   have Hnx := hide hnx
   obtain ⟨P, hP⟩ : ∃ P, bitsL (l.take j) = P := ⟨_, rfl⟩
   rw [hP] at hlen hw Hge Hnx
   have Hsz2 := hide hsz2
   obtain ⟨S, hSS⟩ : ∃ S, bs V = S := ⟨_, rfl⟩
   rw [hSS] at hc Hget Hsz2
   have Hlen := hide hlen
   clear hcs hge hnx hsS hV hP hsz2 hSS hS hjl hbl hlen
   go_wp2
   rw [Hsz2.out]
   go_loopw [19] (fun s19 wx => ∃ i : Nat, i ≤ V.length ∧ s19 = .int .i64 (i : Int) ∧ (P ++ bitsV (V.take i)).length ≤ 65536 ∧ Hid (BWr w wx (w.heap.size + 1) (P ++ bitsV (V.take i)))) (fun s19 _ => (V.length - intOf s19).toNat)
   case atStart => exact ⟨0, Nat.zero_le _, rfl, by rw [List.take_zero]; show (P ++ []).length ≤ _; rw [List.append_nil]; exact Hlen.out, hide (by rw [List.take_zero]; show BWr _ _ _ (P ++ []); rw [List.append_nil]; exact hw.out)⟩
   case round =>
    clear hw hc
    obtain ⟨i, hi, rfl, hlen2, hw⟩ := hrel
    by_cases hlt2 : i < V.length
    ·have hiS : i < S.size := by rw [Hsz2.out]; exact hlt2
     have hg := Hget.out i hlt2 hiS
     have hc4 := Hcs.out V[i] (List.getElem_mem _)
     have hge2 := Hge.out i hlt2
     have hnx2 := bitsV_take V i hlt2
     obtain ⟨c, hc⟩ : ∃ c, V[i] = c := ⟨_, rfl⟩
     rw [hc] at hg hc4 hnx2
     have hg' : ∀ h : i < S.size, ((S[i]'h).toNat : Int) = (c.toNat : Int) := fun h => by rw [hg]
     have HC := hide (fun W2 => code_any c W2)
     rw [cdI_ok hc4] at HC
     have HP := hide (fun W2 (h : BWr w W2 (w.heap.size + 1) (P ++ bitsV (V.take i))) => bput_chr h hlen2 hc4)
     have Hnx2 := hide hnx2
     obtain ⟨Q, hQ⟩ : ∃ Q, P ++ bitsV (V.take i) = Q := ⟨_, rfl⟩
     rw [hQ] at HP hlen2 hge2 hw
     have HQ := hide hQ
     have hgA := hg' hiS
     have hi0 : (0 : Int) ≤ (i : Int) := by omega
     have hlt3 : (i : Int) < (V.length : Int) := by omega
     have hiS2 : (i : Int) < (S.size : Int) := by omega
     generalize (c.toNat : Int) = C at *
     clear hc hg hnx2 hQ hc4
     by_cases hov : 65536 < Q.length + 2
     ·simp only [if_pos hov] at HP
      have HR2 := hide (Hbad.out (by omega))
      have HP1 := hide (HP.out wr hw.out)
      clear hge2 hlen2 hov HP
      go_wp2_with fail
      refine (HC.out _).mono ?_
      rintro x w1 ⟨rfl, rfl⟩
      go_wp2_with fail
      refine (HP1.out).mono ?_
      rintro x w2 ⟨rfl, hw2⟩
      have hbl : Below w.heap.size w w2 := by
       obtain ⟨_, _, _, _, h4⟩ := hw2
       exact h4
      clear hw2
      go_wp2
      go_returns
      exact ⟨by rw [HR2.out]; rfl, hbl⟩
     ·simp only [if_neg hov] at HP
      have HP1 := hide (HP.out wr hw.out)
      have hl5 : (P ++ bitsV (V.take (i + 1))).length ≤ 65536 := by
       rw [Hnx2.out, ← List.append_assoc, HQ.out, List.length_append]
       show Q.length + 2 ≤ _
       omega
      have Hl5 := hide hl5
      clear hge2 hlen2 hov HP hl5
      go_wp2_with fail
      refine (HC.out _).mono ?_
      rintro x w1 ⟨rfl, rfl⟩
      go_wp2_with fail
      refine (HP1.out).mono ?_
      rintro x w2 ⟨rfl, hw2⟩
      have Hw2 := hide (show BWr w w2 (w.heap.size + 1) (P ++ bitsV (V.take (i + 1))) by
       rw [Hnx2.out, ← List.append_assoc, HQ.out]
       exact hw2)
      clear hw2 hw HP1 HC
      go_wp2
      refine ⟨⟨i + 1, hlt2, by go_num, Hl5.out, Hw2⟩, ?_⟩
      simp [intOf] <;> omega
    ·have hiV : i = V.length := by omega
     have Hl6 := hide (show (bitsL (l.take (j + 1))).length ≤ 65536 by
      rw [Hnx.out]
      rw [hiV, List.take_length] at hlen2
      exact hlen2)
     have Hw6 := hide (show BWr w wr (w.heap.size + 1) (bitsL (l.take (j + 1))) by
      have := hw.out
      rw [hiV, List.take_length] at this
      rw [Hnx.out]
      exact this)
     clear hw hlen2
     go_wp2
     refine ⟨⟨j + 1, hlt, by go_num, Hl6.out, Hw6⟩, ?_⟩
     simp [intOf] <;> omega
  ·have hjn : j = n := by omega
   have hw' := hw.out
   rw [hjn, List.take_of_length_le (by rw [Hn.out]; exact Nat.le_refl _)] at hlen hw'
   have HR2 := hide (Hgood.out hlen)
   have Hpk := hide (show (⟨(Bit.pack (bitsL l ++ [true])).toArray⟩ : ByteArray).size ≤ 8193 by
    have := Bit.bstr_size (bitsL l)
    show (Bit.bstr (bitsL l)).size ≤ _
    omega)
   obtain ⟨dv, h1, h2, h3, h4⟩ := hw'
   have HN1 := hide (HNum.out wr)
   have HBy := hide (fun W2 (h : Bio.WrAt W2 (w.heap.size + 1) dv (bitsL l)) => Bio.wbytes_any h hlen)
   have H1 := hide h1
   have H4 := hide h4
   clear h1 h2 h3 h4 hw hlen hbl HNum Hcd Hsz Hbad Hgood
   go_wp2_with fail
   refine (HN1.out).mono ?_
   rintro x w2 ⟨rfl, hb2⟩
   have HBy2 := hide (HBy.out w2 (H1.out.below hb2))
   have Hb2 := hide (H4.out.trans (hb2.mono H4.out.size))
   clear hb2 HN1 HBy
   go_wp2_with fail
   refine (HBy2.out).mono ?_
   rintro x w3 ⟨rfl, hb3⟩
   have Hb3 := hide (Hb2.out.trans (hb3.mono Hb2.out.size))
   have hcat : bs (num n) ++ (⟨(Bit.pack (bitsL l ++ [true])).toArray⟩ : ByteArray) = bs (num l.length ++ toL (Bit.bstr (bitsL l))) := by
    rw [← bs_append, bs_toL, Hn.out]
    rfl
   have Hcat := hide hcat
   have Hz : Hid ((bs (num n)).size + (⟨(Bit.pack (bitsL l ++ [true])).toArray⟩ : ByteArray).size ≤ 1099511627776) := hide (by
    have h1 := Hpk.out
    have h2 : (num n).length ≤ 9 := by rw [num_length]; have := kof_le n; omega
    rw [bs_size]
    omega)
   have hz := Hz.out
   generalize bs (num n) = S1 at *
   generalize (⟨(Bit.pack (bitsL l ++ [true])).toArray⟩ : ByteArray) = S2 at *
   clear hb3 hcat HBy2
   go_wp2
   go_returns
   exact ⟨by rw [HR2.out, Option.getD_some, ← Hcat.out]; rfl, Hb3.out⟩
end Go.Proofs.YtoeeblldgoccoaaGreat
