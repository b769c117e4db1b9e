/-
  Joined texts: Qq, Qr, Qs, Qt, Qu, Qv, Ca, Cb.
-/
import Derived.Test.YtoeeblldgoccoaaGreatL32
import Derived.Test.YtoeeblldgoccoaaGreatL38
set_option linter.unusedVariables false
set_option linter.unusedSimpArgs false
set_option maxRecDepth 100000
set_option maxHeartbeats 8000000
namespace Go.Proofs.YtoeeblldgoccoaaGreat
open Go.RowKit Go.Proofs Wv Wv.Vi Wv.Rc Wv.Mo Wv.Ru Wv.Bc
theorem cbit_num {k : Nat} (h : k < 4) : Wv.Bit.num 2 k = [decide (2 ≤ k), decide (k % 2 = 1)] := by
 rcases (show k = 0 ∨ k = 1 ∨ k = 2 ∨ k = 3 by omega) with rfl | rfl | rfl | rfl <;> decide
theorem putm_chr (L : List Bool) {c : UInt8} (h : cd c < 4) : Wv.Bit.putm L ⟨0, 2, (cd c : Int)⟩ = if 65536 < L.length + 2 then (L, 9) else (L ++ cbit c, 0) := by
 have hok : (⟨0, 2, (cd c : Int)⟩ : Wv.Bit.Cd).ok = true := by
  rcases (show cd c = 0 ∨ cd c = 1 ∨ cd c = 2 ∨ cd c = 3 by omega) with h | h | h | h <;> rw [h] <;> decide
 have hb : (⟨0, 2, (cd c : Int)⟩ : Wv.Bit.Cd).bits = cbit c := by
  have : (⟨0, 2, (cd c : Int)⟩ : Wv.Bit.Cd).bits = Wv.Bit.num 2 (cd c) := by
   rcases (show cd c = 0 ∨ cd c = 1 ∨ cd c = 2 ∨ cd c = 3 by omega) with h | h | h | h <;> rw [h] <;> decide
  rw [this, cbit_num h];rfl
 unfold Wv.Bit.putm;rw [if_pos hok, hb];rfl
theorem bitsL_take (l : List ByteArray) (j : Nat) (h : j < l.length) : bitsL (l.take (j + 1)) = bitsL (l.take j) ++ bitsV (toL l[j]) := by
 unfold bitsL;rw [List.take_succ_eq_append_getElem h, List.flatMap_append]
 simp
theorem bitsV_take (v : List UInt8) (i : Nat) (h : i < v.length) : bitsV (v.take (i + 1)) = bitsV (v.take i) ++ cbit v[i] := by
 unfold bitsV;rw [List.take_succ_eq_append_getElem h, List.flatMap_append]
 simp
theorem bitsL_ge (l : List ByteArray) (j i : Nat) (h : j < l.length) (hi : i < (toL l[j]).length) : (bitsL (l.take j) ++ bitsV ((toL l[j]).take i)).length + 2 ≤ (bitsL l).length := by
 have h1 : bitsL l = bitsL (l.take (j + 1)) ++ bitsL (l.drop (j + 1)) := by
  unfold bitsL;rw [← List.flatMap_append, List.take_append_drop]
 rw [h1, bitsL_take l j h, List.length_append, List.length_append, List.length_append, bitsV_len, bitsV_len, List.length_take];omega
theorem bitsL_le (l : List ByteArray) (j : Nat) : (bitsL (l.take j)).length ≤ (bitsL l).length := by
 have h1 : bitsL l = bitsL (l.take j) ++ bitsL (l.drop j) := by
  unfold bitsL;rw [← List.flatMap_append, List.take_append_drop]
 rw [h1, List.length_append];omega
def BWr (w0 w : World) (b : Nat) (L : List Bool) : Prop := ∃ dv, Bio.WrAt w b dv L ∧ (∀ g, dv.ownBlock = some g → w0.heap.size ≤ g) ∧ w0.heap.size ≤ b ∧ Below w0.heap.size w0 w
theorem bput_chr {w0 w : World} {b : Nat} {L : List Bool} (h : BWr w0 w b L) (hl : L.length ≤ 65536) {c : UInt8} (hc : cd c < 4) :
    Calls Tryz.prog 99 #[.pointer (some ⟨b, 0, none⟩), .agg #[.int .i64 0, .int .i64 2, .int .i64 (cd c : Int)]] w fun e w' => e = .returned (.int .i64 (if 65536 < L.length + 2 then 9 else 0)) ∧ BWr w0 w' b (if 65536 < L.length + 2 then L else L ++ cbit c) := by
  obtain ⟨dv, h1, h2, h3, h4⟩ := h;have hp := Bio.wput0 h1 hl 2 (cd c : Int) (by omega) (by omega) (by omega) (by omega);rw [putm_chr L hc] at hp;refine hp.mono ?_;rintro x w1 ⟨rfl, dv', k1, k2, k3⟩;refine ⟨by split <;> rfl, dv', by split <;> rename_i hh <;> simpa [hh] using k1, ?_, h3, ?_⟩
  · intro g hg
    rcases k3 with k3 | k3
    · exact h2 g (by rw [← k3]; exact hg)
    · exact Nat.le_trans h4.size (k3 g hg)
  · exact h4.trans (k2.toBelow' h4.size (fun k hk hf => by
      rcases hf with hf | hf
      · omega
      · have := h2 k hf; omega))
theorem plain_any {w : World} {A : Option Addr} {l : List ByteArray} (ha : At w A (svs l)) (hsz : ∀ s ∈ l, s.size ≤ 1099511627776) (hcd : ∀ s ∈ l, ∀ c ∈ toL s, cd c < 4) (n cap : Nat) (hn : n = l.length) (hm : n ≤ 4096) (W : Int) :
  Calls Tryz.prog 61 #[.agg #[.int .i64 W], .slice A n cap] w fun x w' => x = .returned (.tuple #[.string (bs ((codP l).getD [])), .bool (codP l).isSome]) ∧ Below w.heap.size w w' := by
 have hb0 := bel_new1 w (.cells #[.int .i64 W] 60);have HN := hide (Bio.newwriter_any (w.alloc (.cells #[.int .i64 W] 60)));have he : bs ([] : List UInt8) = ⟨#[]⟩ := rfl
 have hbad : 65536 < (bitsL l).length → codP l = none := fun h => by unfold codP; rw [if_pos h]
 have hgood : (bitsL l).length ≤ 65536 → codP l = some (num l.length ++ toL (Bit.bstr (bitsL l))) := fun h => by unfold codP; rw [if_neg (by omega)]
 have Hbad := hide hbad;have Hgood := hide hgood;obtain ⟨R, hR⟩ : ∃ R, codP l = R := ⟨_, rfl⟩;rw [hR] at Hbad Hgood ⊢;have Ha := hide ha;have Hn := hide hn;have Hcd := hide hcd;have Hsz := hide hsz;have Hb0 := hide hb0;have HNum := hide (fun W2 => number_any (n : Int) (by omega) (by omega) W2);rw [Int.toNat_natCast] at HNum;have hs0 : (w.alloc (.cells #[.int .i64 W] 60)).heap.size = w.heap.size + 1 := World.size_alloc _ _;rw [hs0] at HN;clear ha hn hcd hsz hb0 hbad hgood hR hs0
 go_enter Tryz.func61, Tryz.ntmps61
 go_wp2_with fail
 refine (HN.out).mono ?_;rintro x w1 ⟨rfl, hw1, hb1⟩;have Hw := hide (show BWr w w1 (w.heap.size + 1) [] from ⟨_, hw1, (fun g hg => by cases hg), by omega, Hb0.out.trans (hb1.mono (Nat.le_succ _))⟩);clear hw1 hb1 HN Hb0
 go_wp2
 go_loopw [13] (fun s13 wr => ∃ j : Nat, j ≤ n ∧ s13 = .int .i64 (j : Int) ∧ (bitsL (l.take j)).length ≤ 65536 ∧ Hid (BWr w wr (w.heap.size + 1) (bitsL (l.take j)))) (fun s13 _ => (n - intOf s13).toNat)
 case atStart => exact ⟨0, Nat.zero_le _, rfl, Nat.zero_le _, Hw⟩
 case round =>
  clear Hw;obtain ⟨j, hj, rfl, hlen, hw⟩ := hrel
  have hbl : Below w.heap.size w wr := by
   obtain ⟨_, _, _, _, h4⟩ := hw.out;exact h4
  by_cases hlt : j < n
  ·have hjl : j < l.length := by rw [← Hn.out]; exact hlt
   obtain ⟨b, o, rfl, hbb, hc⟩ := sv_cell (Ha.out.below hbl) j hjl;have hcs := Hcd.out l[j] (List.getElem_mem _)
   have hge := fun i h => bitsL_ge l j i hjl h
   have hnx := bitsL_take l j hjl;have hsS := Hsz.out l[j] (List.getElem_mem _);obtain ⟨S, hS⟩ : ∃ S, l[j] = S := ⟨_, rfl⟩;rw [hS] at hc hcs hge hnx hsS;obtain ⟨V, hV⟩ : ∃ V, toL S = V := ⟨_, rfl⟩
   have hSV : S = bs V := by rw [← hV, bs_toL]
   rw [hV] at hcs hge hnx;subst hSV;have hsz2 : (bs V).size = V.length := bs_size V;have Hget : Hid (∀ (i : Nat) (h : i < V.length) (h2 : i < (bs V).size), (bs V)[i]'h2 = V[i]'h) := hide (fun i h h2 => bs_get V i h h2)
   have hV1 : V.length ≤ 1099511627776 := by rw [← hsz2]; exact hsS
   have Hcs := hide hcs;have Hge := hide hge;have Hnx := hide hnx;obtain ⟨P, hP⟩ : ∃ P, bitsL (l.take j) = P := ⟨_, rfl⟩;rw [hP] at hlen hw Hge Hnx;have Hsz2 := hide hsz2;obtain ⟨S, hSS⟩ : ∃ S, bs V = S := ⟨_, rfl⟩;rw [hSS] at hc Hget Hsz2;have Hlen := hide hlen;clear hcs hge hnx hsS hV hP hsz2 hSS hS hjl hbl hlen
   go_wp2
   rw [Hsz2.out]
   go_loopw [19] (fun s19 wx => ∃ i : Nat, i ≤ V.length ∧ s19 = .int .i64 (i : Int) ∧ (P ++ bitsV (V.take i)).length ≤ 65536 ∧ Hid (BWr w wx (w.heap.size + 1) (P ++ bitsV (V.take i)))) (fun s19 _ => (V.length - intOf s19).toNat)
   case atStart => exact ⟨0, Nat.zero_le _, rfl, by rw [List.take_zero]; show (P ++ []).length ≤ _; rw [List.append_nil]; exact Hlen.out, hide (by rw [List.take_zero]; show BWr _ _ _ (P ++ []); rw [List.append_nil]; exact hw.out)⟩
   case round =>
    clear hw hc;obtain ⟨i, hi, rfl, hlen2, hw⟩ := hrel
    by_cases hlt2 : i < V.length
    ·have hiS : i < S.size := by rw [Hsz2.out]; exact hlt2
     have hg := Hget.out i hlt2 hiS;have hc4 := Hcs.out V[i] (List.getElem_mem _);have hge2 := Hge.out i hlt2;have hnx2 := bitsV_take V i hlt2;obtain ⟨c, hc⟩ : ∃ c, V[i] = c := ⟨_, rfl⟩;rw [hc] at hg hc4 hnx2
     have hg' : ∀ h : i < S.size, ((S[i]'h).toNat : Int) = (c.toNat : Int) := fun h => by rw [hg]
     have HC := hide (fun W2 => code_any c W2);rw [cdI_ok hc4] at HC;have HP := hide (fun W2 (h : BWr w W2 (w.heap.size + 1) (P ++ bitsV (V.take i))) => bput_chr h hlen2 hc4);have Hnx2 := hide hnx2;obtain ⟨Q, hQ⟩ : ∃ Q, P ++ bitsV (V.take i) = Q := ⟨_, rfl⟩;rw [hQ] at HP hlen2 hge2 hw;have HQ := hide hQ;have hgA := hg' hiS
     have hi0 : (0 : Int) ≤ (i : Int) := by omega
     have hlt3 : (i : Int) < (V.length : Int) := by omega
     have hiS2 : (i : Int) < (S.size : Int) := by omega
     generalize (c.toNat : Int) = C at *
     clear hc hg hnx2 hQ hc4
     by_cases hov : 65536 < Q.length + 2
     ·simp only [if_pos hov] at HP
      have HR2 := hide (Hbad.out (by omega));have HP1 := hide (HP.out wr hw.out);clear hge2 hlen2 hov HP
      go_wp2_with fail
      refine (HC.out _).mono ?_;rintro x w1 ⟨rfl, rfl⟩
      go_wp2_with fail
      refine (HP1.out).mono ?_;rintro x w2 ⟨rfl, hw2⟩
      have hbl : Below w.heap.size w w2 := by
       obtain ⟨_, _, _, _, h4⟩ := hw2;exact h4
      clear hw2
      go_wp2
      go_returns
      exact ⟨by rw [HR2.out]; rfl, hbl⟩
     ·simp only [if_neg hov] at HP
      have HP1 := hide (HP.out wr hw.out)
      have hl5 : (P ++ bitsV (V.take (i + 1))).length ≤ 65536 := by
       rw [Hnx2.out, ← List.append_assoc, HQ.out, List.length_append]
       show Q.length + 2 ≤ _
       omega
      have Hl5 := hide hl5;clear hge2 hlen2 hov HP hl5
      go_wp2_with fail
      refine (HC.out _).mono ?_;rintro x w1 ⟨rfl, rfl⟩
      go_wp2_with fail
      refine (HP1.out).mono ?_;rintro x w2 ⟨rfl, hw2⟩
      have Hw2 := hide (show BWr w w2 (w.heap.size + 1) (P ++ bitsV (V.take (i + 1))) by
       rw [Hnx2.out, ← List.append_assoc, HQ.out]
       exact hw2)
      clear hw2 hw HP1 HC
      go_wp2
      refine ⟨⟨i + 1, hlt2, by go_num, Hl5.out, Hw2⟩, ?_⟩
      simp [intOf] <;> omega
    ·have hiV : i = V.length := by omega
     have Hl6 := hide (show (bitsL (l.take (j + 1))).length ≤ 65536 by
      rw [Hnx.out];rw [hiV, List.take_length] at hlen2
      exact hlen2)
     have Hw6 := hide (show BWr w wr (w.heap.size + 1) (bitsL (l.take (j + 1))) by
      have := hw.out;rw [hiV, List.take_length] at this;rw [Hnx.out]
      exact this)
     clear hw hlen2
     go_wp2
     refine ⟨⟨j + 1, hlt, by go_num, Hl6.out, Hw6⟩, ?_⟩
     simp [intOf] <;> omega
  ·have hjn : j = n := by omega
   have hw' := hw.out;rw [hjn, List.take_of_length_le (by rw [Hn.out]; exact Nat.le_refl _)] at hlen hw';have HR2 := hide (Hgood.out hlen)
   have Hpk := hide (show (⟨(Bit.pack (bitsL l ++ [true])).toArray⟩ : ByteArray).size ≤ 8193 by
    have := Bit.bstr_size (bitsL l)
    show (Bit.bstr (bitsL l)).size ≤ _
    omega)
   obtain ⟨dv, h1, h2, h3, h4⟩ := hw';have HN1 := hide (HNum.out wr);have HBy := hide (fun W2 (h : Bio.WrAt W2 (w.heap.size + 1) dv (bitsL l)) => Bio.wbytes_any h hlen);have H1 := hide h1;have H4 := hide h4;clear h1 h2 h3 h4 hw hlen hbl HNum Hcd Hsz Hbad Hgood
   go_wp2_with fail
   refine (HN1.out).mono ?_;rintro x w2 ⟨rfl, hb2⟩;have HBy2 := hide (HBy.out w2 (H1.out.below hb2));have Hb2 := hide (H4.out.trans (hb2.mono H4.out.size));clear hb2 HN1 HBy
   go_wp2_with fail
   refine (HBy2.out).mono ?_;rintro x w3 ⟨rfl, hb3⟩;have Hb3 := hide (Hb2.out.trans (hb3.mono Hb2.out.size))
   have hcat : bs (num n) ++ (⟨(Bit.pack (bitsL l ++ [true])).toArray⟩ : ByteArray) = bs (num l.length ++ toL (Bit.bstr (bitsL l))) := by
    rw [← bs_append, bs_toL, Hn.out];rfl
   have Hcat := hide hcat
   have Hz : Hid ((bs (num n)).size + (⟨(Bit.pack (bitsL l ++ [true])).toArray⟩ : ByteArray).size ≤ 1099511627776) := hide (by
    have h1 := Hpk.out
    have h2 : (num n).length ≤ 9 := by rw [num_length]; have := kof_le n; omega
    rw [bs_size]
    omega)
   have hz := Hz.out
   generalize bs (num n) = S1 at *
   generalize (⟨(Bit.pack (bitsL l ++ [true])).toArray⟩ : ByteArray) = S2 at *
   clear hb3 hcat HBy2
   go_wp2
   go_returns
   exact ⟨by rw [HR2.out, Option.getD_some, ← Hcat.out]; rfl, Hb3.out⟩
def gF {β : Type} (F : Nat → β) (z : β) (n i : Nat) : List β := (List.range i).map F ++ List.replicate (n - i) z
theorem gF_len {β : Type} (F : Nat → β) (z : β) (n i : Nat) (h : i ≤ n) : (gF F z n i).length = n := by
 unfold gF;rw [List.length_append, List.length_map, List.length_range, List.length_replicate];omega
theorem gF_set {β : Type} (F : Nat → β) (z : β) (n i : Nat) (h : i < n) : (gF F z n i).set i (F i) = gF F z n (i + 1) := by
 unfold gF;rw [List.set_append_right _ _ (by rw [List.length_map, List.length_range]; exact Nat.le_refl _), List.length_map, List.length_range, Nat.sub_self, show n - i = (n - (i + 1)) + 1 by omega, List.replicate_succ, List.set_cons_zero, List.range_succ, List.map_append, List.append_assoc];rfl
theorem gF_end {β : Type} (F : Nat → β) (z : β) (n : Nat) : gF F z n n = (List.range n).map F := by
 unfold gF;rw [Nat.sub_self, List.replicate_zero, List.append_nil]
theorem gF_0 {β : Type} (F : Nat → β) (z : β) (n : Nat) : gF F z n 0 = List.replicate n z := rfl
def chAt (L : List Bool) (i : Nat) : UInt8 := ch (2 * (L.getD (2 * i) false).toNat + (L.getD (2 * i + 1) false).toNat)
theorem getD_drop (L : List Bool) (a i : Nat) : (L.drop a).getD i false = L.getD (a + i) false := by
 rw [List.getD_eq_getElem?_getD, List.getD_eq_getElem?_getD, List.getElem?_drop]
theorem valOf_range (L : List Bool) (k : Nat) : valOf k L = (List.range k).map (chAt L) := by
 induction k generalizing L with
 | zero => rfl
 | succ k ih =>
  rw [valOf, ih, List.range_succ_eq_map, List.map_cons, List.map_map]
  congr 1
  apply List.map_congr_left
  intro i _
  show chAt (L.drop 2) i = chAt L (i + 1)
  unfold chAt;rw [getD_drop, getD_drop, show 2 + 2 * i = 2 * (i + 1) by omega, show 2 + (2 * i + 1) = 2 * (i + 1) + 1 by omega]
theorem valsOf_range (L : List Bool) (m n : Nat) : valsOf m n L = (List.range n).map (fun j => bs (valOf m (L.drop (2 * m * j)))) := by
 induction n generalizing L with
 | zero => rfl
 | succ n ih =>
  rw [valsOf, ih, List.range_succ_eq_map, List.map_cons, List.map_map]
  congr 1
  apply List.map_congr_left
  intro j _
  show bs (valOf m ((L.drop (2 * m)).drop (2 * m * j))) = bs (valOf m (L.drop (2 * m * (j + 1))))
  rw [List.drop_drop, show 2 * m + 2 * m * j = 2 * m * (j + 1) by rw [Nat.mul_add, Nat.mul_one, Nat.add_comm]]
theorem get_two {L : List Bool} (h : 2 ≤ L.length) : Bit.getm 0 2 3 L = (L.drop 2, 2 * (L.getD 0 false).toNat + (L.getD 1 false).toNat, 0) := by
 match L, h with
 | a :: b :: r, _ => cases a <;> cases b <;> rfl
theorem two_lt (a b : Bool) : 2 * a.toNat + b.toNat < 4 := by cases a <;> cases b <;> decide
theorem bk_setb {w : World} {g : Nat} {t : TypeId} {l : List UInt8} (h : Bk w g t (l.map bv).toArray) (i : Nat) (x : UInt8) : Bk (w.setCell ⟨g, i, none⟩ (.int .u8 (x.toNat : Int))) g t ((l.set i x).map bv).toArray := by
 have := h.put i (bv x);rw [List.setIfInBounds_toArray] at this;rw [List.map_set];exact this
theorem bget_any {w : World} {b x n a : Nat} {s : ByteArray} (h : Bio.RdAt w b s x n) (hx : (Bit.rbits s n).drop x = (Bit.rbits s n).drop a) (ha : a + 2 ≤ n) :
  Calls Tryz.prog 132 #[.pointer (some ⟨b, 0, none⟩), .int .i64 0, .int .i64 2, .int .i64 3] w fun e w' => ∃ y, e = .returned (.tuple #[.int .i64 ((2 * ((Bit.rbits s n).getD a false).toNat + ((Bit.rbits s n).getD (a + 1) false).toNat : Nat) : Int), .int .i64 0]) ∧ Bio.RdAt w' b s y n ∧ Fr (only b) w w' ∧ (Bit.rbits s n).drop y = (Bit.rbits s n).drop (a + 2) := by
 have hg := Bio.get0 h 2 3 (by omega) (by omega)
 have hlen : 2 ≤ ((Bit.rbits s n).drop a).length := by rw [List.length_drop, Bit.rbits_length]; omega
 rw [hx, get_two hlen] at hg;rw [getD_drop, getD_drop, Nat.add_zero, List.drop_drop] at hg;refine hg.mono ?_;rintro e w1 ⟨y, rfl, h1, h2, h3⟩;exact ⟨y, rfl, h1, h2, h3.symm⟩
theorem Bio.RdAt.off {w : World} {b x n : Nat} {s : ByteArray} (h : Bio.RdAt w b s x n) {p : Addr} (hp : b ≠ p.block) (u : Value) : Bio.RdAt (w.setCell p u) b s x n := ⟨h.1.off hp u, h.2⟩
theorem rest_of {s : List UInt8} {n : Nat} {r : List UInt8} (h : rnum s 4096 = some (n, r)) : numR (bs s) 0 4096 = (n, bs r, 0) ∧ n ≤ 4096 ∧ r.length ≤ s.length := numR_some h
theorem readPl_bad {w : World} {b : Nat} {s : ByteArray} (h : RV w b s 0) (hs : s.size ≤ 1000000000) (W : Int) (hno : rnum (toL s) 4096 = none) :
  Calls Tryz.prog 89 #[.agg #[.int .i64 W], .pointer (some ⟨b, 0, none⟩)] w fun x w' => RdrR b w none x w' := by
 obtain ⟨e, he, hnr⟩ := numR_nok hno;rw [bs_toL, show (((4096 : Nat) : Int)) = 4096 from rfl] at hnr;have hlt := Bk.lt h;have h0 : RV (w.alloc (.cells #[.int .i64 W] 60)) b s 0 := Bk.alloc h _;have hb0 := bel_new1 w (.cells #[.int .i64 W] 60);have HN := hide (vnum_any h0 (by omega) 4096);rw [hnr] at HN;have HL := hide (fun W2 (h : RV W2 b s e) => vleft_any h (by omega));have HT := hide (fun W2 (h : RV W2 b s e) => vtake_any h (by omega) (s.size : Int));rw [takeR_err he] at HT;have HE := hide (fun W2 (h : RV W2 b s e) => verr_any h);have HR := hide (fun W2 => Bio.newreader_none (bs []) W2 (by rw [bs_size]; simp) (by rw [bs_size]; simp) (by rfl));have hz : bs ([] : List UInt8) = ⟨#[]⟩ := rfl;rw [hz] at HT HR
 have hne : (((e : Nat) : Int) != 0) = true := by rw [bne_iff_ne]; omega
 have Hb0 := hide hb0;clear h0 hb0 hz hnr hno h he
 go_enter Tryz.func89, Tryz.ntmps89
 go_wp2_with fail
 refine (HN.out).mono ?_;rintro x w1 ⟨rfl, hv1, hf1⟩;have HL1 := hide (HL.out w1 hv1);have HT1 := hide (HT.out w1 hv1);have Hf1 := hide ((Fr.of_below (S := only b) Hb0.out).trans hf1);clear hv1 hf1 HN HL HT Hb0
 go_wp2_with fail
 refine (HL1.out).mono ?_;rintro x w2 ⟨rfl, rfl⟩;clear HL1
 go_wp2_with fail
 refine (HT1.out).mono ?_;rintro x w2 ⟨rfl, hv2, hf2⟩;have Hf2 := hide (Hf1.out.trans hf2);have Hv2 := hide hv2;clear HT1 Hf1 hv2 hf2
 go_wp2_with fail
 refine (HR.out _).mono ?_;rintro x w3 ⟨rfl, hb3⟩;have Hf3 := hide (Hf2.out.below hb3);have hv3 : RV w3 b s e := Bk.below Hv2.out hb3 (Bk.lt Hv2.out);have HE3 := hide (HE.out w3 hv3);have HE4 := hide (fun q => HE.out (w3.drewN q) hv3);clear hb3 Hf2 Hv2 HE hv3
 go_wp2
 go_quiet ((go_at_call 51; first | exact Wv.q1 (HE4.out _) | exact Wv.q2 (HE4.out _)))
 go_wp2
 go_returns
 exact ⟨Hf3.out.drewN _, _, rfl⟩
theorem readPl_none {w : World} {b n : Nat} {s : ByteArray} {r : List UInt8} (h : RV w b s 0) (hs : s.size ≤ 1000000000) (W : Int) (hyes : rnum (toL s) 4096 = some (n, r)) (hno : Bit.nrd (bs r) = none) :
  Calls Tryz.prog 89 #[.agg #[.int .i64 W], .pointer (some ⟨b, 0, none⟩)] w fun x w' => RdrR b w none x w' := by
 obtain ⟨hnr, hn4, hrl⟩ := rest_of hyes;rw [bs_toL] at hnr;rw [toL_length] at hrl;have hlt := Bk.lt h;have h0 : RV (w.alloc (.cells #[.int .i64 W] 60)) b s 0 := Bk.alloc h _;have hb0 := bel_new1 w (.cells #[.int .i64 W] 60)
 have hsz : (bs r).size ≤ 1000000000 := by rw [bs_size]; omega
 have HN := hide (vnum_any h0 (by omega) 4096);rw [hnr] at HN;have HL := hide (fun W2 (h : RV W2 b (bs r) 0) => vleft_any h (by omega));have HT := hide (fun W2 (h : RV W2 b (bs r) 0) => vtake_any h (by omega) ((bs r).size : Int));rw [take_all] at HT;have HE := hide (fun W2 (h : RV W2 b (bs []) 0) => verr_any h);have HR := hide (fun W2 => Bio.newreader_none (bs r) W2 (by omega) (by omega) hno);have Hb0 := hide hb0
 have h12 : ((12 : Int) != 0) = true := by decide
 generalize bs r = S at *
 clear h0 hb0 hnr hno h hyes
 go_enter Tryz.func89, Tryz.ntmps89
 go_wp2_with fail
 refine (HN.out).mono ?_;rintro x w1 ⟨rfl, hv1, hf1⟩;have HL1 := hide (HL.out w1 hv1);have HT1 := hide (HT.out w1 hv1);have Hf1 := hide ((Fr.of_below (S := only b) Hb0.out).trans hf1);clear hv1 hf1 HN HL HT Hb0
 go_wp2_with fail
 refine (HL1.out).mono ?_;rintro x w2 ⟨rfl, rfl⟩;clear HL1
 go_wp2_with fail
 refine (HT1.out).mono ?_;rintro x w2 ⟨rfl, hv2, hf2⟩;have Hf2 := hide (Hf1.out.trans hf2);have Hv2 := hide hv2;clear HT1 Hf1 hv2 hf2
 go_wp2_with fail
 refine (HR.out _).mono ?_;rintro x w3 ⟨rfl, hb3⟩;have Hf3 := hide (Hf2.out.below hb3);have hv3 : RV w3 b (bs []) 0 := Bk.below Hv2.out hb3 (Bk.lt Hv2.out);have HE4 := hide (fun q => HE.out (w3.drewN q) hv3);clear hb3 Hf2 Hv2 HE hv3
 go_wp2
 go_quiet ((go_at_call 51; first | exact Wv.q1 (HE4.out _) | exact Wv.q2 (HE4.out _)))
 go_wp2
 go_returns
 exact ⟨Hf3.out.drewN _, _, rfl⟩
theorem readPl_miss {w : World} {b n k m : Nat} {s : ByteArray} {r : List UInt8} (h : RV w b s 0) (hs : s.size ≤ 1000000000) (hm : m ≤ 128) (hyes : rnum (toL s) 4096 = some (n, r)) (hk : Bit.nrd (bs r) = some k) (hne : ¬ k = 2 * n * m) :
  Calls Tryz.prog 89 #[.agg #[.int .i64 (m : Int)], .pointer (some ⟨b, 0, none⟩)] w fun x w' => RdrR b w none x w' := by
 obtain ⟨hnr, hn4, hrl⟩ := rest_of hyes;rw [bs_toL] at hnr;rw [toL_length] at hrl;have hlt := Bk.lt h;have h0 : RV (w.alloc (.cells #[.int .i64 (m : Int)] 60)) b s 0 := Bk.alloc h _;have hb0 := bel_new1 w (.cells #[.int .i64 (m : Int)] 60);have hc0 := Bk.new w 60 #[.int .i64 (m : Int)]
 have hsz : (bs r).size ≤ 1000000000 := by rw [bs_size]; omega
 have hk6 := (Bit.nrd_le hk).1;have HN := hide (vnum_any h0 (by omega) 4096);rw [hnr] at HN;have HL := hide (fun W2 (h : RV W2 b (bs r) 0) => vleft_any h (by omega));have HT := hide (fun W2 (h : RV W2 b (bs r) 0) => vtake_any h (by omega) ((bs r).size : Int));rw [take_all] at HT;have HE := hide (fun W2 (h : RV W2 b (bs []) 0) => verr_any h);have HR := hide (fun W2 => Bio.newreader_some (bs r) W2 k hk);have Hb0 := hide hb0;have Hc0 := hide hc0;obtain ⟨T, hT⟩ : ∃ T, 2 * n * m = T := ⟨_, rfl⟩
 have hTb : T ≤ 1048576 := by
  rw [← hT];have := Nat.mul_le_mul (Nat.mul_le_mul (Nat.le_refl 2) hn4) hm;omega
 have i1 : IntKind.i64.wrap (2 * (n : Int)) = 2 * (n : Int) := IntWalk.i64_in _ (by omega)
 have i2 : IntKind.i64.wrap (2 * (n : Int) * (m : Int)) = (T : Int) := by
  have : 2 * (n : Int) * (m : Int) = (T : Int) := by rw [← hT, Int.natCast_mul, Int.natCast_mul]; rfl
  rw [this, IntWalk.i64_in _ (by omega)]
 rw [hT] at hne
 have hkT : ((k : Int) != (T : Int)) = true := by rw [bne_iff_ne]; omega
 have Hlt := hide hlt;have I1 := hide i1;have I2 := hide i2
 generalize bs r = S at *
 clear h0 hb0 hc0 hnr hk h hyes hT i1 i2 hlt
 go_enter Tryz.func89, Tryz.ntmps89
 go_wp2_with fail
 refine (HN.out).mono ?_;rintro x w1 ⟨rfl, hv1, hf1⟩;have HL1 := hide (HL.out w1 hv1);have HT1 := hide (HT.out w1 hv1);have Hf1 := hide ((Fr.of_below (S := only b) Hb0.out).trans hf1);have Hc1 := hide (Hc0.out.fr hf1 (by have := Hlt.out; unfold only; omega));clear hv1 hf1 HN HL HT Hb0 Hc0
 go_wp2_with fail
 refine (HL1.out).mono ?_;rintro x w2 ⟨rfl, rfl⟩;clear HL1
 go_wp2_with fail
 refine (HT1.out).mono ?_;rintro x w2 ⟨rfl, hv2, hf2⟩;have Hf2 := hide (Hf1.out.trans hf2);have Hc2 := hide (Hc1.out.fr hf2 (by have := Hlt.out; unfold only; omega));have Hv2 := hide hv2;clear HT1 Hf1 hv2 hf2 Hc1
 go_wp2_with fail
 refine (HR.out _).mono ?_;rintro x w3 ⟨rfl, hr3, hb3⟩;have Hf3 := hide (Hf2.out.below hb3);have hv3 : RV w3 b (bs []) 0 := Bk.below Hv2.out hb3 (Bk.lt Hv2.out);have hc3 : w3.cell? ⟨w.heap.size, 0, none⟩ = some (.int .i64 (m : Int)) := (Hc2.out.below hb3 Hc2.out.lt).cell 0;have HE4 := hide (fun q => HE.out (w3.drewN q) hv3)
 have HL4 := hide (fun q => (show Calls Tryz.prog 131 #[.pointer (some ⟨w2.heap.size, 0, none⟩)] (w3.drewN q) fun e w' => e = .returned (.int .i64 (k : Int)) ∧ ∃ p, w' = (w3.drewN q).drewN p by
  have := Bio.left_any (w := w3.drewN q) (show Bio.RdAt (w3.drewN q) w2.heap.size S 0 k from hr3)
  rwa [show ((k : Int) - ((0 : Nat) : Int)) = (k : Int) by omega] at this))
 generalize w2.heap.size = BB at *
 clear hb3 Hf2 Hv2 HE hv3 Hc2 hr3;have i1 := I1.out;have i2 := I2.out
 go_wp2
 go_quiet (first
  | (go_at_call 51; first | exact Wv.q1 (HE4.out _) | exact Wv.q2 (HE4.out _))
  | (go_at_call 131; first | exact Wv.q3 (HL4.out _) | exact Wv.q4 (HL4.out _)))
 clear i1 i2
 go_wp2
 go_returns
 exact ⟨Hf3.out.drewN _, _, rfl⟩
theorem readPl_good {w : World} {b n k m : Nat} {s : ByteArray} {r : List UInt8} (h : RV w b s 0) (hs : s.size ≤ 1000000000) (hm1 : 1 ≤ m) (hm : m ≤ 128) (hyes : rnum (toL s) 4096 = some (n, r)) (hk : Bit.nrd (bs r) = some k) (hne : k = 2 * n * m) :
  Calls Tryz.prog 89 #[.agg #[.int .i64 (m : Int)], .pointer (some ⟨b, 0, none⟩)] w fun x w' => RdrR b w (some (valsOf m n (Bit.rbits (bs r) k))) x w' := by
 obtain ⟨hnr, hn4, hrl⟩ := rest_of hyes;rw [bs_toL] at hnr;rw [toL_length] at hrl;have hlt := Bk.lt h;have h0 : RV (w.alloc (.cells #[.int .i64 (m : Int)] 60)) b s 0 := Bk.alloc h _;have hb0 := bel_new1 w (.cells #[.int .i64 (m : Int)] 60);have hc0 := Bk.new w 60 #[.int .i64 (m : Int)]
 have hsz : (bs r).size ≤ 1000000000 := by rw [bs_size]; omega
 have hk6 := (Bit.nrd_le hk).1;rw [valsOf_range]
 have hkm : k = n * (2 * m) := by rw [hne, Nat.mul_comm 2 n, Nat.mul_assoc]
 have Hkm := hide hkm;have HN := hide (vnum_any h0 (by omega) 4096);rw [hnr] at HN;have HL := hide (fun W2 (h : RV W2 b (bs r) 0) => vleft_any h (by omega));have HT := hide (fun W2 (h : RV W2 b (bs r) 0) => vtake_any h (by omega) ((bs r).size : Int));rw [take_all] at HT;have HE := hide (fun W2 (h : RV W2 b (bs []) 0) => verr_any h);have HR := hide (fun W2 => Bio.newreader_some (bs r) W2 k hk);have Hb0 := hide hb0;have Hc0 := hide hc0;obtain ⟨T, hT⟩ : ∃ T, 2 * n * m = T := ⟨_, rfl⟩
 have hTb : T ≤ 1048576 := by
  rw [← hT];have := Nat.mul_le_mul (Nat.mul_le_mul (Nat.le_refl 2) hn4) hm;omega
 have i1 : IntKind.i64.wrap (2 * (n : Int)) = 2 * (n : Int) := IntWalk.i64_in _ (by omega)
 have i2 : IntKind.i64.wrap (2 * (n : Int) * (m : Int)) = (T : Int) := by
  have : 2 * (n : Int) * (m : Int) = (T : Int) := by rw [← hT, Int.natCast_mul, Int.natCast_mul]; rfl
  rw [this, IntWalk.i64_in _ (by omega)]
 rw [hT] at hne
 have hkT : ((k : Int) != (T : Int)) = false := by rw [hne]; exact bne_self_eq_false _
 clear hne;have Hlt := hide hlt;have I1 := hide i1;have I2 := hide i2
 generalize bs r = S at *
 clear h0 hb0 hc0 hnr hk h hyes hT i1 i2 hlt hkm
 go_enter Tryz.func89, Tryz.ntmps89
 go_wp2_with fail
 refine (HN.out).mono ?_;rintro x w1 ⟨rfl, hv1, hf1⟩;have HL1 := hide (HL.out w1 hv1);have HT1 := hide (HT.out w1 hv1);have Hf1 := hide ((Fr.of_below (S := only b) Hb0.out).trans hf1);have Hc1 := hide (Hc0.out.fr hf1 (by have := Hlt.out; unfold only; omega));clear hv1 hf1 HN HL HT Hb0 Hc0
 go_wp2_with fail
 refine (HL1.out).mono ?_;rintro x w2 ⟨rfl, rfl⟩;clear HL1
 go_wp2_with fail
 refine (HT1.out).mono ?_;rintro x w2 ⟨rfl, hv2, hf2⟩;have Hf2 := hide (Hf1.out.trans hf2);have Hc2 := hide (Hc1.out.fr hf2 (by have := Hlt.out; unfold only; omega));have Hv2 := hide hv2;clear HT1 Hf1 hv2 hf2 Hc1
 go_wp2_with fail
 refine (HR.out _).mono ?_;rintro x w3 ⟨rfl, hr3, hb3⟩;have Hf3 := hide (Hf2.out.below hb3);have hv3 : RV w3 b (bs []) 0 := Bk.below Hv2.out hb3 (Bk.lt Hv2.out);have hc3 : w3.cell? ⟨w.heap.size, 0, none⟩ = some (.int .i64 (m : Int)) := (Hc2.out.below hb3 Hc2.out.lt).cell 0;have HE4 := hide (fun q => HE.out (w3.drewN q) hv3)
 have HL4 := hide (fun q => (show Calls Tryz.prog 131 #[.pointer (some ⟨w2.heap.size, 0, none⟩)] (w3.drewN q) fun e w' => e = .returned (.int .i64 (k : Int)) ∧ ∃ p, w' = (w3.drewN q).drewN p by
  have := Bio.left_any (w := w3.drewN q) (show Bio.RdAt (w3.drewN q) w2.heap.size S 0 k from hr3)
  rwa [show ((k : Int) - ((0 : Nat) : Int)) = (k : Int) by omega] at this))
 have hBB : w.heap.size < w2.heap.size := Nat.lt_of_lt_of_le Hc2.out.lt (Nat.le_refl _);have hBG : w2.heap.size < w3.heap.size := hr3.1.lt;have Hc3 := hide (Hc2.out.below hb3 Hc2.out.lt)
 generalize w2.heap.size = BB at *
 have Hr3 := hide hr3;clear hb3 Hf2 Hv2 HE hv3 Hc2 hr3;have i1 := I1.out;have i2 := I2.out
 go_wp2
 go_quiet (first
  | (go_at_call 51; first | exact Wv.q1 (HE4.out _) | exact Wv.q2 (HE4.out _))
  | (go_at_call 131; first | exact Wv.q3 (HL4.out _) | exact Wv.q4 (HL4.out _)))
 clear i1 i2 HE4 HL4 I1 I2;have Hf4 : Hid (Fr (only b) w (w3.drewN nq)) := hide (Hf3.out.drewN nq);have Hr4 : Hid (Bio.RdAt (w3.drewN nq) BB S 0 k) := hide Hr3.out;have Hc4 : Hid (Bk (w3.drewN nq) w.heap.size 60 #[.int .i64 (m : Int)]) := hide Hc3.out;have hBG2 : BB < (w3.drewN nq).heap.size := hBG;clear Hf3 Hr3 Hc3 hc3 hBG
 generalize w3.drewN nq = W4 at *
 have hmk := mk_row (P := Tryz.prog) 22 9 (.string ⟨#[]⟩) 16 Tryz.underlying22 strinf rfl (n : Int) n rfl (by omega) (by omega) W4;have Hk5 := hide (Bk.new W4 9 (Array.replicate n (.string ⟨#[]⟩)));have Hf5 := hide (Hf4.out.alloc (.cells (Array.replicate n (.string ⟨#[]⟩)) 9));have Hr5 := hide (Hr4.out.alloc (.cells (Array.replicate n (.string ⟨#[]⟩)) 9));have Hc5 := hide (Hc4.out.alloc (.cells (Array.replicate n (.string ⟨#[]⟩)) 9))
 have hr0 : Array.replicate n (.string ⟨#[]⟩ : Value) = (svs (gF (fun j => bs (valOf m ((Bit.rbits S k).drop (2 * m * j)))) ⟨#[]⟩ n 0)).toArray := by
  rw [gF_0];unfold svs;rw [List.map_replicate];rfl
 have Hr0 := hide hr0;obtain ⟨G, hG⟩ : ∃ G, W4.heap.size = G := ⟨_, rfl⟩;rw [hG] at hmk Hk5 hBG2
 generalize W4.alloc (.cells (Array.replicate n (.string ⟨#[]⟩)) 9) = W5 at *
 rw [Hr0.out] at Hk5;have HBG := hide hBG2;have HBB := hide hBB;obtain ⟨L, hL⟩ : ∃ L, Bit.rbits S k = L := ⟨_, rfl⟩;have HL0 := hide hL;rw [hL] at Hk5;clear Hf4 Hr4 Hc4 hr0 Hr0 hG hBG2 hBB hL
 go_wp2
 go_loopw [46] (fun s46 wr => ∃ j x : Nat, j ≤ n ∧ s46 = .int .i64 (j : Int) ∧ Hid (Bio.RdAt wr BB S x k) ∧ Hid (L.drop x = L.drop (2 * m * j)) ∧ Hid (Bk wr G 9 (svs (gF (fun j => bs (valOf m (L.drop (2 * m * j)))) ⟨#[]⟩ n j)).toArray) ∧ Hid (Bk wr w.heap.size 60 #[.int .i64 (m : Int)]) ∧ Hid (Fr (only b) w wr)) (fun s46 _ => (n - intOf s46).toNat)
 case atStart => exact ⟨0, 0, Nat.zero_le _, rfl, Hr5, hide (by rw [Nat.mul_zero]), Hk5, Hc5, Hf5⟩
 case round =>
  clear Hr5 Hk5 Hc5 Hf5 hmk;obtain ⟨j, x, hj, rfl, hrd, hdx, hk, hco, hf⟩ := hrel
  by_cases hlt : j < n
  ·have hmb := mk_row (P := Tryz.prog) 42 5 (.int .u8 0) 1 Tryz.underlying42 (by kernel_rfl) rfl (m : Int) m rfl (by omega) (by omega) wr
   have hfld : wr.cell? ⟨w.heap.size, 0, none⟩ = some (.int .i64 (m : Int)) := hco.out.cell 0
   have hq0 : Array.replicate m (.int .u8 0 : Value) = ((gF (chAt (L.drop (2 * m * j))) 0 m 0).map bv).toArray := by
    rw [gF_0, List.map_replicate];rfl
   have hkb := Bk.new wr 5 (Array.replicate m (.int .u8 0));have Hrd6 := hide (hrd.out.alloc (.cells (Array.replicate m (.int .u8 0)) 5));have Hk6 := hide (hk.out.alloc (.cells (Array.replicate m (.int .u8 0)) 5));have Hco6 := hide (hco.out.alloc (.cells (Array.replicate m (.int .u8 0)) 5));have Hf6 := hide (hf.out.alloc (.cells (Array.replicate m (.int .u8 0)) 5));have hGH := hk.out.lt;have hwH := hf.out.size;obtain ⟨H, hH⟩ : ∃ H, wr.heap.size = H := ⟨_, rfl⟩;have Hkb := hide hkb;have Hq0 := hide hq0;have HwH := hide (show w.heap.size ≤ H by rw [← hH]; exact hwH);have HGH := hide (show G < H by rw [← hH]; exact hGH);rw [hH] at hmb Hkb
   generalize wr.alloc (.cells (Array.replicate m (.int .u8 0)) 5) = W6 at *
   rw [Hq0.out] at Hkb;clear hkb hq0 Hq0 hGH hwH hH hrd hk hco hf
   go_wp2
   go_loopw [54] (fun s54 wx => ∃ i x : Nat, i ≤ m ∧ s54 = .int .i64 (i : Int) ∧ Hid (Bio.RdAt wx BB S x k) ∧ Hid (L.drop x = L.drop (2 * m * j + 2 * i)) ∧ Hid (Bk wx H 5 ((gF (chAt (L.drop (2 * m * j))) 0 m i).map bv).toArray) ∧ Hid (Bk wx G 9 (svs (gF (fun j => bs (valOf m (L.drop (2 * m * j)))) ⟨#[]⟩ n j)).toArray) ∧ Hid (Bk wx w.heap.size 60 #[.int .i64 (m : Int)]) ∧ Hid (Fr (only b) w wx)) (fun s54 _ => (m - intOf s54).toNat)
   case atStart => exact ⟨0, x, Nat.zero_le _, rfl, Hrd6, hide (by exact hdx.out), Hkb, Hk6, Hco6, Hf6⟩
   case round =>
    clear Hrd6 Hkb Hk6 Hco6 Hf6 hmb hfld hdx;obtain ⟨i, x, hi, rfl, hrd, hdx, hkb, hk, hco, hf⟩ := hrel
    by_cases hlt2 : i < m
    ·have hak : 2 * m * j + 2 * i + 2 ≤ k := by
      rw [Hkm.out];have h1 : (j + 1) * (2 * m) ≤ n * (2 * m) := Nat.mul_le_mul_right _ hlt;rw [Nat.add_mul, Nat.one_mul, Nat.mul_comm j] at h1;omega
     have HG := hide (bget_any hrd.out (by rw [HL0.out]; exact hdx.out) hak);rw [HL0.out] at HG;have hcv := two_lt (L.getD (2 * m * j + 2 * i) false) (L.getD (2 * m * j + 2 * i + 1) false)
     have hch : chAt (L.drop (2 * m * j)) i = ch (2 * (L.getD (2 * m * j + 2 * i) false).toNat + (L.getD (2 * m * j + 2 * i + 1) false).toNat) := by
      unfold chAt;rw [getD_drop, getD_drop];rfl
     obtain ⟨cv, hcve⟩ : ∃ cv, 2 * (L.getD (2 * m * j + 2 * i) false).toNat + (L.getD (2 * m * j + 2 * i + 1) false).toNat = cv := ⟨_, rfl⟩;rw [hcve] at HG hcv hch;have HC := hide (fun W2 => char_any cv hcv W2);have Hset := hide (gF_set (chAt (L.drop (2 * m * j))) 0 m i hlt2);rw [hch] at Hset;have hlen := gF_len (chAt (L.drop (2 * m * j))) 0 m i hi;have Hlen := hide (show i < (gF (chAt (L.drop (2 * m * j))) 0 m i).length by rw [hlen]; exact hlt2);obtain ⟨cc, hcc⟩ : ∃ cc, ch cv = cc := ⟨_, rfl⟩;rw [hcc] at HC Hset
     have hi0 : (0 : Int) ≤ (i : Int) := by omega
     have hlt3 : (i : Int) < (m : Int) := by omega
     clear hak hcv hch hcve hlen hcc hrd hdx
     go_wp2_with fail
     refine (HG.out).mono ?_;rintro e w1 ⟨y, rfl, hrd1, hf1, hdy⟩;have n1 := HBG.out;have n2 := HBB.out;have n3 := HGH.out;have n4 := HwH.out;have Hkb1 := hide (hkb.out.fr hf1 (by unfold only; omega));have Hk1 := hide (hk.out.fr hf1 (by unfold only; omega));have Hco1 := hide (hco.out.fr hf1 (by unfold only; omega));have Hf1 := hide (hf.out.trans' hf1 (fun q hq e => by unfold only at e; omega));have Hrd1 := hide hrd1;have Hdy := hide hdy;clear hrd1 hf1 hdy HG hkb hk hco hf n1 n2 n3 n4
     go_wp2_with fail
     refine (HC.out _).mono ?_;rintro e w2 ⟨rfl, rfl⟩;have hcell := Hkb1.out.cell i;rw [List.getElem?_toArray, List.getElem?_map, List.getElem?_eq_getElem Hlen.out] at hcell;have hfroz := Hkb1.out.frozen i;have hput := bk_setb Hkb1.out i cc;rw [Hset.out] at hput;have n1 := HBG.out;have n2 := HBB.out;have n3 := HGH.out;have n4 := HwH.out;have Hput := hide hput;have Hk2 := hide (Hk1.out.off (p := ⟨H, i, none⟩) (by simp only; omega) (.int .u8 (cc.toNat : Int)));have Hco2 := hide (Hco1.out.off (p := ⟨H, i, none⟩) (by simp only; omega) (.int .u8 (cc.toNat : Int)));have Hrd2 := hide (Bio.RdAt.off Hrd1.out (p := ⟨H, i, none⟩) (by simp only; omega) (.int .u8 (cc.toNat : Int)));have Hf2 := hide (Hf1.out.setCell (p := ⟨H, i, none⟩) (.inr n4) (.int .u8 (cc.toNat : Int)));have Hdy2 := hide (show L.drop y = L.drop (2 * m * j + 2 * (i + 1)) by rw [Hdy.out]; rfl)
     generalize (gF (chAt (L.drop (2 * m * j))) 0 m i)[i] = OLD at *
     clear hput Hkb1 Hk1 Hco1 Hf1 Hrd1 Hdy HC Hset Hlen n1 n2 n3 n4
     go_wp2
     go_roundw
     case rel => first | exact ⟨i + 1, y, hlt2, by go_num, Hrd2, Hdy2, Hput, Hk2, Hco2, Hf2⟩ | ((repeat apply Exists.intro); exact ⟨⟨i + 1, y, hlt2, by go_num, Hrd2, Hdy2, Hput, Hk2, Hco2, Hf2⟩, rfl⟩)
     case measure => simp [intOf] <;> omega
    ·have him : i = m := by omega
     subst him;have hkb2 := hkb.out;rw [gF_end, ← valOf_range] at hkb2
     have hlv : (valOf i (L.drop (2 * i * j))).length = i := by rw [valOf_range, List.length_map, List.length_range]
     have hcb := run_convert_bytes_back (P := Tryz.prog) wr 42 9 5 ⟨H, 0, none⟩ i (valOf i (L.drop (2 * i * j))) Tryz.underlying42 Tryz.underlying5 Tryz.underlying9 (fun q hq => by
      rw [Go.WideShapes.add_plain, Nat.zero_add, hkb2.cell q, List.getElem?_toArray, List.getElem?_map, List.getElem?_eq_getElem hq]
      rfl)
     rw [hlv] at hcb;have hbsv : (⟨(valOf i (L.drop (2 * i * j))).toArray⟩ : ByteArray) = bs (valOf i (L.drop (2 * i * j))) := rfl;rw [hbsv] at hcb;have Hset := hide (gF_set (fun j => bs (valOf i (L.drop (2 * i * j)))) ⟨#[]⟩ n j hlt);have hlen := gF_len (fun j => bs (valOf i (L.drop (2 * i * j)))) ⟨#[]⟩ n j hj;have Hlen := hide (show j < (gF (fun j => bs (valOf i (L.drop (2 * i * j)))) ⟨#[]⟩ n j).length by rw [hlen]; exact hlt);have hcell := hk.out.cell j;rw [List.getElem?_toArray, svs_get _ _ Hlen.out] at hcell;have hfroz := hk.out.frozen j;have n1 := HBG.out;have n2 := HBB.out;have hput := bk_sets hk.out j (bs (valOf i (L.drop (2 * i * j))));rw [Hset.out] at hput;have Hput := hide hput;obtain ⟨ST, hST⟩ : ∃ s, bs (valOf i (L.drop (2 * i * j))) = s := ⟨_, rfl⟩;rw [hST] at hcb Hput;have Hco2 := hide (hco.out.off (p := ⟨G, j, none⟩) (by simp only; omega) (.string ST));have Hrd2 := hide (Bio.RdAt.off hrd.out (p := ⟨G, j, none⟩) (by simp only; omega) (.string ST));have Hf2 := hide (hf.out.setCell (p := ⟨G, j, none⟩) (.inr (by simp only; omega)) (.string ST));have Hdy2 := hide (show L.drop x = L.drop (2 * i * (j + 1)) by rw [hdx.out, Nat.mul_add, Nat.mul_one])
     have hj0 : (0 : Int) ≤ (j : Int) := by omega
     have hlt3 : (j : Int) < (n : Int) := by omega
     generalize (gF (fun j => bs (valOf i (L.drop (2 * i * j)))) ⟨#[]⟩ n j)[j] = OLD at *
     clear hkb2 hlv hbsv hkb hk hput hST hlen Hset Hlen hco hrd hf hdx n1 n2
     go_wp2
     refine ⟨⟨j + 1, x, hlt, by go_num, Hrd2, Hdy2, Hput, Hco2, Hf2⟩, ?_⟩
     simp [intOf] <;> omega
  ·have hjn : j = n := by omega
   have hk1 := hk.out;rw [hjn, gF_end] at hk1;have Hk1 := hide hk1;have n1 := HBG.out;have n2 := HBB.out;have Hl := hide (show ((List.range n).map (fun j => bs (valOf m (L.drop (2 * m * j))))).length = n by rw [List.length_map, List.length_range]);clear hk1 hk
   go_wp2
   go_returns
   rw [HL0.out];refine ⟨hf.out, G, ?_, by omega, Hk1.out⟩;rw [Hl.out];rfl
def FinR (b : Nat) (w : World) (o : Option (List ByteArray)) (x : Ending) (w' : World) : Prop := Fr (only b) w w' ∧ match o with
 | none => ∃ A n c, x = .returned (.tuple #[.slice A n c, .bool false])
 | some r => ∃ A c, x = .returned (.tuple #[.slice A r.length c, .bool true]) ∧ At w' A (svs r)
theorem rdr_fin {b : Nat} {w w' : World} {o : Option (List ByteArray)} {x : Ending} (h : RdrR b w o x w') : FinR b w o x w' := by
 obtain ⟨h1, h2⟩ := h;refine ⟨h1, ?_⟩
 cases o with
 | none =>
  obtain ⟨A, h⟩ := h2;exact ⟨A, 0, 0, h⟩
 | some r =>
  obtain ⟨g, h, _, hk⟩ := h2;refine ⟨_, _, h, ?_⟩;have := hk.at_;rw [List.toList_toArray] at this;exact this
theorem readPl_any {w : World} {b m : Nat} {s : ByteArray} (h : RV w b s 0) (hs : s.size ≤ 1000000000) (hm1 : 1 ≤ m) (hm : m ≤ 128) :
    Calls Tryz.prog 89 #[.agg #[.int .i64 (m : Int)], .pointer (some ⟨b, 0, none⟩)] w fun x w' => FinR b w (readPl (m : Int) (toL s)) x w' := by
  unfold readPl
  cases hr : rnum (toL s) 4096 with
  | none => exact (readPl_bad h hs _ hr).mono fun x w' h => rdr_fin h
  | some p =>
    obtain ⟨n, r⟩ := p;simp only
    cases hk : Bit.nrd (bs r) with
    | none => exact (readPl_none h hs _ hr hk).mono fun x w' h => rdr_fin h
    | some k =>
      simp only
      by_cases hne : k = 2 * n * m
      · rw [if_pos (by rw [hne, Int.natCast_mul, Int.natCast_mul]; rfl), Int.toNat_natCast]
        exact (readPl_good h hs hm1 hm hr hk hne).mono fun x w' h => rdr_fin h
      · rw [if_neg (fun h => hne (by have h2 : ((k : Nat) : Int) = ((2 * n * m : Nat) : Int) := by rw [h, Int.natCast_mul, Int.natCast_mul]; rfl
                                     exact Int.ofNat.inj h2))]
        exact (readPl_miss h hs hm hr hk hne).mono fun x w' h => rdr_fin h
def writersE : Array MapEntry := #[⟨.int .i64 0, .func (.func 61) #[] #[], 0⟩, ⟨.int .i64 1, .func (.func 62) #[] #[], 1⟩, ⟨.int .i64 2, .func (.func 63) #[] #[], 2⟩, ⟨.int .i64 3, .func (.func 64) #[] #[], 3⟩]
theorem writers_any (w : World) : Calls Tryz.prog 34 #[] w fun x w' => x = .returned (.map (some w.heap.size)) ∧ w.alloc (.map writersE 4) = w' := by
 have hmm := @run_makeMap Tryz.prog;have p0 := map_put_new (P := Tryz.prog) Tryz.underlying57 Tryz.underlying3 w #[] 0 0 (.func (.func 61) #[] #[]) rfl;have p1 := map_put_new (P := Tryz.prog) Tryz.underlying57 Tryz.underlying3 w #[⟨.int .i64 0, .func (.func 61) #[] #[], 0⟩] 1 1 (.func (.func 62) #[] #[]) rfl;have p2 := map_put_new (P := Tryz.prog) Tryz.underlying57 Tryz.underlying3 w #[⟨.int .i64 0, .func (.func 61) #[] #[], 0⟩, ⟨.int .i64 1, .func (.func 62) #[] #[], 1⟩] 2 2 (.func (.func 63) #[] #[]) rfl;have p3 := map_put_new (P := Tryz.prog) Tryz.underlying57 Tryz.underlying3 w #[⟨.int .i64 0, .func (.func 61) #[] #[], 0⟩, ⟨.int .i64 1, .func (.func 62) #[] #[], 1⟩, ⟨.int .i64 2, .func (.func 63) #[] #[], 2⟩] 3 3 (.func (.func 64) #[] #[]) rfl
 go_enter Tryz.func34, Tryz.ntmps34
 go_wp2
 go_returns
 exact ⟨rfl, rfl⟩
theorem writers_at (w : World) (k : Nat) (hk : k ≤ 3) (w2 : World) (h2 : Below (w.heap.size + 1) (w.alloc (.map writersE 4)) w2) : (Instr.lookup 57 (.map (some w.heap.size)) (.int .i64 (k : Int)) false).run Tryz.prog w2 = .ok (if k = 0 then (.func (.func 61) #[] #[]) else if k = 1 then (.func (.func 62) #[] #[]) else if k = 2 then (.func (.func 63) #[] #[]) else (.func (.func 64) #[] #[])) w2 := by
 have hm : MpV (.int .i64) (w.alloc (.map writersE 4)) w.heap.size (fun k => lk writersE.toList k) := ⟨writersE, 4, heap_alloc_new w _, (fun x hx => by
  simp only [writersE, List.mem_cons, List.not_mem_nil, or_false] at hx
  rcases hx with rfl | rfl | rfl | rfl <;> rfl), fun _ _ => rfl⟩
 have hm2 := hm.below h2 (Nat.lt_succ_self _)
 rcases (show k = 0 ∨ k = 1 ∨ k = 2 ∨ k = 3 by omega) with rfl | rfl | rfl | rfl
 ·exact (MpV.get Tryz.underlying57 Tryz.underlying3 hm2 (.int .i64 ((0 : Nat) : Int)) _ rfl (lk_eq rfl)).1
 ·exact (MpV.get Tryz.underlying57 Tryz.underlying3 hm2 (.int .i64 ((1 : Nat) : Int)) _ rfl ((lk_ne (by simp)).trans (lk_eq rfl))).1
 ·exact (MpV.get Tryz.underlying57 Tryz.underlying3 hm2 (.int .i64 ((2 : Nat) : Int)) _ rfl ((lk_ne (by simp)).trans ((lk_ne (by simp)).trans (lk_eq rfl)))).1
 ·exact (MpV.get Tryz.underlying57 Tryz.underlying3 hm2 (.int .i64 ((3 : Nat) : Int)) _ rfl ((lk_ne (by simp)).trans ((lk_ne (by simp)).trans ((lk_ne (by simp)).trans (lk_eq rfl))))).1
def readersE : Array MapEntry := #[⟨.int .i64 0, .func (.func 89) #[] #[], 0⟩, ⟨.int .i64 1, .func (.func 90) #[] #[], 1⟩, ⟨.int .i64 2, .func (.func 91) #[] #[], 2⟩, ⟨.int .i64 3, .func (.func 92) #[] #[], 3⟩]
theorem readers_any (w : World) : Calls Tryz.prog 52 #[] w fun x w' => x = .returned (.map (some w.heap.size)) ∧ w.alloc (.map readersE 4) = w' := by
 have hmm := @run_makeMap Tryz.prog;have p0 := map_put_new (P := Tryz.prog) Tryz.underlying74 Tryz.underlying3 w #[] 0 0 (.func (.func 89) #[] #[]) rfl;have p1 := map_put_new (P := Tryz.prog) Tryz.underlying74 Tryz.underlying3 w #[⟨.int .i64 0, .func (.func 89) #[] #[], 0⟩] 1 1 (.func (.func 90) #[] #[]) rfl;have p2 := map_put_new (P := Tryz.prog) Tryz.underlying74 Tryz.underlying3 w #[⟨.int .i64 0, .func (.func 89) #[] #[], 0⟩, ⟨.int .i64 1, .func (.func 90) #[] #[], 1⟩] 2 2 (.func (.func 91) #[] #[]) rfl;have p3 := map_put_new (P := Tryz.prog) Tryz.underlying74 Tryz.underlying3 w #[⟨.int .i64 0, .func (.func 89) #[] #[], 0⟩, ⟨.int .i64 1, .func (.func 90) #[] #[], 1⟩, ⟨.int .i64 2, .func (.func 91) #[] #[], 2⟩] 3 3 (.func (.func 92) #[] #[]) rfl
 go_enter Tryz.func52, Tryz.ntmps52
 go_wp2
 go_returns
 exact ⟨rfl, rfl⟩
theorem readers_at (w : World) (k : Nat) (hk : k ≤ 3) (w2 : World) (h2 : Below (w.heap.size + 1) (w.alloc (.map readersE 4)) w2) : (Instr.lookup 74 (.map (some w.heap.size)) (.int .i64 (k : Int)) false).run Tryz.prog w2 = .ok (if k = 0 then (.func (.func 89) #[] #[]) else if k = 1 then (.func (.func 90) #[] #[]) else if k = 2 then (.func (.func 91) #[] #[]) else (.func (.func 92) #[] #[])) w2 := by
 have hm : MpV (.int .i64) (w.alloc (.map readersE 4)) w.heap.size (fun k => lk readersE.toList k) := ⟨readersE, 4, heap_alloc_new w _, (fun x hx => by
  simp only [readersE, List.mem_cons, List.not_mem_nil, or_false] at hx
  rcases hx with rfl | rfl | rfl | rfl <;> rfl), fun _ _ => rfl⟩
 have hm2 := hm.below h2 (Nat.lt_succ_self _)
 rcases (show k = 0 ∨ k = 1 ∨ k = 2 ∨ k = 3 by omega) with rfl | rfl | rfl | rfl
 ·exact (MpV.get Tryz.underlying74 Tryz.underlying3 hm2 (.int .i64 ((0 : Nat) : Int)) _ rfl (lk_eq rfl)).1
 ·exact (MpV.get Tryz.underlying74 Tryz.underlying3 hm2 (.int .i64 ((1 : Nat) : Int)) _ rfl ((lk_ne (by simp)).trans (lk_eq rfl))).1
 ·exact (MpV.get Tryz.underlying74 Tryz.underlying3 hm2 (.int .i64 ((2 : Nat) : Int)) _ rfl ((lk_ne (by simp)).trans ((lk_ne (by simp)).trans (lk_eq rfl)))).1
 ·exact (MpV.get Tryz.underlying74 Tryz.underlying3 hm2 (.int .i64 ((3 : Nat) : Int)) _ rfl ((lk_ne (by simp)).trans ((lk_ne (by simp)).trans ((lk_ne (by simp)).trans (lk_eq rfl))))).1
open Wv.Tm
theorem takeR_size (s : ByteArray) (e : Nat) (n : Int) : (takeR s e n).2.1.size ≤ s.size := by
 unfold takeR
 split
 ·split
  ·exact Nat.le_refl _
  ·split
   ·exact Nat.le_refl _
   ·rw [bs_size, List.length_drop, toL_length]; omega
 ·exact Nat.le_refl _
theorem textR_size (s : ByteArray) (e : Nat) (most : Int) : (textR s e most).2.1.size ≤ s.size := by
 unfold textR
 split
 ·exact Nat.le_trans (takeR_size _ _ _) numR_size
 ·exact Nat.le_refl _
theorem ct_texts (r : List UInt8) : ∃ t1 S1 e1 t2 S2 e2 t3 S3 e3 t4 S4 e4, textR (bs r) 0 128 = (t1, S1, e1) ∧ textR S1 e1 128 = (t2, S2, e2) ∧ textR S2 e2 (S2.size : Int) = (t3, S3, e3) ∧ takeR S3 e3 (S3.size : Int) = (t4, S4, e4) ∧
    S1.size ≤ r.length ∧ S2.size ≤ r.length ∧ S3.size ≤ r.length ∧
    ((e4 ≠ 0 ∧ ∀ f s2 st s3 a s4, rtext r 128 = some (f, s2) → rtext s2 128 = some (st, s3) → rtext s3 s3.length ≠ some (a, s4)) ∨
     (e4 = 0 ∧ ∃ f s2 st s3 a s4, rtext r 128 = some (f, s2) ∧ rtext s2 128 = some (st, s3) ∧ rtext s3 s3.length = some (a, s4) ∧ t1 = bs f ∧ t2 = bs st ∧ t3 = bs a ∧ t4 = bs s4 ∧ f.length ≤ 128 ∧ st.length ≤ 128 ∧ a.length ≤ r.length ∧ s4.length ≤ r.length)) := by
  obtain ⟨⟨t1, S1, e1⟩, h1⟩ : ∃ q, textR (bs r) 0 128 = q := ⟨_, rfl⟩;obtain ⟨⟨t2, S2, e2⟩, h2⟩ : ∃ q, textR S1 e1 128 = q := ⟨_, rfl⟩;obtain ⟨⟨t3, S3, e3⟩, h3⟩ : ∃ q, textR S2 e2 (S2.size : Int) = q := ⟨_, rfl⟩;obtain ⟨⟨t4, S4, e4⟩, h4⟩ : ∃ q, takeR S3 e3 (S3.size : Int) = q := ⟨_, rfl⟩;have z1 := textR_size (bs r) 0 128;have z2 := textR_size S1 e1 128;have z3 := textR_size S2 e2 (S2.size : Int);rw [h1, bs_size] at z1;rw [h2] at z2;rw [h3] at z3;simp only at z1 z2 z3;refine ⟨t1, S1, e1, t2, S2, e2, t3, S3, e3, t4, S4, e4, h1, h2, h3, h4, z1, by omega, by omega, ?_⟩
  have far : ∀ {s : ByteArray} {e : Nat} {n : Int} {t S : ByteArray} {f : Nat}, e ≠ 0 → takeR s e n = (t, S, f) → f ≠ 0 := fun he h => by
    unfold takeR at h;rw [if_neg he] at h
    injection h with _ h
    injection h with _ h
    rw [← h]; exact he
  obtain ⟨q1, Q1, f1, g1, c1⟩ := textR_cases r 128;rw [show ((128 : Nat) : Int) = 128 from rfl, h1] at g1
  injection g1 with a1 a2
  injection a2 with a2 a3
  subst a1; subst a2; subst a3
  rcases c1 with ⟨rfl, f, s2, r1, rfl, rfl, l1, l2, l3⟩ | ⟨he1, r1⟩
  · obtain ⟨q2, Q2, f2, g2, c2⟩ := textR_cases s2 128
    rw [show ((128 : Nat) : Int) = 128 from rfl, h2] at g2
    injection g2 with a1 a2
    injection a2 with a2 a3
    subst a1; subst a2; subst a3
    rcases c2 with ⟨rfl, st, s3, r2, rfl, rfl, l4, l5, l6⟩ | ⟨he2, r2⟩
    · obtain ⟨q3, Q3, f3, g3, c3⟩ := textR_cases s3 s3.length
      rw [bs_size] at h3;rw [h3] at g3
      injection g3 with a1 a2
      injection a2 with a2 a3
      subst a1; subst a2; subst a3
      rcases c3 with ⟨rfl, a, s4, r3, rfl, rfl, l7, l8, l9⟩ | ⟨he3, r3⟩
      · rw [take_all] at h4
        injection h4 with b1 b2
        injection b2 with b2 b3
        subst b1; subst b3
        exact .inr ⟨rfl, f, s2, st, s3, a, s4, r1, r2, r3, rfl, rfl, rfl, rfl, l3, l6, by omega, by omega⟩
      · refine .inl ⟨far he3 h4, fun f' s2' st' s3' a' s4' k1 k2 k3 => ?_⟩
        rw [r1] at k1
        injection k1 with k1
        injection k1 with _ k1
        subst k1;rw [r2] at k2
        injection k2 with k2
        injection k2 with _ k2
        subst k2;rw [r3] at k3
        cases k3
    · rw [textR_err he2] at h3
      injection h3 with _ b2
      injection b2 with _ b3
      refine .inl ⟨far (by rw [← b3]; exact he2) h4, fun f' s2' st' s3' a' s4' k1 k2 k3 => ?_⟩;rw [r1] at k1
      injection k1 with k1
      injection k1 with _ k1
      subst k1;rw [r2] at k2
      cases k2
  · rw [textR_err he1] at h2
    injection h2 with _ b2
    injection b2 with _ b3
    have he2 : e2 ≠ 0 := by rw [← b3]; exact he1
    rw [textR_err he2] at h3
    injection h3 with _ b2
    injection b2 with _ b3
    refine .inl ⟨far (by rw [← b3]; exact he2) h4, fun f' s2' st' s3' a' s4' k1 k2 k3 => ?_⟩;rw [r1] at k1
    cases k1
def ctFin (w : Int) (n : Nat) (f st : List UInt8) (G : List Int × Nat) (D : List ByteArray × Nat) : Option (List ByteArray) :=
  if G.2 ≠ 0 ∨ D.2 ≠ 0 then none else match extL w D.1 with
    | none => none
    | some vs => if (ext w f).2 ≠ 0 then none else if G.1.length ≠ vs.length then none else
        if st ≠ [] ∧ (ext w st).2 ≠ 0 then none else
        if (∀ g ∈ G.1, g < (n : Int)) then (runB (atS (-1) G.1) vs (bs (if st = [] then [] else (ext w st).1)) (n - 1) 1 (bs (ext w f).1)).map (bs (ext w f).1 :: ·) else none
theorem readCt_fin {w : Int} {s r f s2 st s3 a s4 : List UInt8} {n : Nat} (h0 : rnum s 4096 = some (n, r)) (hn : n ≠ 0) (h1 : rtext r 128 = some (f, s2)) (h2 : rtext s2 128 = some (st, s3)) (h3 : rtext s3 s3.length = some (a, s4)) :
  readCt w s = ctFin w n f st (decn a 4096) (dec s4 4096) := by
 unfold readCt ctFin;rw [h0];simp only;rw [if_neg hn, h1];simp only;rw [h2];simp only;rw [h3];simp only
 split
 ·rfl
 ·have he : extL w [bs f] = if (ext w f).2 = 0 then some [bs (ext w f).1] else none := by
   show (if (ext w (toL (bs f))).2 = 0 then (extL w []).map (bs (ext w (toL (bs f))).1 :: ·) else none) = _
   rw [toL_bs];rfl
  rw [he]
  cases extL w (dec s4 4096).1 with
  | none => rfl
  | some vs =>
   by_cases h5 : (ext w f).2 = 0
   ·rw [if_pos h5]
    simp only;rw [if_neg (show ¬ (ext w f).2 ≠ 0 from fun h => h h5)];rfl
   ·rw [if_neg h5]
    simp only;rw [if_pos (show (ext w f).2 ≠ 0 from h5)]
theorem readCt_bad {w : Int} {s r : List UInt8} {n : Nat} (h0 : rnum s 4096 = some (n, r)) (hn : n ≠ 0) (hb : ∀ f s2 st s3 a s4, rtext r 128 = some (f, s2) → rtext s2 128 = some (st, s3) → rtext s3 s3.length ≠ some (a, s4)) : readCt w s = none := by
 unfold readCt;rw [h0];simp only;rw [if_neg hn]
 cases h1 : rtext r 128 with
 | none => rfl
 | some p =>
  obtain ⟨f, s2⟩ := p;simp only
  cases h2 : rtext s2 128 with
  | none => rfl
  | some p =>
   obtain ⟨st, s3⟩ := p;simp only
   cases h3 : rtext s3 s3.length with
   | none => rfl
   | some p =>
    obtain ⟨a, s4⟩ := p;exact absurd h3 (hb _ _ _ _ _ _ h1 h2)
theorem readCt_zero {w : Int} {s : List UInt8} (S : ByteArray) (e : Nat) (h : numR (bs s) 0 4096 = (0, S, e)) : readCt w s = if endR S e = 0 then some [] else none := by
 unfold readCt
 cases h0 : rnum s 4096 with
 | none =>
  obtain ⟨e', he, hn⟩ := numR_nok h0;rw [show ((4096 : Nat) : Int) = 4096 from rfl, h] at hn
  injection hn with _ hn
  injection hn with hn1 hn2
  subst hn2;simp only;rw [if_neg];unfold endR;rw [if_neg (fun h => he h.1)];exact he
 | some p =>
  obtain ⟨n, r⟩ := p;obtain ⟨hn, _, _⟩ := numR_some h0;rw [show ((4096 : Nat) : Int) = 4096 from rfl, h] at hn
  injection hn with hn0 hn
  injection hn with hn1 hn2
  subst hn0; subst hn1; subst hn2
  simp only [if_true];unfold endR;rw [bs_size]
  cases r <;> simp
theorem look_snoc (a : Int) (v : ByteArray) (k : Int) : ∀ (x : List Int) (vs : List ByteArray), x.length = vs.length → a ∉ x → look (x ++ [a]) (vs ++ [v]) k = if k = a then some v else look x vs k
 | [], [], _, _ => by
  show (if a = k then some v else none) = _
  by_cases h : k = a
  ·rw [if_pos h, if_pos h.symm]
  ·rw [if_neg h, if_neg (fun e => h e.symm)]; rfl
 | i :: x, u :: vs, hl, hn => by
  show (if i = k then some u else look (x ++ [a]) (vs ++ [v]) k) = _
  rw [look_snoc a v k x vs (by simpa using hl) (fun h => hn (List.mem_cons_of_mem _ h))]
  have hia : i ≠ a := fun e => hn (by rw [e]; exact List.mem_cons_self)
  show _ = if k = a then some v else (if i = k then some u else look x vs k)
  by_cases h1 : i = k
  ·rw [if_pos h1, if_neg (by omega), if_pos h1]
  ·rw [if_neg h1, if_neg h1]
 | [], _ :: _, hl, _ => by simp at hl
 | _ :: _, [], hl, _ => by simp at hl
theorem atS_snoc (g : Int) : ∀ (l : List Int) (last : Int), atS last (l ++ [g]) = atS last l ++ [(atS last l).getLastD last + 1 + g]
 | [], last => rfl
 | a :: r, last => by
  show (last + 1 + a) :: atS (last + 1 + a) (r ++ [g]) = _
  rw [atS_snoc g r (last + 1 + a)]
  show _ = (last + 1 + a) :: (atS (last + 1 + a) r ++ [((last + 1 + a) :: atS (last + 1 + a) r).getLastD last + 1 + g])
  congr 4
  cases atS (last + 1 + a) r with
  | nil => rfl
  | cons b q => rfl
theorem atS_length (l : List Int) : ∀ last, (atS last l).length = l.length := by
 induction l with
 | nil => intro _; rfl
 | cons a r ih => intro last; show (atS _ r).length + 1 = _; rw [ih]; rfl
theorem atS_bnd {n : Int} (hn : 0 ≤ n) : ∀ (l : List Int) (last : Int), (∀ g ∈ l, 0 ≤ g ∧ g < n) → (∀ t ∈ atS last l, last < t ∧ t ≤ (atS last l).getLastD last) ∧ last ≤ (atS last l).getLastD last ∧ (atS last l).getLastD last ≤ last + n * l.length
 | [], last, _ => ⟨fun t h => (by cases h), Int.le_refl _, by simp [atS]⟩
 | g :: r, last, h => by
  obtain ⟨g0, g1⟩ := h g List.mem_cons_self;obtain ⟨i1, i2, i3⟩ := atS_bnd hn r (last + 1 + g) (fun x hx => h x (List.mem_cons_of_mem _ hx))
  have hl : (atS last (g :: r)).getLastD last = (atS (last + 1 + g) r).getLastD (last + 1 + g) := by
   show ((last + 1 + g) :: atS (last + 1 + g) r).getLastD last = _
   cases atS (last + 1 + g) r <;> rfl
  rw [hl];refine ⟨fun t ht => ?_, by omega, ?_⟩
  ·rcases List.mem_cons.1 ht with rfl | ht
   ·exact ⟨by omega, i2⟩
   ·have := i1 t ht; omega
  ·rw [List.length_cons, Int.natCast_add, Int.mul_add]
   simp only [Int.natCast_one, Int.mul_one];omega
end Go.Proofs.YtoeeblldgoccoaaGreat
namespace Wv
open Go Go.RowKit
theorem app_frB {P : Program} (t e : TypeId) (z : Value) (bytes : Nat) (ht : P.underlying t = some (.slice e)) (hinfo : (P.info? e).map (fun i => (i.zero, i.size, i.bytes)) = some (some z, 1, bytes)) (hz1 : z.cells.size = 1) {w wb : World} {B : Nat} {v : Value} {n : Nat} {xs : List Value} (h : w.ownsRow B e 1 v n xs) (hf : Below B wb w) (hB : B ≤ w.heap.size) (x : Value) (hx : x.oneCell' = true) (h63 : n + 1 ≤ maxLen) (hbytes : (n + 1) * bytes ≤ 140737488355328) :
  ∃ v' w', (Builtin.append_ #[t, t] t #[v, .slice (some ⟨w.heap.size, 0, none⟩) 1 1]).run P (w.alloc (.cells #[x] e)) = .ok v' w' ∧ w'.ownsRow B e 1 v' (n + 1) (xs ++ [x]) ∧ Below B wb w' ∧ (v'.ownBlock = v.ownBlock ∨ v'.ownBlock = some (w.heap.size + 1)) ∧ Fr (fun k => v.ownBlock = some k) (w.alloc (.cells #[x] e)) w' ∧
   (∀ A vs, At w A vs → (∀ b o, A = some ⟨b, o, none⟩ → v.ownBlock ≠ some b) → At w' A vs) := by
 obtain ⟨v1, w1, r1, a1, a2, a3, a4, a5⟩ := app_own2 t e z bytes ht hinfo hz1 h hf hB x hx h63 hbytes;obtain ⟨i, hi, hz, hs, hby⟩ := info_parts hinfo;obtain ⟨v', w', hr, h2, h3, _, h5⟩ := run_append_own_at (P := P) (w.alloc (.cells #[x] e)) B t t e i z 1 bytes ht hi hz hs hby hz1 (by omega) v n xs (h.alloc _) ⟨w.heap.size, 0, none⟩ 1 1 [x] rfl (news_one _ _ _) (by simpa using hx) h63 hbytes (Nat.le_trans hB (by simp));have e := r1.symm.trans hr
 injection e with e1 e2
 subst e1; subst e2
 exact ⟨v1, w1, r1, a1, a2, a3, (Fr.refl _ _).grown h3 (fun k hk => .inl hk), a5⟩
theorem fr_bel {S : Nat → Prop} {w a c : World} (h : Fr S w a) (hb : Below w.heap.size a c) : Fr S w c :=
 ⟨hb.os.trans h.os, hb.tape.trans h.tape, hb.output.trans h.output, Nat.le_trans h.size hb.size, fun k hk hn => (hb.block k hk).trans (h.block k hk hn)⟩
end Wv
namespace Go.Proofs.YtoeeblldgoccoaaGreat
open Go.RowKit Go.Proofs Wv Wv.Vi Wv.Rc Wv.Mo Wv.Ru Wv.Tm Wv.Bc
theorem zeroStr (w : World) : (zeroValue 9).run Tryz.prog w = .ok (.string ⟨#[]⟩) w := by kernel_rfl
def lkM (x : List Int) (vs : List ByteArray) : Value → Option Value
 | .int .i64 k => (look x vs k).map Value.string
 | _ => none
abbrev MI (w : World) (b : Nat) (x : List Int) (vs : List ByteArray) : Prop := MpV (.int .i64) w b (lkM x vs)
theorem mi_nil (w : World) : MI (w.alloc (.map #[] 0)) w.heap.size [] [] := by
 obtain ⟨es, c, h1, h2, h3⟩ := MpV.new (.int .i64) w;refine ⟨es, c, h1, h2, fun k hk => (h3 k hk).trans ?_⟩;unfold lkM
 split <;> rfl
theorem mi_some {w : World} {b : Nat} {x : List Int} {vs : List ByteArray} (h : MI w b x vs) (k : Int) {v : ByteArray} (hv : look x vs k = some v) : (Instr.lookup 157 (.map (some b)) (.int .i64 k) true).run Tryz.prog w = .ok (.tuple #[.string v, .bool true]) w :=
 (MpV.get Tryz.underlying157 Tryz.underlying3 h (.int .i64 k) _ rfl (by show (look x vs k).map Value.string = _; rw [hv]; rfl)).2
theorem mi_none {w : World} {b : Nat} {x : List Int} {vs : List ByteArray} (h : MI w b x vs) (k : Int) (hv : look x vs k = none) : (Instr.lookup 157 (.map (some b)) (.int .i64 k) true).run Tryz.prog w = .ok (.tuple #[.string ⟨#[]⟩, .bool false]) w :=
 (MpV.miss Tryz.underlying157 Tryz.underlying3 h (.int .i64 k) (.string ⟨#[]⟩) rfl (by show (look x vs k).map Value.string = _; rw [hv]; rfl) (zeroStr w)).2
theorem mi_put {w : World} {b : Nat} {x : List Int} {vs : List ByteArray} (h : MI w b x vs) (a : Int) (v : ByteArray) (hl : x.length = vs.length) (ha : a ∉ x) : ∃ w', (Instr.mapUpdate 157 (.map (some b)) (.int .i64 a) (.string v)).run Tryz.prog w = .ok () w' ∧ MI w' b (x ++ [a]) (vs ++ [v]) ∧ Fr (fun j => j = b) w w' ∧ w'.heap.size = w.heap.size := by
 obtain ⟨w', h1, h2, h3, h4⟩ := MpV.put Tryz.underlying157 Tryz.underlying3 h (.int .i64 a) (.string v) rfl;refine ⟨w', h1, h2 _ ?_ (fun y hy => ?_), h3, h4⟩
 ·show (look (x ++ [a]) (vs ++ [v]) a).map Value.string = _
  rw [look_snoc a v a x vs hl ha, if_pos rfl];rfl
 ·unfold lkM
  split
  ·rename_i k
   rw [look_snoc a v k x vs hl ha, if_neg (fun e => hy (by rw [e]))]
  ·rfl
theorem mi_keep {w w' : World} {b B n : Nat} {x : List Int} {vs : List ByteArray} {v : Value} {xs : List Value} (h : MI w b x vs) (hf : Fr (fun k => v.ownBlock = some k) w w') (ho : w.ownsRow B 9 1 v n xs) : MI w' b x vs :=
 h.fr hf (fun e => by
  obtain ⟨es, c, h1, _⟩ := h
  rcases ho.2 with ⟨rfl, _⟩ | ⟨g, cap, cur, rfl, _, hg, _⟩
  ·cases e
  ·injection e with e
   have e : g = b := e;subst e;rw [h1] at hg
   cases hg)
theorem look_mem {k : Int} {v : ByteArray} : ∀ (x : List Int) (vs : List ByteArray), look x vs k = some v → v ∈ vs
 | i :: x, u :: vs, h => by
  have h2 : (if i = k then some u else look x vs k) = some v := h
  by_cases hi : i = k
  ·rw [if_pos hi] at h2
   injection h2 with h2
   rw [h2]; exact List.mem_cons_self
  ·rw [if_neg hi] at h2
   exact List.mem_cons_of_mem _ (look_mem x vs h2)
 | [], [], h => by cases h
 | [], _ :: _, h => by cases h
 | _ :: _, [], h => by cases h
theorem lg_open {w w' : World} {o : Option (List ByteArray)} {x : Ending} (h : LgR w o x w') : ∃ A k ok, x = .returned (.tuple #[.slice A k k, .bool ok]) ∧ Below w.heap.size w w' ∧ ((ok = false ∧ o = none) ∨ (ok = true ∧ ∃ r g, o = some r ∧ k = r.length ∧ A = some ⟨g, 0, none⟩ ∧ w.heap.size ≤ g ∧ Bk w' g 9 (svs r).toArray)) := by
 obtain ⟨h1, h2⟩ := h
 cases o with
 | none => obtain ⟨A, h⟩ := h2; exact ⟨A, 0, false, h, h1, .inl ⟨rfl, rfl⟩⟩
 | some r => obtain ⟨g, h, hg, hk⟩ := h2; exact ⟨_, _, true, h, h1, .inr ⟨rfl, r, g, rfl, rfl, rfl, hg, hk⟩⟩
theorem fin_none {b : Nat} {w w' : World} {A : Option Addr} {n c : Nat} {o : Option (List ByteArray)} (hf : Fr (only b) w w') (ho : o = none) : FinR b w o (.returned (.tuple #[.slice A n c, .bool false])) w' := by
 subst ho;exact ⟨hf, _, _, _, rfl⟩
theorem readCt_0 {w : World} {b : Nat} {s : ByteArray} (h : RV w b s 0) (hs : s.size ≤ 1000000000) (W : Int) {S : ByteArray} {e : Nat} (hN : numR s 0 4096 = (0, S, e)) :
  Calls Tryz.prog 90 #[.agg #[.int .i64 W], .pointer (some ⟨b, 0, none⟩)] w fun x w' => FinR b w (if endR S e = 0 then some [] else none) x w' := by
 have hb0 := bel_new1 w (.cells #[.int .i64 W] 60);have h0 : RV (w.alloc (.cells #[.int .i64 W] 60)) b s 0 := Bk.alloc h _;have HN := hide (vnum_any h0 (by omega) 4096);rw [hN] at HN;have HE := hide (fun W2 (h : RV W2 b S e) => vend_any h);have Hb0 := hide hb0
 generalize endR S e = E at *
 clear h0 hb0 hN h
 by_cases h0 : E = 0
 ·rw [if_pos h0]
  subst h0
  go_enter Tryz.func90, Tryz.ntmps90
  go_wp2_with fail
  refine (HN.out).mono ?_;rintro x w1 ⟨rfl, hv1, hf1⟩;have HE1 := hide (HE.out w1 hv1);have Hf1 := hide ((Fr.of_below (S := only b) Hb0.out).trans hf1);clear hv1 hf1 HN HE Hb0
  go_wp2_with fail
  refine (HE1.out).mono ?_;rintro x w2 ⟨rfl, hf2⟩;have Hf2 := hide (Hf1.out.trans hf2);clear hf2 Hf1 HE1
  go_wp2
  go_returns
  exact ⟨Hf2.out, none, 0, rfl, At.nil _ _⟩
 ·rw [if_neg h0]
  have hne : ((E : Int) == 0) = false := by rw [beq_eq_false_iff_ne]; omega
  go_enter Tryz.func90, Tryz.ntmps90
  go_wp2_with fail
  refine (HN.out).mono ?_;rintro x w1 ⟨rfl, hv1, hf1⟩;have HE1 := hide (HE.out w1 hv1);have Hf1 := hide ((Fr.of_below (S := only b) Hb0.out).trans hf1);clear hv1 hf1 HN HE Hb0
  go_wp2_with fail
  refine (HE1.out).mono ?_;rintro x w2 ⟨rfl, hf2⟩;have Hf2 := hide (Hf1.out.trans hf2);clear hf2 Hf1 HE1
  go_wp2
  go_returns
  exact ⟨Hf2.out, _, _, _, rfl⟩
def CtP (b : Nat) (w : World) (W : Int) (S : ByteArray) (e : Nat) (w1 : World) : Prop := Fr (only b) w w1 ∧ Bk w1 w.heap.size 60 #[.int .i64 W] ∧ RV w1 b S e
theorem CtP.next {b : Nat} {w w1 w2 : World} {W : Int} {S S' : ByteArray} {e e' : Nat} (h : CtP b w W S e w1) (hlt : b < w.heap.size) (hv : RV w2 b S' e') (hf : Fr (only b) w1 w2) : CtP b w W S' e' w2 :=
 ⟨h.1.trans hf, h.2.1.fr hf (by unfold only; omega), hv⟩
def CtQ (b : Nat) (w : World) (W : Int) (w1 : World) : Prop := Fr (only b) w w1 ∧ Bk w1 w.heap.size 60 #[.int .i64 W]
theorem CtQ.next {b : Nat} {w w1 w2 : World} {W : Int} (h : CtQ b w W w1) (hb : Below w1.heap.size w1 w2) : CtQ b w W w2 := ⟨h.1.below hb, h.2.below hb h.2.lt⟩
theorem own_of_bk {w : World} {B g : Nat} {e : TypeId} {l : List ByteArray} (h : Bk w g e (svs l).toArray) (hB : B ≤ g) (hl : l.length ≤ maxLen) : w.ownsRow B e 1 (.slice (some ⟨g, 0, none⟩) l.length l.length) l.length (svs l) :=
 ⟨by rw [svs_len, Nat.mul_one], .inr ⟨g, l.length, (svs l).toArray, rfl, hB, h, Nat.le_refl _, hl, by simp [svs_len], by
  simp only [Nat.mul_one];rw [← svs_len l]
  simp⟩⟩
theorem ivs_atC (l : List Int) (i : Nat) (h : i < l.length) : (ivs l)[i]? = some (.int .i64 l[i]) := by simp [ivs, iv, h]
theorem ext_len {w : Int} {u : List UInt8} (h : (ext w u).2 = 0) : (ext w u).1.length ≤ 128 := by
 have := ext_vld (w := w) (s := u) (v := (ext w u).1) (Prod.ext rfl h);exact (isV_iff.1 (vld_iff.1 this).1).2.2
def CtM (b : Nat) (w : World) (A1 : Option Addr) (G : List Int) (gv : Nat) (vs : List ByteArray) (gf : Nat) (F : ByteArray) (w1 : World) : Prop := Fr (only b) w w1 ∧ At w1 A1 (ivs G) ∧ Bk w1 gv 9 (svs vs).toArray ∧ Bk w1 gf 9 (svs [F]).toArray ∧ w.heap.size ≤ gf
theorem CtM.next {b : Nat} {w w1 w2 : World} {A1 : Option Addr} {G : List Int} {gv gf : Nat} {vs : List ByteArray} {F : ByteArray} (h : CtM b w A1 G gv vs gf F w1) (hb : Below w1.heap.size w1 w2) : CtM b w A1 G gv vs gf F w2 :=
 ⟨h.1.below hb, h.2.1.below hb, h.2.2.1.below hb h.2.2.1.lt, h.2.2.2.1.below hb h.2.2.2.1.lt, h.2.2.2.2⟩
end Go.Proofs.YtoeeblldgoccoaaGreat
