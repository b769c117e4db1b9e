/-
  The laws of lists of values: the choice of the shortest coding.
-/
import Derived.Test.YtoeeblldgoccoaaGreatJ46
set_option linter.unusedVariables false
set_option linter.unusedSimpArgs false
namespace Go.Proofs.YtoeeblldgoccoaaGreat
open Go.RowKit Go.Proofs Wv Wv.Vi Wv.Rc Wv.Mo Wv.Ru Wv.Tm Wv.Bc
set_option linter.unusedVariables false
def cbT (W : Int) (l : List ByteArray) (i : Nat) : List UInt8 := num i ++ (codB i W l).getD []
theorem cbT_first {c : Nat} (hc : c ≤ 3) (W : Int) (l : List ByteArray) : ∃ t, cbT W l c = UInt8.ofNat c :: t := by
 unfold cbT
 rcases (show c = 0 ∨ c = 1 ∨ c = 2 ∨ c = 3 by omega) with rfl | rfl | rfl | rfl
 ·exact ⟨_, by rw [show num 0 = [0] from by decide]; rfl⟩
 ·exact ⟨_, by rw [show num 1 = [1] from by decide]; rfl⟩
 ·exact ⟨_, by rw [show num 2 = [2] from by decide]; rfl⟩
 ·exact ⟨_, by rw [show num 3 = [3] from by decide]; rfl⟩
theorem cbT_ne {c : Nat} (hc : c ≤ 3) (W : Int) (l : List ByteArray) : cbT W l c ≠ [] := by
 obtain ⟨t, h⟩ := cbT_first hc W l
 rw [h]
 simp
theorem cbT_inj {a b : Nat} (ha : a ≤ 3) (hb : b ≤ 3) {W : Int} {l : List ByteArray} (h : cbT W l a = cbT W l b) : a = b := by
 obtain ⟨t, h1⟩ := cbT_first ha W l
 obtain ⟨u, h2⟩ := cbT_first hb W l
 rw [h1, h2] at h
 injection h with h _
 have := congrArg UInt8.toNat h
 simp at this
 omega
theorem codB_some {W : Int} {l : List ByteArray} (h : validB W l = true) (hl : l.length ≤ 60) {c : Nat} (hc : c ≤ 3) : codB c W l = some ((codB c W l).getD []) := by
 obtain ⟨h1, h2, h3, h4⟩ := validB_iff.1 h
 rcases (show c = 0 ∨ c = 1 ∨ c = 2 ∨ c = 3 by omega) with rfl | rfl | rfl | rfl
 ·have hb := bitsL_len h1
  have hle : (bitsL l).length ≤ 65536 := by
   have h60 : (l.length : Int) * W ≤ 60 * 128 := Int.mul_le_mul (by omega) h3 (by omega) (by omega)
   omega
  show codP l = some ((codP l).getD [])
  unfold codP
  rw [if_neg (by omega)]
  rfl
 ·rfl
 ·rfl
 ·rfl
theorem bs_emptyB (L : List UInt8) : (bs L).toList.isEmpty = decide (L = []) := by
 have h : (bs L).toList.isEmpty = ((bs L).toList == (bs []).toList) := by
  have : (bs ([] : List UInt8)).toList = [] := by decide +kernel
  rw [this]
  cases (bs L).toList <;> rfl
 rw [h, Bool.eq_iff_iff, beq_iff_eq, decide_eq_true_iff, ByteArray.toList_eq, ByteArray.toList_eq]
 exact Iff.rfl
theorem bstB_step {W : Int} {l : List ByteArray} (h : validB W l = true) (hl : l.length ≤ 60) {i : Nat} (hi : i ≤ 3) : bstB W l (i + 1) = if bstB W l i = [] ∨ (cbT W l i).length < (bstB W l i).length then cbT W l i else bstB W l i := by
 have e : bstB W l (i + 1) = match codB i W l with
  | none => bstB W l i
  | some s => if bstB W l i = [] ∨ (num i ++ s).length < (bstB W l i).length then num i ++ s else bstB W l i := rfl
 rw [e, codB_some h hl hi]
 rfl
set_option maxRecDepth 100000 in
set_option maxHeartbeats 4000000 in
theorem lbchoice_any {w : World} (W : Int) (_ : I64 W) {A : Option Addr} {l : List ByteArray} (ha : At w A (svs l)) (hsz : ∀ s ∈ l, s.size ≤ 9223372036854775807) (n cap : Nat) (hn : n = l.length) (hm : n ≤ 9223372036854775807) :
    Calls Tryz.prog 7 #[.int .i64 W, .slice A n cap] w fun x w' => BTrue w x w' := by
  have Haw := hide (bawake_any w)
  have Ha := hide ha
  have Hs := hide (fun W (h : At W A (svs l)) => lbshort_any h hsz n cap hn hm 60)
  have hcs : shortB l 60 200 = true ∨ shortB l 60 200 = false := by cases shortB l 60 200 <;> simp
  rcases hcs with hc | hc
  case inr =>
    rw [hc] at Hs
    clear hsz hn ha hc
    go_enter Tryz.func7, Tryz.ntmps7
    go_wp2_with fail
    refine (Haw.out).mono ?_
    rintro x w1 ⟨rfl, hb1⟩
    have Hs1 := hide (Hs.out w1 (Ha.out.below hb1))
    go_wp2_with fail
    refine (Hs1.out).mono ?_
    rintro x w2 ⟨rfl, rfl⟩
    go_wp2
    go_returns
    exact ⟨rfl, hb1⟩
  case inl =>
  obtain ⟨hl60, hlz⟩ := lbshort_of (m := 60) hc
  rw [hc] at Hs
  have Hnv := hide (fun W2 (h : At W2 A (svs l)) => a14valid_any h hlz n cap hn hm W)
  cases hv : validB W l with
  | false =>
    rw [hv] at Hnv
    clear hsz hn ha hc hv hl60 hlz
    go_enter Tryz.func7, Tryz.ntmps7
    go_wp2_with fail
    refine (Haw.out).mono ?_
    rintro x w1 ⟨rfl, hb1⟩
    have Hs1 := hide (Hs.out w1 (Ha.out.below hb1))
    go_wp2_with fail
    refine (Hs1.out).mono ?_
    rintro x w2 ⟨rfl, rfl⟩
    have Hn1 := hide (Hnv.out _ (Ha.out.below hb1))
    go_wp2_with fail
    refine (Hn1.out).mono ?_
    rintro x w2 ⟨rfl, rfl⟩
    go_wp2
    go_returns
    exact ⟨rfl, hb1⟩
  | true =>
    rw [hv] at Hnv
    obtain ⟨c0, s0, hc0, hs0, hec⟩ := encB_cases hv
    have hec2 : encB' W l = (cbT W l c0, 0) := by rw [hec]; unfold cbT; rw [hs0]; rfl
    have hb4 : bstB W l 4 = cbT W l c0 := by
      have : encB' W l = (bstB W l 4, 0) := by unfold encB'; rw [if_neg (by rw [hv]; simp)]
      rw [this] at hec2
      exact (Prod.mk.inj hec2).1
    have Hb4 : Hid (bs (bstB W l 4) = bs (cbT W l c0)) := hide (by rw [hb4])
    have He := hide (fun W2 (h : At W2 A (svs l)) => bencode_any h hlz n cap hn hm W)
    rw [hec2] at He
    unfold ERes at He
    simp only at He
    have Has : Hid (∀ (i : Nat), i ≤ 3 → ∀ W2, At W2 A (svs l) → Calls Tryz.prog 17 #[.int .i64 (i : Int), .int .i64 W, .slice A n cap] W2 fun x w' => x = .returned (.tuple #[.string (bs (cbT W l i)), .int .i64 0]) ∧ Below W2.heap.size W2 w') := hide (fun i hi W2 h => by
      have := bencas_any h hlz n cap hn hm (i : Int) W
      have he : encAsB (i : Int) W l = (cbT W l i, 0) := by
        unfold encAsB
        rw [if_neg (by omega), if_neg (by rw [hv]; simp), Int.toNat_natCast, codB_some hv hl60 hi]
        rfl
      rw [he] at this
      exact this)
    have hlen : ∀ i, i ≤ 3 → (bs (cbT W l i)).size ≤ 1000000000 := fun i hi => by
      have := codB_len (c := i) hv
      have h9 := kof9 i
      rw [bs_size]
      unfold cbT
      rw [List.length_append]
      omega
    have Hdc : Hid (∀ (i : Nat), i ≤ 3 → i = c0 → ∀ W2, Calls Tryz.prog 22 #[.int .i64 W, .string (bs (cbT W l i)), .int .i64 60] W2 fun x w' => ∃ B cap, x = .returned (.tuple #[.slice B n cap, .int .i64 0]) ∧ At w' B (svs l) ∧ Below W2.heap.size W2 w') := hide (fun i hi hic W2 => by
      have := bdecode_any (w := W2) W (bs (cbT W l i)) (hlen i hi) 60
      rw [toL_bs] at this
      unfold cbT at this ⊢
      rw [decB_cod hv hi (codB_some hv hl60 hi) 60, if_neg (fun h => h (by rw [hec2, hic]; rfl)), if_neg (by omega)] at this
      refine this.mono fun x w' hx => ?_
      obtain ⟨B, c, h1, h2, h3⟩ := tres_sv hx
      exact ⟨B, c, by rw [h1, hn]; rfl, h2, h3⟩)
    have Hdn : Hid (∀ (i : Nat), i ≤ 3 → i ≠ c0 → ∀ W2, Calls Tryz.prog 22 #[.int .i64 W, .string (bs (cbT W l i)), .int .i64 60] W2 fun x w' => ∃ B cap, x = .returned (.tuple #[.slice B 0 cap, .int .i64 12]) ∧ Below W2.heap.size W2 w') := hide (fun i hi hic W2 => by
      have := bdecode_any (w := W2) W (bs (cbT W l i)) (hlen i hi) 60
      rw [toL_bs] at this
      have hne : (encB' W l).1 ≠ num i ++ (codB i W l).getD [] := fun h => hic (cbT_inj (W := W) (l := l) hi hc0 (by rw [hec2] at h; exact h.symm))
      unfold cbT at this ⊢
      rw [decB_cod hv hi (codB_some hv hl60 hi) 60, if_pos hne] at this
      refine this.mono fun x w' hx => ?_
      obtain ⟨B, c, h1, h2, h3⟩ := tres_sv hx
      exact ⟨B, c, h1, h3⟩)
    have Hin := hide (fun W2 B c1 (h1 : At W2 B (svs l)) (h2 : At W2 A (svs l)) => sv_texts h1 h2 n c1 n cap hn hn (by omega))
    have hbst0 : bs (bstB W l 0) = ⟨#[]⟩ := rfl
    have Hb0 := hide hbst0
    have hbs : ∀ i, i ≤ 3 → bstB W l (i + 1) = if bstB W l i = [] ∨ (cbT W l i).length < (bstB W l i).length then cbT W l i else bstB W l i := fun i hi => bstB_step hv hl60 hi
    have Hbs := hide hbs
    have Hne : Hid (∀ i, i ≤ 3 → (bs (cbT W l i)).toList.isEmpty = false) := hide (fun i hi => by rw [bs_emptyB, decide_eq_false_iff_not]; exact cbT_ne hi W l)
    have Hfi : Hid (∀ i, i ≤ 3 → ∃ t, cbT W l i = UInt8.ofNat i :: t) := hide (fun i hi => cbT_first hi W l)
    have Heq : Hid (∀ i, i ≤ 3 → ((bs (cbT W l i)).toList == (bs (cbT W l c0)).toList) = decide (i = c0)) := hide (fun i hi => by
      rw [str_eq, Bool.eq_iff_iff, decide_eq_true_iff, decide_eq_true_iff, bs_inj]
      exact ⟨fun h => cbT_inj hi hc0 h, fun h => by rw [h]⟩)
    generalize bstB W l = BT at *
    generalize cbT W l = CT at *
    clear ha hn hv hec hec2 hb4 hbst0 hbs hs0 hlen hsz hc hl60 hlz
    obtain ⟨SX, hSX⟩ : ∃ S, bs (CT c0) = S := ⟨_, rfl⟩
    rw [hSX] at He Hb4 Heq
    clear hSX
    go_enter Tryz.func7, Tryz.ntmps7
    go_wp2_with fail
    refine (Haw.out).mono ?_
    rintro x w1 ⟨rfl, hb1⟩
    have Hs1 := hide (Hs.out w1 (Ha.out.below hb1))
    have Hbn1 := hide hb1
    clear hb1 Haw Hs
    go_wp2_with fail
    refine (Hs1.out).mono ?_
    rintro x w2 ⟨rfl, rfl⟩
    have Hn1 := hide (Hnv.out _ (Ha.out.below Hbn1.out))
    clear Hs1 Hnv
    go_wp2_with fail
    refine (Hn1.out).mono ?_
    rintro x w2 ⟨rfl, rfl⟩
    have He2 := hide (He.out _ (Ha.out.below Hbn1.out))
    clear Hn1 He
    go_wp2_with fail
    refine (He2.out).mono ?_
    rintro x w3 ⟨rfl, hb3⟩
    have Hbn3 := hide (bel_step Hbn1.out hb3)
    clear Hbn1 hb3 He2
    go_wp2
    go_loopw [7, 30] (fun s7 s30 wr => ∃ i : Nat, i ≤ 4 ∧ s7 = .string (bs (BT i)) ∧ s30 = .int .i64 (i : Int) ∧ Hid (Below w.heap.size w wr)) (fun _ s30 _ => (4 - intOf s30).toNat)
    case atStart => exact ⟨0, by omega, by rw [Hb0.out], rfl, Hbn3⟩
    case round =>
      clear Hbn3 Hb0
      obtain ⟨i, hi, rfl, rfl, hb⟩ := hrel
      by_cases hlt : i < 4
      · have hlti : (i : Int) < 4 := by omega
        have H1 := hide (Has.out i (by omega) _ (Ha.out.below hb.out))
        have hbs := Hbs.out i (by omega)
        have hne := Hne.out i (by omega)
        have hfi := Hfi.out i (by omega)
        have hbe := bs_emptyB (BT i)
        have z0 := bs_size (CT i)
        have z1 := bs_size (BT i)
        have heq := Heq.out i (by omega)
        obtain ⟨NB, hNB⟩ : ∃ N, bs (BT (i + 1)) = N := ⟨_, rfl⟩
        have hways : ((bs (BT i)).toList.isEmpty = true ∧ bs (CT i) = NB) ∨ ((bs (BT i)).toList.isEmpty = false ∧ ((bs (CT i)).size : Int) < ((bs (BT i)).size : Int) ∧ bs (CT i) = NB) ∨ ((bs (BT i)).toList.isEmpty = false ∧ ¬ ((bs (CT i)).size : Int) < ((bs (BT i)).size : Int) ∧ bs (BT i) = NB) := by
          by_cases h1 : BT i = []
          · rw [if_pos (.inl h1)] at hbs
            exact .inl ⟨by rw [hbe, decide_eq_true h1], by rw [← hNB, hbs]⟩
          · have h2 : (bs (BT i)).toList.isEmpty = false := by rw [hbe, decide_eq_false h1]
            by_cases h3 : (CT i).length < (BT i).length
            · rw [if_pos (.inr h3)] at hbs
              exact .inr (.inl ⟨h2, by rw [z0, z1]; omega, by rw [← hNB, hbs]⟩)
            · rw [if_neg (by rintro (h | h); exact h1 h; exact h3 h)] at hbs
              exact .inr (.inr ⟨h2, by rw [z0, z1]; omega, by rw [← hNB, hbs]⟩)
        have Hways := hide hways
        have HNB := hide hNB
        have Hdci := hide (Hdc.out i (by omega))
        have Hdni := hide (Hdn.out i (by omega))
        obtain ⟨tt, htt⟩ := hfi
        have hTs : 0 < (bs (CT i)).size := by rw [bs_size, htt]; simp
        have hTi : (0 : Int) < ((bs (CT i)).size : Int) := by omega
        have hget : ∀ h : 0 < (bs (CT i)).size, ((bs (CT i))[0]'h).toNat = i := fun h => by
          have h2 : (CT i)[0]'(by rw [htt]; simp) = (bs (CT i))[0]'h := by simp [bs]; rfl
          rw [← h2]
          simp only [htt]
          simp
          omega
        clear htt
        clear hways hNB hbs hbe z0 z1 Has Hdc Hdn Hbs Hne Hfi Heq Hb4
        generalize bs (BT i) = BB at *
        generalize hT : bs (CT i) = T at *
        go_wp2_with fail
        refine (H1.out).mono ?_
        rintro x w4 ⟨rfl, hb4⟩
        have Hb4 := hide (bel_step hb.out hb4)
        clear hb4 H1 hb
        go_upto_region 11 with fail
        go_cut [52] (fun s52 wx => s52 = .bool false ∧ wx = w4)
        case first =>
          clear Hways HNB Hdci Hdni Hin
          go_wp2
          go_meet
          case rel => exact ⟨rfl, rfl⟩
        case rest =>
          obtain ⟨rfl, rfl⟩ := hcut
          clear hTs hTi hget hne
          go_upto_region 13 with fail
          go_cut [61] (fun s61 wx => ∃ tk : Bool, s61 = .bool tk ∧ Hid (NB = if tk = true then T else BB) ∧ wx = wc)
          case first =>
            clear HNB Hdci Hdni Hin
            rcases Hways.out with ⟨h1, h2⟩ | ⟨h1, h2, h3⟩ | ⟨h1, h2, h3⟩
            · have H2 : Hid (NB = if true = true then T else BB) := hide h2.symm
              clear h2 Hways
              go_wp2
              go_meet
              case rel => exact ⟨true, rfl, H2, rfl⟩
            · have H3 : Hid (NB = if true = true then T else BB) := hide h3.symm
              have hd1 : decide ((T.size : Int) < (BB.size : Int)) = true := decide_eq_true h2
              clear h3 Hways
              go_wp2
              go_meet
              case rel => exact ⟨true, by first | (simp; done) | (simp; omega), H3, rfl⟩
            · have H3 : Hid (NB = if false = true then T else BB) := hide h3.symm
              have hd1 : decide ((T.size : Int) < (BB.size : Int)) = false := decide_eq_false (by omega)
              clear h3 Hways
              go_wp2
              go_meet
              case rel => exact ⟨false, by first | (simp; done) | (simp; omega), H3, rfl⟩
          case rest =>
           obtain ⟨tk, rfl, HTK, rfl⟩ := hcut
           clear Hways
           go_upto_if 61 with fail
           go_cut [7] (fun s7 wx => s7 = .string NB ∧ wx = wc)
           case first =>
            clear HNB Hdci Hdni Hin
            cases tk with
            | true =>
              go_wp2
              go_meet
              case rel => exact ⟨by rw [HTK.out]; rfl, rfl⟩
            | false =>
              go_wp2
              go_meet
              case rel => exact ⟨by rw [HTK.out]; rfl, rfl⟩
           case rest =>
            obtain ⟨rfl, rfl⟩ := hcut
            by_cases hic : i = c0
            · have H3 := hide (Hdci.out hic wc)
              have heq2 : (T.toList == SX.toList) = true := by rw [heq, decide_eq_true hic]
              clear heq hic Hdci Hdni
              go_wp2_with fail
              refine (H3.out).mono ?_
              rintro x w5 ⟨B5, c5, rfl, hat5, hb5⟩
              have hbn5 := bel_step Hb4.out hb5
              have Hb5 := hide hbn5
              have Hi5 := hide (Hin.out _ _ c5 hat5 (Ha.out.below hbn5))
              clear hb5 hat5 H3 hbn5
              go_wp2_with fail
              refine (Hi5.out).mono ?_
              rintro x w6 ⟨rfl, hq6⟩
              have Hb6 := hide (drew_bel Hb5.out hq6)
              clear hq6 Hi5
              go_wp2
              refine ⟨⟨i + 1, by omega, by rw [HNB.out], by go_num, Hb6⟩, ?_⟩
              simp [intOf] <;> omega
            · have H3 := hide (Hdni.out hic wc)
              have heq2 : (T.toList == SX.toList) = false := by rw [heq, decide_eq_false hic]
              clear heq hic Hdci Hdni
              go_wp2_with fail
              refine (H3.out).mono ?_
              rintro x w5 ⟨B5, c5, rfl, hb5⟩
              have Hb5 := hide (bel_step Hb4.out hb5)
              clear hb5 H3
              go_wp2
              refine ⟨⟨i + 1, by omega, by rw [HNB.out], by go_num, Hb5⟩, ?_⟩
              simp [intOf] <;> omega
      · have hi4 : i = 4 := by omega
        subst hi4
        have hb4' := Hb4.out
        rw [hb4']
        have hself : (SX.toList == SX.toList) = true := beq_self_eq_true _
        clear Has Hdc Hdn Hin Hbs Hne Hfi Heq Hb4 hb4'
        go_wp2
        go_returns
        exact ⟨rfl, hb.out⟩
end Go.Proofs.YtoeeblldgoccoaaGreat
