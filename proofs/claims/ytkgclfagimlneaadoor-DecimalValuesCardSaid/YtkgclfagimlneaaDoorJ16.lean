/-
  Joined texts: Fe, Fh.
-/
import Derived.Test.YtkgclfagimlneaaDoorJ15
import Derived.Test.YtkgclfagimlneaaDoorJ05
set_option linter.unusedVariables false
set_option linter.unusedSimpArgs false
/-
  The walks over the references: reading a number.
-/
namespace Go.Proofs.YtkgclfagimlneaaDoor
open Go.RowKit Go.Proofs Wv Wv.Dc
set_option linter.unusedVariables false

theorem beq_nat0 {a : Nat} (h : a ≠ 0) : ((a : Int) == 0) = false := by rw [beq_eq_false_iff_ne]; omega
theorem hit1 {s : ByteArray} {k : Nat} (h : k < s.size) (x : UInt8) : hitB [x] (toL s) k = (((s[k]'h).toNat : Int) == (x.toNat : Int)) := by
  unfold hitB
  rw [byte_at s k h]
  simp only [List.contains_cons, List.contains_nil, Bool.or_false]
  rw [Bool.eq_iff_iff, beq_iff_eq, beq_iff_eq]
  constructor
  · intro e; rw [e]
  · intro e; exact UInt8.toNat_inj.1 (by omega)
theorem hit2 {s : ByteArray} {k : Nat} (h : k < s.size) (x y : UInt8) : hitB [x, y] (toL s) k = ((((s[k]'h).toNat : Int) == (x.toNat : Int)) || (((s[k]'h).toNat : Int) == (y.toNat : Int))) := by
  rw [← hit1 h x, ← hit1 h y]
  unfold hitB
  rw [byte_at s k h]
  simp
theorem hit0 {s : ByteArray} {k : Nat} (S : List UInt8) (h : ¬ k < s.size) : hitB S (toL s) k = false := by
  unfold hitB
  rw [byte_no s k h]
theorem sgK_two (L : List UInt8) (k : Nat) : sgK L k = if hitB [43, 45] L k then k + 1 else k := by
  unfold sgK hitK hitB
  match L[k]? with
  | none => rfl
  | some c =>
    by_cases h1 : c = 45
    · subst h1; rfl
    · by_cases h2 : c = 43
      · subst h2; rfl
      · simp [h1, h2]
/-- What lies in memory while the reference reads. -/
structure RdSt (w wx : World) (b : Bool) (d : List UInt8) (e : Int) : Prop where
  kp : PB wx (w.heap.size + 1) b d e
  kr : Bk wx w.heap.size 49 #[.bool false, .string ⟨#[]⟩, .int .i64 0]
  bel : Below w.heap.size w wx
theorem RdSt.put {w wx wy : World} {b b' : Bool} {d d' : List UInt8} {e e' : Int} (h : RdSt w wx b d e) (hk : PB wy (w.heap.size + 1) b' d' e') (hf : Fr (only (w.heap.size + 1)) wx wy) : RdSt w wy b' d' e' :=
  ⟨hk, h.kr.fr hf (by show ¬ _ = _; omega), h.bel.trans (own_below hf h.bel.size (by omega))⟩
theorem RdSt.neg {w wx : World} {b : Bool} {d : List UInt8} {e : Int} (h : RdSt w wx b d e) (b' : Bool) : RdSt w (wx.setCell ⟨w.heap.size + 1, 0, none⟩ (.bool b')) b' d e :=
  h.put (by unfold PB; simpa using Bk.put h.kp 0 (.bool b')) (only_set (Fr.refl _ _) 0 _)
theorem RdSt.dg {w wx : World} {b : Bool} {d : List UInt8} {e : Int} (h : RdSt w wx b d e) (d' : List UInt8) : RdSt w (wx.setCell ⟨w.heap.size + 1, 1, none⟩ (.string (bs d'))) b d' e :=
  h.put (by unfold PB; simpa using Bk.put h.kp 1 (.string (bs d'))) (only_set (Fr.refl _ _) 1 _)
theorem RdSt.ex {w wx : World} {b : Bool} {d : List UInt8} {e : Int} (h : RdSt w wx b d e) (e' : Int) : RdSt w (wx.setCell ⟨w.heap.size + 1, 2, none⟩ (.int .i64 e')) b d e' :=
  h.put (by unfold PB; simpa using Bk.put h.kp 2 (.int .i64 e')) (only_set (Fr.refl _ _) 2 _)
theorem RdSt.drew {w wx : World} {b : Bool} {d : List UInt8} {e : Int} (h : RdSt w wx b d e) : RdSt w wx.drew b d e := ⟨h.kp, h.kr, h.bel.drew⟩
theorem rd_start (w : World) : RdSt w ((w.alloc (.cells #[.bool false, .string ⟨#[]⟩, .int .i64 0] 49)).alloc (.cells #[.bool false, .string ⟨#[]⟩, .int .i64 0] 49)) false [] 0 where
  kr := (Bk.new w _ _).alloc _
  kp := by
    have := Bk.new (w.alloc (.cells #[.bool false, .string ⟨#[]⟩, .int .i64 0] 49)) 49 #[.bool false, .string ⟨#[]⟩, .int .i64 0]
    rw [World.size_alloc] at this
    exact this
  bel := two_below w _ _
/-- What reading gives back. -/
def RdRes (w w' : World) (o : Option Num) (x : Ending) : Prop := ∃ b d e ok, x = .returned (.tuple #[.agg #[.bool b, .string (bs d), .int .i64 e], .bool ok]) ∧ Below w.heap.size w w' ∧ (match o with
  | none => ok = false
  | some m => ok = true ∧ m = ⟨b, d, e - d.length + 1⟩ ∧ -300000 ≤ e ∧ e ≤ 300000 ∧ d.length ≤ 200)
theorem cl2_snoc (p : List UInt8) (i : Nat) (h : i < p.length) : cl2 (p.take (i + 1)) = min (10 * cl2 (p.take i) + dv p[i]) 100000 := by
  unfold cl2
  rw [List.take_succ_eq_append_getElem h, List.foldl_append]
  rfl
theorem cl2_le (p : List UInt8) : cl2 p ≤ 100000 := by rw [cl2_eq]; exact Nat.min_le_left _ _
theorem expo_in2 {L : List UInt8} {k : Nat} {E : Int} {r : List UInt8} (h : expo cl2 (L.drop k) = some (E, r)) : -100000 ≤ E ∧ E ≤ 100000 := by
  rw [expo_place] at h
  have := cl2_le (dfr (L.drop (sgK L (k + 1))))
  generalize cl2 (dfr (L.drop (sgK L (k + 1)))) = c at *
  split at h
  · split at h
    · cases h
    · injection h with h
      injection h with h _
      rw [← h]
      unfold sg
      split <;> omega
  · injection h with h
    injection h with h _
    rw [← h]
    omega
theorem ext_sub (s : ByteArray) (k : Nat) (n : Nat) (h : n = (dfr ((toL s).drop k)).length) : s.extract k (k + n) = bs (dfr ((toL s).drop k)) := by
  rw [ext_mid, show k + n - k = n by omega, h, ← dfr_pre]
end Go.Proofs.YtkgclfagimlneaaDoor
/-
  The walks over the references: reading a long text.
-/
namespace Go.Proofs.YtkgclfagimlneaaDoor
open Go.RowKit Go.Proofs Wv Wv.Dc
set_option linter.unusedVariables false

set_option maxHeartbeats 1000000 in
theorem rdigits_all (s : ByteArray) (k : Nat) (hk : k ≤ s.size) (hs : (s.size : Int) ≤ 9223372036854775807) (w : World) :
    Calls Tryd.prog 54 #[.string s, .int .i64 (k : Int)] w fun x w' => x = .returned (.int .i64 ((dfr ((toL s).drop k)).length : Nat)) ∧ w = w' := by
  have Hget := hide (dfr_get ((toL s).drop k))
  have Hstop := hide (dfr_stop ((toL s).drop k))
  have hdl : (dfr ((toL s).drop k)).length ≤ s.size - k := by
    have := dfr_len ((toL s).drop k)
    rw [List.length_drop, toL_length] at this
    exact this
  obtain ⟨D, hD⟩ : ∃ D, (dfr ((toL s).drop k)).length = D := ⟨_, rfl⟩
  rw [hD] at Hget Hstop hdl ⊢
  have Hat : Hid (∀ j, j < D → ∃ (h : k + j < s.size), isD (s[k + j]'h) = true) := hide (fun j h2 => by
    obtain ⟨c, hc1, hc2⟩ := Hget.out j h2
    have hj : k + j < s.size := by omega
    refine ⟨hj, ?_⟩
    rw [List.getElem?_drop, byte_at s (k + j) hj] at hc1
    injection hc1 with hc1
    rw [hc1]
    exact hc2)
  have Hend : Hid (∀ (h : k + D < s.size), isD (s[k + D]'h) = false) := hide (fun h => by
    refine Hstop.out _ ?_
    rw [List.getElem?_drop]
    exact byte_at s (k + D) h)
  have Hdg := hide (fun c W => rdigit_any c W)
  clear Hget Hstop hD
  go_enter Tryd.func54, Tryd.ntmps54
  go_wp2
  go_loopw [5] (fun iv wr => ∃ j : Nat, j ≤ D ∧ iv = .int .i64 j ∧ wr = w) (fun iv _ => (D - intOf iv).toNat)
  case atStart => exact ⟨0, by omega, rfl, rfl⟩
  case round =>
    obtain ⟨j, hj, rfl, rfl⟩ := hrel
    by_cases hlt : j < D
    · obtain ⟨hjs, hdg⟩ := Hat.out j hlt
      have hdg2 := fun W => Hdg.out (s[k + j]'hjs) W
      rw [hdg] at hdg2
      have Hdg2 := hide hdg2
      have hi : ((k : Int) + (j : Int)).toNat = k + j := by omega
      clear hdg hdg2 Hat Hend
      go_wp2_with (go_at_call 67; refine (Hdg2.out _).mono ?_; rintro r w' ⟨rfl, rfl⟩)
      refine ⟨⟨j + 1, by omega, by go_num, by first | rfl | trivial⟩, ?_⟩
      simp [intOf] <;> omega
    · have hjD : j = D := by omega
      subst hjD
      by_cases hjs : k + j < s.size
      · have hdg := Hend.out hjs
        have hdg2 := fun W => Hdg.out (s[k + j]'hjs) W
        rw [hdg] at hdg2
        have Hdg2 := hide hdg2
        have hi : ((k : Int) + (j : Int)).toNat = k + j := by omega
        clear hdg hdg2 Hat Hend
        go_wp2_with (go_at_call 67; refine (Hdg2.out _).mono ?_; rintro r w' ⟨rfl, rfl⟩)
        go_returns
        exact ⟨rfl, rfl⟩
      · have hjz : ¬ (k : Int) + (j : Int) < (s.size : Int) := by omega
        clear Hat Hend
        go_wp2_with fail
        go_returns
        exact ⟨rfl, rfl⟩
set_option maxRecDepth 100000 in
set_option maxHeartbeats 4000000 in
theorem rread_big (s : ByteArray) (hs0 : (s.size : Int) ≤ 9223372036854775807) (h64 : 64 < s.size) (w : World) :
    Calls Tryd.prog 35 #[.string s] w fun x w' => RdRes w w' (scn cl2 (toL s)) x := by
  have Hs0 := hide hs0
  obtain ⟨R, hR⟩ : ∃ R, scn cl2 (toL s) = R := ⟨_, rfl⟩
  rw [hR]
  have hLz : (toL s).length = s.size := toL_length s
  obtain ⟨b, hb⟩ : ∃ b, hitB [45] (toL s) 0 = b := ⟨_, rfl⟩
  obtain ⟨k1, hk1⟩ : ∃ k1, sgK (toL s) 0 = k1 := ⟨_, rfl⟩
  have hk := sgK_le (L := toL s) (k := 0) (Nat.zero_le _)
  have hs2 := sgK_two (toL s) 0
  rw [hk1] at hk hs2
  have hk1s : k1 ≤ s.size := by omega
  have hk11 : k1 ≤ 1 := by rw [hs2]; split <;> omega
  have hRn : R = none := by
    rw [← hR]
    unfold scn
    rw [if_pos (by rw [toL_length]; exact h64)]
  subst hRn
  have Hb := hide hb
  have Hs2 := hide hs2
  have Hst := hide (rd_start w)
  have Hk1 := hide hk1
  clear hb hs2 hR hk hk1 hLz
  go_enter Tryd.func35, Tryd.ntmps35
  go_upto_region 3 with fail
  generalize ((w.alloc (.cells #[.bool false, .string ⟨#[]⟩, .int .i64 0] 49)).alloc (.cells #[.bool false, .string ⟨#[]⟩, .int .i64 0] 49)) = W0 at *
  go_cut [23] (fun s23 wx => s23 = .bool (hitB [43, 45] (toL s) 0) ∧ wx = W0)
  case first =>
    clear Hst
    by_cases h0 : 0 < s.size
    · have h2 := hit2 h0 43 45
      have h0i : (0 : Int) < (s.size : Int) := by omega
      obtain ⟨C, hC⟩ : ∃ C, (s[0]'h0).toNat = C := ⟨_, rfl⟩
      rw [hC] at h2
      have H2 := hide h2
      clear h2
      by_cases c1 : C = 43
      · subst c1
        go_wp2
        go_meet
        case rel => exact ⟨by rw [H2.out]; rfl, rfl⟩
      · have c1' : ((C : Int) == 43) = false := by rw [beq_eq_false_iff_ne]; omega
        by_cases c2 : C = 45
        · subst c2
          go_wp2
          go_meet
          case rel => exact ⟨by rw [H2.out]; rfl, rfl⟩
        · have c2' : ((C : Int) == 45) = false := by rw [beq_eq_false_iff_ne]; omega
          clear c1 c2
          go_wp2
          go_meet
          case rel => exact ⟨by rw [H2.out]; simp [c1', c2'], rfl⟩
    · have h0i : ¬ (0 : Int) < (s.size : Int) := by omega
      have H2 := hide (hit0 [43, 45] h0)
      go_wp2
      go_meet
      case rel => exact ⟨by rw [H2.out], rfl⟩
  case rest =>
    obtain ⟨rfl, rfl⟩ := hcut
    go_upto_if 23 with fail
    go_cut [5] (fun s5 wx => s5 = .int .i64 (k1 : Int) ∧ RdSt w wx b [] 0)
    case first =>
      cases hh : hitB [43, 45] (toL s) 0 with
      | false =>
        have e1 : k1 = 0 := by have := Hs2.out; rw [hh] at this; simpa using this
        have e2 : b = false := by
          rw [← Hb.out]
          by_cases h0 : 0 < s.size
          · rw [hit1 h0]
            rw [hit2 h0] at hh
            simp at hh
            simpa using hh.2
          · exact hit0 _ h0
        have HS := hide (show RdSt w wc b [] 0 by rw [e2]; exact Hst.out)
        subst e1
        go_wp2
        go_meet
        case rel => exact ⟨rfl, HS.out⟩
      | true =>
        have e1 : k1 = 1 := by have := Hs2.out; rw [hh] at this; simpa using this
        have h0 : 0 < s.size := by
          rcases Nat.eq_zero_or_pos s.size with h | h
          · rw [hit0 _ (by omega)] at hh; cases hh
          · exact h
        have e2 := Hb.out
        rw [hit1 h0] at e2
        obtain ⟨C, hC⟩ : ∃ C, (s[0]'h0).toNat = C := ⟨_, rfl⟩
        rw [hC] at e2
        have h0i : (0 : Int) < (s.size : Int) := by omega
        have f0 := Bk.frozen Hst.out.kp 0
        have n0 := Bk.cell Hst.out.kp 0
        simp at n0
        have HS := hide (Hst.out.neg b)
        have E2 := hide e2
        subst e1
        have e3 : ((C : Int) == 45) = b := e2
        clear hh e2 Hs2 Hb Hst
        go_wp2
        go_meet
        case rel => exact ⟨rfl, by first | exact HS.out | (rw [← E2.out] at HS; exact HS.out)⟩
    case rest =>
      obtain ⟨rfl, hst⟩ := hcut
      have H1 := hide hst
      clear hst Hst Hs2
      obtain ⟨l1, hl1⟩ : ∃ l, (dfr ((toL s).drop k1)).length = l := ⟨_, rfl⟩
      have Hdig : Hid (∀ W, Calls Tryd.prog 54 #[.string s, .int .i64 (k1 : Int)] W fun x w' => x = .returned (.int .i64 (l1 : Int)) ∧ W = w') := hide (fun W => by
        have := rdigits_all s k1 hk1s Hs0.out W
        rw [hl1] at this
        exact this)
      clear hl1
      go_wp2_with fail
      refine (Hdig.out _).mono ?_
      rintro x w2 ⟨rfl, rfl⟩
      obtain ⟨WF, hWF, u0, u1, u2, hbF⟩ := strip_end H1.out.kr H1.out.bel (Nat.le_refl _) false ⟨#[]⟩ 0
      have HWF := hide hWF
      have HbF := hide hbF
      have r0 := H1.out.kr.cell 0
      have r1 := H1.out.kr.cell 1
      have r2 := H1.out.kr.cell 2
      have g0 := H1.out.kr.frozen 0
      have g1 := H1.out.kr.frozen 1
      have g2 := H1.out.kr.frozen 2
      simp at r0 r1 r2
      have h64i : (64 : Int) < (s.size : Int) := by omega
      clear hWF hbF H1 Hdig h64
      by_cases hl : l1 = 0
      · subst hl
        go_wp2
        rw [HWF.out]
        refine bodyPost_ret (by simp [results, Tryd.results35, go_sem, u0, u1, u2]; try rfl) rfl ?_
        exact ⟨false, [], 0, false, rfl, HbF.out, rfl⟩
      · have hl0 := beq_nat0 hl
        clear hl
        go_wp2
        rw [HWF.out]
        refine bodyPost_ret (by simp [results, Tryd.results35, go_sem, u0, u1, u2]; try rfl) rfl ?_
        exact ⟨false, [], 0, false, rfl, HbF.out, rfl⟩
end Go.Proofs.YtkgclfagimlneaaDoor
