/-
  Joined texts: Sq, Ss, St.
-/
import Derived.Test.YtgllednilkfpgaaGreatJ13
import Derived.Test.YtgllednilkfpgaaGreatJ03
import Derived.BigQuiet
import Derived.BigRegion
import Derived.Deep.DeepCutAuto
import Derived.Deep.QuietTactic
import Derived.Test.YtgllednilkfpgaaGreatJ05
import Derived.Test.YtgllednilkfpgaaGreatJ12
set_option linter.unusedVariables false
set_option linter.unusedSimpArgs false
/-
  The walks over the references: numbers as bytes, the number at the front.
-/
namespace Go.Proofs.YtgllednilkfpgaaGreat
open Go.RowKit Go.Proofs Wv Wv.Vi Wv.Ru
set_option linter.unusedVariables false

/-- What 'Read' answers. -/
def rk (s : ByteArray) : Value := match rd (toL s) with
  | none => .tuple #[.int .i64 0, .int .i64 0]
  | some x => .tuple #[.int .i64 (x.1 : Int), .int .i64 (x.2 : Int)]
theorem rk_none {s : ByteArray} (h : rd (toL s) = none) : rk s = .tuple #[.int .i64 0, .int .i64 0] := by unfold rk; rw [h]
theorem rk_some {s : ByteArray} {n z : Nat} (h : rd (toL s) = some (n, z)) : rk s = .tuple #[.int .i64 (n : Int), .int .i64 (z : Int)] := by unfold rk; rw [h]
theorem lead_shift : ∀ c : Nat, c < 256 → ∀ j : Nat, j < 8 → j ≤ lead c → (((c / 2 ^ (7 - j) % 2 : Nat)) == 1) = decide (j < lead c) := by decide +kernel
theorem vl_ge (l : List UInt8) : ∀ a, l ≠ [] → 256 * a ≤ vl a l := by
  induction l with
  | nil => intro a h; exact absurd rfl h
  | cons b t ih =>
    intro a _
    show 256 * a ≤ vl (256 * a + b.toNat) t
    by_cases ht : t = []
    · subst ht
      show 256 * a ≤ 256 * a + b.toNat
      omega
    · have := ih (256 * a + b.toNat) ht
      omega
theorem vl_far (a : Nat) (l : List UInt8) {m k : Nat} (h : m < k) (hk : k ≤ l.length) (hb : 36028797018963968 ≤ vl a (l.take m)) : 9223372036854775808 ≤ vl a (l.take k) := by
  have e : l.take k = l.take m ++ (l.drop m).take (k - m) := by
    rw [← List.take_add, show m + (k - m) = k from by omega]
  have e2 : vl a (l.take k) = vl (vl a (l.take m)) ((l.drop m).take (k - m)) := by
    rw [e]
    simp only [vl, List.foldl_append]
  rw [e2]
  have := vl_ge ((l.drop m).take (k - m)) (vl a (l.take m)) (by
    intro h2
    have := congrArg List.length h2
    rw [List.length_take, List.length_drop] at this
    simp at this
    omega)
  omega
theorem first_sub (c : Nat) (hc : c < 256) : 256 - 2 ^ (8 - lead c) ≤ c := by
  have h := lead_spec c
  rcases nine (lead c) (lead_le c) with e | e | e | e | e | e | e | e | e <;> rw [e] at h ⊢ <;> simp only [Nat.reducePow, Nat.reduceSub] <;> omega
theorem rread_nil {s : ByteArray} (hs : s.size = 0) (w : World) :
    Calls Tryz.prog 43 #[.string s] w fun x w' => x = .returned (.tuple #[.int .i64 0, .int .i64 0]) ∧ w = w' := by
  go_enter Tryz.func43, Tryz.ntmps43
  go_wp2
  go_returns
  exact ⟨rfl, rfl⟩
set_option maxHeartbeats 2000000 in
theorem rread_main {s : ByteArray} (hp : 0 < s.size) (hm : s.size ≤ 1099511627776) (w : World) :
    Calls Tryz.prog 43 #[.string s] w fun x w' => x = .returned (rk s) ∧ Below w.heap.size w w' := by
  obtain ⟨c, hf, hc0, hs⟩ := fst_of hp
  have hg := hf.get hp
  have hc := hf.lt
  have hk8 := lead_le c
  have hlim := first_lt c hc
  have hfs := first_sub c hc
  have hrd := rd_cons (UInt8.ofNat c) ((toL s).drop 1)
  rw [← hs, show (UInt8.ofNat c).toNat = c from by simp; omega, show ((toL s).drop 1).length = s.size - 1 from by rw [List.length_drop]; rfl] at hrd
  have Hlb := hide (lead_shift c hc)
  have Hbnd := hide (rfrom_any (lead c : Int) (by omega) (by omega))
  rw [Int.toNat_natCast] at Hbnd
  have hb8 := bnd_le (lead c) hk8
  obtain ⟨k, hk⟩ : ∃ k, lead c = k := ⟨_, rfl⟩
  rw [hk] at Hlb hlim hfs hrd Hbnd hk8 hb8
  obtain ⟨a, ha⟩ : ∃ a, c - (256 - 2 ^ (8 - k)) = a := ⟨_, rfl⟩
  rw [ha] at hlim hrd
  obtain ⟨B, hB⟩ : ∃ B, bnd k = B := ⟨_, rfl⟩
  rw [hB] at Hbnd hrd hb8
  have Hrd := hide hrd
  have Hlim := hide hlim
  have ha256 : a < 256 := by omega
  have Hk := hide (show ∀ K : Nat, k = K → c = a + (256 - 2 ^ (8 - K)) from fun K e => by subst e; omega)
  clear hs hc0 hf hk ha hB hrd hlim hfs
  go_enter Tryz.func43, Tryz.ntmps43
  go_wp2
  go_loop [4] (fun i => ∃ j : Nat, j ≤ k ∧ i = .int .i64 j) (fun i => (9 - intOf i).toNat)
  case atStart => exact ⟨0, by omega, rfl⟩
  case round =>
    obtain ⟨j, hj, rfl⟩ := hrel
    by_cases hjk : j < k
    · have hb := Hlb.out j (by omega) hj
      rw [decide_eq_true hjk, beq_iff_eq] at hb
      have hj8 : j < 8 := by omega
      have hz : j = 0 ∨ j = 1 ∨ j = 2 ∨ j = 3 ∨ j = 4 ∨ j = 5 ∨ j = 6 ∨ j = 7 := by omega
      rcases hz with rfl | rfl | rfl | rfl | rfl | rfl | rfl | rfl
      all_goals
        simp only [Nat.reducePow, Nat.reduceSub] at hb
        go_wp2
        go_round
        case rel => exact ⟨_, hjk, by rfl⟩
        case measure => simp [intOf] <;> omega
    · have hjk2 : j = k := by omega
      subst hjk2
      have hlbj : j < 8 → c / 2 ^ (7 - j) % 2 ≠ 1 := fun h8 => by
        have := Hlb.out j h8 (Nat.le_refl _)
        rw [decide_eq_false hjk, beq_eq_false_iff_ne] at this
        exact this
      by_cases hsz : s.size < j + 1
      · have hpk := hide (rk_none (by rw [Hrd.out, if_pos (by omega)]))
        have hz := nine j hk8
        clear Hlb Hbnd Hrd Hlim Hk
        rcases hz with rfl | rfl | rfl | rfl | rfl | rfl | rfl | rfl | rfl
        all_goals
          simp only [Nat.reducePow, Nat.reduceSub, Nat.reduceLT, forall_const, false_implies] at hlbj
          go_wp2
        all_goals
          go_returns
          exact ⟨ret_of hpk.out.symm, Below.refl _ _⟩
      · have hcase : (j < 8 ∧ (((c : Int) / 2 ^ (7 - j)).tmod 2 == 1) = false) ∨ 8 ≤ j := by
          by_cases h8 : j < 8
          · refine .inl ⟨h8, ?_⟩
            have e : (c : Int) / 2 ^ (7 - j) = ((c / 2 ^ (7 - j) : Nat) : Int) := by rw [Int.natCast_ediv, Int.natCast_pow]; rfl
            have e2 : (((c / 2 ^ (7 - j) : Nat) : Int)).tmod 2 = ((c / 2 ^ (7 - j) % 2 : Nat) : Int) := rfl
            have := hlbj h8
            rw [e, e2, beq_eq_false_iff_ne]
            omega
          · exact .inr (by omega)
        clear hlbj
        rcases hcase with ⟨h8, hb⟩ | h8
        all_goals
          go_wp2
        all_goals
         go_cut [5] (fun n wx => n = .int .i64 (a : Int) ∧ Below w.heap.size w wx)
         case first =>
           have hz := nine j hk8
           clear Hlb Hbnd Hrd Hlim
           rcases hz with rfl | rfl | rfl | rfl | rfl | rfl | rfl | rfl | rfl
           all_goals
             have hca := Hk.out _ rfl
             simp only [Nat.reducePow, Nat.reduceSub, Nat.reduceLT, forall_const, false_implies] at hca
             go_quiet (fail)
             go_wp2
             go_meet
             case rel => exact ⟨by go_num, bdN (Below.refl _ _) nq⟩
         case rest =>
           obtain ⟨rfl, hbw⟩ := hcut
           clear Hlb Hk
           go_wp2
           go_loopw [5, 6] (fun n i wr => ∃ m : Nat, 1 ≤ m ∧ m ≤ j + 1 ∧ i = .int .i64 m ∧ n = .int .i64 ((vl a (((toL s).drop 1).take (m - 1)) : Nat) : Int) ∧ Below w.heap.size w wr) (fun _ i _ => (j + 2 - intOf i).toNat)
           case atStart => exact ⟨1, by omega, by omega, rfl, by simp [vl], hbw⟩
           case round =>
             clear hbw
             obtain ⟨m, hm1, hmj, rfl, rfl, hf⟩ := hrel
             have hvl := vl_lt (((toL s).drop 1).take (m - 1)) a
             have hdl : ((toL s).drop 1).length = s.size - 1 := by rw [List.length_drop]; rfl
             by_cases hmk : m ≤ j
             · have hms : m < s.size := by omega
               have Hst := hide (vl_take_byte a m s hm1 hms)
               have hfar := vl_far a ((toL s).drop 1) (m := m - 1) (k := j) (by omega) (by omega)
               have hrd9 := Hrd.out
               rw [if_neg (by omega)] at hrd9
               obtain ⟨y, hy⟩ : ∃ y, (s[m]).toNat = y := ⟨_, rfl⟩
               have hy8 : y < 256 := by rw [← hy]; exact UInt8.toNat_lt _
               rw [hy] at Hst
               obtain ⟨v, hv⟩ : ∃ v, vl a (((toL s).drop 1).take (m - 1)) = v := ⟨_, rfl⟩
               rw [hv] at Hst hfar ⊢
               by_cases hbig : 36028797018963968 ≤ v
               · have hff := hfar hbig
                 have hpk := hide (rk_none (by rw [hrd9, if_pos (by omega)]))
                 have i1 : (36028797018963967 : Int) < (v : Int) := by omega
                 clear hff hfar hrd9 hvl hv hy hbig Hst Hrd Hlim
                 go_wp2
                 go_returns
                 exact ⟨ret_of hpk.out.symm, hf⟩
               · have i1 : ¬ (36028797018963967 : Int) < (v : Int) := by omega
                 have i2 : ((s[m]).toNat : Int) = (y : Int) := by rw [hy]
                 have i3 : (v : Int) ≤ 36028797018963967 := by omega
                 clear hfar hrd9 hvl hv hbig
                 go_wp2
                 refine ⟨⟨m + 1, by omega, by omega, by go_num, by rw [Nat.add_sub_cancel, Hst.out]; go_num, hf⟩, ?_⟩
                 simp [intOf]; omega
             · have hmj2 : m = j + 1 := by omega
               subst hmj2
               rw [Nat.add_sub_cancel] at hvl ⊢
               have hlen : (((toL s).drop 1).take j).length = j := by
                 rw [List.length_take, hdl]; omega
               rw [hlen] at hvl
               have hv64 := Nat.lt_of_lt_of_le hvl Hlim.out.1
               obtain ⟨v, hv⟩ : ∃ v, vl a (((toL s).drop 1).take j) = v := ⟨_, rfl⟩
               rw [hv] at hv64 ⊢
               have Hrd2 := Hrd.out
               rw [hv, if_neg (by omega)] at Hrd2
               have Hbs := Hbnd.out
               clear hvl hlen hv Hbnd Hlim Hrd
               by_cases hov : 9223372036854775807 < v + B
               · rw [if_pos hov] at Hrd2
                 have hpk := hide (rk_none Hrd2)
                 have i2 : (9223372036854775807 : Int) - (B : Int) < (v : Int) := by omega
                 clear Hrd2 hov
                 go_wp2_with (go_at_call 62; refine (Hbs _).mono ?_; rintro e w' ⟨rfl, rfl⟩)
                 go_returns
                 exact ⟨ret_of hpk.out.symm, hf⟩
               · rw [if_neg hov] at Hrd2
                 have hpk := hide (rk_some Hrd2)
                 have i2 : ¬ (9223372036854775807 : Int) - (B : Int) < (v : Int) := by omega
                 clear Hrd2
                 go_wp2_with (go_at_call 62; refine (Hbs _).mono ?_; rintro e w' ⟨rfl, rfl⟩)
                 go_returns
                 exact ⟨ret_of (by rw [hpk.out]; push_cast; rfl), hf⟩
theorem rread_any {s : ByteArray} (hm : s.size ≤ 1099511627776) (w : World) :
    Calls Tryz.prog 43 #[.string s] w fun x w' => x = .returned (rk s) ∧ Below w.heap.size w w' := by
  by_cases hp : 0 < s.size
  · exact rread_main hp hm w
  · have hs : s.size = 0 := by omega
    refine (rread_nil hs w).mono ?_
    rintro x w' ⟨rfl, rfl⟩
    have : toL s = [] := List.eq_nil_of_length_eq_zero hs
    exact ⟨ret_of (rk_none (by rw [this]; rfl)).symm, Below.refl _ _⟩
end Go.Proofs.YtgllednilkfpgaaGreat
/-
  The walks over the references: numbers as bytes, a reader's calls.
-/
namespace Go.Proofs.YtgllednilkfpgaaGreat
open Go.RowKit Go.Proofs Wv Wv.Vi Wv.Ru
set_option linter.unusedVariables false

/-- A reference's reader, in a block. -/
def SB (w : World) (b : Nat) (s : ByteArray) (e : Int) : Prop := Bk w b 93 #[.string s, .int .i64 e]
theorem SB.put0 {w : World} {b : Nat} {e : Int} {s : ByteArray} (h : SB w b s e) (x : ByteArray) : SB (w.setCell ⟨b, 0, none⟩ (.string x)) b x e := by simpa [SB] using Bk.put h 0 (.string x)
theorem SB.put1 {w : World} {b : Nat} {e : Int} {s : ByteArray} (h : SB w b s e) (x : Int) : SB (w.setCell ⟨b, 1, none⟩ (.int .i64 x)) b s x := by simpa [SB] using Bk.put h 1 (.int .i64 x)
theorem SB.off {w : World} {b : Nat} {e : Int} {s : ByteArray} (h : SB w b s e) {b' : Nat} (hne : b' ≠ b) (k : Nat) (x : Value) : SB (w.setCell ⟨b', k, none⟩ x) b s e := Bk.off h (p := ⟨b', k, none⟩) (Ne.symm hne) x
theorem SB.alloc {w : World} {b : Nat} {e : Int} {s : ByteArray} (h : SB w b s e) (o : Obj) : SB (w.alloc o) b s e := Bk.alloc h o
theorem SB.below {w w' : World} {b : Nat} {e : Int} {s : ByteArray} (h : SB w b s e) (hb : Below w.heap.size w w') : SB w' b s e := Bk.below h hb (Bk.lt h)
/-- A reader is given back as a result. -/
theorem sres_end {w : World} {r : Nat} {s0 : ByteArray} {e0 : Int} (hr : SB w r s0 e0) (s : ByteArray) (e : Int) :
    ∃ W, ((w.setCell ⟨r, 0, none⟩ (.string s)).setCell ⟨r, 1, none⟩ (.int .i64 e)) = W ∧ W.cell? ⟨r, 0, none⟩ = some (.string s) ∧ W.cell? ⟨r, 1, none⟩ = some (.int .i64 e) ∧ Fr (only r) w W := by
  have hk := (hr.put0 s).put1 e
  exact ⟨_, rfl, Bk.cell hk 0, Bk.cell hk 1, only_set (only_set (Fr.refl _ _) 0 _) 1 _⟩

theorem ffail_any (s : ByteArray) (e x : Int) (w : World) :
    Calls Tryz.prog 109 #[.agg #[.string s, .int .i64 e], .int .i64 x] w fun r w' => r = .returned (.agg #[.string s, .int .i64 x]) ∧ Below w.heap.size w w' := by
  go_enter Tryz.func109, Tryz.ntmps109
  go_wp2
  go_returns
  exact ⟨rfl, ((Below.refl w.heap.size w).alloc (Nat.le_refl _) _).alloc (by simp) _⟩
theorem SB.cells {w : World} {b : Nat} {e : Int} {s : ByteArray} (h : SB w b s e) : (w.cell? ⟨b, 0, none⟩ = some (.string s) ∧ w.cell? ⟨b, 1, none⟩ = some (.int .i64 e)) ∧ w.frozen? ⟨b, 0, none⟩ = false ∧ w.frozen? ⟨b, 1, none⟩ = false := ⟨⟨Bk.cell h 0, Bk.cell h 1⟩, Bk.frozen h 0, Bk.frozen h 1⟩
/-- What 'number' answers: a reader and a number. -/
def nvR (s : ByteArray) (e : Nat) (most : Int) : Value := .tuple #[.agg #[.string (numR s e most).2.1, .int .i64 ((numR s e most).2.2 : Int)], .int .i64 ((numR s e most).1 : Int)]
theorem numR_er {s : ByteArray} {e : Nat} (he : e ≠ 0) (most : Int) : numR s e most = (0, s, e) := by unfold numR; rw [if_neg he]
theorem nvR_of {s t : ByteArray} {e n f : Nat} {most : Int} (h : numR s e most = (n, t, f)) : nvR s e most = .tuple #[.agg #[.string t, .int .i64 (f : Int)], .int .i64 (n : Int)] := by unfold nvR; rw [h]
set_option maxHeartbeats 1000000 in
theorem rnum_any {s : ByteArray} (hm : s.size ≤ 1099511627776) (e : Nat) (most : Int) (w : World) :
    Calls Tryz.prog 108 #[.agg #[.string s, .int .i64 (e : Int)], .int .i64 most] w fun r w' => r = .returned (nvR s e most) ∧ Below w.heap.size w w' := by
  have Hr := hide (fun W => rread_any hm W)
  have Hf := hide (fun x W => ffail_any s e x W)
  have hx0 : SB ((w.alloc (.cells #[.string s, .int .i64 (e : Int)] 93)).alloc (.cells #[.string ⟨#[]⟩, .int .i64 0] 93)) w.heap.size s e := SB.alloc (Bk.new _ _ _) _
  have hr0 := Bk.new (w.alloc (.cells #[.string s, .int .i64 (e : Int)] 93)) 93 #[.string ⟨#[]⟩, .int .i64 0]
  have hr1 : SB ((w.alloc (.cells #[.string s, .int .i64 (e : Int)] 93)).alloc (.cells #[.string ⟨#[]⟩, .int .i64 0] 93)) (w.heap.size + 1) ⟨#[]⟩ 0 := by
    rw [World.size_alloc] at hr0
    exact hr0
  have hb0 := ((Below.refl w.heap.size w).alloc (Nat.le_refl _) (.cells #[.string s, .int .i64 (e : Int)] 93)).alloc (by simp) (.cells #[.string ⟨#[]⟩, .int .i64 0] 93)
  have Hx0 := hide hx0
  have Hr1 := hide hr1
  have Hb0 := hide hb0
  clear hx0 hr0 hr1 hb0
  by_cases he : e = 0
  · subst he
    match hrd : rd (toL s) with
    | none =>
      rw [rk_none hrd] at Hr
      have Hn := hide (nvR_of (s := s) (e := 0) (most := most) (n := 0) (t := s) (f := 12) (by unfold numR; rw [if_pos rfl, hrd]))
      clear hrd
      go_enter Tryz.func108, Tryz.ntmps108
      go_wp2_with fail
      refine (Hr.out _).mono ?_
      rintro x w1 ⟨rfl, hb1⟩
      have hx1 := Hx0.out.below hb1
      obtain ⟨⟨c0, c1⟩, f0, f1⟩ := hx1.cells
      obtain ⟨⟨r0, r1⟩, g0, g1⟩ := (Hr1.out.below hb1).cells
      have hbw := Hb0.out.trans (hb1.mono Hb0.out.size)
      have hr2 := Hr1.out.below hb1
      have Hbw := hide hbw
      have Hr2 := hide hr2
      have Hx1 := hide hx1
      clear hb1 hbw hr2 Hr hx1
      go_wp2_with fail
      refine (Hf.out _ _).mono ?_
      rintro x w2 ⟨rfl, hb2⟩
      have hr3 := Hr2.out.below hb2
      obtain ⟨⟨r0, r1⟩, g0, g1⟩ := hr3.cells
      have Hr3 := hide hr3
      have Hb2 := hide (Hbw.out.trans (hb2.mono Hbw.out.size))
      clear hr3 hb2 c0 c1 f0 f1
      obtain ⟨WF, hWF, u0, u1, hfr⟩ := sres_end (Hr3.out) (s) 12
      have HWF := hide hWF
      have HbF := hide ((Hb2.out).trans (own_below hfr (Hb2.out).size (show w.heap.size ≤ w.heap.size + 1 by omega)))
      clear hWF hfr 
      go_wp2
      rw [HWF.out]
      refine bodyPost_ret (by simp [results, Tryz.results108, go_sem, u0, u1]; try rfl) rfl ?_
      exact ⟨by rw [Hn.out]; rfl, HbF.out⟩
    | some (n, z) =>
      rw [rk_some hrd] at Hr
      have hle := rd_le hrd
      have hz0 : ((z : Int) == 0) = false := by rw [beq_eq_false_iff_ne]; omega
      have hzs : z ≤ s.size := hle.2.2.1
      by_cases hmn : most < (n : Int)
      · have Hn := hide (nvR_of (s := s) (e := 0) (most := most) (n := 0) (t := s) (f := 2) (by unfold numR; rw [if_pos rfl, hrd]; simp only; rw [if_pos hmn]))
        clear hrd hle
        go_enter Tryz.func108, Tryz.ntmps108
        go_wp2_with fail
        refine (Hr.out _).mono ?_
        rintro x w1 ⟨rfl, hb1⟩
        have hx1 := Hx0.out.below hb1
        obtain ⟨⟨c0, c1⟩, f0, f1⟩ := hx1.cells
        obtain ⟨⟨r0, r1⟩, g0, g1⟩ := (Hr1.out.below hb1).cells
        have hbw := Hb0.out.trans (hb1.mono Hb0.out.size)
        have hr2 := Hr1.out.below hb1
        have Hbw := hide hbw
        have Hr2 := hide hr2
        have Hx1 := hide hx1
        clear hb1 hbw hr2 Hr hx1
        go_wp2_with fail
        refine (Hf.out _ _).mono ?_
        rintro x w2 ⟨rfl, hb2⟩
        have hr3 := Hr2.out.below hb2
        obtain ⟨⟨r0, r1⟩, g0, g1⟩ := hr3.cells
        have Hr3 := hide hr3
        have Hb2 := hide (Hbw.out.trans (hb2.mono Hbw.out.size))
        clear hr3 hb2 c0 c1 f0 f1
        obtain ⟨WF, hWF, u0, u1, hfr⟩ := sres_end (Hr3.out) (s) 2
        have HWF := hide hWF
        have HbF := hide ((Hb2.out).trans (own_below hfr (Hb2.out).size (show w.heap.size ≤ w.heap.size + 1 by omega)))
        clear hWF hfr 
        go_wp2
        rw [HWF.out]
        refine bodyPost_ret (by simp [results, Tryz.results108, go_sem, u0, u1]; try rfl) rfl ?_
        exact ⟨by rw [Hn.out]; rfl, HbF.out⟩
      · have Hn := hide (nvR_of (s := s) (e := 0) (most := most) (n := n) (t := bs ((toL s).drop z)) (f := 0) (by unfold numR; rw [if_pos rfl, hrd]; simp only; rw [if_neg hmn]))
        have hex := ext_drop s z
        have hzi : (z : Int) ≤ (s.size : Int) := by omega
        clear hrd hle
        go_enter Tryz.func108, Tryz.ntmps108
        go_wp2_with fail
        refine (Hr.out _).mono ?_
        rintro x w1 ⟨rfl, hb1⟩
        have hx1 := Hx0.out.below hb1
        obtain ⟨⟨c0, c1⟩, f0, f1⟩ := hx1.cells
        obtain ⟨⟨r0, r1⟩, g0, g1⟩ := (Hr1.out.below hb1).cells
        have hbw := Hb0.out.trans (hb1.mono Hb0.out.size)
        have hr2 := Hr1.out.below hb1
        have Hbw := hide hbw
        have Hr2 := hide hr2
        have Hx1 := hide hx1
        clear hb1 hbw hr2 Hr hx1
        have hput := Hx1.out.put0 (bs ((toL s).drop z))
        have hrp := Hr2.out.off (b' := w.heap.size) (by omega) 0 (.string (bs ((toL s).drop z)))
        have hbp := Hbw.out.setCell (p := ⟨w.heap.size, 0, none⟩) (Nat.le_refl _) (.string (bs ((toL s).drop z)))
        obtain ⟨WF, hWF, u0, u1, hfr⟩ := sres_end (hrp) (bs ((toL s).drop z)) 0
        have HWF := hide hWF
        have HbF := hide ((hbp).trans (own_below hfr (hbp).size (show w.heap.size ≤ w.heap.size + 1 by omega)))
        clear hWF hfr 
        go_wp2
        rw [HWF.out]
        refine bodyPost_ret (by simp [results, Tryz.results108, go_sem, u0, u1]; try rfl) rfl ?_
        exact ⟨by rw [Hn.out]; rfl, HbF.out⟩
  · have Hn := hide (nvR_of (numR_er (s := s) he most))
    have hne : ((e : Int) != 0) = true := by rw [bne_iff_ne]; omega
    obtain ⟨N, Z, hrk⟩ : ∃ N Z : Int, rk s = .tuple #[.int .i64 N, .int .i64 Z] := by
      unfold rk
      split
      · exact ⟨_, _, rfl⟩
      · exact ⟨_, _, rfl⟩
    rw [hrk] at Hr
    clear hrk he
    go_enter Tryz.func108, Tryz.ntmps108
    go_wp2_with fail
    refine (Hr.out _).mono ?_
    rintro x w1 ⟨rfl, hb1⟩
    have hx1 := Hx0.out.below hb1
    obtain ⟨⟨c0, c1⟩, f0, f1⟩ := hx1.cells
    obtain ⟨⟨r0, r1⟩, g0, g1⟩ := (Hr1.out.below hb1).cells
    have hbw := Hb0.out.trans (hb1.mono Hb0.out.size)
    have hr2 := Hr1.out.below hb1
    have Hbw := hide hbw
    have Hr2 := hide hr2
    have Hx1 := hide hx1
    clear hb1 hbw hr2 Hr hx1
    obtain ⟨WF, hWF, u0, u1, hfr⟩ := sres_end (Hr2.out) (s) e
    have HWF := hide hWF
    have HbF := hide ((Hbw.out).trans (own_below hfr (Hbw.out).size (show w.heap.size ≤ w.heap.size + 1 by omega)))
    clear hWF hfr 
    go_wp2
    rw [HWF.out]
    refine bodyPost_ret (by simp [results, Tryz.results108, go_sem, u0, u1]; try rfl) rfl ?_
    exact ⟨by rw [Hn.out]; rfl, HbF.out⟩
end Go.Proofs.YtgllednilkfpgaaGreat
/-
  The walks over the references: numbers as bytes, a reader's calls of both kinds that are used.
-/
namespace Go.Proofs.YtgllednilkfpgaaGreat
open Go.RowKit Go.Proofs Wv Wv.Vi Wv.Ru
set_option linter.unusedVariables false

/-- What a call of kind 0 answers. -/
def dv0 (s : ByteArray) (e : Nat) (most : Int) : Value := .tuple #[.agg #[.string (numR s e most).2.1, .int .i64 ((numR s e most).2.2 : Int)], .int .i64 ((numR s e most).1 : Int), .string ⟨#[]⟩]
/-- What a call of kind 3 answers. -/
def dv3 (s : ByteArray) (e : Nat) (most : Int) : Value := .tuple #[.agg #[.string (textR s e most).2.1, .int .i64 ((textR s e most).2.2 : Int)], .int .i64 0, .string (textR s e most).1]
theorem dv0_of {s t : ByteArray} {e n f : Nat} {most : Int} (h : numR s e most = (n, t, f)) : dv0 s e most = .tuple #[.agg #[.string t, .int .i64 (f : Int)], .int .i64 (n : Int), .string ⟨#[]⟩] := by unfold dv0; rw [h]
theorem dv3_of {s t a : ByteArray} {e f : Nat} {most : Int} (h : textR s e most = (a, t, f)) : dv3 s e most = .tuple #[.agg #[.string t, .int .i64 (f : Int)], .int .i64 0, .string a] := by unfold dv3; rw [h]
theorem takeR_er {s : ByteArray} {e : Nat} (he : e ≠ 0) (n : Int) : takeR s e n = (bs [], s, e) := by unfold takeR; rw [if_neg he]
theorem textR_er {s : ByteArray} {e : Nat} {most : Int} {n f : Nat} {t : ByteArray} (h : numR s e most = (n, t, f)) (hf : f ≠ 0) : textR s e most = (bs [], s, f) := by
  unfold textR
  rw [h]
  simp only
  rw [takeR_er hf]
  simp only
  rw [if_neg hf]
theorem textR_short {s : ByteArray} {e : Nat} {most : Int} {n : Nat} {t : ByteArray} (h : numR s e most = (n, t, 0)) (hn : (t.size : Int) < n) : textR s e most = (bs [], s, 12) := by
  unfold textR
  rw [h]
  have ht : takeR t 0 (n : Int) = (bs [], t, 12) := by unfold takeR; rw [if_pos rfl, if_neg (by omega), if_pos hn]
  simp only
  rw [ht]
  simp only
  rw [if_neg (by decide)]
theorem textR_good {s : ByteArray} {e : Nat} {most : Int} {n : Nat} {t : ByteArray} (h : numR s e most = (n, t, 0)) (hn : ¬ (t.size : Int) < n) : textR s e most = (bs ((toL t).take n), bs ((toL t).drop n), 0) := by
  unfold textR
  rw [h]
  have ht : takeR t 0 (n : Int) = (bs ((toL t).take n), bs ((toL t).drop n), 0) := by unfold takeR; rw [if_pos rfl, if_neg (by omega), if_neg hn, Int.toNat_natCast]
  simp only
  rw [ht]
  simp only [if_true]
theorem numR_keep {s : ByteArray} {e : Nat} {most : Int} {n f : Nat} {t : ByteArray} (h : numR s e most = (n, t, f)) (hf : f ≠ 0) : t = s ∧ n = 0 := by
  unfold numR at h
  split at h
  · split at h
    · injection h with h1 h2; injection h2 with h2 h3; exact ⟨h2.symm, h1.symm⟩
    · split at h
      · injection h with h1 h2; injection h2 with h2 h3; exact ⟨h2.symm, h1.symm⟩
      · injection h with h1 h2; injection h2 with h2 h3; exact absurd h3.symm hf
  · injection h with h1 h2; injection h2 with h2 h3; exact ⟨h2.symm, h1.symm⟩
theorem sres_endB {w0 w : World} {r : Nat} {s0 : ByteArray} {e0 : Int} (hr : SB w r s0 e0) (hb : Below w0.heap.size w0 w) (h0 : w0.heap.size ≤ r) (s : ByteArray) (e : Int) :
    ∃ W, ((w.setCell ⟨r, 0, none⟩ (.string s)).setCell ⟨r, 1, none⟩ (.int .i64 e)) = W ∧ W.cell? ⟨r, 0, none⟩ = some (.string s) ∧ W.cell? ⟨r, 1, none⟩ = some (.int .i64 e) ∧ Below w0.heap.size w0 W := by
  obtain ⟨W, h1, h2, h3, h4⟩ := sres_end hr s e
  exact ⟨W, h1, h2, h3, hb.trans (own_below h4 hb.size h0)⟩
theorem sres_endA {w0 w : World} {r : Nat} {s0 : ByteArray} {e0 : Int} (hr : SB w r s0 e0) (hb : Below w0.heap.size w0 w) (h0 : w0.heap.size ≤ r) (s : ByteArray) (e : Int) (o : Obj) :
    ∃ W, (((w.setCell ⟨r, 0, none⟩ (.string s)).setCell ⟨r, 1, none⟩ (.int .i64 e)).alloc o) = W ∧ W.cell? ⟨r, 0, none⟩ = some (.string s) ∧ W.cell? ⟨r, 1, none⟩ = some (.int .i64 e) ∧ Below w0.heap.size w0 W := by
  have hk := ((hr.put0 s).put1 e).alloc o
  have hb2 := (hb.setCell (p := ⟨r, 0, none⟩) h0 (.string s)).setCell (p := ⟨r, 1, none⟩) h0 (.int .i64 e)
  exact ⟨_, rfl, Bk.cell hk 0, Bk.cell hk 1, hb2.alloc hb2.size o⟩
theorem sres_endD {w0 w : World} {r : Nat} {s0 : ByteArray} {e0 : Int} (hr : SB w r s0 e0) (hb : Below w0.heap.size w0 w) (h0 : w0.heap.size ≤ r) (s : ByteArray) (e : Int) (o : Obj) :
    ∃ W, (((w.setCell ⟨r, 0, none⟩ (.string s)).setCell ⟨r, 1, none⟩ (.int .i64 e)).alloc o).drew = W ∧ W.cell? ⟨r, 0, none⟩ = some (.string s) ∧ W.cell? ⟨r, 1, none⟩ = some (.int .i64 e) ∧ Below w0.heap.size w0 W := by
  have hk := ((hr.put0 s).put1 e).alloc o
  have hb2 := (hb.setCell (p := ⟨r, 0, none⟩) h0 (.string s)).setCell (p := ⟨r, 1, none⟩) h0 (.int .i64 e)
  exact ⟨_, rfl, Bk.cell hk 0, Bk.cell hk 1, (hb2.alloc hb2.size o).drew⟩
/-- The world with a call's blocks: the reader, the call, the result. -/
def doW (w : World) (s : ByteArray) (e k most : Int) : World := ((w.alloc (.cells #[.string s, .int .i64 e] 93)).alloc (.cells #[.int .i64 k, .int .i64 0, .int .i64 most] 97)).alloc (.cells #[.string ⟨#[]⟩, .int .i64 0] 93)
theorem doW_facts (w : World) (s : ByteArray) (e k most : Int) : SB (doW w s e k most) w.heap.size s e ∧ SB (doW w s e k most) (w.heap.size + 1 + 1) ⟨#[]⟩ 0 ∧ Below w.heap.size w (doW w s e k most) := by
  refine ⟨SB.alloc (SB.alloc (Bk.new _ _ _) _) _, ?_, (((Below.refl w.heap.size w).alloc (Nat.le_refl _) _).alloc (by simp) _).alloc (by simp <;> omega) _⟩
  have := Bk.new ((w.alloc (.cells #[.string s, .int .i64 e] 93)).alloc (.cells #[.int .i64 k, .int .i64 0, .int .i64 most] 97)) 93 #[.string ⟨#[]⟩, .int .i64 0]
  simp only [World.size_alloc] at this
  exact this
set_option maxHeartbeats 1000000 in
theorem rdo0_any {s : ByteArray} (hm : s.size ≤ 1099511627776) (e : Nat) (most : Int) (w : World) :
    Calls Tryz.prog 68 #[.agg #[.string s, .int .i64 (e : Int)], .agg #[.int .i64 0, .int .i64 0, .int .i64 most]] w fun r w' => r = .returned (dv0 s e most) ∧ Below w.heap.size w w' := by
  have kk : bits .and .i64 0 7 = 0 := by decide
  obtain ⟨hx0, hr0, hb0⟩ := doW_facts w s (e : Int) 0 most
  have Hx0 := hide hx0
  have Hr0 := hide hr0
  have Hb0 := hide hb0
  clear hx0 hr0 hb0
  by_cases he : e = 0
  · subst he
    obtain ⟨n, t, f, hnr⟩ : ∃ n t f, numR s 0 most = (n, t, f) := ⟨_, _, _, rfl⟩
    have Hn := hide (dv0_of hnr)
    have Hr := hide (fun W => rnum_any hm 0 most W)
    rw [nvR_of hnr] at Hr
    clear hnr
    go_enter Tryz.func68, Tryz.ntmps68
    go_wp2_with fail
    refine (Hr.out _).mono ?_
    rintro x w1 ⟨rfl, hb1⟩
    have hr1 := Hr0.out.below hb1
    have hx1 := Hx0.out.below hb1
    have hbw := Hb0.out.trans (hb1.mono Hb0.out.size)
    have hr2 := hr1.alloc (.cells #[.string t, .int .i64 (f : Int)] 93)
    have hb2 := hbw.alloc hbw.size (.cells #[.string t, .int .i64 (f : Int)] 93)
    have hx2 := hx1.alloc (.cells #[.string t, .int .i64 (f : Int)] 93)
    obtain ⟨⟨r0, r1⟩, g0, g1⟩ := hr1.cells
    obtain ⟨⟨c0, c1⟩, f0, f1⟩ := hx1.cells
    have l1 := Bk.lt hr1
    have l0 := Bk.lt hx1
    have Hr1 := hide hr1
    have Hb1 := hide hbw
    have Hr2 := hide hr2
    have Hb2 := hide hb2
    have Hx2 := hide hx2
    clear hr1 hx1 hbw hr2 hb2 hx2 hb1 Hr
    obtain ⟨WF, hWF, u0, u1, hfr⟩ := sres_endA (Hr1.out) (Hb1.out) (by omega) (t) (f : Int) (.cells #[.string t, .int .i64 (f : Int)] 93)
    have HWF := hide hWF
    have HbF := hide hfr
    clear hWF hfr 
    go_wp2
    rw [HWF.out]
    refine bodyPost_ret (by simp [results, Tryz.results68, go_sem, u0, u1]; try rfl) rfl ?_
    exact ⟨by rw [Hn.out] <;> rfl, HbF.out⟩
  · have Hn := hide (dv0_of (numR_er (s := s) he most))
    have hne : ((e : Int) != 0) = true := by rw [bne_iff_ne]; omega
    go_enter Tryz.func68, Tryz.ntmps68
    go_wp2
    go_returns
    exact ⟨by rw [Hn.out] <;> rfl, (((Below.refl w.heap.size w).alloc (Nat.le_refl _) _).alloc (by simp) _).alloc (by simp <;> omega) _⟩
set_option maxHeartbeats 1000000 in
theorem rdo3_any {s : ByteArray} (hm : s.size ≤ 1099511627776) (e : Nat) (most : Int) (w : World) :
    Calls Tryz.prog 68 #[.agg #[.string s, .int .i64 (e : Int)], .agg #[.int .i64 3, .int .i64 0, .int .i64 most]] w fun r w' => r = .returned (dv3 s e most) ∧ Below w.heap.size w w' := by
  have kk : bits .and .i64 3 7 = 3 := by decide
  obtain ⟨hx0, hr0, hb0⟩ := doW_facts w s (e : Int) 3 most
  have Hx0 := hide hx0
  have Hr0 := hide hr0
  have Hb0 := hide hb0
  clear hx0 hr0 hb0
  by_cases he : e = 0
  · subst he
    obtain ⟨n, t, f, hnr⟩ : ∃ n t f, numR s 0 most = (n, t, f) := ⟨_, _, _, rfl⟩
    have Hr := hide (fun W => rnum_any hm 0 most W)
    have Hf := hide (fun x W => ffail_any s 0 x W)
    rw [nvR_of hnr] at Hr
    by_cases hf : f = 0
    · subst hf
      by_cases hn : (t.size : Int) < n
      · have Hn := hide (dv3_of (textR_short hnr hn))
        clear hnr
        go_enter Tryz.func68, Tryz.ntmps68
        go_wp2_with fail
        refine (Hr.out _).mono ?_
        rintro x w1 ⟨rfl, hb1⟩
        have hr1 := Hr0.out.below hb1
        have hx1 := Hx0.out.below hb1
        have hbw := Hb0.out.trans (hb1.mono Hb0.out.size)
        have hr2 := hr1.alloc (.cells #[.string t, .int .i64 ((0 : Nat) : Int)] 93)
        have hb2 := hbw.alloc hbw.size (.cells #[.string t, .int .i64 ((0 : Nat) : Int)] 93)
        have hx2 := hx1.alloc (.cells #[.string t, .int .i64 ((0 : Nat) : Int)] 93)
        obtain ⟨⟨r0, r1⟩, g0, g1⟩ := hr1.cells
        obtain ⟨⟨c0, c1⟩, f0, f1⟩ := hx1.cells
        have l1 := Bk.lt hr1
        have l0 := Bk.lt hx1
        have Hr1 := hide hr1
        have Hb1 := hide hbw
        have Hr2 := hide hr2
        have Hb2 := hide hb2
        have Hx2 := hide hx2
        clear hr1 hx1 hbw hr2 hb2 hx2 hb1 Hr
        go_wp2_with fail
        refine (Hf.out _ _).mono ?_
        rintro x w3 ⟨rfl, hb3⟩
        have hr3 := Hr2.out.below hb3
        have hbw3 := Hb2.out.trans (hb3.mono Hb2.out.size)
        clear r0 r1 g0 g1 c0 c1 f0 f1
        obtain ⟨⟨r0, r1⟩, g0, g1⟩ := hr3.cells
        have Hr3 := hide hr3
        have Hbw3 := hide hbw3
        clear hr3 hbw3 hb3
        obtain ⟨WF, hWF, u0, u1, hfr⟩ := sres_endB (Hr3.out) (Hbw3.out) (by omega) (s) 12 
        have HWF := hide hWF
        have HbF := hide hfr
        clear hWF hfr 
        go_wp2
        rw [HWF.out]
        refine bodyPost_ret (by simp [results, Tryz.results68, go_sem, u0, u1]; try rfl) rfl ?_
        exact ⟨by rw [Hn.out] <;> rfl, HbF.out⟩
      · have Hn := hide (dv3_of (textR_good hnr hn))
        have hex := ext_drop t n
        have het := ext_take t n
        have hnt : n ≤ t.size := by omega
        clear hnr
        go_enter Tryz.func68, Tryz.ntmps68
        go_wp2_with fail
        refine (Hr.out _).mono ?_
        rintro x w1 ⟨rfl, hb1⟩
        have hr1 := Hr0.out.below hb1
        have hx1 := Hx0.out.below hb1
        have hbw := Hb0.out.trans (hb1.mono Hb0.out.size)
        have hr2 := hr1.alloc (.cells #[.string t, .int .i64 ((0 : Nat) : Int)] 93)
        have hb2 := hbw.alloc hbw.size (.cells #[.string t, .int .i64 ((0 : Nat) : Int)] 93)
        have hx2 := hx1.alloc (.cells #[.string t, .int .i64 ((0 : Nat) : Int)] 93)
        obtain ⟨⟨r0, r1⟩, g0, g1⟩ := hr1.cells
        obtain ⟨⟨c0, c1⟩, f0, f1⟩ := hx1.cells
        have l1 := Bk.lt hr1
        have l0 := Bk.lt hx1
        have Hr1 := hide hr1
        have Hb1 := hide hbw
        have Hr2 := hide hr2
        have Hb2 := hide hb2
        have Hx2 := hide hx2
        clear hr1 hx1 hbw hr2 hb2 hx2 hb1 Hr
        go_wp2
        go_region
        all_goals
          obtain ⟨WF, hWF, u0, u1, hfr⟩ := sres_endD (Hr1.out) (Hb1.out) (by omega) (bs ((toL t).drop n)) 0 (.cells #[.string t, .int .i64 0] 93)
          have HWF := hide hWF
          have HbF := hide hfr
          clear hWF hfr 
          go_wp2
          rw [HWF.out]
          refine bodyPost_ret (by simp [results, Tryz.results68, go_sem, u0, u1]; try rfl) rfl ?_
          exact ⟨by rw [Hn.out] <;> rfl, HbF.out⟩
    · have Hn := hide (dv3_of (textR_er hnr hf))
      have hk := numR_keep hnr hf
      have hne : ((f : Int) != 0) = true := by rw [bne_iff_ne]; omega
      obtain ⟨rfl, rfl⟩ := hk
      clear hnr hf
      go_enter Tryz.func68, Tryz.ntmps68
      go_wp2_with fail
      refine (Hr.out _).mono ?_
      rintro x w1 ⟨rfl, hb1⟩
      have hr1 := Hr0.out.below hb1
      have hx1 := Hx0.out.below hb1
      have hbw := Hb0.out.trans (hb1.mono Hb0.out.size)
      have hr2 := hr1.alloc (.cells #[.string t, .int .i64 (f : Int)] 93)
      have hb2 := hbw.alloc hbw.size (.cells #[.string t, .int .i64 (f : Int)] 93)
      have hx2 := hx1.alloc (.cells #[.string t, .int .i64 (f : Int)] 93)
      obtain ⟨⟨r0, r1⟩, g0, g1⟩ := hr1.cells
      obtain ⟨⟨c0, c1⟩, f0, f1⟩ := hx1.cells
      have l1 := Bk.lt hr1
      have l0 := Bk.lt hx1
      have Hr1 := hide hr1
      have Hb1 := hide hbw
      have Hr2 := hide hr2
      have Hb2 := hide hb2
      have Hx2 := hide hx2
      clear hr1 hx1 hbw hr2 hb2 hx2 hb1 Hr
      obtain ⟨WF, hWF, u0, u1, hfr⟩ := sres_endA (Hr1.out) (Hb1.out) (by omega) (t) (f : Int) (.cells #[.string t, .int .i64 (f : Int)] 93)
      have HWF := hide hWF
      have HbF := hide hfr
      clear hWF hfr 
      go_wp2
      rw [HWF.out]
      refine bodyPost_ret (by simp [results, Tryz.results68, go_sem, u0, u1]; try rfl) rfl ?_
      exact ⟨by rw [Hn.out] <;> rfl, HbF.out⟩
  · have Hn := hide (dv3_of (textR_er (numR_er (s := s) he most) he))
    have hne : ((e : Int) != 0) = true := by rw [bne_iff_ne]; omega
    go_enter Tryz.func68, Tryz.ntmps68
    go_wp2
    go_returns
    exact ⟨by rw [Hn.out] <;> rfl, (((Below.refl w.heap.size w).alloc (Nat.le_refl _) _).alloc (by simp) _).alloc (by simp <;> omega) _⟩
end Go.Proofs.YtgllednilkfpgaaGreat
