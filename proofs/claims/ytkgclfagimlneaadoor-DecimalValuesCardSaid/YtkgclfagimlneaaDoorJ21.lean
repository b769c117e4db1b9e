/-
  The walks over the references: the sum.
-/
import Derived.Test.YtkgclfagimlneaaDoorJ18
set_option linter.unusedVariables false
set_option linter.unusedSimpArgs false
namespace Go.Proofs.YtkgclfagimlneaaDoor
open Go.RowKit Go.Proofs Wv Wv.Dc
set_option linter.unusedVariables false

/-- What lies in memory while two numbers are added by the reference. -/
structure SuSt (w wx : World) (ca cb : Array Value) : Prop where
  ka : Bk wx w.heap.size 49 ca
  kb : Bk wx (w.heap.size + 1) 49 cb
  kr : Bk wx (w.heap.size + 1 + 1) 49 #[.bool false, .string ⟨#[]⟩, .int .i64 0]
  bel : Below w.heap.size w wx
theorem SuSt.below {w W W' : World} {ca cb : Array Value} (h : SuSt w W ca cb) (hb : Below W.heap.size W W') : SuSt w W' ca cb :=
  ⟨h.ka.below hb h.ka.lt, h.kb.below hb h.kb.lt, h.kr.below hb h.kr.lt, h.bel.trans (hb.mono h.bel.size)⟩
theorem SuSt.fr {w W W' : World} {ca cb : Array Value} {g : Nat} (h : SuSt w W ca cb) (hf : Fr (only g) W W') (hg : w.heap.size + 1 + 1 < g) : SuSt w W' ca cb :=
  ⟨h.ka.fr hf (by show ¬ _ = _; omega), h.kb.fr hf (by show ¬ _ = _; omega), h.kr.fr hf (by show ¬ _ = _; omega), h.bel.trans (own_below hf h.bel.size (by omega))⟩
theorem SuSt.start (w : World) (ca cb : Array Value) : SuSt w (((w.alloc (.cells ca 49)).alloc (.cells cb 49)).alloc (.cells #[.bool false, .string ⟨#[]⟩, .int .i64 0] 49)) ca cb where
  ka := ((Bk.new w _ _).alloc _).alloc _
  kb := by
    have := Bk.new (w.alloc (.cells ca 49)) 49 cb
    rw [World.size_alloc] at this
    exact this.alloc _
  kr := by
    have := Bk.new ((w.alloc (.cells ca 49)).alloc (.cells cb 49)) 49 #[.bool false, .string ⟨#[]⟩, .int .i64 0]
    rw [World.size_alloc, World.size_alloc] at this
    exact this
  bel := (two_below w _ _).alloc (by simp <;> omega) _
theorem SuSt.putA {w W : World} {u0 u1 u2 : Value} {cb : Array Value} (h : SuSt w W #[u0, u1, u2] cb) (x y z : Value) : SuSt w (((W.setCell ⟨w.heap.size, 0, none⟩ x).setCell ⟨w.heap.size, 1, none⟩ y).setCell ⟨w.heap.size, 2, none⟩ z) #[x, y, z] cb := by
  have hf : Fr (only w.heap.size) W (((W.setCell ⟨w.heap.size, 0, none⟩ x).setCell ⟨w.heap.size, 1, none⟩ y).setCell ⟨w.heap.size, 2, none⟩ z) := only_set (only_set (only_set (Fr.refl _ _) 0 _) 1 _) 2 _
  exact ⟨by simpa using ((h.ka.put 0 x).put 1 y).put 2 z, h.kb.fr hf (by show ¬ _ = _; omega), h.kr.fr hf (by show ¬ _ = _; omega), h.bel.trans (own_below hf h.bel.size (Nat.le_refl _))⟩
theorem SuSt.putB {w W : World} {u0 u1 u2 : Value} {ca : Array Value} (h : SuSt w W ca #[u0, u1, u2]) (x y z : Value) : SuSt w (((W.setCell ⟨w.heap.size + 1, 0, none⟩ x).setCell ⟨w.heap.size + 1, 1, none⟩ y).setCell ⟨w.heap.size + 1, 2, none⟩ z) ca #[x, y, z] := by
  have hf : Fr (only (w.heap.size + 1)) W (((W.setCell ⟨w.heap.size + 1, 0, none⟩ x).setCell ⟨w.heap.size + 1, 1, none⟩ y).setCell ⟨w.heap.size + 1, 2, none⟩ z) := only_set (only_set (only_set (Fr.refl _ _) 0 _) 1 _) 2 _
  exact ⟨h.ka.fr hf (by show ¬ _ = _; omega), by simpa using ((h.kb.put 0 x).put 1 y).put 2 z, h.kr.fr hf (by show ¬ _ = _; omega), h.bel.trans (own_below hf h.bel.size (by omega))⟩
/-- The cells that the adding reads. -/
def SuS (w : World) (ba : Bool) (sa : ByteArray) (ea : Int) (bb : Bool) (sb : ByteArray) (eb : Int) (W : World) : Prop :=
  W.cell? ⟨w.heap.size, 0, none⟩ = some (.bool ba) ∧ W.cell? ⟨w.heap.size, 1, none⟩ = some (.string sa) ∧ W.cell? ⟨w.heap.size, 2, none⟩ = some (.int .i64 ea) ∧ W.cell? ⟨w.heap.size + 1, 0, none⟩ = some (.bool bb) ∧ W.cell? ⟨w.heap.size + 1, 1, none⟩ = some (.string sb) ∧ W.cell? ⟨w.heap.size + 1, 2, none⟩ = some (.int .i64 eb) ∧ SuSt w W #[.bool ba, .string sa, .int .i64 ea] #[.bool bb, .string sb, .int .i64 eb]
theorem SuS.of {w W : World} {ba : Bool} {sa : ByteArray} {ea : Int} {bb : Bool} {sb : ByteArray} {eb : Int} (k : SuSt w W #[.bool ba, .string sa, .int .i64 ea] #[.bool bb, .string sb, .int .i64 eb]) : SuS w ba sa ea bb sb eb W :=
  ⟨k.ka.cell 0, k.ka.cell 1, k.ka.cell 2, k.kb.cell 0, k.kb.cell 1, k.kb.cell 2, k⟩
theorem SuS.st {w W : World} {ba : Bool} {sa : ByteArray} {ea : Int} {bb : Bool} {sb : ByteArray} {eb : Int} (h : SuS w ba sa ea bb sb eb W) : SuSt w W #[.bool ba, .string sa, .int .i64 ea] #[.bool bb, .string sb, .int .i64 eb] := h.2.2.2.2.2.2
theorem SuS.below {w W W' : World} {ba : Bool} {sa : ByteArray} {ea : Int} {bb : Bool} {sb : ByteArray} {eb : Int} (h : SuS w ba sa ea bb sb eb W) (hb : Below W.heap.size W W') : SuS w ba sa ea bb sb eb W' := SuS.of (h.2.2.2.2.2.2.below hb)
theorem less_bs (X Y : List UInt8) (hX : AllD X) (hY : AllD Y) (hl : X.length = Y.length) : Go.Op.bytesLess (bs X).toList (bs Y).toList = decide (vd X < vd Y) := by
  rw [ByteArray.toList_eq, ByteArray.toList_eq, Bool.eq_iff_iff, decide_eq_true_iff]
  exact less_vd hX hY hl
theorem su_end {w W : World} {ca cb : Array Value} (h : SuSt w W ca cb) (b : Bool) (s : ByteArray) (e : Int) :
    ∃ WF, (((W.setCell ⟨w.heap.size + 1 + 1, 0, none⟩ (.bool b)).setCell ⟨w.heap.size + 1 + 1, 1, none⟩ (.string s)).setCell ⟨w.heap.size + 1 + 1, 2, none⟩ (.int .i64 e)) = WF ∧ WF.cell? ⟨w.heap.size + 1 + 1, 0, none⟩ = some (.bool b) ∧ WF.cell? ⟨w.heap.size + 1 + 1, 1, none⟩ = some (.string s) ∧ WF.cell? ⟨w.heap.size + 1 + 1, 2, none⟩ = some (.int .i64 e) ∧ Below w.heap.size w WF := strip_end h.kr h.bel (by omega) b s e
set_option maxRecDepth 100000 in
set_option maxHeartbeats 4000000 in
theorem rsum_any {a b : Num} (ha : Canon a) (hb : Canon b) (sa : Sm a) (sb : Sm b) (ka : -417 ≤ a.ex) (kb : -417 ≤ b.ex) (w : World) :
    Calls Tryd.prog 42 #[PV a, PV b] w fun x w' => x = .returned (PV (addN a b)) ∧ Below w.heap.size w w' := by
  have Hpl := hide (fun W => rplaces_any sa sb W)
  obtain ⟨p1, p2, p3⟩ := plc_le ka kb
  have hsum := fun k => sumR_eq (k := k) ha hb ka kb
  have hsumR : ∀ k, sumR k a b = if a.neg = b.neg then trimN ⟨a.neg, digs (k + 1) (Ax (plc a b) a + Ax (plc a b) b), -(plc a b : Int)⟩
    else if Ax (plc a b) a < Ax (plc a b) b then trimN ⟨b.neg, digs k (Ax (plc a b) b - Ax (plc a b) a), -(plc a b : Int)⟩
    else trimN ⟨a.neg, digs k (Ax (plc a b) a - Ax (plc a b) b), -(plc a b : Int)⟩ := fun k => rfl
  obtain ⟨p, hp⟩ : ∃ p, plc a b = p := ⟨_, rfl⟩
  rw [hp] at p1 p2 p3 Hpl hsum hsumR
  have Hfa := hide (fun W => rfixed_any sa p p2 (by omega) W)
  have Hfb := hide (fun W => rfixed_any sb p p3 (by omega) W)
  have la : (fixL a p).length ≤ 8000 := by
    have := sa.len
    have := sa.hi
    rw [fixL_len]
    split <;> omega
  have lb : (fixL b p).length ≤ 8000 := by
    have := sb.len
    have := sb.hi
    rw [fixL_len]
    split <;> omega
  have aa := fixL_all ha.all p
  have ab := fixL_all hb.all p
  have va := fixL_vd (n := a) sa.zero p p2
  have vb := fixL_vd (n := b) sb.zero p p3
  generalize fixL a p = X0 at *
  generalize fixL b p = Y0 at *
  obtain ⟨k, hk⟩ : ∃ k, max (max X0.length Y0.length) 1 = k := ⟨_, rfl⟩
  have hk8 : k ≤ 8000 := by omega
  have Hpa := hide (fun W => rpad_any X0 k (by omega) (by omega) W)
  have Hpb := hide (fun W => rpad_any Y0 k (by omega) (by omega) W)
  have lX := padL_len X0 k (by omega)
  have lY := padL_len Y0 k (by omega)
  have aX := padL_all aa k
  have aY := padL_all ab k
  have vX := padL_vd X0 k
  have vY := padL_vd Y0 k
  rw [va] at vX
  rw [vb] at vY
  generalize padL X0 k = X at *
  generalize padL Y0 k = Y at *
  have bX := vd_lt aX
  have bY := vd_lt aY
  rw [vX, lX] at bX
  rw [vY, lY] at bY
  have hsk := hsum k bX bY
  rw [hsumR k] at hsk
  have hless := less_bs X Y aX aY (by rw [lX, lY])
  rw [vX, vY] at hless
  have Hadd := hide (fun W => radd_any X Y aX aY (by rw [lX, lY]) (by omega) W)
  have Hsub1 := hide (fun (h : Ax p b ≤ Ax p a) W => rsub_any X Y aX aY (by rw [lX, lY]) (by rw [vX, vY]; exact h) (by omega) W)
  have Hsub2 := hide (fun (h : Ax p a ≤ Ax p b) W => rsub_any Y X aY aX (by rw [lX, lY]) (by rw [vX, vY]; exact h) (by omega) W)
  rw [vX, vY, lX] at Hadd
  rw [vX, vY, lX] at Hsub1
  rw [vX, vY, lY] at Hsub2
  have zX0 : (bs X0).size = X0.length := bs_size _
  have zY0 : (bs Y0).size = Y0.length := bs_size _
  generalize Ax p a = xa at *
  generalize Ax p b = xb at *
  have Hless := hide hless
  have Hsk := hide hsk
  obtain ⟨SX0, hSX0⟩ : ∃ S, bs X0 = S := ⟨_, rfl⟩
  obtain ⟨SY0, hSY0⟩ : ∃ S, bs Y0 = S := ⟨_, rfl⟩
  obtain ⟨SX, hSX⟩ : ∃ S, bs X = S := ⟨_, rfl⟩
  obtain ⟨SY, hSY⟩ : ∃ S, bs Y = S := ⟨_, rfl⟩
  rw [hSX0] at Hfa Hpa zX0
  rw [hSY0] at Hfb Hpb zY0
  rw [hSX] at Hpa Hadd Hsub1 Hsub2 Hless
  rw [hSY] at Hpb Hadd Hsub1 Hsub2 Hless
  obtain ⟨Ea, pa, -, ea1, ea2⟩ := sm_fst sa
  obtain ⟨Eb, pb, -, eb1, eb2⟩ := sm_fst sb
  rw [pa] at Hpl Hfa ⊢
  rw [pb] at Hpl Hfb ⊢
  obtain ⟨R, hR⟩ : ∃ R, addN a b = R := ⟨_, rfl⟩
  rw [hR] at Hsk ⊢
  obtain ⟨ba, da, xxa⟩ := a
  obtain ⟨bb, db, xxb⟩ := b
  simp only at *
  obtain ⟨Sa, hSa⟩ : ∃ S, bs da = S := ⟨_, rfl⟩
  obtain ⟨Sb, hSb⟩ : ∃ S, bs db = S := ⟨_, rfl⟩
  rw [hSa] at Hpl Hfa ⊢
  rw [hSb] at Hpl Hfb ⊢
  obtain ⟨nr, dr, xr⟩ := R
  obtain ⟨Er, hEr⟩ : ∃ E, fstE ⟨nr, dr, xr⟩ = E := ⟨_, rfl⟩
  have hpr : PV ⟨nr, dr, xr⟩ = .agg #[.bool nr, .string (bs dr), .int .i64 Er] := by unfold PV; rw [hEr]
  rw [hpr]
  have Hstr : Hid (∀ (s : Bool) (j m : Nat), j ≤ 8001 → trimN ⟨s, digs j m, -(p : Int)⟩ = ⟨nr, dr, xr⟩ → ∀ W, Calls Tryd.prog 55 #[.agg #[.bool s, .string (bs (digs j m)), .int .i64 ((j : Int) - 1 - p)]] W fun x w' => x = .returned (.agg #[.bool nr, .string (bs dr), .int .i64 Er]) ∧ Below W.heap.size W w') := hide (fun s j m hj ht W => by
    have := rstrip_any s (digs j m) ((j : Int) - 1 - p) (by omega) (by omega) (by rw [digs_len]; omega) W
    rw [digs_len, show (j : Int) - 1 - p - j + 1 = -(p : Int) by omega, ht, hpr] at this
    exact this)
  have Hst := hide (SuSt.start w #[.bool ba, .string Sa, .int .i64 Ea] #[.bool bb, .string Sb, .int .i64 Eb])
  have hki : max (max (X0.length : Int) (Y0.length : Int)) 1 = (k : Int) := by omega
  have Hki := hide hki
  have lX0 : X0.length ≤ 8000 := la
  have lY0 : Y0.length ≤ 8000 := lb
  have hmx : max (X0.length : Int) (max (Y0.length : Int) 1) = (k : Int) := by omega
  clear hp hsum hsumR la lb aa ab va vb hk lX lY aX aY vX vY bX bY hsk hless hSX0 hSY0 hSX hSY pa pb hR hSa hSb hEr hpr sa sb ha hb p2 p3 ka kb hki hmx
  generalize X0.length = lx at *
  generalize Y0.length = ly at *
  go_enter Tryd.func42, Tryd.ntmps42
  go_upto_region 1 with fail
  obtain ⟨W0, hW0⟩ : ∃ W, (((w.alloc (.cells #[.bool ba, .string Sa, .int .i64 Ea] 49)).alloc (.cells #[.bool bb, .string Sb, .int .i64 Eb] 49)).alloc (.cells #[.bool false, .string ⟨#[]⟩, .int .i64 0] 49)) = W := ⟨_, rfl⟩
  rw [hW0] at Hst ⊢
  clear hW0
  obtain ⟨c0, c1, c2, d0, d1, d2, _⟩ := SuS.of Hst.out
  go_wp2_with fail
  refine (Hpl.out _).mono ?_
  rintro x w1 ⟨rfl, hb1⟩
  have Hst1 := hide (Hst.out.below hb1)
  clear c0 c1 c2 d0 d1 d2 hb1 Hst Hpl
  go_wp2
  go_cut [6, 7] (fun s6 s7 wx => s6 = .string SX0 ∧ s7 = .string SY0 ∧ SuSt w wx #[.bool ba, .string Sa, .int .i64 Ea] #[.bool bb, .string Sb, .int .i64 Eb])
  case first =>
    have H1 : SuS w ba Sa Ea bb Sb Eb w1.drew := SuS.of (Hst1.out.below ((Below.refl _ _).drew))
    unfold SuS at H1
    clear Hst1 Hpa Hpb Hadd Hsub1 Hsub2 Hstr Hsk Hless
    go_region_held3 (fun W => W.cell? ⟨w.heap.size, 0, none⟩ = some (.bool ba) ∧ W.cell? ⟨w.heap.size, 1, none⟩ = some (.string Sa) ∧ W.cell? ⟨w.heap.size, 2, none⟩ = some (.int .i64 Ea) ∧ W.cell? ⟨w.heap.size + 1, 0, none⟩ = some (.bool bb) ∧ W.cell? ⟨w.heap.size + 1, 1, none⟩ = some (.string Sb) ∧ W.cell? ⟨w.heap.size + 1, 2, none⟩ = some (.int .i64 Eb) ∧ SuSt w W #[.bool ba, .string Sa, .int .i64 Ea] #[.bool bb, .string Sb, .int .i64 Eb]) (first | exact H1 | assumption | exact SuS.below (by assumption) (by assumption))
      (first
        | (go_at_call 47; with_reducible refine (Hfa.out _).mono ?_; rintro r wx ⟨rfl, hbx⟩)
        | (go_at_call 47; with_reducible refine (Hfb.out _).mono ?_; rintro r wy ⟨rfl, hby⟩))
    all_goals
      go_wp2
      go_meet
      case rel => exact ⟨rfl, rfl, SuS.st (by assumption)⟩
  case rest =>
    obtain ⟨rfl, rfl, hst⟩ := hcut
    have Hst2 := hide hst
    clear hst Hst1 Hfa Hfb
    go_upto_region 3 with fail
    go_cut [8] (fun s8 wx => s8 = .int .i64 (k : Int) ∧ wx = wc)
    case first =>
      clear Hst2 Hpa Hpb Hadd Hsub1 Hsub2 Hstr Hsk Hless
      go_wp2
      all_goals
        go_meet
        case rel => exact ⟨by congr 1; have := Hki.out; repeat' (first | omega | split), rfl⟩
    case rest =>
      obtain ⟨rfl, rfl⟩ := hcut
      go_wp2_with fail
      refine (Hpa.out _).mono ?_
      rintro x w3 ⟨rfl, hb3⟩
      have Hst3 := hide (Hst2.out.below hb3)
      clear hb3 Hst2 Hpa
      go_wp2_with fail
      refine (Hpb.out _).mono ?_
      rintro x w4 ⟨rfl, hb4⟩
      have Hst4 := hide (Hst3.out.below hb4)
      clear hb4 Hst3 Hpb zX0 zY0 lX0 lY0 Hki
      obtain ⟨c0, c1, c2, d0, d1, d2, _⟩ := SuS.of Hst4.out
      by_cases hn : ba = bb
      · have hsk := Hsk.out
        rw [if_pos hn] at hsk
        have hz := digs_len (k + 1) (xa + xb)
        have Hs := hide (Hstr.out ba (k + 1) (xa + xb) (by omega) hsk)
        have hbz : (bs (digs (k + 1) (xa + xb))).size = k + 1 := by rw [bs_size, hz]
        rw [show ((k + 1 : Nat) : Int) - 1 - (p : Int) = (k : Int) - (p : Int) by omega] at Hs
        have hi : ((k + 1 : Nat) : Int) - 1 - (p : Int) = (k : Int) - (p : Int) := by omega
        clear hsk hz Hsk Hless Hsub1 Hsub2 Hstr
        generalize bs (digs (k + 1) (xa + xb)) = SS at *
        have hnn : (ba == bb) = true := by rw [hn]; exact beq_self_eq_true _
        subst hn
        go_wp2_with fail
        refine (Hadd.out _).mono ?_
        rintro x w5 ⟨rfl, hb5⟩
        have Hst5 := hide (Hst4.out.below hb5)
        clear c0 c1 c2 d0 d1 d2 hb5 Hst4 Hadd
        obtain ⟨c0, c1, c2, d0, d1, d2, _⟩ := SuS.of Hst5.out
        go_wp2_with fail
        refine (Hs.out _).mono ?_
        rintro x w9 ⟨rfl, hb9⟩
        have hst9 := (Hst5.out).below hb9
        have r0 := hst9.kr.cell 0
        have r1 := hst9.kr.cell 1
        have r2 := hst9.kr.cell 2
        have g0 := hst9.kr.frozen 0
        have g1 := hst9.kr.frozen 1
        have g2 := hst9.kr.frozen 2
        simp at r0 r1 r2
        obtain ⟨WF, hWF, u0, u1, u2, hbF⟩ := su_end hst9 nr (bs dr) Er
        have HWF := hide hWF
        have HbF := hide hbF
        clear hst9 hb9 hWF hbF c0 c1 c2 d0 d1 d2
        go_wp2
        rw [HWF.out]
        refine bodyPost_ret (by simp [results, Tryd.results42, go_sem, u0, u1, u2]; try rfl) rfl ?_
        exact ⟨rfl, HbF.out⟩
      · have hsk := Hsk.out
        rw [if_neg hn] at hsk
        have hnn : (ba == bb) = false := by rw [beq_eq_false_iff_ne]; exact hn
        obtain ⟨bp, Sp, Ep, bq, Sq, Eq, SA, SB, m, hway, hm, Hsub⟩ : ∃ (bp : Bool) (Sp : ByteArray) (Ep : Int) (bq : Bool) (Sq : ByteArray) (Eq : Int) (SA SB : ByteArray) (m : Nat),
            ((xa < xb ∧ (bp, Sp, Ep) = (bb, Sb, Eb) ∧ (SA, SB) = (SY, SX)) ∨ (¬ xa < xb ∧ (bp, Sp, Ep) = (ba, Sa, Ea) ∧ (SA, SB) = (SX, SY))) ∧
            trimN ⟨bp, digs k m, -(p : Int)⟩ = ⟨nr, dr, xr⟩ ∧
            Hid (∀ W, Calls Tryd.prog 60 #[.string SA, .string SB] W fun x w' => x = .returned (.string (bs (digs k m))) ∧ Below W.heap.size W w') := by
          by_cases h : xa < xb
          · rw [if_pos h] at hsk
            exact ⟨_, _, _, bb, Sb, Eb, _, _, _, .inl ⟨h, rfl, rfl⟩, hsk, hide (Hsub2.out (by omega))⟩
          · rw [if_neg h] at hsk
            exact ⟨_, _, _, bb, Sb, Eb, _, _, _, .inr ⟨h, rfl, rfl⟩, hsk, hide (Hsub1.out (by omega))⟩
        have hz := digs_len k m
        have Hs := hide (Hstr.out bp k m (by omega) hm)
        have hbz : (bs (digs k m)).size = k := by rw [bs_size, hz]
        clear hsk hz Hsk Hsub1 Hsub2 Hstr Hadd hm
        generalize bs (digs k m) = SS at *
        obtain ⟨lt, hlt⟩ : ∃ b, Op.bytesLess SX.toList SY.toList = b := ⟨_, rfl⟩
        have Hlt : Hid (lt = decide (xa < xb)) := hide (by rw [← hlt, Hless.out])
        clear Hless
        go_upto_if 35 with fail
        go_upto_if 51 with fail
        clear hlt
        go_cut [6, 7] (fun s6 s7 wx => s6 = .string SA ∧ s7 = .string SB ∧ SuSt w wx #[.bool bp, .string Sp, .int .i64 Ep] #[.bool bb, .string Sb, .int .i64 Eb])
        case first =>
          have f0 := Hst4.out.ka.frozen 0
          have f1 := Hst4.out.ka.frozen 1
          have f2 := Hst4.out.ka.frozen 2
          clear Hsub Hs hbz
          rcases hway with ⟨h, h1, h2⟩ | ⟨h, h1, h2⟩
          · simp only [Prod.mk.injEq] at h1 h2
            obtain ⟨rfl, rfl, rfl⟩ := h1
            obtain ⟨rfl, rfl⟩ := h2
            have hl : lt = true := by rw [Hlt.out]; simpa using h
            subst hl
            clear Hlt
            go_wp2
            go_region
            all_goals
              go_wp2
              go_meet
              case rel => exact ⟨rfl, rfl, by first | exact Hst4.out.putA _ _ _ | exact (Hst4.out.below ((Below.refl _ _).drew)).putA _ _ _⟩
          · simp only [Prod.mk.injEq] at h1 h2
            obtain ⟨rfl, rfl, rfl⟩ := h1
            obtain ⟨rfl, rfl⟩ := h2
            have hl : lt = false := by rw [Hlt.out]; simpa using h
            subst hl
            clear Hlt
            go_wp2
            go_meet
            case rel => exact ⟨rfl, rfl, Hst4.out⟩
        case rest =>
          obtain ⟨rfl, rfl, hst⟩ := hcut
          have Hst5 := hide hst
          clear c0 c1 c2 d0 d1 d2 hst Hst4 hway Hlt
          obtain ⟨c0, c1, c2, d0, d1, d2, _⟩ := SuS.of Hst5.out
          go_wp2_with fail
          refine (Hsub.out _).mono ?_
          rintro x w6 ⟨rfl, hb6⟩
          have Hst6 := hide (Hst5.out.below hb6)
          clear c0 c1 c2 d0 d1 d2 hb6 Hst5 Hsub
          obtain ⟨c0, c1, c2, d0, d1, d2, _⟩ := SuS.of Hst6.out
          go_wp2_with fail
          refine (Hs.out _).mono ?_
          rintro x w9 ⟨rfl, hb9⟩
          have hst9 := (Hst6.out).below hb9
          have r0 := hst9.kr.cell 0
          have r1 := hst9.kr.cell 1
          have r2 := hst9.kr.cell 2
          have g0 := hst9.kr.frozen 0
          have g1 := hst9.kr.frozen 1
          have g2 := hst9.kr.frozen 2
          simp at r0 r1 r2
          obtain ⟨WF, hWF, u0, u1, u2, hbF⟩ := su_end hst9 nr (bs dr) Er
          have HWF := hide hWF
          have HbF := hide hbF
          clear hst9 hb9 hWF hbF c0 c1 c2 d0 d1 d2
          go_wp2
          rw [HWF.out]
          refine bodyPost_ret (by simp [results, Tryd.results42, go_sem, u0, u1, u2]; try rfl) rfl ?_
          exact ⟨rfl, HbF.out⟩
end Go.Proofs.YtkgclfagimlneaaDoor
