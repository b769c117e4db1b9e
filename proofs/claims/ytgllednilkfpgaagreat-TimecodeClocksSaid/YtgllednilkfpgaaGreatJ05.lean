/-
  Joined texts: Wb, Wc, Wd, We.
-/
import Derived.Test.YtgllednilkfpgaaGreatJ04
import Derived.Test.YtgllednilkfpgaaGreatJ01
import Derived.Deep.QuietTactic
import Derived.BigQuiet
import Derived.Deep.DeepCutAuto
import Derived.Deep.RegionLaw
import Derived.Deep.RegionHeld3
import Derived.Test.YtgllednilkfpgaaGreatJ03
import Derived.BigRegion
set_option linter.unusedVariables false
set_option linter.unusedSimpArgs false
/-
  The walks over the range coder, second part: the encoder's bit.
-/
namespace Go.Proofs.YtgllednilkfpgaaGreat
open Go.RowKit Go.Proofs Wv Wv.Vi Wv.Rc
set_option linter.unusedVariables false

theorem epart_zero (p : Nat) (e : En) : epart p 0 e = ⟨e.out, e.low, e.size / 2048 * p⟩ := by unfold epart; rw [if_pos rfl]
theorem epart_over (p : Nat) (e : En) (B : Nat) (hB : e.size / 2048 * p = B) (h : 4294967296 ≤ e.low + B) : epart p 1 e = ⟨carry e.out, e.low + B - 4294967296, e.size - B⟩ := by
  unfold epart; rw [hB, if_neg (by omega), if_pos h]
theorem epart_under (p : Nat) (e : En) (B : Nat) (hB : e.size / 2048 * p = B) (h : ¬ 4294967296 ≤ e.low + B) : epart p 1 e = ⟨e.out, e.low + B, e.size - B⟩ := by
  unfold epart; rw [hB, if_neg (by omega), if_neg h]

/-- How far a size is from the least one. -/
def szmu (b : Nat) (w : World) : Nat := match w.cell? ⟨b, 2, none⟩ with
  | some (.int _ n) => (16777216 - n).toNat
  | _ => 0
theorem szmu_eq {w : World} {b : Nat} {dv : Value} {e : En} (h : EnAt w b dv e) : szmu b w = (16777216 - (e.size : Int)).toNat := by
  have := h.1.cell 2
  simp at this
  unfold szmu
  rw [this]
theorem EnAt.put1 {w : World} {b : Nat} {dv : Value} {e : En} (h : EnAt w b dv e) (x : Nat) : EnAt (w.setCell ⟨b, 1, none⟩ (.int .u32 (x : Int))) b dv ⟨e.out, x, e.size⟩ :=
  ⟨by simpa using h.1.put 1 (.int .u32 (x : Int)), own_off h.2 (p := ⟨b, 1, none⟩) h.apart _⟩
theorem EnAt.put2 {w : World} {b : Nat} {dv : Value} {e : En} (h : EnAt w b dv e) (x : Nat) : EnAt (w.setCell ⟨b, 2, none⟩ (.int .u32 (x : Int))) b dv ⟨e.out, e.low, x⟩ :=
  ⟨by simpa using h.1.put 2 (.int .u32 (x : Int)), own_off h.2 (p := ⟨b, 2, none⟩) h.apart _⟩
theorem foot_set {w w' : World} {b : Nat} {dv : Value} (h : Fr (foot b dv) w w') (o : Nat) (x : Value) : Fr (foot b dv) w (w'.setCell ⟨b, o, none⟩ x) := h.setCell (p := ⟨b, o, none⟩) (.inl (.inl rfl)) x

set_option maxRecDepth 100000 in
set_option maxHeartbeats 2000000 in
theorem rbit_any {w : World} {b : Nat} {dv : Value} {e : En} (h : EnAt w b dv e) (hv : Val 0 e) (p bit : Nat) (hp1 : 1 ≤ p) (hp2 : p ≤ 2047) (hb2 : bit < 2) (hl : e.out.length ≤ 1000000) :
    Calls Tryz.prog 190 #[.pointer (some ⟨b, 0, none⟩), .int .i64 (p : Int), .int .i64 (bit : Int)] w fun x w' => x = .returned (.tuple #[]) ∧ ∃ dv', EnAt w' b dv' (ebit p bit e) ∧ Fr (foot b dv) w w' ∧ OwnNew w dv dv' := by
  obtain ⟨v1, v2⟩ := val_up hv
  obtain ⟨b1, b2⟩ := bound_le e.size p v1 hp1 hp2
  have hlow := hv.low
  have hpv := (epart_val hv (b := bit) hp1 hp2).1
  have hpl := (epart_val hv (b := bit) hp1 hp2).2.2.2
  obtain ⟨B, hB⟩ : ∃ B, e.size / 2048 * p = B := ⟨_, rfl⟩
  have htop := hv.top
  have c0 := h.1.cell 0
  have c1 := h.1.cell 1
  have c2 := h.1.cell 2
  have f1 := h.1.frozen 1
  have f2 := h.1.frozen 2
  simp at c0 c1 c2
  have Hcl := hide (rclamp_any (p : Int) (by omega) (by omega))
  rw [hB] at b1 b2
  have HB := hide hB
  have H := hide h
  have i0 : IntKind.u32.wrap ((e.size : Int) / 2048 * (p : Int)) = (B : Int) := by
    have : (e.size : Int) / 2048 * (p : Int) = (B : Int) := by rw [← HB.out, Int.natCast_mul, Int.natCast_ediv]; rfl
    rw [this, IntWalk.u32_in _ (by omega)]
  have Hpv := hide hpv
  have Hpl := hide hpl
  have Htop := hide htop
  have Hv := hide hv
  clear h hB hpv hpl htop hv
  go_enter Tryz.func190, Tryz.ntmps190
  go_wp2
  go_quiet ((go_at_call 191; exact q1 (Hcl.out _)))
  clear i0
  go_upto_if 17 with fail
  go_cut [] (fun wx => EnAt wx b dv (epart p bit e) ∧ Fr (foot b dv) w wx)
  case first =>
    have hz : bit = 0 ∨ bit = 1 := by omega
    rcases hz with rfl | rfl
    · have Hz := hide (epart_zero p e)
      rw [HB.out] at Hz
      go_wp2
      go_meet
      case rel =>
        rw [Hz.out]
        exact ⟨((H.out).drewN nq).put2 B, foot_set ((Fr.refl _ _).drewN nq) 2 _⟩
    · have i2 : (e.size : Int) - (B : Int) = ((e.size - B : Nat) : Int) := by omega
      obtain ⟨R, hR⟩ : ∃ R, e.size - B = R := ⟨_, rfl⟩
      rw [hR] at i2
      by_cases hov : 4294967296 ≤ e.low + B
      · have Hz := hide (epart_over p e B HB.out hov)
        obtain ⟨L, hL⟩ : ∃ L, e.low + B - 4294967296 = L := ⟨_, rfl⟩
        have i1 : ((e.low : Int) + (B : Int)) % 4294967296 = (L : Int) := by omega
        have hLl : (L : Int) < (e.low : Int) := by omega
        rw [hL, hR] at Hz
        have hpos : 0 < e.out.length := by
          rcases Nat.eq_zero_or_pos e.out.length with h9 | h9
          · have h8 := Htop.out
            have h7 : N e = vl 0 e.out * 4294967296 + e.low := rfl
            rw [h7, h9] at h8
            simp only [Nat.pow_zero, Nat.mul_one] at h8
            omega
          · exact h9
        have Hc := hide (rcarry_any ((H.out).drewN nq) hpos (by omega))
        clear hL hR hov hpos
        go_wp2_with fail
        refine (Hc.out).mono ?_
        rintro x w2 ⟨rfl, he2, hf2⟩
        have q1 := he2.1.cell 1
        have q2 := he2.1.cell 2
        have p1 := he2.1.frozen 1
        have p2 := he2.1.frozen 2
        simp at q1 q2
        have He2 := hide he2
        have Hf2 := hide hf2
        clear he2 hf2
        go_wp2
        go_meet
        case rel =>
          rw [Hz.out]
          exact ⟨(He2.out.put1 L).put2 R, foot_set (foot_set (((Fr.refl _ _).drewN nq).trans Hf2.out) 1 _) 2 _⟩
      · have Hz := hide (epart_under p e B HB.out hov)
        obtain ⟨L, hL⟩ : ∃ L, e.low + B = L := ⟨_, rfl⟩
        have hst := hide (show (e.low : Int) + (B : Int) = (L : Int) by omega)
        rw [hL, hR] at Hz
        have i1 : ((e.low : Int) + (B : Int)) % 4294967296 = (L : Int) := by omega
        have hLl : ¬ (L : Int) < (e.low : Int) := by omega
        clear hL hR hov
        go_wp2
        go_meet
        case rel =>
          rw [Hz.out, hst.out]
          exact ⟨(((H.out).drewN nq).put1 L).put2 R, foot_set (foot_set ((Fr.refl _ _).drewN nq) 1 _) 2 _⟩
  case rest =>
    obtain ⟨he, hf⟩ := hcut
    obtain ⟨i0', hi, hz0, hz1, hz2⟩ := info_parts u8inf
    have hlen := Hpl.out
    clear c0 c1 c2 f1 f2
    go_wp2
    go_loopw [] (fun wr => ∃ (k : Nat) (dr : Value) (x : En), EnAt wr b dr x ∧ Val k x ∧ k ≤ 2 ∧ Hid (enorm k x = ebit p bit e) ∧ Fr (foot b dv) w wr ∧ OwnNew w dv dr ∧ x.out.length ≤ e.out.length + 2 - k) (fun wr => szmu b wr)
    case atStart => exact ⟨2, dv, _, he, Hpv.out, Nat.le_refl _, hide rfl, hf, .inl rfl, by omega⟩
    case round =>
      clear he hf hlen
      obtain ⟨k, dr, x, hx, hvx, hk, hn, hf, hon, hlx⟩ := hrel
      have q0 := hx.1.cell 0
      have q1 := hx.1.cell 1
      have q2 := hx.1.cell 2
      simp at q0 q1 q2
      have hlow := hvx.low
      have hsz := hvx.sz.2
      by_cases hlt : x.size < 16777216
      · obtain ⟨j, rfl⟩ : ∃ j, k = j + 1 := by
          rcases Nat.eq_zero_or_pos k with h9 | h9
          · subst h9
            have := val_up hvx
            omega
          · exact ⟨k - 1, by omega⟩
        have hvs := eshift_val hvx hlt
        have hen : enorm (j + 1) x = enorm j (eshift x) := by rw [enorm, if_pos hlt]
        have Hen := hide hen
        have Hvs := hide hvs
        have hlt2 : (x.size : Int) < 16777216 := by omega
        have hsz0 : 0 < x.size := by
          have := hvx.sz.1
          rcases Nat.eq_zero_or_pos x.size with h9 | h9
          · rw [h9, Nat.zero_mul] at this; omega
          · exact h9
        obtain ⟨y, hy⟩ : ∃ y, x.low / 16777216 = y := ⟨_, rfl⟩
        have hy8 : y < 256 := by omega
        have i1 : (x.low : Int) / 16777216 = (y : Int) := by omega
        have i2 : IntKind.u8.wrap (y : Int) = (y : Int) := by rw [IntWalk.u8_in _ (by omega)]
        obtain ⟨L, hL⟩ : ∃ L, x.low * 256 % 4294967296 = L := ⟨_, rfl⟩
        have i3 : IntKind.u32.wrap ((x.low : Int) * 256) = (L : Int) := by rw [IntKind.wrap_u32']; omega
        obtain ⟨R, hR⟩ : ∃ R, x.size * 256 = R := ⟨_, rfl⟩
        have i4 : IntKind.u32.wrap ((x.size : Int) * 256) = (R : Int) := by rw [IntKind.wrap_u32']; omega
        have Hsh : Hid (eshift x = ⟨x.out ++ [UInt8.ofNat y], L, R⟩) := hide (by unfold eshift; rw [hy, hL, hR])
        obtain ⟨dr', w1, hrun, hown1, hg1, hat⟩ := run_app1 (P := Tryz.prog) (w := wr) 44 44 5 _ _ 1 Tryz.underlying44 u8inf rfl (by omega) hx.2 [.int .u8 (y : Int)] rfl (by simp [Value.oneCell']) (by unfold maxLen; omega) (by omega) (Nat.zero_le _)
        obtain ⟨A', M', cap', rfl⟩ := own_slice hown1
        have hbk1 := (hx.1.alloc (.cells #[.int .u8 (y : Int)] 5)).drew.grown hg1 (fun e => hx.apart e.symm)
        have r0 := hbk1.cell 0
        have r1 := hbk1.cell 1
        have r2 := hbk1.cell 2
        have t0 := hbk1.frozen 0
        have t1 := hbk1.frozen 1
        have t2 := hbk1.frozen 2
        simp at r0 r1 r2
        have Hrun := hide hrun
        have hbl := hx.1.lt
        have hbl1 := hbk1.lt
        have hap : (Value.slice A' M' cap').ownBlock ≠ some b := own_apart hown1 hbk1 (by decide)
        have hx1 : EnAt (w1.setCell ⟨b, 0, none⟩ (Value.slice A' M' cap')) b (Value.slice A' M' cap') ⟨x.out ++ [UInt8.ofNat y], x.low, x.size⟩ := by
          refine ⟨by simpa using hbk1.put 0 (Value.slice A' M' cap'), ?_⟩
          have h7 := own_off hown1 (p := ⟨b, 0, none⟩) hap (Value.slice A' M' cap')
          have h8 : x.out.map bv ++ [.int .u8 (y : Int)] = (x.out ++ [UInt8.ofNat y]).map bv := by
            rw [List.map_append]
            simp [bv, Nat.mod_eq_of_lt hy8]
          rw [h8] at h7
          rw [List.length_append]
          exact h7
        have hx2 := (hx1.drewN 1).put1 L |>.put2 R
        have hf1 : Fr (foot b dv) w (w1.setCell ⟨b, 0, none⟩ (Value.slice A' M' cap')) := foot_set (((hf.alloc (.cells #[.int .u8 (y : Int)] 5)).drew).grown hg1 (fun g hg => by
          rcases hon with h9 | h9
          · exact .inl (.inr (h9 ▸ hg))
          · exact .inr (h9 g hg))) 0 _
        have hon1 : OwnNew w dv (Value.slice A' M' cap') := by
          rcases hat with h9 | h9
          · rcases hon with h10 | h10
            · exact .inl (h9.trans h10)
            · exact .inr (fun g hg => h10 g (h9 ▸ hg))
          · refine .inr (fun g hg => ?_)
            have h10 : some g = some (wr.heap.size + 1) := hg.symm.trans h9
            injection h10 with h10
            have := hf.size
            omega
        have Hx2 := hide hx2
        have Hx1 := hide hx1
        have Hx := hide hx
        have HR := hide hR
        have Hf1 := hide hf1
        have Hon1 := hide hon1
        clear hx1 hx2 hf1 hon1 hrun hown1 hg1 hat hbk1 hvs hen hvx hx hlt hf hon hy hL hR hap
        go_wp2
        go_region_law ((refine step_run (by rfl) _ _ _ (by rfl) _ _ (by rfl) (by rfl) Hrun.out ?_))
        all_goals
          clear r0 r1 r2 t0 t1 t2 q0 q1
          generalize w1.setCell ⟨b, 0, none⟩ (.slice A' M' cap') = W at *
          have r1 := Hx1.out.1.cell 1
          have r2 := Hx1.out.1.cell 2
          have t1 := Hx1.out.1.frozen 1
          have t2 := Hx1.out.1.frozen 2
          simp at r1 r2
        all_goals
          go_wp2
          go_region
        all_goals
          go_wp2
          go_roundw
          case rel =>
            refine ⟨j, .slice A' M' cap', eshift x, ?_, Hvs.out, by omega, hide (by rw [← Hen.out, hn.out]), (foot_set (foot_set Hf1.out 1 _) 2 _).drew, Hon1.out, by rw [eshift_len]; omega⟩
            rw [Hsh.out]
            exact ((Hx1.out.put1 L).put2 R).drew
          case measure =>
            show szmu b _ < szmu b _
            rw [szmu_eq (((Hx1.out.put1 L).put2 R).drew), szmu_eq Hx.out]
            have := HR.out
            simp only
            omega
      · have hen : enorm k x = x := by cases k with
          | zero => rfl
          | succ k => rw [enorm, if_neg hlt]
        have Hen := hide hen
        have hlt2 : ¬ (x.size : Int) < 16777216 := by omega
        clear hlt hen
        go_wp2
        go_end0
        refine ⟨rfl, dr, ?_, hf, hon⟩
        rw [← hn.out, Hen.out]
        exact hx
end Go.Proofs.YtgllednilkfpgaaGreat
/-
  The walks over the range coder: a new encoder, many bits, the end.
-/
namespace Go.Proofs.YtgllednilkfpgaaGreat
open Go.RowKit Go.Proofs Wv Wv.Vi Wv.Rc
set_option linter.unusedVariables false

set_option maxHeartbeats 400000 in
theorem enew_any (w : World) :
    Calls Tryz.prog 147 #[] w fun x w' => x = .returned (.pointer (some ⟨w.heap.size, 0, none⟩)) ∧ EnAt w' w.heap.size (.slice none 0 0) e0 ∧ Below w.heap.size w w' := by
  go_enter Tryz.func147, Tryz.ntmps147
  go_wp2
  go_ret
  exact ⟨rfl, ⟨Bk.new _ _ _, own_nil⟩, (Below.refl _ _).alloc (Nat.le_refl _) _⟩
theorem edir_last (m : Nat) : ∀ (u : Nat) (e : En), edir (m + 1) u e = ebit 1024 (u % 2) (edir m (u / 2) e) := by
  induction m with
  | zero => intro u e; simp [edir]
  | succ m ih =>
    intro u e
    rw [edir, ih, edir, Nat.div_div_eq_div_mul, Nat.pow_succ, Nat.mul_comm 2]
theorem edir_grow (n j v : Nat) (e : En) (h : j < n) : edir (n - j) (v / 2 ^ j) e = ebit 1024 (v / 2 ^ j % 2) (edir (n - (j + 1)) (v / 2 ^ (j + 1)) e) := by
  rw [show n - j = (n - (j + 1)) + 1 from by omega, edir_last, Nat.div_div_eq_div_mul, ← Nat.pow_succ]
theorem enorm_len (k : Nat) : ∀ e : En, (enorm k e).out.length ≤ e.out.length + k := by
  induction k with
  | zero => intro e; exact Nat.le_refl _
  | succ k ih =>
    intro e
    rw [enorm]
    split
    · have := ih (eshift e)
      rw [eshift_len] at this
      omega
    · omega
theorem ebit_len (p b : Nat) (e : En) : (ebit p b e).out.length ≤ e.out.length + 2 := by
  have h := enorm_len 2 (epart p b e)
  have : (epart p b e).out.length = e.out.length := by
    unfold epart
    split
    · rfl
    · split
      · exact carry_length _
      · rfl
  unfold ebit
  omega
theorem edir_len (n v : Nat) : ∀ e : En, (edir n v e).out.length ≤ e.out.length + 2 * n := by
  induction n with
  | zero => intro e; exact Nat.le_refl _
  | succ n ih =>
    intro e
    rw [edir]
    have h1 := ih (ebit 1024 (v / 2 ^ n % 2) e)
    have h2 := ebit_len 1024 (v / 2 ^ n % 2) e
    omega

set_option maxHeartbeats 1000000 in
theorem edirect_any {w : World} {b : Nat} {dv : Value} {e : En} (h : EnAt w b dv e) (hv : Val 0 e) (n v : Nat) (hn : n ≤ 62) (hv63 : v ≤ 9223372036854775807) (hl : e.out.length ≤ 900000) :
    Calls Tryz.prog 187 #[.pointer (some ⟨b, 0, none⟩), .int .i64 (n : Int), .int .i64 (v : Int)] w fun x w' => x = .returned (.tuple #[]) ∧ ∃ dv', EnAt w' b dv' (edir n v e) ∧ Fr (foot b dv) w w' ∧ OwnNew w dv dv' := by
  have ha := and1
  go_enter Tryz.func187, Tryz.ntmps187
  go_wp2
  go_loopw [6] (fun i wr => ∃ (j : Nat) (dr : Value), j ≤ n ∧ i = .int .i64 ((j : Int) - 1) ∧ EnAt wr b dr (edir (n - j) (v / 2 ^ j) e) ∧ Fr (foot b dv) w wr ∧ OwnNew w dv dr) (fun i _ => (intOf i + 1).toNat)
  case atStart => exact ⟨n, dv, by omega, rfl, by rw [Nat.sub_self]; exact h, Fr.refl _ _, .inl rfl⟩
  case round =>
    obtain ⟨j, dr, hj, rfl, hx, hf, hon⟩ := hrel
    by_cases hlt : 0 < j
    · obtain ⟨k, rfl⟩ : ∃ k, j = k + 1 := ⟨j - 1, by omega⟩
      have hg := edir_grow n k v e (by omega)
      have hlen := edir_len (n - (k + 1)) (v / 2 ^ (k + 1)) e
      have hval := edir_val (n - (k + 1)) (v / 2 ^ (k + 1)) hv
      have i1 : ((k + 1 : Nat) : Int) - 1 = (k : Int) := by omega
      rw [i1]
      obtain ⟨E, hE⟩ : ∃ E, edir (n - (k + 1)) (v / 2 ^ (k + 1)) e = E := ⟨_, rfl⟩
      obtain ⟨y, hy⟩ : ∃ y, v / 2 ^ k % 2 = y := ⟨_, rfl⟩
      have hy2 : y < 2 := by omega
      have i2 : (v : Int) / 2 ^ k % 2 = (y : Int) := by rw [← hy, Int.natCast_emod, Int.natCast_ediv, Int.natCast_pow]; rfl
      rw [hE] at hg hlen hval hx
      rw [hy] at hg
      have Hb := hide (rbit_any hx hval 1024 y (by omega) (by omega) hy2 (by omega))
      have Hg := hide hg
      clear hg hE hy hx hlen hval
      go_wp2_with fail
      refine (Hb.out).mono ?_
      rintro x w1 ⟨rfl, dr2, he2, hf2, ho2⟩
      have hs := hf.size
      go_wp2
      go_roundw
      case rel => exact ⟨k, dr2, by omega, rfl, by rw [Hg.out]; exact he2, fr_foot hf hf2 hon, hon.trans ho2 hs⟩
      case measure => simp [intOf] <;> omega
    · have hj0 : j = 0 := by omega
      subst hj0
      go_wp2
      go_end0
      exact ⟨rfl, dr, by simpa using hx, hf, hon⟩
/-- 'string(b)', b a row of bytes, nil among them. -/
theorem conv_row {P : Program} (src dst e : TypeId) (hs : P.underlying src = some (.slice e)) (he : P.underlying e = some (.int .u8)) (hd : P.underlying dst = some .string) {w : World} {base n : Nat} {v : Value} {l : List UInt8}
    (h : w.ownsRow base e 1 v n (l.map bv)) : (convert src dst v).run P w = .ok (.string (bs l)) w := by
  rcases h.2 with ⟨rfl, hn⟩ | ⟨g, cap, cur, rfl, hb, hg, rest⟩
  · have hl : l = [] := by
      have := h.1
      rw [hn, List.length_map] at this
      exact List.eq_nil_of_length_eq_zero (by omega)
    subst hl
    exact run_convert_bytes_nil w src e hs he 0 0 dst hd
  · exact conv_own src dst e hs he hd h
end Go.Proofs.YtgllednilkfpgaaGreat
/-
  The walks over the range coder: the decoder's byte and bit.
-/
namespace Go.Proofs.YtgllednilkfpgaaGreat
open Go.RowKit Go.Proofs Wv Wv.Vi Wv.Rc
set_option linter.unusedVariables false

/-- A decoder in memory. -/
def DAt (w : World) (b : Nat) (d : De) : Prop := Bk w b 186 #[.string (bs d.rest), .int .u32 (d.code : Int), .int .u32 (d.size : Int), .bool d.miss, .bool d.full]
theorem DAt.drewN {w : World} {b : Nat} {d : De} (h : DAt w b d) (n : Nat) : DAt (w.drewN n) b d := h
theorem DAt.drew {w : World} {b : Nat} {d : De} (h : DAt w b d) : DAt w.drew b d := h
theorem DAt.fr {S : Nat → Prop} {w w' : World} {b : Nat} {d : De} (h : DAt w b d) (hf : Fr S w w') (hS : ¬ S b) : DAt w' b d := Bk.fr h hf hS
theorem DAt.below {w w' : World} {b : Nat} {d : De} (h : DAt w b d) (hb : Below w.heap.size w w') : DAt w' b d := Bk.below h hb (Bk.lt h)
theorem DAt.put0 {w : World} {b : Nat} {d : De} (h : DAt w b d) (x : List UInt8) : DAt (w.setCell ⟨b, 0, none⟩ (.string (bs x))) b { d with rest := x } := by simpa [DAt] using Bk.put h 0 (.string (bs x))
theorem DAt.put1 {w : World} {b : Nat} {d : De} (h : DAt w b d) (x : Nat) : DAt (w.setCell ⟨b, 1, none⟩ (.int .u32 (x : Int))) b { d with code := x } := by simpa [DAt] using Bk.put h 1 (.int .u32 (x : Int))
theorem DAt.put2 {w : World} {b : Nat} {d : De} (h : DAt w b d) (x : Nat) : DAt (w.setCell ⟨b, 2, none⟩ (.int .u32 (x : Int))) b { d with size := x } := by simpa [DAt] using Bk.put h 2 (.int .u32 (x : Int))
theorem DAt.put3 {w : World} {b : Nat} {d : De} (h : DAt w b d) (x : Bool) : DAt (w.setCell ⟨b, 3, none⟩ (.bool x)) b { d with miss := x } := by simpa [DAt] using Bk.put h 3 (.bool x)
theorem DAt.put4 {w : World} {b : Nat} {d : De} (h : DAt w b d) (x : Bool) : DAt (w.setCell ⟨b, 4, none⟩ (.bool x)) b { d with full := x } := by simpa [DAt] using Bk.put h 4 (.bool x)
theorem only_set {w w' : World} {b : Nat} (h : Fr (only b) w w') (o : Nat) (x : Value) : Fr (only b) w (w'.setCell ⟨b, o, none⟩ x) := h.setCell (p := ⟨b, o, none⟩) (.inl rfl) x
theorem or32 (n c : Nat) (hc : c < 256) : bits .or .u32 (((n * 256 % 4294967296 : Nat) : Int)) (c : Int) = ((n * 256 % 4294967296 + c : Nat) : Int) := by
  rw [u32_or_nat _ _ (by omega) (by omega), nat_join 8 _ _ (by omega) (by omega)]
theorem or32z (n : Nat) : bits .or .u32 (((n * 256 % 4294967296 : Nat) : Int)) 0 = ((n * 256 % 4294967296 : Nat) : Int) := by
  have := or32 n 0 (by omega)
  simpa using this

set_option maxHeartbeats 1000000 in
theorem dnext_any {w : World} {b : Nat} {d : De} (h : DAt w b d) :
    Calls Tryz.prog 158 #[.pointer (some ⟨b, 0, none⟩)] w fun x w' => x = .returned (.tuple #[]) ∧ DAt w' b (dnext d) ∧ Fr (only b) w w' := by
  have c0 := Bk.cell h 0
  have c1 := Bk.cell h 1
  have c3 := Bk.cell h 3
  have f0 := Bk.frozen h 0
  have f1 := Bk.frozen h 1
  have f3 := Bk.frozen h 3
  simp at c0 c1 c3
  obtain ⟨X, hX⟩ : ∃ X, d.code * 256 % 4294967296 = X := ⟨_, rfl⟩
  have i1 : (d.code : Int) * 256 % 4294967296 = (X : Int) := by omega
  match hr : d.rest with
  | [] =>
    have hn : dnext d = { { d with miss := true } with code := X } := by unfold dnext; rw [hr]; simp only [hX]
    have hs : (bs d.rest).size = 0 := by rw [hr]; rfl
    have hem := emp1 hs
    have hor := or32z d.code
    rw [hX] at hor
    generalize bs d.rest = s at *
    have H := hide h
    have Hn := hide hn
    clear h hn hs hr hX
    go_enter Tryz.func158, Tryz.ntmps158
    go_wp2
    go_end0
    rw [Hn.out]
    exact ⟨rfl, (H.out.put3 true).put1 X, only_set (only_set (Fr.refl _ _) 3 _) 1 _⟩
  | c :: t =>
    have hn : dnext d = { { d with rest := t } with code := X + c.toNat } := by unfold dnext; rw [hr]; simp only [hX]
    have hs : 0 < (bs d.rest).size := by rw [hr, bs_size]; simp
    have hem := emp0 hs
    have hor := or32 d.code c.toNat (UInt8.toNat_lt c)
    rw [hX] at hor
    have hex := ext_drop (bs d.rest) 1
    rw [toL_bs, hr, List.drop_one, List.tail_cons, ← hr] at hex
    have hg : ∀ hh : 0 < (bs d.rest).size, ((bs d.rest)[0]'hh).toNat = c.toNat := by
      rw [hr]
      intro hh
      rfl
    generalize bs d.rest = s at *
    have hg0 := hg hs
    obtain ⟨y, hy⟩ : ∃ y, c.toNat = y := ⟨_, rfl⟩
    rw [hy] at hg0 hor hn
    have hy8 : y < 256 := by rw [← hy]; exact UInt8.toNat_lt c
    have H := hide h
    have Hn := hide hn
    clear h hn hr hX hg hy
    go_enter Tryz.func158, Tryz.ntmps158
    go_wp2
    go_region
    go_wp2
    go_end0
    rw [Hn.out]
    exact ⟨rfl, by have h9 := ((H.out.put0 t).put1 (X + y)).drew; rw [Int.natCast_add] at h9; exact h9, (only_set (only_set (Fr.refl _ _) 0 _) 1 _).drew⟩
/-- A decoder's state between two bits: k bytes may have to be read. -/
def DV (k : Nat) (d : De) : Prop := Szk k d.size ∧ d.code < 4294967296
theorem dv_up {d : De} (h : DV 0 d) : 16777216 ≤ d.size ∧ d.size < 4294967296 := by have := h.1; unfold Szk at this; omega
theorem dpart_v {d : De} (h : DV 0 d) {p : Nat} (hp1 : 1 ≤ p) (hp2 : p ≤ 2047) : DV 2 (dpart p d) := by
  obtain ⟨h1, h2⟩ := dv_up h
  obtain ⟨b1, b2⟩ := bound_le d.size p h1 hp1 hp2
  have h3 := h.2
  unfold dpart
  generalize d.size / 2048 * p = B at *
  split
  · exact ⟨⟨by show _ ≤ B * _; omega, by show B < _; omega⟩, h3⟩
  · exact ⟨⟨by show _ ≤ (d.size - B) * _; omega, by show d.size - B < _; omega⟩, by show d.code - B < _; omega⟩
theorem dnext_v {d : De} : (dnext d).size = d.size ∧ (dnext d).code < 4294967296 := by
  unfold dnext
  split
  · exact ⟨rfl, by show d.code * 256 % 4294967296 < _; omega⟩
  · rename_i c t _
    refine ⟨rfl, ?_⟩
    have := UInt8.toNat_lt c
    show d.code * 256 % 4294967296 + c.toNat < _
    omega
theorem dshift_v {k : Nat} {d : De} (h : DV (k + 1) d) (hs : d.size < 16777216) : DV k (dshift d) := by
  refine ⟨⟨?_, ?_⟩, dnext_v.2⟩
  · have := h.1.1
    rw [Nat.pow_succ, ← Nat.mul_assoc] at this
    show _ ≤ d.size * 256 * 256 ^ k
    rw [Nat.mul_right_comm]
    exact this
  · show d.size * 256 < _; omega
theorem dnorm_v (k : Nat) : ∀ {d : De}, DV k d → DV 0 (dnorm k d) := by
  induction k with
  | zero => intro d h; exact h
  | succ k ih =>
    intro d h
    rw [dnorm]
    split
    · exact ih (dshift_v h (by assumption))
    · exact ⟨⟨by simp; omega, h.1.2⟩, h.2⟩
theorem dbit_v {d : De} (h : DV 0 d) {p : Nat} (hp1 : 1 ≤ p) (hp2 : p ≤ 2047) : DV 0 (dbit p d) := dnorm_v 2 (dpart_v h hp1 hp2)
/-- How far a size is from the least one. -/
def dsmu (b : Nat) (w : World) : Nat := match w.cell? ⟨b, 2, none⟩ with
  | some (.int _ n) => (16777216 - n).toNat
  | _ => 0
theorem dsmu_eq {w : World} {b : Nat} {d : De} (h : DAt w b d) : dsmu b w = (16777216 - (d.size : Int)).toNat := by
  have := Bk.cell h 2
  simp at this
  unfold dsmu
  rw [this]

set_option maxRecDepth 100000 in
set_option maxHeartbeats 2000000 in
theorem dbit_any {w : World} {b : Nat} {d : De} (h : DAt w b d) (hv : DV 0 d) (p : Nat) (hp1 : 1 ≤ p) (hp2 : p ≤ 2047) :
    Calls Tryz.prog 188 #[.pointer (some ⟨b, 0, none⟩), .int .i64 (p : Int)] w fun x w' => x = .returned (.int .i64 (dbt p d : Nat)) ∧ DAt w' b (dbit p d) ∧ Fr (only b) w w' := by
  obtain ⟨v1, v2⟩ := dv_up hv
  obtain ⟨b1, b2⟩ := bound_le d.size p v1 hp1 hp2
  have hcode := hv.2
  have hpv := dpart_v hv hp1 hp2
  obtain ⟨B, hB⟩ : ∃ B, d.size / 2048 * p = B := ⟨_, rfl⟩
  have c1 := Bk.cell h 1
  have c2 := Bk.cell h 2
  have f1 := Bk.frozen h 1
  have f2 := Bk.frozen h 2
  simp at c1 c2
  have Hcl := hide (rclamp_any (p : Int) (by omega) (by omega))
  rw [hB] at b1 b2
  have hdp : dpart p d = if d.code < B then { d with size := B } else { d with code := d.code - B, size := d.size - B } := by unfold dpart; rw [hB]
  have hdb : dbt p d = if d.code < B then 0 else 1 := by unfold dbt; rw [hB]
  have H := hide h
  have i0 : IntKind.u32.wrap ((d.size : Int) / 2048 * (p : Int)) = (B : Int) := by
    have : (d.size : Int) / 2048 * (p : Int) = (B : Int) := by rw [← hB, Int.natCast_mul, Int.natCast_ediv]; rfl
    rw [this, IntWalk.u32_in _ (by omega)]
  have Hpv := hide hpv
  have Hdp := hide hdp
  have Hdb := hide hdb
  clear h hB hpv hv hdp hdb
  go_enter Tryz.func188, Tryz.ntmps188
  go_wp2
  go_quiet ((go_at_call 191; exact q1 (Hcl.out _)))
  clear i0
  go_upto_if 20 with fail
  go_cut [6] (fun s6 wx => s6 = .int .i64 (dbt p d : Nat) ∧ DAt wx b (dpart p d) ∧ Fr (only b) w wx)
  case first =>
    by_cases hc : d.code < B
    · have Hz := Hdp.out
      have Hy := Hdb.out
      rw [if_pos hc] at Hz Hy
      have Hz := hide Hz
      have Hy := hide Hy
      have hc2 : (d.code : Int) < (B : Int) := by omega
      clear hc
      go_wp2
      go_meet
      case rel =>
        rw [Hz.out, Hy.out]
        exact ⟨rfl, ((H.out).drewN nq).put2 B, only_set ((Fr.refl _ _).drewN nq) 2 _⟩
    · have Hz := Hdp.out
      have Hy := Hdb.out
      rw [if_neg hc] at Hz Hy
      have hc2 : ¬ (d.code : Int) < (B : Int) := by omega
      obtain ⟨C, hC⟩ : ∃ C, d.code - B = C := ⟨_, rfl⟩
      obtain ⟨S, hS⟩ : ∃ S, d.size - B = S := ⟨_, rfl⟩
      rw [hC, hS] at Hz
      have i1 : IntKind.u32.wrap ((d.code : Int) - (B : Int)) = (C : Int) := by rw [IntKind.wrap_u32']; omega
      have i2 : IntKind.u32.wrap ((d.size : Int) - (B : Int)) = (S : Int) := by rw [IntKind.wrap_u32']; omega
      have Hz := hide Hz
      have Hy := hide Hy
      clear hc hC hS
      go_wp2
      go_region
      all_goals
        go_wp2
        go_meet
        case rel =>
          rw [Hz.out, Hy.out]
          exact ⟨rfl, ((((H.out).drewN nq).put1 C).put2 S).drew, (only_set (only_set ((Fr.refl _ _).drewN nq) 1 _) 2 _).drew⟩
  case rest =>
    obtain ⟨rfl, he, hf⟩ := hcut
    clear c1 c2 f1 f2
    go_wp2
    go_loopw [] (fun wr => ∃ (k : Nat) (x : De), DAt wr b x ∧ DV k x ∧ k ≤ 2 ∧ Hid (dnorm k x = dbit p d) ∧ Fr (only b) w wr) (fun wr => dsmu b wr)
    case atStart => exact ⟨2, _, he, Hpv.out, Nat.le_refl _, hide rfl, hf⟩
    case round =>
      clear he hf
      obtain ⟨k, x, hx, hvx, hk, hn, hf⟩ := hrel
      have q2 := Bk.cell hx 2
      simp at q2
      have hsz := hvx.1.2
      by_cases hlt : x.size < 16777216
      · obtain ⟨j, rfl⟩ : ∃ j, k = j + 1 := by
          rcases Nat.eq_zero_or_pos k with h9 | h9
          · subst h9
            have := dv_up hvx
            omega
          · exact ⟨k - 1, by omega⟩
        have hvs := dshift_v hvx hlt
        have hen : dnorm (j + 1) x = dnorm j (dshift x) := by rw [dnorm, if_pos hlt]
        have hlt2 : (x.size : Int) < 16777216 := by omega
        have hsz0 : 0 < x.size := by
          have := hvx.1.1
          rcases Nat.eq_zero_or_pos x.size with h9 | h9
          · rw [h9, Nat.zero_mul] at this; omega
          · exact h9
        obtain ⟨R, hR⟩ : ∃ R, x.size * 256 = R := ⟨_, rfl⟩
        have i4 : (x.size : Int) * 256 = (R : Int) := by omega
        have Hd := hide (dnext_any hx)
        have hds : dshift x = { dnext x with size := R } := by unfold dshift; rw [hR]
        have hdz : (dnext x).size = x.size := dnext_v.1
        have Hen := hide hen
        have Hvs := hide hvs
        have Hds := hide hds
        have HR := hide hR
        have Hx := hide hx
        clear hvs hen hvx hx hlt hR hds
        go_wp2_with fail
        refine (Hd.out).mono ?_
        rintro y w1 ⟨rfl, hd1, hf1⟩
        have r2 := Bk.cell hd1 2
        have t2 := Bk.frozen hd1 2
        simp at r2
        rw [hdz] at r2
        clear hdz q2
        go_wp2
        go_roundw
        case rel =>
          refine ⟨j, dshift x, ?_, Hvs.out, by omega, hide (by rw [← Hen.out, hn.out]), only_set (hf.trans hf1) 2 _⟩
          rw [Hds.out]
          exact hd1.put2 R
        case measure =>
          show dsmu b _ < dsmu b _
          rw [dsmu_eq (hd1.put2 R), dsmu_eq Hx.out]
          have := HR.out
          simp only
          omega
      · have hen : dnorm k x = x := by cases k with
          | zero => rfl
          | succ k => rw [dnorm, if_neg hlt]
        have Hen := hide hen
        have hlt2 : ¬ (x.size : Int) < 16777216 := by omega
        clear hlt hen
        go_wp2
        go_ret
        refine ⟨rfl, ?_, hf⟩
        rw [← hn.out, Hen.out]
        exact hx
end Go.Proofs.YtgllednilkfpgaaGreat
/-
  The walks over the range coder: the bytes of an encoder; a new decoder, many bits, its end.
-/
namespace Go.Proofs.YtgllednilkfpgaaGreat
open Go.RowKit Go.Proofs Wv Wv.Vi Wv.Rc
set_option linter.unusedVariables false

theorem be4 (x : Nat) : be 4 x = [UInt8.ofNat (x / 16777216), UInt8.ofNat (x / 65536), UInt8.ofNat (x / 256), UInt8.ofNat x] := by simp [be]
set_option maxHeartbeats 1000000 in
theorem efinish_any {w : World} {b : Nat} {dv : Value} {e : En} (h : EnAt w b dv e) (hlow : e.low < 4294967296) (hl : e.out.length ≤ 1000000) :
    Calls Tryz.prog 148 #[.pointer (some ⟨b, 0, none⟩)] w fun x w' => x = .returned (.string (bs (efin e))) ∧ Below w.heap.size w w' := by
  have c0 := h.1.cell 0
  have c1 := h.1.cell 1
  simp at c0 c1
  have hbl := h.1.lt
  obtain ⟨a1, h1⟩ : ∃ a, e.low / 16777216 = a := ⟨_, rfl⟩
  obtain ⟨a2, h2⟩ : ∃ a, e.low / 65536 % 256 = a := ⟨_, rfl⟩
  obtain ⟨a3, h3⟩ : ∃ a, e.low / 256 % 256 = a := ⟨_, rfl⟩
  obtain ⟨a4, h4⟩ : ∃ a, e.low % 256 = a := ⟨_, rfl⟩
  have i1 : (e.low : Int) / 16777216 = (a1 : Int) := by omega
  have i2 : (e.low : Int) / 65536 % 256 = (a2 : Int) := by omega
  have i3 : (e.low : Int) / 256 % 256 = (a3 : Int) := by omega
  have i4 : (e.low : Int) % 256 = (a4 : Int) := by omega
  have l1 : a1 < 256 := by omega
  have l2 : a2 < 256 := by omega
  have l3 : a3 < 256 := by omega
  have l4 : a4 < 256 := by omega
  have H1 := hide h1
  have H2 := hide h2
  have H3 := hide h3
  have H4 := hide h4
  clear h1 h2 h3 h4
  have H := hide h
  clear h
  go_enter Tryz.func148, Tryz.ntmps148
  go_wp2
  go_region
  have hE : EnAt (w.alloc (.cells #[.int .u8 (a1 : Int), .int .u8 (a2 : Int), .int .u8 (a3 : Int), .int .u8 (a4 : Int)] 191)).drew b dv e := (H.out.below ((Below.refl _ _).alloc (Nat.le_refl _) _)).drew
  have hB : Below w.heap.size w (w.alloc (.cells #[.int .u8 (a1 : Int), .int .u8 (a2 : Int), .int .u8 (a3 : Int), .int .u8 (a4 : Int)] 191)).drew := ((Below.refl _ _).alloc (Nat.le_refl _) _).drew
  have hK : Bk (w.alloc (.cells #[.int .u8 (a1 : Int), .int .u8 (a2 : Int), .int .u8 (a3 : Int), .int .u8 (a4 : Int)] 191)).drew w.heap.size 191 #[.int .u8 (a1 : Int), .int .u8 (a2 : Int), .int .u8 (a3 : Int), .int .u8 (a4 : Int)] := Bk.new _ _ _
  generalize (w.alloc (.cells #[.int .u8 (a1 : Int), .int .u8 (a2 : Int), .int .u8 (a3 : Int), .int .u8 (a4 : Int)] 191)).drew = W at *
  have d0 := hE.1.cell 0
  simp at d0
  have hcv1 : ∀ n, (convert 44 9 dv).run Tryz.prog (W.drewN n) = .ok (.string (bs e.out)) (W.drewN n) := fun n => conv_row 44 9 5 Tryz.underlying44 Tryz.underlying5 Tryz.underlying9 (hE.drewN n).2
  have hcv2 : ∀ n, (convert 44 9 (.slice (some ⟨w.heap.size, 0, none⟩) 4 4)).run Tryz.prog (W.drewN n) = .ok (.string (bs [UInt8.ofNat a1, UInt8.ofNat a2, UInt8.ofNat a3, UInt8.ofNat a4])) (W.drewN n) := fun n => by
    refine run_convert_bytes_back (W.drewN n) 44 9 5 ⟨w.heap.size, 0, none⟩ 4 [UInt8.ofNat a1, UInt8.ofNat a2, UInt8.ofNat a3, UInt8.ofNat a4] Tryz.underlying44 Tryz.underlying5 Tryz.underlying9 (fun j hj => ?_)
    have hj4 : j < 4 := hj
    rw [Go.WideShapes.add_plain, Nat.zero_add, (hK.drewN n).cell]
    have : j = 0 ∨ j = 1 ∨ j = 2 ∨ j = 3 := by omega
    rcases this with rfl | rfl | rfl | rfl <;> simp [Nat.mod_eq_of_lt, *]
  have hsz : (bs e.out).size ≤ 1000000 := by rw [bs_size]; exact hl
  have hsz2 : (bs [UInt8.ofNat a1, UInt8.ofNat a2, UInt8.ofNat a3, UInt8.ofNat a4]).size = 4 := rfl
  have Hr := hide (show bs e.out ++ bs [UInt8.ofNat a1, UInt8.ofNat a2, UInt8.ofNat a3, UInt8.ofNat a4] = bs (efin e) from by
    rw [bs_append, efin, be4, ← H1.out, ← H2.out, ← H3.out, ← H4.out]
    have q : ∀ x : Nat, UInt8.ofNat (x % 256) = UInt8.ofNat x := fun x => by apply UInt8.toNat_inj.1; simp
    rw [q, q, q])
  generalize bs e.out = s1 at *
  generalize bs [UInt8.ofNat a1, UInt8.ofNat a2, UInt8.ofNat a3, UInt8.ofNat a4] = s2 at *
  clear hE hK c0 c1 i1 i2 i3 i4
  go_wp2
  go_quiet (fail)
  go_wp2
  go_ret
  exact ⟨ret_str Hr.out, bdN hB _⟩
/-- A decoder behind its first bytes. -/
def dpk : Nat → List UInt8 → De
  | 0, s => ⟨s, 0, 4294967295, false, false⟩
  | k + 1, s => dnext (dpk k s)
theorem dpk_succ (k : Nat) (s : List UInt8) : dpk (k + 1) s = dnext (dpk k s) := rfl
set_option maxHeartbeats 1000000 in
theorem dnew_any (s : List UInt8) (w : World) :
    Calls Tryz.prog 142 #[.string (bs s)] w fun x w' => x = .returned (.pointer (some ⟨w.heap.size, 0, none⟩)) ∧ DAt w' w.heap.size (d0 s) ∧ Below w.heap.size w w' := by
  go_enter Tryz.func142, Tryz.ntmps142
  go_wp2
  go_loopw [7] (fun i wr => ∃ k : Nat, k ≤ 4 ∧ i = .int .i64 k ∧ DAt wr w.heap.size (dpk k s) ∧ Below w.heap.size w wr) (fun i _ => (4 - intOf i).toNat)
  case atStart => exact ⟨0, by omega, rfl, Bk.new _ _ _, (Below.refl _ _).alloc (Nat.le_refl _) _⟩
  case round =>
    obtain ⟨k, hk, rfl, hd, hf⟩ := hrel
    by_cases hlt : k < 4
    · have Hd := hide (dnext_any hd)
      have hz := hide (dpk_succ k s)
      clear hd
      go_wp2_with fail
      refine (Hd.out).mono ?_
      rintro y w1 ⟨rfl, hd1, hf1⟩
      go_wp2
      go_roundw
      case rel => exact ⟨k + 1, by omega, by go_num, by rw [hz.out]; exact hd1, hf.trans (hf1.toBelow' hf.size (fun j hj e => by have : j = w.heap.size := e; omega))⟩
      case measure => simp [intOf] <;> omega
    · have hk4 : k = 4 := by omega
      subst hk4
      have hfl := hide (show d0 s = { dpk 4 s with full := decide ((dpk 4 s).code = (dpk 4 s).size) } from rfl)
      obtain ⟨D, hD⟩ : ∃ D, dpk 4 s = D := ⟨_, rfl⟩
      have Hd := hide hd
      rw [hD] at hfl Hd hd
      clear hD
      have q1 := Bk.cell hd 1
      have q2 := Bk.cell hd 2
      have q4 := Bk.cell hd 4
      have t4 := Bk.frozen hd 4
      simp at q1 q2 q4
      have hdec : ((D.code : Int) == (D.size : Int)) = decide (D.code = D.size) := by
        rw [Bool.eq_iff_iff, beq_iff_eq, decide_eq_true_iff]
        omega
      clear hd
      go_wp2
      go_region
      go_wp2
      go_ret
      rw [hfl.out]
      exact ⟨rfl, by have h9 := Hd.out.put4 (decide (D.code = D.size)); exact h9.drew, (hf.setCell (p := ⟨w.heap.size, 4, none⟩) (Nat.le_refl _) _).drew⟩
/-- The error at the end. -/
def endV (d : De) : Int := if dend d = true then 0 else 12
theorem endV_0 {d : De} (h : dend d = true) : endV d = 0 := by unfold endV; rw [if_pos h]
theorem endV_1 {d : De} (h : dend d = false) : endV d = 12 := by unfold endV; rw [h]; rfl
set_option maxHeartbeats 1000000 in
theorem dend_any {w : World} {b : Nat} {d : De} (h : DAt w b d) :
    Calls Tryz.prog 143 #[.pointer (some ⟨b, 0, none⟩)] w fun x w' => x = .returned (.int .i64 (endV d)) ∧ w = w' := by
  have c0 := Bk.cell h 0
  have c1 := Bk.cell h 1
  have c3 := Bk.cell h 3
  have c4 := Bk.cell h 4
  simp at c0 c1 c3 c4
  have hd : dend d = (!d.miss && !d.full && d.rest.isEmpty && d.code == 0) := rfl
  have hz : ∀ s : List UInt8, (bs s).toList.isEmpty = s.isEmpty := fun s => by
    cases s with
    | nil => exact emp1 rfl
    | cons a t => exact emp0 (by rw [bs_size]; simp)
  have hem := hz d.rest
  generalize hrs : d.rest.isEmpty = re at *
  generalize hms : d.miss = ms at *
  generalize hfs : d.full = fs at *
  generalize bs d.rest = s at *
  have Hd := hide hd
  clear h hz hrs hms hfs hd
  cases ms
  · cases fs
    · cases re
      · go_enter Tryz.func143, Tryz.ntmps143
        go_wp2
        go_ret
        exact ⟨ret_int (endV_1 (by rw [Hd.out]; rfl)).symm, rfl⟩
      · by_cases hc : d.code = 0
        · have hc2 : ((d.code : Int) != 0) = false := by rw [hc]; rfl
          have Hc := hide hc
          clear hc
          go_enter Tryz.func143, Tryz.ntmps143
          go_wp2
          go_ret
          exact ⟨ret_int (endV_0 (by rw [Hd.out, Hc.out]; rfl)).symm, rfl⟩
        · have hc2 : ((d.code : Int) != 0) = true := by rw [bne_iff_ne]; omega
          have hc3 : (d.code == 0) = false := by rw [beq_eq_false_iff_ne]; exact hc
          have Hc := hide hc3
          clear hc hc3
          go_enter Tryz.func143, Tryz.ntmps143
          go_wp2
          go_ret
          exact ⟨ret_int (endV_1 (by rw [Hd.out, Hc.out]; rfl)).symm, rfl⟩
    · go_enter Tryz.func143, Tryz.ntmps143
      go_wp2
      go_ret
      exact ⟨ret_int (endV_1 (by rw [Hd.out]; rfl)).symm, rfl⟩
  · go_enter Tryz.func143, Tryz.ntmps143
    go_wp2
    go_ret
    exact ⟨ret_int (endV_1 (by rw [Hd.out]; rfl)).symm, rfl⟩
theorem or_i64w (a b : Nat) (ha : a < 9223372036854775808) (hb : b < 9223372036854775808) : bits .or .i64 (a : Int) (b : Int) = ((a ||| b : Nat) : Int) := by
  have h1 : (BitVec.ofInt 64 (a : Int)).toNat = a := ofInt_u64 a (by omega)
  have h2 : (BitVec.ofInt 64 (b : Int)).toNat = b := ofInt_u64 b (by omega)
  show IntKind.i64.wrap ((BitVec.ofInt 64 (a : Int) ||| BitVec.ofInt 64 (b : Int)).toNat : Nat) = _
  rw [BitVec.toNat_or, h1, h2]
  have := Nat.or_lt_two_pow (x := a) (y := b) (n := 63) (by omega) (by omega)
  rw [IntWalk.i64_in _ (by omega)]
theorem ddir_snoc (m : Nat) : ∀ (a : Nat) (d : De), (ddir (m + 1) a d) = (2 * (ddir m a d).1 + dbt 1024 (ddir m a d).2, dbit 1024 (ddir m a d).2) := by
  induction m with
  | zero => intro a d; rfl
  | succ m ih => intro a d; rw [ddir, ih]; rfl
theorem dbt_le (p : Nat) (d : De) : dbt p d ≤ 1 := by unfold dbt; split <;> omega
theorem ddir_v (m : Nat) : ∀ (a : Nat) (d : De), DV 0 d → DV 0 (ddir m a d).2 ∧ (ddir m a d).1 < (a + 1) * 2 ^ m := by
  induction m with
  | zero => intro a d h; exact ⟨h, by simp [ddir]⟩
  | succ m ih =>
    intro a d h
    obtain ⟨h1, h2⟩ := ih (2 * a + dbt 1024 d) (dbit 1024 d) (dbit_v h (by omega) (by omega))
    rw [ddir]
    refine ⟨h1, Nat.lt_of_lt_of_le h2 ?_⟩
    have := dbt_le 1024 d
    rw [Nat.pow_succ, Nat.mul_comm _ 2, ← Nat.mul_assoc]
    exact Nat.mul_le_mul_right _ (by omega)
theorem or1 (v y : Nat) (hv : v < 4611686018427387904) (hy : y < 2) : bits .or .i64 ((v : Int) * 2) (y : Int) = ((2 * v + y : Nat) : Int) := by
  rw [show (v : Int) * 2 = ((2 * v : Nat) : Int) from by omega]
  rw [or_i64w _ _ (by omega) (by omega), nat_join 1 _ _ (by omega) (by omega)]
set_option maxHeartbeats 1000000 in
theorem ddirect_any {w : World} {b : Nat} {d : De} (h : DAt w b d) (hv : DV 0 d) (n : Nat) (hn : n ≤ 62) :
    Calls Tryz.prog 185 #[.pointer (some ⟨b, 0, none⟩), .int .i64 (n : Int)] w fun x w' => x = .returned (.int .i64 ((ddir n 0 d).1 : Nat)) ∧ DAt w' b (ddir n 0 d).2 ∧ Fr (only b) w w' := by
  go_enter Tryz.func185, Tryz.ntmps185
  go_wp2
  go_loopw [5, 13] (fun v i wr => ∃ k : Nat, k ≤ n ∧ i = .int .i64 k ∧ v = .int .i64 ((ddir k 0 d).1 : Nat) ∧ DAt wr b (ddir k 0 d).2 ∧ Fr (only b) w wr) (fun _ i _ => (n - intOf i).toNat)
  case atStart => exact ⟨0, by omega, rfl, rfl, h, Fr.refl _ _⟩
  case round =>
    obtain ⟨k, hk, rfl, rfl, hd, hf⟩ := hrel
    by_cases hlt : k < n
    · have hs := ddir_snoc k 0 d
      obtain ⟨hdv, hvl⟩ := ddir_v k 0 d hv
      have hp : (0 + 1) * 2 ^ k ≤ 2305843009213693952 := by
        rw [Nat.zero_add, Nat.one_mul]
        exact Nat.pow_le_pow_right (n := 2) (by omega) (show k ≤ 61 by omega)
      generalize ddir k 0 d = D at *
      obtain ⟨v, D⟩ := D
      simp only at hs hdv hvl hd ⊢
      have Hb := hide (dbit_any hd hdv 1024 (by omega) (by omega))
      have hy := dbt_le 1024 D
      obtain ⟨y, hyy⟩ : ∃ y, dbt 1024 D = y := ⟨_, rfl⟩
      rw [hyy] at Hb hs hy
      have hv61 : v < 2305843009213693952 := by omega
      have hor := hide (or1 v y (by omega) (by omega))
      have Hs := hide hs
      clear hs hdv hvl hp hd hyy
      go_wp2_with fail
      refine (Hb.out).mono ?_
      rintro z w1 ⟨rfl, hd1, hf1⟩
      go_wp2
      go_roundw
      case rel => exact ⟨k + 1, by omega, by go_num, by rw [hor.out, Hs.out], by rw [Hs.out]; exact hd1, hf.trans hf1⟩
      case measure => simp [intOf] <;> omega
    · have : k = n := by omega
      subst this
      go_wp2
      go_ret
      exact ⟨rfl, hd, hf⟩
end Go.Proofs.YtgllednilkfpgaaGreat
