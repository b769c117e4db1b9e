/-
  Joined texts: Fc, Fd.
-/
import Derived.Test.YtkgclfagimlneaaDoorJ13
set_option linter.unusedVariables false
set_option linter.unusedSimpArgs false
/-
  The walks over the references: zeros at both ends of parts.
-/
namespace Go.Proofs.YtkgclfagimlneaaDoor
open Go.RowKit Go.Proofs Wv Wv.Dc
set_option linter.unusedVariables false

/-- Parts in a block. -/
def PB (w : World) (r : Nat) (b : Bool) (d : List UInt8) (e : Int) : Prop := Bk w r 49 #[.bool b, .string (bs d), .int .i64 e]
theorem PB.below {w w' : World} {B r : Nat} {b : Bool} {d : List UInt8} {e : Int} (h : PB w r b d e) (hb : Below B w w') (hr : r < B) : PB w' r b d e := Bk.below h hb hr
/-- The value of a number as parts. -/
def PV (n : Num) : Value := .agg #[.bool n.neg, .string (bs n.dg), .int .i64 (fstE n)]
theorem trimL_head0 {d : List UInt8} (h : ∀ c t, d = c :: t → c ≠ 48) : trimL d = d := by
  match d with
  | [] => rfl
  | c :: t => rw [trimL_cons, if_neg (h c t rfl)]
theorem trimR_last0 {d : List UInt8} (h : ∀ i c, d = i ++ [c] → c ≠ 48) : trimR d = d := by
  rcases List.eq_nil_or_concat d with rfl | ⟨i, c, rfl⟩
  · rfl
  · rw [List.concat_eq_append] at h ⊢
    rw [trimR_snoc, if_neg (h i c rfl)]
theorem strip_end {w0 w : World} {r : Nat} (hr : Bk w r 49 #[.bool false, .string ⟨#[]⟩, .int .i64 0]) (hb : Below w0.heap.size w0 w) (h0 : w0.heap.size ≤ r) (b : Bool) (s : ByteArray) (e : Int) :
    ∃ W, (((w.setCell ⟨r, 0, none⟩ (.bool b)).setCell ⟨r, 1, none⟩ (.string s)).setCell ⟨r, 2, none⟩ (.int .i64 e)) = W ∧ W.cell? ⟨r, 0, none⟩ = some (.bool b) ∧ W.cell? ⟨r, 1, none⟩ = some (.string s) ∧ W.cell? ⟨r, 2, none⟩ = some (.int .i64 e) ∧ Below w0.heap.size w0 W := by
  have hf : Fr (only r) w (((w.setCell ⟨r, 0, none⟩ (.bool b)).setCell ⟨r, 1, none⟩ (.string s)).setCell ⟨r, 2, none⟩ (.int .i64 e)) := only_set (only_set (only_set (Fr.refl _ _) 0 _) 1 _) 2 _
  have hk := ((hr.put 0 (.bool b)).put 1 (.string s)).put 2 (.int .i64 e)
  exact ⟨_, rfl, hk.cell 0, hk.cell 1, hk.cell 2, hb.trans (own_below hf hb.size h0)⟩
/-- A measure: how long the digits are. -/
def pmu (r : Nat) (w : World) : Nat := match w.cell? ⟨r, 1, none⟩ with
  | some (.string s) => s.size
  | _ => 0
theorem pmu_eq {w : World} {r : Nat} {b : Bool} {d : List UInt8} {e : Int} (h : PB w r b d e) : pmu r w = d.length := by
  have := Bk.cell h 1
  simp at this
  unfold pmu
  rw [this]
  exact bs_size d
theorem bs_get0 (c : UInt8) (t : List UInt8) (h : 0 < (bs (c :: t)).size) : ((bs (c :: t))[0]'h) = c := rfl
theorem bs_drop1 (c : UInt8) (t : List UInt8) : (bs (c :: t)).extract 1 (bs (c :: t)).size = bs t := by
  rw [ext_drop]
  rfl
theorem bs_getL (i : List UInt8) (c : UInt8) (h : i.length < (bs (i ++ [c])).size) : ((bs (i ++ [c]))[i.length]'h) = c := by
  have h2 : (bs (i ++ [c]))[i.length]'h = (i ++ [c])[i.length]'(by simp) := rfl
  rw [h2]
  simp
theorem bs_takeL (i : List UInt8) (c : UInt8) : (bs (i ++ [c])).extract 0 i.length = bs i := by
  rw [ext_take, toL_bs, List.take_left' rfl]
set_option maxRecDepth 100000 in
set_option maxHeartbeats 2000000 in
theorem rstrip_any (b : Bool) (d : List UInt8) (e : Int) (he1 : -4000000 ≤ e) (he2 : e ≤ 4000000) (hd : d.length ≤ 10000) (w : World) :
    Calls Tryd.prog 55 #[.agg #[.bool b, .string (bs d), .int .i64 e]] w fun x w' => x = .returned (PV (trimN ⟨b, d, e - d.length + 1⟩)) ∧ Below w.heap.size w w' := by
  have hk0 : PB ((w.alloc (.cells #[.bool b, .string (bs d), .int .i64 e] 49)).alloc (.cells #[.bool false, .string ⟨#[]⟩, .int .i64 0] 49)) w.heap.size b d e := (Bk.new w _ _).alloc _
  have hr0 := Bk.new (w.alloc (.cells #[.bool b, .string (bs d), .int .i64 e] 49)) 49 #[.bool false, .string ⟨#[]⟩, .int .i64 0]
  rw [World.size_alloc] at hr0
  have hb0 := two_below w (.cells #[.bool b, .string (bs d), .int .i64 e] 49) (.cells #[.bool false, .string ⟨#[]⟩, .int .i64 0] 49)
  have Hk0 := hide hk0
  have Hr0 := hide hr0
  have Hb0 := hide hb0
  clear hk0 hr0 hb0
  go_enter Tryd.func55, Tryd.ntmps55
  go_wp2
  generalize ((w.alloc (.cells #[.bool b, .string (bs d), .int .i64 e] 49)).alloc (.cells #[.bool false, .string ⟨#[]⟩, .int .i64 0] 49)) = W0 at *
  go_loopw [] (fun wr => ∃ (u : List UInt8) (e' : Int), Hid (trimL u = trimL d) ∧ u.length ≤ 10000 ∧ e' - u.length = e - d.length ∧ Hid (PB wr w.heap.size b u e') ∧ Hid (Bk wr (w.heap.size + 1) 49 #[.bool false, .string ⟨#[]⟩, .int .i64 0]) ∧ Hid (Below w.heap.size w wr)) (fun wr => pmu w.heap.size wr)
  case atStart => exact ⟨d, e, hide rfl, hd, rfl, Hk0, Hr0, Hb0⟩
  case round =>
    obtain ⟨u, e', htr, hul, hel, hk, hr, hb⟩ := hrel
    have n1 := Bk.cell hk.out 1
    have n2 := Bk.cell hk.out 2
    have f1 := Bk.frozen hk.out 1
    have f2 := Bk.frozen hk.out 2
    simp at n1 n2
    cases u with
    | nil =>
      have hz : trimN ⟨b, d, e - d.length + 1⟩ = zeroN := by
        unfold trimN
        have h1 : trimL d = [] := by rw [← htr.out]; rfl
        simp only [h1]
        rfl
      have Hz := hide hz
      obtain ⟨WF, hWF, u0, u1, u2, hbF⟩ := strip_end hr.out hb.out (by omega) false ⟨#[]⟩ 0
      have HWF := hide hWF
      have HbF := hide hbF
      have r0 := hr.out.cell 0
      have r1 := hr.out.cell 1
      have r2 := hr.out.cell 2
      have g0 := hr.out.frozen 0
      have g1 := hr.out.frozen 1
      have g2 := hr.out.frozen 2
      have hS0 : (bs ([] : List UInt8)).size = 0 := rfl
      have hem : (bs ([] : List UInt8)).toList.isEmpty = true := emp1 rfl
      simp at r0 r1 r2
      clear hz hWF hbF htr Hk0 Hr0 Hb0
      generalize bs ([] : List UInt8) = SN at *
      go_wp2
      go_loopw [] (fun wx => wx = wr) (fun _ => 0)
      case atStart => rfl
      case round =>
        obtain rfl := hrel
        go_wp2
        rw [HWF.out]
        refine bodyPost_ret (by simp [results, Tryd.results55, go_sem, u0, u1, u2]; try rfl) rfl ?_
        rw [Hz.out]
        exact ⟨rfl, HbF.out⟩
    | cons c t =>
      have hs0 : 0 < (bs (c :: t)).size := by rw [bs_size]; simp
      have hs1 : (1 : Int) ≤ ((bs (c :: t)).size : Int) := by omega
      have hgt : ((bs (c :: t))[0]'hs0).toNat = c.toNat := rfl
      have hsz : (bs (c :: t)).size = t.length + 1 := rfl
      by_cases h48 : c = 48
      · subst h48
        have hgt2 : ((bs (48 :: t))[0]'hs0) = 48 := rfl
        have hx : (bs (48 :: t)).extract 1 (bs (48 :: t)).size = bs t := bs_drop1 48 t
        have hw : IntKind.i64.wrap (e' - 1) = e' - 1 := by
          rw [List.length_cons] at hel hul
          rw [IntWalk.i64_in _ (by omega)]
        have htl : trimL t = trimL d := by rw [← htr.out, trimL_cons, if_pos rfl]
        have hput := (Bk.put hk.out 1 (.string (bs t))).put 2 (.int .i64 (e' - 1))
        have Hput : Hid (PB ((wr.setCell ⟨w.heap.size, 1, none⟩ (.string (bs t))).setCell ⟨w.heap.size, 2, none⟩ (.int .i64 (e' - 1))) w.heap.size b t (e' - 1)) := hide (by
          unfold PB
          simpa using hput)
        have hf : Fr (only w.heap.size) wr ((wr.setCell ⟨w.heap.size, 1, none⟩ (.string (bs t))).setCell ⟨w.heap.size, 2, none⟩ (.int .i64 (e' - 1))) := only_set (only_set (Fr.refl _ _) 1 _) 2 _
        have Hrr := hide (hr.out.fr hf (by show ¬ _ = _; omega)).drew
        have Hbb := hide ((hb.out.trans (own_below hf hb.out.size (Nat.le_refl _))).drew)
        have Hmu := hide (pmu_eq hk.out)
        have Hmu2 := hide (pmu_eq Hput.out)
        have Htl := hide htl
        have Hel := hide hel
        rw [List.length_cons] at hul
        have hs0' : (0 : Int) < ((bs (48 :: t)).size : Int) := by omega
        clear hput hf htl hel hgt hsz htr hk hr hb Hk0 Hr0 Hb0
        obtain ⟨ST, hST⟩ : ∃ S, bs t = S := ⟨_, rfl⟩
        rw [hST] at hx Hput Hrr Hbb Hmu2
        generalize bs (48 :: t) = SU at *
        go_wp2
        go_region
        all_goals
          go_wp2
          refine ⟨⟨t, e' - 1, Htl, by omega, by have := Hel.out; rw [List.length_cons] at this; omega, ?_, Hrr, Hbb⟩, ?_⟩
          · exact hide (Bk.drew Hput.out)
          · show pmu _ ((wr.setCell _ _).setCell _ _) < _
            rw [Hmu2.out, Hmu.out]
            simp
      · have hne48 : ((c.toNat : Int) == 48) = false := by
          rw [beq_eq_false_iff_ne]
          intro h
          exact h48 (UInt8.toNat_inj.1 (by rw [show (48 : UInt8).toNat = 48 from rfl]; omega))
        have htd : trimL d = c :: t := by
          rw [← htr.out]
          exact trimL_head0 (fun x y h => by injection h with h _; rw [← h]; exact h48)
        have hne : trimR (c :: t) ≠ [] := by
          intro h
          obtain ⟨k, hk⟩ := trimR_pre (c :: t)
          rw [h, List.nil_append] at hk
          have : c ∈ List.replicate k (48 : UInt8) := by rw [← hk]; exact List.mem_cons_self
          exact h48 (List.mem_replicate.1 this).2
        have hs0' : (0 : Int) < ((bs (c :: t)).size : Int) := by omega
        have Htd := hide htd
        have Hne := hide hne
        have Hel := hide hel
        have Hul := hide hul
        clear htd hne hel hul htr Hk0 Hr0 Hb0 h48 hsz
        obtain ⟨C, hC⟩ : ∃ C, c.toNat = C := ⟨_, rfl⟩
        rw [hC] at hgt hne48
        have Hk := hide hk.out
        generalize bs (c :: t) = SU at hs0 hs1 hgt hs0' n1
        clear hC
        go_wp2
        have Hk0 : Hid (PB wr w.heap.size b (c :: t) e') := Hk
        have Hr0 := hr
        have Hb0 := hb
        clear n1 n2 f1 f2 hs0 hs1 hgt hs0' hk hr hb
        go_loopw [] (fun wx => ∃ (v : List UInt8), Hid (trimR v = trimR (c :: t)) ∧ v.length ≤ 10000 ∧ Hid (PB wx w.heap.size b v e') ∧ Hid (Bk wx (w.heap.size + 1) 49 #[.bool false, .string ⟨#[]⟩, .int .i64 0]) ∧ Hid (Below w.heap.size w wx)) (fun wx => pmu w.heap.size wx)
        case atStart => exact ⟨c :: t, hide rfl, Hul.out, Hk0, Hr0, Hb0⟩
        case round =>
          obtain ⟨v, htv, hvl, hkv, hrv, hbv⟩ := hrel
          rcases List.eq_nil_or_concat v with rfl | ⟨i, x, rfl⟩
          · exact absurd htv.out.symm (fun h => Hne.out (h.trans rfl))
          · rw [List.concat_eq_append] at htv hvl hkv
            have n1 := Bk.cell hkv.out 1
            have f1 := Bk.frozen hkv.out 1
            simp at n1
            obtain ⟨I, hI⟩ : ∃ I, i.length = I := ⟨_, rfl⟩
            have hsz : (bs (i ++ [x])).size = I + 1 := by rw [bs_size, List.length_append, hI]; rfl
            have hIb : I < (bs (i ++ [x])).size := by omega
            have hget : ((bs (i ++ [x]))[I]'hIb).toNat = x.toNat := by
              subst hI
              rw [bs_getL i x hIb]
            have hex : (bs (i ++ [x])).extract 0 I = bs i := by
              rw [← hI]
              exact bs_takeL i x
            have hlen9 : i.length ≤ 10000 := by rw [List.length_append] at hvl; omega
            by_cases h48 : x = 48
            · have hget2 : ((bs (i ++ [x]))[I]'hIb) = 48 := UInt8.toNat_inj.1 (by rw [hget, h48])
              have hput := Bk.put hkv.out 1 (.string (bs i))
              have Hput : Hid (PB (wr.setCell ⟨w.heap.size, 1, none⟩ (.string (bs i))) w.heap.size b i e') := hide (by
                unfold PB
                simpa using hput)
              have hf : Fr (only w.heap.size) wr (wr.setCell ⟨w.heap.size, 1, none⟩ (.string (bs i))) := only_set (Fr.refl _ _) 1 _
              have Hrr := hide (hrv.out.fr hf (by show ¬ _ = _; omega))
              have Hbb := hide (hbv.out.trans (own_below hf hbv.out.size (Nat.le_refl _)))
              have Hmu := hide (pmu_eq hkv.out)
              have Hmu2 := hide (pmu_eq Hput.out)
              have Htt : Hid (trimR i = trimR (c :: t)) := hide (by rw [← htv.out, trimR_snoc, if_pos h48])
              have Hln : Hid (i.length < (i ++ [x]).length) := hide (by simp)
              have hI10 : I ≤ 10000 := by omega
              have Hln9 := hide hlen9
              clear hput hf hget htv hvl hkv hrv hbv h48 Hk0 Hr0 Hb0 hlen9 hI
              obtain ⟨ST, hST⟩ : ∃ S, bs i = S := ⟨_, rfl⟩
              rw [hST] at hex Hput Hrr Hbb Hmu2
              clear hST
              generalize bs (i ++ [x]) = SU at *
              go_wp2
              refine ⟨⟨i, Htt, Hln9.out, Hput, Hrr, Hbb⟩, ?_⟩
              rw [Hmu2.out, Hmu.out]
              exact Hln.out
            · have hxn : ((x.toNat : Int) == 48) = false := by
                rw [beq_eq_false_iff_ne]
                intro h
                exact h48 (UInt8.toNat_inj.1 (by rw [show (48 : UInt8).toNat = 48 from rfl]; omega))
              have htv2 : trimR (c :: t) = i ++ [x] := by
                rw [← htv.out, trimR_snoc, if_neg h48]
              have hz : PV (trimN ⟨b, d, e - d.length + 1⟩) = .agg #[.bool b, .string (bs (i ++ [x])), .int .i64 e'] := by
                have hnn : (i ++ [x]) ≠ [] := by simp
                have e1 : trimN ⟨b, d, e - d.length + 1⟩ = ⟨b, i ++ [x], e - d.length + 1 + ((c :: t).length - (i ++ [x]).length : Nat)⟩ := by
                  unfold trimN
                  simp only
                  rw [Htd.out, htv2, if_neg hnn]
                have hle : (i ++ [x]).length ≤ (c :: t).length := by rw [← htv2]; exact trimR_len _
                rw [e1]
                unfold PV fstE
                rw [if_neg hnn]
                have hel := Hel.out
                have : firstN ⟨b, i ++ [x], e - d.length + 1 + ((c :: t).length - (i ++ [x]).length : Nat)⟩ = e' := by
                  unfold firstN
                  simp only
                  omega
                rw [this]
              have Hz := hide hz
              obtain ⟨WF, hWF, u0, u1, u2, hbF⟩ := strip_end hrv.out hbv.out (by omega) b (bs (i ++ [x])) e'
              have HWF := hide hWF
              have HbF := hide hbF
              have n0 := Bk.cell hkv.out 0
              have n2 := Bk.cell hkv.out 2
              have r0 := hrv.out.cell 0
              have r1 := hrv.out.cell 1
              have r2 := hrv.out.cell 2
              have g0 := hrv.out.frozen 0
              have g1 := hrv.out.frozen 1
              have g2 := hrv.out.frozen 2
              simp at n0 n2 r0 r1 r2
              have hem : (bs (i ++ [x])).toList.isEmpty = false := emp0 (by omega)
              have hI10 : I ≤ 10000 := by omega
              obtain ⟨XV, hXV⟩ : ∃ V, x.toNat = V := ⟨_, rfl⟩
              rw [hXV] at hget hxn
              clear hz hWF hbF htv2 htv hvl hkv hrv hbv h48 Hk0 Hr0 Hb0 hlen9 hI hex hXV
              generalize bs (i ++ [x]) = SU at *
              go_wp2
              rw [HWF.out]
              refine bodyPost_ret (by simp [results, Tryd.results55, go_sem, u0, u1, u2]; try rfl) rfl ?_
              rw [Hz.out]
              exact ⟨rfl, HbF.out⟩
end Go.Proofs.YtkgclfagimlneaaDoor
/-
  The walks over the references: the text of parts.
-/
namespace Go.Proofs.YtkgclfagimlneaaDoor
open Go.RowKit Go.Proofs Wv Wv.Dc
set_option linter.unusedVariables false

theorem ret_te2 {s t : ByteArray} {a b : Int} (h : s = t) (h2 : a = b) : Ending.returned (.tuple #[.string s, .int .i64 a]) = .returned (.tuple #[.string t, .int .i64 b]) := by rw [h, h2]
set_option maxRecDepth 100000 in
set_option maxHeartbeats 2000000 in
theorem rtext_any (b : Bool) (d : List UInt8) (e : Int) (he1 : -4000000 ≤ e) (he2 : e ≤ 4000000) (hd : d.length ≤ 10000) (w : World) :
    Calls Tryd.prog 36 #[.agg #[.bool b, .string (bs d), .int .i64 e]] w fun x w' => x = .returned (.tuple #[.string (bs (ctext (trimN ⟨b, d, e - d.length + 1⟩)).1), .int .i64 ((ctext (trimN ⟨b, d, e - d.length + 1⟩)).2 : Int)]) ∧ Below w.heap.size w w' := by
  have Hst := hide (fun W => rstrip_any b d e he1 he2 hd W)
  have hb0 := (Below.refl w.heap.size w).alloc (Nat.le_refl _) (.cells #[.bool b, .string (bs d), .int .i64 e] 49)
  have hk0 := Bk.new w 49 #[.bool b, .string (bs d), .int .i64 e]
  have Hb0 := hide hb0
  have Hk0 := hide hk0
  clear hb0 hk0
  obtain ⟨n, hn⟩ : ∃ n, trimN ⟨b, d, e - d.length + 1⟩ = n := ⟨_, rfl⟩
  rw [hn] at Hst ⊢
  have hnl : n.dg.length ≤ 10000 := by
    rw [← hn]
    have a1 := trimL_len d
    have a2 := trimR_len (trimL d)
    unfold trimN
    split
    · simp [zeroN]
    · simp only; omega
  clear hn
  obtain ⟨bn, dn, en⟩ := n
  simp only at hnl
  obtain ⟨E, hE⟩ : ∃ E, fstE ⟨bn, dn, en⟩ = E := ⟨_, rfl⟩
  have hpv : PV ⟨bn, dn, en⟩ = .agg #[.bool bn, .string (bs dn), .int .i64 E] := by unfold PV; rw [hE]
  rw [hpv] at Hst
  have hct : ctext ⟨bn, dn, en⟩ = if dn = [] then ([48], 0) else if 17 < dn.length ∨ E < -400 ∨ 400 < E then ([], 9)
    else ((if bn then [45] else []) ++ dn.take 1 ++ (if 1 < dn.length then 46 :: dn.drop 1 else []) ++ 101 :: decZ E, 0) := by
    by_cases h0 : dn = []
    · rw [if_pos h0]
      unfold ctext
      rw [if_pos h0]
    · rw [if_neg h0]
      unfold ctext
      simp only
      have : firstN ⟨bn, dn, en⟩ = E := by rw [← hE]; unfold fstE; rw [if_neg h0]
      rw [if_neg h0, this]
  have Hct := hide hct
  clear hpv hE hct
  go_enter Tryd.func36, Tryd.ntmps36
  go_wp2_with fail
  refine (Hst.out _).mono ?_
  rintro x w1 ⟨rfl, hb1⟩
  have hk1 := Hk0.out.below hb1 Hk0.out.lt
  have r0 := hk1.cell 0
  have r1 := hk1.cell 1
  have r2 := hk1.cell 2
  have g0 := hk1.frozen 0
  have g1 := hk1.frozen 1
  have g2 := hk1.frozen 2
  simp at r0 r1 r2
  have hf : Fr (only w.heap.size) w1 (((w1.setCell ⟨w.heap.size, 0, none⟩ (.bool bn)).setCell ⟨w.heap.size, 1, none⟩ (.string (bs dn))).setCell ⟨w.heap.size, 2, none⟩ (.int .i64 E)) := only_set (only_set (only_set (Fr.refl _ _) 0 _) 1 _) 2 _
  have hk2 : Bk (((w1.setCell ⟨w.heap.size, 0, none⟩ (.bool bn)).setCell ⟨w.heap.size, 1, none⟩ (.string (bs dn))).setCell ⟨w.heap.size, 2, none⟩ (.int .i64 E)) w.heap.size 49 #[.bool bn, .string (bs dn), .int .i64 E] := by
    simpa using ((hk1.put 0 (.bool bn)).put 1 (.string (bs dn))).put 2 (.int .i64 E)
  have hbw1 := Hb0.out.trans (hb1.mono Hb0.out.size)
  have Hbw := hide (hbw1.trans (own_below hf hbw1.size (Nat.le_refl _)))
  have Hk2 := hide hk2
  clear hf hk2 hbw1 hb1 hk1
  go_upto_region 2 with fail
  obtain ⟨W2, hW2⟩ : ∃ W, (((w1.setCell ⟨w.heap.size, 0, none⟩ (.bool bn)).setCell ⟨w.heap.size, 1, none⟩ (.string (bs dn))).setCell ⟨w.heap.size, 2, none⟩ (.int .i64 E)) = W := ⟨_, rfl⟩
  rw [hW2] at Hbw Hk2 ⊢
  clear hW2 r0 r1 r2 g0 g1 g2
  have n0 := Hk2.out.cell 0
  have n1 := Hk2.out.cell 1
  have n2 := Hk2.out.cell 2
  simp at n0 n1 n2
  obtain ⟨l, hl⟩ : ∃ l, dn.length = l := ⟨_, rfl⟩
  have hsz : (bs dn).size = l := hl
  by_cases h0 : dn = []
  · have hct := Hct.out
    rw [if_pos h0] at hct
    have Hc2 := hide hct
    have hem : (bs dn).toList.isEmpty = true := emp1 (by rw [h0]; rfl)
    clear hct Hct h0 hl
    generalize bs dn = SD at *
    go_wp2
    go_returns
    exact ⟨ret_te2 (by rw [Hc2.out]; rfl) (by rw [Hc2.out]; rfl), Hbw.out⟩
  · have hct := Hct.out
    rw [if_neg h0] at hct
    have hlp : 0 < l := by rw [← hl]; exact List.length_pos_iff.2 h0
    have hem : (bs dn).toList.isEmpty = false := emp0 (by omega)
    by_cases h17 : 17 < l
    · rw [if_pos (.inl (by omega))] at hct
      have Hc2 := hide hct
      have h17i : (17 : Int) < (l : Int) := by omega
      clear hct Hct h0 hl h17
      generalize bs dn = SD at *
      go_wp2
      go_returns
      exact ⟨ret_te2 (by rw [Hc2.out]; rfl) (by rw [Hc2.out]; rfl), Hbw.out⟩
    · have h17i : ¬ (17 : Int) < (l : Int) := by omega
      by_cases hlo : E < -400
      · rw [if_pos (.inr (.inl hlo))] at hct
        have Hc2 := hide hct
        clear hct Hct h0 hl h17
        generalize bs dn = SD at *
        go_wp2
        go_returns
        exact ⟨ret_te2 (by rw [Hc2.out]; rfl) (by rw [Hc2.out]; rfl), Hbw.out⟩
      · by_cases hhi : 400 < E
        · rw [if_pos (.inr (.inr hhi))] at hct
          have Hc2 := hide hct
          clear hct Hct h0 hl h17
          generalize bs dn = SD at *
          go_wp2
          go_returns
          exact ⟨ret_te2 (by rw [Hc2.out]; rfl) (by rw [Hc2.out]; rfl), Hbw.out⟩
        · rw [if_neg (by omega)] at hct
          have hx1 : (bs dn).extract 0 1 = bs (dn.take 1) := ext_take _ _
          have hx2 : (bs dn).extract 1 (bs dn).size = bs (dn.drop 1) := ext_drop _ _
          have hx3 : (bs dn).extract 1 l = bs (dn.drop 1) := by rw [← hsz]; exact hx2
          have z1 : (bs (dn.take 1)).size ≤ 1 := by rw [bs_size, List.length_take]; omega
          have z2 : (bs (dn.drop 1)).size ≤ 17 := by rw [bs_size, List.length_drop]; omega
          have z3 : (bs (decZ E)).size ≤ 21 := by rw [bs_size]; exact decZ_size E (by omega)
          have hle1 : (1 : Int) ≤ (l : Int) := by omega
          have Hdc := hide (rdec_any E (by omega) W2)
          have Hl := hide hl
          by_cases hL1 : l = 1
          · rw [if_neg (show ¬ 1 < dn.length by omega), List.append_nil] at hct
            have Hcat : Hid ((if bn then (⟨#[45]⟩ : ByteArray) ++ bs (dn.take 1) else bs (dn.take 1)) ++ (⟨#[101]⟩ : ByteArray) ++ bs (decZ E) = bs (ctext ⟨bn, dn, en⟩).1) := hide (by
              rw [hct]
              have e1 : (⟨#[101]⟩ : ByteArray) = bs [101] := rfl
              have e2 : (⟨#[45]⟩ : ByteArray) = bs [45] := rfl
              rw [e1, e2]
              cases bn
              · simp [bs_append]
              · simp [bs_append])
            have H0 : Hid ((ctext ⟨bn, dn, en⟩).2 = 0) := hide (by rw [hct])
            subst hL1
            clear hct Hct h0 hl h17
            generalize bs (dn.take 1) = S1 at *
            generalize bs (dn.drop 1) = S2 at *
            generalize bs (decZ E) = S3 at *
            generalize bs dn = SD at *
            cases bn
            all_goals
              go_wp2_with fail
              refine (Hdc.out).mono ?_
              rintro x w3 ⟨rfl, hb3⟩
              have Hb3 := hide (Hbw.out.trans (hb3.mono Hbw.out.size))
              clear hb3
              go_wp2
              go_returns
              exact ⟨ret_te2 (by have := Hcat.out; simpa using this) (by rw [H0.out]; rfl), Hb3.out⟩
          · have hL2 : (1 : Int) < (l : Int) := by omega
            rw [if_pos (show 1 < dn.length by omega)] at hct
            have Hcat : Hid ((if bn then (⟨#[45]⟩ : ByteArray) ++ (bs (dn.take 1) ++ (⟨#[46]⟩ : ByteArray) ++ bs (dn.drop 1)) else bs (dn.take 1) ++ (⟨#[46]⟩ : ByteArray) ++ bs (dn.drop 1)) ++ (⟨#[101]⟩ : ByteArray) ++ bs (decZ E) = bs (ctext ⟨bn, dn, en⟩).1) := hide (by
              rw [hct]
              have e1 : (⟨#[101]⟩ : ByteArray) = bs [101] := rfl
              have e2 : (⟨#[45]⟩ : ByteArray) = bs [45] := rfl
              have e3 : (⟨#[46]⟩ : ByteArray) = bs [46] := rfl
              rw [e1, e2, e3]
              cases bn
              · simp [bs_append]
              · simp [bs_append])
            have H0 : Hid ((ctext ⟨bn, dn, en⟩).2 = 0) := hide (by rw [hct])
            clear hct Hct h0 hl h17 hL1
            generalize bs (dn.take 1) = S1 at *
            generalize bs (dn.drop 1) = S2 at *
            generalize bs (decZ E) = S3 at *
            generalize bs dn = SD at *
            cases bn
            all_goals
              go_wp2_with fail
              refine (Hdc.out).mono ?_
              rintro x w3 ⟨rfl, hb3⟩
              have Hb3 := hide (Hbw.out.trans (hb3.mono Hbw.out.size))
              clear hb3
              go_wp2
              go_returns
              exact ⟨ret_te2 (by have := Hcat.out; simpa using this) (by rw [H0.out]; rfl), Hb3.out⟩
end Go.Proofs.YtkgclfagimlneaaDoor
