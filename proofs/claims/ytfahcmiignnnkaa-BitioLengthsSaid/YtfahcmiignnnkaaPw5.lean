/-
  The walks over the bit strings of the program: Put, the further kinds.
-/
import Derived.Test.YtfahcmiignnnkaaPw4
namespace Go.Proofs.Ytfahcmiignnnkaa
open Go.RowKit Go.Proofs Wv Wv.Bit

set_option maxHeartbeats 1000000 in
theorem wput2 {b : Nat} {dv : Value} {l : List Bool} {w : World} (hw : WrAt w b dv l) (hl : l.length ≤ 65536) (p : Int) (v : Int) (h0 : 0 ≤ p) (h1 : p ≤ 30) (hv1 : -9223372036854775808 ≤ v) (hv2 : v ≤ 9223372036854775807) :
    Calls Try.prog 17 #[.pointer (some ⟨b, 0, none⟩), .agg #[.int .i64 2, .int .i64 p, .int .i64 v]] w fun e w' => e = .returned (.int .i64 ((putm l ⟨2, p, v⟩).2 : Nat)) ∧ ∃ dv', WrAt w' b dv' (putm l ⟨2, p, v⟩).1 ∧ Fr (foot b dv) w w' ∧ OwnNew w dv dv' := by
  have hfd := find2 p h0 h1 (w.alloc (.cells #[.int .i64 2, .int .i64 p, .int .i64 v] 42))
  unfold kv2 at hfd
  have Hf := hide hfd
  have Hv := hide (kvalid2 p v h0 h1 hv1 hv2)
  clear hfd
  by_cases hvl : vld 2 p v = true
  · have hcl := cbits_len hvl
    have Hs := hide (fun w => ksize2 p v hvl w)
    have Hw := hide (fun (W : World) (hW : WrAt W b dv l) => kwrite2 hW p v hvl hl)
    have Hp := hide (show putm l ⟨2, p, v⟩ = if 65536 < l.length + (cbits 2 (p : Int).toNat v.toNat).length then (l, 9) else (l ++ cbits 2 (p : Int).toNat v.toNat, 0) from by rw [putm, Cd.ok]; simp only; rw [hvl]; rfl)
    rw [hvl] at Hv
    change (cbits 2 (p : Int).toNat v.toNat).length ≤ 8192 at hcl
    obtain ⟨cb, hcb⟩ : ∃ cb, cbits 2 (p : Int).toNat v.toNat = cb := ⟨_, rfl⟩
    rw [hcb] at hcl Hs Hp Hw
    clear hvl hcb
    by_cases hbig : 65536 < l.length + cb.length
    · have hbi : (65536 : Int) < (l.length : Int) + (cb.length : Int) := by omega
      obtain ⟨t, ht⟩ : ∃ t, l.length + cb.length = t := ⟨_, rfl⟩
      have i1 : IntKind.i64.wrap ((l.length : Int) + (cb.length : Int)) = (t : Int) := by rw [IntWalk.i64_in _ (by omega)]; omega
      have i2 : (65536 : Int) < (t : Int) := by omega
      clear ht
      go_enter Try.func17, Try.ntmps17
      go_wp2_with fail
      refine (Hf.out).mono ?_
      rintro e w1 ⟨rfl, hb⟩
      have hc1 := bcell hb
      have hs := hb.size
      have hz : w.heap.size < w1.heap.size := Nat.lt_of_lt_of_le (by simp) hs
      simp at hs
      have hw1 := (hw.alloc (.cells #[.int .i64 2, .int .i64 p, .int .i64 v] 42)).below hb
      have hf1 := ((Fr.refl (foot b dv) w).alloc (.cells #[.int .i64 2, .int .i64 p, .int .i64 v] 42)).below hb
      have hbl := hw1.1.lt
      have g1 := hw1.1.cell 1
      simp at g1
      go_wp2_with fail
      refine (Hv.out _).mono ?_
      rintro e w2 ⟨rfl, q, rfl⟩
      go_wp2_with fail
      go_quiet ((go_at_call 53; first | exact q3 (Hs.out _) | exact q4 (Hs.out _)))
      clear i1
      go_wp2
      go_ret
      exact ⟨ret_int1 (by rw [Hp.out, if_pos hbig]; rfl), dv, by rw [Hp.out, if_pos hbig]; exact hw1.alloc _, ((hf1.alloc _).drewN _).drewN _, .inl rfl⟩
    · have hbi : ¬ (65536 : Int) < (l.length : Int) + (cb.length : Int) := by omega
      obtain ⟨t, ht⟩ : ∃ t, l.length + cb.length = t := ⟨_, rfl⟩
      have i1 : IntKind.i64.wrap ((l.length : Int) + (cb.length : Int)) = (t : Int) := by rw [IntWalk.i64_in _ (by omega)]; omega
      have i2 : ¬ (65536 : Int) < (t : Int) := by omega
      clear ht
      go_enter Try.func17, Try.ntmps17
      go_wp2_with fail
      refine (Hf.out).mono ?_
      rintro e w1 ⟨rfl, hb⟩
      have hc1 := bcell hb
      have hs := hb.size
      have hz : w.heap.size < w1.heap.size := Nat.lt_of_lt_of_le (by simp) hs
      simp at hs
      have hw1 := (hw.alloc (.cells #[.int .i64 2, .int .i64 p, .int .i64 v] 42)).below hb
      have hf1 := ((Fr.refl (foot b dv) w).alloc (.cells #[.int .i64 2, .int .i64 p, .int .i64 v] 42)).below hb
      have hbl := hw1.1.lt
      have g1 := hw1.1.cell 1
      simp at g1
      go_wp2_with fail
      refine (Hv.out _).mono ?_
      rintro e w2 ⟨rfl, q, rfl⟩
      go_wp2_with fail
      go_quiet ((go_at_call 53; first | exact q3 (Hs.out _) | exact q4 (Hs.out _)))
      clear i1
      go_wp2_with fail
      have hwB : ∀ k, WrAt ((w1.alloc (.cells #[.int .i64 0, .int .i64 30, .func (.func 42) #[] #[], .func (.func 53) #[] #[], .func (.func 54) #[] #[], .func (.func 55) #[] #[]] 66)).drewN k) b dv l := fun _ => hw1.alloc _
      refine (Hw.out _ (hwB _)).mono ?_
      rintro e w3 ⟨rfl, d3, hw3, hf3, ho3⟩
      go_wp2
      go_ret
      have hf0 : Fr (foot b dv) w (w1.alloc (.cells kv2.cells 66)) := hf1.alloc _
      simp only [kv2, Value.cells] at hf0
      have h7 := wr_trans (w := w) (hf0.drewN _) (.inl rfl) hf3 ho3
      exact ⟨ret_int1 (by rw [Hp.out, if_neg hbig]; rfl), d3, by rw [Hp.out, if_neg hbig]; exact hw3, h7.1, h7.2⟩
  · have hvf : vld 2 p v = false := by simpa using hvl
    have Hp := hide (show putm l ⟨2, p, v⟩ = (l, 1) from by rw [putm, Cd.ok]; simp only; rw [hvf]; rfl)
    rw [hvf] at Hv
    clear hvl hvf
    go_enter Try.func17, Try.ntmps17
    go_wp2_with fail
    refine (Hf.out).mono ?_
    rintro e w1 ⟨rfl, hb⟩
    have hc1 := bcell hb
    have hs := hb.size
    have hz : w.heap.size < w1.heap.size := Nat.lt_of_lt_of_le (by simp) hs
    simp at hs
    have hw1 := (hw.alloc (.cells #[.int .i64 2, .int .i64 p, .int .i64 v] 42)).below hb
    have hf1 := ((Fr.refl (foot b dv) w).alloc (.cells #[.int .i64 2, .int .i64 p, .int .i64 v] 42)).below hb
    have hbl := hw1.1.lt
    have g1 := hw1.1.cell 1
    simp at g1
    go_wp2_with fail
    refine (Hv.out _).mono ?_
    rintro e w2 ⟨rfl, q, rfl⟩
    go_wp2
    go_ret
    exact ⟨ret_int1 (by rw [Hp.out]; rfl), dv, by rw [Hp.out]; exact hw1.alloc _, (hf1.alloc _).drewN _, .inl rfl⟩

set_option maxHeartbeats 1000000 in
theorem wput3 {b : Nat} {dv : Value} {l : List Bool} {w : World} (hw : WrAt w b dv l) (hl : l.length ≤ 65536) (p : Int) (v : Int) (h0 : 0 ≤ p) (h1 : p ≤ 30) (hv1 : -9223372036854775808 ≤ v) (hv2 : v ≤ 9223372036854775807) :
    Calls Try.prog 17 #[.pointer (some ⟨b, 0, none⟩), .agg #[.int .i64 3, .int .i64 p, .int .i64 v]] w fun e w' => e = .returned (.int .i64 ((putm l ⟨3, p, v⟩).2 : Nat)) ∧ ∃ dv', WrAt w' b dv' (putm l ⟨3, p, v⟩).1 ∧ Fr (foot b dv) w w' ∧ OwnNew w dv dv' := by
  have hfd := find3 p h0 h1 (w.alloc (.cells #[.int .i64 3, .int .i64 p, .int .i64 v] 42))
  unfold kv3 at hfd
  have Hf := hide hfd
  have Hv := hide (kvalid3 p v h0 h1 hv1 hv2)
  clear hfd
  by_cases hvl : vld 3 p v = true
  · have hcl := cbits_len hvl
    have Hs := hide (fun w => ksize3 p v hvl w)
    have Hw := hide (fun (W : World) (hW : WrAt W b dv l) => kwrite3 hW p v hvl hl)
    have Hp := hide (show putm l ⟨3, p, v⟩ = if 65536 < l.length + (cbits 3 (p : Int).toNat v.toNat).length then (l, 9) else (l ++ cbits 3 (p : Int).toNat v.toNat, 0) from by rw [putm, Cd.ok]; simp only; rw [hvl]; rfl)
    rw [hvl] at Hv
    change (cbits 3 (p : Int).toNat v.toNat).length ≤ 8192 at hcl
    obtain ⟨cb, hcb⟩ : ∃ cb, cbits 3 (p : Int).toNat v.toNat = cb := ⟨_, rfl⟩
    rw [hcb] at hcl Hs Hp Hw
    clear hvl hcb
    by_cases hbig : 65536 < l.length + cb.length
    · have hbi : (65536 : Int) < (l.length : Int) + (cb.length : Int) := by omega
      obtain ⟨t, ht⟩ : ∃ t, l.length + cb.length = t := ⟨_, rfl⟩
      have i1 : IntKind.i64.wrap ((l.length : Int) + (cb.length : Int)) = (t : Int) := by rw [IntWalk.i64_in _ (by omega)]; omega
      have i2 : (65536 : Int) < (t : Int) := by omega
      clear ht
      go_enter Try.func17, Try.ntmps17
      go_wp2_with fail
      refine (Hf.out).mono ?_
      rintro e w1 ⟨rfl, hb⟩
      have hc1 := bcell hb
      have hs := hb.size
      have hz : w.heap.size < w1.heap.size := Nat.lt_of_lt_of_le (by simp) hs
      simp at hs
      have hw1 := (hw.alloc (.cells #[.int .i64 3, .int .i64 p, .int .i64 v] 42)).below hb
      have hf1 := ((Fr.refl (foot b dv) w).alloc (.cells #[.int .i64 3, .int .i64 p, .int .i64 v] 42)).below hb
      have hbl := hw1.1.lt
      have g1 := hw1.1.cell 1
      simp at g1
      go_wp2_with fail
      refine (Hv.out _).mono ?_
      rintro e w2 ⟨rfl, q, rfl⟩
      go_wp2_with fail
      go_quiet ((go_at_call 57; first | exact q3 (Hs.out _) | exact q4 (Hs.out _)))
      clear i1
      go_wp2
      go_ret
      exact ⟨ret_int1 (by rw [Hp.out, if_pos hbig]; rfl), dv, by rw [Hp.out, if_pos hbig]; exact hw1.alloc _, ((hf1.alloc _).drewN _).drewN _, .inl rfl⟩
    · have hbi : ¬ (65536 : Int) < (l.length : Int) + (cb.length : Int) := by omega
      obtain ⟨t, ht⟩ : ∃ t, l.length + cb.length = t := ⟨_, rfl⟩
      have i1 : IntKind.i64.wrap ((l.length : Int) + (cb.length : Int)) = (t : Int) := by rw [IntWalk.i64_in _ (by omega)]; omega
      have i2 : ¬ (65536 : Int) < (t : Int) := by omega
      clear ht
      go_enter Try.func17, Try.ntmps17
      go_wp2_with fail
      refine (Hf.out).mono ?_
      rintro e w1 ⟨rfl, hb⟩
      have hc1 := bcell hb
      have hs := hb.size
      have hz : w.heap.size < w1.heap.size := Nat.lt_of_lt_of_le (by simp) hs
      simp at hs
      have hw1 := (hw.alloc (.cells #[.int .i64 3, .int .i64 p, .int .i64 v] 42)).below hb
      have hf1 := ((Fr.refl (foot b dv) w).alloc (.cells #[.int .i64 3, .int .i64 p, .int .i64 v] 42)).below hb
      have hbl := hw1.1.lt
      have g1 := hw1.1.cell 1
      simp at g1
      go_wp2_with fail
      refine (Hv.out _).mono ?_
      rintro e w2 ⟨rfl, q, rfl⟩
      go_wp2_with fail
      go_quiet ((go_at_call 57; first | exact q3 (Hs.out _) | exact q4 (Hs.out _)))
      clear i1
      go_wp2_with fail
      have hwB : ∀ k, WrAt ((w1.alloc (.cells #[.int .i64 0, .int .i64 30, .func (.func 56) #[] #[], .func (.func 57) #[] #[], .func (.func 59) #[] #[], .func (.func 60) #[] #[]] 66)).drewN k) b dv l := fun _ => hw1.alloc _
      refine (Hw.out _ (hwB _)).mono ?_
      rintro e w3 ⟨rfl, d3, hw3, hf3, ho3⟩
      go_wp2
      go_ret
      have hf0 : Fr (foot b dv) w (w1.alloc (.cells kv3.cells 66)) := hf1.alloc _
      simp only [kv3, Value.cells] at hf0
      have h7 := wr_trans (w := w) (hf0.drewN _) (.inl rfl) hf3 ho3
      exact ⟨ret_int1 (by rw [Hp.out, if_neg hbig]; rfl), d3, by rw [Hp.out, if_neg hbig]; exact hw3, h7.1, h7.2⟩
  · have hvf : vld 3 p v = false := by simpa using hvl
    have Hp := hide (show putm l ⟨3, p, v⟩ = (l, 1) from by rw [putm, Cd.ok]; simp only; rw [hvf]; rfl)
    rw [hvf] at Hv
    clear hvl hvf
    go_enter Try.func17, Try.ntmps17
    go_wp2_with fail
    refine (Hf.out).mono ?_
    rintro e w1 ⟨rfl, hb⟩
    have hc1 := bcell hb
    have hs := hb.size
    have hz : w.heap.size < w1.heap.size := Nat.lt_of_lt_of_le (by simp) hs
    simp at hs
    have hw1 := (hw.alloc (.cells #[.int .i64 3, .int .i64 p, .int .i64 v] 42)).below hb
    have hf1 := ((Fr.refl (foot b dv) w).alloc (.cells #[.int .i64 3, .int .i64 p, .int .i64 v] 42)).below hb
    have hbl := hw1.1.lt
    have g1 := hw1.1.cell 1
    simp at g1
    go_wp2_with fail
    refine (Hv.out _).mono ?_
    rintro e w2 ⟨rfl, q, rfl⟩
    go_wp2
    go_ret
    exact ⟨ret_int1 (by rw [Hp.out]; rfl), dv, by rw [Hp.out]; exact hw1.alloc _, (hf1.alloc _).drewN _, .inl rfl⟩

set_option maxHeartbeats 1000000 in
theorem wput4 {b : Nat} {dv : Value} {l : List Bool} {w : World} (hw : WrAt w b dv l) (hl : l.length ≤ 65536) (p : Int) (v : Int) (h0 : 1 ≤ p) (h1 : p ≤ 4294967296) (hv1 : -9223372036854775808 ≤ v) (hv2 : v ≤ 9223372036854775807) :
    Calls Try.prog 17 #[.pointer (some ⟨b, 0, none⟩), .agg #[.int .i64 4, .int .i64 p, .int .i64 v]] w fun e w' => e = .returned (.int .i64 ((putm l ⟨4, p, v⟩).2 : Nat)) ∧ ∃ dv', WrAt w' b dv' (putm l ⟨4, p, v⟩).1 ∧ Fr (foot b dv) w w' ∧ OwnNew w dv dv' := by
  have hfd := find4 p h0 h1 (w.alloc (.cells #[.int .i64 4, .int .i64 p, .int .i64 v] 42))
  unfold kv4 at hfd
  have Hf := hide hfd
  have Hv := hide (kvalid4 p v h0 h1 hv1 hv2)
  clear hfd
  by_cases hvl : vld 4 p v = true
  · have hcl := cbits_len hvl
    have Hs := hide (fun w => ksize4 p v hvl w)
    have Hw := hide (fun (W : World) (hW : WrAt W b dv l) => kwrite4 hW p v hvl hl)
    have Hp := hide (show putm l ⟨4, p, v⟩ = if 65536 < l.length + (cbits 4 (p : Int).toNat v.toNat).length then (l, 9) else (l ++ cbits 4 (p : Int).toNat v.toNat, 0) from by rw [putm, Cd.ok]; simp only; rw [hvl]; rfl)
    rw [hvl] at Hv
    change (cbits 4 (p : Int).toNat v.toNat).length ≤ 8192 at hcl
    obtain ⟨cb, hcb⟩ : ∃ cb, cbits 4 (p : Int).toNat v.toNat = cb := ⟨_, rfl⟩
    rw [hcb] at hcl Hs Hp Hw
    clear hvl hcb
    by_cases hbig : 65536 < l.length + cb.length
    · have hbi : (65536 : Int) < (l.length : Int) + (cb.length : Int) := by omega
      obtain ⟨t, ht⟩ : ∃ t, l.length + cb.length = t := ⟨_, rfl⟩
      have i1 : IntKind.i64.wrap ((l.length : Int) + (cb.length : Int)) = (t : Int) := by rw [IntWalk.i64_in _ (by omega)]; omega
      have i2 : (65536 : Int) < (t : Int) := by omega
      clear ht
      go_enter Try.func17, Try.ntmps17
      go_wp2_with fail
      refine (Hf.out).mono ?_
      rintro e w1 ⟨rfl, hb⟩
      have hc1 := bcell hb
      have hs := hb.size
      have hz : w.heap.size < w1.heap.size := Nat.lt_of_lt_of_le (by simp) hs
      simp at hs
      have hw1 := (hw.alloc (.cells #[.int .i64 4, .int .i64 p, .int .i64 v] 42)).below hb
      have hf1 := ((Fr.refl (foot b dv) w).alloc (.cells #[.int .i64 4, .int .i64 p, .int .i64 v] 42)).below hb
      have hbl := hw1.1.lt
      have g1 := hw1.1.cell 1
      simp at g1
      go_wp2_with fail
      refine (Hv.out _).mono ?_
      rintro e w2 ⟨rfl, q, rfl⟩
      go_wp2_with fail
      go_quiet ((go_at_call 62; first | exact q3 (Hs.out _) | exact q4 (Hs.out _)))
      clear i1
      go_wp2
      go_ret
      exact ⟨ret_int1 (by rw [Hp.out, if_pos hbig]; rfl), dv, by rw [Hp.out, if_pos hbig]; exact hw1.alloc _, ((hf1.alloc _).drewN _).drewN _, .inl rfl⟩
    · have hbi : ¬ (65536 : Int) < (l.length : Int) + (cb.length : Int) := by omega
      obtain ⟨t, ht⟩ : ∃ t, l.length + cb.length = t := ⟨_, rfl⟩
      have i1 : IntKind.i64.wrap ((l.length : Int) + (cb.length : Int)) = (t : Int) := by rw [IntWalk.i64_in _ (by omega)]; omega
      have i2 : ¬ (65536 : Int) < (t : Int) := by omega
      clear ht
      go_enter Try.func17, Try.ntmps17
      go_wp2_with fail
      refine (Hf.out).mono ?_
      rintro e w1 ⟨rfl, hb⟩
      have hc1 := bcell hb
      have hs := hb.size
      have hz : w.heap.size < w1.heap.size := Nat.lt_of_lt_of_le (by simp) hs
      simp at hs
      have hw1 := (hw.alloc (.cells #[.int .i64 4, .int .i64 p, .int .i64 v] 42)).below hb
      have hf1 := ((Fr.refl (foot b dv) w).alloc (.cells #[.int .i64 4, .int .i64 p, .int .i64 v] 42)).below hb
      have hbl := hw1.1.lt
      have g1 := hw1.1.cell 1
      simp at g1
      go_wp2_with fail
      refine (Hv.out _).mono ?_
      rintro e w2 ⟨rfl, q, rfl⟩
      go_wp2_with fail
      go_quiet ((go_at_call 62; first | exact q3 (Hs.out _) | exact q4 (Hs.out _)))
      clear i1
      go_wp2_with fail
      have hwB : ∀ k, WrAt ((w1.alloc (.cells #[.int .i64 1, .int .i64 4294967296, .func (.func 61) #[] #[], .func (.func 62) #[] #[], .func (.func 64) #[] #[], .func (.func 65) #[] #[]] 66)).drewN k) b dv l := fun _ => hw1.alloc _
      refine (Hw.out _ (hwB _)).mono ?_
      rintro e w3 ⟨rfl, d3, hw3, hf3, ho3⟩
      go_wp2
      go_ret
      have hf0 : Fr (foot b dv) w (w1.alloc (.cells kv4.cells 66)) := hf1.alloc _
      simp only [kv4, Value.cells] at hf0
      have h7 := wr_trans (w := w) (hf0.drewN _) (.inl rfl) hf3 ho3
      exact ⟨ret_int1 (by rw [Hp.out, if_neg hbig]; rfl), d3, by rw [Hp.out, if_neg hbig]; exact hw3, h7.1, h7.2⟩
  · have hvf : vld 4 p v = false := by simpa using hvl
    have Hp := hide (show putm l ⟨4, p, v⟩ = (l, 1) from by rw [putm, Cd.ok]; simp only; rw [hvf]; rfl)
    rw [hvf] at Hv
    clear hvl hvf
    go_enter Try.func17, Try.ntmps17
    go_wp2_with fail
    refine (Hf.out).mono ?_
    rintro e w1 ⟨rfl, hb⟩
    have hc1 := bcell hb
    have hs := hb.size
    have hz : w.heap.size < w1.heap.size := Nat.lt_of_lt_of_le (by simp) hs
    simp at hs
    have hw1 := (hw.alloc (.cells #[.int .i64 4, .int .i64 p, .int .i64 v] 42)).below hb
    have hf1 := ((Fr.refl (foot b dv) w).alloc (.cells #[.int .i64 4, .int .i64 p, .int .i64 v] 42)).below hb
    have hbl := hw1.1.lt
    have g1 := hw1.1.cell 1
    simp at g1
    go_wp2_with fail
    refine (Hv.out _).mono ?_
    rintro e w2 ⟨rfl, q, rfl⟩
    go_wp2
    go_ret
    exact ⟨ret_int1 (by rw [Hp.out]; rfl), dv, by rw [Hp.out]; exact hw1.alloc _, (hf1.alloc _).drewN _, .inl rfl⟩
end Go.Proofs.Ytfahcmiignnnkaa
