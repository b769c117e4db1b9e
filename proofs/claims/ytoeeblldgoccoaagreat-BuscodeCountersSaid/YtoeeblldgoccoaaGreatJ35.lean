/-
  Joined texts: Cd, Ce.
-/
import Derived.Test.YtoeeblldgoccoaaGreatJ34
import Derived.Test.YtoeeblldgoccoaaGreatJ33
set_option linter.unusedVariables false
set_option linter.unusedSimpArgs false
/-
  The walks over lists of values: EncodeAs and Encode.
-/
namespace Go.Proofs.YtoeeblldgoccoaaGreat
open Go.RowKit Go.Proofs Wv Wv.Vi Wv.Rc Wv.Mo Wv.Ru Wv.Tm Wv.Bc
set_option linter.unusedVariables false
theorem readCt_any {w : World} {b m : Nat} {s : ByteArray} (h : RV w b s 0) (hs : s.size ≤ 1000000000) (hm1 : 1 ≤ m) (hm : m ≤ 128) :
  Calls Tryz.prog 90 #[.agg #[.int .i64 (m : Int)], .pointer (some ⟨b, 0, none⟩)] w fun x w' => FinR b w (readCt (m : Int) (toL s)) x w' := by
 cases hr : rnum (toL s) 4096 with
 | none =>
  obtain ⟨e, he, hn⟩ := numR_nok hr
  have hz := readCt_zero (w := (m : Int)) _ _ hn
  rw [hz]
  rw [bs_toL] at hn ⊢
  exact readCt_0 h hs _ hn
 | some p =>
  obtain ⟨n, r⟩ := p
  by_cases h0 : n = 0
  ·subst h0
   obtain ⟨hn, _, _⟩ := numR_some hr
   have hz := readCt_zero (w := (m : Int)) _ _ hn
   rw [hz]
   rw [bs_toL] at hn
   exact readCt_0 h hs _ hn
  ·exact readCt_n h hs hm1 hm hr h0
theorem codC_len (l : List ByteArray) (h4 : l.length ≤ 4096) : (codC l).length ≤ 4000000 := by
 by_cases h0 : l = []
 ·subst h0
  exact (by decide : (codC []).length ≤ 4000000)
 ·have hb := congrArg ByteArray.size (codC_bs h0)
  simp only [ByteArray.size_append] at hb
  rw [bs_size] at hb
  have hxv := exI_valid h4 (stepB l)
  have hnl := numsI_len hxv
  have hxl := exI_len l (stepB l)
  have hal : (atI l (exI l (stepB l))).length ≤ 4096 := by unfold atI; rw [List.length_map]; omega
  have hso := short_ok hal
  have h5 := tmenc_len hso.1 hso.2
  have z0 := num_sz l.length
  have z1 := text_sz (shr (toL (l.getD 0 default)))
  have z2 := text_sz (shr (toL (stepB l)))
  have z3 := text_sz (numsI (gapsT (exI l (stepB l))))
  have k1 := shr_len128 (toL (l.getD 0 default))
  have k2 := shr_len128 (toL (stepB l))
  have h6 : (bs (enc (shortL (atI l (exI l (stepB l))))).1).size ≤ 2000000 := h5
  omega
theorem codB_len {c : Nat} {W : Int} {l : List ByteArray} (h : validB W l = true) : ((codB c W l).getD []).length ≤ 4000000 := by
 obtain ⟨h1, h2, h3, h4⟩ := validB_iff.1 h
 unfold codB
 split
 ·unfold codP
  split
  ·exact Nat.zero_le _
  ·rename_i hb
   show (num l.length ++ toL (Bit.bstr (bitsL l))).length ≤ _
   have h1 := Bit.bstr_size (bitsL l)
   have h2 := num_sz l.length
   rw [bs_size] at h2
   rw [List.length_append, toL_length]
   omega
 ·split
  ·exact codC_len l h4
  ·split
   ·have hs := short_ok (l := mixL (bs (allV W 48)) l) (by rw [mixL_len]; exact h4)
    have := tmenc_len hs.1 hs.2
    show (enc _).1.length ≤ _
    omega
   ·have hs := short_ok (l := l) h4
    have := tmenc_len hs.1 hs.2
    show (enc _).1.length ≤ _
    omega
def wrO (c : Nat) (o : Option (List UInt8)) : List UInt8 × Nat := match o with
 | none => ([], 9)
 | some s => (num c ++ s, 0)
def WrC (fid : FuncId) (A : Option Addr) (l : List ByteArray) (n cap : Nat) (W : Int) (o : Option (List UInt8)) : Prop :=
 ∀ W2, At W2 A (svs l) → Calls Tryz.prog fid #[.agg #[.int .i64 W], .slice A n cap] W2 fun x w' => x = .returned (.tuple #[.string (bs (o.getD [])), .bool o.isSome]) ∧ Below W2.heap.size W2 w'
set_option maxRecDepth 100000 in
set_option maxHeartbeats 2000000 in
theorem encas_core0 {w : World} {A : Option Addr} {l : List ByteArray} (ha : At w A (svs l)) (n cap : Nat) (W : Int) (c : Nat) (hc : c ≤ 3) (hlk : ∀ w2 : World, (Instr.lookup 57 (.map (some w2.heap.size)) (.int .i64 (c : Int)) false).run Tryz.prog (w2.alloc (.map writersE 4)) = .ok (.func (.func 61) #[] #[]) (w2.alloc (.map writersE 4)))
  (o : Option (List UInt8)) (hw : WrC 61 A l n cap W o) (hlen : (o.getD []).length ≤ 4000000) (hv : Calls Tryz.prog 13 #[.int .i64 W, .slice A n cap] w fun x w' => x = .returned (.bool true) ∧ Below w.heap.size w w') :
  Calls Tryz.prog 17 #[.int .i64 (c : Int), .int .i64 W, .slice A n cap] w fun x w' => ERes w (wrO c o) x w' := by
 have HV := hide hv
 have Ha := hide ha
 have HW := hide hw
 have HN := hide (fun W2 => number_any (c : Int) (by omega) (by omega) W2)
 rw [Int.toNat_natCast] at HN
 have Hlk := hide hlk
 have hz := num_sz c
 have hap : ∀ s, bs (num c) ++ bs s = bs (num c ++ s) := fun s => bs_append _ _
 have Hap := hide hap
 have hc0 : ¬ (c : Int) < 0 := by omega
 have hc4 : ¬ (4 : Int) ≤ (c : Int) := by omega
 have he : bs ([] : List UInt8) = ⟨#[]⟩ := rfl
 unfold WrC at HW
 clear hv ha hw hlk hap hc
 cases o with
 | none =>
  show Calls Tryz.prog 17 #[.int .i64 (c : Int), .int .i64 W, .slice A n cap] w fun x w' => ERes w ([], 9) x w'
  simp only [Option.getD_none, Option.isSome_none, he] at HW
  clear hlen hz Hap
  go_enter Tryz.func17, Tryz.ntmps17
  go_wp2_with fail
  refine (HV.out).mono ?_
  rintro x w1 ⟨rfl, hb1⟩
  go_wp2_with fail
  refine (writers_any w1).mono ?_
  rintro x w2 ⟨rfl, rfl⟩
  have hl1 := Hlk.out w1
  have hb2 := hb1.alloc hb1.size (.map writersE 4)
  have Hb2 := hide hb2
  have K := hide (HW.out _ (Ha.out.below hb2))
  clear hb1 hb2 HW Ha HV
  go_wp2_with fail
  refine (K.out).mono ?_
  rintro x w3 ⟨rfl, hb3⟩
  have Hb3 := hide (Hb2.out.trans (hb3.mono Hb2.out.size))
  clear hb3 Hb2 K hl1 Hlk
  go_wp2
  go_returns
  exact ⟨rfl, Hb3.out⟩
 | some s =>
  show Calls Tryz.prog 17 #[.int .i64 (c : Int), .int .i64 W, .slice A n cap] w fun x w' => ERes w (num c ++ s, 0) x w'
  simp only [Option.getD_some, Option.isSome_some] at HW hlen
  have hs : (bs s).size ≤ 4000000 := hlen
  have hsum := nosumB (a := (bs (num c)).size) (b := (bs s).size) (by omega)
  have hfin := Hap.out s
  have Hfin := hide hfin
  generalize bs s = S at *
  generalize bs (num c) = S0 at *
  clear hlen hz Hap hfin he
  go_enter Tryz.func17, Tryz.ntmps17
  go_wp2_with fail
  refine (HV.out).mono ?_
  rintro x w1 ⟨rfl, hb1⟩
  go_wp2_with fail
  refine (writers_any w1).mono ?_
  rintro x w2 ⟨rfl, rfl⟩
  have hl1 := Hlk.out w1
  have hb2 := hb1.alloc hb1.size (.map writersE 4)
  have Hb2 := hide hb2
  have K := hide (HW.out _ (Ha.out.below hb2))
  clear hb1 hb2 HW Ha HV
  go_wp2_with fail
  refine (K.out).mono ?_
  rintro x w3 ⟨rfl, hb3⟩
  have Hb3 := hide (Hb2.out.trans (hb3.mono Hb2.out.size))
  clear hb3 Hb2 K hl1 Hlk
  go_wp2_with fail
  refine (HN.out w3).mono ?_
  rintro x w4 ⟨rfl, hb4⟩
  have Hb4 := hide (Hb3.out.trans (hb4.mono Hb3.out.size))
  clear hb4 Hb3 HN
  go_wp2
  go_returns
  exact ⟨by rw [← Hfin.out]; rfl, Hb4.out⟩
set_option maxRecDepth 100000 in
set_option maxHeartbeats 2000000 in
theorem encas_core1 {w : World} {A : Option Addr} {l : List ByteArray} (ha : At w A (svs l)) (n cap : Nat) (W : Int) (c : Nat) (hc : c ≤ 3) (hlk : ∀ w2 : World, (Instr.lookup 57 (.map (some w2.heap.size)) (.int .i64 (c : Int)) false).run Tryz.prog (w2.alloc (.map writersE 4)) = .ok (.func (.func 62) #[] #[]) (w2.alloc (.map writersE 4)))
  (o : Option (List UInt8)) (hw : WrC 62 A l n cap W o) (hlen : (o.getD []).length ≤ 4000000) (hv : Calls Tryz.prog 13 #[.int .i64 W, .slice A n cap] w fun x w' => x = .returned (.bool true) ∧ Below w.heap.size w w') :
  Calls Tryz.prog 17 #[.int .i64 (c : Int), .int .i64 W, .slice A n cap] w fun x w' => ERes w (wrO c o) x w' := by
 have HV := hide hv
 have Ha := hide ha
 have HW := hide hw
 have HN := hide (fun W2 => number_any (c : Int) (by omega) (by omega) W2)
 rw [Int.toNat_natCast] at HN
 have Hlk := hide hlk
 have hz := num_sz c
 have hap : ∀ s, bs (num c) ++ bs s = bs (num c ++ s) := fun s => bs_append _ _
 have Hap := hide hap
 have hc0 : ¬ (c : Int) < 0 := by omega
 have hc4 : ¬ (4 : Int) ≤ (c : Int) := by omega
 have he : bs ([] : List UInt8) = ⟨#[]⟩ := rfl
 unfold WrC at HW
 clear hv ha hw hlk hap hc
 cases o with
 | none =>
  show Calls Tryz.prog 17 #[.int .i64 (c : Int), .int .i64 W, .slice A n cap] w fun x w' => ERes w ([], 9) x w'
  simp only [Option.getD_none, Option.isSome_none, he] at HW
  clear hlen hz Hap
  go_enter Tryz.func17, Tryz.ntmps17
  go_wp2_with fail
  refine (HV.out).mono ?_
  rintro x w1 ⟨rfl, hb1⟩
  go_wp2_with fail
  refine (writers_any w1).mono ?_
  rintro x w2 ⟨rfl, rfl⟩
  have hl1 := Hlk.out w1
  have hb2 := hb1.alloc hb1.size (.map writersE 4)
  have Hb2 := hide hb2
  have K := hide (HW.out _ (Ha.out.below hb2))
  clear hb1 hb2 HW Ha HV
  go_wp2_with fail
  refine (K.out).mono ?_
  rintro x w3 ⟨rfl, hb3⟩
  have Hb3 := hide (Hb2.out.trans (hb3.mono Hb2.out.size))
  clear hb3 Hb2 K hl1 Hlk
  go_wp2
  go_returns
  exact ⟨rfl, Hb3.out⟩
 | some s =>
  show Calls Tryz.prog 17 #[.int .i64 (c : Int), .int .i64 W, .slice A n cap] w fun x w' => ERes w (num c ++ s, 0) x w'
  simp only [Option.getD_some, Option.isSome_some] at HW hlen
  have hs : (bs s).size ≤ 4000000 := hlen
  have hsum := nosumB (a := (bs (num c)).size) (b := (bs s).size) (by omega)
  have hfin := Hap.out s
  have Hfin := hide hfin
  generalize bs s = S at *
  generalize bs (num c) = S0 at *
  clear hlen hz Hap hfin he
  go_enter Tryz.func17, Tryz.ntmps17
  go_wp2_with fail
  refine (HV.out).mono ?_
  rintro x w1 ⟨rfl, hb1⟩
  go_wp2_with fail
  refine (writers_any w1).mono ?_
  rintro x w2 ⟨rfl, rfl⟩
  have hl1 := Hlk.out w1
  have hb2 := hb1.alloc hb1.size (.map writersE 4)
  have Hb2 := hide hb2
  have K := hide (HW.out _ (Ha.out.below hb2))
  clear hb1 hb2 HW Ha HV
  go_wp2_with fail
  refine (K.out).mono ?_
  rintro x w3 ⟨rfl, hb3⟩
  have Hb3 := hide (Hb2.out.trans (hb3.mono Hb2.out.size))
  clear hb3 Hb2 K hl1 Hlk
  go_wp2_with fail
  refine (HN.out w3).mono ?_
  rintro x w4 ⟨rfl, hb4⟩
  have Hb4 := hide (Hb3.out.trans (hb4.mono Hb3.out.size))
  clear hb4 Hb3 HN
  go_wp2
  go_returns
  exact ⟨by rw [← Hfin.out]; rfl, Hb4.out⟩
set_option maxRecDepth 100000 in
set_option maxHeartbeats 2000000 in
theorem encas_core2 {w : World} {A : Option Addr} {l : List ByteArray} (ha : At w A (svs l)) (n cap : Nat) (W : Int) (c : Nat) (hc : c ≤ 3) (hlk : ∀ w2 : World, (Instr.lookup 57 (.map (some w2.heap.size)) (.int .i64 (c : Int)) false).run Tryz.prog (w2.alloc (.map writersE 4)) = .ok (.func (.func 63) #[] #[]) (w2.alloc (.map writersE 4)))
  (o : Option (List UInt8)) (hw : WrC 63 A l n cap W o) (hlen : (o.getD []).length ≤ 4000000) (hv : Calls Tryz.prog 13 #[.int .i64 W, .slice A n cap] w fun x w' => x = .returned (.bool true) ∧ Below w.heap.size w w') :
  Calls Tryz.prog 17 #[.int .i64 (c : Int), .int .i64 W, .slice A n cap] w fun x w' => ERes w (wrO c o) x w' := by
 have HV := hide hv
 have Ha := hide ha
 have HW := hide hw
 have HN := hide (fun W2 => number_any (c : Int) (by omega) (by omega) W2)
 rw [Int.toNat_natCast] at HN
 have Hlk := hide hlk
 have hz := num_sz c
 have hap : ∀ s, bs (num c) ++ bs s = bs (num c ++ s) := fun s => bs_append _ _
 have Hap := hide hap
 have hc0 : ¬ (c : Int) < 0 := by omega
 have hc4 : ¬ (4 : Int) ≤ (c : Int) := by omega
 have he : bs ([] : List UInt8) = ⟨#[]⟩ := rfl
 unfold WrC at HW
 clear hv ha hw hlk hap hc
 cases o with
 | none =>
  show Calls Tryz.prog 17 #[.int .i64 (c : Int), .int .i64 W, .slice A n cap] w fun x w' => ERes w ([], 9) x w'
  simp only [Option.getD_none, Option.isSome_none, he] at HW
  clear hlen hz Hap
  go_enter Tryz.func17, Tryz.ntmps17
  go_wp2_with fail
  refine (HV.out).mono ?_
  rintro x w1 ⟨rfl, hb1⟩
  go_wp2_with fail
  refine (writers_any w1).mono ?_
  rintro x w2 ⟨rfl, rfl⟩
  have hl1 := Hlk.out w1
  have hb2 := hb1.alloc hb1.size (.map writersE 4)
  have Hb2 := hide hb2
  have K := hide (HW.out _ (Ha.out.below hb2))
  clear hb1 hb2 HW Ha HV
  go_wp2_with fail
  refine (K.out).mono ?_
  rintro x w3 ⟨rfl, hb3⟩
  have Hb3 := hide (Hb2.out.trans (hb3.mono Hb2.out.size))
  clear hb3 Hb2 K hl1 Hlk
  go_wp2
  go_returns
  exact ⟨rfl, Hb3.out⟩
 | some s =>
  show Calls Tryz.prog 17 #[.int .i64 (c : Int), .int .i64 W, .slice A n cap] w fun x w' => ERes w (num c ++ s, 0) x w'
  simp only [Option.getD_some, Option.isSome_some] at HW hlen
  have hs : (bs s).size ≤ 4000000 := hlen
  have hsum := nosumB (a := (bs (num c)).size) (b := (bs s).size) (by omega)
  have hfin := Hap.out s
  have Hfin := hide hfin
  generalize bs s = S at *
  generalize bs (num c) = S0 at *
  clear hlen hz Hap hfin he
  go_enter Tryz.func17, Tryz.ntmps17
  go_wp2_with fail
  refine (HV.out).mono ?_
  rintro x w1 ⟨rfl, hb1⟩
  go_wp2_with fail
  refine (writers_any w1).mono ?_
  rintro x w2 ⟨rfl, rfl⟩
  have hl1 := Hlk.out w1
  have hb2 := hb1.alloc hb1.size (.map writersE 4)
  have Hb2 := hide hb2
  have K := hide (HW.out _ (Ha.out.below hb2))
  clear hb1 hb2 HW Ha HV
  go_wp2_with fail
  refine (K.out).mono ?_
  rintro x w3 ⟨rfl, hb3⟩
  have Hb3 := hide (Hb2.out.trans (hb3.mono Hb2.out.size))
  clear hb3 Hb2 K hl1 Hlk
  go_wp2_with fail
  refine (HN.out w3).mono ?_
  rintro x w4 ⟨rfl, hb4⟩
  have Hb4 := hide (Hb3.out.trans (hb4.mono Hb3.out.size))
  clear hb4 Hb3 HN
  go_wp2
  go_returns
  exact ⟨by rw [← Hfin.out]; rfl, Hb4.out⟩
set_option maxRecDepth 100000 in
set_option maxHeartbeats 2000000 in
theorem encas_core3 {w : World} {A : Option Addr} {l : List ByteArray} (ha : At w A (svs l)) (n cap : Nat) (W : Int) (c : Nat) (hc : c ≤ 3) (hlk : ∀ w2 : World, (Instr.lookup 57 (.map (some w2.heap.size)) (.int .i64 (c : Int)) false).run Tryz.prog (w2.alloc (.map writersE 4)) = .ok (.func (.func 64) #[] #[]) (w2.alloc (.map writersE 4)))
  (o : Option (List UInt8)) (hw : WrC 64 A l n cap W o) (hlen : (o.getD []).length ≤ 4000000) (hv : Calls Tryz.prog 13 #[.int .i64 W, .slice A n cap] w fun x w' => x = .returned (.bool true) ∧ Below w.heap.size w w') :
  Calls Tryz.prog 17 #[.int .i64 (c : Int), .int .i64 W, .slice A n cap] w fun x w' => ERes w (wrO c o) x w' := by
 have HV := hide hv
 have Ha := hide ha
 have HW := hide hw
 have HN := hide (fun W2 => number_any (c : Int) (by omega) (by omega) W2)
 rw [Int.toNat_natCast] at HN
 have Hlk := hide hlk
 have hz := num_sz c
 have hap : ∀ s, bs (num c) ++ bs s = bs (num c ++ s) := fun s => bs_append _ _
 have Hap := hide hap
 have hc0 : ¬ (c : Int) < 0 := by omega
 have hc4 : ¬ (4 : Int) ≤ (c : Int) := by omega
 have he : bs ([] : List UInt8) = ⟨#[]⟩ := rfl
 unfold WrC at HW
 clear hv ha hw hlk hap hc
 cases o with
 | none =>
  show Calls Tryz.prog 17 #[.int .i64 (c : Int), .int .i64 W, .slice A n cap] w fun x w' => ERes w ([], 9) x w'
  simp only [Option.getD_none, Option.isSome_none, he] at HW
  clear hlen hz Hap
  go_enter Tryz.func17, Tryz.ntmps17
  go_wp2_with fail
  refine (HV.out).mono ?_
  rintro x w1 ⟨rfl, hb1⟩
  go_wp2_with fail
  refine (writers_any w1).mono ?_
  rintro x w2 ⟨rfl, rfl⟩
  have hl1 := Hlk.out w1
  have hb2 := hb1.alloc hb1.size (.map writersE 4)
  have Hb2 := hide hb2
  have K := hide (HW.out _ (Ha.out.below hb2))
  clear hb1 hb2 HW Ha HV
  go_wp2_with fail
  refine (K.out).mono ?_
  rintro x w3 ⟨rfl, hb3⟩
  have Hb3 := hide (Hb2.out.trans (hb3.mono Hb2.out.size))
  clear hb3 Hb2 K hl1 Hlk
  go_wp2
  go_returns
  exact ⟨rfl, Hb3.out⟩
 | some s =>
  show Calls Tryz.prog 17 #[.int .i64 (c : Int), .int .i64 W, .slice A n cap] w fun x w' => ERes w (num c ++ s, 0) x w'
  simp only [Option.getD_some, Option.isSome_some] at HW hlen
  have hs : (bs s).size ≤ 4000000 := hlen
  have hsum := nosumB (a := (bs (num c)).size) (b := (bs s).size) (by omega)
  have hfin := Hap.out s
  have Hfin := hide hfin
  generalize bs s = S at *
  generalize bs (num c) = S0 at *
  clear hlen hz Hap hfin he
  go_enter Tryz.func17, Tryz.ntmps17
  go_wp2_with fail
  refine (HV.out).mono ?_
  rintro x w1 ⟨rfl, hb1⟩
  go_wp2_with fail
  refine (writers_any w1).mono ?_
  rintro x w2 ⟨rfl, rfl⟩
  have hl1 := Hlk.out w1
  have hb2 := hb1.alloc hb1.size (.map writersE 4)
  have Hb2 := hide hb2
  have K := hide (HW.out _ (Ha.out.below hb2))
  clear hb1 hb2 HW Ha HV
  go_wp2_with fail
  refine (K.out).mono ?_
  rintro x w3 ⟨rfl, hb3⟩
  have Hb3 := hide (Hb2.out.trans (hb3.mono Hb2.out.size))
  clear hb3 Hb2 K hl1 Hlk
  go_wp2_with fail
  refine (HN.out w3).mono ?_
  rintro x w4 ⟨rfl, hb4⟩
  have Hb4 := hide (Hb3.out.trans (hb4.mono Hb3.out.size))
  clear hb4 Hb3 HN
  go_wp2
  go_returns
  exact ⟨by rw [← Hfin.out]; rfl, Hb4.out⟩
theorem wrC_all {A : Option Addr} {l : List ByteArray} {W : Int} (hv : validB W l = true) (hsz : ∀ s ∈ l, s.size ≤ 1099511627776) (n cap : Nat) (hn : n = l.length) :
  WrC 61 A l n cap W (codB 0 W l) ∧ WrC 62 A l n cap W (codB 1 W l) ∧ WrC 63 A l n cap W (codB 2 W l) ∧ WrC 64 A l n cap W (codB 3 W l) := by
 obtain ⟨h1, h2, h3, h4⟩ := validB_iff.1 hv
 exact ⟨fun W2 ha => plain_any ha hsz (fun s hs c hc => (isV_iff.1 (vld_iff.1 (h1 s hs)).1).1 c hc) n cap hn (by omega) W,
  fun W2 ha => bcounter_any ha hsz n cap hn (by omega) W, fun W2 ha => bmixed_any ha hsz n cap hn (by omega) W, fun W2 ha => bwords_any ha hsz n cap hn (by omega) W⟩
set_option maxRecDepth 100000 in
set_option maxHeartbeats 2000000 in
theorem bencas_any {w : World} {A : Option Addr} {l : List ByteArray} (ha : At w A (svs l)) (hsz : ∀ s ∈ l, s.size ≤ 1099511627776) (n cap : Nat) (hn : n = l.length) (hm : n ≤ 9223372036854775807) (c W : Int) :
  Calls Tryz.prog 17 #[.int .i64 c, .int .i64 W, .slice A n cap] w fun x w' => ERes w (encAsB c W l) x w' := by
 have hv := validB_any ha hsz n cap hn hm W
 have he : bs ([] : List UInt8) = ⟨#[]⟩ := rfl
 unfold encAsB
 by_cases h0 : c < 0
 ·rw [if_pos (.inl h0)]
  clear ha hsz hn hv
  go_enter Tryz.func17, Tryz.ntmps17
  go_wp2_with fail
  go_returns
  exact ⟨rfl, Below.refl _ _⟩
 ·by_cases h4 : 3 < c
  ·rw [if_pos (.inr h4)]
   have h5 : (4 : Int) ≤ c := by omega
   clear ha hsz hn hv
   go_enter Tryz.func17, Tryz.ntmps17
   go_wp2_with fail
   go_returns
   exact ⟨rfl, Below.refl _ _⟩
  ·rw [if_neg (by omega)]
   cases hvl : validB W l with
   | false =>
    rw [if_pos rfl]
    rw [hvl] at hv
    have HV := hide hv
    have h5 : ¬ (4 : Int) ≤ c := by omega
    clear ha hsz hn hv hvl
    go_enter Tryz.func17, Tryz.ntmps17
    go_wp2_with fail
    refine (HV.out).mono ?_
    rintro x w1 ⟨rfl, hb1⟩
    go_wp2
    go_returns
    exact ⟨rfl, hb1⟩
   | true =>
    rw [if_neg (by simp)]
    rw [hvl] at hv
    obtain ⟨k0, k1, k2, k3⟩ := wrC_all (A := A) hvl hsz n cap hn
    have hl := fun (k : Nat) (hk : k ≤ 3) (w2 : World) => writers_at w2 k hk (w2.alloc (.map writersE 4)) (Below.refl _ _)
    rcases (show c = ((0 : Nat) : Int) ∨ c = ((1 : Nat) : Int) ∨ c = ((2 : Nat) : Int) ∨ c = ((3 : Nat) : Int) by omega) with rfl | rfl | rfl | rfl
    ·have := encas_core0 ha n cap W 0 (by omega) (fun w2 => hl 0 (by omega) w2) (codB 0 W l) k0 (codB_len hvl) hv
     exact this
    ·have := encas_core1 ha n cap W 1 (by omega) (fun w2 => hl 1 (by omega) w2) (codB 1 W l) k1 (codB_len hvl) hv
     exact this
    ·have := encas_core2 ha n cap W 2 (by omega) (fun w2 => hl 2 (by omega) w2) (codB 2 W l) k2 (codB_len hvl) hv
     exact this
    ·have := encas_core3 ha n cap W 3 (by omega) (fun w2 => hl 3 (by omega) w2) (codB 3 W l) k3 (codB_len hvl) hv
     exact this
end Go.Proofs.YtoeeblldgoccoaaGreat
/-
  The walks over lists of values: Encode.
-/
namespace Go.Proofs.YtoeeblldgoccoaaGreat
open Go.RowKit Go.Proofs Wv Wv.Vi Wv.Rc Wv.Mo Wv.Ru Wv.Tm Wv.Bc
set_option linter.unusedVariables false
theorem bstB_len {W : Int} {l : List ByteArray} (h : validB W l = true) : ∀ i, (bstB W l i).length ≤ 4000009 := by
 intro i
 rcases bstB_cases W l i with h1 | ⟨c, s, _, h2, h3⟩
 ·rw [h1]; exact Nat.zero_le _
 ·rw [h3, List.length_append]
  have h4 := codB_len (c := c) h
  rw [h2] at h4
  have h5 := num_sz c
  rw [bs_size] at h5
  have h6 : s.length ≤ 4000000 := h4
  omega
set_option maxRecDepth 100000 in
set_option maxHeartbeats 4000000 in
theorem bencode_any {w : World} {A : Option Addr} {l : List ByteArray} (ha : At w A (svs l)) (hsz : ∀ s ∈ l, s.size ≤ 1099511627776) (n cap : Nat) (hn : n = l.length) (hm : n ≤ 9223372036854775807) (W : Int) :
  Calls Tryz.prog 19 #[.int .i64 W, .slice A n cap] w fun x w' => ERes w (encB' W l) x w' := by
 have hv := validB_any ha hsz n cap hn hm W
 have he : bs ([] : List UInt8) = ⟨#[]⟩ := rfl
 unfold encB'
 cases hvl : validB W l with
 | false =>
  rw [if_pos rfl]
  rw [hvl] at hv
  have HV := hide hv
  clear ha hsz hn hv hvl
  go_enter Tryz.func19, Tryz.ntmps19
  go_wp2_with fail
  refine (HV.out).mono ?_
  rintro x w1 ⟨rfl, hb1⟩
  go_wp2
  go_returns
  exact ⟨rfl, hb1⟩
 | true =>
  rw [if_neg (by simp)]
  rw [hvl] at hv
  have HV := hide hv
  have Ha := hide ha
  have Henc := hide (fun (i : Nat) (hi : i < 4) W2 (h : At W2 A (svs l)) => (by
   have := bencas_any h hsz n cap hn hm (i : Int) W
   unfold encAsB at this
   rw [if_neg (by omega), hvl, if_neg (by simp), Int.toNat_natCast] at this
   exact this : Calls Tryz.prog 17 #[.int .i64 (i : Int), .int .i64 W, .slice A n cap] W2 fun x w' => ERes W2 (wrO i (codB i W l)) x w'))
  have Hlen := hide (bstB_len hvl)
  have hst : ∀ i, bstB W l (i + 1) = match codB i W l with | none => bstB W l i | some s => if bstB W l i = [] ∨ (num i ++ s).length < (bstB W l i).length then num i ++ s else bstB W l i := fun i => rfl
  have Hst := hide hst
  have H0 : Hid (bs (bstB W l 0) = ⟨#[]⟩) := hide rfl
  have Hlc := hide (fun i => codB_len (c := i) hvl)
  obtain ⟨BT, hBT⟩ : ∃ f, bstB W l = f := ⟨_, rfl⟩
  obtain ⟨CB, hCB⟩ : ∃ f : Nat → Option (List UInt8), (fun i => codB i W l) = f := ⟨_, rfl⟩
  have hCi : ∀ i, codB i W l = CB i := fun i => congrFun hCB i
  simp only [hBT, hCi] at Henc Hlen Hst H0 Hlc ⊢
  clear ha hsz hn hv hvl hst hBT hCB hCi he
  go_enter Tryz.func19, Tryz.ntmps19
  go_wp2_with fail
  refine (HV.out).mono ?_
  rintro x w1 ⟨rfl, hb1⟩
  have Hb1 := hide hb1
  clear hb1 HV
  go_wp2
  go_loopw [6, 14] (fun s6 s14 wr => ∃ i : Nat, i ≤ 4 ∧ s14 = .int .i64 (i : Int) ∧ s6 = .string (bs (BT i)) ∧ Hid (Below w.heap.size w wr)) (fun _ s14 _ => (4 - intOf s14).toNat)
  case atStart => exact ⟨0, by omega, rfl, by rw [H0.out], Hb1⟩
  case round =>
   clear Hb1
   obtain ⟨i, hi, rfl, rfl, hb⟩ := hrel
   by_cases hlt : i < 4
   ·have hk := Henc.out i hlt wr (Ha.out.below hb.out)
    have hs1 := Hst.out i
    have hl1 := Hlen.out i
    have hem := bs_emp (BT i)
    have hls := Hlc.out i
    have h0i : (0 : Int) ≤ (i : Int) := by omega
    have h4i : (i : Int) < 4 := by omega
    cases ho : CB i with
    | none =>
     rw [ho] at hk hs1
     unfold wrO at hk
     simp only at hk hs1
     have K := hide hk
     have HB : Hid (BT (i + 1) = BT i) := hide hs1
     clear hk hs1 hem hls ho Henc Hst Hlen Hlc H0 hl1
     unfold ERes at K
     go_wp2_with fail
     refine (K.out).mono ?_
     rintro x w3 ⟨rfl, hb3⟩
     have Hb3 := hide (hb.out.trans (hb3.mono hb.out.size))
     clear K hb3 hb
     go_wp2
     refine ⟨⟨i + 1, by omega, by go_num, by rw [HB.out], Hb3⟩, ?_⟩
     simp [intOf] <;> omega
    | some s =>
     rw [ho] at hk hs1 hls
     unfold wrO at hk
     simp only [Option.getD_some] at hk hs1 hls
     unfold ERes at hk
     simp only at hk
     have hzs : (bs (num i ++ s)).size = (num i ++ s).length := bs_size _
     have hzb : (bs (BT i)).size = (BT i).length := bs_size _
     have K := hide hk
     have HS := hide hs1
     by_cases he0 : BT i = []
     ·rw [decide_eq_true he0] at hem
      have HB : Hid (bs (BT (i + 1)) = bs (num i ++ s)) := hide (by rw [HS.out, if_pos (.inl he0)])
      clear hk hs1 hls ho Henc Hst Hlen Hlc H0 hl1 hzs hzb HS he0
      generalize bs (BT i) = SB at *
      generalize bs (num i ++ s) = S at *
      go_wp2_with fail
      refine (K.out).mono ?_
      rintro x w3 ⟨rfl, hb3⟩
      have Hb3 := hide (hb.out.trans (hb3.mono hb.out.size))
      clear K hb3 hb
      go_wp2
      refine ⟨⟨i + 1, by omega, by go_num, by rw [HB.out], Hb3⟩, ?_⟩
      simp [intOf] <;> omega
     ·rw [decide_eq_false he0] at hem
      by_cases hll : (num i ++ s).length < (BT i).length
      ·have HB : Hid (bs (BT (i + 1)) = bs (num i ++ s)) := hide (by rw [HS.out, if_pos (.inr hll)])
       have hcmp : ((bs (num i ++ s)).size : Int) < ((bs (BT i)).size : Int) := by rw [hzs, hzb]; omega
       clear hk hs1 hls ho Henc Hst Hlen Hlc H0 hl1 hzs hzb HS he0 hll
       generalize bs (BT i) = SB at *
       generalize bs (num i ++ s) = S at *
       go_wp2_with fail
       refine (K.out).mono ?_
       rintro x w3 ⟨rfl, hb3⟩
       have Hb3 := hide (hb.out.trans (hb3.mono hb.out.size))
       clear K hb3 hb
       go_wp2
       refine ⟨⟨i + 1, by omega, by go_num, by rw [HB.out], Hb3⟩, ?_⟩
       simp [intOf] <;> omega
      ·have HB : Hid (bs (BT (i + 1)) = bs (BT i)) := hide (by rw [HS.out, if_neg (by rintro (h | h); exact he0 h; exact hll h)])
       have hcmp : ¬ ((bs (num i ++ s)).size : Int) < ((bs (BT i)).size : Int) := by rw [hzs, hzb]; omega
       clear hk hs1 hls ho Henc Hst Hlen Hlc H0 hl1 hzs hzb HS he0 hll
       generalize bs (BT i) = SB at *
       generalize bs (num i ++ s) = S at *
       go_wp2_with fail
       refine (K.out).mono ?_
       rintro x w3 ⟨rfl, hb3⟩
       have Hb3 := hide (hb.out.trans (hb3.mono hb.out.size))
       clear K hb3 hb
       go_wp2
       refine ⟨⟨i + 1, by omega, by go_num, by rw [HB.out], Hb3⟩, ?_⟩
       simp [intOf] <;> omega
   ·have hi4 : i = 4 := by omega
    subst hi4
    clear Henc Hst Hlen Hlc H0
    go_wp2
    go_returns
    exact ⟨rfl, hb.out⟩
end Go.Proofs.YtoeeblldgoccoaaGreat
