/-
  The walks over lists of values: EncodeAs and Encode.
-/
import Derived.Test.YtoeeblldgoccoaaGreatL40
import Derived.Test.YtoeeblldgoccoaaGreatL45
set_option linter.unusedVariables false
set_option linter.unusedSimpArgs false
set_option maxRecDepth 100000
set_option maxHeartbeats 8000000
namespace Go.Proofs.YtoeeblldgoccoaaGreat
open Go.RowKit Go.Proofs Wv Wv.Vi Wv.Rc Wv.Mo Wv.Ru Wv.Tm Wv.Bc
theorem readCt_any {w : World} {b m : Nat} {s : ByteArray} (h : RV w b s 0) (hs : s.size ≤ 1000000000) (hm1 : 1 ≤ m) (hm : m ≤ 128) :
  Calls Tryz.prog 90 #[.agg #[.int .i64 (m : Int)], .pointer (some ⟨b, 0, none⟩)] w fun x w' => FinR b w (readCt (m : Int) (toL s)) x w' := by
 cases hr : rnum (toL s) 4096 with
 | none =>
  obtain ⟨e, he, hn⟩ := numR_nok hr;have hz := readCt_zero (w := (m : Int)) _ _ hn;rw [hz];rw [bs_toL] at hn ⊢;exact readCt_0 h hs _ hn
 | some p =>
  obtain ⟨n, r⟩ := p
  by_cases h0 : n = 0
  ·subst h0
   obtain ⟨hn, _, _⟩ := numR_some hr;have hz := readCt_zero (w := (m : Int)) _ _ hn;rw [hz];rw [bs_toL] at hn;exact readCt_0 h hs _ hn
  ·exact readCt_n h hs hm1 hm hr h0
theorem codC_len (l : List ByteArray) (h4 : l.length ≤ 4096) : (codC l).length ≤ 4000000 := by
 by_cases h0 : l = []
 ·subst h0
  exact (by decide : (codC []).length ≤ 4000000)
 ·have hb := congrArg ByteArray.size (codC_bs h0)
  simp only [ByteArray.size_append] at hb;rw [bs_size] at hb;have hxv := exI_valid h4 (stepB l);have hnl := numsI_len hxv;have hxl := exI_len l (stepB l)
  have hal : (atI l (exI l (stepB l))).length ≤ 4096 := by unfold atI; rw [List.length_map]; omega
  have hso := short_ok hal;have h5 := tmenc_len hso.1 hso.2;have z0 := num_sz l.length;have z1 := text_sz (shr (toL (l.getD 0 default)));have z2 := text_sz (shr (toL (stepB l)));have z3 := text_sz (numsI (gapsT (exI l (stepB l))));have k1 := shr_len128 (toL (l.getD 0 default));have k2 := shr_len128 (toL (stepB l));have h6 : (bs (enc (shortL (atI l (exI l (stepB l))))).1).size ≤ 2000000 := h5;omega
theorem codB_len {c : Nat} {W : Int} {l : List ByteArray} (h : validB W l = true) : ((codB c W l).getD []).length ≤ 4000000 := by
 obtain ⟨h1, h2, h3, h4⟩ := validB_iff.1 h;unfold codB
 split
 ·unfold codP
  split
  ·exact Nat.zero_le _
  ·rename_i hb
   show (num l.length ++ toL (Bit.bstr (bitsL l))).length ≤ _
   have h1 := Bit.bstr_size (bitsL l);have h2 := num_sz l.length;rw [bs_size] at h2;rw [List.length_append, toL_length];omega
 ·split
  ·exact codC_len l h4
  ·split
   ·have hs := short_ok (l := mixL (bs (allV W 48)) l) (by rw [mixL_len]; exact h4)
    have := tmenc_len hs.1 hs.2
    show (enc _).1.length ≤ _
    omega
   ·have hs := short_ok (l := l) h4
    have := tmenc_len hs.1 hs.2
    show (enc _).1.length ≤ _
    omega
def wrO (c : Nat) (o : Option (List UInt8)) : List UInt8 × Nat := match o with
 | none => ([], 9)
 | some s => (num c ++ s, 0)
def WrC (fid : FuncId) (A : Option Addr) (l : List ByteArray) (n cap : Nat) (W : Int) (o : Option (List UInt8)) : Prop :=
 ∀ W2, At W2 A (svs l) → Calls Tryz.prog fid #[.agg #[.int .i64 W], .slice A n cap] W2 fun x w' => x = .returned (.tuple #[.string (bs (o.getD [])), .bool o.isSome]) ∧ Below W2.heap.size W2 w'
theorem encas_core0 {w : World} {A : Option Addr} {l : List ByteArray} (ha : At w A (svs l)) (n cap : Nat) (W : Int) (c : Nat) (hc : c ≤ 3) (hlk : ∀ w2 : World, (Instr.lookup 57 (.map (some w2.heap.size)) (.int .i64 (c : Int)) false).run Tryz.prog (w2.alloc (.map writersE 4)) = .ok (.func (.func 61) #[] #[]) (w2.alloc (.map writersE 4)))
  (o : Option (List UInt8)) (hw : WrC 61 A l n cap W o) (hlen : (o.getD []).length ≤ 4000000) (hv : Calls Tryz.prog 13 #[.int .i64 W, .slice A n cap] w fun x w' => x = .returned (.bool true) ∧ Below w.heap.size w w') :
  Calls Tryz.prog 17 #[.int .i64 (c : Int), .int .i64 W, .slice A n cap] w fun x w' => ERes w (wrO c o) x w' := by
 have HV := hide hv;have Ha := hide ha;have HW := hide hw;have HN := hide (fun W2 => number_any (c : Int) (by omega) (by omega) W2);rw [Int.toNat_natCast] at HN;have Hlk := hide hlk;have hz := num_sz c
 have hap : ∀ s, bs (num c) ++ bs s = bs (num c ++ s) := fun s => bs_append _ _
 have Hap := hide hap
 have hc0 : ¬ (c : Int) < 0 := by omega
 have hc4 : ¬ (4 : Int) ≤ (c : Int) := by omega
 have he : bs ([] : List UInt8) = ⟨#[]⟩ := rfl;unfold WrC at HW;clear hv ha hw hlk hap hc
 cases o with
 | none =>
  show Calls Tryz.prog 17 #[.int .i64 (c : Int), .int .i64 W, .slice A n cap] w fun x w' => ERes w ([], 9) x w'
  simp only [Option.getD_none, Option.isSome_none, he] at HW;clear hlen hz Hap
  go_enter Tryz.func17, Tryz.ntmps17
  go_wp2_with fail
  refine (HV.out).mono ?_;rintro x w1 ⟨rfl, hb1⟩
  go_wp2_with fail
  refine (writers_any w1).mono ?_;rintro x w2 ⟨rfl, rfl⟩;have hl1 := Hlk.out w1;have hb2 := hb1.alloc hb1.size (.map writersE 4);have Hb2 := hide hb2;have K := hide (HW.out _ (Ha.out.below hb2));clear hb1 hb2 HW Ha HV
  go_wp2_with fail
  refine (K.out).mono ?_;rintro x w3 ⟨rfl, hb3⟩;have Hb3 := hide (Hb2.out.trans (hb3.mono Hb2.out.size));clear hb3 Hb2 K hl1 Hlk
  go_wp2
  go_returns
  exact ⟨rfl, Hb3.out⟩
 | some s =>
  show Calls Tryz.prog 17 #[.int .i64 (c : Int), .int .i64 W, .slice A n cap] w fun x w' => ERes w (num c ++ s, 0) x w'
  simp only [Option.getD_some, Option.isSome_some] at HW hlen;have hs : (bs s).size ≤ 4000000 := hlen;have hsum := nosumB (a := (bs (num c)).size) (b := (bs s).size) (by omega);have hfin := Hap.out s;have Hfin := hide hfin
  generalize bs s = S at *
  generalize bs (num c) = S0 at *
  clear hlen hz Hap hfin he
  go_enter Tryz.func17, Tryz.ntmps17
  go_wp2_with fail
  refine (HV.out).mono ?_;rintro x w1 ⟨rfl, hb1⟩
  go_wp2_with fail
  refine (writers_any w1).mono ?_;rintro x w2 ⟨rfl, rfl⟩;have hl1 := Hlk.out w1;have hb2 := hb1.alloc hb1.size (.map writersE 4);have Hb2 := hide hb2;have K := hide (HW.out _ (Ha.out.below hb2));clear hb1 hb2 HW Ha HV
  go_wp2_with fail
  refine (K.out).mono ?_;rintro x w3 ⟨rfl, hb3⟩;have Hb3 := hide (Hb2.out.trans (hb3.mono Hb2.out.size));clear hb3 Hb2 K hl1 Hlk
  go_wp2_with fail
  refine (HN.out w3).mono ?_;rintro x w4 ⟨rfl, hb4⟩;have Hb4 := hide (Hb3.out.trans (hb4.mono Hb3.out.size));clear hb4 Hb3 HN
  go_wp2
  go_returns
  exact ⟨by rw [← Hfin.out]; rfl, Hb4.out⟩
theorem encas_core1 {w : World} {A : Option Addr} {l : List ByteArray} (ha : At w A (svs l)) (n cap : Nat) (W : Int) (c : Nat) (hc : c ≤ 3) (hlk : ∀ w2 : World, (Instr.lookup 57 (.map (some w2.heap.size)) (.int .i64 (c : Int)) false).run Tryz.prog (w2.alloc (.map writersE 4)) = .ok (.func (.func 62) #[] #[]) (w2.alloc (.map writersE 4)))
  (o : Option (List UInt8)) (hw : WrC 62 A l n cap W o) (hlen : (o.getD []).length ≤ 4000000) (hv : Calls Tryz.prog 13 #[.int .i64 W, .slice A n cap] w fun x w' => x = .returned (.bool true) ∧ Below w.heap.size w w') :
  Calls Tryz.prog 17 #[.int .i64 (c : Int), .int .i64 W, .slice A n cap] w fun x w' => ERes w (wrO c o) x w' := by
 have HV := hide hv;have Ha := hide ha;have HW := hide hw;have HN := hide (fun W2 => number_any (c : Int) (by omega) (by omega) W2);rw [Int.toNat_natCast] at HN;have Hlk := hide hlk;have hz := num_sz c
 have hap : ∀ s, bs (num c) ++ bs s = bs (num c ++ s) := fun s => bs_append _ _
 have Hap := hide hap
 have hc0 : ¬ (c : Int) < 0 := by omega
 have hc4 : ¬ (4 : Int) ≤ (c : Int) := by omega
 have he : bs ([] : List UInt8) = ⟨#[]⟩ := rfl;unfold WrC at HW;clear hv ha hw hlk hap hc
 cases o with
 | none =>
  show Calls Tryz.prog 17 #[.int .i64 (c : Int), .int .i64 W, .slice A n cap] w fun x w' => ERes w ([], 9) x w'
  simp only [Option.getD_none, Option.isSome_none, he] at HW;clear hlen hz Hap
  go_enter Tryz.func17, Tryz.ntmps17
  go_wp2_with fail
  refine (HV.out).mono ?_;rintro x w1 ⟨rfl, hb1⟩
  go_wp2_with fail
  refine (writers_any w1).mono ?_;rintro x w2 ⟨rfl, rfl⟩;have hl1 := Hlk.out w1;have hb2 := hb1.alloc hb1.size (.map writersE 4);have Hb2 := hide hb2;have K := hide (HW.out _ (Ha.out.below hb2));clear hb1 hb2 HW Ha HV
  go_wp2_with fail
  refine (K.out).mono ?_;rintro x w3 ⟨rfl, hb3⟩;have Hb3 := hide (Hb2.out.trans (hb3.mono Hb2.out.size));clear hb3 Hb2 K hl1 Hlk
  go_wp2
  go_returns
  exact ⟨rfl, Hb3.out⟩
 | some s =>
  show Calls Tryz.prog 17 #[.int .i64 (c : Int), .int .i64 W, .slice A n cap] w fun x w' => ERes w (num c ++ s, 0) x w'
  simp only [Option.getD_some, Option.isSome_some] at HW hlen;have hs : (bs s).size ≤ 4000000 := hlen;have hsum := nosumB (a := (bs (num c)).size) (b := (bs s).size) (by omega);have hfin := Hap.out s;have Hfin := hide hfin
  generalize bs s = S at *
  generalize bs (num c) = S0 at *
  clear hlen hz Hap hfin he
  go_enter Tryz.func17, Tryz.ntmps17
  go_wp2_with fail
  refine (HV.out).mono ?_;rintro x w1 ⟨rfl, hb1⟩
  go_wp2_with fail
  refine (writers_any w1).mono ?_;rintro x w2 ⟨rfl, rfl⟩;have hl1 := Hlk.out w1;have hb2 := hb1.alloc hb1.size (.map writersE 4);have Hb2 := hide hb2;have K := hide (HW.out _ (Ha.out.below hb2));clear hb1 hb2 HW Ha HV
  go_wp2_with fail
  refine (K.out).mono ?_;rintro x w3 ⟨rfl, hb3⟩;have Hb3 := hide (Hb2.out.trans (hb3.mono Hb2.out.size));clear hb3 Hb2 K hl1 Hlk
  go_wp2_with fail
  refine (HN.out w3).mono ?_;rintro x w4 ⟨rfl, hb4⟩;have Hb4 := hide (Hb3.out.trans (hb4.mono Hb3.out.size));clear hb4 Hb3 HN
  go_wp2
  go_returns
  exact ⟨by rw [← Hfin.out]; rfl, Hb4.out⟩
theorem encas_core2 {w : World} {A : Option Addr} {l : List ByteArray} (ha : At w A (svs l)) (n cap : Nat) (W : Int) (c : Nat) (hc : c ≤ 3) (hlk : ∀ w2 : World, (Instr.lookup 57 (.map (some w2.heap.size)) (.int .i64 (c : Int)) false).run Tryz.prog (w2.alloc (.map writersE 4)) = .ok (.func (.func 63) #[] #[]) (w2.alloc (.map writersE 4)))
  (o : Option (List UInt8)) (hw : WrC 63 A l n cap W o) (hlen : (o.getD []).length ≤ 4000000) (hv : Calls Tryz.prog 13 #[.int .i64 W, .slice A n cap] w fun x w' => x = .returned (.bool true) ∧ Below w.heap.size w w') :
  Calls Tryz.prog 17 #[.int .i64 (c : Int), .int .i64 W, .slice A n cap] w fun x w' => ERes w (wrO c o) x w' := by
 have HV := hide hv;have Ha := hide ha;have HW := hide hw;have HN := hide (fun W2 => number_any (c : Int) (by omega) (by omega) W2);rw [Int.toNat_natCast] at HN;have Hlk := hide hlk;have hz := num_sz c
 have hap : ∀ s, bs (num c) ++ bs s = bs (num c ++ s) := fun s => bs_append _ _
 have Hap := hide hap
 have hc0 : ¬ (c : Int) < 0 := by omega
 have hc4 : ¬ (4 : Int) ≤ (c : Int) := by omega
 have he : bs ([] : List UInt8) = ⟨#[]⟩ := rfl;unfold WrC at HW;clear hv ha hw hlk hap hc
 cases o with
 | none =>
  show Calls Tryz.prog 17 #[.int .i64 (c : Int), .int .i64 W, .slice A n cap] w fun x w' => ERes w ([], 9) x w'
  simp only [Option.getD_none, Option.isSome_none, he] at HW;clear hlen hz Hap
  go_enter Tryz.func17, Tryz.ntmps17
  go_wp2_with fail
  refine (HV.out).mono ?_;rintro x w1 ⟨rfl, hb1⟩
  go_wp2_with fail
  refine (writers_any w1).mono ?_;rintro x w2 ⟨rfl, rfl⟩;have hl1 := Hlk.out w1;have hb2 := hb1.alloc hb1.size (.map writersE 4);have Hb2 := hide hb2;have K := hide (HW.out _ (Ha.out.below hb2));clear hb1 hb2 HW Ha HV
  go_wp2_with fail
  refine (K.out).mono ?_;rintro x w3 ⟨rfl, hb3⟩;have Hb3 := hide (Hb2.out.trans (hb3.mono Hb2.out.size));clear hb3 Hb2 K hl1 Hlk
  go_wp2
  go_returns
  exact ⟨rfl, Hb3.out⟩
 | some s =>
  show Calls Tryz.prog 17 #[.int .i64 (c : Int), .int .i64 W, .slice A n cap] w fun x w' => ERes w (num c ++ s, 0) x w'
  simp only [Option.getD_some, Option.isSome_some] at HW hlen;have hs : (bs s).size ≤ 4000000 := hlen;have hsum := nosumB (a := (bs (num c)).size) (b := (bs s).size) (by omega);have hfin := Hap.out s;have Hfin := hide hfin
  generalize bs s = S at *
  generalize bs (num c) = S0 at *
  clear hlen hz Hap hfin he
  go_enter Tryz.func17, Tryz.ntmps17
  go_wp2_with fail
  refine (HV.out).mono ?_;rintro x w1 ⟨rfl, hb1⟩
  go_wp2_with fail
  refine (writers_any w1).mono ?_;rintro x w2 ⟨rfl, rfl⟩;have hl1 := Hlk.out w1;have hb2 := hb1.alloc hb1.size (.map writersE 4);have Hb2 := hide hb2;have K := hide (HW.out _ (Ha.out.below hb2));clear hb1 hb2 HW Ha HV
  go_wp2_with fail
  refine (K.out).mono ?_;rintro x w3 ⟨rfl, hb3⟩;have Hb3 := hide (Hb2.out.trans (hb3.mono Hb2.out.size));clear hb3 Hb2 K hl1 Hlk
  go_wp2_with fail
  refine (HN.out w3).mono ?_;rintro x w4 ⟨rfl, hb4⟩;have Hb4 := hide (Hb3.out.trans (hb4.mono Hb3.out.size));clear hb4 Hb3 HN
  go_wp2
  go_returns
  exact ⟨by rw [← Hfin.out]; rfl, Hb4.out⟩
theorem encas_core3 {w : World} {A : Option Addr} {l : List ByteArray} (ha : At w A (svs l)) (n cap : Nat) (W : Int) (c : Nat) (hc : c ≤ 3) (hlk : ∀ w2 : World, (Instr.lookup 57 (.map (some w2.heap.size)) (.int .i64 (c : Int)) false).run Tryz.prog (w2.alloc (.map writersE 4)) = .ok (.func (.func 64) #[] #[]) (w2.alloc (.map writersE 4)))
  (o : Option (List UInt8)) (hw : WrC 64 A l n cap W o) (hlen : (o.getD []).length ≤ 4000000) (hv : Calls Tryz.prog 13 #[.int .i64 W, .slice A n cap] w fun x w' => x = .returned (.bool true) ∧ Below w.heap.size w w') :
  Calls Tryz.prog 17 #[.int .i64 (c : Int), .int .i64 W, .slice A n cap] w fun x w' => ERes w (wrO c o) x w' := by
 have HV := hide hv;have Ha := hide ha;have HW := hide hw;have HN := hide (fun W2 => number_any (c : Int) (by omega) (by omega) W2);rw [Int.toNat_natCast] at HN;have Hlk := hide hlk;have hz := num_sz c
 have hap : ∀ s, bs (num c) ++ bs s = bs (num c ++ s) := fun s => bs_append _ _
 have Hap := hide hap
 have hc0 : ¬ (c : Int) < 0 := by omega
 have hc4 : ¬ (4 : Int) ≤ (c : Int) := by omega
 have he : bs ([] : List UInt8) = ⟨#[]⟩ := rfl;unfold WrC at HW;clear hv ha hw hlk hap hc
 cases o with
 | none =>
  show Calls Tryz.prog 17 #[.int .i64 (c : Int), .int .i64 W, .slice A n cap] w fun x w' => ERes w ([], 9) x w'
  simp only [Option.getD_none, Option.isSome_none, he] at HW;clear hlen hz Hap
  go_enter Tryz.func17, Tryz.ntmps17
  go_wp2_with fail
  refine (HV.out).mono ?_;rintro x w1 ⟨rfl, hb1⟩
  go_wp2_with fail
  refine (writers_any w1).mono ?_;rintro x w2 ⟨rfl, rfl⟩;have hl1 := Hlk.out w1;have hb2 := hb1.alloc hb1.size (.map writersE 4);have Hb2 := hide hb2;have K := hide (HW.out _ (Ha.out.below hb2));clear hb1 hb2 HW Ha HV
  go_wp2_with fail
  refine (K.out).mono ?_;rintro x w3 ⟨rfl, hb3⟩;have Hb3 := hide (Hb2.out.trans (hb3.mono Hb2.out.size));clear hb3 Hb2 K hl1 Hlk
  go_wp2
  go_returns
  exact ⟨rfl, Hb3.out⟩
 | some s =>
  show Calls Tryz.prog 17 #[.int .i64 (c : Int), .int .i64 W, .slice A n cap] w fun x w' => ERes w (num c ++ s, 0) x w'
  simp only [Option.getD_some, Option.isSome_some] at HW hlen;have hs : (bs s).size ≤ 4000000 := hlen;have hsum := nosumB (a := (bs (num c)).size) (b := (bs s).size) (by omega);have hfin := Hap.out s;have Hfin := hide hfin
  generalize bs s = S at *
  generalize bs (num c) = S0 at *
  clear hlen hz Hap hfin he
  go_enter Tryz.func17, Tryz.ntmps17
  go_wp2_with fail
  refine (HV.out).mono ?_;rintro x w1 ⟨rfl, hb1⟩
  go_wp2_with fail
  refine (writers_any w1).mono ?_;rintro x w2 ⟨rfl, rfl⟩;have hl1 := Hlk.out w1;have hb2 := hb1.alloc hb1.size (.map writersE 4);have Hb2 := hide hb2;have K := hide (HW.out _ (Ha.out.below hb2));clear hb1 hb2 HW Ha HV
  go_wp2_with fail
  refine (K.out).mono ?_;rintro x w3 ⟨rfl, hb3⟩;have Hb3 := hide (Hb2.out.trans (hb3.mono Hb2.out.size));clear hb3 Hb2 K hl1 Hlk
  go_wp2_with fail
  refine (HN.out w3).mono ?_;rintro x w4 ⟨rfl, hb4⟩;have Hb4 := hide (Hb3.out.trans (hb4.mono Hb3.out.size));clear hb4 Hb3 HN
  go_wp2
  go_returns
  exact ⟨by rw [← Hfin.out]; rfl, Hb4.out⟩
theorem wrC_all {A : Option Addr} {l : List ByteArray} {W : Int} (hv : validB W l = true) (hsz : ∀ s ∈ l, s.size ≤ 1099511627776) (n cap : Nat) (hn : n = l.length) :
  WrC 61 A l n cap W (codB 0 W l) ∧ WrC 62 A l n cap W (codB 1 W l) ∧ WrC 63 A l n cap W (codB 2 W l) ∧ WrC 64 A l n cap W (codB 3 W l) := by
 obtain ⟨h1, h2, h3, h4⟩ := validB_iff.1 hv
 exact ⟨fun W2 ha => plain_any ha hsz (fun s hs c hc => (isV_iff.1 (vld_iff.1 (h1 s hs)).1).1 c hc) n cap hn (by omega) W,
  fun W2 ha => bcounter_any ha hsz n cap hn (by omega) W, fun W2 ha => bmixed_any ha hsz n cap hn (by omega) W, fun W2 ha => bwords_any ha hsz n cap hn (by omega) W⟩
theorem bencas_any {w : World} {A : Option Addr} {l : List ByteArray} (ha : At w A (svs l)) (hsz : ∀ s ∈ l, s.size ≤ 1099511627776) (n cap : Nat) (hn : n = l.length) (hm : n ≤ 9223372036854775807) (c W : Int) :
  Calls Tryz.prog 17 #[.int .i64 c, .int .i64 W, .slice A n cap] w fun x w' => ERes w (encAsB c W l) x w' := by
 have hv := validB_any ha hsz n cap hn hm W;have he : bs ([] : List UInt8) = ⟨#[]⟩ := rfl;unfold encAsB
 by_cases h0 : c < 0
 ·rw [if_pos (.inl h0)]
  clear ha hsz hn hv
  go_enter Tryz.func17, Tryz.ntmps17
  go_wp2_with fail
  go_returns
  exact ⟨rfl, Below.refl _ _⟩
 ·by_cases h4 : 3 < c
  ·rw [if_pos (.inr h4)]
   have h5 : (4 : Int) ≤ c := by omega
   clear ha hsz hn hv
   go_enter Tryz.func17, Tryz.ntmps17
   go_wp2_with fail
   go_returns
   exact ⟨rfl, Below.refl _ _⟩
  ·rw [if_neg (by omega)]
   cases hvl : validB W l with
   | false =>
    rw [if_pos rfl];rw [hvl] at hv;have HV := hide hv
    have h5 : ¬ (4 : Int) ≤ c := by omega
    clear ha hsz hn hv hvl
    go_enter Tryz.func17, Tryz.ntmps17
    go_wp2_with fail
    refine (HV.out).mono ?_;rintro x w1 ⟨rfl, hb1⟩
    go_wp2
    go_returns
    exact ⟨rfl, hb1⟩
   | true =>
    rw [if_neg (by simp)];rw [hvl] at hv;obtain ⟨k0, k1, k2, k3⟩ := wrC_all (A := A) hvl hsz n cap hn
    have hl := fun (k : Nat) (hk : k ≤ 3) (w2 : World) => writers_at w2 k hk (w2.alloc (.map writersE 4)) (Below.refl _ _)
    rcases (show c = ((0 : Nat) : Int) ∨ c = ((1 : Nat) : Int) ∨ c = ((2 : Nat) : Int) ∨ c = ((3 : Nat) : Int) by omega) with rfl | rfl | rfl | rfl
    ·have := encas_core0 ha n cap W 0 (by omega) (fun w2 => hl 0 (by omega) w2) (codB 0 W l) k0 (codB_len hvl) hv
     exact this
    ·have := encas_core1 ha n cap W 1 (by omega) (fun w2 => hl 1 (by omega) w2) (codB 1 W l) k1 (codB_len hvl) hv
     exact this
    ·have := encas_core2 ha n cap W 2 (by omega) (fun w2 => hl 2 (by omega) w2) (codB 2 W l) k2 (codB_len hvl) hv
     exact this
    ·have := encas_core3 ha n cap W 3 (by omega) (fun w2 => hl 3 (by omega) w2) (codB 3 W l) k3 (codB_len hvl) hv
     exact this
end Go.Proofs.YtoeeblldgoccoaaGreat
