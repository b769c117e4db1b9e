/-
  The walks over values: a value out of its planes.
-/
import Derived.Test.YtjfcemlbbinanaaGreatDoorJ14
set_option linter.unusedVariables false
set_option linter.unusedSimpArgs false
namespace Wv.Sn
open Go Go.RowKit Wv Wv.Bc
theorem chB_cd (b : Bool) : cd (chB b) = b.toNat := by cases b <;> decide
theorem chB_isC (b : Bool) : isC (chB b) = true := by cases b <;> decide
theorem kn_chB {A : List Bool} (h : A.length ≤ 128) : knV (A.map chB) = !A.isEmpty := by
 unfold knV isV
 have h1 : (A.map chB).all isC = true := by rw [List.all_map, List.all_eq_true]; exact fun b _ => chB_isC b
 have h2 : (A.map chB).all (fun c => decide (cd c < 2)) = true := by
  rw [List.all_map, List.all_eq_true]
  intro b _
  show decide (cd (chB b) < 2) = true
  rw [chB_cd]
  cases b <;> decide
 rw [h1, h2, List.length_map, decide_eq_true h]
 cases A <;> rfl
theorem xor_bitsT (x y : Bool) : x.toNat + 2 * y.toNat < 4 := by cases x <;> cases y <;> decide
def fromP (A B : List Bool) : List UInt8 × Nat := if A = [] ∨ B = [] then ([], 1) else if A.length ≠ B.length then ([], 8) else (valB A B, 0)
def mA (a b : List Bool) (i : Nat) : List UInt8 := valB (a.take i) (b.take i) ++ List.replicate (a.length - i) 0
theorem mA_len (a b : List Bool) (hl : a.length = b.length) (i : Nat) (hi : i ≤ a.length) : (mA a b i).length = a.length := by
 unfold mA valB
 rw [List.length_append, List.length_zipWith, List.length_take, List.length_take, List.length_replicate]
 omega
theorem mA_set (a b : List Bool) (hl : a.length = b.length) (i : Nat) (ha : i < a.length) (hb : i < b.length) : (mA a b i).set i (ch (a[i].toNat + 2 * b[i].toNat)) = mA a b (i + 1) := by
 have hz : (valB (a.take i) (b.take i)).length = i := by
  unfold valB
  rw [List.length_zipWith, List.length_take, List.length_take]; omega
 unfold mA
 rw [List.set_append_right _ _ (by omega), hz, Nat.sub_self]
 unfold valB
 rw [List.take_succ_eq_append_getElem ha, List.take_succ_eq_append_getElem hb,
  List.zipWith_append (by rw [List.length_take, List.length_take]; omega), show a.length - i = (a.length - (i + 1)) + 1 by omega, List.replicate_succ, List.set_cons_zero]
 simp
end Wv.Sn
namespace Go.Proofs.YtjfcemlbbinanaaGreatDoor
open Go.RowKit Go.Proofs Wv Wv.Vi Wv.Bc Wv.Sn
set_option linter.unusedVariables false
set_option maxRecDepth 10000 in
set_option maxHeartbeats 4000000 in
theorem fromp_any (A B : List Bool) (hA : A.length ≤ 128) (hB : B.length ≤ 128) (w : World) :
    Calls Tryz.prog 46 #[.string (bs (A.map chB)), .string (bs (B.map chB))] w fun x w' => x = .returned (.tuple #[.string (bs (fromP A B).1), .int .i64 ((fromP A B).2 : Int)]) ∧ Below w.heap.size w w' := by
  have Ha := hide (kn_any (A.map chB) (by rw [List.length_map]; omega) w)
  have Hb := hide (fun W => kn_any (B.map chB) (by rw [List.length_map]; omega) W)
  rw [kn_chB hA] at Ha
  rw [kn_chB hB] at Hb
  have hsa : (bs (A.map chB)).size = A.length := by rw [bs_size, List.length_map]
  have hsb : (bs (B.map chB)).size = B.length := by rw [bs_size, List.length_map]
  have he : bs ([] : List UInt8) = ⟨#[]⟩ := rfl
  unfold fromP
  by_cases h1 : A = []
  · rw [if_pos (.inl h1)]
    rw [show (!A.isEmpty) = false by rw [h1]; rfl] at Ha
    simp only [he]
    clear hsa hsb he h1
    generalize bs (A.map chB) = SA at *
    generalize bs (B.map chB) = SB at *
    go_enter Tryz.func46, Tryz.ntmps46
    go_wp2_with fail
    refine (Ha.out).mono ?_
    rintro x w1 ⟨rfl, hb1⟩
    go_wp2
    go_returns
    exact ⟨rfl, hb1⟩
  · have hea : A.isEmpty = false := by cases A with
      | nil => exact absurd rfl h1
      | cons _ _ => rfl
    rw [hea] at Ha
    by_cases h2 : B = []
    · rw [if_pos (.inr h2)]
      rw [show (!B.isEmpty) = false by rw [h2]; rfl] at Hb
      simp only [he]
      clear hsa hsb he h1 h2 hea
      generalize bs (A.map chB) = SA at *
      generalize bs (B.map chB) = SB at *
      go_enter Tryz.func46, Tryz.ntmps46
      go_wp2_with fail
      refine (Ha.out).mono ?_
      rintro x w1 ⟨rfl, hb1⟩
      go_wp2_with fail
      refine (Hb.out _).mono ?_
      rintro x w2 ⟨rfl, hb2⟩
      have Hb2 := hide (hb1.trans (hb2.mono hb1.size))
      clear hb2 hb1
      go_wp2
      go_returns
      exact ⟨rfl, Hb2.out⟩
    · have heb : B.isEmpty = false := by cases B with
        | nil => exact absurd rfl h2
        | cons _ _ => rfl
      rw [heb] at Hb
      rw [if_neg (fun h => h.elim h1 h2)]
      by_cases hl : A.length = B.length
      · rw [if_neg (by simp [hl])]
        simp only
        have hne : (((bs (A.map chB)).size : Int) != ((bs (B.map chB)).size : Int)) = false := by rw [hsa, hsb, hl]; exact bne_self_eq_false _
        have Hga : Hid (∀ (i : Nat) (h : i < A.length) (h2 : i < (bs (A.map chB)).size), (bs (A.map chB))[i]'h2 = chB (A[i]'h)) := hide (fun i h h2 => by rw [bs_get _ i (by rw [List.length_map]; exact h) h2, List.getElem_map])
        have Hgb : Hid (∀ (i : Nat) (h : i < B.length) (h2 : i < (bs (B.map chB)).size), (bs (B.map chB))[i]'h2 = chB (B[i]'h)) := hide (fun i h h2 => by rw [bs_get _ i (by rw [List.length_map]; exact h) h2, List.getElem_map])
        obtain ⟨n, hn⟩ : ∃ n, A.length = n := ⟨_, rfl⟩
        have hnb : B.length = n := by omega
        have hmk := fun W => mk_row (P := Tryz.prog) 74 5 (.int .u8 0) 1 Tryz.underlying74 (by kernel_rfl) rfl ((bs (A.map chB)).size : Int) n (by rw [hsa, hn]) (by omega) (by omega) W
        have hst : (Array.replicate n (.int .u8 0 : Value)) = ((mA A B 0).map bv).toArray := by
          unfold mA valB
          rw [List.take_zero, List.zipWith_nil_left, List.nil_append, Nat.sub_zero, List.map_replicate, hn]
          rfl
        have Hst := hide hst
        have Hlen := hide (fun i (hi : i ≤ n) => (show (mA A B i).length = n by rw [mA_len A B hl i (by omega), hn]))
        have Hset := hide (fun i (h1 : i < A.length) (h2 : i < B.length) => mA_set A B hl i h1 h2)
        have Hend : Hid (mA A B n = valB A B) := hide (by
          unfold mA
          rw [List.take_of_length_le (by omega), List.take_of_length_le (by omega), hn, Nat.sub_self, List.replicate_zero, List.append_nil])
        have Hn := hide hn
        have Hnb := hide hnb
        rw [hn] at hsa
        rw [hnb] at hsb
        obtain ⟨SA, hSA⟩ : ∃ s, bs (A.map chB) = s := ⟨_, rfl⟩
        obtain ⟨SB, hSB⟩ : ∃ s, bs (B.map chB) = s := ⟨_, rfl⟩
        rw [hSA] at hsa hne hmk Hga Ha ⊢
        rw [hSB] at hsb hne Hgb Hb ⊢
        have a3 : n ≤ 128 := by omega
        have Hsa := hide hsa
        have Hsb := hide hsb
        clear hst hn hnb hSA hSB hsa hsb he hl h1 h2 hea heb hA hB
        go_enter Tryz.func46, Tryz.ntmps46
        go_wp2_with fail
        refine (Ha.out).mono ?_
        rintro x w1 ⟨rfl, hb1⟩
        go_wp2_with fail
        refine (Hb.out _).mono ?_
        rintro x w2 ⟨rfl, hb2⟩
        have hbb := hb1.trans (hb2.mono hb1.size)
        have hmk2 := hmk w2
        have hk0 := Bk.new w2 5 (Array.replicate n (.int .u8 0))
        rw [Hst.out] at hk0
        have Hk0 := hide hk0
        have hb0 := hide (hbb.alloc hbb.size (.cells (Array.replicate n (.int .u8 0)) 5))
        have hG := hbb.size
        obtain ⟨G, hGe⟩ : ∃ G, w2.heap.size = G := ⟨_, rfl⟩
        rw [hGe] at hmk2 hG Hk0
        rw [← Hst.out] at Hk0
        generalize w2.alloc (.cells (Array.replicate n (.int .u8 0)) 5) = W0 at *
        clear hmk Ha Hb hb1 hb2 hbb hk0 hGe
        rw [Hst.out] at Hk0
        go_wp2
        go_loopw [26] (fun s26 wr => ∃ i : Nat, i ≤ n ∧ s26 = .int .i64 (i : Int) ∧ Hid (Bk wr G 5 ((mA A B i).map bv).toArray) ∧ Hid (Below w.heap.size w wr)) (fun s26 _ => (n - intOf s26).toNat)
        case atStart => exact ⟨0, Nat.zero_le _, rfl, Hk0, hb0⟩
        case round =>
          clear Hk0 hb0 hmk2 Hst
          obtain ⟨i, hi, rfl, hbk, hb⟩ := hrel
          by_cases hlt : i < n
          · have hia : i < A.length := by rw [Hn.out]; exact hlt
            have hib : i < B.length := by rw [Hnb.out]; exact hlt
            have hga := Hga.out i hia
            have hgb := Hgb.out i hib
            have hs := Hset.out i hia hib
            have hln := Hlen.out i hi
            have hput := hbk.out.put i (bv (ch (A[i].toNat + 2 * B[i].toNat)))
            rw [List.setIfInBounds_toArray, ← List.map_set, hs] at hput
            have hcell := hbk.out.cell i
            rw [List.getElem?_toArray, List.getElem?_map, List.getElem?_eq_getElem (by omega)] at hcell
            have hfroz := hbk.out.frozen i
            obtain ⟨old, hold⟩ : ∃ o, (Option.map bv (some (mA A B i)[i])) = some o := ⟨_, rfl⟩
            rw [hold] at hcell
            have Hput := hide hput
            have Hbs := hide (hb.out.setCell (p := ⟨G, i, none⟩) hG (bv (ch (A[i].toNat + 2 * B[i].toNat))))
            unfold bv at Hput Hbs
            have hga' : ∀ h : i < SA.size, ((SA[i]'h).toNat : Int) = ((chB A[i]).toNat : Int) := fun h => by rw [hga h]
            have hgb' : ∀ h : i < SB.size, ((SB[i]'h).toNat : Int) = ((chB B[i]).toNat : Int) := fun h => by rw [hgb h]
            have hiA : i < SA.size := by rw [Hsa.out]; omega
            have hiB : i < SB.size := by rw [Hsb.out]; omega
            have hgA := hga' hiA
            have hgB := hgb' hiB
            have HC := hide (fun W => char_any (A[i].toNat + 2 * B[i].toNat) (xor_bitsT A[i] B[i]) W)
            clear hput hs hln hold hga hgb hbk hb hga' hgb'
            have hi0 : (0 : Int) ≤ (i : Int) := by omega
            have hlti : (i : Int) < (n : Int) := by omega
            have hsA : (i : Int) < (SA.size : Int) := by omega
            have hsB : (i : Int) < (SB.size : Int) := by omega
            generalize A[i] = X at *
            generalize B[i] = Y at *
            clear hia hib Hset Hlen Hend Hga Hgb
            cases X <;> cases Y
            all_goals
              (try rw [show ((chB false).toNat : Int) = 48 from rfl] at hgA)
              (try rw [show ((chB true).toNat : Int) = 49 from rfl] at hgA)
              (try rw [show ((chB false).toNat : Int) = 48 from rfl] at hgB)
              (try rw [show ((chB true).toNat : Int) = 49 from rfl] at hgB)
              go_wp2
              go_region_with ((go_at_call 75; refine (HC.out _).mono ?_; rintro r w9 ⟨rfl, rfl⟩))
              all_goals
                clear hcell hfroz HC
                go_wp2
                go_roundw
                case rel => first | exact ⟨i + 1, hlt, by go_num, hide (Hput.out.drew), hide (Hbs.out.drew)⟩ | ((repeat apply Exists.intro); exact ⟨⟨i + 1, hlt, by go_num, hide (Hput.out.drew), hide (Hbs.out.drew)⟩, rfl⟩)
                case measure => simp [intOf] <;> omega
          · have hin : i = n := by omega
            subst hin
            have hbk2 := hbk.out
            rw [Hend.out] at hbk2
            have hln : (valB A B).length = i := by rw [← Hend.out]; exact Hlen.out i (Nat.le_refl _)
            have hcb := run_convert_bytes_back (P := Tryz.prog) wr 74 9 5 ⟨G, 0, none⟩ i (valB A B) Tryz.underlying74 Tryz.underlying5 Tryz.underlying9 (fun j hj => by
              rw [Go.WideShapes.add_plain, Nat.zero_add, hbk2.cell j, List.getElem?_toArray, List.getElem?_map, List.getElem?_eq_getElem hj]
              rfl)
            rw [hln] at hcb
            have hbsv : (⟨(valB A B).toArray⟩ : ByteArray) = bs (valB A B) := rfl
            rw [hbsv] at hcb
            obtain ⟨SR, hSR⟩ : ∃ s, bs (valB A B) = s := ⟨_, rfl⟩
            rw [hSR] at hcb
            have HSR := hide hSR
            clear hbk2 hln hbsv hSR hbk Hset Hlen Hend Hga Hgb
            go_wp2
            go_returns
            exact ⟨by rw [HSR.out]; rfl, hb.out⟩
      · rw [if_pos hl]
        have hne : (((bs (A.map chB)).size : Int) != ((bs (B.map chB)).size : Int)) = true := by rw [hsa, hsb, bne_iff_ne]; omega
        simp only [he]
        clear hsa hsb he hl h1 h2 hea heb
        generalize bs (A.map chB) = SA at *
        generalize bs (B.map chB) = SB at *
        go_enter Tryz.func46, Tryz.ntmps46
        go_wp2_with fail
        refine (Ha.out).mono ?_
        rintro x w1 ⟨rfl, hb1⟩
        go_wp2_with fail
        refine (Hb.out _).mono ?_
        rintro x w2 ⟨rfl, hb2⟩
        have Hb2 := hide (hb1.trans (hb2.mono hb1.size))
        clear hb2 hb1
        go_wp2
        go_returns
        exact ⟨rfl, Hb2.out⟩
end Go.Proofs.YtjfcemlbbinanaaGreatDoor
