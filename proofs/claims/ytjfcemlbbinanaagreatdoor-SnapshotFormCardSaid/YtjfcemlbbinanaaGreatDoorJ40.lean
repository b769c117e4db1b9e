/-
  The walks over frames: a frame is read, by cases.
-/
import Derived.Test.YtjfcemlbbinanaaGreatDoorJ39
set_option linter.unusedVariables false
set_option linter.unusedSimpArgs false
namespace Go.Proofs.YtjfcemlbbinanaaGreatDoor
open Go.RowKit Go.Proofs Wv Wv.Vi Wv.Rc Wv.Mo Wv.Ru Wv.Lz Wv.Fm
set_option linter.unusedVariables false
section
variable {S RS : ByteArray} {w : World}
set_option maxRecDepth 100000 in
set_option maxHeartbeats 4000000 in
theorem parse_err (hS : S.size ≤ 1000000000) (hS2 : 2 ≤ S.size) (hg0 : ∀ h : 0 < S.size, (S[0]'h).toNat = 165) {b8 : Nat} (hg1 : ∀ h : 1 < S.size, (S[1]'h).toNat = b8) (h32 : b8 < 32) (hex : S.extract 2 S.size = RS) (hRS : RS.size ≤ 1000000000) {tb ts kb ks : ByteArray} {te ke : Nat} (htx : textR RS 0 4096 = (tb, ts, te)) (hts : ts.size ≤ 1000000000) (htk : takeR ts te 4 = (kb, ks, ke)) (hke : ke ≠ 0) :
  Calls Tryz.prog 39 #[.string S] w fun x w' => x = .returned (.tuple #[.agg #[.int .i64 0, .string ⟨#[]⟩], .int .i64 0, .bool false, .bool false]) ∧ Below w.heap.size w w' := by
 have Hno := hide (fun W => none1_any W)
 have Hres0 := hide (fun W hb v0 v1 => res_fr1 (w := w) (W := W) hb v0 v1)
 have Hres := hide (fun W hb => res_fr1 (w := w) (W := W) hb (.int .i64 0) (.string ⟨#[]⟩))
 have Hv := hide (vnew1 RS w (.cells #[.int .i64 0, .string ⟨#[]⟩] 50))
 have h2i : ¬ (S.size : Int) < 2 := by omega
 have hl2 : (2 : Int) ≤ (S.size : Int) := by omega
 have hl1 : (1 : Int) < (S.size : Int) := by omega
 have hl0 : (0 : Int) < (S.size : Int) := by omega
 have hlt0 : 0 < S.size := by omega
 have hlt1 : 1 < S.size := by omega
 have hb32 : ¬ (32 : Int) ≤ (b8 : Int) := by omega
 have Htx := hide (fun (W : World) (b : Nat) (h : RV W b RS 0) => vtext_any h (by omega) 4096)
 rw [htx] at Htx
 have Htk := hide (fun (W : World) (b : Nat) (h : RV W b ts te) => vtake_any h (by omega) 4)
 rw [htk] at Htk
 simp only at Htx Htk
 have hkeI : ((ke : Int) != 0) = true := by rw [bne_iff_ne]; omega
 clear htx htk hke Hres0 hts hRS
 go_enter Tryz.func39, Tryz.ntmps39
 go_wp2_with fail
 refine (Hv.out).mono ?_
 rintro x w1 ⟨rfl, h1, hb1, hs1⟩
 go_wp2_with fail
 refine (Htx.out _ _ h1).mono ?_
 rintro x w2 ⟨rfl, h2, hf2⟩
 have hb2 := bel_only hb1 hs1 (Nat.le_refl _) hf2
 have hs2 := Nat.le_trans hs1 hf2.size
 clear h1 hf2 hb1 hs1
 go_wp2_with fail
 refine (Htk.out _ _ h2).mono ?_
 rintro x w3 ⟨rfl, h3, hf3⟩
 have HBx := bel_only hb2 hs2 (Nat.le_refl _) hf3
 have hsx := Nat.le_trans hs2 hf3.size
 clear h2 hf3 hb2 hs2
 have Her := hide (verr_any h3)
 go_wp2_with fail
 refine (Her.out).mono ?_
 rintro x w4 ⟨rfl, rfl⟩
 go_wp2_with fail
 refine (Hno.out _).mono ?_
 rintro x wn ⟨rfl, hbn⟩
 have hbN := HBx.trans (hbn.mono hsx)
 obtain ⟨⟨c0, c1, f0, f1⟩, ⟨z0, z1⟩, hB⟩ := Hres.out _ hbN
 have HB := hide hB
 clear hbn hbN hB Hres Hno HBx hsx
 go_wp2_with ((with_reducible show bodyPost _ _ _ _ _ _); refine bodyPost_ret (v := .tuple #[.agg #[.int .i64 0, .string ⟨#[]⟩], .int .i64 0, .bool false, .bool false]) (by simp [results, Tryz.results39, go_sem, z0, z1]; try rfl) rfl ?_; exact ⟨rfl, HB.out⟩)
set_option maxRecDepth 100000 in
set_option maxHeartbeats 4000000 in
theorem parse_shut (hS : S.size ≤ 1000000000) (hS2 : 2 ≤ S.size) (hg0 : ∀ h : 0 < S.size, (S[0]'h).toNat = 165) {b8 : Nat} (hg1 : ∀ h : 1 < S.size, (S[1]'h).toNat = b8) (h32 : b8 < 32) (hex : S.extract 2 S.size = RS) (hRS : RS.size ≤ 1000000000) {tb ts kb ks : ByteArray} (htx : textR RS 0 4096 = (tb, ts, 0)) (hts : ts.size ≤ 1000000000) (htk : takeR ts 0 4 = (kb, ks, 0)) {z : Nat} (hz : z + ks.size = S.size) (F : List UInt8) (hF : S.extract 0 z = bs F) (hFl : F.length ≤ 1000000000) (hop : openB F = false) :
  Calls Tryz.prog 39 #[.string S] w fun x w' => x = .returned (.tuple #[.agg #[.int .i64 0, .string ⟨#[]⟩], .int .i64 0, .bool false, .bool false]) ∧ Below w.heap.size w w' := by
 have Hno := hide (fun W => none1_any W)
 have Hres0 := hide (fun W hb v0 v1 => res_fr1 (w := w) (W := W) hb v0 v1)
 have Hres := hide (fun W hb => res_fr1 (w := w) (W := W) hb (.int .i64 0) (.string ⟨#[]⟩))
 have Hv := hide (vnew1 RS w (.cells #[.int .i64 0, .string ⟨#[]⟩] 50))
 have h2i : ¬ (S.size : Int) < 2 := by omega
 have hl2 : (2 : Int) ≤ (S.size : Int) := by omega
 have hl1 : (1 : Int) < (S.size : Int) := by omega
 have hl0 : (0 : Int) < (S.size : Int) := by omega
 have hlt0 : 0 < S.size := by omega
 have hlt1 : 1 < S.size := by omega
 have hb32 : ¬ (32 : Int) ≤ (b8 : Int) := by omega
 have Htx := hide (fun (W : World) (b : Nat) (h : RV W b RS 0) => vtext_any h (by omega) 4096)
 rw [htx] at Htx
 have Htk := hide (fun (W : World) (b : Nat) (h : RV W b ts 0) => vtake_any h (by omega) 4)
 rw [htk] at Htk
 simp only at Htx Htk
 have Hle := hide (fun (W : World) (b : Nat) (h : RV W b ks 0) => vleft_any h (by omega))
 have hzi : (S.size : Int) - (ks.size : Int) = (z : Int) := by omega
 have hz0 : (0 : Int) ≤ (z : Int) := by omega
 have hzS : (z : Int) ≤ (S.size : Int) := by omega
 have Hop := hide (fun W => crcopen_any F hFl W)
 rw [hop, if_neg (by decide)] at Hop
 generalize bs F = FS at *
 clear htx htk Hres0 hts hRS hop hFl hz
 go_enter Tryz.func39, Tryz.ntmps39
 go_wp2_with fail
 refine (Hv.out).mono ?_
 rintro x w1 ⟨rfl, h1, hb1, hs1⟩
 go_wp2_with fail
 refine (Htx.out _ _ h1).mono ?_
 rintro x w2 ⟨rfl, h2, hf2⟩
 have hb2 := bel_only hb1 hs1 (Nat.le_refl _) hf2
 have hs2 := Nat.le_trans hs1 hf2.size
 clear h1 hf2 hb1 hs1
 go_wp2_with fail
 refine (Htk.out _ _ h2).mono ?_
 rintro x w3 ⟨rfl, h3, hf3⟩
 have HBx := bel_only hb2 hs2 (Nat.le_refl _) hf3
 have hsx := Nat.le_trans hs2 hf3.size
 clear h2 hf3 hb2 hs2
 have Her := hide (verr_any h3)
 go_wp2_with fail
 refine (Her.out).mono ?_
 rintro x w4 ⟨rfl, rfl⟩
 go_wp2_with fail
 refine (Hle.out _ _ h3).mono ?_
 rintro x w4 ⟨rfl, rfl⟩
 go_wp2_with fail
 refine (Hop.out _).mono ?_
 rintro x w4 ⟨⟨y, rfl⟩, rfl⟩
 clear h3 Her Hv Htx Htk Hle Hop
 go_wp2_with fail
 refine (Hno.out _).mono ?_
 rintro x wn ⟨rfl, hbn⟩
 have hbN := HBx.trans (hbn.mono hsx)
 obtain ⟨⟨c0, c1, f0, f1⟩, ⟨z0, z1⟩, hB⟩ := Hres.out _ hbN
 have HB := hide hB
 clear hbn hbN hB Hres Hno HBx hsx
 go_wp2_with ((with_reducible show bodyPost _ _ _ _ _ _); refine bodyPost_ret (v := .tuple #[.agg #[.int .i64 0, .string ⟨#[]⟩], .int .i64 0, .bool false, .bool false]) (by simp [results, Tryz.results39, go_sem, z0, z1]; try rfl) rfl ?_; exact ⟨rfl, HB.out⟩)
end
end Go.Proofs.YtjfcemlbbinanaaGreatDoor
