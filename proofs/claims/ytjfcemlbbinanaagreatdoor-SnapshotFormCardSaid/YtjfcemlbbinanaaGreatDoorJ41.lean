/-
  The walks over frames: a frame is read, by cases, second part.
-/
import Derived.Test.YtjfcemlbbinanaaGreatDoorJ40
set_option linter.unusedVariables false
set_option linter.unusedSimpArgs false
namespace Go.Proofs.YtjfcemlbbinanaaGreatDoor
open Go.RowKit Go.Proofs Wv Wv.Vi Wv.Rc Wv.Mo Wv.Ru Wv.Lz Wv.Fm
set_option linter.unusedVariables false
section
variable {S RS : ByteArray} {w : World}
set_option maxRecDepth 100000 in
set_option maxHeartbeats 4000000 in
theorem parse_lzerr (hS : S.size ≤ 1000000000) (hS2 : 2 ≤ S.size) (hg0 : ∀ h : 0 < S.size, (S[0]'h).toNat = 165) {b8 : Nat} (hg1 : ∀ h : 1 < S.size, (S[1]'h).toNat = b8) (h32 : b8 < 32) (hex : S.extract 2 S.size = RS) (hRS : RS.size ≤ 1000000000) {body : List UInt8} {ts kb ks : ByteArray} (htx : textR RS 0 4096 = (bs body, ts, 0)) (hts : ts.size ≤ 1000000000) (htk : takeR ts 0 4 = (kb, ks, 0)) {z : Nat} (hz : z + ks.size = S.size) (F : List UInt8) (hF : S.extract 0 z = bs F) (hFl : F.length ≤ 1000000000) (hop : openB F = true) (h16 : 16 ≤ b8) (hbl : body.length ≤ 1000000000) (hlz : (lzD body 4096).2 ≠ 0) :
  Calls Tryz.prog 39 #[.string S] w fun x w' => x = .returned (.tuple #[.agg #[.int .i64 0, .string ⟨#[]⟩], .int .i64 0, .bool false, .bool false]) ∧ Below w.heap.size w w' := by
 have Hno := hide (fun W => none1_any W)
 have Hres0 := hide (fun W hb v0 v1 => res_fr1 (w := w) (W := W) hb v0 v1)
 have Hres := hide (fun W hb => res_fr1 (w := w) (W := W) hb (.int .i64 0) (.string ⟨#[]⟩))
 have Hv := hide (vnew1 RS w (.cells #[.int .i64 0, .string ⟨#[]⟩] 50))
 have h2i : ¬ (S.size : Int) < 2 := by omega
 have hl2 : (2 : Int) ≤ (S.size : Int) := by omega
 have hl1 : (1 : Int) < (S.size : Int) := by omega
 have hl0 : (0 : Int) < (S.size : Int) := by omega
 have hlt0 : 0 < S.size := by omega
 have hlt1 : 1 < S.size := by omega
 have hb32 : ¬ (32 : Int) ≤ (b8 : Int) := by omega
 have Htx := hide (fun (W : World) (b : Nat) (h : RV W b RS 0) => vtext_any h (by omega) 4096)
 rw [htx] at Htx
 have Htk := hide (fun (W : World) (b : Nat) (h : RV W b ts 0) => vtake_any h (by omega) 4)
 rw [htk] at Htk
 simp only at Htx Htk
 have Hle := hide (fun (W : World) (b : Nat) (h : RV W b ks 0) => vleft_any h (by omega))
 have hzi : (S.size : Int) - (ks.size : Int) = (z : Int) := by omega
 have hz0 : (0 : Int) ≤ (z : Int) := by omega
 have hzS : (z : Int) ≤ (S.size : Int) := by omega
 have Hop := hide (fun W => crcopen_any F hFl W)
 rw [hop, if_pos rfl] at Hop
 have hbi : (b8 : Int) % 16 = ((b8 % 16 : Nat) : Int) := by omega
 have hbt : (b8 : Int).tmod 16 = ((b8 % 16 : Nat) : Int) := by rw [Int.tmod_eq_emod_of_nonneg (by omega)]; omega
 have Hlz := hide (fun W => lzdecode_any body hbl 4096 W)
 obtain ⟨⟨lc, le⟩, hl⟩ : ∃ x, lzD body 4096 = x := ⟨_, rfl⟩
 rw [hl] at Hlz hlz
 unfold lzV at Hlz
 simp only at Hlz hlz
 have hle : ((le : Int) != 0) = true := by rw [bne_iff_ne]; omega
 have h16i : (16 : Int) ≤ (b8 : Int) := by omega
 have h16d : decide ((16 : Int) ≤ (b8 : Int)) = true := decide_eq_true h16i
 generalize bs F = FS at *
 generalize bs lc = LC at *
 generalize bs body = BS at *
 obtain ⟨k, hk⟩ : ∃ x, b8 % 16 = x := ⟨_, rfl⟩
 rw [hk] at hbi hbt
 clear htx htk Hres0 hts hRS hop hFl hz hl hlz hk hbl h16
 go_enter Tryz.func39, Tryz.ntmps39
 go_wp2_with fail
 refine (Hv.out).mono ?_
 rintro x w1 ⟨rfl, h1, hb1, hs1⟩
 go_wp2_with fail
 refine (Htx.out _ _ h1).mono ?_
 rintro x w2 ⟨rfl, h2, hf2⟩
 have hb2 := bel_only hb1 hs1 (Nat.le_refl _) hf2
 have hs2 := Nat.le_trans hs1 hf2.size
 clear h1 hf2 hb1 hs1
 go_wp2_with fail
 refine (Htk.out _ _ h2).mono ?_
 rintro x w3 ⟨rfl, h3, hf3⟩
 have HBx := bel_only hb2 hs2 (Nat.le_refl _) hf3
 have hsx := Nat.le_trans hs2 hf3.size
 clear h2 hf3 hb2 hs2
 have Her := hide (verr_any h3)
 go_wp2_with fail
 refine (Her.out).mono ?_
 rintro x w4 ⟨rfl, rfl⟩
 go_wp2_with fail
 refine (Hle.out _ _ h3).mono ?_
 rintro x w4 ⟨rfl, rfl⟩
 go_wp2_with fail
 refine (Hop.out _).mono ?_
 rintro x w4 ⟨⟨y, rfl⟩, rfl⟩
 clear h3 Her Hv Htx Htk Hle Hop
 go_wp2_with fail
 refine (Hlz.out _).mono ?_
 rintro x w5 ⟨rfl, hb5⟩
 have HBa := HBx.alloc hsx (.cells #[.int .i64 (k : Int), .string BS] 50)
 have hsa : w.heap.size + 1 ≤ (w3.alloc (.cells #[.int .i64 (k : Int), .string BS] 50)).heap.size := by rw [World.size_alloc]; omega
 have HBx5 := HBa.trans (hb5.mono hsa)
 have hsx5 := Nat.le_trans hsa hb5.size
 clear HBx hsx HBa hsa hb5
 have HBx := HBx5
 have hsx := hsx5
 clear HBx5 hsx5
 go_wp2_with fail
 refine (Hno.out _).mono ?_
 rintro x wn ⟨rfl, hbn⟩
 have hbN := HBx.trans (hbn.mono hsx)
 obtain ⟨⟨c0, c1, f0, f1⟩, ⟨z0, z1⟩, hB⟩ := Hres.out _ hbN
 have HB := hide hB
 clear hbn hbN hB Hres Hno HBx hsx
 go_wp2_with ((with_reducible show bodyPost _ _ _ _ _ _); refine bodyPost_ret (v := .tuple #[.agg #[.int .i64 0, .string ⟨#[]⟩], .int .i64 0, .bool false, .bool false]) (by simp [results, Tryz.results39, go_sem, z0, z1]; try rfl) rfl ?_; exact ⟨rfl, HB.out⟩)
set_option maxRecDepth 100000 in
set_option maxHeartbeats 4000000 in
theorem parse_plain (hS : S.size ≤ 1000000000) (hS2 : 2 ≤ S.size) (hg0 : ∀ h : 0 < S.size, (S[0]'h).toNat = 165) {b8 : Nat} (hg1 : ∀ h : 1 < S.size, (S[1]'h).toNat = b8) (h32 : b8 < 32) (hex : S.extract 2 S.size = RS) (hRS : RS.size ≤ 1000000000) {c : List UInt8} {ts kb ks : ByteArray} (htx : textR RS 0 4096 = (bs c, ts, 0)) (hts : ts.size ≤ 1000000000) (htk : takeR ts 0 4 = (kb, ks, 0)) {z : Nat} (hz : z + ks.size = S.size) (F : List UInt8) (hF : S.extract 0 z = bs F) (hFl : F.length ≤ 1000000000) (hop : openB F = true) (h16 : b8 < 16) (hcl : c.length ≤ 1000000000) :
  Calls Tryz.prog 39 #[.string S] w fun x w' => x = .returned (if decide (wrapS (b8 % 16) c = some F) = true then .tuple #[frV (b8 % 16) c, .int .i64 (z : Int), .bool false, .bool true] else .tuple #[.agg #[.int .i64 0, .string ⟨#[]⟩], .int .i64 0, .bool false, .bool false]) ∧ Below w.heap.size w w' := by
 have Hno := hide (fun W => none1_any W)
 have Hres0 := hide (fun W hb v0 v1 => res_fr1 (w := w) (W := W) hb v0 v1)
 have Hres := hide (fun W hb => res_fr1 (w := w) (W := W) hb (.int .i64 0) (.string ⟨#[]⟩))
 have Hv := hide (vnew1 RS w (.cells #[.int .i64 0, .string ⟨#[]⟩] 50))
 have h2i : ¬ (S.size : Int) < 2 := by omega
 have hl2 : (2 : Int) ≤ (S.size : Int) := by omega
 have hl1 : (1 : Int) < (S.size : Int) := by omega
 have hl0 : (0 : Int) < (S.size : Int) := by omega
 have hlt0 : 0 < S.size := by omega
 have hlt1 : 1 < S.size := by omega
 have hb32 : ¬ (32 : Int) ≤ (b8 : Int) := by omega
 have Htx := hide (fun (W : World) (b : Nat) (h : RV W b RS 0) => vtext_any h (by omega) 4096)
 rw [htx] at Htx
 have Htk := hide (fun (W : World) (b : Nat) (h : RV W b ts 0) => vtake_any h (by omega) 4)
 rw [htk] at Htk
 simp only at Htx Htk
 have Hle := hide (fun (W : World) (b : Nat) (h : RV W b ks 0) => vleft_any h (by omega))
 have hzi : (S.size : Int) - (ks.size : Int) = (z : Int) := by omega
 have hz0 : (0 : Int) ≤ (z : Int) := by omega
 have hzS : (z : Int) ≤ (S.size : Int) := by omega
 have Hop := hide (fun W => crcopen_any F hFl W)
 rw [hop, if_pos rfl] at Hop
 have hbi : (b8 : Int) % 16 = ((b8 % 16 : Nat) : Int) := by omega
 have hbt : (b8 : Int).tmod 16 = ((b8 % 16 : Nat) : Int) := by rw [Int.tmod_eq_emod_of_nonneg (by omega)]; omega
 have Hwr := hide (fun W => wrap_any (b8 % 16) (by omega) c hcl W)
 have hbad0 : (decide (wrapS (b8 % 16) c = some F) = true ∧ optV (wrapS (b8 % 16) c) = .tuple #[.string (bs F), .int .i64 0]) ∨ (decide (wrapS (b8 % 16) c = some F) = false ∧ optV (wrapS (b8 % 16) c) = .tuple #[.string ⟨#[]⟩, .int .i64 9]) ∨ (decide (wrapS (b8 % 16) c = some F) = false ∧ ∃ v, optV (wrapS (b8 % 16) c) = .tuple #[.string (bs v), .int .i64 0] ∧ v ≠ F) := by
  cases hw : wrapS (b8 % 16) c with
  | none => exact .inr (.inl ⟨by simp, rfl⟩)
  | some v =>
   by_cases h : v = F
   ·subst h; exact .inl ⟨by simp, rfl⟩
   ·exact .inr (.inr ⟨by simp [h], v, rfl, h⟩)
 obtain ⟨ok, hok⟩ : ∃ x, decide (wrapS (b8 % 16) c = some F) = x := ⟨_, rfl⟩
 rw [hok] at hbad0 ⊢
 have hbad1 : ∃ (O : ByteArray) (we : Int), optV (wrapS (b8 % 16) c) = .tuple #[.string O, .int .i64 we] ∧ ((ok = true ∧ (we != 0) = false ∧ (O.toList != (bs F).toList) = false ∧ (O.toList == (bs F).toList) = true) ∨ (ok = false ∧ (we != 0) = true) ∨ (ok = false ∧ (we != 0) = false ∧ (O.toList != (bs F).toList) = true ∧ (O.toList == (bs F).toList) = false)) := by
  rcases hbad0 with ⟨h1, h2⟩ | ⟨h1, h2⟩ | ⟨h1, v, h2, h3⟩
  ·exact ⟨_, _, h2, .inl ⟨h1, rfl, by simp, by simp⟩⟩
  ·exact ⟨_, _, h2, .inr (.inl ⟨h1, rfl⟩)⟩
  ·obtain ⟨n1, n2⟩ := bs_neS v F
   rw [decide_eq_false h3] at n1 n2
   exact ⟨_, _, h2, .inr (.inr ⟨h1, rfl, n1, n2⟩)⟩
 obtain ⟨O, we, hO, hbad⟩ := hbad1
 rw [hO] at Hwr
 unfold frV at Hwr ⊢
 have h16i : ¬ (16 : Int) ≤ (b8 : Int) := by omega
 have h16d : decide ((16 : Int) ≤ (b8 : Int)) = false := decide_eq_false h16i
 generalize bs F = FS at *
 generalize bs c = CS at *
 obtain ⟨k, hk⟩ : ∃ x, b8 % 16 = x := ⟨_, rfl⟩
 rw [hk] at hbi hbt Hwr ⊢
 clear htx htk hts hRS hop hFl hz hk hcl h16 hbad0 hok hO
 go_enter Tryz.func39, Tryz.ntmps39
 go_wp2_with fail
 refine (Hv.out).mono ?_
 rintro x w1 ⟨rfl, h1, hb1, hs1⟩
 go_wp2_with fail
 refine (Htx.out _ _ h1).mono ?_
 rintro x w2 ⟨rfl, h2, hf2⟩
 have hb2 := bel_only hb1 hs1 (Nat.le_refl _) hf2
 have hs2 := Nat.le_trans hs1 hf2.size
 clear h1 hf2 hb1 hs1
 go_wp2_with fail
 refine (Htk.out _ _ h2).mono ?_
 rintro x w3 ⟨rfl, h3, hf3⟩
 have HBx := bel_only hb2 hs2 (Nat.le_refl _) hf3
 have hsx := Nat.le_trans hs2 hf3.size
 clear h2 hf3 hb2 hs2
 have Her := hide (verr_any h3)
 go_wp2_with fail
 refine (Her.out).mono ?_
 rintro x w4 ⟨rfl, rfl⟩
 go_wp2_with fail
 refine (Hle.out _ _ h3).mono ?_
 rintro x w4 ⟨rfl, rfl⟩
 go_wp2_with fail
 refine (Hop.out _).mono ?_
 rintro x w4 ⟨⟨y, rfl⟩, rfl⟩
 clear h3 Her Hv Htx Htk Hle Hop
 go_wp2_with fail
 refine (Hwr.out _).mono ?_
 rintro x w5 ⟨rfl, hb5⟩
 have hFB := (Bk.new w3 50 #[.int .i64 (k : Int), .string CS]).below hb5 (by simp)
 have q0 := hFB.cell 0
 have q1 := hFB.cell 1
 simp at q0 q1
 have HBa := HBx.alloc hsx (.cells #[.int .i64 (k : Int), .string CS] 50)
 have hsa : w.heap.size + 1 ≤ (w3.alloc (.cells #[.int .i64 (k : Int), .string CS] 50)).heap.size := by rw [World.size_alloc]; omega
 have HBx5 := HBa.trans (hb5.mono hsa)
 have hsx5 := Nat.le_trans hsa hb5.size
 clear HBx hsx HBa hsa hb5 hFB Hwr
 have HBx := HBx5
 have hsx := hsx5
 clear HBx5 hsx5
 rcases hbad with ⟨hok, hwe, hwo, hwo2⟩ | ⟨hok, hwe⟩ | ⟨hok, hwe, hwo, hwo2⟩
 ·subst hok
  have hR := Hres0.out _ HBx (.int .i64 (k : Int)) (.string CS)
  obtain ⟨⟨c0, c1, f0, f1⟩, ⟨z0, z1⟩, hB⟩ := hR
  have HB := hide hB
  clear hB HBx hsx Hno Hres Hres0
  go_wp2_with ((with_reducible show bodyPost _ _ _ _ _ _); refine bodyPost_ret (v := .tuple #[.agg #[.int .i64 (k : Int), .string CS], .int .i64 (z : Int), .bool false, .bool true]) (by simp [results, Tryz.results39, go_sem, z0, z1]; try rfl) rfl ?_; exact ⟨rfl, HB.out⟩)
 ·subst hok
  clear Hres0
  go_wp2_with fail
  refine (Hno.out _).mono ?_
  rintro x wn ⟨rfl, hbn⟩
  have hbN := HBx.trans (hbn.mono hsx)
  obtain ⟨⟨c0, c1, f0, f1⟩, ⟨z0, z1⟩, hB⟩ := Hres.out _ hbN
  have HB := hide hB
  clear hbn hbN hB Hres Hno HBx hsx
  go_wp2_with ((with_reducible show bodyPost _ _ _ _ _ _); refine bodyPost_ret (v := .tuple #[.agg #[.int .i64 0, .string ⟨#[]⟩], .int .i64 0, .bool false, .bool false]) (by simp [results, Tryz.results39, go_sem, z0, z1]; try rfl) rfl ?_; exact ⟨rfl, HB.out⟩)
 ·subst hok
  clear Hres0
  go_wp2_with fail
  refine (Hno.out _).mono ?_
  rintro x wn ⟨rfl, hbn⟩
  have hbN := HBx.trans (hbn.mono hsx)
  obtain ⟨⟨c0, c1, f0, f1⟩, ⟨z0, z1⟩, hB⟩ := Hres.out _ hbN
  have HB := hide hB
  clear hbn hbN hB Hres Hno HBx hsx
  go_wp2_with ((with_reducible show bodyPost _ _ _ _ _ _); refine bodyPost_ret (v := .tuple #[.agg #[.int .i64 0, .string ⟨#[]⟩], .int .i64 0, .bool false, .bool false]) (by simp [results, Tryz.results39, go_sem, z0, z1]; try rfl) rfl ?_; exact ⟨rfl, HB.out⟩)
set_option maxRecDepth 100000 in
set_option maxHeartbeats 4000000 in
theorem parse_small (hS : S.size ≤ 1000000000) (hS2 : 2 ≤ S.size) (hg0 : ∀ h : 0 < S.size, (S[0]'h).toNat = 165) {b8 : Nat} (hg1 : ∀ h : 1 < S.size, (S[1]'h).toNat = b8) (h32 : b8 < 32) (hex : S.extract 2 S.size = RS) (hRS : RS.size ≤ 1000000000) {body : List UInt8} {ts kb ks : ByteArray} (htx : textR RS 0 4096 = (bs body, ts, 0)) (hts : ts.size ≤ 1000000000) (htk : takeR ts 0 4 = (kb, ks, 0)) {z : Nat} (hz : z + ks.size = S.size) (F : List UInt8) (hF : S.extract 0 z = bs F) (hFl : F.length ≤ 1000000000) (hop : openB F = true) (h16 : 16 ≤ b8) (hbl : body.length ≤ 1000000000) {c : List UInt8} (hlz : lzD body 4096 = (c, 0)) (hcl : c.length ≤ 1000000000) :
  Calls Tryz.prog 39 #[.string S] w fun x w' => x = .returned (if decide (wrapS (b8 % 16) c = some F) = true then .tuple #[frV (b8 % 16) c, .int .i64 (z : Int), .bool true, .bool true] else .tuple #[.agg #[.int .i64 0, .string ⟨#[]⟩], .int .i64 0, .bool false, .bool false]) ∧ Below w.heap.size w w' := by
 have Hno := hide (fun W => none1_any W)
 have Hres0 := hide (fun W hb v0 v1 => res_fr1 (w := w) (W := W) hb v0 v1)
 have Hres := hide (fun W hb => res_fr1 (w := w) (W := W) hb (.int .i64 0) (.string ⟨#[]⟩))
 have Hv := hide (vnew1 RS w (.cells #[.int .i64 0, .string ⟨#[]⟩] 50))
 have h2i : ¬ (S.size : Int) < 2 := by omega
 have hl2 : (2 : Int) ≤ (S.size : Int) := by omega
 have hl1 : (1 : Int) < (S.size : Int) := by omega
 have hl0 : (0 : Int) < (S.size : Int) := by omega
 have hlt0 : 0 < S.size := by omega
 have hlt1 : 1 < S.size := by omega
 have hb32 : ¬ (32 : Int) ≤ (b8 : Int) := by omega
 have Htx := hide (fun (W : World) (b : Nat) (h : RV W b RS 0) => vtext_any h (by omega) 4096)
 rw [htx] at Htx
 have Htk := hide (fun (W : World) (b : Nat) (h : RV W b ts 0) => vtake_any h (by omega) 4)
 rw [htk] at Htk
 simp only at Htx Htk
 have Hle := hide (fun (W : World) (b : Nat) (h : RV W b ks 0) => vleft_any h (by omega))
 have hzi : (S.size : Int) - (ks.size : Int) = (z : Int) := by omega
 have hz0 : (0 : Int) ≤ (z : Int) := by omega
 have hzS : (z : Int) ≤ (S.size : Int) := by omega
 have Hop := hide (fun W => crcopen_any F hFl W)
 rw [hop, if_pos rfl] at Hop
 have hbi : (b8 : Int) % 16 = ((b8 % 16 : Nat) : Int) := by omega
 have hbt : (b8 : Int).tmod 16 = ((b8 % 16 : Nat) : Int) := by rw [Int.tmod_eq_emod_of_nonneg (by omega)]; omega
 have Hwr := hide (fun W => wrap_any (b8 % 16) (by omega) c hcl W)
 have hbad0 : (decide (wrapS (b8 % 16) c = some F) = true ∧ optV (wrapS (b8 % 16) c) = .tuple #[.string (bs F), .int .i64 0]) ∨ (decide (wrapS (b8 % 16) c = some F) = false ∧ optV (wrapS (b8 % 16) c) = .tuple #[.string ⟨#[]⟩, .int .i64 9]) ∨ (decide (wrapS (b8 % 16) c = some F) = false ∧ ∃ v, optV (wrapS (b8 % 16) c) = .tuple #[.string (bs v), .int .i64 0] ∧ v ≠ F) := by
  cases hw : wrapS (b8 % 16) c with
  | none => exact .inr (.inl ⟨by simp, rfl⟩)
  | some v =>
   by_cases h : v = F
   ·subst h; exact .inl ⟨by simp, rfl⟩
   ·exact .inr (.inr ⟨by simp [h], v, rfl, h⟩)
 obtain ⟨ok, hok⟩ : ∃ x, decide (wrapS (b8 % 16) c = some F) = x := ⟨_, rfl⟩
 rw [hok] at hbad0 ⊢
 have hbad1 : ∃ (O : ByteArray) (we : Int), optV (wrapS (b8 % 16) c) = .tuple #[.string O, .int .i64 we] ∧ ((ok = true ∧ (we != 0) = false ∧ (O.toList != (bs F).toList) = false ∧ (O.toList == (bs F).toList) = true) ∨ (ok = false ∧ (we != 0) = true) ∨ (ok = false ∧ (we != 0) = false ∧ (O.toList != (bs F).toList) = true ∧ (O.toList == (bs F).toList) = false)) := by
  rcases hbad0 with ⟨h1, h2⟩ | ⟨h1, h2⟩ | ⟨h1, v, h2, h3⟩
  ·exact ⟨_, _, h2, .inl ⟨h1, rfl, by simp, by simp⟩⟩
  ·exact ⟨_, _, h2, .inr (.inl ⟨h1, rfl⟩)⟩
  ·obtain ⟨n1, n2⟩ := bs_neS v F
   rw [decide_eq_false h3] at n1 n2
   exact ⟨_, _, h2, .inr (.inr ⟨h1, rfl, n1, n2⟩)⟩
 obtain ⟨O, we, hO, hbad⟩ := hbad1
 rw [hO] at Hwr
 unfold frV at Hwr ⊢
 have h16i : (16 : Int) ≤ (b8 : Int) := by omega
 have h16d : decide ((16 : Int) ≤ (b8 : Int)) = true := decide_eq_true h16i
 have Hlz := hide (fun W => lzdecode_any body hbl 4096 W)
 rw [hlz] at Hlz
 unfold lzV at Hlz
 simp only at Hlz
 have z0 : ((0 : Nat) : Int) = 0 := rfl
 rw [z0] at Hlz
 generalize bs F = FS at *
 generalize bs c = CS at *
 generalize bs body = BS at *
 obtain ⟨k, hk⟩ : ∃ x, b8 % 16 = x := ⟨_, rfl⟩
 rw [hk] at hbi hbt Hwr ⊢
 clear htx htk hts hRS hop hFl hz hk hcl h16 hbad0 hok hO hlz hbl z0
 go_enter Tryz.func39, Tryz.ntmps39
 go_wp2_with fail
 refine (Hv.out).mono ?_
 rintro x w1 ⟨rfl, h1, hb1, hs1⟩
 go_wp2_with fail
 refine (Htx.out _ _ h1).mono ?_
 rintro x w2 ⟨rfl, h2, hf2⟩
 have hb2 := bel_only hb1 hs1 (Nat.le_refl _) hf2
 have hs2 := Nat.le_trans hs1 hf2.size
 clear h1 hf2 hb1 hs1
 go_wp2_with fail
 refine (Htk.out _ _ h2).mono ?_
 rintro x w3 ⟨rfl, h3, hf3⟩
 have HBx := bel_only hb2 hs2 (Nat.le_refl _) hf3
 have hsx := Nat.le_trans hs2 hf3.size
 clear h2 hf3 hb2 hs2
 have Her := hide (verr_any h3)
 go_wp2_with fail
 refine (Her.out).mono ?_
 rintro x w4 ⟨rfl, rfl⟩
 go_wp2_with fail
 refine (Hle.out _ _ h3).mono ?_
 rintro x w4 ⟨rfl, rfl⟩
 go_wp2_with fail
 refine (Hop.out _).mono ?_
 rintro x w4 ⟨⟨y, rfl⟩, rfl⟩
 clear h3 Her Hv Htx Htk Hle Hop
 go_wp2_with fail
 refine (Hlz.out _).mono ?_
 rintro x w5 ⟨rfl, hb5⟩
 have hFB := (Bk.new w3 50 #[.int .i64 (k : Int), .string BS]).below hb5 (by simp)
 have q0 := hFB.cell 0
 have q1 := hFB.cell 1
 have p1 := hFB.frozen 1
 simp at q0 q1
 have HBa := HBx.alloc hsx (.cells #[.int .i64 (k : Int), .string BS] 50)
 have hsa : w.heap.size + 1 ≤ (w3.alloc (.cells #[.int .i64 (k : Int), .string BS] 50)).heap.size := by rw [World.size_alloc]; omega
 have HBx5 := (HBa.trans (hb5.mono hsa)).setCell (p := ⟨w3.heap.size, 1, none⟩) hsx (.string CS)
 have hsx5 : w.heap.size + 1 ≤ (w5.setCell ⟨w3.heap.size, 1, none⟩ (.string CS)).heap.size := by simpa using Nat.le_trans hsa hb5.size
 have hFB5 := hFB.put 1 (.string CS)
 have r0 := hFB5.cell 0
 have r1 := hFB5.cell 1
 simp at r0 r1
 have HF5 := hide hFB5
 clear HBx hsx HBa hsa hb5 hFB hFB5 Hlz
 go_wp2_with fail
 generalize w5.setCell ⟨w3.heap.size, 1, none⟩ (.string CS) = W6 at *
 refine (Hwr.out _).mono ?_
 rintro x w7 ⟨rfl, hb7⟩
 have hFB7 := HF5.out.below hb7 HF5.out.lt
 have v0 := hFB7.cell 0
 have v1 := hFB7.cell 1
 simp at v0 v1
 have HBx := HBx5.trans (hb7.mono hsx5)
 have hsx := Nat.le_trans hsx5 hb7.size
 clear HBx5 hsx5 hb7 hFB7 Hwr HF5 q0 q1 p1 r0 r1
 rcases hbad with ⟨hok, hwe, hwo, hwo2⟩ | ⟨hok, hwe⟩ | ⟨hok, hwe, hwo, hwo2⟩
 ·subst hok
  have hR := Hres0.out _ HBx (.int .i64 (k : Int)) (.string CS)
  obtain ⟨⟨c0, c1, f0, f1⟩, ⟨z0, z1⟩, hB⟩ := hR
  have HB := hide hB
  clear hB HBx hsx Hno Hres Hres0
  go_wp2_with ((with_reducible show bodyPost _ _ _ _ _ _); refine bodyPost_ret (v := .tuple #[.agg #[.int .i64 (k : Int), .string CS], .int .i64 (z : Int), .bool true, .bool true]) (by simp [results, Tryz.results39, go_sem, z0, z1]; try rfl) rfl ?_; exact ⟨rfl, HB.out⟩)
 ·subst hok
  clear Hres0
  go_wp2_with fail
  refine (Hno.out _).mono ?_
  rintro x wn ⟨rfl, hbn⟩
  have hbN := HBx.trans (hbn.mono hsx)
  obtain ⟨⟨c0, c1, f0, f1⟩, ⟨z0, z1⟩, hB⟩ := Hres.out _ hbN
  have HB := hide hB
  clear hbn hbN hB Hres Hno HBx hsx
  go_wp2_with ((with_reducible show bodyPost _ _ _ _ _ _); refine bodyPost_ret (v := .tuple #[.agg #[.int .i64 0, .string ⟨#[]⟩], .int .i64 0, .bool false, .bool false]) (by simp [results, Tryz.results39, go_sem, z0, z1]; try rfl) rfl ?_; exact ⟨rfl, HB.out⟩)
 ·subst hok
  clear Hres0
  go_wp2_with fail
  refine (Hno.out _).mono ?_
  rintro x wn ⟨rfl, hbn⟩
  have hbN := HBx.trans (hbn.mono hsx)
  obtain ⟨⟨c0, c1, f0, f1⟩, ⟨z0, z1⟩, hB⟩ := Hres.out _ hbN
  have HB := hide hB
  clear hbn hbN hB Hres Hno HBx hsx
  go_wp2_with ((with_reducible show bodyPost _ _ _ _ _ _); refine bodyPost_ret (v := .tuple #[.agg #[.int .i64 0, .string ⟨#[]⟩], .int .i64 0, .bool false, .bool false]) (by simp [results, Tryz.results39, go_sem, z0, z1]; try rfl) rfl ?_; exact ⟨rfl, HB.out⟩)
end
end Go.Proofs.YtjfcemlbbinanaaGreatDoor
