/-
  Joined texts: Qa, Qb, Qc, Qd, Qe, Qf, Qg, Qh, LC, LD, Bits4, LE, LJ, Md.
-/
import Derived.Test.YtjfcemlbbinanaaGreatDoorJ05
import Derived.Lib.Repeat
import Derived.Test.YtjfcemlbbinanaaGreatDoorJ11
set_option linter.unusedVariables false
set_option linter.unusedSimpArgs false
/-
  The walks over characters: codes.
-/
namespace Go.Proofs.YtjfcemlbbinanaaGreatDoor
open Go.RowKit Go.Proofs Wv Wv.Vi Wv.Bc
set_option linter.unusedVariables false
def cdI (c : UInt8) : Int := if cd c < 4 then (cd c : Int) else -1
theorem chars_get : (∀ h : 0 < (⟨#[48, 49, 120, 122]⟩ : ByteArray).size, ((⟨#[48, 49, 120, 122]⟩ : ByteArray)[0]'h).toNat = 48) ∧ (∀ h : 1 < (⟨#[48, 49, 120, 122]⟩ : ByteArray).size, ((⟨#[48, 49, 120, 122]⟩ : ByteArray)[1]'h).toNat = 49) ∧
  (∀ h : 2 < (⟨#[48, 49, 120, 122]⟩ : ByteArray).size, ((⟨#[48, 49, 120, 122]⟩ : ByteArray)[2]'h).toNat = 120) ∧ (∀ h : 3 < (⟨#[48, 49, 120, 122]⟩ : ByteArray).size, ((⟨#[48, 49, 120, 122]⟩ : ByteArray)[3]'h).toNat = 122) := ⟨fun _ => rfl, fun _ => rfl, fun _ => rfl, fun _ => rfl⟩
theorem cdI_of {c : UInt8} : (c.toNat = 48 → cdI c = 0) ∧ (c.toNat = 49 → cdI c = 1) ∧ (c.toNat = 120 → cdI c = 2) ∧ (c.toNat = 122 → cdI c = 3) ∧ (c.toNat ≠ 48 → c.toNat ≠ 49 → c.toNat ≠ 120 → c.toNat ≠ 122 → cdI c = -1) := by
 have e : ∀ k : UInt8, c.toNat = k.toNat → c = k := fun k h => UInt8.toNat_inj.1 h
 refine ⟨fun h => by rw [e 48 h]; rfl, fun h => by rw [e 49 h]; rfl, fun h => by rw [e 120 h]; rfl, fun h => by rw [e 122 h]; rfl, fun h0 h1 h2 h3 => ?_⟩
 rcases cd_cases c with ⟨rfl, h⟩ | ⟨rfl, h⟩ | ⟨rfl, h⟩ | ⟨rfl, h⟩ | ⟨_, _, _, _, h⟩
 ·exact absurd rfl h0
 ·exact absurd rfl h1
 ·exact absurd rfl h2
 ·exact absurd rfl h3
 ·unfold cdI; rw [h]; rfl
set_option maxHeartbeats 1000000 in
theorem code_any (c : UInt8) (w : World) : Calls Tryz.prog 73 #[.int .u8 (c.toNat : Int)] w fun x w' => x = .returned (.int .i64 (cdI c)) ∧ w = w' := by
 obtain ⟨f0, f1, f2, f3, f4⟩ := cdI_of (c := c)
 obtain ⟨g0, g1, g2, g3⟩ := chars_get
 obtain ⟨R, hR⟩ : ∃ R, cdI c = R := ⟨_, rfl⟩
 rw [hR] at f0 f1 f2 f3 f4 ⊢
 obtain ⟨C, hC⟩ : ∃ C, c.toNat = C := ⟨_, rfl⟩
 rw [hC] at f0 f1 f2 f3 f4 ⊢
 have F0 := hide f0
 have F1 := hide f1
 have F2 := hide f2
 have F3 := hide f3
 have F4 := hide f4
 clear hR hC f0 f1 f2 f3 f4
 go_enter Tryz.func73, Tryz.ntmps73
 go_wp2
 go_loopw [4] (fun s4 wr => ∃ i : Nat, i ≤ 4 ∧ s4 = .int .i64 (i : Int) ∧ Hid ((0 < i → C ≠ 48) ∧ (1 < i → C ≠ 49) ∧ (2 < i → C ≠ 120) ∧ (3 < i → C ≠ 122)) ∧ wr = w) (fun s4 _ => (4 - intOf s4).toNat)
 case atStart => exact ⟨0, by omega, rfl, hide ⟨fun h => by omega, fun h => by omega, fun h => by omega, fun h => by omega⟩, rfl⟩
 case round =>
  obtain ⟨i, hi, rfl, hno, rfl⟩ := hrel
  rcases (show i = 0 ∨ i = 1 ∨ i = 2 ∨ i = 3 ∨ i = 4 by omega) with rfl | rfl | rfl | rfl | rfl
  ·by_cases hc : C = 48
   ·have hR := F0.out hc
    subst hc
    go_wp2
    go_returns
    exact ⟨by first | rfl | (rw [hR]; rfl), rfl⟩
   ·have hb : ((48 : Int) == (C : Int)) = false := by rw [beq_eq_false_iff_ne]; omega
    go_wp2
    refine ⟨⟨1, by omega, rfl, hide ⟨fun _ => hc, fun h => by omega, fun h => by omega, fun h => by omega⟩, by first | rfl | trivial⟩, ?_⟩
    simp [intOf]
  ·by_cases hc : C = 49
   ·have hR := F1.out hc
    subst hc
    go_wp2
    go_returns
    exact ⟨by first | rfl | (rw [hR]; rfl), rfl⟩
   ·have hb : ((49 : Int) == (C : Int)) = false := by rw [beq_eq_false_iff_ne]; omega
    have hn := hno.out
    go_wp2
    refine ⟨⟨2, by omega, rfl, hide ⟨fun _ => hn.1 (by omega), fun _ => hc, fun h => by omega, fun h => by omega⟩, by first | rfl | trivial⟩, ?_⟩
    simp [intOf]
  ·by_cases hc : C = 120
   ·have hR := F2.out hc
    subst hc
    go_wp2
    go_returns
    exact ⟨by first | rfl | (rw [hR]; rfl), rfl⟩
   ·have hb : ((120 : Int) == (C : Int)) = false := by rw [beq_eq_false_iff_ne]; omega
    have hn := hno.out
    go_wp2
    refine ⟨⟨3, by omega, rfl, hide ⟨fun _ => hn.1 (by omega), fun _ => hn.2.1 (by omega), fun _ => hc, fun h => by omega⟩, by first | rfl | trivial⟩, ?_⟩
    simp [intOf]
  ·by_cases hc : C = 122
   ·have hR := F3.out hc
    subst hc
    go_wp2
    go_returns
    exact ⟨by first | rfl | (rw [hR]; rfl), rfl⟩
   ·have hb : ((122 : Int) == (C : Int)) = false := by rw [beq_eq_false_iff_ne]; omega
    have hn := hno.out
    go_wp2
    refine ⟨⟨4, by omega, rfl, hide ⟨fun _ => hn.1 (by omega), fun _ => hn.2.1 (by omega), fun _ => hn.2.2.1 (by omega), fun _ => hc⟩, by first | rfl | trivial⟩, ?_⟩
    simp [intOf]
  ·have hn := hno.out
   have hR := F4.out (hn.1 (by omega)) (hn.2.1 (by omega)) (hn.2.2.1 (by omega)) (hn.2.2.2 (by omega))
   go_wp2
   go_returns
   exact ⟨by first | rfl | (rw [hR]; rfl), rfl⟩
theorem char_any (n : Nat) (hn : n < 4) (w : World) : Calls Tryz.prog 75 #[.int .i64 (n : Int)] w fun x w' => x = .returned (.tuple #[.int .u8 ((ch n).toNat : Int), .bool true]) ∧ w = w' := by
 rcases (show n = 0 ∨ n = 1 ∨ n = 2 ∨ n = 3 by omega) with rfl | rfl | rfl | rfl
 all_goals
  go_enter Tryz.func75, Tryz.ntmps75
  go_wp2
  go_returns
  exact ⟨rfl, rfl⟩
theorem valid1_any (c : UInt8) (w : World) : Calls Tryz.prog 109 #[.int .u8 (c.toNat : Int)] w fun x w' => x = .returned (.bool (isC c)) ∧ w = w' := by
 have H := hide (code_any c w)
 have h : decide (0 ≤ cdI c) = isC c := by
  unfold cdI isC
  by_cases h : cd c < 4
  ·rw [if_pos h]; simp [h]
  ·rw [if_neg h]; simp [h]
 generalize (c.toNat : Int) = C at *
 generalize cdI c = k at *
 go_enter Tryz.func109, Tryz.ntmps109
 go_wp2_with fail
 refine (H.out).mono ?_
 rintro x w1 ⟨rfl, rfl⟩
 go_wp2
 go_returns
 exact ⟨by first | rfl | (rw [h]), rfl⟩
end Go.Proofs.YtjfcemlbbinanaaGreatDoor
/-
  The walks over values: how often characters occur, whether a text is a value.
-/
namespace Go.Proofs.YtjfcemlbbinanaaGreatDoor
open Go.RowKit Go.Proofs Wv Wv.Vi Wv.Bc
set_option linter.unusedVariables false
def cn (k : Nat) (v : List UInt8) : Nat := (v.filter (fun c => cd c == k)).length
theorem cn_snoc (k : Nat) (v : List UInt8) (c : UInt8) : cn k (v ++ [c]) = cn k v + if cd c = k then 1 else 0 := by
 unfold cn
 rw [List.filter_append, List.length_append]
 congr 1
 by_cases h : cd c = k
 ·rw [if_pos h]; simp [h]
 ·rw [if_neg h]; simp [h]
theorem cn_le (k : Nat) (v : List UInt8) : cn k v ≤ v.length := List.length_filter_le _ _
theorem cn_sum (v : List UInt8) : cn 0 v + cn 1 v + cn 2 v + cn 3 v ≤ v.length ∧ (cn 0 v + cn 1 v + cn 2 v + cn 3 v = v.length ↔ ∀ c ∈ v, cd c < 4) ∧ (cn 0 v + cn 1 v = v.length ↔ ∀ c ∈ v, cd c < 2) ∧ ((∀ c ∈ v, cd c < 4) → (cn 2 v + cn 3 v = 0 ↔ ∀ c ∈ v, cd c < 2)) := by
 induction v with
 | nil => simp [cn]
 | cons a r ih =>
  have key : ∀ k, cn k (a :: r) = cn k r + if cd a = k then 1 else 0 := fun k => by
   unfold cn
   by_cases h : cd a = k
   ·rw [if_pos h, List.filter_cons_of_pos (by simp [h])]; rfl
   ·rw [if_neg h, List.filter_cons_of_neg (by simp [h])]; rfl
  obtain ⟨i1, i2, i3, i4⟩ := ih
  have hle := cd_le a
  simp only [key, List.length_cons, List.forall_mem_cons]
  rcases (show cd a = 0 ∨ cd a = 1 ∨ cd a = 2 ∨ cd a = 3 ∨ cd a = 4 by omega) with h | h | h | h | h
  all_goals
   simp only [h]
   refine ⟨by simp <;> omega, ⟨fun h1 => ?_, fun h1 => ?_⟩, ⟨fun h1 => ?_, fun h1 => ?_⟩, fun h0 => ⟨fun h1 => ?_, fun h1 => ?_⟩⟩
  all_goals simp at *
  all_goals first
   | omega
   | (refine i2.1 ?_; omega)
   | (have := i2.2 h1; omega)
   | (refine i3.1 ?_; omega)
   | (have := i3.2 h1; omega)
   | (exact (i4 h0).1 h1)
   | (exact (i4 h0).2 h1)
   | skip
end Go.Proofs.YtjfcemlbbinanaaGreatDoor
/-
  The walks over values: counting characters, values, known values, values of a width.
-/
namespace Go.Proofs.YtjfcemlbbinanaaGreatDoor
open Go.RowKit Go.Proofs Wv Wv.Vi Wv.Bc
set_option linter.unusedVariables false
theorem bs_get (v : List UInt8) (i : Nat) (h : i < v.length) (h2 : i < (bs v).size) : ((bs v)[i]'h2) = v[i]'h := by simp [bs]; rfl
def cnA (v : List UInt8) : Array Value := #[.int .i64 (cn 0 v : Int), .int .i64 (cn 1 v : Int), .int .i64 (cn 2 v : Int), .int .i64 (cn 3 v : Int)]
theorem cnA_step (v : List UInt8) (c : UInt8) (k : Nat) (hk : cd c = k) (h : k < 4) : (cnA v).setIfInBounds k (.int .i64 ((cn k v : Int) + 1)) = cnA (v ++ [c]) := by
 unfold cnA
 simp only [cn_snoc, hk]
 rcases (show k = 0 ∨ k = 1 ∨ k = 2 ∨ k = 3 by omega) with rfl | rfl | rfl | rfl <;> simp
theorem cnA_same (v : List UInt8) (c : UInt8) (h : ¬ cd c < 4) : cnA (v ++ [c]) = cnA v := by
 unfold cnA
 simp only [cn_snoc]
 rw [if_neg (by omega), if_neg (by omega), if_neg (by omega), if_neg (by omega)]
 rfl
set_option maxRecDepth 10000 in
set_option maxHeartbeats 2000000 in
theorem count_any (v : List UInt8) (hv : v.length ≤ 1099511627776) (w : World) :
  Calls Tryz.prog 106 #[.string (bs v)] w fun x w' => x = .returned (.agg (cnA v)) ∧ Below w.heap.size w w' := by
 have hsz : (bs v).size = v.length := bs_size v
 have hb0 := hide (((Below.refl w.heap.size w).alloc (Nat.le_refl _) (.cells #[.int .i64 0, .int .i64 0, .int .i64 0, .int .i64 0] 142)).alloc (by simp) (.cells #[.int .i64 0, .int .i64 0, .int .i64 0, .int .i64 0] 142))
 have hk0 := hide ((Bk.new w 142 #[.int .i64 0, .int .i64 0, .int .i64 0, .int .i64 0]).alloc (.cells #[.int .i64 0, .int .i64 0, .int .i64 0, .int .i64 0] 142))
 have hk1 := Bk.new (w.alloc (.cells #[.int .i64 0, .int .i64 0, .int .i64 0, .int .i64 0] 142)) 142 #[.int .i64 0, .int .i64 0, .int .i64 0, .int .i64 0]
 rw [World.size_alloc] at hk1
 have hk1' := hide hk1
 have Hget : Hid (∀ (i : Nat) (h : i < v.length) (h2 : i < (bs v).size), (bs v)[i]'h2 = v[i]'h) := hide (fun i h h2 => bs_get v i h h2)
 obtain ⟨n, hn⟩ : ∃ n, v.length = n := ⟨_, rfl⟩
 obtain ⟨S, hS⟩ : ∃ S, bs v = S := ⟨_, rfl⟩
 rw [hS] at hsz Hget ⊢
 rw [hn] at hsz hv
 have Hn := hide hn
 have Hsz := hide hsz
 clear hn hS hk1 hsz
 go_enter Tryz.func106, Tryz.ntmps106
 go_wp2
 rw [Hsz.out]
 go_loopw [8] (fun s8 wr => ∃ i : Nat, i ≤ n ∧ s8 = .int .i64 (i : Int) ∧ Hid (Bk wr w.heap.size 142 #[.int .i64 0, .int .i64 0, .int .i64 0, .int .i64 0]) ∧ Hid (Bk wr (w.heap.size + 1) 142 (cnA (v.take i))) ∧ Hid (Below w.heap.size w wr)) (fun s8 _ => (n - intOf s8).toNat)
 case atStart => exact ⟨0, Nat.zero_le _, rfl, hk0, hk1', hb0⟩
 case round =>
  clear hk0 hk1' hb0
  obtain ⟨i, hi, rfl, hka, hkb, hb⟩ := hrel
  by_cases hlt : i < n
  ·have hil : i < v.length := by rw [Hn.out]; exact hlt
   have hiS : i < S.size := by rw [Hsz.out]; exact hlt
   have hg0 := Hget.out i hil
   have htk : v.take (i + 1) = v.take i ++ [v[i]] := List.take_succ_eq_append_getElem hil
   obtain ⟨c, hc⟩ : ∃ c, v[i] = c := ⟨_, rfl⟩
   rw [hc] at hg0 htk
   have hget : ∀ h : i < S.size, (S[i]'h).toNat = c.toNat := fun h => by rw [hg0 h]
   have hlti : (i : Int) < (n : Int) := by omega
   have hlti0 : (0 : Int) ≤ (i : Int) := by omega
   have hcl : cn 0 (v.take i) ≤ i ∧ cn 1 (v.take i) ≤ i ∧ cn 2 (v.take i) ≤ i ∧ cn 3 (v.take i) ≤ i := by
    have hl : (v.take i).length ≤ i := by rw [List.length_take]; omega
    exact ⟨Nat.le_trans (cn_le _ _) hl, Nat.le_trans (cn_le _ _) hl, Nat.le_trans (cn_le _ _) hl, Nat.le_trans (cn_le _ _) hl⟩
   obtain ⟨hc0, hc1, hc2, hc3⟩ := hcl
   have Hco := hide (code_any c wr)
   unfold cdI at Hco
   have hu0 := hkb.out.cell 0
   have hu1 := hkb.out.cell 1
   have hu2 := hkb.out.cell 2
   have hu3 := hkb.out.cell 3
   have f0 := hkb.out.frozen 0
   have f1 := hkb.out.frozen 1
   have f2 := hkb.out.frozen 2
   have f3 := hkb.out.frozen 3
   unfold cnA at hu0 hu1 hu2 hu3
   simp only [List.getElem?_toArray, List.getElem?_cons_zero, List.getElem?_cons_succ] at hu0 hu1 hu2 hu3
   have Hput := hide (fun k (h : cd c = k) (h4 : k < 4) => (by rw [htk, ← cnA_step _ c k h h4]; exact Bk.put hkb.out k (.int .i64 ((cn k (v.take i) : Int) + 1)) : Bk (wr.setCell ⟨w.heap.size + 1, k, none⟩ (.int .i64 ((cn k (v.take i) : Int) + 1))) (w.heap.size + 1) 142 (cnA (v.take (i + 1)))))
   have Hsame := hide (fun (h : ¬ cd c < 4) => (by rw [htk, cnA_same _ c h]; exact hkb.out : Bk wr (w.heap.size + 1) 142 (cnA (v.take (i + 1)))))
   have Hoff := hide (fun k (u : Value) => Bk.off hka.out (p := ⟨w.heap.size + 1, k, none⟩) (by simp) u)
   have Hbs := hide (fun k (u : Value) => hb.out.setCell (p := ⟨w.heap.size + 1, k, none⟩) (by simp) u)
   have hle := cd_le c
   obtain ⟨CN, hCN⟩ : ∃ f : Nat → Nat, (fun k => cn k (v.take i)) = f := ⟨_, rfl⟩
   have hck : ∀ k, cn k (v.take i) = CN k := fun k => congrFun hCN k
   simp only [hck] at Hput hu0 hu1 hu2 hu3 hc0 hc1 hc2 hc3
   clear hil hg0 htk hc hCN hck
   by_cases h4 : cd c < 4
   ·rw [if_pos h4] at Hco
    clear Hsame
    obtain ⟨k, hk⟩ : ∃ k, cd c = k := ⟨_, rfl⟩
    rw [hk] at Hco h4
    have hks := hide (Hput.out k hk h4)
    have hka2 := hide (fun u => Hoff.out k u)
    have hb2 := hide (fun u => Hbs.out k u)
    clear Hput Hoff Hbs hle hk
    rcases (show k = 0 ∨ k = 1 ∨ k = 2 ∨ k = 3 by omega) with rfl | rfl | rfl | rfl
    all_goals
     clear h4
     go_wp2_with fail
     refine (Hco.out).mono ?_
     rintro x w1 ⟨rfl, rfl⟩
     go_wp2
     refine ⟨⟨i + 1, hlt, by go_num, hide (hka2.out _), hks, hide (hb2.out _)⟩, ?_⟩
     simp [intOf] <;> omega
   ·rw [if_neg h4] at Hco
    have hks := hide (Hsame.out h4)
    clear Hput Hsame Hoff Hbs h4 hu0 hu1 hu2 hu3 f0 f1 f2 f3 hle
    go_wp2_with fail
    refine (Hco.out).mono ?_
    rintro x w1 ⟨rfl, rfl⟩
    go_wp2
    refine ⟨⟨i + 1, hlt, by go_num, hka, hks, hb⟩, ?_⟩
    simp [intOf] <;> omega
  ·have hin : i = n := by omega
   subst hin
   have htk : v.take i = v := List.take_of_length_le (by rw [Hn.out]; exact Nat.le_refl _)
   have hkb2 := hkb.out
   rw [htk] at hkb2
   have hu0 := hkb2.cell 0
   have hu1 := hkb2.cell 1
   have hu2 := hkb2.cell 2
   have hu3 := hkb2.cell 3
   have hr0 := hka.out.frozen 0
   have hr1 := hka.out.frozen 1
   have hr2 := hka.out.frozen 2
   have hr3 := hka.out.frozen 3
   have hv0 := hka.out.cell 0
   have hv1 := hka.out.cell 1
   have hv2 := hka.out.cell 2
   have hv3 := hka.out.cell 3
   unfold cnA at hu0 hu1 hu2 hu3
   simp only [List.getElem?_toArray, List.getElem?_cons_zero, List.getElem?_cons_succ] at hu0 hu1 hu2 hu3 hv0 hv1 hv2 hv3
   have hcn : cnA v = #[.int .i64 (cn 0 v : Int), .int .i64 (cn 1 v : Int), .int .i64 (cn 2 v : Int), .int .i64 (cn 3 v : Int)] := rfl
   have hCN := hide hcn
   clear hcn
   generalize cn 0 v = n0 at *
   generalize cn 1 v = n1 at *
   generalize cn 2 v = n2 at *
   generalize cn 3 v = n3 at *
   clear htk hkb2
   have hF := hide ((((hka.out.put 0 (.int .i64 (n0 : Int))).put 1 (.int .i64 (n1 : Int))).put 2 (.int .i64 (n2 : Int))).put 3 (.int .i64 (n3 : Int)))
   have hbF := hide ((((hb.out.setCell (p := ⟨w.heap.size, 0, none⟩) (Nat.le_refl _) (.int .i64 (n0 : Int))).setCell (p := ⟨w.heap.size, 1, none⟩) (Nat.le_refl _) (.int .i64 (n1 : Int))).setCell (p := ⟨w.heap.size, 2, none⟩) (Nat.le_refl _) (.int .i64 (n2 : Int))).setCell (p := ⟨w.heap.size, 3, none⟩) (Nat.le_refl _) (.int .i64 (n3 : Int)))
   go_wp2
   have z0 := hF.out.cell 0
   have z1 := hF.out.cell 1
   have z2 := hF.out.cell 2
   have z3 := hF.out.cell 3
   simp at z0 z1 z2 z3
   generalize ((((wr.setCell ⟨w.heap.size, 0, none⟩ (.int .i64 (n0 : Int))).setCell ⟨w.heap.size, 1, none⟩ (.int .i64 (n1 : Int))).setCell ⟨w.heap.size, 2, none⟩ (.int .i64 (n2 : Int))).setCell ⟨w.heap.size, 3, none⟩ (.int .i64 (n3 : Int))) = WF at *
   refine bodyPost_ret (v := .agg #[.int .i64 (n0 : Int), .int .i64 (n1 : Int), .int .i64 (n2 : Int), .int .i64 (n3 : Int)]) (by simp [results, Tryz.results106, go_sem, z0, z1, z2, z3]; try rfl) rfl ?_
   exact ⟨by rw [hCN.out], hbF.out⟩
end Go.Proofs.YtjfcemlbbinanaaGreatDoor
/-
  The walks over values: whether a text is a value, a known one, one of a width.
-/
namespace Go.Proofs.YtjfcemlbbinanaaGreatDoor
open Go.RowKit Go.Proofs Wv Wv.Vi Wv.Bc
set_option linter.unusedVariables false
theorem bs_emp (v : List UInt8) : (bs v).toList.isEmpty = decide (v = []) := by
 have h : (bs v).toList.isEmpty = ((bs v).toList == (bs []).toList) := by
  have : (bs ([] : List UInt8)).toList = [] := by decide +kernel
  rw [this]
  cases (bs v).toList <;> rfl
 rw [h, Bool.eq_iff_iff, beq_iff_eq, decide_eq_true_iff, ByteArray.toList_eq, ByteArray.toList_eq]
 exact Iff.rfl
theorem isV_cn {v : List UInt8} (h0 : v ≠ []) (h1 : v.length ≤ 128) : isV v = decide ((cn 0 v : Int) + (cn 1 v : Int) + (cn 2 v : Int) + (cn 3 v : Int) = (v.length : Int)) := by
 rw [Bool.eq_iff_iff, isV_iff, decide_eq_true_iff]
 obtain ⟨_, s2, _, _⟩ := cn_sum v
 constructor
 ·rintro ⟨h, _, _⟩
  have := s2.2 h
  omega
 ·intro h
  exact ⟨s2.1 (by omega), h0, h1⟩
theorem knV_cn {v : List UInt8} (h : isV v = true) : knV v = decide ((cn 2 v : Int) + (cn 3 v : Int) = 0) := by
 obtain ⟨a, b, c⟩ := isV_iff.1 h
 rw [Bool.eq_iff_iff, knV_iff, decide_eq_true_iff]
 obtain ⟨_, _, _, s4⟩ := cn_sum v
 constructor
 ·rintro ⟨h, _, _⟩
  have := (s4 a).2 h
  omega
 ·intro h
  exact ⟨(s4 a).1 (by omega), b, c⟩
set_option maxRecDepth 10000 in
set_option maxHeartbeats 1000000 in
theorem is_any (v : List UInt8) (hv : v.length ≤ 1099511627776) (w : World) :
    Calls Tryz.prog 69 #[.string (bs v)] w fun x w' => x = .returned (.bool (isV v)) ∧ Below w.heap.size w w' := by
  have hem := bs_emp v
  have hsz : (bs v).size = v.length := bs_size v
  by_cases h0 : v = []
  · have hi : isV v = false := by cases h : isV v with
      | false => rfl
      | true => exact absurd h0 (isV_iff.1 h).2.1
    rw [decide_eq_true h0] at hem
    rw [hi]
    clear hsz hi h0
    generalize bs v = S at *
    go_enter Tryz.func69, Tryz.ntmps69
    go_wp2
    go_returns
    exact ⟨rfl, Below.refl _ _⟩
  · rw [decide_eq_false h0] at hem
    by_cases h1 : 128 < v.length
    · have hi : isV v = false := by cases h : isV v with
        | false => rfl
        | true => have := (isV_iff.1 h).2.2; omega
      rw [hi]
      have h2 : (128 : Int) < ((bs v).size : Int) := by omega
      clear hsz hi h0 h1
      generalize bs v = S at *
      go_enter Tryz.func69, Tryz.ntmps69
      go_wp2
      go_returns
      exact ⟨rfl, Below.refl _ _⟩
    · have hi := isV_cn h0 (by omega)
      have Hc := hide (count_any v hv w)
      have hcn : cnA v = #[.int .i64 (cn 0 v : Int), .int .i64 (cn 1 v : Int), .int .i64 (cn 2 v : Int), .int .i64 (cn 3 v : Int)] := rfl
      rw [hcn] at Hc
      have c0 := cn_le 0 v
      have c1 := cn_le 1 v
      have c2 := cn_le 2 v
      have c3 := cn_le 3 v
      have hSl : Hid ((bs v).size = v.length) := hide hsz
      have h2 : ¬ (128 : Int) < ((bs v).size : Int) := by omega
      have Hi := hide hi
      have h128 : v.length ≤ 128 := by omega
      obtain ⟨n, hn⟩ : ∃ n, v.length = n := ⟨_, rfl⟩
      rw [hn] at Hi hSl c0 c1 c2 c3 h128
      generalize cn 0 v = n0 at *
      generalize cn 1 v = n1 at *
      generalize cn 2 v = n2 at *
      generalize cn 3 v = n3 at *
      generalize bs v = S at *
      clear hcn hsz hi h0 h1 hn hv
      go_enter Tryz.func69, Tryz.ntmps69
      go_wp2_with fail
      refine (Hc.out).mono ?_
      rintro x w1 ⟨rfl, hb1⟩
      have Hb1 := hide (hb1.alloc hb1.size (.cells #[.int .i64 (n0 : Int), .int .i64 (n1 : Int), .int .i64 (n2 : Int), .int .i64 (n3 : Int)] 142))
      clear hb1 Hc
      go_wp2
      go_returns
      rw [hSl.out, Hi.out]
      exact ⟨by first | rfl | (congr 2; rw [Bool.eq_iff_iff]; simp), Hb1.out⟩
set_option maxRecDepth 10000 in
set_option maxHeartbeats 1000000 in
theorem kn_any (v : List UInt8) (hv : v.length ≤ 1099511627776) (w : World) :
  Calls Tryz.prog 74 #[.string (bs v)] w fun x w' => x = .returned (.bool (knV v)) ∧ Below w.heap.size w w' := by
 have Hc := hide (count_any v hv w)
 have hcn : cnA v = #[.int .i64 (cn 0 v : Int), .int .i64 (cn 1 v : Int), .int .i64 (cn 2 v : Int), .int .i64 (cn 3 v : Int)] := rfl
 rw [hcn] at Hc
 have Hi := hide (fun W => is_any v hv W)
 have c2 := cn_le 2 v
 have c3 := cn_le 3 v
 cases h : isV v with
 | false =>
  have hk : knV v = false := by cases hk : knV v with
   | false => rfl
   | true => rw [knV_isV hk] at h; cases h
  rw [h] at Hi
  rw [hk]
  generalize cn 0 v = n0 at *
  generalize cn 1 v = n1 at *
  generalize cn 2 v = n2 at *
  generalize cn 3 v = n3 at *
  generalize bs v = S at *
  clear hcn h hk
  go_enter Tryz.func74, Tryz.ntmps74
  go_wp2_with fail
  refine (Hc.out).mono ?_
  rintro x w1 ⟨rfl, hb1⟩
  have Hb1 := hide (hb1.alloc hb1.size (.cells #[.int .i64 (n0 : Int), .int .i64 (n1 : Int), .int .i64 (n2 : Int), .int .i64 (n3 : Int)] 142))
  clear hb1 Hc
  go_wp2_with fail
  refine (Hi.out _).mono ?_
  rintro x w2 ⟨rfl, hb2⟩
  have Hb2 := hide (Hb1.out.trans (hb2.mono Hb1.out.size))
  clear hb2
  go_wp2
  go_returns
  exact ⟨rfl, Hb2.out⟩
 | true =>
  have hk := knV_cn h
  have h128 := (isV_iff.1 h).2.2
  rw [h] at Hi
  rw [hk]
  have c2' : cn 2 v ≤ 128 := by omega
  have c3' : cn 3 v ≤ 128 := by omega
  generalize cn 0 v = n0 at *
  generalize cn 1 v = n1 at *
  generalize cn 2 v = n2 at *
  generalize cn 3 v = n3 at *
  generalize bs v = S at *
  clear hcn h hk c2 c3 h128
  go_enter Tryz.func74, Tryz.ntmps74
  go_wp2_with fail
  refine (Hc.out).mono ?_
  rintro x w1 ⟨rfl, hb1⟩
  have Hk1 := hide (Bk.new w1 142 #[.int .i64 (n0 : Int), .int .i64 (n1 : Int), .int .i64 (n2 : Int), .int .i64 (n3 : Int)])
  have Hb1 := hide (hb1.alloc hb1.size (.cells #[.int .i64 (n0 : Int), .int .i64 (n1 : Int), .int .i64 (n2 : Int), .int .i64 (n3 : Int)] 142))
  clear hb1 Hc
  go_wp2_with fail
  refine (Hi.out _).mono ?_
  rintro x w2 ⟨rfl, hb2⟩
  have hk2 := Bk.below Hk1.out hb2 (by simp)
  have k2 := hk2.cell 2
  have k3 := hk2.cell 3
  simp only [List.getElem?_toArray, List.getElem?_cons_zero, List.getElem?_cons_succ] at k2 k3
  have Hb2 := hide (Hb1.out.trans (hb2.mono Hb1.out.size))
  clear hb2 hk2 Hk1 Hb1
  go_wp2
  go_returns
  exact ⟨by first | rfl | (congr 2; rw [Bool.eq_iff_iff]; simp), Hb2.out⟩
end Go.Proofs.YtjfcemlbbinanaaGreatDoor
/-
  The walks over values: 0 and 1 exchanged.
-/
namespace Wv
open Go Go.RowKit
set_option linter.unusedVariables false
def ByR (w : World) (g : Nat) (e : TypeId) (R : List UInt8) : Prop := ∃ cs fz sp, w.heap[g]? = some (.cells cs e fz) ∧ cs.toList = R.map bv ++ sp ∧ R.length ≤ fz.1
theorem ByR.lt {w : World} {g : Nat} {e : TypeId} {R : List UInt8} (h : ByR w g e R) : g < w.heap.size := by
 obtain ⟨cs, fz, sp, h1, _, _⟩ := h
 exact (Array.getElem?_eq_some_iff.1 h1).1
theorem ByR.cell {w : World} {g : Nat} {e : TypeId} {R : List UInt8} (h : ByR w g e R) (i : Nat) (hi : i < R.length) : w.cell? ⟨g, i, none⟩ = some (bv R[i]) ∧ w.frozen? ⟨g, i, none⟩ = false := by
 obtain ⟨cs, fz, sp, h1, h2, h3⟩ := h
 constructor
 ·simp only [World.cell?, h1]
  rw [← Array.getElem?_toList, h2, List.getElem?_append_left (by rw [List.length_map]; exact hi), List.getElem?_map, List.getElem?_eq_getElem hi]
  rfl
 ·simp only [World.frozen?, h1]
  simp
  omega
theorem ByR.put {w : World} {g : Nat} {e : TypeId} {R : List UInt8} (h : ByR w g e R) (i : Nat) (hi : i < R.length) (x : UInt8) : ByR (w.setCell ⟨g, i, none⟩ (bv x)) g e (R.set i x) := by
 obtain ⟨cs, fz, sp, h1, h2, h3⟩ := h
 refine ⟨cs.setIfInBounds i (bv x), fz, sp, ?_, ?_, by rw [List.length_set]; exact h3⟩
 ·simp [World.setCell, Array.getElem?_modify, h1]
 ·rw [Array.toList_setIfInBounds, h2, List.set_append_left _ _ (by rw [List.length_map]; exact hi), List.map_set]
theorem ByR.below {w w' : World} {B g : Nat} {e : TypeId} {R : List UInt8} (h : ByR w g e R) (hb : Below B w w') (hg : g < B) : ByR w' g e R := by
 obtain ⟨cs, fz, sp, h1, h2, h3⟩ := h
 exact ⟨cs, fz, sp, (hb.block g hg).trans h1, h2, h3⟩
theorem ByR.new (w : World) (e : TypeId) (s : ByteArray) (cap : Nat) (z : Nat × Nat) (hz : s.size ≤ z.1) : ByR (w.alloc (.cells (bytesRow s cap) e z)) w.heap.size e s.data.toList := by
 refine ⟨bytesRow s cap, z, (Array.replicate (cap - s.size) (.int .u8 0)).toList, ?_, ?_, by rw [Array.length_toList]; exact hz⟩
 ·show (w.heap.push _)[w.heap.size]? = _
  simp
 ·unfold bytesRow
  rw [Array.toList_append, Array.toList_map]
  rfl
end Wv
namespace Go.Proofs.YtjfcemlbbinanaaGreatDoor
open Go.RowKit Go.Proofs Wv Wv.Vi Wv.Bc
set_option linter.unusedVariables false
end Go.Proofs.YtjfcemlbbinanaaGreatDoor
/-
  The walks over values: sums and differences.
-/
namespace Go.Proofs.YtjfcemlbbinanaaGreatDoor
open Go.RowKit Go.Proofs Wv Wv.Vi Wv.Bc
set_option linter.unusedVariables false
theorem bel_new1 (w : World) (o : Obj) : Below w.heap.size w (w.alloc o) := (Below.refl w.heap.size w).alloc (Nat.le_refl _) o
end Go.Proofs.YtjfcemlbbinanaaGreatDoor
namespace Go.Proofs.YtjfcemlbbinanaaGreatDoor
open Go.RowKit Go.Proofs Wv Wv.Vi Wv.Bc
set_option linter.unusedVariables false
end Go.Proofs.YtjfcemlbbinanaaGreatDoor
/-
  The walks over values: one character repeated, extended digits.
-/
namespace Go.Proofs.YtjfcemlbbinanaaGreatDoor
open Go.RowKit Go.Proofs Wv Wv.Vi Wv.Bc
set_option linter.unusedVariables false
theorem rep_one (c : UInt8) : ∀ n, Lib.repeatL [c] n = List.replicate n c
 | 0 => rfl
 | n + 1 => by rw [Lib.repeatL, rep_one c n, List.replicate_succ]; rfl
theorem rep_any (c : UInt8) (n : Nat) (hn : n ≤ 1099511627776) (W : World) :
  Calls Tryz.prog 110 #[.string ⟨#[c]⟩, .int .i64 (n : Int)] W fun e w' => e = .returned (.string (bs (List.replicate n c))) ∧ Below W.heap.size W w' := by
 have h := Tryz.strings_Repeat ⟨#[c]⟩ n W (by omega) (by rw [show (⟨#[c]⟩ : ByteArray).size = 1 from rfl]; omega)
 refine h.mono ?_
 rintro x w1 ⟨rfl, h2⟩
 refine ⟨?_, h2⟩
 rw [← rep_one]
 rfl
set_option maxRecDepth 10000 in
set_option maxHeartbeats 2000000 in
theorem all_any (n : Int) (c : UInt8) (w : World) :
  Calls Tryz.prog 79 #[.int .i64 n, .int .u8 (c.toNat : Int)] w fun x w' => x = .returned (.string (bs (allV n c))) ∧ Below w.heap.size w w' := by
 have Hv := hide (fun W => valid1_any c W)
 have he : bs ([] : List UInt8) = ⟨#[]⟩ := rfl
 unfold allV
 by_cases h1 : n < 1
 ·rw [if_pos (.inl h1), he]
  clear he Hv
  go_enter Tryz.func79, Tryz.ntmps79
  go_wp2
  go_returns
  exact ⟨rfl, Below.refl _ _⟩
 ·by_cases h2 : 128 < n
  ·rw [if_pos (.inr (.inl h2)), he]
   clear he Hv
   go_enter Tryz.func79, Tryz.ntmps79
   go_wp2
   go_returns
   exact ⟨rfl, Below.refl _ _⟩
  ·cases h3 : isC c with
   | false =>
    rw [if_pos (.inr (.inr rfl)), he]
    rw [h3] at Hv
    clear he h3
    generalize (c.toNat : Int) = C at *
    go_enter Tryz.func79, Tryz.ntmps79
    go_wp2_with fail
    refine (Hv.out _).mono ?_
    rintro x w1 ⟨rfl, rfl⟩
    go_wp2
    go_returns
    exact ⟨rfl, Below.refl _ _⟩
   | true =>
    rw [if_neg (by simp [h1, h2])]
    rw [h3] at Hv
    have hcv := conv_one (P := Tryz.prog) 74 9 5 Tryz.underlying74 Tryz.underlying5 Tryz.underlying9 w (c.toNat : Int)
    have e1 : UInt8.ofNat (c.toNat : Int).toNat = c := by simp
    rw [e1] at hcv
    obtain ⟨m, rfl⟩ : ∃ m : Nat, n = m := ⟨n.toNat, by omega⟩
    rw [Int.toNat_natCast]
    have Hr := hide (fun W => rep_any c m (by omega) W)
    have hb0 := bel_new1 w (.cells #[.int .u8 (c.toNat : Int)] 5)
    have Hb0 := hide hb0
    clear he h3 e1 hb0
    generalize (c.toNat : Int) = C at *
    generalize bs (List.replicate m c) = SR at *
    go_enter Tryz.func79, Tryz.ntmps79
    go_wp2_with fail
    refine (Hv.out _).mono ?_
    rintro x w1 ⟨rfl, rfl⟩
    go_wp2_with fail
    refine (Hr.out _).mono ?_
    rintro x w1 ⟨rfl, hb⟩
    have hbb := Hb0.out.trans (hb.mono Hb0.out.size)
    clear hb Hb0 Hv Hr hcv
    go_wp2
    go_returns
    exact ⟨rfl, hbb⟩
end Go.Proofs.YtjfcemlbbinanaaGreatDoor
/-
  Sums of bytes and frames in plain Lean, and that a frame comes back. No program stands here.
-/
namespace Wv.Fm
open Wv.Vi Wv.Ru Wv.Lz
def csh (r : Nat) : Nat := (r / 2) ^^^ (if r % 2 = 1 then 3988292384 else 0)
def cshN : Nat → Nat → Nat
 | 0, r => r
 | k + 1, r => csh (cshN k r)
def crg (r : Nat) : List UInt8 → Nat
 | [] => r
 | b :: l => crg (cshN 8 (r ^^^ b.toNat)) l
def crcN (l : List UInt8) : Nat := 4294967295 - crg 4294967295 l
theorem csh_lt {r : Nat} (h : r < 2 ^ 32) : csh r < 2 ^ 32 := by
 unfold csh
 refine Nat.xor_lt_two_pow (by omega) ?_
 split
 ·decide
 ·decide
theorem cshN_lt {r : Nat} (h : r < 2 ^ 32) (k : Nat) : cshN k r < 2 ^ 32 := by
 induction k with
 | zero => exact h
 | succ k ih => exact csh_lt ih
theorem crg_snoc (l : List UInt8) (b : UInt8) : ∀ r, crg r (l ++ [b]) = cshN 8 (crg r l ^^^ b.toNat) := by
 induction l with
 | nil => intro r; rfl
 | cons a l ih => intro r; exact ih _
theorem crcN_lt (l : List UInt8) : crcN l < 4294967296 := by unfold crcN; omega
def le4 (n : Nat) : List UInt8 := [UInt8.ofNat n, UInt8.ofNat (n / 256), UInt8.ofNat (n / 65536), UInt8.ofNat (n / 16777216)]
def sealB (s : List UInt8) : List UInt8 := s ++ le4 (crcN s)
def last4 (s : List UInt8) : Nat := (s.getD (s.length - 4) 0).toNat + 256 * (s.getD (s.length - 3) 0).toNat + 65536 * (s.getD (s.length - 2) 0).toNat + 16777216 * (s.getD (s.length - 1) 0).toNat
def openB (s : List UInt8) : Bool := decide (4 ≤ s.length) && decide (crcN (s.take (s.length - 4)) = last4 s)
theorem le4_val {n : Nat} (h : n < 4294967296) : (UInt8.ofNat n).toNat + 256 * (UInt8.ofNat (n / 256)).toNat + 65536 * (UInt8.ofNat (n / 65536)).toNat + 16777216 * (UInt8.ofNat (n / 16777216)).toNat = n := by
 simp only [UInt8.toNat_ofNat']
 omega
theorem openB_sealB (s : List UInt8) : openB (sealB s) = true := by
 have hl : (sealB s).length = s.length + 4 := by simp [sealB, le4]
 unfold openB
 rw [Bool.and_eq_true, decide_eq_true_iff, decide_eq_true_iff, hl]
 refine ⟨by omega, ?_⟩
 have h1 : (sealB s).take (s.length + 4 - 4) = s := by
  rw [show s.length + 4 - 4 = s.length by omega]
  exact List.take_left
 rw [h1]
 unfold last4
 rw [hl]
 have g : ∀ i, i < 4 → (sealB s).getD (s.length + i) 0 = (le4 (crcN s)).getD i 0 := fun i hi => by
  unfold sealB
  simp only [List.getD]
  rw [List.getElem?_append_right (by omega), Nat.add_sub_cancel_left]
 rw [show s.length + 4 - 4 = s.length + 0 by omega, show s.length + 4 - 3 = s.length + 1 by omega, show s.length + 4 - 2 = s.length + 2 by omega, show s.length + 4 - 1 = s.length + 3 by omega, g 0 (by omega), g 1 (by omega), g 2 (by omega), g 3 (by omega)]
 exact (le4_val (crcN_lt s)).symm
theorem sealB_len (s : List UInt8) : (sealB s).length = s.length + 4 := by simp [sealB, le4]
def bodyK (k : Nat) (c t : List UInt8) : Nat := if t.length < c.length then k + 16 else k
def bodyT (c t : List UInt8) : List UInt8 := if t.length < c.length then t else c
def wrapT (k : Nat) (c t : List UInt8) : List UInt8 := sealB (165 :: UInt8.ofNat (bodyK k c t) :: (num (bodyT c t).length ++ bodyT c t))
def wrapS (k : Nat) (c : List UInt8) : Option (List UInt8) := (lzE c).map (wrapT k c)
def conT (b : Nat) (body : List UInt8) : Option (List UInt8) := if 16 ≤ b then (if (lzD body 4096).2 = 0 then some (lzD body 4096).1 else none) else some body
def fparse (data : List UInt8) : Option (Nat × List UInt8 × Nat) := match data with
 | a :: b :: r => if a ≠ 165 ∨ 32 ≤ b.toNat then none else match rtext r 4096 with
  | none => none
  | some (body, r2) => if r2.length < 4 then none else if openB (data.take (data.length - (r2.length - 4))) = false then none else
   match conT b.toNat body with
   | none => none
   | some c => if wrapS (b.toNat % 16) c = some (data.take (data.length - (r2.length - 4))) then some (b.toNat % 16, c, data.length - (r2.length - 4)) else none
 | _ => none
theorem wrapT_len (k : Nat) (c t : List UInt8) : (wrapT k c t).length = (num (bodyT c t).length).length + (bodyT c t).length + 6 := by
 unfold wrapT
 rw [sealB_len]
 simp only [List.length_cons, List.length_append]
theorem fparse_wrap {k : Nat} (hk : k < 16) {c w : List UInt8} (h : wrapS k c = some w) (rest : List UInt8) : fparse (w ++ rest) = some (k, c, w.length) := by
 have h0 := h
 unfold wrapS at h
 cases ht : lzE c with
 | none => rw [ht] at h; cases h
 | some t =>
  rw [ht] at h
  injection h with h
  have hc := lzE_some ht
  have hb : (bodyT c t).length ≤ 4096 := by unfold bodyT; split <;> omega
  have hw : w = 165 :: UInt8.ofNat (bodyK k c t) :: (num (bodyT c t).length ++ bodyT c t ++ le4 (crcN (165 :: UInt8.ofNat (bodyK k c t) :: (num (bodyT c t).length ++ bodyT c t)))) := by
   rw [← h]
   unfold wrapT sealB
   simp
  obtain ⟨q, hq⟩ : ∃ q, le4 (crcN (165 :: UInt8.ofNat (bodyK k c t) :: (num (bodyT c t).length ++ bodyT c t))) = q := ⟨_, rfl⟩
  have hq4 : q.length = 4 := by rw [← hq]; rfl
  rw [hq] at hw
  have hkb : (UInt8.ofNat (bodyK k c t)).toNat = bodyK k c t := by
   rw [UInt8.toNat_ofNat']
   unfold bodyK
   split <;> omega
  have hd : w ++ rest = 165 :: UInt8.ofNat (bodyK k c t) :: (num (bodyT c t).length ++ (bodyT c t ++ (q ++ rest))) := by rw [hw]; simp
  have hwl : w.length = 2 + (num (bodyT c t).length).length + (bodyT c t).length + 4 := by rw [hw]; simp [hq4]; omega
  have hop : openB w = true := by rw [← h]; exact openB_sealB _
  have hcon : conT (bodyK k c t) (bodyT c t) = some c := by
   unfold conT bodyK bodyT
   by_cases hl : t.length < c.length
   ·rw [if_pos hl, if_pos hl, if_pos (by omega), lzD_E ht 4096 (by omega), if_pos rfl]
   ·rw [if_neg hl, if_neg hl, if_neg (by omega)]
  have hmod : bodyK k c t % 16 = k := by unfold bodyK; split <;> omega
  have hsize : (w ++ rest).length - ((q ++ rest).length - 4) = w.length := by rw [List.length_append, List.length_append, hq4]; omega
  rw [hd]
  unfold fparse
  simp only
  rw [if_neg (by rw [hkb]; unfold bodyK; rintro (h1 | h1); exact h1 rfl; split at h1 <;> omega), rtext_text _ _ hb (by omega)]
  simp only
  rw [← hd, hsize, List.take_left, if_neg (by rw [List.length_append, hq4]; omega), if_neg (by simp [hop]), hkb, hcon]
  simp only
  rw [hmod, if_pos h0]
theorem fparse_ok {data c : List UInt8} {k n : Nat} (h : fparse data = some (k, c, n)) : wrapS k c = some (data.take n) ∧ k < 16 ∧ n ≤ data.length := by
 unfold fparse at h
 split at h
 ·split at h
  ·cases h
  ·split at h
   ·cases h
   ·split at h
    ·cases h
    ·split at h
     ·cases h
     ·split at h
      ·cases h
      ·split at h
       ·rename_i he
        injection h with h
        injection h with h1 h
        injection h with h2 h3
        rw [h2, h3, h1] at he
        exact ⟨he, by omega, by omega⟩
       ·cases h
 ·cases h
theorem wrapS_some {k : Nat} {c : List UInt8} : (wrapS k c).isSome = decide (c.length ≤ 4096) := by
 unfold wrapS lzE
 split
 ·rename_i h
  rw [decide_eq_false (by omega)]
  rfl
 ·rename_i h
  rw [decide_eq_true (by omega)]
  rfl
end Wv.Fm
/-
  Numbers and texts at the front of bytes are the only ones with these bytes; in plain Lean. No program stands here.
-/
namespace Wv.Vi
theorem vl_split (l : List UInt8) : ∀ a, vl a l = a * 256 ^ l.length + vl 0 l := by
 induction l with
 | nil => intro a; simp [vl]
 | cons b r ih =>
  intro a
  have e : ∀ x, vl x (b :: r) = vl (256 * x + b.toNat) r := fun x => rfl
  rw [e, e, ih (256 * a + b.toNat), ih (256 * 0 + b.toNat), List.length_cons, Nat.pow_succ, Nat.add_mul, Nat.mul_zero, Nat.zero_add]
  have : 256 * a * 256 ^ r.length = a * (256 ^ r.length * 256) := by ac_rfl
  omega
theorem vl0_lt (l : List UInt8) : vl 0 l < 256 ^ l.length := by
 induction l with
 | nil => simp [vl]
 | cons b r ih =>
  have e : vl 0 (b :: r) = vl (256 * 0 + b.toNat) r := rfl
  rw [e, vl_split, List.length_cons, Nat.pow_succ, Nat.mul_zero, Nat.zero_add]
  have hb := b.toNat_lt
  have : b.toNat * 256 ^ r.length ≤ 255 * 256 ^ r.length := Nat.mul_le_mul_right _ (by omega)
  omega
theorem be_vl (l : List UInt8) : ∀ a, be l.length (vl a l) = l := by
 induction l with
 | nil => intro a; rfl
 | cons b r ih =>
  intro a
  have e : vl a (b :: r) = vl (256 * a + b.toNat) r := rfl
  rw [e, List.length_cons]
  show UInt8.ofNat (vl (256 * a + b.toNat) r / 256 ^ r.length) :: be r.length (vl (256 * a + b.toNat) r) = _
  rw [ih]
  congr 1
  rw [vl_split, Nat.mul_comm, Nat.mul_add_div (Nat.pow_pos (by omega)), Nat.div_eq_of_lt (vl0_lt r)]
  apply UInt8.toNat_inj.1
  have hb := b.toNat_lt
  rw [UInt8.toNat_ofNat']
  omega
theorem lead_top (c : Nat) (hc : c < 256) : 256 - 2 ^ (8 - lead c) ≤ c ∧ c - (256 - 2 ^ (8 - lead c)) < 2 ^ (7 - lead c) ∧ (lead c = 8 → c = 255) := by
 have h := lead_spec c
 rcases h with ⟨h, h1, h2⟩ | ⟨h, h1, h2⟩ | ⟨h, h1, h2⟩ | ⟨h, h1, h2⟩ | ⟨h, h1, h2⟩ | ⟨h, h1, h2⟩ | ⟨h, h1, h2⟩ | ⟨h, h1, h2⟩ | ⟨h, h1⟩ <;> rw [h] <;> simp only [Nat.reducePow, Nat.reduceSub] <;> omega
theorem kof_eq {n k : Nat} (hk : k ≤ 8) (h1 : bnd k ≤ n) (h2 : k < 8 → n < bnd (k + 1)) : kof n = k := by
 have h := kof_spec n
 have hb := bnd_vals
 rcases nine k hk with rfl | rfl | rfl | rfl | rfl | rfl | rfl | rfl | rfl <;> simp only [Nat.reduceAdd, Nat.reduceLT, forall_const] at h2 <;> omega
theorem rd_canon {s : List UInt8} {n z : Nat} (h : rd s = some (n, z)) : s = num n ++ s.drop z := by
 cases s with
 | nil => cases h
 | cons c t =>
  rw [rd_cons] at h
  split at h
  ·cases h
  ·rename_i hl
   split at h
   ·cases h
   ·injection h with h
    injection h with h1 h2
    have hc := c.toNat_lt
    obtain ⟨a1, a2, a3⟩ := lead_top c.toNat (by omega)
    have hk := lead_le c.toNat
    obtain ⟨k, hkk⟩ : ∃ k, lead c.toNat = k := ⟨_, rfl⟩
    rw [hkk] at hl h1 h2 a1 a2 a3 hk
    obtain ⟨l, hll⟩ : ∃ l, t.take k = l := ⟨_, rfl⟩
    have hlen : l.length = k := by rw [← hll, List.length_take]; omega
    rw [hll] at h1
    obtain ⟨a, ha⟩ : ∃ a, c.toNat - (256 - 2 ^ (8 - k)) = a := ⟨_, rfl⟩
    rw [ha] at h1 a2
    have hv := vl_split l a
    have hlt := vl0_lt l
    rw [hlen] at hv hlt
    have hkof : kof n = k := by
     refine kof_eq hk (by omega) (fun h8 => ?_)
     have e : bnd (k + 1) = bnd k + 2 ^ (7 * (k + 1)) := rfl
     rw [e]
     have hp : 2 ^ (7 * (k + 1)) = 2 ^ (7 - k) * 256 ^ k := by
      rw [show (256 : Nat) = 2 ^ 8 from rfl, ← Nat.pow_mul, ← Nat.pow_add]
      congr 1
      omega
     have hm : (a + 1) * 256 ^ k ≤ 2 ^ (7 - k) * 256 ^ k := Nat.mul_le_mul_right _ a2
     rw [Nat.add_mul] at hm
     omega
    have hnb : n - bnd k = vl a l := by omega
    have hdiv : vl a l / 256 ^ k = a := by
     rw [hv, Nat.mul_comm, Nat.mul_add_div (Nat.pow_pos (by omega)), Nat.div_eq_of_lt hlt]
     omega
    unfold num
    rw [hkof, hnb, hdiv, ← hlen, be_vl, hlen]
    have hcc : UInt8.ofNat (256 - 2 ^ (8 - k) + a) = c := by
     rw [show 256 - 2 ^ (8 - k) + a = c.toNat by omega]
     exact UInt8.ofNat_toNat
    rw [hcc, ← h2, List.cons_append, List.drop_succ_cons, ← hll, List.take_append_drop]
end Wv.Vi
namespace Wv.Ru
open Wv.Vi
theorem rnum_canon {s r : List UInt8} {n most : Nat} (h : rnum s most = some (n, r)) : s = num n ++ r ∧ n ≤ most := by
 unfold rnum at h
 split at h
 ·cases h
 ·rename_i hr
  split at h
  ·cases h
  ·injection h with h
   injection h with h1 h2
   subst h1
   rw [← h2]
   exact ⟨rd_canon hr, by omega⟩
theorem rtext_canon {s a r : List UInt8} {most : Nat} (h : rtext s most = some (a, r)) : s = num a.length ++ (a ++ r) ∧ a.length ≤ most := by
 unfold rtext at h
 split at h
 ·cases h
 ·rename_i n t hr
  split at h
  ·cases h
  ·rename_i hl
   injection h with h
   injection h with h1 h2
   obtain ⟨c1, c2⟩ := rnum_canon hr
   have hlen : a.length = n := by rw [← h1, List.length_take, Nat.min_eq_left (by omega)]
   rw [hlen, ← h1, ← h2, List.take_append_drop]
   exact ⟨c1, c2⟩
end Wv.Ru
/-
  Bit strings in plain Lean, fourth part: where the bits in bytes end; the bytes of a bit string read again.
-/
namespace Wv.Bit
open Go.Lib (trailingZeros8)
theorem rbit_pack (l : List Bool) (i : Nat) (h : i < 8 * (pack l).length) : rbit ⟨(pack l).toArray⟩ i = l.getD i false := by
 have h1 : (pack l).toArray.toList.getD (i / 8) 0 = UInt8.ofNat (byteAt l (i / 8)) := by
  simp only [List.getD, List.getElem?_eq_getElem (show i / 8 < (pack l).length by omega), pack_getElem]
  rfl
 have h2 : (UInt8.ofNat (byteAt l (i / 8))).toNat = byteAt l (i / 8) := by
  have := byteAt_lt l (i / 8)
  simp [Nat.mod_eq_of_lt this]
 unfold rbit
 show ((pack l).toArray.toList.getD (i / 8) 0).toNat.testBit _ = _
 rw [h1, h2]
 have h3 : byteAt l (i / 8) / 2 ^ (7 - i % 8) % 2 = bt l i := by
  have e : ∀ k, bt l k ≤ 1 := bt_le l
  rw [byteAt_sum]
  have hm : i % 8 < 8 := Nat.mod_lt _ (by omega)
  have hi : i = 8 * (i / 8) + i % 8 := (Nat.div_add_mod i 8).symm
  generalize i / 8 = q at *
  generalize i % 8 = m at *
  subst hi
  have e0 := e (8 * q); have e1 := e (8 * q + 1); have e2 := e (8 * q + 2); have e3 := e (8 * q + 3)
  have e4 := e (8 * q + 4); have e5 := e (8 * q + 5); have e6 := e (8 * q + 6); have e7 := e (8 * q + 7)
  have : m = 0 ∨ m = 1 ∨ m = 2 ∨ m = 3 ∨ m = 4 ∨ m = 5 ∨ m = 6 ∨ m = 7 := by omega
  rcases this with rfl | rfl | rfl | rfl | rfl | rfl | rfl | rfl <;> simp <;> omega
 rw [Nat.testBit_eq_decide_div_mod_eq, h3, bt]
 cases l.getD i false <;> simp
end Wv.Bit
/-
  The values of a snapshot in plain Lean: planes of values as bytes, the parts of values, the bytes of a snapshot, and that they come back. No program stands here.
-/
namespace Wv.Sn
open Wv.Vi Wv.Ru Wv.Bc Wv.Fm Wv.Lz
theorem byteB (x y : UInt8) (h : ∀ i, i < 8 → x.toNat.testBit i = y.toNat.testBit i) : x = y := by
 apply UInt8.toNat_inj.1
 apply Nat.eq_of_testBit_eq
 intro i
 rcases Nat.lt_or_ge i 8 with h1 | h1
 ·exact h i h1
 ·have h2 := UInt8.toNat_lt x
  have h3 := UInt8.toNat_lt y
  have h4 : 256 ≤ 2 ^ i := Nat.le_trans (by decide) (Nat.pow_le_pow_right (show 0 < 2 by omega) h1)
  rw [Nat.testBit_lt_two_pow (by omega), Nat.testBit_lt_two_pow (by omega)]
theorem bytesB (s t : ByteArray) (hs : s.size = t.size) (h : ∀ i, i < 8 * s.size → Bit.rbit s i = Bit.rbit t i) : s = t := by
 apply ByteArray.ext
 apply Array.ext hs
 intro j h1 h2
 apply byteB
 intro i hi
 have := h (8 * j + (7 - i)) (by have : j < s.size := h1; omega)
 unfold Bit.rbit at this
 rw [show (8 * j + (7 - i)) / 8 = j from by omega, show 7 - (8 * j + (7 - i)) % 8 = i from by omega] at this
 have e1 : s.data[j]? = some s.data[j] := Array.getElem?_eq_getElem h1
 have e2 : t.data[j]? = some t.data[j] := Array.getElem?_eq_getElem h2
 simpa [List.getD, e1, e2] using this
def lowB (v : List UInt8) : List Bool := v.map (fun c => decide (cd c % 2 = 1))
def higB (v : List UInt8) : List Bool := v.map (fun c => decide (2 ≤ cd c))
def valB (a b : List Bool) : List UInt8 := List.zipWith (fun x y => ch (x.toNat + 2 * y.toNat)) a b
def zeroB (d : List UInt8) (n : Nat) : Bool := (List.range (8 * d.length)).all (fun i => decide (i < n) || !Bit.rbit (bs d) i)
theorem zeroB_iff {d : List UInt8} {n : Nat} : zeroB d n = true ↔ ∀ i, n ≤ i → i < 8 * d.length → Bit.rbit (bs d) i = false := by
 unfold zeroB
 rw [List.all_eq_true]
 constructor
 ·intro h i h1 h2
  have := h i (List.mem_range.2 h2)
  rw [decide_eq_false (by omega), Bool.false_or] at this
  simpa using this
 ·intro h i hi
  have h2 := List.mem_range.1 hi
  rcases Nat.lt_or_ge i n with h1 | h1
  ·simp [h1]
  ·rw [h i h1 h2]; simp
def unp (d : List UInt8) (n : Nat) : Option (List Bool) := if n ≤ 8 * d.length ∧ zeroB d n = true then some (Bit.rbits (bs d) n) else none
theorem rbit_bs_pack (l : List Bool) (i : Nat) (h : i < 8 * (Bit.pack l).length) : Bit.rbit (bs (Bit.pack l)) i = l.getD i false := Bit.rbit_pack l i h
theorem unp_pack (l : List Bool) : unp (Bit.pack l) l.length = some l := by
 have hl := Bit.pack_length l
 unfold unp
 rw [if_pos ⟨by omega, zeroB_iff.2 (fun i h1 h2 => by
  rw [rbit_bs_pack l i h2]
  simp [List.getD, List.getElem?_eq_none h1])⟩]
 congr 1
 apply List.ext_getElem
 ·rw [Bit.rbits_length]
 ·intro i h1 h2
  have e : (Bit.rbits (bs (Bit.pack l)) l.length)[i] = Bit.rbit (bs (Bit.pack l)) i := by simp [Bit.rbits]
  rw [e, rbit_bs_pack l i (by omega)]
  simp [List.getD, h2]
theorem pack_unp {d : List UInt8} {n : Nat} (hd : d.length = (n + 7) / 8) {l : List Bool} (h : unp d n = some l) : Bit.pack l = d ∧ l.length = n := by
 unfold unp at h
 split at h
 ·rename_i hc
  obtain ⟨c1, c3⟩ := hc
  have c2 := zeroB_iff.1 c3
  injection h with h
  have hln : l.length = n := by rw [← h, Bit.rbits_length]
  refine ⟨?_, hln⟩
  have hp := Bit.pack_length l
  have : bs (Bit.pack l) = bs d := by
   apply bytesB
   ·rw [bs_size, bs_size]; omega
   ·intro i hi
    rw [bs_size] at hi
    rw [rbit_bs_pack l i hi]
    rcases Nat.lt_or_ge i n with h1 | h1
    ·rw [← h, Bit.rbits_get _ _ _ h1]
    ·rw [c2 i h1 (by omega)]
     simp [List.getD, List.getElem?_eq_none (show l.length ≤ i by omega)]
  exact congrArg toL this
 ·cases h
theorem valB_planes {v : List UInt8} (h : ∀ c ∈ v, cd c < 4) : valB (lowB v) (higB v) = v := by
 unfold valB lowB higB
 induction v with
 | nil => rfl
 | cons c r ih =>
  rw [List.map_cons, List.map_cons, List.zipWith_cons_cons, ih (fun x hx => h x (List.mem_cons_of_mem _ hx))]
  congr 1
  have hc := h c List.mem_cons_self
  have : (decide (cd c % 2 = 1)).toNat + 2 * (decide (2 ≤ cd c)).toNat = cd c := by
   rcases (show cd c = 0 ∨ cd c = 1 ∨ cd c = 2 ∨ cd c = 3 by omega) with e | e | e | e <;> rw [e] <;> rfl
  rw [this]
  exact ch_cd c hc
theorem bool_code : ∀ x y : Bool, x.toNat + 2 * y.toNat < 4 ∧ decide ((x.toNat + 2 * y.toNat) % 2 = 1) = x ∧ decide (2 ≤ x.toNat + 2 * y.toNat) = y := by decide
theorem planes_valB : ∀ {a b : List Bool}, a.length = b.length → lowB (valB a b) = a ∧ higB (valB a b) = b
 | [], [], _ => ⟨rfl, rfl⟩
 | [], _ :: _, h => by simp at h
 | _ :: _, [], h => by simp at h
 | x :: a, y :: b, h => by
  obtain ⟨i1, i2⟩ := planes_valB (a := a) (b := b) (by simpa using h)
  obtain ⟨k1, k2, k3⟩ := bool_code x y
  have e : valB (x :: a) (y :: b) = ch (x.toNat + 2 * y.toNat) :: valB a b := rfl
  rw [e]
  unfold lowB higB at *
  rw [List.map_cons, List.map_cons, i1, i2, cd_ch _ k1, k2, k3]
  exact ⟨rfl, rfl⟩
/-! ## Kinds, parts of values -/
def tyB (s : Int × Int) : Bool := (decide (s.1 = 0) && decide (1 ≤ s.2) && decide (s.2 ≤ 128)) || ((decide (s.1 = 1) || decide (s.1 = 2) || decide (s.1 = 3)) && decide (s.2 = 0))
section
variable (dv : List UInt8 → Bool)
def kvB (k w : Int) (v : List UInt8) : Bool := if k = 0 then vld w v else if k = 1 then dv v else if k = 2 then decide (v.length ≤ 64) else decide (v = [])
def vaB (s : Int × Int) (v : List UInt8) : Bool := tyB s && kvB dv s.1 s.2 v
def vasL : List (Int × Int) → List ByteArray → Bool
 | [], [] => true
 | s :: st, v :: vs => vaB dv s (toL v) && vasL st vs
 | _, _ => false
def tysB (st : List (Int × Int)) : Bool := st.all tyB && decide (st.length ≤ 64)
def vasB (st : List (Int × Int)) (vs : List ByteArray) : Bool := tysB st && vasL dv st vs
end
def wrV (s : Int × Int) (v : List UInt8) : List UInt8 := if s.1 = 0 then Bit.pack (lowB v) ++ Bit.pack (higB v) else if s.1 = 3 then [] else num v.length ++ v
def wid (s : Int × Int) : Nat := (s.2.toNat + 7) / 8
def bitV (s : Int × Int) (r : List UInt8) : List UInt8 := match unp (r.take (wid s)) s.2.toNat, unp ((r.drop (wid s)).take (wid s)) s.2.toNat with
 | some a, some b => valB a b
 | _, _ => []
def rdV (s : Int × Int) (r : List UInt8) : Option (List UInt8 × List UInt8) :=
 if s.1 = 0 then (if r.length < 2 * wid s then none else some (bitV s r, r.drop (2 * wid s)))
 else if s.1 = 3 then some ([], r) else rtext r 4096
def rdVs : List (Int × Int) → List UInt8 → Option (List ByteArray × List UInt8)
 | [], r => some ([], r)
 | s :: st, r => match rdV s r with
  | none => none
  | some (v, r') => match rdVs st r' with
   | none => none
   | some (vs, r'') => some (bs v :: vs, r'')
def textS : List (Int × Int) → List ByteArray → List UInt8
 | s :: st, v :: vs => wrV s (toL v) ++ textS st vs
 | _, _ => []
theorem tyB_bits {s : Int × Int} (h : tyB s = true) (h0 : s.1 = 0) : 1 ≤ s.2 ∧ s.2 ≤ 128 := by
 unfold tyB at h
 rw [h0] at h
 simpa using h
theorem tyB_kind {s : Int × Int} (h : tyB s = true) : s.1 = 0 ∨ ((s.1 = 1 ∨ s.1 = 2 ∨ s.1 = 3) ∧ s.2 = 0) := by
 unfold tyB at h
 simp only [Bool.or_eq_true, Bool.and_eq_true, decide_eq_true_iff] at h
 omega
theorem drop_app {a r : List UInt8} {n : Nat} (h : a.length = n) : (a ++ r).take n = a ∧ (a ++ r).drop n = r := by
 subst h
 exact ⟨List.take_left, List.drop_left⟩
section
variable {dv : List UInt8 → Bool}
theorem rdV_wr {s : Int × Int} {v : List UInt8} (h : vaB dv s v = true) (hl : (wrV s v).length ≤ 4096) (r : List UInt8) : rdV s (wrV s v ++ r) = some (v, r) := by
 unfold vaB at h
 rw [Bool.and_eq_true] at h
 obtain ⟨ht, hk⟩ := h
 rcases tyB_kind ht with h0 | ⟨h1, h2⟩
 ·obtain ⟨w1, w2⟩ := tyB_bits ht h0
  unfold kvB at hk
  rw [if_pos h0] at hk
  obtain ⟨v1, v2⟩ := vld_iff.1 hk
  have hc := (isV_iff.1 v1).1
  have hw : v.length = s.2.toNat := by omega
  have l1 : (lowB v).length = s.2.toNat := by unfold lowB; rw [List.length_map, hw]
  have l2 : (higB v).length = s.2.toNat := by unfold higB; rw [List.length_map, hw]
  have p1 : (Bit.pack (lowB v)).length = wid s := by rw [Bit.pack_length, l1]; rfl
  have p2 : (Bit.pack (higB v)).length = wid s := by rw [Bit.pack_length, l2]; rfl
  have e : wrV s v = Bit.pack (lowB v) ++ Bit.pack (higB v) := by unfold wrV; rw [if_pos h0]
  unfold rdV
  rw [if_pos h0, e, if_neg (by simp only [List.length_append]; omega)]
  congr 2
  ·unfold bitV
   rw [List.append_assoc, (drop_app p1).1, (drop_app p1).2, (drop_app p2).1]
   have u1 := unp_pack (lowB v)
   have u2 := unp_pack (higB v)
   rw [l1] at u1
   rw [l2] at u2
   rw [u1, u2]
   exact valB_planes hc
  ·exact (drop_app (a := Bit.pack (lowB v) ++ Bit.pack (higB v)) (by rw [List.length_append]; omega)).2
 ·have h0 : ¬ s.1 = 0 := by omega
  unfold rdV wrV at *
  rw [if_neg h0] at hl ⊢
  rw [if_neg h0]
  by_cases h3 : s.1 = 3
  ·rw [if_pos h3, if_pos h3]
   unfold kvB at hk
   rw [if_neg h0, if_neg (by omega), if_neg (by omega), decide_eq_true_iff] at hk
   rw [hk]
   rfl
  ·rw [if_neg h3] at hl ⊢
   rw [if_neg h3, List.append_assoc]
   rw [List.length_append] at hl
   exact rtext_text v 4096 (by omega) (by omega) r
theorem vld_nil (w : Int) : vld w [] = false := by
 cases h : vld w [] with
 | false => rfl
 | true => exact absurd rfl (isV_iff.1 (vld_iff.1 h).1).2.1
theorem rdV_canon {s : Int × Int} {v r r' : List UInt8} (h : rdV s r = some (v, r')) (hv : vaB dv s v = true) : r = wrV s v ++ r' := by
 unfold vaB at hv
 rw [Bool.and_eq_true] at hv
 obtain ⟨ht, hk⟩ := hv
 unfold rdV at h
 rcases tyB_kind ht with h0 | ⟨h1, h2⟩
 ·obtain ⟨w1, w2⟩ := tyB_bits ht h0
  unfold kvB at hk
  rw [if_pos h0] at hk
  rw [if_pos h0] at h
  split at h
  ·cases h
  ·rename_i hl
   injection h with h
   injection h with hb hr
   have l1 : (r.take (wid s)).length = wid s := by rw [List.length_take]; omega
   have l2 : ((r.drop (wid s)).take (wid s)).length = wid s := by rw [List.length_take, List.length_drop]; omega
   unfold bitV at hb
   split at hb
   ·rename_i a b ha hb2
    obtain ⟨a1, a2⟩ := pack_unp l1 ha
    obtain ⟨b1, b2⟩ := pack_unp l2 hb2
    obtain ⟨q1, q2⟩ := planes_valB (a := a) (b := b) (by omega)
    rw [hb] at q1 q2
    have e : wrV s v = Bit.pack (lowB v) ++ Bit.pack (higB v) := by unfold wrV; rw [if_pos h0]
    rw [e, q1, q2, a1, b1, ← hr]
    have : r.drop (2 * wid s) = (r.drop (wid s)).drop (wid s) := by rw [List.drop_drop]; congr 1; omega
    rw [this, List.append_assoc, List.take_append_drop, List.take_append_drop]
   ·rw [← hb, vld_nil] at hk
    cases hk
 ·have h0 : ¬ s.1 = 0 := by omega
  rw [if_neg h0] at h
  unfold wrV
  rw [if_neg h0]
  by_cases h3 : s.1 = 3
  ·rw [if_pos h3] at h ⊢
   injection h with h
   injection h with _ h
   all_goals first | exact h | (rw [h]; rfl)
  ·rw [if_neg h3] at h ⊢
   rw [List.append_assoc]
   exact (rtext_canon h).1
theorem rdVs_wr : ∀ {st : List (Int × Int)} {vs : List ByteArray}, vasL dv st vs = true → (textS st vs).length ≤ 4096 → ∀ r, rdVs st (textS st vs ++ r) = some (vs, r)
 | [], [], _, _, r => rfl
 | [], _ :: _, h, _, _ => by cases h
 | _ :: _, [], h, _, _ => by cases h
 | s :: st, v :: vs, h, hl, r => by
  have h2 : vaB dv s (toL v) = true ∧ vasL dv st vs = true := by
   have : (vaB dv s (toL v) && vasL dv st vs) = true := h
   rwa [Bool.and_eq_true] at this
  have e : textS (s :: st) (v :: vs) = wrV s (toL v) ++ textS st vs := rfl
  rw [e, List.length_append] at hl
  rw [e, List.append_assoc]
  unfold rdVs
  rw [rdV_wr h2.1 (by omega)]
  simp only
  rw [rdVs_wr h2.2 (by omega) r]
  rfl
theorem rdVs_canon : ∀ {st : List (Int × Int)} {vs : List ByteArray} {r r' : List UInt8}, rdVs st r = some (vs, r') → vasL dv st vs = true → r = textS st vs ++ r'
 | [], vs, r, r', h, hv => by
  injection h with h
  injection h with h1 h2
  all_goals first | exact h2 | (rw [← h1, ← h2]; rfl)
 | s :: st, vs, r, r', h, hv => by
  unfold rdVs at h
  split at h
  ·cases h
  ·rename_i v r1 hr
   split at h
   ·cases h
   ·rename_i vs2 r2 hr2
    injection h with h
    injection h with h1 h2
    subst h1
    subst h2
    have h3 : vaB dv s (toL (bs v)) = true ∧ vasL dv st vs2 = true := by
     have : (vaB dv s (toL (bs v)) && vasL dv st vs2) = true := hv
     rwa [Bool.and_eq_true] at this
    rw [toL_bs] at h3
    have e : textS (s :: st) (bs v :: vs2) = wrV s v ++ textS st vs2 := rfl
    rw [e, List.append_assoc, ← rdVs_canon hr2 h3.2]
    exact rdV_canon hr h3.1
end
theorem vasL_len {dv : List UInt8 → Bool} : ∀ {st : List (Int × Int)} {vs : List ByteArray}, vasL dv st vs = true → vs.length = st.length
 | [], [], _ => rfl
 | [], _ :: _, h => by cases h
 | _ :: _, [], h => by cases h
 | s :: st, v :: vs, h => by
  have h2 : vaB dv s (toL v) = true ∧ vasL dv st vs = true := by
   have : (vaB dv s (toL v) && vasL dv st vs) = true := h
   rwa [Bool.and_eq_true] at this
  simp [vasL_len h2.2]
theorem rdVs_len : ∀ {st : List (Int × Int)} {vs : List ByteArray} {r r' : List UInt8}, rdVs st r = some (vs, r') → vs.length = st.length
 | [], vs, r, r', h => by
  injection h with h
  injection h with h1 h2
  rw [← h1]; rfl
 | s :: st, vs, r, r', h => by
  unfold rdVs at h
  split at h
  ·cases h
  ·split at h
   ·cases h
   ·rename_i vs2 r2 hr2
    injection h with h
    injection h with h1 h2
    rw [← h1]
    simp [rdVs_len hr2]
/-! ## The bytes of values -/
def snE (dv : List UInt8 → Bool) (st : List (Int × Int)) (vs : List ByteArray) : List UInt8 × Nat := if vasB dv st vs = false then ([], 1) else if textS st vs = [] then ([], 0) else match wrapS 4 (textS st vs) with
 | none => ([], 9)
 | some w => (w, 0)
def snT (data : List UInt8) : Option (List UInt8) := if data = [] then some [] else match fparse data with
 | none => none
 | some (k, c, n) => if n = data.length ∧ k = 4 ∧ c ≠ [] then some c else none
def snD (dv : List UInt8 → Bool) (st : List (Int × Int)) (data : List UInt8) : List ByteArray × Nat := if tysB st = false then ([], 1) else match snT data with
 | none => ([], 12)
 | some t => match rdVs st t with
  | none => ([], 12)
  | some (vs, r) => if r = [] ∧ vasB dv st vs = true then (vs, 0) else ([], 12)
theorem wrapS_ne {k : Nat} {c w : List UInt8} (h : wrapS k c = some w) : w ≠ [] := by
 unfold wrapS at h
 cases ht : lzE c with
 | none => rw [ht] at h; cases h
 | some t =>
  rw [ht] at h
  injection h with h
  rw [← h]
  unfold wrapT sealB
  simp
theorem snE_val {dv : List UInt8 → Bool} {st : List (Int × Int)} {vs : List ByteArray} {data : List UInt8} (h : snE dv st vs = (data, 0)) : vasB dv st vs = true ∧ ((textS st vs = [] ∧ data = []) ∨ (textS st vs ≠ [] ∧ wrapS 4 (textS st vs) = some data)) := by
 unfold snE at h
 split at h
 ·cases h
 ·rename_i hv
  refine ⟨by simpa using hv, ?_⟩
  split at h
  ·rename_i ht
   injection h with h _
   exact .inl ⟨ht, h.symm⟩
  ·rename_i ht
   cases hw : wrapS 4 (textS st vs) with
   | none => rw [hw] at h; cases h
   | some w =>
    rw [hw] at h
    injection h with h _
    exact .inr ⟨ht, by rw [h]⟩
theorem snD_E {dv : List UInt8 → Bool} {st : List (Int × Int)} {vs : List ByteArray} {data : List UInt8} (h : snE dv st vs = (data, 0)) : snD dv st data = (vs, 0) := by
 obtain ⟨hv, hc⟩ := snE_val h
 have hv2 := hv
 unfold vasB at hv2
 rw [Bool.and_eq_true] at hv2
 have hlen : (textS st vs).length ≤ 4096 := by
  rcases hc with ⟨h1, _⟩ | ⟨_, h1⟩
  ·rw [h1]; exact Nat.zero_le _
  ·have := wrapS_some (k := 4) (c := textS st vs)
   rw [h1] at this
   exact of_decide_eq_true this.symm
 have ht : snT data = some (textS st vs) := by
  unfold snT
  rcases hc with ⟨h1, h2⟩ | ⟨h1, h2⟩
  ·rw [if_pos h2, h1]
  ·have hf := fparse_wrap (by omega) h2 []
   rw [List.append_nil] at hf
   rw [if_neg (wrapS_ne h2), hf]
   simp only
   rw [if_pos (by simp [h1])]
 have hr := rdVs_wr hv2.2 hlen []
 rw [List.append_nil] at hr
 unfold snD
 rw [if_neg (by simp [hv2.1]), ht]
 simp only
 rw [hr]
 simp only
 rw [if_pos ⟨trivial, hv⟩]
theorem snD_ok {dv : List UInt8 → Bool} {st : List (Int × Int)} {vs : List ByteArray} {data : List UInt8} (h : snD dv st data = (vs, 0)) : snE dv st vs = (data, 0) ∧ vasB dv st vs = true := by
 unfold snD at h
 split at h
 ·cases h
 ·split at h
  ·cases h
  ·rename_i t ht
   split at h
   ·cases h
   ·rename_i vs2 r hr
    split at h
    ·rename_i hc
     injection h with h _
     subst h
     obtain ⟨hr0, hv⟩ := hc
     refine ⟨?_, hv⟩
     have hv2 := hv
     unfold vasB at hv2
     rw [Bool.and_eq_true] at hv2
     have hcan := rdVs_canon hr hv2.2
     rw [hr0, List.append_nil] at hcan
     unfold snE
     rw [if_neg (by simp [hv])]
     unfold snT at ht
     split at ht
     ·rename_i hd
      injection ht with ht
      rw [← hcan, ← ht, if_pos rfl, hd]
     ·split at ht
      ·cases ht
      ·rename_i k c n hf
       split at ht
       ·rename_i hc
        injection ht with ht
        obtain ⟨c1, c2, c3⟩ := hc
        obtain ⟨w1, _, _⟩ := fparse_ok hf
        rw [c1, c2, List.take_length] at w1
        rw [← hcan, ← ht, if_neg c3, w1]
       ·cases ht
    ·cases h
theorem snD_err {dv : List UInt8 → Bool} {st : List (Int × Int)} {data : List UInt8} (h : (snD dv st data).2 ≠ 0) : (tysB st = false ∧ snD dv st data = ([], 1)) ∨ (tysB st = true ∧ snD dv st data = ([], 12)) := by
 unfold snD at h ⊢
 split
 ·rename_i ht
  exact .inl ⟨ht, rfl⟩
 ·rename_i ht
  refine .inr ⟨by simpa using ht, ?_⟩
  rw [if_neg ht] at h
  split at h
  ·rfl
  ·split at h
   ·rfl
   ·split at h
    ·exact absurd rfl h
    ·rename_i hc; rw [if_neg hc]
theorem snD_len {dv : List UInt8 → Bool} {st : List (Int × Int)} {vs : List ByteArray} {data : List UInt8} (h : snD dv st data = (vs, 0)) : vs.length = st.length := by
 have := (snD_ok h).2
 unfold vasB at this
 rw [Bool.and_eq_true] at this
 exact vasL_len this.2
end Wv.Sn
/-
  The parse of texts, in the steps in which a program makes it. No program stands here.
-/
namespace Wv.Lz
open Wv.Mo
def ystep (s : List UInt8) (i most p b : Nat) (o : List (Nat × Nat)) : Option (Nat × List (Nat × Nat)) := if 4096 < i - p ∨ most ≤ b then none
 else if s.getD (p + b) 0 ≠ s.getD (i + b) 0 then some (b, o) else if b < com s p i most then some (com s p i most, o ++ [(com s p i most, i - p)]) else some (b, o)
theorem btr_step (s : List UInt8) (i most p b : Nat) (o : List (Nat × Nat)) : btr s i most (p + 1) b o = match ystep s i most p b o with
  | none => o
  | some x => btr s i most p x.1 x.2 := by
 unfold ystep
 rw [btr]
 split
 ·rfl
 ·split
  ·rfl
  ·split <;> rfl
theorem comA_step {s : List UInt8} {i j n k : Nat} : comA s i j n (k + 1) = if s.getD (i + n) 0 = s.getD (j + n) 0 then comA s i j (n + 1) k else n := rfl
theorem comA_zero {s : List UInt8} {i j n : Nat} : comA s i j n 0 = n := rfl
theorem down_step {hi lo d : Nat} (h : lo < hi) : down hi lo d = ⟨hi, d, 0⟩ :: down (hi - 1) lo d := by
 unfold down
 obtain ⟨k, hk⟩ : ∃ k, hi - lo = k + 1 := ⟨hi - lo - 1, by omega⟩
 rw [hk, List.range_succ_eq_map, List.map_cons, List.map_map, show hi - 1 - lo = k by omega]
 congr 1
 apply List.map_congr_left
 intro t _
 show (⟨hi - (t + 1), d, 0⟩ : Pc) = ⟨hi - 1 - t, d, 0⟩
 congr 1
 omega
theorem down_nil {hi lo d : Nat} (h : hi ≤ lo) : down hi lo d = [] := by
 unfold down
 rw [show hi - lo = 0 by omega]
 rfl
def shortr (l : List (Nat × Nat)) (k : Nat) : Nat := if 0 < k then (l.getD (k - 1) (0, 0)).1 else 1
theorem take_rev {l : List (Nat × Nat)} {k : Nat} (hk : k < l.length) : (l.take (k + 1)).reverse = l.getD k (0, 0) :: (l.take k).reverse := by
 rw [List.take_succ_eq_append_getElem hk, List.reverse_append]
 simp [List.getD, hk]
theorem tries_take {l : List (Nat × Nat)} {k : Nat} (hk : k < l.length) : tries ((l.take (k + 1)).reverse) = down (l.getD k (0, 0)).1 (shortr l k) (l.getD k (0, 0)).2 ++ tries ((l.take k).reverse) := by
 rw [take_rev hk]
 cases k with
 | zero =>
  show tries (l.getD 0 (0, 0) :: ([] : List (Nat × Nat)).reverse) = _ ++ tries ([] : List (Nat × Nat)).reverse
  show down _ 1 _ = down _ 1 _ ++ []
  rw [List.append_nil]
 | succ k =>
  rw [take_rev (show k < l.length by omega)]
  show down (l.getD (k + 1) (0, 0)).1 (l.getD k (0, 0)).1 (l.getD (k + 1) (0, 0)).2 ++ tries (l.getD k (0, 0) :: (l.take k).reverse) = _
  congr 1
theorem follow_step {s : List UInt8} {f i : Nat} (h : i < s.length) : follow s (f + 1) i = ((bestT s).getD i st0).first :: follow s f (i + ((bestT s).getD i st0).first.len) := by
 show (if i < s.length then _ else _) = _
 rw [if_pos h]
theorem follow_end {s : List UInt8} {f i : Nat} (h : s.length ≤ i) : follow s f i = [] := by
 cases f with
 | zero => rfl
 | succ f =>
  show (if i < s.length then _ else _) = _
  rw [if_neg (by omega)]
theorem blen_13 {n : Nat} (h : n ≤ 4096) : blen n ≤ 13 := by
 unfold blen
 split
 ·omega
 ·rename_i h0
  have := (Nat.log2_lt h0).2 (show n < 2 ^ 13 by omega)
  omega
theorem price_le {p : Pc} (h1 : p.dist ≤ 4096) (h2 : p.len ≤ 4096) : price p ≤ 38 := by
 unfold price
 have := blen_13 h1
 have := blen_13 h2
 split <;> omega
theorem PcOk.price {s : List UInt8} {i : Nat} {p : Pc} (h : PcOk s i p) : price p ≤ 38 := by
 rcases h with ⟨h1, h2, _⟩ | ⟨_, _, h3, _, h5, _⟩
 ·exact price_le (by omega) (by omega)
 ·exact price_le h3 (by omega)
theorem tryP_ok {tb : List St} {c : Option St} {p : Pc} {M : Nat} (htb : ∀ x ∈ tb, x.cost ≤ M ∧ x.pcs ≤ M) (hc : ∀ x, c = some x → x.cost ≤ M + 38 ∧ x.pcs ≤ M + 38) (hp : price p ≤ 38) : ∀ x, tryP tb c p = some x → x.cost ≤ M + 38 ∧ x.pcs ≤ M + 38 := by
 have hg : (tb.getD (p.len - 1) st0).cost ≤ M ∧ (tb.getD (p.len - 1) st0).pcs ≤ M := by
  rw [List.getD_eq_getElem?_getD]
  cases h : tb[p.len - 1]? with
  | none => exact ⟨Nat.zero_le _, Nat.zero_le _⟩
  | some y => exact htb y (List.mem_of_getElem? h)
 have hs : (stOf tb p).cost ≤ M + 38 ∧ (stOf tb p).pcs ≤ M + 38 := ⟨by show _ + _ ≤ _; omega, by show _ + 1 ≤ _; omega⟩
 intro x hx
 unfold tryP at hx
 cases c with
 | none => injection hx with hx; rw [← hx]; exact hs
 | some c =>
  simp only at hx
  split at hx
  ·injection hx with hx; rw [← hx]; exact hs
  ·injection hx with hx; rw [← hx]; exact hc c rfl
theorem fold_ok {tb : List St} {M : Nat} (htb : ∀ x ∈ tb, x.cost ≤ M ∧ x.pcs ≤ M) : ∀ (l : List Pc) (c : Option St), (∀ x, c = some x → x.cost ≤ M + 38 ∧ x.pcs ≤ M + 38) → (∀ p ∈ l, price p ≤ 38) → ∀ x, l.foldl (tryP tb) c = some x → x.cost ≤ M + 38 ∧ x.pcs ≤ M + 38 := by
 intro l
 induction l with
 | nil => intro c hc _ x hx; exact hc x hx
 | cons p r ih => intro c hc hp x hx; exact ih _ (tryP_ok htb hc (hp p List.mem_cons_self)) (fun q hq => hp q (List.mem_cons_of_mem _ hq)) x hx
theorem tbl_small (s : List UInt8) : ∀ k, k ≤ s.length → ∀ x ∈ tbl s k, x.cost ≤ 38 * k ∧ x.pcs ≤ 38 * k := by
 intro k
 induction k with
 | zero =>
  intro _ x hx
  rw [List.mem_singleton.1 hx]
  exact ⟨Nat.le_refl _, Nat.le_refl _⟩
 | succ k ih =>
  intro hk x hx
  have ih := ih (by omega)
  rcases List.mem_cons.1 hx with hx | hx
  ·have hi : s.length - 1 - k < s.length := by omega
   have hx2 : ∃ y, (pcsAt s (s.length - 1 - k)).foldl (tryP (tbl s k)) none = some y := by
    unfold pcsAt
    rw [List.foldl_append]
    exact tryP_some _ _ _
   obtain ⟨y, hy⟩ := hx2
   have := fold_ok ih (pcsAt s (s.length - 1 - k)) none (fun x h => by cases h) (fun p hp => (pcsAt_ok hi p hp).price) y hy
   have e : x = y := by rw [hx]; unfold bestAt; rw [hy]; rfl
   rw [e]
   omega
  ·have := ih x hx
   omega
end Wv.Lz
/-
  The walks over the models, fourth part: a new model of numbers.
-/
namespace Go.Proofs.YtjfcemlbbinanaaGreatDoor
open Go.RowKit Go.Proofs Wv Wv.Vi Wv.Rc Wv.Mo
set_option linter.unusedVariables false

theorem intinf : (Tryz.prog.info? 3).map (fun i => (i.zero, i.size, i.bytes)) = some (some (.int .i64 0), 1, 8) := by kernel_rfl
def half (j : Nat) : List Nat := List.replicate j 1024 ++ List.replicate (64 - j) 0
theorem half_set (j : Nat) (h : j < 64) : (half j).set j 1024 = half (j + 1) := by
 unfold half
 rw [List.set_append_right _ _ (by simp), List.length_replicate, Nat.sub_self, show 64 - j = (64 - (j + 1)) + 1 from by omega, List.replicate_succ, List.set_cons_zero, List.replicate_succ', List.append_assoc]
 rfl
theorem half_length (j : Nat) (h : j ≤ 64) : (half j).length = 64 := by simp [half]; omega
theorem half_all : half 64 = t0 := by decide
theorem half_none : nc (half 0) = Array.replicate 64 (.int .i64 0) := by
 apply Array.toList_inj.1
 simp [nc, half]

set_option maxHeartbeats 1000000 in
theorem plant_any (w : World) :
  Calls Tryz.prog 123 #[.int .i64 1, .int .i64 6] w fun x w' => x = .returned (.slice (some ⟨w.heap.size + 1, 0, none⟩) 1 1) ∧ Bk w' w.heap.size 3 (nc t0) ∧ Bk w' (w.heap.size + 1) 131 #[.int .i64 6, .slice (some ⟨w.heap.size, 0, none⟩) 64 64] ∧ Below w.heap.size w w' := by
 have hmk := mk_row (P := Tryz.prog) 129 3 _ _ Tryz.underlying129 intinf rfl 64 64 rfl (by omega) (by omega) w
 rw [← half_none] at hmk
 have hmk2 : ∀ w : World, (Instr.makeSlice 164 (.int .i64 1) (.int .i64 1)).run Tryz.prog w = .ok (.slice (some ⟨w.heap.size, 0, none⟩) 1 1) (w.alloc (.cells #[.int .i64 0, .slice none 0 0] 131)) := fun _ => by kernel_rfl
 go_enter Tryz.func123, Tryz.ntmps123
 go_wp2
 go_loopw [6, 17] (fun _ i wr => ∃ j : Nat, j ≤ 64 ∧ i = .int .i64 j ∧ Bk wr w.heap.size 3 (nc (half j)) ∧ Below w.heap.size w wr ∧ wr.heap.size = w.heap.size + 1) (fun _ i _ => (64 - intOf i).toNat)
 case atStart => exact ⟨0, by omega, rfl, Bk.new _ _ _, (Below.refl _ _).alloc (Nat.le_refl _) _, by simp⟩
 case round =>
  obtain ⟨j, hj, rfl, hbk, hf, hsz⟩ := hrel
  by_cases hlt : j < 64
  ·have hc := hbk.cell j
   rw [nc_get _ _ (by rw [half_length j hj]; exact hlt)] at hc
   have fc := hbk.frozen j
   have hp := hbk.put j (.int .i64 ((1024 : Nat) : Int))
   rw [nc_set, half_set j hlt] at hp
   have Hp := hide hp
   have Hz := hide hsz
   clear hp hbk hsz hmk
   go_wp2
   go_roundw
   case rel => exact ⟨j + 1, by omega, by go_num, Hp.out, hf.setCell (p := ⟨w.heap.size, j, none⟩) (Nat.le_refl _) _, by simpa using Hz.out⟩
   case measure => simp [intOf] <;> omega
  ·have hj64 : j = 64 := by omega
   subst hj64
   have Hz := hide hsz
   have Hbk := hide hbk
   clear hsz hbk hmk
   go_wp2
   rw [Hz.out]
   have hf2 := hf.alloc hf.size (.cells #[.int .i64 0, .slice none 0 0] 131)
   have hb2 := Hbk.out.alloc (.cells #[.int .i64 0, .slice none 0 0] 131)
   have hb3 : Bk (wr.alloc (.cells #[.int .i64 0, .slice none 0 0] 131)) (w.heap.size + 1) 131 #[.int .i64 0, .slice none 0 0] := Hz.out ▸ Bk.new wr _ _
   go_loopw [8, 9, 10, 28] (fun _ _ _ i wr2 => ∃ j : Nat, j ≤ 1 ∧ i = .int .i64 j ∧ (j = 0 → Bk wr2 (w.heap.size + 1) 131 #[.int .i64 0, .slice none 0 0]) ∧ (j = 1 → Bk wr2 (w.heap.size + 1) 131 #[.int .i64 6, .slice (some ⟨w.heap.size, 0, none⟩) 64 64]) ∧ Bk wr2 w.heap.size 3 (nc (half 64)) ∧ Below w.heap.size w wr2) (fun _ _ _ i _ => (1 - intOf i).toNat)
   case atStart => exact ⟨0, by omega, rfl, fun _ => hb3, fun h => by omega, hb2, hf2⟩
   case round =>
    clear hf2 hb2 hb3 hf
    obtain ⟨j, hj, rfl, h0, h1, hb, hf⟩ := hrel
    by_cases hlt : j < 1
    ·have hj0 : j = 0 := by omega
     subst hj0
     have hb0 := h0 rfl
     have q0 := hb0.cell 0
     have q1 := hb0.cell 1
     have p0 := hb0.frozen 0
     have p1 := hb0.frozen 1
     simp at q0 q1
     have Hb0 := hide hb0
     clear h0 h1 hb0 hlt
     go_wp2
     go_region
     go_wp2
     go_roundw
     case rel =>
      refine ⟨1, by omega, rfl, fun h => by omega, fun _ => ?_, ?_, ?_⟩
      ·have h9 := (Hb0.out.put 0 (.int .i64 6)).put 1 (.slice (some ⟨w.heap.size, 0, none⟩) 64 64)
       have h8 := h9.drew
       simpa using h8
      ·exact ((hb.off (p := ⟨w.heap.size + 1, 0, none⟩) (by simp) _).off (p := ⟨w.heap.size + 1, 1, none⟩) (by simp) _).drew
      ·exact ((hf.setCell (p := ⟨w.heap.size + 1, 0, none⟩) (by simp) _).setCell (p := ⟨w.heap.size + 1, 1, none⟩) (by simp) _).drew
     case measure => simp [intOf]
    ·have hj1 : j = 1 := by omega
     subst hj1
     have hb1 := hide (h1 rfl)
     clear h0 h1
     go_wp2
     go_ret
     exact ⟨rfl, by rw [← half_all]; exact hb, hb1.out, hf⟩
set_option maxHeartbeats 1000000 in
theorem nnew_any (w : World) :
  Calls Tryz.prog 98 #[] w fun x w' => ∃ b, x = .returned (.pointer (some ⟨b, 0, none⟩)) ∧ w.heap.size ≤ b ∧ NAt w' b w.heap.size t0 ∧ Below w.heap.size w w' := by
 have Hp := hide (plant_any w)
 go_enter Tryz.func98, Tryz.ntmps98
 go_wp2_with fail
 refine (Hp.out).mono ?_
 rintro x w1 ⟨rfl, h0, h1, hb⟩
 have q0 := h1.cell 0
 have q1 := h1.cell 1
 simp at q0 q1
 have hs := hb.size
 have H0 := hide h0
 clear h0 h1
 go_wp2
 go_ret
 exact ⟨w1.heap.size, rfl, hs, ⟨Bk.new _ _ _, H0.out.alloc _⟩, hb.alloc hs _⟩
end Go.Proofs.YtjfcemlbbinanaaGreatDoor
