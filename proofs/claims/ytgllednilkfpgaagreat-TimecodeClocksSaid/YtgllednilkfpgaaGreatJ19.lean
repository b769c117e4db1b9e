/-
  Joined texts: Sr, Su.
-/
import Derived.Test.YtgllednilkfpgaaGreatJ12
import Derived.Test.YtgllednilkfpgaaGreatJ05
set_option linter.unusedVariables false
set_option linter.unusedSimpArgs false
/-
  The walks over the references: the range coder's decoder, a byte, a bit.
-/
namespace Go.Proofs.YtgllednilkfpgaaGreat
open Go.RowKit Go.Proofs Wv Wv.Vi Wv.Rc
set_option linter.unusedVariables false

/-- A reference's decoder, as cells. -/
def dcs (d : De) : Array Value := #[.string (bs d.rest), .int .i64 (d.code : Int), .int .i64 (d.size : Int), .bool d.miss, .bool d.full]
/-- A reference's decoder, as a value. -/
def RDe (d : De) : Value := .agg #[.string (bs d.rest), .int .i64 (d.code : Int), .int .i64 (d.size : Int), .bool d.miss, .bool d.full]
/-- The struct of a reference's decoder, in a block of the function's own. -/
def DB (w : World) (b : Nat) (d : De) : Prop := Bk w b 85 #[.string (bs d.rest), .int .i64 (d.code : Int), .int .i64 (d.size : Int), .bool d.miss, .bool d.full]
def dzero : De := ⟨[], 0, 0, false, false⟩
theorem DB.drewN {w : World} {b : Nat} {d : De} (h : DB w b d) (n : Nat) : DB (w.drewN n) b d := h
theorem DB.drew {w : World} {b : Nat} {d : De} (h : DB w b d) : DB w.drew b d := h
theorem DB.fr {S : Nat → Prop} {w w' : World} {b : Nat} {d : De} (h : DB w b d) (hf : Fr S w w') (hS : ¬ S b) : DB w' b d := Bk.fr h hf hS
theorem DB.below {w w' : World} {b : Nat} {d : De} (h : DB w b d) (hb : Below w.heap.size w w') : DB w' b d := Bk.below h hb (Bk.lt h)
theorem DB.alloc {w : World} {b : Nat} {d : De} (h : DB w b d) (o : Obj) : DB (w.alloc o) b d := Bk.alloc h o
theorem DB.off {w : World} {b : Nat} {d : De} (h : DB w b d) {b' : Nat} (hne : b' ≠ b) (k : Nat) (x : Value) : DB (w.setCell ⟨b', k, none⟩ x) b d := Bk.off h (p := ⟨b', k, none⟩) (Ne.symm hne) x
theorem DB.put0 {w : World} {b : Nat} {d : De} (h : DB w b d) (x : List UInt8) : DB (w.setCell ⟨b, 0, none⟩ (.string (bs x))) b { d with rest := x } := by simpa [DB] using Bk.put h 0 (.string (bs x))
theorem DB.put1 {w : World} {b : Nat} {d : De} (h : DB w b d) (x : Nat) : DB (w.setCell ⟨b, 1, none⟩ (.int .i64 (x : Int))) b { d with code := x } := by simpa [DB] using Bk.put h 1 (.int .i64 (x : Int))
theorem DB.put2 {w : World} {b : Nat} {d : De} (h : DB w b d) (x : Nat) : DB (w.setCell ⟨b, 2, none⟩ (.int .i64 (x : Int))) b { d with size := x } := by simpa [DB] using Bk.put h 2 (.int .i64 (x : Int))
theorem DB.put3 {w : World} {b : Nat} {d : De} (h : DB w b d) (x : Bool) : DB (w.setCell ⟨b, 3, none⟩ (.bool x)) b { d with miss := x } := by simpa [DB] using Bk.put h 3 (.bool x)
theorem DB.put4 {w : World} {b : Nat} {d : De} (h : DB w b d) (x : Bool) : DB (w.setCell ⟨b, 4, none⟩ (.bool x)) b { d with full := x } := by simpa [DB] using Bk.put h 4 (.bool x)
/-- A decoder is stored anew. -/
theorem DB.putAll {w : World} {b : Nat} {d : De} (h : DB w b d) (e : De) : DB (((((w.setCell ⟨b, 0, none⟩ (.string (bs e.rest))).setCell ⟨b, 1, none⟩ (.int .i64 (e.code : Int))).setCell ⟨b, 2, none⟩ (.int .i64 (e.size : Int))).setCell ⟨b, 3, none⟩ (.bool e.miss)).setCell ⟨b, 4, none⟩ (.bool e.full)) b e :=
  ((((h.put0 e.rest).put1 e.code).put2 e.size).put3 e.miss).put4 e.full
theorem Fr.five {w : World} (b : Nat) (x0 x1 x2 x3 x4 : Value) : Fr (only b) w (((((w.setCell ⟨b, 0, none⟩ x0).setCell ⟨b, 1, none⟩ x1).setCell ⟨b, 2, none⟩ x2).setCell ⟨b, 3, none⟩ x3).setCell ⟨b, 4, none⟩ x4) :=
  only_set (only_set (only_set (only_set (only_set (Fr.refl _ _) 0 _) 1 _) 2 _) 3 _) 4 _
/-- A decoder is given back as a result. -/
theorem dres_end {w : World} {r : Nat} {d0 : De} (d : De) (hr : DB w r d0) :
    ∃ W, (((((w.setCell ⟨r, 0, none⟩ (.string (bs d.rest))).setCell ⟨r, 1, none⟩ (.int .i64 (d.code : Int))).setCell ⟨r, 2, none⟩ (.int .i64 (d.size : Int))).setCell ⟨r, 3, none⟩ (.bool d.miss)).setCell ⟨r, 4, none⟩ (.bool d.full)) = W ∧
      W.cell? ⟨r, 0, none⟩ = some (.string (bs d.rest)) ∧ W.cell? ⟨r, 1, none⟩ = some (.int .i64 (d.code : Int)) ∧ W.cell? ⟨r, 2, none⟩ = some (.int .i64 (d.size : Int)) ∧ W.cell? ⟨r, 3, none⟩ = some (.bool d.miss) ∧ W.cell? ⟨r, 4, none⟩ = some (.bool d.full) ∧ Fr (only r) w W := by
  have hk := hr.putAll d
  exact ⟨_, rfl, Bk.cell hk 0, Bk.cell hk 1, Bk.cell hk 2, Bk.cell hk 3, Bk.cell hk 4, Fr.five r _ _ _ _ _⟩
/-- The cells of a decoder. -/
theorem DB.cells {w : World} {b : Nat} {d : De} (h : DB w b d) : w.cell? ⟨b, 0, none⟩ = some (.string (bs d.rest)) ∧ w.cell? ⟨b, 1, none⟩ = some (.int .i64 (d.code : Int)) ∧ w.cell? ⟨b, 2, none⟩ = some (.int .i64 (d.size : Int)) ∧ w.cell? ⟨b, 3, none⟩ = some (.bool d.miss) ∧ w.cell? ⟨b, 4, none⟩ = some (.bool d.full) :=
  ⟨Bk.cell h 0, Bk.cell h 1, Bk.cell h 2, Bk.cell h 3, Bk.cell h 4⟩
theorem dres_endB {w0 w : World} {r : Nat} {z : De} (d : De) (hr : DB w r z) (hb : Below w0.heap.size w0 w) (h0 : w0.heap.size ≤ r) :
    ∃ W, (((((w.setCell ⟨r, 0, none⟩ (.string (bs d.rest))).setCell ⟨r, 1, none⟩ (.int .i64 (d.code : Int))).setCell ⟨r, 2, none⟩ (.int .i64 (d.size : Int))).setCell ⟨r, 3, none⟩ (.bool d.miss)).setCell ⟨r, 4, none⟩ (.bool d.full)) = W ∧ W.cell? ⟨r, 0, none⟩ = some (.string (bs d.rest)) ∧ W.cell? ⟨r, 1, none⟩ = some (.int .i64 (d.code : Int)) ∧ W.cell? ⟨r, 2, none⟩ = some (.int .i64 (d.size : Int)) ∧ W.cell? ⟨r, 3, none⟩ = some (.bool d.miss) ∧ W.cell? ⟨r, 4, none⟩ = some (.bool d.full) ∧ Below w0.heap.size w0 W := by
  have hk := hr.putAll d
  have hb2 := hb.trans (own_below (Fr.five r (.string (bs d.rest)) (.int .i64 (d.code : Int)) (.int .i64 (d.size : Int)) (.bool d.miss) (.bool d.full)) hb.size h0)
  have hk3 := hk
  have hb3 := hb2
  clear hk hb2
  generalize (((((w.setCell ⟨r, 0, none⟩ (.string (bs d.rest))).setCell ⟨r, 1, none⟩ (.int .i64 (d.code : Int))).setCell ⟨r, 2, none⟩ (.int .i64 (d.size : Int))).setCell ⟨r, 3, none⟩ (.bool d.miss)).setCell ⟨r, 4, none⟩ (.bool d.full)) = W at *
  obtain ⟨k0, k1, k2, k3, k4⟩ := DB.cells hk3
  exact ⟨W, rfl, k0, k1, k2, k3, k4, hb3⟩
theorem dres_endA {w0 w : World} {r : Nat} {z : De} (d : De) (hr : DB w r z) (hb : Below w0.heap.size w0 w) (h0 : w0.heap.size ≤ r) (o : Obj) :
    ∃ W, (((((w.setCell ⟨r, 0, none⟩ (.string (bs d.rest))).setCell ⟨r, 1, none⟩ (.int .i64 (d.code : Int))).setCell ⟨r, 2, none⟩ (.int .i64 (d.size : Int))).setCell ⟨r, 3, none⟩ (.bool d.miss)).setCell ⟨r, 4, none⟩ (.bool d.full)).alloc o = W ∧ W.cell? ⟨r, 0, none⟩ = some (.string (bs d.rest)) ∧ W.cell? ⟨r, 1, none⟩ = some (.int .i64 (d.code : Int)) ∧ W.cell? ⟨r, 2, none⟩ = some (.int .i64 (d.size : Int)) ∧ W.cell? ⟨r, 3, none⟩ = some (.bool d.miss) ∧ W.cell? ⟨r, 4, none⟩ = some (.bool d.full) ∧ Below w0.heap.size w0 W := by
  have hk := hr.putAll d
  have hb2 := hb.trans (own_below (Fr.five r (.string (bs d.rest)) (.int .i64 (d.code : Int)) (.int .i64 (d.size : Int)) (.bool d.miss) (.bool d.full)) hb.size h0)
  have hk3 := DB.alloc hk o
  have hb3 := hb2.alloc hb2.size o
  clear hk hb2
  generalize (((((w.setCell ⟨r, 0, none⟩ (.string (bs d.rest))).setCell ⟨r, 1, none⟩ (.int .i64 (d.code : Int))).setCell ⟨r, 2, none⟩ (.int .i64 (d.size : Int))).setCell ⟨r, 3, none⟩ (.bool d.miss)).setCell ⟨r, 4, none⟩ (.bool d.full)).alloc o = W at *
  obtain ⟨k0, k1, k2, k3, k4⟩ := DB.cells hk3
  exact ⟨W, rfl, k0, k1, k2, k3, k4, hb3⟩
theorem dres_endD {w0 w : World} {r : Nat} {z : De} (d : De) (hr : DB w r z) (hb : Below w0.heap.size w0 w) (h0 : w0.heap.size ≤ r) :
    ∃ W, (((((w.setCell ⟨r, 0, none⟩ (.string (bs d.rest))).setCell ⟨r, 1, none⟩ (.int .i64 (d.code : Int))).setCell ⟨r, 2, none⟩ (.int .i64 (d.size : Int))).setCell ⟨r, 3, none⟩ (.bool d.miss)).setCell ⟨r, 4, none⟩ (.bool d.full)).drew = W ∧ W.cell? ⟨r, 0, none⟩ = some (.string (bs d.rest)) ∧ W.cell? ⟨r, 1, none⟩ = some (.int .i64 (d.code : Int)) ∧ W.cell? ⟨r, 2, none⟩ = some (.int .i64 (d.size : Int)) ∧ W.cell? ⟨r, 3, none⟩ = some (.bool d.miss) ∧ W.cell? ⟨r, 4, none⟩ = some (.bool d.full) ∧ Below w0.heap.size w0 W := by
  have hk := hr.putAll d
  have hb2 := hb.trans (own_below (Fr.five r (.string (bs d.rest)) (.int .i64 (d.code : Int)) (.int .i64 (d.size : Int)) (.bool d.miss) (.bool d.full)) hb.size h0)
  have hk3 := DB.drew hk
  have hb3 := hb2.drew
  clear hk hb2
  generalize (((((w.setCell ⟨r, 0, none⟩ (.string (bs d.rest))).setCell ⟨r, 1, none⟩ (.int .i64 (d.code : Int))).setCell ⟨r, 2, none⟩ (.int .i64 (d.size : Int))).setCell ⟨r, 3, none⟩ (.bool d.miss)).setCell ⟨r, 4, none⟩ (.bool d.full)).drew = W at *
  obtain ⟨k0, k1, k2, k3, k4⟩ := DB.cells hk3
  exact ⟨W, rfl, k0, k1, k2, k3, k4, hb3⟩
theorem DB.frozens {w : World} {b : Nat} {d : De} (h : DB w b d) : w.frozen? ⟨b, 0, none⟩ = false ∧ w.frozen? ⟨b, 1, none⟩ = false ∧ w.frozen? ⟨b, 2, none⟩ = false ∧ w.frozen? ⟨b, 3, none⟩ = false ∧ w.frozen? ⟨b, 4, none⟩ = false :=
  ⟨Bk.frozen h 0, Bk.frozen h 1, Bk.frozen h 2, Bk.frozen h 3, Bk.frozen h 4⟩
theorem rde_of {a b : De} (h : a = b) : Ending.returned (.agg #[.string (bs a.rest), .int .i64 (a.code : Int), .int .i64 (a.size : Int), .bool a.miss, .bool a.full]) = .returned (.agg #[.string (bs b.rest), .int .i64 (b.code : Int), .int .i64 (b.size : Int), .bool b.miss, .bool b.full]) := by rw [h]
theorem two_below (w : World) (o p : Obj) : Below w.heap.size w ((w.alloc o).alloc p) := ((Below.refl w.heap.size w).alloc (Nat.le_refl _) _).alloc (by simp) _
set_option maxHeartbeats 1000000 in
theorem fnext_any (d : De) (hc : d.code < 4294967296) (w : World) :
    Calls Tryz.prog 105 #[.agg #[.string (bs d.rest), .int .i64 (d.code : Int), .int .i64 (d.size : Int), .bool d.miss, .bool d.full]] w fun x w' => x = .returned (.agg #[.string (bs (dnext d).rest), .int .i64 ((dnext d).code : Int), .int .i64 ((dnext d).size : Int), .bool (dnext d).miss, .bool (dnext d).full]) ∧ Below w.heap.size w w' := by
  obtain ⟨X, hX⟩ : ∃ X, d.code * 256 % 4294967296 = X := ⟨_, rfl⟩
  have i1 : ((d.code : Int) * 256) % 4294967296 = (X : Int) := by omega
  match hr : d.rest with
  | [] =>
    have hn : dnext d = ⟨[], X, d.size, true, d.full⟩ := by unfold dnext; rw [hr]; simp only [hX]
    have Hn := hide hn
    have hs : (bs []).size = 0 := rfl
    have hem := emp1 hs
    obtain ⟨s, hss⟩ : ∃ s, bs [] = s := ⟨_, rfl⟩
    rw [hss] at hem ⊢
    have Hss := hide hss
    have hc2 : (d.code : Int) < 4294967296 := by omega
    clear hn hr hX hss hs hc
    go_enter Tryz.func105, Tryz.ntmps105
    go_wp2
    go_returns
    rw [Hn.out]
    exact ⟨by rw [Hss.out], two_below _ _ _⟩
  | c :: t =>
    have hn : dnext d = ⟨t, X + c.toNat, d.size, d.miss, d.full⟩ := by unfold dnext; rw [hr]; simp only [hX]
    have hs : 0 < (bs (c :: t)).size := by rw [bs_size]; simp
    have hem := emp0 hs
    have hex := ext_drop (bs (c :: t)) 1
    rw [toL_bs, List.drop_one, List.tail_cons] at hex
    have hg : ∀ hh : 0 < (bs (c :: t)).size, ((bs (c :: t))[0]'hh).toNat = c.toNat := by
      intro hh
      rfl
    generalize bs (c :: t) = s at *
    have hg0 := hg hs
    obtain ⟨y, hy⟩ : ∃ y, c.toNat = y := ⟨_, rfl⟩
    rw [hy] at hg0 hn
    have hy8 : y < 256 := by rw [← hy]; exact UInt8.toNat_lt c
    obtain ⟨Y, hY⟩ : ∃ Y, X + y = Y := ⟨_, rfl⟩
    rw [hY] at hn
    have i2 : (X : Int) + (y : Int) = (Y : Int) := by omega
    have hX2 : (X : Int) < 4294967296 := by omega
    have hc2 : (d.code : Int) < 4294967296 := by omega
    clear hc
    have Hn := hide hn
    clear hn hr hX hg hy hY
    go_enter Tryz.func105, Tryz.ntmps105
    go_wp2
    go_region
    all_goals
      go_wp2
      go_returns
      rw [Hn.out]
      exact ⟨rfl, (two_below _ _ _).drew⟩
theorem dzero_new (w : World) : DB (w.alloc (.cells #[.string ⟨#[]⟩, .int .i64 0, .int .i64 0, .bool false, .bool false] 85)) w.heap.size dzero := Bk.new _ _ _
theorem dpk_code (k : Nat) (s : List UInt8) : (dpk k s).code < 4294967296 := by
  cases k with
  | zero => show 0 < 4294967296; decide
  | succ k => rw [dpk_succ]; exact dnext_v.2
set_option maxHeartbeats 1000000 in
theorem fnewdec_any (s : List UInt8) (w : World) :
    Calls Tryz.prog 64 #[.string (bs s)] w fun x w' => x = .returned (.agg #[.string (bs (d0 s).rest), .int .i64 ((d0 s).code : Int), .int .i64 ((d0 s).size : Int), .bool (d0 s).miss, .bool (d0 s).full]) ∧ Below w.heap.size w w' := by
  have hr0 : DB ((w.alloc (.cells #[.string ⟨#[]⟩, .int .i64 0, .int .i64 0, .bool false, .bool false] 85)).alloc (.cells #[.string (bs s), .int .i64 0, .int .i64 4294967295, .bool false, .bool false] 85)) w.heap.size dzero := DB.alloc (dzero_new w) _
  have hd0 : DB ((w.alloc (.cells #[.string ⟨#[]⟩, .int .i64 0, .int .i64 0, .bool false, .bool false] 85)).alloc (.cells #[.string (bs s), .int .i64 0, .int .i64 4294967295, .bool false, .bool false] 85)) (w.heap.size + 1) (dpk 0 s) := by
    have := Bk.new (w.alloc (.cells #[.string ⟨#[]⟩, .int .i64 0, .int .i64 0, .bool false, .bool false] 85)) 85 #[.string (bs s), .int .i64 0, .int .i64 4294967295, .bool false, .bool false]
    rw [World.size_alloc] at this
    exact this
  have hb0 := two_below w (.cells #[.string ⟨#[]⟩, .int .i64 0, .int .i64 0, .bool false, .bool false] 85) (.cells #[.string (bs s), .int .i64 0, .int .i64 4294967295, .bool false, .bool false] 85)
  have Hr0 := hide hr0
  have Hd0 := hide hd0
  have Hb0 := hide hb0
  have Hfl := hide (show d0 s = { dpk 4 s with full := decide ((dpk 4 s).code = (dpk 4 s).size) } from rfl)
  have Hcd := hide (fun k => dpk_code k s)
  have Hst := hide (fun k => dpk_succ k s)
  clear hr0 hd0 hb0
  go_enter Tryz.func64, Tryz.ntmps64
  go_wp2
  go_loopw [4] (fun i wr => ∃ k : Nat, k ≤ 4 ∧ i = .int .i64 k ∧ DB wr (w.heap.size + 1) (dpk k s) ∧ DB wr w.heap.size dzero ∧ Below w.heap.size w wr) (fun i _ => (4 - intOf i).toNat)
  case atStart => exact ⟨0, by omega, rfl, Hd0.out, Hr0.out, Hb0.out⟩
  case round =>
    clear Hd0 Hr0 Hb0
    obtain ⟨k, hk, rfl, hd, hr, hf⟩ := hrel
    have hcd := Hcd.out k
    by_cases hlt : k < 4
    · have hst := Hst.out k
      obtain ⟨D, hD⟩ : ∃ D, dpk k s = D := ⟨_, rfl⟩
      rw [hD] at hcd hst hd
      have Hn := hide (fun W => fnext_any D hcd W)
      rw [← hst] at Hn
      obtain ⟨E, hE⟩ : ∃ E, dpk (k + 1) s = E := ⟨_, rfl⟩
      rw [hE] at Hn
      obtain ⟨c0, c1, c2, c3, c4⟩ := hd.cells
      have Hd := hide hd
      have Hr := hide hr
      have Hf := hide hf
      have HE := hide hE
      clear hd hr hf hE hD hst hcd Hcd Hst Hfl
      go_wp2_with fail
      refine (Hn.out _).mono ?_
      rintro x w1 ⟨rfl, hb1⟩
      have hd1 := Hd.out.below hb1
      have hr1 := Hr.out.below hb1
      have hf1 := Hf.out.trans (hb1.mono Hf.out.size)
      clear c0 c1 c2 c3 c4
      obtain ⟨c0, c1, c2, c3, c4⟩ := hd1.cells
      obtain ⟨f0, f1, f2, f3, f4⟩ := hd1.frozens
      have hdF := hd1.putAll E
      have hrF := hr1.fr (Fr.five (w.heap.size + 1) (.string (bs E.rest)) (.int .i64 (E.code : Int)) (.int .i64 (E.size : Int)) (.bool E.miss) (.bool E.full)) (fun h => by have : w.heap.size = w.heap.size + 1 := h; omega)
      have hfF := hf1.trans (own_below (Fr.five (w.heap.size + 1) (.string (bs E.rest)) (.int .i64 (E.code : Int)) (.int .i64 (E.size : Int)) (.bool E.miss) (.bool E.full)) hf1.size (by omega))
      have HdF := hide hdF
      have HrF := hide hrF
      have HfF := hide hfF
      clear hd1 hr1 hf1 hdF hrF hfF hb1 Hd Hr Hf
      go_wp2
      go_roundw
      case rel => exact ⟨k + 1, by omega, by go_num, by rw [HE.out]; exact HdF.out, HrF.out, HfF.out⟩
      case measure => simp [intOf] <;> omega
    · have hk4 : k = 4 := by omega
      subst hk4
      have hfl := Hfl.out
      obtain ⟨D, hD⟩ : ∃ D, dpk 4 s = D := ⟨_, rfl⟩
      rw [hD] at hfl hd
      have hdec : ((D.code : Int) == (D.size : Int)) = decide (D.code = D.size) := by
        rw [Bool.eq_iff_iff, beq_iff_eq, decide_eq_true_iff]
        omega
      obtain ⟨c0, c1, c2, c3, c4⟩ := hd.cells
      obtain ⟨f0, f1, f2, f3, f4⟩ := hd.frozens
      obtain ⟨r0, r1, r2, r3, r4⟩ := hr.cells
      obtain ⟨g0, g1, g2, g3, g4⟩ := hr.frozens
      obtain ⟨B, hB⟩ : ∃ B, decide (D.code = D.size) = B := ⟨_, rfl⟩
      rw [hB] at hfl hdec
      have hdF := hd.put4 B
      have hrF := hr.off (b' := w.heap.size + 1) (by omega) 4 (.bool B)
      have hfF := hf.setCell (p := ⟨w.heap.size + 1, 4, none⟩) (by simp) (.bool B)
      obtain ⟨E, hE⟩ : ∃ E, d0 s = E := ⟨_, rfl⟩
      rw [hE] at hfl
      have HE := hide hE
      have hE1 : E.rest = D.rest := by rw [hfl]
      have hE2 : E.code = D.code := by rw [hfl]
      have hE3 : E.size = D.size := by rw [hfl]
      have hE4 : E.miss = D.miss := by rw [hfl]
      have hE5 : E.full = B := by rw [hfl]
      rw [← hE1] at c0
      rw [← hE2] at c1 hdec
      rw [← hE3] at c2 hdec
      rw [← hE4] at c3
      rw [← hE5] at hdec hrF hfF
      have HrF := hide hrF
      have HfF := hide hfF
      clear hd hr hf hE hD hB hfl Hfl Hcd Hst hcd hdF hrF hfF hE1 hE2 hE3 hE4 hE5
      obtain ⟨WF, hWF, u0, u1, u2, u3, u4, hfr⟩ := dres_endB E (HrF.out) (HfF.out) (by omega) 
      have HWF := hide hWF
      have HbF := hide hfr
      clear hWF hfr 
      go_wp2
      rw [HWF.out]
      refine bodyPost_ret (by simp [results, Tryz.results64, go_sem, u0, u1, u2, u3, u4]; try rfl) rfl ?_
      exact ⟨by rw [HE.out], HbF.out⟩
end Go.Proofs.YtgllednilkfpgaaGreat
/-
  The walks over the references: the range coder's decoder, a bit.
-/
namespace Go.Proofs.YtgllednilkfpgaaGreat
open Go.RowKit Go.Proofs Wv Wv.Vi Wv.Rc
set_option linter.unusedVariables false

def dsm (b : Nat) (w : World) : Nat := match w.cell? ⟨b, 2, none⟩ with
  | some (.int _ n) => (16777216 - n).toNat
  | _ => 0
theorem dsm_eq {w : World} {b : Nat} {d : De} (h : DB w b d) : dsm b w = (16777216 - (d.size : Int)).toNat := by
  have := h.cells.2.2.1
  unfold dsm
  rw [this]
set_option maxRecDepth 100000 in
set_option maxHeartbeats 2000000 in
theorem fdread_any (d : De) (hv : DV 0 d) (p : Nat) (hp1 : 1 ≤ p) (hp2 : p ≤ 2047) (w : World) :
    Calls Tryz.prog 135 #[.agg #[.string (bs d.rest), .int .i64 (d.code : Int), .int .i64 (d.size : Int), .bool d.miss, .bool d.full], .int .i64 (p : Int)] w fun x w' => x = .returned (.tuple #[.agg #[.string (bs (dbit p d).rest), .int .i64 ((dbit p d).code : Int), .int .i64 ((dbit p d).size : Int), .bool (dbit p d).miss, .bool (dbit p d).full], .int .i64 (dbt p d : Nat)]) ∧ Below w.heap.size w w' := by
  obtain ⟨v1, v2⟩ := dv_up hv
  obtain ⟨b1, b2⟩ := bound_le d.size p v1 hp1 hp2
  have hcode := hv.2
  have hpv := dpart_v hv hp1 hp2
  obtain ⟨B, hB⟩ : ∃ B, d.size / 2048 * p = B := ⟨_, rfl⟩
  have Hcl := hide (flimit_any (p : Int) (by omega) (by omega))
  rw [hB] at b1 b2
  have hdp : dpart p d = if d.code < B then { d with size := B } else { d with code := d.code - B, size := d.size - B } := by unfold dpart; rw [hB]
  have hdb : dbt p d = if d.code < B then 0 else 1 := by unfold dbt; rw [hB]
  have i0 : IntKind.i64.wrap ((d.size : Int) / 2048 * (p : Int)) = (B : Int) := by
    have : (d.size : Int) / 2048 * (p : Int) = (B : Int) := by rw [← hB, Int.natCast_mul, Int.natCast_ediv]; rfl
    rw [this, IntWalk.i64_in _ (by omega)]
  have hd0 : DB ((w.alloc (.cells #[.string (bs d.rest), .int .i64 (d.code : Int), .int .i64 (d.size : Int), .bool d.miss, .bool d.full] 85)).alloc (.cells #[.string ⟨#[]⟩, .int .i64 0, .int .i64 0, .bool false, .bool false] 85)) w.heap.size d := DB.alloc (Bk.new _ _ _) _
  have hr0 := dzero_new (w.alloc (.cells #[.string (bs d.rest), .int .i64 (d.code : Int), .int .i64 (d.size : Int), .bool d.miss, .bool d.full] 85))
  rw [World.size_alloc] at hr0
  have hb0 := two_below w (.cells #[.string (bs d.rest), .int .i64 (d.code : Int), .int .i64 (d.size : Int), .bool d.miss, .bool d.full] 85) (.cells #[.string ⟨#[]⟩, .int .i64 0, .int .i64 0, .bool false, .bool false] 85)
  have Hd0 := hide hd0
  have Hr0 := hide hr0
  have Hb0 := hide hb0
  have Hpv := hide hpv
  have Hdp := hide hdp
  have Hdb := hide hdb
  clear hB hpv hv hdp hdb hd0 hr0 hb0
  go_enter Tryz.func135, Tryz.ntmps135
  go_wp2
  obtain ⟨W0, hW0⟩ : ∃ W, ((w.alloc (.cells #[.string (bs d.rest), .int .i64 (d.code : Int), .int .i64 (d.size : Int), .bool d.miss, .bool d.full] 85)).alloc (.cells #[.string ⟨#[]⟩, .int .i64 0, .int .i64 0, .bool false, .bool false] 85)) = W := ⟨_, rfl⟩
  rw [hW0] at Hd0 Hr0 Hb0 ⊢
  clear hW0
  obtain ⟨c0, c1, c2, c3, c4⟩ := Hd0.out.cells
  obtain ⟨f0, f1, f2, f3, f4⟩ := Hd0.out.frozens
  go_quiet ((go_at_call 157; exact q1 (Hcl.out _)))
  clear i0
  go_upto_if 17 with fail
  go_cut [7] (fun s7 wx => s7 = .int .i64 (dbt p d : Nat) ∧ DB wx w.heap.size (dpart p d) ∧ DB wx (w.heap.size + 1) dzero ∧ Below w.heap.size w wx)
  case first =>
    by_cases hc : d.code < B
    · have Hz := Hdp.out
      have Hy := Hdb.out
      rw [if_pos hc] at Hz Hy
      have Hz := hide Hz
      have Hy := hide Hy
      have hc2 : (d.code : Int) < (B : Int) := by omega
      clear hc
      go_wp2
      go_meet
      case rel =>
        rw [Hz.out, Hy.out]
        exact ⟨rfl, ((Hd0.out).drewN nq).put2 B, (Hr0.out.drewN nq).off (by omega) 2 _, (bdN Hb0.out nq).setCell (p := ⟨w.heap.size, 2, none⟩) (Nat.le_refl _) _⟩
    · have Hz := Hdp.out
      have Hy := Hdb.out
      rw [if_neg hc] at Hz Hy
      have hc2 : ¬ (d.code : Int) < (B : Int) := by omega
      obtain ⟨C, hC⟩ : ∃ C, d.code - B = C := ⟨_, rfl⟩
      obtain ⟨S, hS⟩ : ∃ S, d.size - B = S := ⟨_, rfl⟩
      rw [hC, hS] at Hz
      have i1 : (d.code : Int) - (B : Int) = (C : Int) := by omega
      have i2 : (d.size : Int) - (B : Int) = (S : Int) := by omega
      have Hz := hide Hz
      have Hy := hide Hy
      clear hc hC hS
      go_wp2
      go_meet
      case rel =>
        rw [Hz.out, Hy.out]
        exact ⟨rfl, (((Hd0.out).drewN nq).put1 C).put2 S, ((Hr0.out.drewN nq).off (by omega) 1 _).off (by omega) 2 _, ((bdN Hb0.out nq).setCell (p := ⟨w.heap.size, 1, none⟩) (Nat.le_refl _) _).setCell (p := ⟨w.heap.size, 2, none⟩) (Nat.le_refl _) _⟩
  case rest =>
    clear c0 c1 c2 c3 c4 f0 f1 f2 f3 f4 Hd0 Hr0 Hb0 Hdp Hcl
    obtain ⟨rfl, hd, hr, hf⟩ := hcut
    have hd' := hide hd
    have hr' := hide hr
    have hf' := hide hf
    clear hd hr hf b1 b2 hcode v1 v2
    go_wp2
    go_loopw [] (fun wr => ∃ (k : Nat) (x : De), DB wr w.heap.size x ∧ DV k x ∧ k ≤ 2 ∧ Hid (dnorm k x = dbit p d) ∧ DB wr (w.heap.size + 1) dzero ∧ Below w.heap.size w wr) (fun wr => dsm w.heap.size wr)
    case atStart => exact ⟨2, _, hd'.out, Hpv.out, Nat.le_refl _, hide rfl, hr'.out, hf'.out⟩
    case round =>
      clear hd' hr' hf' Hpv
      obtain ⟨k, x, hx, hvx, hk, hn, hr, hf⟩ := hrel
      obtain ⟨c0, c1, c2, c3, c4⟩ := hx.cells
      have hsz := hvx.1.2
      have hcx := hvx.2
      by_cases hlt : x.size < 16777216
      · obtain ⟨j, rfl⟩ : ∃ j, k = j + 1 := by
          rcases Nat.eq_zero_or_pos k with h9 | h9
          · subst h9
            have := dv_up hvx
            omega
          · exact ⟨k - 1, by omega⟩
        have hvs := dshift_v hvx hlt
        have hen : dnorm (j + 1) x = dnorm j (dshift x) := by rw [dnorm, if_pos hlt]
        have hlt2 : (x.size : Int) < 16777216 := by omega
        have hsz0 : 0 < x.size := by
          have := hvx.1.1
          rcases Nat.eq_zero_or_pos x.size with h9 | h9
          · rw [h9, Nat.zero_mul] at this; omega
          · exact h9
        obtain ⟨Q, hQ⟩ : ∃ Q, x.size * 256 = Q := ⟨_, rfl⟩
        have i4 : (x.size : Int) * 256 = (Q : Int) := by omega
        have Hn := hide (fun W => fnext_any x hcx W)
        have hdz : (dnext x).size = x.size := dnext_v.1
        obtain ⟨E, hE⟩ : ∃ E, dnext x = E := ⟨_, rfl⟩
        have hds : dshift x = { E with size := Q } := by unfold dshift; rw [hQ, hE]
        rw [hE] at Hn hdz
        have Hen := hide hen
        have Hvs := hide hvs
        have Hds := hide hds
        have HQ := hide hQ
        have Hx := hide hx
        have Hr := hide hr
        have Hf := hide hf
        have i5 : (E.size : Int) * 256 = (Q : Int) := by omega
        clear hdz
        clear hvs hen hvx hx hlt hQ hds hE hr hf hsz hcx
        go_wp2_with fail
        refine (Hn.out _).mono ?_
        rintro y w1 ⟨rfl, hb1⟩
        have hd1 := Hx.out.below hb1
        have hr1 := Hr.out.below hb1
        have hf1 := Hf.out.trans (hb1.mono Hf.out.size)
        clear c0 c1 c2 c3 c4
        obtain ⟨c0, c1, c2, c3, c4⟩ := hd1.cells
        obtain ⟨f0, f1, f2, f3, f4⟩ := hd1.frozens
        have hdF := (hd1.putAll E).put2 Q
        have hrF := (hr1.fr (Fr.five w.heap.size (.string (bs E.rest)) (.int .i64 (E.code : Int)) (.int .i64 (E.size : Int)) (.bool E.miss) (.bool E.full)) (fun h => by have : w.heap.size + 1 = w.heap.size := h; omega)).off (b' := w.heap.size) (by omega) 2 (.int .i64 (Q : Int))
        have hfF := (hf1.trans (own_below (Fr.five w.heap.size (.string (bs E.rest)) (.int .i64 (E.code : Int)) (.int .i64 (E.size : Int)) (.bool E.miss) (.bool E.full)) hf1.size (Nat.le_refl _))).setCell (p := ⟨w.heap.size, 2, none⟩) (Nat.le_refl _) (.int .i64 (Q : Int))
        have HdF := hide hdF
        have HrF := hide hrF
        have HfF := hide hfF
        clear hd1 hr1 hf1 hdF hrF hfF hb1
        go_wp2
        refine ⟨⟨j, dshift x, ?_, Hvs.out, by omega, hide (by rw [← Hen.out, hn.out]), HrF.out, HfF.out⟩, ?_⟩
        · rw [Hds.out]
          exact HdF.out
        · show dsm _ _ < dsm _ _
          rw [dsm_eq HdF.out, dsm_eq Hx.out]
          have := HQ.out
          simp only
          omega
      · have hen : dnorm k x = x := by cases k with
          | zero => rfl
          | succ k => rw [dnorm, if_neg hlt]
        have Hen := hide (hn.out.symm.trans hen)
        have hlt2 : ¬ (x.size : Int) < 16777216 := by omega
        obtain ⟨r0, r1, r2, r3, r4⟩ := hr.cells
        obtain ⟨g0, g1, g2, g3, g4⟩ := hr.frozens
        have Hr := hide hr
        have Hf := hide hf
        clear hlt hen hn hr hf hsz hcx hvx hx
        obtain ⟨WF, hWF, u0, u1, u2, u3, u4, hfr⟩ := dres_endB x (Hr.out) (Hf.out) (by omega) 
        have HWF := hide hWF
        have HbF := hide hfr
        clear hWF hfr 
        go_wp2
        rw [HWF.out]
        refine bodyPost_ret (by simp [results, Tryz.results135, go_sem, u0, u1, u2, u3, u4]; try rfl) rfl ?_
        exact ⟨by rw [Hen.out], HbF.out⟩
theorem ddir_s (k : Nat) (d : De) : ddir (k + 1) 0 d = (2 * (ddir k 0 d).1 + dbt 1024 (ddir k 0 d).2, dbit 1024 (ddir k 0 d).2) := ddir_snoc k 0 d
set_option maxRecDepth 100000 in
set_option maxHeartbeats 2000000 in
theorem fddir_any (d : De) (hv : DV 0 d) (n : Nat) (hn : n ≤ 62) (w : World) :
    Calls Tryz.prog 107 #[.agg #[.string (bs d.rest), .int .i64 (d.code : Int), .int .i64 (d.size : Int), .bool d.miss, .bool d.full], .int .i64 (n : Int)] w fun x w' => x = .returned (.tuple #[.agg #[.string (bs (ddir n 0 d).2.rest), .int .i64 ((ddir n 0 d).2.code : Int), .int .i64 ((ddir n 0 d).2.size : Int), .bool (ddir n 0 d).2.miss, .bool (ddir n 0 d).2.full], .int .i64 ((ddir n 0 d).1 : Nat)]) ∧ Below w.heap.size w w' := by
  have hd0 : DB ((w.alloc (.cells #[.string (bs d.rest), .int .i64 (d.code : Int), .int .i64 (d.size : Int), .bool d.miss, .bool d.full] 85)).alloc (.cells #[.string ⟨#[]⟩, .int .i64 0, .int .i64 0, .bool false, .bool false] 85)) w.heap.size d := DB.alloc (Bk.new _ _ _) _
  have hr0 := dzero_new (w.alloc (.cells #[.string (bs d.rest), .int .i64 (d.code : Int), .int .i64 (d.size : Int), .bool d.miss, .bool d.full] 85))
  rw [World.size_alloc] at hr0
  have hb0 := two_below w (.cells #[.string (bs d.rest), .int .i64 (d.code : Int), .int .i64 (d.size : Int), .bool d.miss, .bool d.full] 85) (.cells #[.string ⟨#[]⟩, .int .i64 0, .int .i64 0, .bool false, .bool false] 85)
  have Hd0 := hide hd0
  have Hr0 := hide hr0
  have Hb0 := hide hb0
  have Hv := hide (fun k => ddir_v k 0 d hv)
  have Hs := hide (fun k => ddir_s k d)
  clear hd0 hr0 hb0 hv
  go_enter Tryz.func107, Tryz.ntmps107
  go_wp2
  go_loopw [6, 7] (fun v i wr => ∃ k : Nat, k ≤ n ∧ i = .int .i64 k ∧ v = .int .i64 ((ddir k 0 d).1 : Nat) ∧ DB wr w.heap.size (ddir k 0 d).2 ∧ DB wr (w.heap.size + 1) dzero ∧ Below w.heap.size w wr) (fun _ i _ => (n - intOf i).toNat)
  case atStart => exact ⟨0, by omega, rfl, rfl, Hd0.out, Hr0.out, Hb0.out⟩
  case round =>
    clear Hd0 Hr0 Hb0
    obtain ⟨k, hk, rfl, rfl, hd, hr, hf⟩ := hrel
    obtain ⟨hdv, hvl⟩ := Hv.out k
    by_cases hlt : k < n
    · have hs := Hs.out k
      have hp : (0 + 1) * 2 ^ k ≤ 2305843009213693952 := by
        rw [Nat.zero_add, Nat.one_mul]
        exact Nat.pow_le_pow_right (n := 2) (by omega) (show k ≤ 61 by omega)
      obtain ⟨D, hD⟩ : ∃ D, ddir k 0 d = D := ⟨_, rfl⟩
      rw [hD] at hs hdv hvl hd ⊢
      obtain ⟨v, D⟩ := D
      simp only at hs hdv hvl hd ⊢
      have Hb := hide (fun W => fdread_any D hdv 1024 (by omega) (by omega) W)
      have hy := dbt_le 1024 D
      obtain ⟨y, hyy⟩ : ∃ y, dbt 1024 D = y := ⟨_, rfl⟩
      obtain ⟨E, hE⟩ : ∃ E, dbit 1024 D = E := ⟨_, rfl⟩
      rw [hyy, hE] at Hb hs
      rw [hyy] at hy
      have hv61 : (v : Int) < 2305843009213693952 := by omega
      have Hst := hide hs
      obtain ⟨c0, c1, c2, c3, c4⟩ := hd.cells
      have Hd := hide hd
      have Hr := hide hr
      have Hf := hide hf
      clear hs hdv hvl hp hd hyy hr hf Hv Hs hD hE
      have Hw : Hid (wrap64 (wrap64 (2 * (v : Int)) + (y : Int)) = ((2 * v + y : Nat) : Int)) := hide (by unfold wrap64; omega)
      clear hv61
      go_wp2_with fail
      refine (Hb.out _).mono ?_
      rintro z w1 ⟨rfl, hb1⟩
      have hd1 := Hd.out.below hb1
      have hr1 := Hr.out.below hb1
      have hf1 := Hf.out.trans (hb1.mono Hf.out.size)
      clear c0 c1 c2 c3 c4
      obtain ⟨c0, c1, c2, c3, c4⟩ := hd1.cells
      obtain ⟨f0, f1, f2, f3, f4⟩ := hd1.frozens
      have l1 := Bk.lt hd1
      have hdF := (hd1.putAll E).alloc (.cells #[.string (bs E.rest), .int .i64 (E.code : Int), .int .i64 (E.size : Int), .bool E.miss, .bool E.full] 85)
      have hrF := (hr1.fr (Fr.five w.heap.size (.string (bs E.rest)) (.int .i64 (E.code : Int)) (.int .i64 (E.size : Int)) (.bool E.miss) (.bool E.full)) (fun h => by have : w.heap.size + 1 = w.heap.size := h; omega)).alloc (.cells #[.string (bs E.rest), .int .i64 (E.code : Int), .int .i64 (E.size : Int), .bool E.miss, .bool E.full] 85)
      have hfF := hf1.trans (own_below (Fr.five w.heap.size (.string (bs E.rest)) (.int .i64 (E.code : Int)) (.int .i64 (E.size : Int)) (.bool E.miss) (.bool E.full)) hf1.size (Nat.le_refl _))
      have hfG := hfF.alloc hfF.size (.cells #[.string (bs E.rest), .int .i64 (E.code : Int), .int .i64 (E.size : Int), .bool E.miss, .bool E.full] 85)
      have HdF := hide hdF
      have HrF := hide hrF
      have HfF := hide hfG
      clear hd1 hr1 hf1 hdF hrF hfF hfG hb1 Hd Hr Hf
      go_wp2
      refine ⟨⟨k + 1, by omega, by go_num, by rw [Hw.out, Hst.out], by rw [Hst.out]; exact HdF.out, HrF.out, HfF.out⟩, ?_⟩
      simp [intOf] <;> omega
    · have : k = n := by omega
      subst this
      obtain ⟨D, hD⟩ : ∃ D, ddir k 0 d = D := ⟨_, rfl⟩
      have HD := hide hD
      rw [hD] at hd ⊢
      obtain ⟨v, D⟩ := D
      simp only at hd ⊢
      obtain ⟨c0, c1, c2, c3, c4⟩ := hd.cells
      obtain ⟨r0, r1, r2, r3, r4⟩ := hr.cells
      obtain ⟨g0, g1, g2, g3, g4⟩ := hr.frozens
      have Hr := hide hr
      have Hf := hide hf
      clear hd hr hf hD Hs Hv hdv hvl
      obtain ⟨WF, hWF, u0, u1, u2, u3, u4, hfr⟩ := dres_endB D (Hr.out) (Hf.out) (by omega) 
      have HWF := hide hWF
      have HbF := hide hfr
      clear hWF hfr 
      go_wp2
      rw [HWF.out]
      refine bodyPost_ret (by simp [results, Tryz.results107, go_sem, u0, u1, u2, u3, u4]; try rfl) rfl ?_
      exact ⟨by rw [HD.out], HbF.out⟩
set_option maxHeartbeats 1000000 in
theorem fend_any (d : De) (w : World) :
    Calls Tryz.prog 67 #[.agg #[.string (bs d.rest), .int .i64 (d.code : Int), .int .i64 (d.size : Int), .bool d.miss, .bool d.full]] w fun x w' => x = .returned (.int .i64 (endV d)) ∧ Below w.heap.size w w' := by
  have hb0 := (Below.refl w.heap.size w).alloc (Nat.le_refl _) (.cells #[.string (bs d.rest), .int .i64 (d.code : Int), .int .i64 (d.size : Int), .bool d.miss, .bool d.full] 85)
  obtain ⟨rest, code, size, miss, full⟩ := d
  have Hb0 := hide hb0
  clear hb0
  simp only at Hb0 ⊢
  have he : endV ⟨rest, code, size, miss, full⟩ = if (!miss && !full && rest.isEmpty && code == 0) = true then 0 else 12 := rfl
  have hrest : (rest.isEmpty = true ∧ (bs rest).toList.isEmpty = true) ∨ (rest.isEmpty = false ∧ (bs rest).toList.isEmpty = false) := by
    cases rest with
    | nil => exact .inl ⟨rfl, emp1 rfl⟩
    | cons c t => exact .inr ⟨rfl, emp0 (by rw [bs_size]; simp)⟩
  have hcode : (((code : Int) != 0) = false ∧ (code == 0) = true) ∨ (((code : Int) != 0) = true ∧ (code == 0) = false) := by
    by_cases h : code = 0
    · subst h; exact .inl ⟨rfl, rfl⟩
    · refine .inr ⟨?_, ?_⟩
      · rw [bne_iff_ne]; omega
      · rw [beq_eq_false_iff_ne]; exact h
  obtain ⟨c, hc⟩ : ∃ c : Int, (code : Int) = c := ⟨_, rfl⟩
  rw [hc] at hcode Hb0 ⊢
  clear hc
  have He := hide he
  clear he
  rcases hrest with ⟨h1, h2⟩ | ⟨h1, h2⟩ <;> rcases hcode with ⟨h3, h4⟩ | ⟨h3, h4⟩ <;> cases miss <;> cases full
  all_goals
    have he := He.out
    rw [h1, h4] at he
    have He2 := hide he
    clear he He h1 h4
    generalize bs rest = s at *
    go_enter Tryz.func67, Tryz.ntmps67
    go_wp2
    go_returns
    rw [He2.out]
    exact ⟨rfl, (Below.refl w.heap.size w).alloc (Nat.le_refl _) _⟩
end Go.Proofs.YtgllednilkfpgaaGreat
