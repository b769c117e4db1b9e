/-
  Joined texts: Se, BioRef6, Sf, Sg.
-/
import Derived.Test.YtoeeblldgoccoaaGreatJ17
import Derived.Test.YtoeeblldgoccoaaGreatJ23
set_option linter.unusedVariables false
set_option linter.unusedSimpArgs false
/-
  The walks over the references: the range coder's encoder, many bits; its bytes.
-/
namespace Go.Proofs.YtoeeblldgoccoaaGreat
open Go.RowKit Go.Proofs Wv Wv.Vi Wv.Rc
set_option linter.unusedVariables false
theorem RB.en {w : World} {b : Nat} {A : Option Addr} {cap : Nat} {e : En} (h : RB w b A cap e) : REn w (.agg #[.slice A e.out.length cap, .int .i64 (e.low : Int), .int .i64 (e.size : Int)]) e := ⟨A, cap, rfl, h.2⟩
theorem bv_not (o : List UInt8) (A : Option Addr) (n cap : Nat) (x y : Int) : ∀ v ∈ o.map bv, v ∉ (#[.slice A n cap, .int .i64 x, .int .i64 y] : Array Value).toList := fun v hv => by
 obtain ⟨y, _, rfl⟩ := List.mem_map.1 hv
 simp [bv]
theorem RB.putAll {w : World} {b : Nat} {A A' : Option Addr} {cap cap' : Nat} {e e' : En} (h : RB w b A cap e) (ha : At w A' (e'.out.map bv)) :
  RB (((w.setCell ⟨b, 0, none⟩ (.slice A' e'.out.length cap')).setCell ⟨b, 1, none⟩ (.int .i64 (e'.low : Int))).setCell ⟨b, 2, none⟩ (.int .i64 (e'.size : Int))) b A' cap' e' :=
 ((h.put0 ha).put1 e'.low).put2 e'.size
theorem res_end {w : World} {b r : Nat} {A : Option Addr} {cap : Nat} {e : En} {cs : Array Value} (h : RB w b A cap e) (hr : Bk w r 122 cs) (hc : cs = #[.slice none 0 0, .int .i64 0, .int .i64 0]) :
  ∃ W, ((w.setCell ⟨r, 0, none⟩ (.slice A e.out.length cap)).setCell ⟨r, 1, none⟩ (.int .i64 (e.low : Int))).setCell ⟨r, 2, none⟩ (.int .i64 (e.size : Int)) = W ∧ W.cell? ⟨r, 0, none⟩ = some (.slice A e.out.length cap) ∧ W.cell? ⟨r, 1, none⟩ = some (.int .i64 (e.low : Int)) ∧ W.cell? ⟨r, 2, none⟩ = some (.int .i64 (e.size : Int)) ∧
   REn W (.agg #[.slice A e.out.length cap, .int .i64 (e.low : Int), .int .i64 (e.size : Int)]) e ∧ Fr (only r) w W := by
 subst hc
 have hf : Fr (only r) w (((w.setCell ⟨r, 0, none⟩ (.slice A e.out.length cap)).setCell ⟨r, 1, none⟩ (.int .i64 (e.low : Int))).setCell ⟨r, 2, none⟩ (.int .i64 (e.size : Int))) :=
  (((Fr.refl (only r) w).setCell (p := ⟨r, 0, none⟩) (.inl rfl) _).setCell (p := ⟨r, 1, none⟩) (.inl rfl) _).setCell (p := ⟨r, 2, none⟩) (.inl rfl) _
 have hk := ((hr.put 0 (.slice A e.out.length cap)).put 1 (.int .i64 (e.low : Int))).put 2 (.int .i64 (e.size : Int))
 exact ⟨_, rfl, hk.cell 0, hk.cell 1, hk.cell 2, ⟨A, cap, rfl, at_only h.2 hr (bv_not _ _ _ _ _ _) hf⟩, hf⟩
theorem own_below {w w' : World} {r : Nat} (hf : Fr (only r) w w') {B : Nat} (hB : B ≤ w.heap.size) (hr : B ≤ r) : Below B w w' := hf.toBelow' hB (fun j hj e => by have : j = r := e; omega)

set_option maxRecDepth 100000 in
set_option maxHeartbeats 2000000 in
theorem fdirect_any {w : World} {v : Value} {e : En} (h : REn w v e) (hv : Val 0 e) (n u : Nat) (hn : n ≤ 62) (hu : u ≤ 9223372036854775807) (hl : e.out.length ≤ 900000) :
  Calls Tryz.prog 150 #[v, .int .i64 (n : Int), .int .i64 (u : Int)] w fun x w' => ∃ v', x = .returned v' ∧ REn w' v' (edir n u e) ∧ Below w.heap.size w w' := by
 obtain ⟨A, cap, rfl, hat⟩ := h
 have ha := and1
 have hrb0 : RB ((w.alloc (.cells #[.slice A e.out.length cap, .int .i64 (e.low : Int), .int .i64 (e.size : Int)] 122)).alloc (.cells #[.slice none 0 0, .int .i64 0, .int .i64 0] 122)) w.heap.size A cap e :=
  RB.alloc ⟨Bk.new _ _ _, hat.alloc _⟩ _
 have hbel0 := (((Below.refl w.heap.size w).alloc (Nat.le_refl _) (.cells #[.slice A e.out.length cap, .int .i64 (e.low : Int), .int .i64 (e.size : Int)] 122)).alloc (by simp) (.cells #[.slice none 0 0, .int .i64 0, .int .i64 0] 122))
 have hres0 := (Bk.new (w.alloc (.cells #[.slice A e.out.length cap, .int .i64 (e.low : Int), .int .i64 (e.size : Int)] 122)) 122 #[.slice none 0 0, .int .i64 0, .int .i64 0])
 simp only [World.size_alloc] at hres0
 have Hrb0 := hide hrb0
 have Hbel0 := hide hbel0
 have Hres0 := hide hres0
 clear hrb0 hbel0 hres0 hat
 go_enter Tryz.func150, Tryz.ntmps150
 go_wp2
 go_loopw [7] (fun i wr => ∃ (j : Nat) (A' : Option Addr) (cap' : Nat), j ≤ n ∧ i = .int .i64 ((j : Int) - 1) ∧ RB wr w.heap.size A' cap' (edir (n - j) (u / 2 ^ j) e) ∧ Bk wr (w.heap.size + 1) 122 #[.slice none 0 0, .int .i64 0, .int .i64 0] ∧ Below w.heap.size w wr) (fun i _ => (intOf i + 1).toNat)
 case atStart => exact ⟨n, A, cap, by omega, rfl, by rw [Nat.sub_self]; exact Hrb0.out, Hres0.out, Hbel0.out⟩
 case round =>
  clear Hrb0 Hbel0 Hres0
  obtain ⟨j, A1, cap1, hj, rfl, hx, hres, hf⟩ := hrel
  by_cases hlt : 0 < j
  ·obtain ⟨k, rfl⟩ : ∃ k, j = k + 1 := ⟨j - 1, by omega⟩
   have hg := edir_grow n k u e (by omega)
   have hlen := edir_len (n - (k + 1)) (u / 2 ^ (k + 1)) e
   have hval := edir_val (n - (k + 1)) (u / 2 ^ (k + 1)) hv
   have i1 : ((k + 1 : Nat) : Int) - 1 = (k : Int) := by omega
   rw [i1]
   obtain ⟨E, hE⟩ : ∃ E, edir (n - (k + 1)) (u / 2 ^ (k + 1)) e = E := ⟨_, rfl⟩
   obtain ⟨y, hy⟩ : ∃ y, u / 2 ^ k % 2 = y := ⟨_, rfl⟩
   have hy2 : y < 2 := by omega
   have i2 : (u : Int) / 2 ^ k % 2 = (y : Int) := by rw [← hy, Int.natCast_emod, Int.natCast_ediv, Int.natCast_pow]; rfl
   rw [hE] at hg hlen hval hx
   rw [hy] at hg
   have Hb := hide (fbit_any hx.drew.en hval 1024 y (by omega) (by omega) hy2 (by omega))
   have Hg := hide hg
   have c0 : wr.cell? ⟨w.heap.size, 0, none⟩ = some (.slice A1 E.out.length cap1) := hx.1.cell 0
   have c1 : wr.cell? ⟨w.heap.size, 1, none⟩ = some (.int .i64 (E.low : Int)) := hx.1.cell 1
   have c2 : wr.cell? ⟨w.heap.size, 2, none⟩ = some (.int .i64 (E.size : Int)) := hx.1.cell 2
   have Hx := hide hx
   have Hres := hide hres
   have Hf := hide hf
   have hkn : k < 63 := by omega
   clear hg hE hy hx hlen hval hres hf
   go_wp2
   go_region_with ((go_at_call 177; refine (Hb.out).mono ?_; rintro x w2 ⟨v2, rfl, ⟨A2, cap2, rfl, hat2⟩, hb2⟩; have hrb2 := Hx.out.drew.below hb2; have p0 := hrb2.1.frozen 0; have p1 := hrb2.1.frozen 1; have p2 := hrb2.1.frozen 2; have q0 : w2.cell? ⟨w.heap.size, 0, none⟩ = some (.slice A1 E.out.length cap1) := hrb2.1.cell 0; have q1 : w2.cell? ⟨w.heap.size, 1, none⟩ = some (.int .i64 (E.low : Int)) := hrb2.1.cell 1; have q2 : w2.cell? ⟨w.heap.size, 2, none⟩ = some (.int .i64 (E.size : Int)) := hrb2.1.cell 2; have Hrb2 := hide hrb2; have Hat2 := hide hat2; have Hb2 := hide hb2; clear hrb2 hat2 hb2))
   all_goals
    go_wp2
    refine ⟨⟨k, A2, cap2, by omega, rfl, ?_, ?_, ?_⟩, ?_⟩
    ·rw [Hg.out]
     exact Hrb2.out.putAll Hat2.out
    ·exact (((Hres.out.drew.below Hb2.out Hres.out.lt).off (p := ⟨w.heap.size, 0, none⟩) (by simp) _).off (p := ⟨w.heap.size, 1, none⟩) (by simp) _).off (p := ⟨w.heap.size, 2, none⟩) (by simp) _
    ·exact (((Hf.out.drew.trans (Hb2.out.mono Hf.out.size)).setCell (p := ⟨w.heap.size, 0, none⟩) (Nat.le_refl _) _).setCell (p := ⟨w.heap.size, 1, none⟩) (Nat.le_refl _) _).setCell (p := ⟨w.heap.size, 2, none⟩) (Nat.le_refl _) _
    ·simp [intOf] <;> omega
  ·have hj0 : j = 0 := by omega
   subst hj0
   rw [Nat.sub_zero, Nat.pow_zero, Nat.div_one] at hx
   obtain ⟨E, hE⟩ : ∃ E, edir n u e = E := ⟨_, rfl⟩
   rw [hE] at hx
   have HE := hide hE
   obtain ⟨WF, hWF, u0, u1, u2, hren, hfr⟩ := res_end hx hres rfl
   have c0 : wr.cell? ⟨w.heap.size, 0, none⟩ = some (.slice A1 E.out.length cap1) := hx.1.cell 0
   have c1 : wr.cell? ⟨w.heap.size, 1, none⟩ = some (.int .i64 (E.low : Int)) := hx.1.cell 1
   have c2 : wr.cell? ⟨w.heap.size, 2, none⟩ = some (.int .i64 (E.size : Int)) := hx.1.cell 2
   have z0 : wr.cell? ⟨w.heap.size + 1, 0, none⟩ = some (.slice none 0 0) := hres.cell 0
   have z1 : wr.cell? ⟨w.heap.size + 1, 1, none⟩ = some (.int .i64 0) := hres.cell 1
   have z2 : wr.cell? ⟨w.heap.size + 1, 2, none⟩ = some (.int .i64 0) := hres.cell 2
   have y0 := hres.frozen 0
   have y1 := hres.frozen 1
   have y2 := hres.frozen 2
   have hbe := own_below hfr hf.size (show w.heap.size ≤ w.heap.size + 1 by omega)
   have Hren := hide hren
   have Hbe := hide (hf.trans hbe)
   have HWF := hide hWF
   clear hx hres hf hren hbe hfr hWF hE
   go_wp2
   rw [HWF.out]
   clear c0 c1 c2 z0 z1 z2 y0 y1 y2
   refine bodyPost_ret (by simp [results, Tryz.results150, go_sem, u0, u1, u2]; try rfl) rfl ?_
   exact ⟨_, rfl, by rw [HE.out]; exact Hren.out, Hbe.out⟩
theorem conv_at {P : Program} (src dst e : TypeId) (hs : P.underlying src = some (.slice e)) (he : P.underlying e = some (.int .u8)) (hd : P.underlying dst = some .string) {w : World} {A : Option Addr} {l : List UInt8} (h : At w A (l.map bv)) (cap : Nat) :
  (convert src dst (.slice A l.length cap)).run P w = .ok (.string (bs l)) w := by
 cases A with
 | none =>
  have hl : l = [] := by
   rcases l with _ | ⟨c, t⟩
   ·rfl
   ·obtain ⟨b, p, h, _⟩ := h 0 (by simp)
    cases h
  subst hl
  exact run_convert_bytes_nil w src e hs he 0 cap dst hd
 | some a =>
  refine run_convert_bytes_back w src dst e a cap l hs he hd (fun j hj => ?_)
  obtain ⟨b, o, hA, hb, hc⟩ := h j (by rw [List.length_map]; exact hj)
  injection hA with hA
  subst hA
  rw [Go.WideShapes.add_plain, hc]
  simp [bv]
set_option maxHeartbeats 1000000 in
theorem ffinish_any {w : World} {v : Value} {e : En} (h : REn w v e) (hlow : e.low < 4294967296) (hl : e.out.length ≤ 1000000) :
  Calls Tryz.prog 113 #[v] w fun x w' => x = .returned (.string (bs (efin e))) ∧ Below w.heap.size w w' := by
 obtain ⟨A, cap, rfl, hat⟩ := h
 obtain ⟨a1, h1⟩ : ∃ a, e.low / 16777216 = a := ⟨_, rfl⟩
 obtain ⟨a2, h2⟩ : ∃ a, e.low / 65536 % 256 = a := ⟨_, rfl⟩
 obtain ⟨a3, h3⟩ : ∃ a, e.low / 256 % 256 = a := ⟨_, rfl⟩
 obtain ⟨a4, h4⟩ : ∃ a, e.low % 256 = a := ⟨_, rfl⟩
 have i1 : (e.low : Int) / 16777216 = (a1 : Int) := by omega
 have i2 : (e.low : Int) / 65536 % 256 = (a2 : Int) := by omega
 have i3 : (e.low : Int) / 256 % 256 = (a3 : Int) := by omega
 have i4 : (e.low : Int) % 256 = (a4 : Int) := by omega
 have j1 : (a1 : Int) % 256 = (a1 : Int) := by omega
 have H1 := hide h1
 have H2 := hide h2
 have H3 := hide h3
 have H4 := hide h4
 have l1 : a1 < 256 := by omega
 have l2 : a2 < 256 := by omega
 have l3 : a3 < 256 := by omega
 have l4 : a4 < 256 := by omega
 clear h1 h2 h3 h4
 have hcv1 := conv_at (P := Tryz.prog) 42 9 5 Tryz.underlying42 Tryz.underlying5 Tryz.underlying9 (hat.alloc (.cells #[.slice A e.out.length cap, .int .i64 (e.low : Int), .int .i64 (e.size : Int)] 122)) cap
 have hb2 : Below w.heap.size w ((w.alloc (.cells #[.slice A e.out.length cap, .int .i64 (e.low : Int), .int .i64 (e.size : Int)] 122)).alloc (.cells #[.int .u8 (a1 : Int), .int .u8 (a2 : Int), .int .u8 (a3 : Int), .int .u8 (a4 : Int)] 5)) := ((Below.refl _ _).alloc (Nat.le_refl _) _).alloc (by simp) _
 have hK : Bk ((w.alloc (.cells #[.slice A e.out.length cap, .int .i64 (e.low : Int), .int .i64 (e.size : Int)] 122)).alloc (.cells #[.int .u8 (a1 : Int), .int .u8 (a2 : Int), .int .u8 (a3 : Int), .int .u8 (a4 : Int)] 5)) (w.heap.size + 1) 5 #[.int .u8 (a1 : Int), .int .u8 (a2 : Int), .int .u8 (a3 : Int), .int .u8 (a4 : Int)] := by
  have := Bk.new (w.alloc (.cells #[.slice A e.out.length cap, .int .i64 (e.low : Int), .int .i64 (e.size : Int)] 122)) 5 #[.int .u8 (a1 : Int), .int .u8 (a2 : Int), .int .u8 (a3 : Int), .int .u8 (a4 : Int)]
  rw [World.size_alloc] at this
  exact this
 have hcv2 : (convert 42 9 (.slice (some ⟨w.heap.size + 1, 0, none⟩) 4 4)).run Tryz.prog ((w.alloc (.cells #[.slice A e.out.length cap, .int .i64 (e.low : Int), .int .i64 (e.size : Int)] 122)).alloc (.cells #[.int .u8 (a1 : Int), .int .u8 (a2 : Int), .int .u8 (a3 : Int), .int .u8 (a4 : Int)] 5)) = .ok (.string (bs [UInt8.ofNat a1, UInt8.ofNat a2, UInt8.ofNat a3, UInt8.ofNat a4])) ((w.alloc (.cells #[.slice A e.out.length cap, .int .i64 (e.low : Int), .int .i64 (e.size : Int)] 122)).alloc (.cells #[.int .u8 (a1 : Int), .int .u8 (a2 : Int), .int .u8 (a3 : Int), .int .u8 (a4 : Int)] 5)) := by
  refine run_convert_bytes_back _ 42 9 5 ⟨w.heap.size + 1, 0, none⟩ 4 [UInt8.ofNat a1, UInt8.ofNat a2, UInt8.ofNat a3, UInt8.ofNat a4] Tryz.underlying42 Tryz.underlying5 Tryz.underlying9 (fun j hj => ?_)
  have hj4 : j < 4 := hj
  rw [Go.WideShapes.add_plain, Nat.zero_add, hK.cell]
  have : j = 0 ∨ j = 1 ∨ j = 2 ∨ j = 3 := by omega
  rcases this with rfl | rfl | rfl | rfl <;> simp [Nat.mod_eq_of_lt, *]
 have hsz : (bs e.out).size ≤ 1000000 := by rw [bs_size]; exact hl
 have hsz2 : (bs [UInt8.ofNat a1, UInt8.ofNat a2, UInt8.ofNat a3, UInt8.ofNat a4]).size = 4 := rfl
 have Hr := hide (show bs e.out ++ bs [UInt8.ofNat a1, UInt8.ofNat a2, UInt8.ofNat a3, UInt8.ofNat a4] = bs (efin e) from by
  rw [bs_append, efin, be4, ← H1.out, ← H2.out, ← H3.out, ← H4.out]
  have q : ∀ x : Nat, UInt8.ofNat (x % 256) = UInt8.ofNat x := fun x => by apply UInt8.toNat_inj.1; simp
  rw [q, q, q])
 generalize bs e.out = s1 at *
 generalize bs [UInt8.ofNat a1, UInt8.ofNat a2, UInt8.ofNat a3, UInt8.ofNat a4] = s2 at *
 have Hb2 := hide hb2
 clear hat hK hb2 l1 l2 l3 l4 hlow hl
 go_enter Tryz.func113, Tryz.ntmps113
 go_wp2
 go_returns
 exact ⟨ret_str Hr.out, Hb2.out⟩
end Go.Proofs.YtoeeblldgoccoaaGreat
namespace Go.Proofs.YtoeeblldgoccoaaGreat.Bio
set_option maxRecDepth 100000
open Go.RowKit Go.Proofs Wv Wv.Bit

end Go.Proofs.YtoeeblldgoccoaaGreat.Bio
/-
  The walks over the references: models, a tree and its coding of a number.
-/
namespace Wv
open Go Go.RowKit
set_option linter.unusedVariables false
theorem and_two (n k : Nat) (hn : n < 9223372036854775808) (hk : k < 63) : bits .and .i64 (n : Int) ((2 ^ k : Nat) : Int) = ((n / 2 ^ k % 2 * 2 ^ k : Nat) : Int) := by
 have hp : 2 ^ k < 2 ^ 63 := Nat.pow_lt_pow_right (by omega) hk
 have e1 : (BitVec.ofInt 64 (n : Int)).toNat = n := by
  rw [BitVec.toNat_ofInt]
  have : ((n : Int) % ((2 ^ 64 : Nat) : Int)) = (n : Int) := Int.emod_eq_of_lt (by omega) (by omega)
  rw [this, Int.toNat_natCast]
 have e2 : (BitVec.ofInt 64 ((2 ^ k : Nat) : Int)).toNat = 2 ^ k := by
  rw [BitVec.toNat_ofInt]
  generalize 2 ^ k = p at *
  have : ((p : Int) % ((2 ^ 64 : Nat) : Int)) = (p : Int) := Int.emod_eq_of_lt (by omega) (by omega)
  rw [this, Int.toNat_natCast]
 have key : (BitVec.ofInt 64 (n : Int) &&& BitVec.ofInt 64 ((2 ^ k : Nat) : Int)).toNat = n / 2 ^ k % 2 * 2 ^ k := by
  rw [BitVec.toNat_and, e1, e2]
  apply Nat.eq_of_testBit_eq
  intro i
  rw [Nat.testBit_and, Nat.testBit_two_pow]
  have h2 : n / 2 ^ k % 2 = 0 ∨ n / 2 ^ k % 2 = 1 := by omega
  have h3 : n.testBit k = decide (n / 2 ^ k % 2 = 1) := Nat.testBit_eq_decide_div_mod_eq
  by_cases hik : k = i
  ·subst hik
   rcases h2 with h | h
   ·rw [h3, h]; simp
   ·rw [h3, h, Nat.one_mul, Nat.testBit_two_pow]; simp
  ·rcases h2 with h | h
   ·rw [h]; simp [hik]
   ·rw [h, Nat.one_mul, Nat.testBit_two_pow]; simp [hik]
 show IntKind.i64.wrap ((BitVec.ofInt 64 (n : Int) &&& BitVec.ofInt 64 ((2 ^ k : Nat) : Int)).toNat : Nat) = _
 rw [key]
 have : n / 2 ^ k % 2 * 2 ^ k ≤ 2 ^ k := by
  have h2 : n / 2 ^ k % 2 ≤ 1 := by omega
  exact Nat.le_trans (Nat.mul_le_mul_right _ h2) (by omega)
 rw [IntWalk.i64_in _ (by omega)]
end Wv
namespace Go.Proofs.YtoeeblldgoccoaaGreat
open Go.RowKit Go.Proofs Wv Wv.Vi Wv.Rc Wv.Mo
set_option linter.unusedVariables false

def ns (t : List Nat) : List Value := ivs (t.map Int.ofNat)
theorem ns_len (t : List Nat) : (ns t).length = t.length := by simp [ns, ivs]
theorem ns_get (t : List Nat) (i : Nat) (h : i < t.length) : (ns t)[i]? = some (.int .i64 (t.getD i 0 : Nat)) := by
 have : t.getD i 0 = t[i] := by simp [List.getD, h]
 rw [this]
 simp [ns, ivs, iv, h]
theorem ns_set (t : List Nat) (i z : Nat) : (ns t).set i (.int .i64 (z : Int)) = ns (t.set i z) := by simp [ns, ivs, iv, List.map_set]
theorem ns_snoc (t : List Nat) (z : Nat) : ns (t ++ [z]) = ns t ++ [.int .i64 (z : Int)] := by simp [ns, ivs, iv]
theorem ns_one (t : List Nat) : ∀ y ∈ ns t, y.oneCell' = true := by
 intro y hy
 unfold ns ivs at hy
 obtain ⟨b, _, rfl⟩ := List.mem_map.1 hy
 rfl
set_option maxHeartbeats 400000 in
theorem fadapt_any (z b : Nat) (h1 : 1 ≤ z) (h2 : z ≤ 2047) (hb : b < 2) (w : World) :
  Calls Tryz.prog 179 #[.int .i64 (z : Int), .int .i64 (b : Int)] w fun x w' => x = .returned (.int .i64 (adapt z b : Nat)) ∧ w = w' := by
 have hz : b = 0 ∨ b = 1 := by omega
 rcases hz with rfl | rfl
 ·have ha := hide (show adapt z 0 = z + (2048 - z) / 32 by unfold adapt; rw [if_pos rfl])
  go_enter Tryz.func179, Tryz.ntmps179
  go_wp2
  go_ret
  exact ⟨ret_int (by rw [ha.out]; omega), rfl⟩
 ·have ha := hide (show adapt z 1 = z - z / 32 by unfold adapt; rw [if_neg (by omega)])
  have hne : (((1 : Nat) : Int) == 0) = false := rfl
  go_enter Tryz.func179, Tryz.ntmps179
  go_wp2
  go_ret
  exact ⟨ret_int (by rw [ha.out]; omega), rfl⟩
set_option maxHeartbeats 400000 in
theorem flength_any (n : Nat) (h63 : n ≤ 9223372036854775807) (w : World) :
  Calls Tryz.prog 148 #[.int .i64 (n : Int)] w fun e w' => e = .returned (.int .i64 (blen n : Nat)) ∧ w = w' := by
 have hbl : blen n ≤ 64 := by
  unfold blen
  split
  ·omega
  ·have := (Nat.log2_lt (n := n) (k := 63) (by omega)).2 (by omega)
   omega
 go_enter Tryz.func148, Tryz.ntmps148
 go_wp2
 go_loop [0, 3] (fun x v => ∃ j k : Nat, j ≤ n ∧ blen j + k ≤ blen n ∧ blen n ≤ blen j + k ∧ x = .int .i64 j ∧ v = .int .i64 k) (fun x _ => (intOf x).toNat)
 case atStart => exact ⟨n, 0, by omega, by omega, by omega, rfl, rfl⟩
 case round =>
  obtain ⟨j, k, hj, h1, h2, rfl, rfl⟩ := hrel
  by_cases hlt : 0 < j
  ·have hb := blen_half j hlt
   have h3 : blen (j / 2) + (k + 1) ≤ blen n := by omega
   have h4 : blen n ≤ blen (j / 2) + (k + 1) := by omega
   clear hb
   go_wp2
   go_round
   case rel => exact ⟨j / 2, k + 1, by omega, h3, h4, by go_num, by go_num⟩
   case measure => simp [intOf]; omega
  ·have : j = 0 := by omega
   subst this
   have h0 : blen 0 = 0 := rfl
   rw [h0] at h1 h2
   have h3 : k = blen n := by omega
   clear hlt h1 h2
   go_wp2
   go_ret
   exact ⟨ret_int (by omega), rfl⟩
set_option maxHeartbeats 1000000 in
theorem fset_any {w : World} {A : Option Addr} {t : List Nat} (ha : At w A (ns t)) (n cap : Nat) (hn : n = t.length) (m z : Nat) (hm : m < t.length) (ht : t.length ≤ 4096) :
  Calls Tryz.prog 178 #[.slice A n cap, .int .i64 (m : Int), .int .i64 (z : Int)] w fun x w' => ∃ A' cap', x = .returned (.slice A' n cap') ∧ At w' A' (ns (t.set m z)) ∧ Below w.heap.size w w' ∧ (∀ b o, A' = some ⟨b, o, none⟩ → w.heap.size ≤ b) := by
 have hA : A = none → ns t = [] := by
  rintro rfl
  obtain ⟨b, p, h, _⟩ := ha 0 (by rw [ns_len]; omega)
  cases h
 obtain ⟨v', w1, hrun, hown, hbel, _⟩ := run_copy (P := Tryz.prog) 124 3 _ _ Tryz.underlying124 intinf rfl ha cap n (by rw [ns_len, hn]) hA (ns_one t) (by unfold maxLen; omega) (by omega)
 obtain ⟨g, cap', rfl, hcap⟩ := own_form hown (by omega)
 obtain ⟨c1, c2⟩ := own_cell hown m _ (ns_get t m hm)
 have hput := own_put hown m (by omega) (.int .i64 (z : Int))
 rw [ns_set] at hput
 have hbel2 := hbel.setCell (p := ⟨g, m, none⟩) ((hown.lt g rfl).1) (.int .i64 (z : Int))
 have Hrun := hide hrun
 have Hput := hide hput
 have Hbel := hide hbel2
 have hmn : m < n := by omega
 have hgb := (hown.lt g rfl).1
 clear hrun ha hA hown hbel hput hbel2 hn hm ht
 go_enter Tryz.func178, Tryz.ntmps178
 go_wp2_with (
  at_builtin
  refine wpList_run (by with_reducible rfl) rfl _ _ _ rfl _ _ (by rfl) (by rfl) Hrun.out ?_)
 go_returns
 obtain ⟨A', cap2, hv, hat⟩ := own_at Hput.out
 injection hv with h1 h2 h3
 subst h1; subst h3
 exact ⟨_, cap', rfl, hat, Hbel.out, fun b o h => by injection h with h; injection h with h; omega⟩
set_option maxHeartbeats 1000000 in
theorem fnewtree_any (w : World) :
  Calls Tryz.prog 111 #[.int .i64 6] w fun x w' => ∃ A' cap', x = .returned (.slice A' 64 cap') ∧ At w' A' (ns t0) ∧ Below w.heap.size w w' := by
 obtain ⟨i0, hi, hz0, hz1, hz2⟩ := info_parts intinf
 have Hinf := hide (And.intro hi (And.intro hz0 (And.intro hz1 hz2)))
 have ho0 := hide (own_made0 3 w)
 have hb0 := hide ((Below.refl w.heap.size w).alloc (Nat.le_refl _) (.cells #[] 3))
 clear hi hz0 hz1 hz2
 go_enter Tryz.func111, Tryz.ntmps111
 go_wp2
 go_loopw [3, 4] (fun v i wr => ∃ k : Nat, k ≤ 64 ∧ i = .int .i64 k ∧ wr.ownsRow w.heap.size 3 1 v k (ns (List.replicate k 1024)) ∧ Below w.heap.size w wr) (fun _ i _ => (64 - intOf i).toNat)
 case atStart => exact ⟨0, by omega, rfl, ho0.out, hb0.out⟩
 case round =>
  obtain ⟨k, hk, rfl, hown, hf⟩ := hrel
  by_cases hlt : k < 64
  ·obtain ⟨A5, cap5, hv5, _⟩ := own_at hown
   subst hv5
   have hp1 : k + 1 ≤ maxLen := by unfold maxLen; omega
   have hp2 : (k + 1) * 8 ≤ 140737488355328 := by omega
   have Hp := hide (And.intro hp1 hp2)
   have hbase := hf.size
   have Hown := hide hown
   have Hf := hide hf
   obtain ⟨hi, hz0, hz1, hz2⟩ := Hinf.out
   have hlt2 : (k : Int) < 64 := by omega
   have Hk := hide (And.intro hk hlt)
   have Hbase := hide hbase
   clear hown hf ho0 hb0 hp1 hp2 hk hlt hbase
   go_wp2_with (
    at_builtin
    refine wpList_append_own_at _ rfl (.tmp 12) (.tmp 13) _ rfl w.heap.size 3 i0 (.int .i64 0) 1 8 Tryz.underlying124 hi hz0 hz1 hz2 rfl (by omega) (.slice A5 k cap5) k (ns (List.replicate k 1024)) (by rfl) (Hown.out.alloc _) ⟨_, 0, none⟩ 1 1 [.int .i64 1024] (by rfl) rfl (news_one _ _ _) (by simp [Value.oneCell']) Hp.out.1 Hp.out.2 (Nat.le_trans Hbase.out (by simp)) ?_
    intro v' w3 hown1 hg1 _ hat1
    have Hown1 := hide hown1
    have Hg1 := hide hg1
    clear hown1 hg1 hat1)
   have hbase := Hbase.out
   have hf3 : Below w.heap.size w w3 := (Hf.out.alloc hbase (.cells #[.int .i64 1024] 3)).grown Hg1.out (Nat.le_trans hbase (by simp)) (fun j hj => (Hown.out.lt j hj).1)
   have ho3 : w3.ownsRow w.heap.size 3 1 v' (k + 1) (ns (List.replicate (k + 1) 1024)) := by
    have := Hown1.out
    rw [List.replicate_succ', ns_snoc]
    exact this
   have Ho3 := hide ho3
   have Hf3 := hide hf3
   clear Hown1 Hg1 Hown Hf ho3 hf3 hi hz0 hz1 hz2 hbase Hp
   go_wp2
   go_roundw
   case rel => exact ⟨k + 1, (by have := Hk.out; omega), by go_num, Ho3.out, Hf3.out⟩
   case measure => simp [intOf] <;> omega
  ·have hk64 : k = 64 := by omega
   clear hk hlt
   subst hk64
   obtain ⟨A5, cap5, hv5, hat⟩ := own_at hown
   subst hv5
   have Hat := hide hat
   clear hown ho0 hb0 hat
   go_wp2
   go_returns
   exact ⟨_, _, rfl, Hat.out, hf⟩
end Go.Proofs.YtoeeblldgoccoaaGreat
/-
  The walks over the references: models, a tree's coding of a number, a number.
-/
namespace Go.Proofs.YtoeeblldgoccoaaGreat
open Go.RowKit Go.Proofs Wv Wv.Vi Wv.Rc Wv.Mo
set_option linter.unusedVariables false

def ERT (w : World) (A : Option Addr) (r : List Nat × En) (x : Ending) (w' : World) : Prop := ∃ v' A' cap', x = .returned (.tuple #[v', .slice A' 64 cap']) ∧ REn w' v' r.2 ∧ At w' A' (ns r.1) ∧ Below w.heap.size w w' ∧ (∀ b o, A' = some ⟨b, o, none⟩ → A' = A ∨ w.heap.size ≤ b)
set_option maxRecDepth 100000 in
set_option maxHeartbeats 2000000 in
theorem ftenc_any {w : World} {v : Value} {e : En} {A : Option Addr} {t : List Nat} (h : REn w v e) (hv : Val 0 e) (ha : At w A (ns t)) (ht : TNum t) (n cap : Nat) (hn : n ≤ 9223372036854775807) (hl : e.out.length ≤ 800000) :
  Calls Tryz.prog 149 #[v, .slice A 64 cap, .int .i64 (n : Int)] w fun x w' => ERT w A (tenc 6 n 1 t e) x w' := by
 obtain ⟨Ae, cape, rfl, hat⟩ := h
 have hrb0 : RB ((w.alloc (.cells #[.slice Ae e.out.length cape, .int .i64 (e.low : Int), .int .i64 (e.size : Int)] 122)).alloc (.cells #[.slice none 0 0, .int .i64 0, .int .i64 0] 122)) w.heap.size Ae cape e :=
  RB.alloc ⟨Bk.new _ _ _, hat.alloc _⟩ _
 have hbel0 := (((Below.refl w.heap.size w).alloc (Nat.le_refl _) (.cells #[.slice Ae e.out.length cape, .int .i64 (e.low : Int), .int .i64 (e.size : Int)] 122)).alloc (by simp) (.cells #[.slice none 0 0, .int .i64 0, .int .i64 0] 122))
 have hres0 := (Bk.new (w.alloc (.cells #[.slice Ae e.out.length cape, .int .i64 (e.low : Int), .int .i64 (e.size : Int)] 122)) 122 #[.slice none 0 0, .int .i64 0, .int .i64 0])
 simp only [World.size_alloc] at hres0
 have hat0 := (ha.alloc (.cells #[.slice Ae e.out.length cape, .int .i64 (e.low : Int), .int .i64 (e.size : Int)] 122)).alloc (.cells #[.slice none 0 0, .int .i64 0, .int .i64 0] 122)
 have Hrb0 := hide hrb0
 have Hbel0 := hide hbel0
 have Hres0 := hide hres0
 have Hat0 := hide hat0
 have Hbl : Hid (Hid (∀ b o, A = some ⟨b, o, none⟩ → b ≠ w.heap.size ∧ b ≠ w.heap.size + 1)) := hide (hide (fun b o h => by
  obtain ⟨b', o', h1, h2, _⟩ := ha 0 (by rw [ns_len, ht.2]; omega)
  rw [h] at h1
  injection h1 with h1
  injection h1 with h1
  omega))
 clear hrb0 hbel0 hres0 hat ha hat0
 go_enter Tryz.func149, Tryz.ntmps149
 go_wp2
 go_loopw [1, 8, 9] (fun tv mv av wr => ∃ (j m : Nat) (A' At' : Option Addr) (cap' capt : Nat) (u : List Nat) (x : En), j ≤ 6 ∧ av = .int .i64 ((2 ^ j / 2 : Nat) : Int) ∧ mv = .int .i64 m ∧ (m + 1) * 2 ^ j ≤ 128 ∧ tv = .slice At' 64 capt ∧ At wr At' (ns u) ∧ Hid (∀ b o, At' = some ⟨b, o, none⟩ → At' = A ∨ w.heap.size + 2 ≤ b) ∧ TNum u ∧ RB wr w.heap.size A' cap' x ∧ Val 0 x ∧ Hid (tenc j n m u x = tenc 6 n 1 t e) ∧ Bk wr (w.heap.size + 1) 122 #[.slice none 0 0, .int .i64 0, .int .i64 0] ∧ Below w.heap.size w wr ∧ x.out.length ≤ e.out.length + 2 * (6 - j)) (fun _ _ av _ => (intOf av).toNat)
 case atStart => exact ⟨6, 1, Ae, A, cape, cap, t, e, by omega, rfl, rfl, by decide, rfl, Hat0.out, hide (fun _ _ _ => .inl rfl), ht, Hrb0.out, hv, hide rfl, Hres0.out, Hbel0.out, by omega⟩
 case round =>
  clear Hrb0 Hbel0 Hres0 Hat0 ht hv
  obtain ⟨j, m, A', At', cap', capt, u, x, hj, rfl, rfl, hm, rfl, hat, hfar0, htu, hx, hvx, hte, hres, hf, hlx⟩ := hrel
  have hfar : Hid (∀ b o, At' = some ⟨b, o, none⟩ → b ≠ w.heap.size ∧ b ≠ w.heap.size + 1) := hide (fun b o h => by
   rcases hfar0.out b o h with h1 | h1
   ·exact Hbl.out.out b o (h1 ▸ h)
   ·omega)
  by_cases hlt : 0 < j
  ·obtain ⟨k, rfl⟩ : ∃ k, j = k + 1 := ⟨j - 1, by omega⟩
   have hm64 : m < u.length := node_lt (by rw [htu.2]; exact hm)
   have hst := tenc_step k n m u x
   have hpk : 2 ^ (k + 1) / 2 = 2 ^ k := by rw [Nat.pow_succ, Nat.mul_div_cancel _ (by omega)]
   have hand := and_two n k (by omega) (by omega)
   have hpp : 0 < 2 ^ k := Nat.two_pow_pos k
   have hpl : 2 ^ k ≤ 2 ^ 6 := Nat.pow_le_pow_right (by omega) (by omega)
   obtain ⟨y, hy⟩ : ∃ y, n / 2 ^ k % 2 = y := ⟨_, rfl⟩
   have hy2 : y < 2 := by omega
   have hp := tok_get htu.1 hm64
   have hmn : (2 * m + y + 1) * 2 ^ k ≤ 128 := node_step (L := 64) hy2 hm
   obtain ⟨bA, oA, hA, hbA, hcA⟩ := hat.get m _ (ns_get u m hm64)
   subst hA
   obtain ⟨z, hz⟩ : ∃ z, u.getD m 0 = z := ⟨_, rfl⟩
   rw [hy] at hand
   rw [hy, hz] at hst
   rw [hz] at hcA hp
   obtain ⟨P, hP⟩ : ∃ P, 2 ^ k = P := ⟨_, rfl⟩
   have hm2 : 2 ^ k / 2 < 2 ^ k := by omega
   have Hmn := hide hmn
   rw [hP] at hand hpk hpp hpl hm2
   rw [hpk]
   have hbit : (bits .and .i64 (n : Int) (P : Int) != 0) = (y == 1) := by
    rw [hand]
    have hz : y = 0 ∨ y = 1 := by omega
    rcases hz with rfl | rfl
    ·simp
    ·rw [Nat.one_mul]
     have : ((P : Int) != 0) = true := by rw [bne_iff_ne]; omega
     rw [this]
     rfl
   have hpl2 : (P : Int) ≤ 64 := by omega
   have hm642 : (m : Int) < 64 := by rw [htu.2] at hm64; omega
   have Hb := hide (fbit_any hx.drew.en hvx z y hp.1 hp.2 hy2 (by omega))
   have Ha := hide (fadapt_any z y hp.1 hp.2 hy2)
   have hel := ebit_len z y x
   have hval := ebit_val hvx (b := y) hp.1 hp.2
   have htn : TNum (u.set m (adapt z y)) := ⟨tok_set htu.1 m (adapt_ok hp), by rw [List.length_set]; exact htu.2⟩
   have Hs := hide (fun W (h : At W (some ⟨bA, oA, none⟩) (ns u)) => fset_any h 64 capt htu.2.symm m (adapt z y) hm64 (by rw [htu.2]; omega))
   have c0 : wr.cell? ⟨w.heap.size, 0, none⟩ = some (.slice A' x.out.length cap') := hx.1.cell 0
   have c1 : wr.cell? ⟨w.heap.size, 1, none⟩ = some (.int .i64 (x.low : Int)) := hx.1.cell 1
   have c2 : wr.cell? ⟨w.heap.size, 2, none⟩ = some (.int .i64 (x.size : Int)) := hx.1.cell 2
   have Hst := hide hst
   have Hx := hide hx
   have Hat := hide hat
   have Hres := hide hres
   have Hf := hide hf
   have HP := hide hP
   have Hz := hide hz
   have Htu := hide htu
   have Hlt := hide (And.intro hlx (And.intro hj hel))
   clear hst hand hpk hy hz hP hx hvx htu hm hm64 hp hat hres hf hlx hel hmn hpl hn hl
   go_upto_if 21 with fail
   go_cut [10] (fun s10 wx => s10 = .int .i64 (y : Int) ∧ wr = wx)
   case first =>
    have hz : y = 0 ∨ y = 1 := by omega
    clear Hb Ha Hs Hst Hx Hat Hres Hf HP Htu Hlt c0 c1 c2 hcA hval htn Hmn hm2
    rcases hz with rfl | rfl
    ·have h0 : (bits .and .i64 (n : Int) (P : Int) != 0) = false := hbit
     clear hbit
     go_wp2
     go_meet
     case rel => exact ⟨rfl, rfl⟩
    ·have h0 : (bits .and .i64 (n : Int) (P : Int) != 0) = true := hbit
     clear hbit
     go_wp2
     go_meet
     case rel => exact ⟨rfl, rfl⟩
   case rest =>
    obtain ⟨rfl, rfl⟩ := hcut
    clear hbit
    go_wp2
    go_region_with ((go_at_call 177; refine (Hb.out).mono ?_; rintro r w2 ⟨v2, rfl, ⟨A2, cap2, rfl, hat2⟩, hb2⟩; have hrb2 := Hx.out.drew.below hb2; have p0 := hrb2.1.frozen 0; have p1 := hrb2.1.frozen 1; have p2 := hrb2.1.frozen 2; have q0 : w2.cell? ⟨w.heap.size, 0, none⟩ = some (.slice A' x.out.length cap') := hrb2.1.cell 0; have q1 : w2.cell? ⟨w.heap.size, 1, none⟩ = some (.int .i64 (x.low : Int)) := hrb2.1.cell 1; have q2 : w2.cell? ⟨w.heap.size, 2, none⟩ = some (.int .i64 (x.size : Int)) := hrb2.1.cell 2; have Hrb2 := hide hrb2; have Hat2 := hide hat2; have Hb2 := hide hb2; clear hrb2 hat2 hb2))
    all_goals
     have hlt := Hres.out.lt
     have hne := (hfar.out _ _ rfl).1
     have hrbA := Hrb2.out.putAll (cap' := cap2) Hat2.out
     have hresA := (((Hres.out.drew.below Hb2.out hlt).off (p := ⟨w.heap.size, 0, none⟩) (by simp) (.slice A2 (ebit z y x).out.length cap2)).off (p := ⟨w.heap.size, 1, none⟩) (by simp) (.int .i64 ((ebit z y x).low : Int))).off (p := ⟨w.heap.size, 2, none⟩) (by simp) (.int .i64 ((ebit z y x).size : Int))
     have hfA := (((Hf.out.drew.trans (Hb2.out.mono Hf.out.size)).setCell (p := ⟨w.heap.size, 0, none⟩) (Nat.le_refl _) (.slice A2 (ebit z y x).out.length cap2)).setCell (p := ⟨w.heap.size, 1, none⟩) (Nat.le_refl _) (.int .i64 ((ebit z y x).low : Int))).setCell (p := ⟨w.heap.size, 2, none⟩) (Nat.le_refl _) (.int .i64 ((ebit z y x).size : Int))
     have hatA := (Hat.out.drew.below Hb2.out).keep ((((Fr.refl (only w.heap.size) w2).setCell (p := ⟨w.heap.size, 0, none⟩) (.inl rfl) (.slice A2 (ebit z y x).out.length cap2)).setCell (p := ⟨w.heap.size, 1, none⟩) (.inl rfl) (.int .i64 ((ebit z y x).low : Int))).setCell (p := ⟨w.heap.size, 2, none⟩) (.inl rfl) (.int .i64 ((ebit z y x).size : Int))) (fun b o hbo hs => hne (by injection hbo with hbo; injection hbo with hbo; rw [hbo]; exact hs))
     clear p0 p1 p2 q0 q1 q2 c0 c1 c2 hcA hlt hne
     generalize (((w2.setCell ⟨w.heap.size, 0, none⟩ (.slice A2 (ebit z y x).out.length cap2)).setCell ⟨w.heap.size, 1, none⟩ (.int .i64 ((ebit z y x).low : Int))).setCell ⟨w.heap.size, 2, none⟩ (.int .i64 ((ebit z y x).size : Int))) = W3 at *
     obtain ⟨b3, o3, hA3, hb3, hc3⟩ := hatA.get m _ (by have := ns_get u m (by have := Htu.out.2; omega); exact this)
     injection hA3 with hA3
     injection hA3 with hA3 hO3
     subst hA3; subst hO3
     have hz3 : W3.cell? ⟨bA, oA + m, none⟩ = some (.int .i64 (z : Int)) := by rw [hc3, Hz.out]
     have Hset := hide (Hs.out W3 hatA)
     have HrbA := hide hrbA
     have HresA := hide hresA
     have HfA := hide hfA
     clear hc3 hatA hrbA hresA hfA Hrb2 Hat2 Hb2 Hx Hat Hres Hf Hb Hs
     go_wp2_with fail
     refine (Ha.out _).mono ?_
     rintro r w4 ⟨rfl, rfl⟩
     go_wp2_with fail
     refine (Hset.out).mono ?_
     rintro r w4 ⟨A4, cap4, rfl, hat4, hb4, hfr4⟩
     have hrb4 := HrbA.out.below hb4
     have hres4 := HresA.out.below hb4 HresA.out.lt
     have hf4 := HfA.out.trans (hb4.mono HfA.out.size)
     have hlt4 := HresA.out.lt
     have Hrb4 := hide hrb4
     have Hres4 := hide hres4
     have Hf4 := hide hf4
     have Hat4 := hide hat4
     have Hfr4 : Hid (∀ b o, A4 = some ⟨b, o, none⟩ → A4 = A ∨ w.heap.size + 2 ≤ b) := hide (fun b o h => by have := hfr4 b o h; exact .inr (by omega))
     clear hrb4 hres4 hf4 hat4 hb4 hfr4 hlt4 HrbA HresA HfA Hset
     go_wp2
     go_roundw
     case rel => exact ⟨k, 2 * m + y, A2, A4, cap2, cap4, u.set m (adapt z y), ebit z y x, by have := Hlt.out.2.1; omega, (by rw [HP.out]; exact congrArg (Value.int .i64) (by omega)), by congr 1, Hmn.out, rfl, Hat4.out, Hfr4, htn, Hrb4.out, hval, hide (by rw [← Hst.out]; exact hte.out), Hres4.out, Hf4.out, by have := Hlt.out; omega⟩
     case measure => simp [intOf] <;> omega
  ·have hj0 : j = 0 := by omega
   subst hj0
   have hfin := hte.out
   rw [tenc] at hfin
   obtain ⟨WF, hWF, u0, u1, u2, hren, hfr⟩ := res_end hx hres rfl
   have c0 : wr.cell? ⟨w.heap.size, 0, none⟩ = some (.slice A' x.out.length cap') := hx.1.cell 0
   have c1 : wr.cell? ⟨w.heap.size, 1, none⟩ = some (.int .i64 (x.low : Int)) := hx.1.cell 1
   have c2 : wr.cell? ⟨w.heap.size, 2, none⟩ = some (.int .i64 (x.size : Int)) := hx.1.cell 2
   have z0 : wr.cell? ⟨w.heap.size + 1, 0, none⟩ = some (.slice none 0 0) := hres.cell 0
   have z1 : wr.cell? ⟨w.heap.size + 1, 1, none⟩ = some (.int .i64 0) := hres.cell 1
   have z2 : wr.cell? ⟨w.heap.size + 1, 2, none⟩ = some (.int .i64 0) := hres.cell 2
   have y0 := hres.frozen 0
   have y1 := hres.frozen 1
   have y2 := hres.frozen 2
   have hbe := own_below hfr hf.size (show w.heap.size ≤ w.heap.size + 1 by omega)
   have Hren := hide hren
   have Hbe := hide (hf.trans hbe)
   have HWF := hide hWF
   have Hfin := hide hfin
   have HatF := hide (hat.keep hfr (fun b o hbo hs => (hfar.out b o hbo).2 hs))
   clear hx hres hf hren hbe hfr hWF hat hfin hte hlx hm
   go_wp2
   rw [HWF.out]
   clear c0 c1 c2 z0 z1 z2 y0 y1 y2
   refine bodyPost_ret (by simp [results, Tryz.results149, go_sem, u0, u1, u2]; try rfl) rfl ?_
   rw [← Hfin.out]
   exact ⟨_, At', capt, rfl, Hren.out, HatF.out, Hbe.out, fun b o h => (hfar0.out b o h).imp id (fun h => by omega)⟩
end Go.Proofs.YtoeeblldgoccoaaGreat
