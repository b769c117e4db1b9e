/-
  Joined texts: Ef, Eg, Eh.
-/
import Derived.Test.YtkgclfagimlneaaDoorJ03
import Derived.Test.YtkgclfagimlneaaDoorShelf
import Derived.Lib.BytesEntry
import Derived.Laws.Externs
import Derived.Lib.Bytealg
import Derived.Deep.RegionHeld3
set_option linter.unusedVariables false
set_option linter.unusedSimpArgs false
/-
  The walks over decimal numbers: comparing.
-/
namespace Go.Proofs.YtkgclfagimlneaaDoor
open Go.RowKit Go.Proofs Wv Wv.Dc
set_option linter.unusedVariables false

theorem compareBytes_lcmp : ∀ a b : List UInt8, Lib.compareBytes a b = lcmp a b
  | [], [] => rfl
  | [], _ :: _ => rfl
  | _ :: _, [] => rfl
  | c :: s, d :: t => by
    unfold Lib.compareBytes lcmp
    rw [compareBytes_lcmp s t]
    simp only [UInt8.lt_iff_toNat_lt]
theorem compareInt_cmpZ (x y : Int) : Lib.compareInt x y = cmpZ x y := by
  unfold Lib.compareInt cmpZ
  split
  · rfl
  · split
    · rw [if_neg (by omega)]
    · rw [if_pos (by omega)]
theorem run_bytesOf {P : Program} {w : World} {A : Option Addr} {l : List UInt8} (h : At w A (l.map bv)) (cap : Nat) :
    (Extern.Bytes.bytesOf (.slice A l.length cap)).run P w = .ok (bs l) w := by
  cases A with
  | none =>
    have hl : l = [] := by
      rcases l with _ | ⟨c, t⟩
      · rfl
      · obtain ⟨b, p, h, _⟩ := h 0 (by simp)
        cases h
    subst hl
    rfl
  | some a =>
    have h1 := Lib.run_loadBytesX (P := P) (w := w) (l.map fun x => (x.toNat : Int)) a .empty (fun j x hx => by
      rw [List.getElem?_map] at hx
      match hj : l[j]? with
      | none => rw [hj] at hx; cases hx
      | some c =>
        rw [hj] at hx
        injection hx with hx
        have hlt : j < l.length := by
          rcases Nat.lt_or_ge j l.length with h1 | h1
          · exact h1
          · rw [List.getElem?_eq_none h1] at hj; cases hj
        obtain ⟨b, o, hA, hb, hc⟩ := h j (by rw [List.length_map]; exact hlt)
        injection hA with hA
        subst hA
        rw [Go.WideShapes.add_plain, hc]
        rw [List.getElem?_eq_getElem hlt] at hj
        injection hj with hj
        rw [List.getElem_map, hj]
        simp only [bv, hx])
    have e : Lib.bytesOf (l.map fun x => (x.toNat : Int)) = l := by
      unfold Lib.bytesOf
      rw [List.map_map]
      conv => rhs; rw [← List.map_id l]
      refine List.map_congr_left (fun x _ => ?_)
      simp
    rw [e, List.length_map] at h1
    show (Extern.Bytes.loadBytes a l.length .empty).run P w = _
    rw [h1]
    congr 1
    apply ByteArray.ext
    simp [bs]
theorem run_compare {P : Program} {w : World} {A B : Option Addr} {l r : List UInt8} (ha : At w A (l.map bv)) (hb : At w B (r.map bv)) (ca cb : Nat) :
    (Extern.BytealgCompare.compare #[.slice A l.length ca, .slice B r.length cb]).run P w = .ok (.int .i64 (lcmp l r)) w := by
  change Sem.run P (do pure (goInt (Extern.BytealgCompare.cmp (← Extern.Bytes.bytesOf (.slice A l.length ca)) (← Extern.Bytes.bytesOf (.slice B r.length cb))))) w = _
  simp only [Sem.run_bind, run_bytesOf ha, run_bytesOf hb, Sem.run_pure, Result.andThen]
  rw [Lib.cmp_eq, compareBytes_lcmp]
  rfl
set_option maxRecDepth 100000 in
set_option maxHeartbeats 1000000 in
theorem pbcmp_any {w : World} {A B : Option Addr} {l r : List UInt8} (ha : At w A (l.map bv)) (hb : At w B (r.map bv)) (n m ca cb : Nat) (hn : n = l.length) (hm : m = r.length) :
    Calls Tryd.prog 68 #[.slice A n ca, .slice B m cb] w fun x w' => x = .returned (.int .i64 (lcmp l r)) ∧ w = w' := by
  subst hn; subst hm
  have H := hide (fun (P : Program) => run_compare (P := P) ha hb ca cb)
  clear ha hb
  go_enter Tryd.func68, Tryd.ntmps68
  go_wp2
  rw [run_callFunc_extern Tryd.func78 (by kernel_rfl) (by kernel_rfl) (by kernel_rfl) (e := Extern.BytealgCompare.compare) (by kernel_rfl), H.out]
  simp only [Result.andThen]
  rw [Oper.upon_value]
  go_wp2
  go_returns
  exact ⟨rfl, rfl⟩
end Go.Proofs.YtkgclfagimlneaaDoor
/-
  The walks over decimal numbers: comparing, second part.
-/
namespace Go.Proofs.YtkgclfagimlneaaDoor
open Go.RowKit Go.Proofs Wv Wv.Dc
set_option linter.unusedVariables false

theorem pfirst_raw (b : Bool) (A : Option Addr) (L cap : Nat) (e : Int) (s1 : -2000000 ≤ e) (s2 : e ≤ 2000000) (s3 : L ≤ 100000) (w : World) :
    Calls Tryd.prog 31 #[.agg #[.bool b, .slice A L cap, .int .i64 e]] w fun x w' => x = .returned (.int .i64 (e + L - 1)) ∧ Below w.heap.size w w' := by
  go_enter Tryd.func31, Tryd.ntmps31
  go_wp2
  go_returns
  exact ⟨rfl, (Below.refl w.heap.size w).alloc (Nat.le_refl _) _⟩
theorem pcmpi_any (x y : Int) (w : World) : Calls Tryd.prog 58 #[.int .i64 x, .int .i64 y] w fun r w' => r = .returned (.int .i64 (cmpZ x y)) ∧ w = w' := by
  refine (Tryd.cmp_Compare_int x y w).mono ?_
  rintro r w' ⟨rfl, rfl⟩
  exact ⟨ret_int (compareInt_cmpZ x y), rfl⟩
/-- Two numbers in blocks of the function's own, whatever is laid anew. -/
def TwoN (w0 W : World) (x y : Nat) (ca cb : Array Value) : Prop := Bk W x 41 ca ∧ Bk W y 41 cb ∧ Below w0.heap.size w0 W
theorem TwoN.below {w0 W W' : World} {x y : Nat} {ca cb : Array Value} (h : TwoN w0 W x y ca cb) (hb : Below W.heap.size W W') : TwoN w0 W' x y ca cb :=
  ⟨Bk.below h.1 hb (Bk.lt h.1), Bk.below h.2.1 hb (Bk.lt h.2.1), h.2.2.trans (hb.mono h.2.2.size)⟩
theorem held2 {w0 W W' : World} {x y : Nat} {ba bb : Bool} {Aa Ab : Option Addr} {la lb ca cb : Nat} {ea eb : Int}
    (h : W.cell? ⟨x, 0, none⟩ = some (.bool ba) ∧ W.cell? ⟨x, 1, none⟩ = some (.slice Aa la ca) ∧ W.cell? ⟨x, 2, none⟩ = some (.int .i64 ea) ∧ W.cell? ⟨y, 0, none⟩ = some (.bool bb) ∧ W.cell? ⟨y, 1, none⟩ = some (.slice Ab lb cb) ∧ W.cell? ⟨y, 2, none⟩ = some (.int .i64 eb) ∧ TwoN w0 W x y #[.bool ba, .slice Aa la ca, .int .i64 ea] #[.bool bb, .slice Ab lb cb, .int .i64 eb]) (hb : Below W.heap.size W W') :
    W'.cell? ⟨x, 0, none⟩ = some (.bool ba) ∧ W'.cell? ⟨x, 1, none⟩ = some (.slice Aa la ca) ∧ W'.cell? ⟨x, 2, none⟩ = some (.int .i64 ea) ∧ W'.cell? ⟨y, 0, none⟩ = some (.bool bb) ∧ W'.cell? ⟨y, 1, none⟩ = some (.slice Ab lb cb) ∧ W'.cell? ⟨y, 2, none⟩ = some (.int .i64 eb) ∧ TwoN w0 W' x y #[.bool ba, .slice Aa la ca, .int .i64 ea] #[.bool bb, .slice Ab lb cb, .int .i64 eb] := by
  have k := h.2.2.2.2.2.2.below hb
  exact ⟨k.1.cell 0, k.1.cell 1, k.1.cell 2, k.2.1.cell 0, k.2.1.cell 1, k.2.1.cell 2, k⟩
theorem held2b {w0 W W' : World} {x y : Nat} {ba bb : Bool} {Aa Ab : Option Addr} {la lb ca cb : Nat} {ea eb : Int}
    (hb : Below W.heap.size W W') (h : W.cell? ⟨x, 0, none⟩ = some (.bool ba) ∧ W.cell? ⟨x, 1, none⟩ = some (.slice Aa la ca) ∧ W.cell? ⟨x, 2, none⟩ = some (.int .i64 ea) ∧ W.cell? ⟨y, 0, none⟩ = some (.bool bb) ∧ W.cell? ⟨y, 1, none⟩ = some (.slice Ab lb cb) ∧ W.cell? ⟨y, 2, none⟩ = some (.int .i64 eb) ∧ TwoN w0 W x y #[.bool ba, .slice Aa la ca, .int .i64 ea] #[.bool bb, .slice Ab lb cb, .int .i64 eb]) :
    W'.cell? ⟨x, 0, none⟩ = some (.bool ba) ∧ W'.cell? ⟨x, 1, none⟩ = some (.slice Aa la ca) ∧ W'.cell? ⟨x, 2, none⟩ = some (.int .i64 ea) ∧ W'.cell? ⟨y, 0, none⟩ = some (.bool bb) ∧ W'.cell? ⟨y, 1, none⟩ = some (.slice Ab lb cb) ∧ W'.cell? ⟨y, 2, none⟩ = some (.int .i64 eb) ∧ TwoN w0 W' x y #[.bool ba, .slice Aa la ca, .int .i64 ea] #[.bool bb, .slice Ab lb cb, .int .i64 eb] := held2 h hb
theorem held2_two {w0 W : World} {x y : Nat} {ba bb : Bool} {Aa Ab : Option Addr} {la lb ca cb : Nat} {ea eb : Int}
    (h : W.cell? ⟨x, 0, none⟩ = some (.bool ba) ∧ W.cell? ⟨x, 1, none⟩ = some (.slice Aa la ca) ∧ W.cell? ⟨x, 2, none⟩ = some (.int .i64 ea) ∧ W.cell? ⟨y, 0, none⟩ = some (.bool bb) ∧ W.cell? ⟨y, 1, none⟩ = some (.slice Ab lb cb) ∧ W.cell? ⟨y, 2, none⟩ = some (.int .i64 eb) ∧ TwoN w0 W x y #[.bool ba, .slice Aa la ca, .int .i64 ea] #[.bool bb, .slice Ab lb cb, .int .i64 eb]) :
    TwoN w0 W x y #[.bool ba, .slice Aa la ca, .int .i64 ea] #[.bool bb, .slice Ab lb cb, .int .i64 eb] := h.2.2.2.2.2.2
set_option maxRecDepth 100000 in
set_option maxHeartbeats 2000000 in
theorem pmag_any {w : World} {va vb : Value} {a b : Num} (ha : NV w va a) (hb : NV w vb b) (sa : Sz a) (sb : Sz b) :
    Calls Tryd.prog 56 #[va, vb] w fun x w' => x = .returned (.int .i64 (magN a b)) ∧ Below w.heap.size w w' := by
  obtain ⟨Aa, ca, rfl, hata, hca, hma⟩ := ha
  obtain ⟨Ab, cb, rfl, hatb, hcb, hmb⟩ := hb
  obtain ⟨ba, da, ea⟩ := a
  obtain ⟨bb, db, eb⟩ := b
  obtain ⟨a1, a2, a3⟩ := sa
  obtain ⟨b1, b2, b3⟩ := sb
  simp only at *
  have hm : magN ⟨ba, da, ea⟩ ⟨bb, db, eb⟩ = if da = [] ∨ db = [] then cmpZ da.length db.length else if cmpZ (ea + da.length - 1) (eb + db.length - 1) ≠ 0 then cmpZ (ea + da.length - 1) (eb + db.length - 1) else lcmp da db := rfl
  have hda : da = [] ↔ da.length = 0 := List.length_eq_zero_iff.symm
  have hdb : db = [] ↔ db.length = 0 := List.length_eq_zero_iff.symm
  simp only [hda, hdb] at hm
  have Hm := hide hm
  have Hata := hide hata
  have Hatb := hide hatb
  have Hfa := hide (fun W => pfirst_raw ba Aa da.length ca ea a1 a2 a3 W)
  have Hfb := hide (fun W => pfirst_raw bb Ab db.length cb eb b1 b2 b3 W)
  have Hbc := hide (fun W (h1 : At W Aa (da.map bv)) (h2 : At W Ab (db.map bv)) => pbcmp_any h1 h2 da.length db.length ca cb rfl rfl)
  have Hci := hide (fun x y W => pcmpi_any x y W)
  obtain ⟨la, hla⟩ : ∃ n, da.length = n := ⟨_, rfl⟩
  obtain ⟨lb, hlb⟩ : ∃ n, db.length = n := ⟨_, rfl⟩
  rw [hla, hlb] at Hm
  rw [hla] at Hfa Hbc a3 hca ⊢
  rw [hlb] at Hfb Hbc b3 hcb ⊢
  have h2 : TwoN w ((w.alloc (.cells #[.bool ba, .slice Aa la ca, .int .i64 ea] 41)).alloc (.cells #[.bool bb, .slice Ab lb cb, .int .i64 eb] 41)) w.heap.size (w.heap.size + 1) #[.bool ba, .slice Aa la ca, .int .i64 ea] #[.bool bb, .slice Ab lb cb, .int .i64 eb] := by
    refine ⟨Bk.alloc (Bk.new _ _ _) _, ?_, two_below _ _ _⟩
    have := Bk.new (w.alloc (.cells #[.bool ba, .slice Aa la ca, .int .i64 ea] 41)) 41 #[.bool bb, .slice Ab lb cb, .int .i64 eb]
    rw [World.size_alloc] at this
    exact this
  have H2 := hide h2
  clear hm hda hdb hata hatb hla hlb hma hmb h2 hca hcb
  by_cases h0 : la = 0 ∨ lb = 0
  · have hm := Hm.out
    rw [if_pos h0] at hm
    have Hm2 := hide hm
    have hz : la = 0 ∨ (la ≠ 0 ∧ lb = 0) := by omega
    clear h0 hm Hm
    rcases hz with rfl | ⟨h1, rfl⟩
    · go_enter Tryd.func56, Tryd.ntmps56
      go_wp2_with (go_at_call 58; refine (Hci.out _ _ _).mono ?_; rintro r w1 ⟨rfl, rfl⟩)
      go_returns
      exact ⟨ret_int Hm2.out.symm, two_below _ _ _⟩
    · have hl0 : ((la : Int) == 0) = false := by rw [beq_eq_false_iff_ne]; omega
      clear h1
      go_enter Tryd.func56, Tryd.ntmps56
      go_wp2_with (go_at_call 58; refine (Hci.out _ _ _).mono ?_; rintro r w1 ⟨rfl, rfl⟩)
      go_returns
      exact ⟨ret_int Hm2.out.symm, two_below _ _ _⟩
  · have hm := Hm.out
    rw [if_neg h0] at hm
    have hl0 : ((la : Int) == 0) = false := by rw [beq_eq_false_iff_ne]; omega
    have hl1 : ((lb : Int) == 0) = false := by rw [beq_eq_false_iff_ne]; omega
    have Hm2 := hide hm
    clear h0 hm Hm
    go_enter Tryd.func56, Tryd.ntmps56
    go_wp2
    obtain ⟨W0, hW0⟩ : ∃ W, ((w.alloc (.cells #[.bool ba, .slice Aa la ca, .int .i64 ea] 41)).alloc (.cells #[.bool bb, .slice Ab lb cb, .int .i64 eb] 41)) = W := ⟨_, rfl⟩
    rw [hW0] at H2 ⊢
    clear hW0
    have H1 : W0.drew.cell? ⟨w.heap.size, 0, none⟩ = some (.bool ba) ∧ W0.drew.cell? ⟨w.heap.size, 1, none⟩ = some (.slice Aa la ca) ∧ W0.drew.cell? ⟨w.heap.size, 2, none⟩ = some (.int .i64 ea) ∧ W0.drew.cell? ⟨w.heap.size + 1, 0, none⟩ = some (.bool bb) ∧ W0.drew.cell? ⟨w.heap.size + 1, 1, none⟩ = some (.slice Ab lb cb) ∧ W0.drew.cell? ⟨w.heap.size + 1, 2, none⟩ = some (.int .i64 eb) ∧ TwoN w W0.drew w.heap.size (w.heap.size + 1) #[.bool ba, .slice Aa la ca, .int .i64 ea] #[.bool bb, .slice Ab lb cb, .int .i64 eb] :=
      ⟨H2.out.1.cell 0, H2.out.1.cell 1, H2.out.1.cell 2, H2.out.2.1.cell 0, H2.out.2.1.cell 1, H2.out.2.1.cell 2, H2.out.1, H2.out.2.1, H2.out.2.2.drew⟩
    go_cut [5] (fun s5 wx => s5 = .int .i64 (cmpZ (ea + la - 1) (eb + lb - 1)) ∧ TwoN w wx w.heap.size (w.heap.size + 1) #[.bool ba, .slice Aa la ca, .int .i64 ea] #[.bool bb, .slice Ab lb cb, .int .i64 eb])
    case first =>
      go_region_held3 (fun W => W.cell? ⟨w.heap.size, 0, none⟩ = some (.bool ba) ∧ W.cell? ⟨w.heap.size, 1, none⟩ = some (.slice Aa la ca) ∧ W.cell? ⟨w.heap.size, 2, none⟩ = some (.int .i64 ea) ∧ W.cell? ⟨w.heap.size + 1, 0, none⟩ = some (.bool bb) ∧ W.cell? ⟨w.heap.size + 1, 1, none⟩ = some (.slice Ab lb cb) ∧ W.cell? ⟨w.heap.size + 1, 2, none⟩ = some (.int .i64 eb) ∧ TwoN w W w.heap.size (w.heap.size + 1) #[.bool ba, .slice Aa la ca, .int .i64 ea] #[.bool bb, .slice Ab lb cb, .int .i64 eb]) (first | exact H1 | assumption | exact held2b (by assumption) (by assumption))
        (first
          | (go_at_call 31; refine (pfirst_raw _ _ _ _ _ (by assumption) (by assumption) (by assumption) _).mono ?_; rintro r w' ⟨rfl, hb2⟩)
          | (go_at_call 58; refine (Hci.out _ _ _).mono ?_; rintro r w' ⟨rfl, rfl⟩))
      all_goals
        go_wp2
        go_meet
        case rel => exact ⟨rfl, held2_two (by assumption)⟩
    case rest =>
      obtain ⟨rfl, htwo⟩ := hcut
      have c1 := htwo.1.cell 1
      have c2 := htwo.2.1.cell 1
      simp at c1 c2
      have Htwo := hide htwo
      have hab := Hata.out.below htwo.2.2
      have hbb := Hatb.out.below htwo.2.2
      have Hbc2 := hide (Hbc.out _ hab hbb)
      obtain ⟨z, hz⟩ : ∃ z, cmpZ (ea + la - 1) (eb + lb - 1) = z := ⟨_, rfl⟩
      have hm2 := Hm2.out
      rw [hz] at hm2 ⊢
      clear htwo H1 H2 Hm2 hab hbb hz Hbc
      by_cases hz0 : z = 0
      · rw [if_neg (by omega)] at hm2
        have Hm3 := hide hm2
        subst hz0
        clear hm2
        go_wp2_with (go_at_call 68; refine (Hbc2.out).mono ?_; rintro r w1 ⟨rfl, rfl⟩)
        go_returns
        exact ⟨ret_int Hm3.out.symm, Htwo.out.2.2⟩
      · rw [if_pos hz0] at hm2
        have Hm3 := hide hm2
        have hzn : (z != 0) = true := by rw [bne_iff_ne]; exact hz0
        clear hm2 hz0
        go_wp2
        go_returns
        exact ⟨ret_int Hm3.out.symm, Htwo.out.2.2⟩
end Go.Proofs.YtkgclfagimlneaaDoor
/-
  The walks over decimal numbers: comparing, third part.
-/
namespace Go.Proofs.YtkgclfagimlneaaDoor
open Go.RowKit Go.Proofs Wv Wv.Dc
set_option linter.unusedVariables false

def sgL (b : Bool) (L : Nat) : Int := if L = 0 then 0 else if b then -1 else 1
theorem sgL_eq (n : Num) : signN n = sgL n.neg n.dg.length := by
  unfold signN sgL
  by_cases h : n.dg = []
  · rw [if_pos h, if_pos (by rw [h]; rfl)]
  · rw [if_neg h, if_neg (fun e => h (List.eq_nil_of_length_eq_zero e))]
theorem psign_raw (b : Bool) (A : Option Addr) (L cap : Nat) (e : Int) (w : World) :
    Calls Tryd.prog 30 #[.agg #[.bool b, .slice A L cap, .int .i64 e]] w fun x w' => x = .returned (.int .i64 (sgL b L)) ∧ Below w.heap.size w w' := by
  by_cases h : L = 0
  · have Hf := hide (show sgL b L = 0 by unfold sgL; rw [if_pos h])
    subst h
    go_enter Tryd.func30, Tryd.ntmps30
    go_wp2
    go_returns
    exact ⟨ret_int Hf.out.symm, (Below.refl w.heap.size w).alloc (Nat.le_refl _) _⟩
  · have hb0 : ((L : Int) == 0) = false := by rw [beq_eq_false_iff_ne]; omega
    have hf : sgL b L = if b then -1 else 1 := by unfold sgL; rw [if_neg h]
    cases b
    all_goals
      have Hf := hide hf
      clear h hf
      go_enter Tryd.func30, Tryd.ntmps30
      go_wp2
      go_returns
      exact ⟨ret_int Hf.out.symm, (Below.refl w.heap.size w).alloc (Nat.le_refl _) _⟩
theorem lcmp_in : ∀ a b : List UInt8, -1 ≤ lcmp a b ∧ lcmp a b ≤ 1
  | [], [] => by simp [lcmp]
  | [], _ :: _ => by simp [lcmp]
  | _ :: _, [] => by simp [lcmp]
  | c :: s, d :: t => by
    unfold lcmp
    split
    · omega
    · split
      · omega
      · exact lcmp_in s t
theorem cmpZ_in (x y : Int) : -1 ≤ cmpZ x y ∧ cmpZ x y ≤ 1 := by
  rcases cmpZ_cases x y with ⟨h, _⟩ | ⟨h, _⟩ | ⟨h, _⟩ <;> omega
theorem magN_in (a b : Num) : -1 ≤ magN a b ∧ magN a b ≤ 1 := by
  unfold magN
  split
  · exact cmpZ_in _ _
  · split
    · exact cmpZ_in _ _
    · exact lcmp_in _ _
theorem sgL_in (b : Bool) (L : Nat) : -1 ≤ sgL b L ∧ sgL b L ≤ 1 := by
  unfold sgL
  split
  · omega
  · split <;> omega
set_option maxRecDepth 100000 in
set_option maxHeartbeats 2000000 in
theorem pcompare_any {w : World} {va vb : Value} {a b : Num} (ha : NV w va a) (hb : NV w vb b) (sa : Sz a) (sb : Sz b) :
    Calls Tryd.prog 39 #[va, vb] w fun x w' => x = .returned (.int .i64 (compN a b)) ∧ Below w.heap.size w w' := by
  have Hmg := hide (fun W (h : Below w.heap.size w W) => pmag_any (ha.below h) (hb.below h) sa sb)
  have hc : compN a b = if cmpZ (signN a) (signN b) ≠ 0 then cmpZ (signN a) (signN b) else signN a * magN a b := rfl
  obtain ⟨m, hm⟩ : ∃ m, magN a b = m := ⟨_, rfl⟩
  have hmi := magN_in a b
  rw [hm] at hc Hmg hmi
  rw [sgL_eq a, sgL_eq b] at hc
  obtain ⟨Aa, ca, rfl, _, _, _⟩ := ha
  obtain ⟨Ab, cb, rfl, _, _, _⟩ := hb
  obtain ⟨ba, da, ea⟩ := a
  obtain ⟨bb, db, eb⟩ := b
  simp only at *
  obtain ⟨la, hla⟩ : ∃ n, da.length = n := ⟨_, rfl⟩
  obtain ⟨lb, hlb⟩ : ∃ n, db.length = n := ⟨_, rfl⟩
  rw [hla, hlb] at hc Hmg
  rw [hla, hlb]
  have hsi := sgL_in ba la
  have Hc := hide hc
  have Hci := hide (fun x y W => pcmpi_any x y W)
  have h2 : TwoN w ((w.alloc (.cells #[.bool ba, .slice Aa la ca, .int .i64 ea] 41)).alloc (.cells #[.bool bb, .slice Ab lb cb, .int .i64 eb] 41)) w.heap.size (w.heap.size + 1) #[.bool ba, .slice Aa la ca, .int .i64 ea] #[.bool bb, .slice Ab lb cb, .int .i64 eb] := by
    refine ⟨Bk.alloc (Bk.new _ _ _) _, ?_, two_below _ _ _⟩
    have := Bk.new (w.alloc (.cells #[.bool ba, .slice Aa la ca, .int .i64 ea] 41)) 41 #[.bool bb, .slice Ab lb cb, .int .i64 eb]
    rw [World.size_alloc] at this
    exact this
  have H2 := hide h2
  obtain ⟨sA, hsA⟩ : ∃ z, sgL ba la = z := ⟨_, rfl⟩
  have HsA := hide hsA
  rw [hsA] at hsi
  clear hc hm h2 sa sb hla hlb hsA
  go_enter Tryd.func39, Tryd.ntmps39
  go_wp2
  obtain ⟨W0, hW0⟩ : ∃ W, ((w.alloc (.cells #[.bool ba, .slice Aa la ca, .int .i64 ea] 41)).alloc (.cells #[.bool bb, .slice Ab lb cb, .int .i64 eb] 41)) = W := ⟨_, rfl⟩
  rw [hW0] at H2 ⊢
  clear hW0
  have H1 : W0.drew.cell? ⟨w.heap.size, 0, none⟩ = some (.bool ba) ∧ W0.drew.cell? ⟨w.heap.size, 1, none⟩ = some (.slice Aa la ca) ∧ W0.drew.cell? ⟨w.heap.size, 2, none⟩ = some (.int .i64 ea) ∧ W0.drew.cell? ⟨w.heap.size + 1, 0, none⟩ = some (.bool bb) ∧ W0.drew.cell? ⟨w.heap.size + 1, 1, none⟩ = some (.slice Ab lb cb) ∧ W0.drew.cell? ⟨w.heap.size + 1, 2, none⟩ = some (.int .i64 eb) ∧ TwoN w W0.drew w.heap.size (w.heap.size + 1) #[.bool ba, .slice Aa la ca, .int .i64 ea] #[.bool bb, .slice Ab lb cb, .int .i64 eb] :=
      ⟨H2.out.1.cell 0, H2.out.1.cell 1, H2.out.1.cell 2, H2.out.2.1.cell 0, H2.out.2.1.cell 1, H2.out.2.1.cell 2, H2.out.1, H2.out.2.1, H2.out.2.2.drew⟩
  go_cut [5] (fun s5 wx => s5 = .int .i64 (cmpZ (sgL ba la) (sgL bb lb)) ∧ TwoN w wx w.heap.size (w.heap.size + 1) #[.bool ba, .slice Aa la ca, .int .i64 ea] #[.bool bb, .slice Ab lb cb, .int .i64 eb])
  case first =>
    go_region_held3 (fun W => W.cell? ⟨w.heap.size, 0, none⟩ = some (.bool ba) ∧ W.cell? ⟨w.heap.size, 1, none⟩ = some (.slice Aa la ca) ∧ W.cell? ⟨w.heap.size, 2, none⟩ = some (.int .i64 ea) ∧ W.cell? ⟨w.heap.size + 1, 0, none⟩ = some (.bool bb) ∧ W.cell? ⟨w.heap.size + 1, 1, none⟩ = some (.slice Ab lb cb) ∧ W.cell? ⟨w.heap.size + 1, 2, none⟩ = some (.int .i64 eb) ∧ TwoN w W w.heap.size (w.heap.size + 1) #[.bool ba, .slice Aa la ca, .int .i64 ea] #[.bool bb, .slice Ab lb cb, .int .i64 eb]) (first | exact H1 | assumption | exact held2b (by assumption) (by assumption))
      (first
        | (go_at_call 30; refine (psign_raw _ _ _ _ _ _).mono ?_; rintro r w' ⟨rfl, hb2⟩)
        | (go_at_call 58; refine (Hci.out _ _ _).mono ?_; rintro r w' ⟨rfl, rfl⟩))
    all_goals
      go_wp2
      go_meet
      case rel => exact ⟨rfl, held2_two (by assumption)⟩
  case rest =>
    obtain ⟨rfl, htwo⟩ := hcut
    have Htwo := hide htwo
    obtain ⟨z, hz⟩ : ∃ z, cmpZ (sgL ba la) (sgL bb lb) = z := ⟨_, rfl⟩
    have hm2 := Hc.out
    rw [hz, HsA.out] at hm2
    rw [hz]
    clear htwo H1 H2 Hc hz
    by_cases hz0 : z = 0
    · rw [if_neg (by omega)] at hm2
      have Hm3 := hide hm2
      subst hz0
      clear hm2
      have H1 : wc.drew.cell? ⟨w.heap.size, 0, none⟩ = some (.bool ba) ∧ wc.drew.cell? ⟨w.heap.size, 1, none⟩ = some (.slice Aa la ca) ∧ wc.drew.cell? ⟨w.heap.size, 2, none⟩ = some (.int .i64 ea) ∧ wc.drew.cell? ⟨w.heap.size + 1, 0, none⟩ = some (.bool bb) ∧ wc.drew.cell? ⟨w.heap.size + 1, 1, none⟩ = some (.slice Ab lb cb) ∧ wc.drew.cell? ⟨w.heap.size + 1, 2, none⟩ = some (.int .i64 eb) ∧ TwoN w wc.drew w.heap.size (w.heap.size + 1) #[.bool ba, .slice Aa la ca, .int .i64 ea] #[.bool bb, .slice Ab lb cb, .int .i64 eb] :=
        ⟨Htwo.out.1.cell 0, Htwo.out.1.cell 1, Htwo.out.1.cell 2, Htwo.out.2.1.cell 0, Htwo.out.2.1.cell 1, Htwo.out.2.1.cell 2, Htwo.out.1, Htwo.out.2.1, Htwo.out.2.2.drew⟩
      have hmul : Hid (IntKind.i64.wrap (sA * m) = sA * m) := hide (by
        have h9 : -1 ≤ sA * m ∧ sA * m ≤ 1 := by
          have : sA = -1 ∨ sA = 0 ∨ sA = 1 := by omega
          rcases this with h | h | h <;> rw [h] <;> omega
        rw [IntWalk.i64_in _ (by omega)])
      go_wp2
      go_region_held3 (fun W => W.cell? ⟨w.heap.size, 0, none⟩ = some (.bool ba) ∧ W.cell? ⟨w.heap.size, 1, none⟩ = some (.slice Aa la ca) ∧ W.cell? ⟨w.heap.size, 2, none⟩ = some (.int .i64 ea) ∧ W.cell? ⟨w.heap.size + 1, 0, none⟩ = some (.bool bb) ∧ W.cell? ⟨w.heap.size + 1, 1, none⟩ = some (.slice Ab lb cb) ∧ W.cell? ⟨w.heap.size + 1, 2, none⟩ = some (.int .i64 eb) ∧ TwoN w W w.heap.size (w.heap.size + 1) #[.bool ba, .slice Aa la ca, .int .i64 ea] #[.bool bb, .slice Ab lb cb, .int .i64 eb]) (first | exact H1 | assumption | exact held2b (by assumption) (by assumption))
        (first
          | (go_at_call 30; refine (psign_raw _ _ _ _ _ _).mono ?_; rw [HsA.out]; rintro r w' ⟨rfl, hb2⟩)
          | (go_at_call 56; refine (Hmg.out _ (held2_two (by assumption)).2.2).mono ?_; rintro r w' ⟨rfl, hb2⟩))
      all_goals
        have hfin := (held2_two (w0 := w) (by assumption)).2.2
        have Hfin := hide hfin
        clear hfin
        go_wp2
        go_returns
        exact ⟨ret_int (by first | rw [hmul.out, Hm3.out] | (rw [Hm3.out]; exact hmul.out)), Hfin.out⟩
    · rw [if_pos hz0] at hm2
      have Hm3 := hide hm2
      have hzn : (z != 0) = true := by rw [bne_iff_ne]; exact hz0
      clear hm2 hz0
      go_wp2
      go_returns
      exact ⟨ret_int Hm3.out.symm, Htwo.out.2.2⟩
end Go.Proofs.YtkgclfagimlneaaDoor
