/-
  Joined texts: Ka, Base6, Base7, Base8, LA, LB, Bits, Bits2, Bits3, D1, D2, D3, D4, D5, D6, D7, D8, D9, Da, Ea, Eb, Ef, Eg, Eh, Ei.
-/
import Derived.Test.YtjfcemlbbinanaaGreatDoorJ04
import Derived.Lib.BitFns
import Derived.Test.YtjfcemlbbinanaaGreatDoorShelf
import Derived.Lib.BytesEntry
import Derived.Laws.Externs
import Derived.Lib.Bytealg
set_option linter.unusedVariables false
set_option linter.unusedSimpArgs false
/-
  Values of kind Bits in plain Lean: characters and their codes, values of a width, extended and shortened digits. No program stands here.
-/
namespace Wv.Bc
def cd (c : UInt8) : Nat := if c = 48 then 0 else if c = 49 then 1 else if c = 120 then 2 else if c = 122 then 3 else 4
def ch (n : Nat) : UInt8 := if n = 0 then 48 else if n = 1 then 49 else if n = 2 then 120 else 122
theorem cd_cases (c : UInt8) : (c = 48 ∧ cd c = 0) ∨ (c = 49 ∧ cd c = 1) ∨ (c = 120 ∧ cd c = 2) ∨ (c = 122 ∧ cd c = 3) ∨ (c ≠ 48 ∧ c ≠ 49 ∧ c ≠ 120 ∧ c ≠ 122 ∧ cd c = 4) := by
 unfold cd
 by_cases h1 : c = 48
 ·exact .inl ⟨h1, by rw [if_pos h1]⟩
 ·rw [if_neg h1]
  by_cases h2 : c = 49
  ·exact .inr (.inl ⟨h2, by rw [if_pos h2]⟩)
  ·rw [if_neg h2]
   by_cases h3 : c = 120
   ·exact .inr (.inr (.inl ⟨h3, by rw [if_pos h3]⟩))
   ·rw [if_neg h3]
    by_cases h4 : c = 122
    ·exact .inr (.inr (.inr (.inl ⟨h4, by rw [if_pos h4]⟩)))
    ·exact .inr (.inr (.inr (.inr ⟨h1, h2, h3, h4, by rw [if_neg h4]⟩)))
theorem cd_le (c : UInt8) : cd c ≤ 4 := by rcases cd_cases c with ⟨_, h⟩ | ⟨_, h⟩ | ⟨_, h⟩ | ⟨_, h⟩ | ⟨_, _, _, _, h⟩ <;> omega
theorem cd_ch (n : Nat) (h : n < 4) : cd (ch n) = n := by
 rcases (show n = 0 ∨ n = 1 ∨ n = 2 ∨ n = 3 by omega) with rfl | rfl | rfl | rfl <;> decide
theorem ch_cd (c : UInt8) (h : cd c < 4) : ch (cd c) = c := by
 rcases cd_cases c with ⟨rfl, _⟩ | ⟨rfl, _⟩ | ⟨rfl, _⟩ | ⟨rfl, _⟩ | ⟨_, _, _, _, h4⟩
 ·decide
 ·decide
 ·decide
 ·decide
 ·omega
def isC (c : UInt8) : Bool := decide (cd c < 4)
def isV (v : List UInt8) : Bool := v.all isC && !v.isEmpty && decide (v.length ≤ 128)
def knV (v : List UInt8) : Bool := isV v && v.all (fun c => decide (cd c < 2))
def vld (w : Int) (v : List UInt8) : Bool := isV v && decide ((v.length : Int) = w)
theorem isV_iff {v : List UInt8} : isV v = true ↔ (∀ c ∈ v, cd c < 4) ∧ v ≠ [] ∧ v.length ≤ 128 := by
 unfold isV isC
 rw [Bool.and_eq_true, Bool.and_eq_true, List.all_eq_true, decide_eq_true_iff, and_assoc]
 cases v <;> simp
theorem knV_iff {v : List UInt8} : knV v = true ↔ (∀ c ∈ v, cd c < 2) ∧ v ≠ [] ∧ v.length ≤ 128 := by
 unfold knV
 rw [Bool.and_eq_true, isV_iff, List.all_eq_true]
 constructor
 ·rintro ⟨⟨h1, h2, h3⟩, h4⟩
  exact ⟨fun c hc => by simpa using h4 c hc, h2, h3⟩
 ·rintro ⟨h1, h2, h3⟩
  exact ⟨⟨fun c hc => by have := h1 c hc; omega, h2, h3⟩, fun c hc => by simpa using h1 c hc⟩
theorem knV_isV {v : List UInt8} (h : knV v = true) : isV v = true := by unfold knV at h; rw [Bool.and_eq_true] at h; exact h.1
theorem vld_iff {w : Int} {v : List UInt8} : vld w v = true ↔ isV v = true ∧ (v.length : Int) = w := by
 unfold vld
 rw [Bool.and_eq_true, decide_eq_true_iff]
def allV (w : Int) (c : UInt8) : List UInt8 := if w < 1 ∨ 128 < w ∨ isC c = false then [] else List.replicate w.toNat c
def fr (c : UInt8) : UInt8 := if c = 49 then 48 else c
end Wv.Bc
/-
  Two appends in one statement, in whatever order.
-/
namespace Wv
open Go Go.RowKit
set_option linter.unusedVariables false
structure TwoSt (wb : World) (B : Nat) (e : TypeId) (v1 : Value) (xs : List Value) (v2 : Value) (ys : List Value) (w : World) : Prop where
 own1 : w.ownsRow B e 1 v1 xs.length xs
 own2 : w.ownsRow B e 1 v2 ys.length ys
 apart : ∀ g, v1.ownBlock = some g → v2.ownBlock ≠ some g
 bel : Below B wb w
 base : B ≤ w.heap.size
theorem TwoSt.alloc {wb w : World} {B : Nat} {e : TypeId} {v1 v2 : Value} {xs ys : List Value} (h : TwoSt wb B e v1 xs v2 ys w) (o : Obj) : TwoSt wb B e v1 xs v2 ys (w.alloc o) :=
 ⟨h.own1.alloc o, h.own2.alloc o, h.apart, h.bel.alloc h.base o, Nat.le_trans h.base (by simp)⟩
theorem TwoSt.drew {wb w : World} {B : Nat} {e : TypeId} {v1 v2 : Value} {xs ys : List Value} (h : TwoSt wb B e v1 xs v2 ys w) : TwoSt wb B e v1 xs v2 ys w.drew := ⟨h.own1, h.own2, h.apart, h.bel.drew, h.base⟩
theorem TwoSt.swap {wb w : World} {B : Nat} {e : TypeId} {v1 v2 : Value} {xs ys : List Value} (h : TwoSt wb B e v1 xs v2 ys w) : TwoSt wb B e v2 ys v1 xs w := ⟨h.own2, h.own1, fun g h1 h2 => h.apart g h2 h1, h.bel, h.base⟩
theorem two_step {P : Program} (t e : TypeId) (z : Value) (bytes : Nat) (ht : P.underlying t = some (.slice e)) (hinfo : (P.info? e).map (fun i => (i.zero, i.size, i.bytes)) = some (some z, 1, bytes)) (hz1 : z.cells.size = 1) {wb w : World} {B : Nat} {v1 v2 : Value} {xs ys : List Value} (h : TwoSt wb B e v1 xs v2 ys w) (a : Nat) (x : Value) (ha : w.cell? ⟨a, 0, none⟩ = some x) (h1 : x.oneCell' = true) (h63 : xs.length + 1 ≤ maxLen) (hby : (xs.length + 1) * bytes ≤ 140737488355328) :
    ∃ v' w', (Builtin.append_ #[t, t] t #[v1, .slice (some ⟨a, 0, none⟩) 1 1]).run P w = .ok v' w' ∧ TwoSt wb B e v' (xs ++ [x]) v2 ys w' ∧ (∀ b, some b ≠ v1.ownBlock → b < w.heap.size → w'.cell? ⟨b, 0, none⟩ = w.cell? ⟨b, 0, none⟩) ∧ (∀ xb T cs, Bk w xb T cs → T ≠ e → Bk w' xb T cs) := by
  obtain ⟨i, hi, hz, hs, hb⟩ := info_parts hinfo
  obtain ⟨v', w', hr, h2, h3, _, h5⟩ := run_append_own_at (P := P) w B t t e i z 1 bytes ht hi hz hs hb hz1 (by omega) v1 xs.length xs h.own1 ⟨a, 0, none⟩ 1 1 [x] rfl (fun j u hu => by
      cases j with
      | zero =>
        simp at hu; subst hu
        exact ha
      | succ j => simp at hu) (by simpa using h1) h63 hby h.base
  have hfr : Fr (fun k => v1.ownBlock = some k) w w' := (Fr.refl _ w).grown h3 (fun k hk => .inl hk)
  refine ⟨v', w', hr, ⟨by rw [List.length_append]; exact h2, own_fr h.own2 hfr (fun g hg e => h.apart g e hg), fun g hg => ?_, h.bel.grown h3 h.base (fun k hk => (h.own1.lt k hk).1), Nat.le_trans h.base hfr.size⟩, fun b hb hlt => hfr.cell (p := ⟨b, 0, none⟩) hlt (fun e => hb e.symm), fun xb T cs hb hT => hb.grown h3 (fun e => own_apart h.own1 hb (fun e => hT e.symm) e.symm)⟩
  rcases h5 with h5 | h5
  · exact h.apart g (h5 ▸ hg)
  · intro h6
    have h7 : some g = some w.heap.size := hg.symm.trans h5
    injection h7 with h7
    have := (h.own2.lt g h6).2
    omega
end Wv
/-
  The built-in append of a row that is only seen (a caller's): copies; a copy with one more element, in whatever order.
-/
namespace Wv
open Go Go.RowKit
set_option linter.unusedVariables false
theorem run_appAt {P : Program} (t e : TypeId) (z : Value) (bytes : Nat) (ht : P.underlying t = some (.slice e)) (hinfo : (P.info? e).map (fun i => (i.zero, i.size, i.bytes)) = some (some z, 1, bytes)) (hz1 : z.cells.size = 1) {w : World} {base : Nat} {v : Value} {n : Nat} {xs ys : List Value} (hv : w.ownsRow base e 1 v n xs) {A : Option Addr} (hu : At w A ys) (cap m : Nat) (hm : m = ys.length) (hA : A = none → ys = []) (h1 : ∀ y ∈ ys, y.oneCell' = true)
  (h63 : n + m ≤ maxLen) (hbytes : (n + m) * bytes ≤ 140737488355328) (hbase : base ≤ w.heap.size) :
  ∃ v' w', (Builtin.append_ #[t, t] t #[v, .slice A m cap]).run P w = .ok v' w' ∧ w'.ownsRow base e 1 v' (n + m) (xs ++ ys) ∧ w.grownBy w' v.ownBlock ∧ (v'.ownBlock = v.ownBlock ∨ v'.ownBlock = some w.heap.size) := by
 obtain ⟨i, hi, hz, hs, hby⟩ := info_parts hinfo
 cases A with
 | none =>
  have hy := hA rfl
  subst hy
  simp at hm
  subst hm
  refine ⟨v, w, ?_, by simpa using hv, ⟨rfl, rfl, rfl, Nat.le_refl _, fun _ _ _ => rfl⟩, .inl rfl⟩
  rcases hv.2 with ⟨rfl, rfl⟩ | ⟨g, cap, cur, rfl, _, _, hnc, _⟩
  ·simp [Builtin.append_, run_underlying ht, Go.sizeOf, typeInfo, hi, Builtin.lenOf, Builtin.firstCells]
  ·simp [Builtin.append_, run_underlying ht, Go.sizeOf, typeInfo, hi, Builtin.lenOf, Builtin.firstCells, hnc, storeCells]
 | some a =>
  obtain ⟨v', w', hr, h2, h3, _, h5⟩ := run_append_own_at (P := P) w base t t e i z 1 bytes ht hi hz hs hby hz1 (by omega) v n xs hv a m cap ys (by omega) (fun j u hj => by
   obtain ⟨hlt, rfl⟩ := List.getElem?_eq_some_iff.1 hj
   obtain ⟨b, o, hA, hb, hc⟩ := hu j hlt
   injection hA with hA
   subst hA
   rw [Go.WideShapes.add_plain]
   exact hc) h1 h63 hbytes hbase
  exact ⟨v', w', hr, h2, h3, h5⟩
theorem own_made0 (e : TypeId) (w : World) : (w.alloc (.cells #[] e)).ownsRow w.heap.size e 1 (.slice (some ⟨w.heap.size, 0, none⟩) 0 0) 0 [] :=
 World.ownsRow_made w #[] 0 (Nat.le_refl _) (by unfold maxLen; omega) rfl
theorem wpList_run {P : Program} {ops : Array Oper} {rest : List Oper} {o : Oper} {a : Act} {w w0 w' : World} {Q : Exit → Act → World → Prop} {v' : Value} (hw : w = w0) (hgd : o.guard = none) (s x : Operand) (t : TypeId)
  (ho : o.op = .call { callee := .builtin .append, args := #[s, x], argTypes := #[t, t] }) (v u : Value) (hs : a.eval s = v) (hx : a.eval x = u)
  (hr : (Builtin.append_ #[t, t] o.type #[v, u]).run P w0 = .ok v' w') (h : wpList P ops Q rest (a.put o.dst v') w') : wpList P ops Q (o :: rest) a w := by
 subst hw
 refine wpList_plain hgd fun K hK => ?_
 unfold Oper.wp execOp
 simp only [ho, resolve, invoke, builtin, Sem.run_bind, Sem.run_pure, Result.andThen_ok, List.map_toArray, List.map_cons, List.map_nil, hs, hx, hr]
 exact hK _ _ h
theorem step_runW {P : Program} {ops : Array Oper} {o : Oper} {a : Act} {w w0 w' : World} {K : Act → World → Prop} {Q : Exit → Act → World → Prop} {E : Prop} {v' : Value} (hw : w = w0) (hgd : o.guard = none) (s x : Operand) (t : TypeId)
  (ho : o.op = .call { callee := .builtin .append, args := #[s, x], argTypes := #[t, t] }) (v u : Value) (hs : a.eval s = v) (hx : a.eval x = u)
  (hr : (Builtin.append_ #[t, t] o.type #[v, u]).run P w0 = .ok v' w') (h : K (a.put o.dst v') w') :
  if Region.wanted o (yielded ops a.tmps) = true then Oper.wp P o a w K Q else E := by
 subst hw
 exact step_run hgd s x t ho v u hs hx hr h
end Wv
/-
  The built-in append of one element, its run known ahead.
-/
namespace Wv
open Go Go.RowKit
set_option linter.unusedVariables false
theorem app_own {P : Program} (t e : TypeId) (z : Value) (bytes : Nat) (ht : P.underlying t = some (.slice e)) (hinfo : (P.info? e).map (fun i => (i.zero, i.size, i.bytes)) = some (some z, 1, bytes)) (hz1 : z.cells.size = 1) {w wb : World} {B : Nat} {v : Value} {n : Nat} {xs : List Value} (h : w.ownsRow B e 1 v n xs) (hf : Below B wb w) (hB : B ≤ w.heap.size) (x : Value) (hx : x.oneCell' = true) (h63 : n + 1 ≤ maxLen) (hbytes : (n + 1) * bytes ≤ 140737488355328) :
  ∃ v' w', (Builtin.append_ #[t, t] t #[v, .slice (some ⟨w.heap.size, 0, none⟩) 1 1]).run P (w.alloc (.cells #[x] e)) = .ok v' w' ∧ w'.ownsRow B e 1 v' (n + 1) (xs ++ [x]) ∧ Below B wb w' ∧ (∀ xb T cs, Bk w xb T cs → e ≠ T → Bk w' xb T cs) := by
 obtain ⟨i, hi, hz, hs, hby⟩ := info_parts hinfo
 obtain ⟨v', w', hr, h2, h3, _⟩ := run_append_own_at (P := P) (w.alloc (.cells #[x] e)) B t t e i z 1 bytes ht hi hz hs hby hz1 (by omega) v n xs (h.alloc _) ⟨w.heap.size, 0, none⟩ 1 1 [x] rfl (news_one _ _ _) (by simpa using hx) h63 hbytes (Nat.le_trans hB (by simp))
 exact ⟨v', w', hr, h2, (hf.alloc hB _).grown h3 (Nat.le_trans hB (by simp)) (fun k hk => (h.lt k hk).1), fun xb T cs hk hT => (hk.alloc _).grown h3 (fun e => own_apart h hk hT e.symm)⟩
theorem two_bothB {P : Program} (t e : TypeId) (z : Value) (bytes : Nat) (ht : P.underlying t = some (.slice e)) (hinfo : (P.info? e).map (fun i => (i.zero, i.size, i.bytes)) = some (some z, 1, bytes)) (hz1 : z.cells.size = 1) {wb w : World} {B : Nat} {v1 v2 : Value} {xs ys : List Value} (h : TwoSt wb B e v1 xs v2 ys w) (x y : Value) (hx : x.oneCell' = true) (hy : y.oneCell' = true) (hxl : xs.length + 1 ≤ maxLen) (hxb : (xs.length + 1) * bytes ≤ 140737488355328)
  (hyl : ys.length + 1 ≤ maxLen) (hyb : (ys.length + 1) * bytes ≤ 140737488355328) :
  (∃ a1 w1 a2 w2, (Builtin.append_ #[t, t] t #[v1, .slice (some ⟨w.heap.size, 0, none⟩) 1 1]).run P (w.alloc (.cells #[x] e)).drew = .ok a1 w1 ∧ (Builtin.append_ #[t, t] t #[v2, .slice (some ⟨w1.heap.size, 0, none⟩) 1 1]).run P (w1.alloc (.cells #[y] e)) = .ok a2 w2 ∧ TwoSt wb B e a1 (xs ++ [x]) a2 (ys ++ [y]) w2 ∧ Below B wb w1 ∧ Below B wb w2) ∧
  (∃ a1 w1 a2 w2, (Builtin.append_ #[t, t] t #[v1, .slice (some ⟨w.heap.size, 0, none⟩) 1 1]).run P ((w.alloc (.cells #[x] e)).alloc (.cells #[y] e)).drew = .ok a1 w1 ∧ (Builtin.append_ #[t, t] t #[v2, .slice (some ⟨w.heap.size + 1, 0, none⟩) 1 1]).run P w1 = .ok a2 w2 ∧ TwoSt wb B e a1 (xs ++ [x]) a2 (ys ++ [y]) w2 ∧ Below B wb w1 ∧ Below B wb w2) ∧
  (∃ a1 w1 a2 w2, (Builtin.append_ #[t, t] t #[v1, .slice (some ⟨w.heap.size + 1, 0, none⟩) 1 1]).run P ((w.alloc (.cells #[y] e)).alloc (.cells #[x] e)).drew = .ok a1 w1 ∧ (Builtin.append_ #[t, t] t #[v2, .slice (some ⟨w.heap.size, 0, none⟩) 1 1]).run P w1 = .ok a2 w2 ∧ TwoSt wb B e a1 (xs ++ [x]) a2 (ys ++ [y]) w2 ∧ Below B wb w1 ∧ Below B wb w2) := by
 have hlt1 : ∀ g, v1.ownBlock = some g → g < w.heap.size := fun g hg => (h.own1.lt g hg).2
 have cx : (w.alloc (.cells #[x] e)).cell? ⟨w.heap.size, 0, none⟩ = some x := (Bk.new w e #[x]).cell 0
 have cy : (w.alloc (.cells #[y] e)).cell? ⟨w.heap.size, 0, none⟩ = some y := (Bk.new w e #[y]).cell 0
 have hs1 : (w.alloc (.cells #[x] e)).heap.size = w.heap.size + 1 := by simp
 have hs2 : (w.alloc (.cells #[y] e)).heap.size = w.heap.size + 1 := by simp
 refine ⟨?_, ?_, ?_⟩
 ·obtain ⟨a1, w1, r1, t1, _, b1⟩ := two_step t e z bytes ht hinfo hz1 (h.alloc (.cells #[x] e)).drew w.heap.size x cx hx hxl hxb
  obtain ⟨a2, w2, r2, t2, _, b2⟩ := two_step t e z bytes ht hinfo hz1 (t1.swap.alloc (.cells #[y] e)) w1.heap.size y ((Bk.new w1 e #[y]).cell 0) hy hyl hyb
  exact ⟨a1, w1, a2, w2, r1, r2, t2.swap, t1.bel, t2.bel⟩
 ·have c1 : ((w.alloc (.cells #[x] e)).alloc (.cells #[y] e)).drew.cell? ⟨w.heap.size, 0, none⟩ = some x := ((Bk.new w e #[x]).alloc (.cells #[y] e)).cell 0
  have c2 : ((w.alloc (.cells #[x] e)).alloc (.cells #[y] e)).drew.cell? ⟨w.heap.size + 1, 0, none⟩ = some y := by
   have := (Bk.new (w.alloc (.cells #[x] e)) e #[y]).cell 0
   rw [hs1] at this
   exact this
  obtain ⟨a1, w1, r1, t1, k1, b1⟩ := two_step t e z bytes ht hinfo hz1 ((h.alloc (.cells #[x] e)).alloc (.cells #[y] e)).drew w.heap.size x c1 hx hxl hxb
  have c3 := (k1 (w.heap.size + 1) (fun e => by have := hlt1 _ e.symm; omega) (by show _ < ((w.alloc (.cells #[x] e)).alloc (.cells #[y] e)).heap.size; simp <;> omega)).trans c2
  obtain ⟨a2, w2, r2, t2, _, b2⟩ := two_step t e z bytes ht hinfo hz1 t1.swap (w.heap.size + 1) y c3 hy hyl hyb
  exact ⟨a1, w1, a2, w2, r1, r2, t2.swap, t1.bel, t2.bel⟩
 ·have c1 : ((w.alloc (.cells #[y] e)).alloc (.cells #[x] e)).drew.cell? ⟨w.heap.size, 0, none⟩ = some y := ((Bk.new w e #[y]).alloc (.cells #[x] e)).cell 0
  have c2 : ((w.alloc (.cells #[y] e)).alloc (.cells #[x] e)).drew.cell? ⟨w.heap.size + 1, 0, none⟩ = some x := by
   have := (Bk.new (w.alloc (.cells #[y] e)) e #[x]).cell 0
   rw [hs2] at this
   exact this
  obtain ⟨a1, w1, r1, t1, k1, b1⟩ := two_step t e z bytes ht hinfo hz1 ((h.alloc (.cells #[y] e)).alloc (.cells #[x] e)).drew (w.heap.size + 1) x c2 hx hxl hxb
  have c3 := (k1 w.heap.size (fun e => by have := hlt1 _ e.symm; omega) (by show _ < ((w.alloc (.cells #[y] e)).alloc (.cells #[x] e)).heap.size; simp <;> omega)).trans c1
  obtain ⟨a2, w2, r2, t2, _, b2⟩ := two_step t e z bytes ht hinfo hz1 t1.swap w.heap.size y c3 hy hyl hyb
  exact ⟨a1, w1, a2, w2, r1, r2, t2.swap, t1.bel, t2.bel⟩
end Wv
/-
  Texts as pieces in plain Lean: earlier occurrences, the cheapest parse, and that its pieces give the text. No program stands here.
-/
namespace Wv.Lz
open Wv.Mo
def comA (s : List UInt8) (i j : Nat) : Nat → Nat → Nat
 | n, 0 => n
 | n, k + 1 => if s.getD (i + n) 0 = s.getD (j + n) 0 then comA s i j (n + 1) k else n
def com (s : List UInt8) (i j most : Nat) : Nat := comA s i j 0 most
theorem comA_spec (s : List UInt8) (i j : Nat) : ∀ k n, (∀ t, t < n → s.getD (i + t) 0 = s.getD (j + t) 0) → n ≤ comA s i j n k ∧ comA s i j n k ≤ n + k ∧ ∀ t, t < comA s i j n k → s.getD (i + t) 0 = s.getD (j + t) 0 := by
 intro k
 induction k with
 | zero => intro n h; exact ⟨Nat.le_refl _, Nat.le_refl _, h⟩
 | succ k ih =>
  intro n h
  unfold comA
  split
  ·rename_i he
   obtain ⟨a, b, c⟩ := ih (n + 1) (fun t ht => by
    rcases Nat.lt_or_ge t n with h1 | h1
    ·exact h t h1
    ·have : t = n := by omega
     rw [this]; exact he)
   exact ⟨by omega, by omega, c⟩
  ·exact ⟨Nat.le_refl _, by omega, h⟩
theorem com_le (s : List UInt8) (i j most : Nat) : com s i j most ≤ most := by have := (comA_spec s i j most 0 (fun t h => by omega)).2.1; unfold com; omega
theorem com_eq (s : List UInt8) (i j most : Nat) : ∀ t, t < com s i j most → s.getD (i + t) 0 = s.getD (j + t) 0 := (comA_spec s i j most 0 (fun t h => by omega)).2.2
def btr (s : List UInt8) (i most : Nat) : Nat → Nat → List (Nat × Nat) → List (Nat × Nat)
 | 0, _, o => o
 | p + 1, b, o => if 4096 < i - p ∨ most ≤ b then o
  else if s.getD (p + b) 0 ≠ s.getD (i + b) 0 then btr s i most p b o
  else if b < com s p i most then btr s i most p (com s p i most) (o ++ [(com s p i most, i - p)]) else btr s i most p b o
def mostAt (s : List UInt8) (i : Nat) : Nat := min 273 (s.length - i)
def cand (s : List UInt8) (i : Nat) : List (Nat × Nat) := btr s i (mostAt s i) i 1 []
def CopyOk (s : List UInt8) (i : Nat) (c : Nat × Nat) : Prop := 2 ≤ c.1 ∧ c.1 ≤ mostAt s i ∧ 1 ≤ c.2 ∧ c.2 ≤ i ∧ c.2 ≤ 4096 ∧ ∀ t, t < c.1 → s.getD (i - c.2 + t) 0 = s.getD (i + t) 0
theorem btr_ok (s : List UInt8) (i : Nat) : ∀ p b o, p ≤ i → 1 ≤ b → (∀ c ∈ o, CopyOk s i c) → (∀ c ∈ o, c.1 ≤ b) → o.Pairwise (fun x y => x.1 < y.1) →
  (∀ c ∈ btr s i (mostAt s i) p b o, CopyOk s i c) ∧ (btr s i (mostAt s i) p b o).Pairwise (fun x y => x.1 < y.1) := by
 intro p
 induction p with
 | zero => intro b o _ _ h _ hp; exact ⟨h, hp⟩
 | succ p ih =>
  intro b o hpi hb h hm hp
  unfold btr
  split
  ·exact ⟨h, hp⟩
  ·rename_i hg
   split
   ·exact ih b o (by omega) hb h hm hp
   ·split
    ·rename_i hn
     have hok : CopyOk s i (com s p i (mostAt s i), i - p) := by
      refine ⟨by simp only; omega, com_le _ _ _ _, by simp only; omega, by simp only; omega, by simp only; omega, fun t ht => ?_⟩
      have := com_eq s p i (mostAt s i) t ht
      rw [← this]
      congr 1
      simp only
      omega
     refine ih _ _ (by omega) (by omega) (fun c hc => ?_) (fun c hc => ?_) ?_
     ·rcases List.mem_append.1 hc with hc | hc
      ·exact h c hc
      ·rw [List.mem_singleton.1 hc]; exact hok
     ·rcases List.mem_append.1 hc with hc | hc
      ·have := hm c hc; omega
      ·rw [List.mem_singleton.1 hc]; exact Nat.le_refl _
     ·rw [List.pairwise_append]
      refine ⟨hp, by simp, fun x hx y hy => ?_⟩
      rw [List.mem_singleton.1 hy]
      have := hm x hx
      simp only
      omega
    ·exact ih b o (by omega) hb h hm hp
theorem cand_ok (s : List UInt8) (i : Nat) : (∀ c ∈ cand s i, CopyOk s i c) ∧ (cand s i).Pairwise (fun x y => x.1 < y.1) :=
 btr_ok s i i 1 [] (Nat.le_refl _) (Nat.le_refl _) (fun c hc => by cases hc) (fun c hc => by cases hc) .nil
structure Pc where
 len : Nat
 dist : Nat
 byte : UInt8
deriving Inhabited, DecidableEq
structure St where
 cost : Nat
 pcs : Nat
 first : Pc
deriving Inhabited
def st0 : St := ⟨0, 0, ⟨0, 0, 0⟩⟩
def price (p : Pc) : Nat := if p.dist = 0 then 9 else 12 + blen p.dist + blen p.len
def down (hi lo d : Nat) : List Pc := (List.range (hi - lo)).map (fun t => ⟨hi - t, d, 0⟩)
def tries : List (Nat × Nat) → List Pc
 | [] => []
 | [c] => down c.1 1 c.2
 | c :: c' :: r => down c.1 c'.1 c.2 ++ tries (c' :: r)
def stOf (tb : List St) (p : Pc) : St := ⟨(tb.getD (p.len - 1) st0).cost + price p, (tb.getD (p.len - 1) st0).pcs + 1, p⟩
def bett (x c : St) : Bool := decide (x.cost < c.cost) || (decide (x.cost = c.cost) && decide (x.pcs < c.pcs))
def tryP (tb : List St) (c : Option St) (p : Pc) : Option St := match c with
 | none => some (stOf tb p)
 | some c => if bett (stOf tb p) c = true then some (stOf tb p) else some c
def lit (s : List UInt8) (i : Nat) : Pc := ⟨1, 0, s.getD i 0⟩
def pcsAt (s : List UInt8) (i : Nat) : List Pc := tries (cand s i).reverse ++ [lit s i]
def bestAt (s : List UInt8) (i : Nat) (tb : List St) : St := ((pcsAt s i).foldl (tryP tb) none).getD st0
def tbl (s : List UInt8) : Nat → List St
 | 0 => [st0]
 | k + 1 => bestAt s (s.length - 1 - k) (tbl s k) :: tbl s k
theorem tbl_len (s : List UInt8) (k : Nat) : (tbl s k).length = k + 1 := by
 induction k with
 | zero => rfl
 | succ k ih => simp [tbl, ih]
def bestT (s : List UInt8) : List St := tbl s s.length
def follow (s : List UInt8) : Nat → Nat → List Pc
 | 0, _ => []
 | f + 1, i => if i < s.length then ((bestT s).getD i st0).first :: follow s f (i + ((bestT s).getD i st0).first.len) else []
def parse (s : List UInt8) : List Pc := follow s s.length 0
def PcOk (s : List UInt8) (i : Nat) (p : Pc) : Prop := (p.dist = 0 ∧ p.len = 1 ∧ p.byte = s.getD i 0 ∧ i < s.length) ∨
 (1 ≤ p.dist ∧ p.dist ≤ i ∧ p.dist ≤ 4096 ∧ 2 ≤ p.len ∧ p.len ≤ 273 ∧ i + p.len ≤ s.length ∧ p.byte = 0 ∧ ∀ t, t < p.len → s.getD (i - p.dist + t) 0 = s.getD (i + t) 0)
theorem down_mem {hi lo d : Nat} {p : Pc} (h : p ∈ down hi lo d) : lo < p.len ∧ p.len ≤ hi ∧ p.dist = d ∧ p.byte = 0 := by
 obtain ⟨t, ht, rfl⟩ := List.mem_map.1 h
 have := List.mem_range.1 ht
 exact ⟨by simp only; omega, by simp only; omega, rfl, rfl⟩
theorem tries_mem : ∀ (l : List (Nat × Nat)) (p : Pc), (∀ c ∈ l, 2 ≤ c.1) → p ∈ tries l → ∃ c ∈ l, 2 ≤ p.len ∧ p.len ≤ c.1 ∧ p.dist = c.2 ∧ p.byte = 0
 | [], p, _, h => by cases h
 | [c], p, _, h => by
  obtain ⟨a, b, d, e⟩ := down_mem h
  exact ⟨c, by simp, by omega, b, d, e⟩
 | c :: c' :: r, p, hl, h => by
  rcases List.mem_append.1 h with h | h
  ·obtain ⟨a, b, d, e⟩ := down_mem h
   have := hl c' (by simp)
   exact ⟨c, by simp, by omega, b, d, e⟩
  ·obtain ⟨x, hx, y⟩ := tries_mem (c' :: r) p (fun z hz => hl z (List.mem_cons_of_mem _ hz)) h
   exact ⟨x, List.mem_cons_of_mem _ hx, y⟩
theorem pcsAt_ok {s : List UInt8} {i : Nat} (hi : i < s.length) : ∀ p ∈ pcsAt s i, PcOk s i p := by
 intro p hp
 rcases List.mem_append.1 hp with hp | hp
 ·obtain ⟨c, hc, h1, h2, h3, h4⟩ := tries_mem _ p (fun c hc => ((cand_ok s i).1 c (List.mem_reverse.1 hc)).1) hp
  obtain ⟨k1, k2, k3, k4, k5, k6⟩ := (cand_ok s i).1 c (List.mem_reverse.1 hc)
  have hm : mostAt s i ≤ 273 ∧ mostAt s i ≤ s.length - i := ⟨Nat.min_le_left _ _, Nat.min_le_right _ _⟩
  exact .inr ⟨by omega, by omega, by omega, h1, by omega, by omega, h4, fun t ht => by rw [h3]; exact k6 t (by omega)⟩
 ·rw [List.mem_singleton.1 hp]
  exact .inl ⟨rfl, rfl, rfl, hi⟩
theorem fold_first (tb : List St) : ∀ (l : List Pc) (c : Option St), (∀ x, c = some x → ∃ p, p = x.first) → ∀ x, l.foldl (tryP tb) c = some x → (c = some x) ∨ x.first ∈ l := by
 intro l
 induction l with
 | nil => intro c _ x h; exact .inl h
 | cons p r ih =>
  intro c hc x h
  rcases ih (tryP tb c p) (fun x _ => ⟨_, rfl⟩) x h with h1 | h1
  ·unfold tryP at h1
   cases c with
   | none =>
    simp only at h1
    injection h1 with h1
    exact .inr (by rw [← h1]; exact List.mem_cons_self)
   | some c =>
    simp only at h1
    split at h1
    ·injection h1 with h1
     exact .inr (by rw [← h1]; exact List.mem_cons_self)
    ·exact .inl h1
  ·exact .inr (List.mem_cons_of_mem _ h1)
theorem tryP_some (tb : List St) (c : Option St) (p : Pc) : ∃ x, tryP tb c p = some x := by
 unfold tryP
 cases c with
 | none => exact ⟨_, rfl⟩
 | some c => simp only; split <;> exact ⟨_, rfl⟩
theorem bestAt_ok {s : List UInt8} {i : Nat} (hi : i < s.length) (tb : List St) : PcOk s i (bestAt s i tb).first := by
 have hx : ∃ x, (pcsAt s i).foldl (tryP tb) none = some x := by
  unfold pcsAt
  rw [List.foldl_append]
  exact tryP_some _ _ _
 obtain ⟨x, hx⟩ := hx
 have := fold_first tb (pcsAt s i) none (fun x h => by cases h) x hx
 unfold bestAt
 rw [hx]
 rcases this with h | h
 ·cases h
 ·exact pcsAt_ok hi _ h
theorem tbl_at (s : List UInt8) (k : Nat) (hk : k ≤ s.length) : ∀ j, j < k → (tbl s k).getD j st0 = bestAt s (s.length - k + j) (tbl s (k - 1 - j)) := by
 induction k with
 | zero => intro j h; omega
 | succ k ih =>
  intro j hj
  cases j with
  | zero =>
   show bestAt s (s.length - 1 - k) (tbl s k) = _
   congr 1
   omega
  | succ j =>
   show (tbl s k).getD j st0 = _
   rw [ih (by omega) j (by omega)]
   congr 1
   ·omega
   ·congr 1
    omega
theorem bestT_ok {s : List UInt8} {i : Nat} (hi : i < s.length) : PcOk s i ((bestT s).getD i st0).first := by
 unfold bestT
 rw [tbl_at s s.length (Nat.le_refl _) i hi]
 have := bestAt_ok (s := s) (i := s.length - s.length + i) (by omega) (tbl s (s.length - 1 - i))
 rw [show s.length - s.length + i = i by omega] at this ⊢
 exact this
theorem PcOk.pos {s : List UInt8} {i : Nat} {p : Pc} (h : PcOk s i p) : 1 ≤ p.len ∧ i + p.len ≤ s.length := by
 rcases h with ⟨_, h2, _, h4⟩ | ⟨_, _, _, h4, _, h6, _⟩ <;> omega
/-! ## What the pieces give -/
def copyN (d : Nat) : Nat → List UInt8 → List UInt8
 | 0, o => o
 | n + 1, o => copyN d n (o ++ [o.getD (o.length - d) 0])
def app (o : List UInt8) (p : Pc) : List UInt8 := if p.dist = 0 then o ++ [p.byte] else copyN p.dist p.len o
theorem take_getD {s : List UInt8} {i : Nat} (h : i < s.length) : s.take (i + 1) = s.take i ++ [s.getD i 0] := by
 rw [List.take_succ_eq_append_getElem h]
 congr 2
 simp [List.getD, h]
theorem copy_take {s : List UInt8} {d : Nat} (hd : 1 ≤ d) : ∀ n i, d ≤ i → i + n ≤ s.length → (∀ t, t < n → s.getD (i - d + t) 0 = s.getD (i + t) 0) → copyN d n (s.take i) = s.take (i + n) := by
 intro n
 induction n with
 | zero => intro i _ _ _; rfl
 | succ n ih =>
  intro i h1 h2 h3
  have e : (s.take i).getD ((s.take i).length - d) 0 = s.getD i 0 := by
   have hl : (s.take i).length = i := by rw [List.length_take]; omega
   rw [hl]
   have := h3 0 (by omega)
   rw [Nat.add_zero, Nat.add_zero] at this
   rw [← this]
   simp [List.getD, List.getElem?_take_of_lt (show i - d < i by omega)]
  show copyN d n (s.take i ++ [(s.take i).getD ((s.take i).length - d) 0]) = _
  rw [e, ← take_getD (show i < s.length by omega), ih (i + 1) (by omega) (by omega) (fun t ht => by
   have := h3 (t + 1) (by omega)
   rw [show i + 1 - d + t = i - d + (t + 1) by omega, show i + 1 + t = i + (t + 1) by omega]
   exact this)]
  congr 1
  omega
theorem app_ok {s : List UInt8} {i : Nat} {p : Pc} (h : PcOk s i p) : app (s.take i) p = s.take (i + p.len) := by
 unfold app
 rcases h with ⟨h1, h2, h3, h4⟩ | ⟨h1, h2, h3, h4, h5, h6, h7, h8⟩
 ·rw [if_pos h1, h2, h3, take_getD h4]
 ·rw [if_neg (by omega), copy_take h1 _ _ h2 h6 h8]
inductive Parses (s : List UInt8) : Nat → List Pc → Prop
 | done : Parses s s.length []
 | step {i : Nat} {p : Pc} {l : List Pc} (h : PcOk s i p) (r : Parses s (i + p.len) l) : Parses s i (p :: l)
theorem follow_parses (s : List UInt8) : ∀ f i, i ≤ s.length → s.length ≤ i + f → Parses s i (follow s f i) := by
 intro f
 induction f with
 | zero =>
  intro i h1 h2
  have : i = s.length := by omega
  subst this
  exact .done
 | succ f ih =>
  intro i h1 h2
  unfold follow
  split
  ·rename_i h
   have hp := bestT_ok h
   have := hp.pos
   exact .step hp (ih _ (by omega) (by omega))
  ·have : i = s.length := by omega
   subst this
   exact .done
theorem parse_parses (s : List UInt8) : Parses s 0 (parse s) := follow_parses s s.length 0 (Nat.zero_le _) (by omega)
end Wv.Lz
/-
  Texts as bytes by their pieces, in plain Lean: the models of pieces, encoding and reading, and that a text comes back. No program stands here.
-/
namespace Wv.Lz
open Wv.Vi Wv.Rc Wv.Mo Wv.Ru
structure Ms where
 kind : List Nat
 bytes : List (List Nat)
 last : UInt8
 len : List Nat
 dist : List Nat
def tr0 (n : Nat) : List Nat := List.replicate (2 ^ n) 1024
def m0 : Ms := ⟨tr0 1, List.replicate 8 (tr0 8), 0, t0, t0⟩
def btree (m : Ms) : List Nat := m.bytes.getD (m.last.toNat / 32) []
def kenc (b : Nat) (x : Ms × En) : Ms × En := ({ x.1 with kind := (tenc 1 b 1 x.1.kind x.2).1 }, (tenc 1 b 1 x.1.kind x.2).2)
def benc (c : UInt8) (x : Ms × En) : Ms × En := ({ x.1 with bytes := x.1.bytes.set (x.1.last.toNat / 32) (tenc 8 c.toNat 1 (btree x.1) x.2).1, last := c }, (tenc 8 c.toNat 1 (btree x.1) x.2).2)
def lenc (v : Nat) (x : Ms × En) : Ms × En := ({ x.1 with len := (nenc v (x.1.len, x.2)).1 }, (nenc v (x.1.len, x.2)).2)
def denc (v : Nat) (x : Ms × En) : Ms × En := ({ x.1 with dist := (nenc v (x.1.dist, x.2)).1 }, (nenc v (x.1.dist, x.2)).2)
def penc (p : Pc) (x : Ms × En) : Ms × En := if p.dist = 0 then benc p.byte (kenc 0 x) else denc (p.dist - 1) (lenc (p.len - 2) (kenc 1 x))
def pencs : List Pc → Ms × En → Ms × En
 | [], x => x
 | p :: l, x => pencs l (penc p x)
def lzE (s : List UInt8) : Option (List UInt8) := if 4096 < s.length then none else some (num s.length ++ if s = [] then [] else efin (pencs (parse s) (m0, e0)).2)
def kdec (m : Ms) (d : De) : Nat × Ms × De := ((tdec 1 1 m.kind d).1 - 2, { m with kind := (tdec 1 1 m.kind d).2.1 }, (tdec 1 1 m.kind d).2.2)
def bdec (m : Ms) (d : De) : UInt8 × Ms × De := (UInt8.ofNat ((tdec 8 1 (btree m) d).1 - 256), { m with bytes := m.bytes.set (m.last.toNat / 32) (tdec 8 1 (btree m) d).2.1, last := UInt8.ofNat ((tdec 8 1 (btree m) d).1 - 256) }, (tdec 8 1 (btree m) d).2.2)
def ldec (m : Ms) (d : De) : Int × Ms × De := ((ndec m.len d).1, { m with len := (ndec m.len d).2.1 }, (ndec m.len d).2.2)
def ddec (m : Ms) (d : De) : Int × Ms × De := ((ndec m.dist d).1, { m with dist := (ndec m.dist d).2.1 }, (ndec m.dist d).2.2)
def badL (n : Nat) (o : List UInt8) (L D : Int) : Bool := decide (L < 0) || decide (271 < L) || decide ((n : Int) - o.length < L + 2) || decide (D < 0) || decide ((o.length : Int) ≤ D)
def rdP : Nat → Nat → List UInt8 → Ms → De → Option (List UInt8)
  | 0, _, o, _, _ => some o
  | f + 1, n, o, m, d => if o.length < n then
      if (kdec m d).1 = 0 then rdP f n (o ++ [(bdec (kdec m d).2.1 (kdec m d).2.2).1]) (bdec (kdec m d).2.1 (kdec m d).2.2).2.1 (bdec (kdec m d).2.1 (kdec m d).2.2).2.2
      else if badL n o (ldec (kdec m d).2.1 (kdec m d).2.2).1 (ddec (ldec (kdec m d).2.1 (kdec m d).2.2).2.1 (ldec (kdec m d).2.1 (kdec m d).2.2).2.2).1 = true then none
      else rdP f n (copyN ((ddec (ldec (kdec m d).2.1 (kdec m d).2.2).2.1 (ldec (kdec m d).2.1 (kdec m d).2.2).2.2).1.toNat + 1) ((ldec (kdec m d).2.1 (kdec m d).2.2).1.toNat + 2) o)
        (ddec (ldec (kdec m d).2.1 (kdec m d).2.2).2.1 (ldec (kdec m d).2.1 (kdec m d).2.2).2.2).2.1 (ddec (ldec (kdec m d).2.1 (kdec m d).2.2).2.1 (ldec (kdec m d).2.1 (kdec m d).2.2).2.2).2.2
    else some o
def lzR (data : List UInt8) (n : Nat) : Option (List UInt8) := rdP n n [] m0 (d0 data)
def lzD (data : List UInt8) (most : Int) : List UInt8 × Nat := match rnum data 4096 with
 | none => ([], 12)
 | some (n, r) => if most < (n : Int) then ([], 2) else match lzR r n with
  | none => ([], 12)
  | some s => if lzE s = some data then (s, 0) else ([], 12)
/-! ## A text comes back -/
structure MOk (m : Ms) : Prop where
 k : TOk m.kind ∧ m.kind.length = 2
 bl : m.bytes.length = 8
 b : ∀ t ∈ m.bytes, TOk t ∧ t.length = 256
 l : TNum m.len
 d : TNum m.dist
theorem tr0_ok (n : Nat) : TOk (tr0 n) ∧ (tr0 n).length = 2 ^ n := by
 refine ⟨fun x hx => ?_, List.length_replicate⟩
 rw [List.eq_of_mem_replicate hx]
 omega
theorem m0_ok : MOk m0 := by
 refine ⟨tr0_ok 1, by simp [m0], fun t ht => ?_, tnum_0, tnum_0⟩
 have : t = tr0 8 := List.eq_of_mem_replicate ht
 rw [this]
 exact tr0_ok 8
theorem last_lt (c : UInt8) : c.toNat / 32 < 8 := by have := c.toNat_lt; omega
theorem btree_ok {m : Ms} (h : MOk m) : TOk (btree m) ∧ (btree m).length = 256 := by
 have hl : m.last.toNat / 32 < m.bytes.length := by rw [h.bl]; exact last_lt _
 have e : btree m = m.bytes[m.last.toNat / 32] := by unfold btree; simp [List.getD, hl]
 rw [e]
 exact h.b _ (List.getElem_mem _)
theorem set_tree {m : Ms} (h : MOk m) {t : List Nat} (ht : TOk t ∧ t.length = 256) (j : Nat) : ∀ u ∈ m.bytes.set j t, TOk u ∧ u.length = 256 := by
 intro u hu
 rcases List.mem_or_eq_of_mem_set hu with h1 | h1
 ·exact h.b u h1
 ·rw [h1]; exact ht
theorem kenc_val {b : Nat} {x : Ms × En} (h : MOk x.1) (he : Val 0 x.2) : MOk (kenc b x).1 ∧ Val 0 (kenc b x).2 := by
 obtain ⟨a, c, d⟩ := tenc_val 1 b 1 h.k.1 (by rw [h.k.2]; decide) he
 exact ⟨⟨⟨a, c.trans h.k.2⟩, h.bl, h.b, h.l, h.d⟩, d⟩
theorem benc_val {c : UInt8} {x : Ms × En} (h : MOk x.1) (he : Val 0 x.2) : MOk (benc c x).1 ∧ Val 0 (benc c x).2 := by
 obtain ⟨t1, t2⟩ := btree_ok h
 obtain ⟨a, b, d⟩ := tenc_val 8 c.toNat 1 t1 (by rw [t2]; decide) he
 exact ⟨⟨h.k, by show (List.set _ _ _).length = 8; rw [List.length_set]; exact h.bl, set_tree h ⟨a, b.trans t2⟩ _, h.l, h.d⟩, d⟩
theorem lenc_val {v : Nat} {x : Ms × En} (h : MOk x.1) (he : Val 0 x.2) : MOk (lenc v x).1 ∧ Val 0 (lenc v x).2 := by
 obtain ⟨a, b⟩ := nenc_val (v := v) (x := (x.1.len, x.2)) h.l he
 exact ⟨⟨h.k, h.bl, h.b, a, h.d⟩, b⟩
theorem denc_val {v : Nat} {x : Ms × En} (h : MOk x.1) (he : Val 0 x.2) : MOk (denc v x).1 ∧ Val 0 (denc v x).2 := by
 obtain ⟨a, b⟩ := nenc_val (v := v) (x := (x.1.dist, x.2)) h.d he
 exact ⟨⟨h.k, h.bl, h.b, h.l, a⟩, b⟩
theorem penc_val {p : Pc} {x : Ms × En} (h : MOk x.1) (he : Val 0 x.2) : MOk (penc p x).1 ∧ Val 0 (penc p x).2 := by
 unfold penc
 split
 ·obtain ⟨a, b⟩ := kenc_val (b := 0) h he
  exact benc_val a b
 ·obtain ⟨a, b⟩ := kenc_val (b := 1) h he
  obtain ⟨c, d⟩ := lenc_val (v := p.len - 2) a b
  exact denc_val c d
theorem pencs_val (l : List Pc) : ∀ {x : Ms × En}, MOk x.1 → Val 0 x.2 → MOk (pencs l x).1 ∧ Val 0 (pencs l x).2 := by
 induction l with
 | nil => intro x h he; exact ⟨h, he⟩
 | cons p l ih => intro x h he; obtain ⟨a, b⟩ := penc_val (p := p) h he; exact ih a b
section
variable {F : List UInt8}
theorem wi_kenc {b : Nat} {x : Ms × En} (h : MOk x.1) (he : Val 0 x.2) (hw : Wi F (kenc b x).2) : Wi F x.2 := wi_tenc 1 b 1 h.k.1 (by rw [h.k.2]; decide) he hw
theorem wi_benc {c : UInt8} {x : Ms × En} (h : MOk x.1) (he : Val 0 x.2) (hw : Wi F (benc c x).2) : Wi F x.2 := by
 obtain ⟨t1, t2⟩ := btree_ok h
 exact wi_tenc 8 c.toNat 1 t1 (by rw [t2]; decide) he hw
theorem wi_penc {p : Pc} {x : Ms × En} (h : MOk x.1) (he : Val 0 x.2) (hw : Wi F (penc p x).2) : Wi F x.2 := by
 unfold penc at hw
 split at hw
 ·obtain ⟨a, b⟩ := kenc_val (b := 0) h he
  exact wi_kenc h he (wi_benc a b hw)
 ·obtain ⟨a, b⟩ := kenc_val (b := 1) h he
  obtain ⟨c, d⟩ := lenc_val (v := p.len - 2) a b
  exact wi_kenc h he (wi_nenc (x := ((kenc 1 x).1.len, (kenc 1 x).2)) a.l b (wi_nenc (x := ((lenc (p.len - 2) (kenc 1 x)).1.dist, (lenc (p.len - 2) (kenc 1 x)).2)) c.d d hw))
theorem wi_pencs (l : List Pc) : ∀ {x : Ms × En}, MOk x.1 → Val 0 x.2 → Wi F (pencs l x).2 → Wi F x.2 := by
 induction l with
 | nil => intro x _ _ h; exact h
 | cons p l ih => intro x h he hw; obtain ⟨a, b⟩ := penc_val (p := p) h he; exact wi_penc h he (ih a b hw)
theorem sy_kenc {b : Nat} (hb : b < 2) {x : Ms × En} {d : De} (h : MOk x.1) (he : Val 0 x.2) (hs : Sy F x.2 d) (hw : Wi F (kenc b x).2) : (kdec x.1 d).1 = b ∧ (kdec x.1 d).2.1 = (kenc b x).1 ∧ Sy F (kenc b x).2 (kdec x.1 d).2.2 := by
 obtain ⟨a1, a2, a3⟩ := sy_tenc 1 b 1 h.k.1 (by rw [h.k.2]; decide) he hs hw
 unfold kdec kenc
 simp only
 rw [a1, a2]
 refine ⟨by omega, rfl, a3⟩
theorem sy_benc {c : UInt8} {x : Ms × En} {d : De} (h : MOk x.1) (he : Val 0 x.2) (hs : Sy F x.2 d) (hw : Wi F (benc c x).2) : (bdec x.1 d).1 = c ∧ (bdec x.1 d).2.1 = (benc c x).1 ∧ Sy F (benc c x).2 (bdec x.1 d).2.2 := by
 obtain ⟨t1, t2⟩ := btree_ok h
 obtain ⟨a1, a2, a3⟩ := sy_tenc 8 c.toNat 1 t1 (by rw [t2]; decide) he hs hw
 have hc : UInt8.ofNat ((tdec 8 1 (btree x.1) d).1 - 256) = c := by
  rw [a1]
  have h256 : (2 : Nat) ^ 8 = 256 := by decide
  have := c.toNat_lt
  rw [h256, Nat.mod_eq_of_lt (by omega), show 1 * 256 + c.toNat - 256 = c.toNat by omega]
  exact UInt8.ofNat_toNat
 unfold bdec benc
 simp only
 rw [hc, a2]
 exact ⟨rfl, rfl, a3⟩
theorem sy_lenc {v : Nat} (hv : v < 4611686018427387904) {x : Ms × En} {d : De} (h : MOk x.1) (he : Val 0 x.2) (hs : Sy F x.2 d) (hw : Wi F (lenc v x).2) : (ldec x.1 d).1 = v ∧ (ldec x.1 d).2.1 = (lenc v x).1 ∧ Sy F (lenc v x).2 (ldec x.1 d).2.2 := by
 obtain ⟨a1, a2, a3⟩ := sy_nenc (x := (x.1.len, x.2)) h.l he hv hs hw
 unfold ldec lenc
 simp only at a1 a2 a3 ⊢
 rw [a1, a2]
 exact ⟨rfl, rfl, a3⟩
theorem sy_denc {v : Nat} (hv : v < 4611686018427387904) {x : Ms × En} {d : De} (h : MOk x.1) (he : Val 0 x.2) (hs : Sy F x.2 d) (hw : Wi F (denc v x).2) : (ddec x.1 d).1 = v ∧ (ddec x.1 d).2.1 = (denc v x).1 ∧ Sy F (denc v x).2 (ddec x.1 d).2.2 := by
 obtain ⟨a1, a2, a3⟩ := sy_nenc (x := (x.1.dist, x.2)) h.d he hv hs hw
 unfold ddec denc
 simp only at a1 a2 a3 ⊢
 rw [a1, a2]
 exact ⟨rfl, rfl, a3⟩
theorem rd_parses {s : List UInt8} (h4 : s.length ≤ 4096) {i : Nat} {l : List Pc} (hp : Parses s i l) : ∀ (f : Nat) {x : Ms × En} {d : De}, s.length ≤ i + f → MOk x.1 → Val 0 x.2 → Sy F x.2 d → Wi F (pencs l x).2 → rdP f s.length (s.take i) x.1 d = some s := by
 induction hp with
 | done =>
  intro f x d _ _ _ _ _
  have e : s.take s.length = s := List.take_of_length_le (Nat.le_refl _)
  cases f with
  | zero => show some _ = _; rw [e]
  | succ f => unfold rdP; rw [e, if_neg (by omega)]
 | @step i p l hok r ih =>
  intro f x d hf hm he hs hw
  have hpos := hok.pos
  have happ := app_ok hok
  cases f with
  | zero => omega
  | succ f =>
   have hlen : (s.take i).length = i := by rw [List.length_take]; omega
   obtain ⟨pm, pe⟩ := penc_val (p := p) hm he
   have hw1 : Wi F (penc p x).2 := wi_pencs l pm pe hw
   unfold rdP
   rw [if_pos (by rw [hlen]; omega)]
   have hcases : (p.dist = 0 ∧ p.len = 1) ∨ (p.dist ≠ 0 ∧ 1 ≤ p.dist ∧ p.dist ≤ i ∧ 2 ≤ p.len ∧ p.len ≤ 273) := by
    rcases hok with ⟨h1, h2, _⟩ | ⟨h1, h2, _, h5, h6, _⟩
    ·exact .inl ⟨h1, h2⟩
    ·exact .inr ⟨by omega, h1, h2, h5, h6⟩
   rcases hcases with ⟨h1, h2⟩ | ⟨h1, h2, h3, h5, h6⟩
   ·have e : penc p x = benc p.byte (kenc 0 x) := by unfold penc; rw [if_pos h1]
    rw [e] at hw1
    obtain ⟨km, ke⟩ := kenc_val (b := 0) hm he
    obtain ⟨k1, k2, k3⟩ := sy_kenc (b := 0) (by omega) hm he hs (wi_benc km ke hw1)
    have b0 := sy_benc (c := p.byte) (x := kenc 0 x) km ke k3 hw1
    rw [← k2] at b0
    obtain ⟨b1, b2, b3⟩ := b0
    rw [if_pos k1, b1, b2]
    have e2 : s.take i ++ [p.byte] = s.take (i + p.len) := by
     rw [← happ]; unfold app; rw [if_pos h1]
    rw [e2]
    have hbb : benc p.byte ((kdec x.1 d).2.1, (kenc 0 x).2) = penc p x := by rw [e, k2]
    have := ih f (x := penc p x) (d := (bdec (kdec x.1 d).2.1 (kdec x.1 d).2.2).2.2) (by omega) pm pe (by rw [e]; exact b3) hw
    rw [← this, e]
   ·have e : penc p x = denc (p.dist - 1) (lenc (p.len - 2) (kenc 1 x)) := by unfold penc; rw [if_neg h1]
    rw [e] at hw1
    obtain ⟨km, ke⟩ := kenc_val (b := 1) hm he
    obtain ⟨lm, le⟩ := lenc_val (v := p.len - 2) km ke
    have w2 : Wi F (lenc (p.len - 2) (kenc 1 x)).2 := wi_nenc (x := ((lenc (p.len - 2) (kenc 1 x)).1.dist, (lenc (p.len - 2) (kenc 1 x)).2)) lm.d le hw1
    have w3 : Wi F (kenc 1 x).2 := wi_nenc (x := ((kenc 1 x).1.len, (kenc 1 x).2)) km.l ke w2
    obtain ⟨k1, k2, k3⟩ := sy_kenc (b := 1) (by omega) hm he hs w3
    have l0 := sy_lenc (v := p.len - 2) (by omega) (x := kenc 1 x) km ke k3 w2
    rw [← k2] at l0
    obtain ⟨l1, l2, l3⟩ := l0
    have hi4 : i ≤ 4096 := by omega
    have d0' := sy_denc (v := p.dist - 1) (by omega) (x := lenc (p.len - 2) (kenc 1 x)) lm le l3 hw1
    rw [← l2] at d0'
    obtain ⟨d1, d2, d3⟩ := d0'
    rw [if_neg (by rw [k1]; omega), l1, d1]
    have hb : badL s.length (s.take i) ((p.len - 2 : Nat) : Int) ((p.dist - 1 : Nat) : Int) = false := by
     unfold badL
     rw [hlen]
     simp only [Bool.or_eq_false_iff, decide_eq_false_iff_not]
     refine ⟨⟨⟨⟨?_, ?_⟩, ?_⟩, ?_⟩, ?_⟩ <;> omega
    rw [hb, if_neg (by decide)]
    have e2 : copyN (((p.dist - 1 : Nat) : Int).toNat + 1) (((p.len - 2 : Nat) : Int).toNat + 2) (s.take i) = s.take (i + p.len) := by
     rw [← happ]; unfold app; rw [if_neg h1, Int.toNat_natCast, Int.toNat_natCast]
     congr 1 <;> omega
    rw [e2, d2]
    have := ih f (x := penc p x) (d := (ddec (ldec (kdec x.1 d).2.1 (kdec x.1 d).2.2).2.1 (ldec (kdec x.1 d).2.1 (kdec x.1 d).2.2).2.2).2.2) (by omega) pm pe (by rw [e]; exact d3) hw
    rw [← this, e]
end
theorem lzR_E {s : List UInt8} (h4 : s.length ≤ 4096) (hne : s ≠ []) : lzR (efin (pencs (parse s) (m0, e0)).2) s.length = some s := by
 obtain ⟨k1, k2⟩ := pencs_val (parse s) (x := (m0, e0)) m0_ok val_0
 have hw := wi_fin k2
 have hs := sy_start (wi_pencs (parse s) (x := (m0, e0)) m0_ok val_0 hw)
 exact rd_parses h4 (parse_parses s) s.length (x := (m0, e0)) (by omega) m0_ok val_0 hs hw
theorem lzD_E {s t : List UInt8} (h : lzE s = some t) (most : Int) (hm : (s.length : Int) ≤ most) : lzD t most = (s, 0) := by
 have h0 := h
 unfold lzE at h
 split at h
 ·cases h
 ·rename_i h4
  injection h with h
  have hr : rnum t 4096 = some (s.length, if s = [] then [] else efin (pencs (parse s) (m0, e0)).2) := by
   rw [← h]
   exact rnum_num _ _ (by omega) (by omega) _
  unfold lzD
  rw [hr]
  simp only
  rw [if_neg (by omega)]
  have hR : lzR (if s = [] then [] else efin (pencs (parse s) (m0, e0)).2) s.length = some s := by
   by_cases hn : s = []
   ·rw [if_pos hn, hn]; rfl
   ·rw [if_neg hn]; exact lzR_E (by omega) hn
  rw [hR]
  simp only
  rw [if_pos h0]
theorem lzD_ok {t s : List UInt8} {most : Int} (h : lzD t most = (s, 0)) : lzE s = some t := by
 unfold lzD at h
 split at h
 ·cases h
 ·split at h
  ·cases h
  ·split at h
   ·cases h
   ·split at h
    ·rename_i he
     injection h with h _
     rw [← h]; exact he
    ·cases h
theorem lzE_some {s t : List UInt8} (h : lzE s = some t) : s.length ≤ 4096 := by
 unfold lzE at h
 split at h
 ·cases h
 ·omega
end Wv.Lz
/-
  Bit strings in plain Lean: numbers as bits, unary runs, values of bits, and their first laws. No program stands here.
-/
namespace Wv.Bit
def num : Nat → Nat → List Bool
 | 0, _ => []
 | k + 1, v => v.testBit k :: num k v
def val (l : List Bool) : Nat := l.foldl (fun a b => 2 * a + b.toNat) 0
def blen (n : Nat) : Nat := if n = 0 then 0 else n.log2 + 1
def ones : Nat → List Bool → Nat
 | m + 1, true :: l => ones m l + 1
 | _, _ => 0

theorem snocInd {α : Type} {P : List α → Prop} (h0 : P []) (h1 : ∀ l a, P l → P (l ++ [a])) (l : List α) : P l := by
 rw [← List.reverse_reverse l]
 induction l.reverse with
 | nil => exact h0
 | cons a l ih => rw [List.reverse_cons]; exact h1 _ _ ih
def bt (l : List Bool) (k : Nat) : Nat := (l.getD k false).toNat
theorem bt_le (l : List Bool) (k : Nat) : bt l k ≤ 1 := by unfold bt; cases l.getD k false <;> simp
theorem num_length (k v : Nat) : (num k v).length = k := by
 induction k with
 | zero => rfl
 | succ k ih => simp [num, ih]
theorem val_snoc (l : List Bool) (b : Bool) : val (l ++ [b]) = 2 * val l + b.toNat := by simp [val, List.foldl_append]
theorem val_lt (l : List Bool) : val l < 2 ^ l.length := by
 induction l using snocInd with
 | h0 => simp [val]
 | h1 l b ih =>
  rw [val_snoc, List.length_append, List.length_singleton, Nat.pow_succ]
  cases b <;> simp <;> omega
theorem bit_nat (v k : Nat) : (v.testBit k).toNat = v / 2 ^ k % 2 := by
 rw [Nat.testBit_eq_decide_div_mod_eq]
 have := Nat.mod_lt (v / 2 ^ k) (show 0 < 2 by omega)
 by_cases h : v / 2 ^ k % 2 = 1
 ·simp [h]
 ·have : v / 2 ^ k % 2 = 0 := by omega
  simp [this]
theorem blen_step (n : Nat) (h : 0 < n) : blen n = blen (n / 2) + 1 := by
 unfold blen
 rw [if_neg (by omega)]
 by_cases h1 : n / 2 = 0
 ·rw [if_pos h1]
  have : n = 1 := by omega
  subst this; decide
 ·rw [if_neg h1, Nat.log2_def, if_pos (by omega)]
structure Cd where
 k : Int
 p : Int
 v : Int
end Wv.Bit
/-
  Bit strings in plain Lean, second part: the bits in bytes, and the bytes of bits.
-/
namespace Wv.Bit
def rbit (s : ByteArray) (i : Nat) : Bool := ((s.data.toList.getD (i / 8) 0).toNat).testBit (7 - i % 8)
def rbits (s : ByteArray) (n : Nat) : List Bool := (List.range n).map (rbit s)
theorem rbits_length (s : ByteArray) (n : Nat) : (rbits s n).length = n := by simp [rbits]
theorem rbits_get (s : ByteArray) (n i : Nat) (h : i < n) : (rbits s n).getD i false = rbit s i := by
 simp [rbits, List.getD, h]
theorem rbit_nat (s : ByteArray) (i : Nat) (h : i / 8 < s.size) : (rbit s i).toNat = (s[i / 8]).toNat / 2 ^ (7 - i % 8) % 2 := by
 have h2 : s.data.toList.getD (i / 8) 0 = s[i / 8] := by
  simp only [List.getD, Array.getElem?_toList]
  rw [Array.getElem?_eq_getElem h]
  rfl
 rw [rbit, h2, bit_nat]
theorem and1_u8 (a : Nat) (ha : a < 256) : Go.bits .and .u8 (a : Int) 1 = ((a % 2 : Nat) : Int) := by
 have := Go.u8_and_nat a 1 ha (by omega)
 rw [Nat.and_one_is_mod] at this
 exact this
theorem bitLen_eq (x : Nat) (h : x < 2 ^ 64) : Go.Lib.bitLen x = blen x := by
  have key : ∀ f y, y < 2 ^ f → Go.Lib.bitLenAux f y = blen y := by
    intro f
    induction f with
    | zero => intro y hy; have : y = 0 := by omega
              subst this; rfl
    | succ f ih =>
      intro y hy
      unfold Go.Lib.bitLenAux
      by_cases h0 : y = 0
      · subst h0; rfl
      · rw [if_neg h0, ih (y / 2) (by rw [Nat.pow_succ] at hy; omega), blen_step y (by omega)]; omega
  exact key 64 x h
end Wv.Bit
/-
  Bit strings in plain Lean, third part: the bytes of bits, bit by bit.
-/
namespace Wv.Bit
def byteAt (l : List Bool) (j : Nat) : Nat := val ((List.range 8).map fun i => l.getD (8 * j + i) false)
def pack (l : List Bool) : List UInt8 := (List.range ((l.length + 7) / 8)).map fun j => UInt8.ofNat (byteAt l j)
theorem pack_length (l : List Bool) : (pack l).length = (l.length + 7) / 8 := by simp [pack]
theorem byteAt_lt (l : List Bool) (j : Nat) : byteAt l j < 256 := by
 have := val_lt ((List.range 8).map fun i => l.getD (8 * j + i) false)
 simpa [byteAt] using this
theorem byteAt_sum (l : List Bool) (j : Nat) : byteAt l j = 128 * bt l (8 * j) + 64 * bt l (8 * j + 1) + 32 * bt l (8 * j + 2) + 16 * bt l (8 * j + 3) + 8 * bt l (8 * j + 4) + 4 * bt l (8 * j + 5) + 2 * bt l (8 * j + 6) + bt l (8 * j + 7) := by
 have h : (List.range 8) = [0, 1, 2, 3, 4, 5, 6, 7] := by decide
 unfold byteAt
 rw [h]
 simp only [List.map_cons, List.map_nil, val, List.foldl_cons, List.foldl_nil, bt, Nat.add_zero]
 omega
theorem bt_out (l : List Bool) (k : Nat) (h : l.length ≤ k) : bt l k = 0 := by
 simp [bt, List.getD, List.getElem?_eq_none h]
theorem bt_append (l r : List Bool) (k : Nat) : bt (l ++ r) k = if k < l.length then bt l k else bt r (k - l.length) := by
 unfold bt
 simp only [List.getD, List.getElem?_append]
 split <;> rfl
theorem bt_one (b : Bool) (k : Nat) : bt [b] k = if k = 0 then b.toNat else 0 := by
 cases k <;> simp [bt]
theorem byteAt_other (l : List Bool) (b : Bool) (j : Nat) (h : j ≠ l.length / 8) : byteAt (l ++ [b]) j = byteAt l j := by
 have e : ∀ i, i < 8 → bt (l ++ [b]) (8 * j + i) = bt l (8 * j + i) := by
  intro i hi
  rw [bt_append]
  split
  ·rfl
  ·rename_i h2
   rw [bt_one, if_neg (by omega), bt_out _ _ (by omega)]
 rw [byteAt_sum, byteAt_sum]
 have e0 := e 0 (by omega); rw [Nat.add_zero] at e0
 rw [e0, e 1 (by omega), e 2 (by omega), e 3 (by omega), e 4 (by omega), e 5 (by omega), e 6 (by omega), e 7 (by omega)]
theorem byteAt_snoc (l : List Bool) (b : Bool) : byteAt (l ++ [b]) (l.length / 8) = byteAt l (l.length / 8) + b.toNat * 2 ^ (7 - l.length % 8) := by
 have e : ∀ i, i < 8 → bt (l ++ [b]) (8 * (l.length / 8) + i) = bt l (8 * (l.length / 8) + i) + if i = l.length % 8 then b.toNat else 0 := by
  intro i hi
  rw [bt_append, bt_one]
  by_cases h1 : i < l.length % 8
  ·rw [if_pos (by omega), if_neg (by omega), Nat.add_zero]
  ·rw [if_neg (by omega), bt_out l _ (by omega)]
   by_cases h2 : i = l.length % 8
   ·rw [if_pos (by omega), if_pos h2]; omega
   ·rw [if_neg (by omega), if_neg h2]
 rw [byteAt_sum, byteAt_sum]
 have e0 := e 0 (by omega); rw [Nat.add_zero] at e0
 rw [e0, e 1 (by omega), e 2 (by omega), e 3 (by omega), e 4 (by omega), e 5 (by omega), e 6 (by omega), e 7 (by omega)]
 have hm : l.length % 8 < 8 := Nat.mod_lt _ (by omega)
 generalize l.length % 8 = m at *
 have : m = 0 ∨ m = 1 ∨ m = 2 ∨ m = 3 ∨ m = 4 ∨ m = 5 ∨ m = 6 ∨ m = 7 := by omega
 rcases this with rfl | rfl | rfl | rfl | rfl | rfl | rfl | rfl <;> simp <;> omega
def room (l : List Bool) : List UInt8 := if l.length % 8 = 0 then pack l ++ [0] else pack l
theorem room_length (l : List Bool) : (room l).length = l.length / 8 + 1 := by
 unfold room
 split
 ·simp [pack_length]; omega
 ·rw [pack_length]; omega
theorem pack_getElem (l : List Bool) (j : Nat) (h : j < (pack l).length) : (pack l)[j] = UInt8.ofNat (byteAt l j) := by simp [pack]
theorem byteAt_out (l : List Bool) (j : Nat) (h : l.length ≤ 8 * j) : byteAt l j = 0 := by
 rw [byteAt_sum, bt_out l _ (by omega), bt_out l _ (by omega), bt_out l _ (by omega), bt_out l _ (by omega), bt_out l _ (by omega), bt_out l _ (by omega), bt_out l _ (by omega), bt_out l _ (by omega)]
theorem room_getElem (l : List Bool) (j : Nat) (h : j < (room l).length) : (room l)[j] = UInt8.ofNat (byteAt l j) := by
 have hl := room_length l
 unfold room at *
 split
 ·rename_i h8
  simp only [if_pos h8] at h hl
  rcases Nat.lt_or_ge j (pack l).length with h1 | h1
  ·rw [List.getElem_append_left h1, pack_getElem]
  ·rw [List.getElem_append_right h1]
   have : byteAt l j = 0 := byteAt_out l j (by rw [pack_length] at h1; omega)
   rw [this]
   simp
 ·rename_i h8
  simp only [if_neg h8] at h
  rw [pack_getElem]
theorem pack_snoc (l : List Bool) (b : Bool) : pack (l ++ [b]) = (room l).set (l.length / 8) (UInt8.ofNat (byteAt l (l.length / 8) + b.toNat * 2 ^ (7 - l.length % 8))) := by
 apply List.ext_getElem
 ·rw [List.length_set, pack_length, room_length, List.length_append, List.length_singleton]; omega
 ·intro j h1 h2
  rw [pack_getElem, List.getElem_set]
  split
  ·rename_i h3; rw [← h3, byteAt_snoc]
  ·rename_i h3
   rw [room_getElem, byteAt_other l b j (by omega)]
end Wv.Bit
/-
  Decimal numbers in plain Lean: digits, canonical numbers, their values at a scale. No program stands here.
-/
namespace Wv.Dc
def isD (c : UInt8) : Bool := decide (48 ≤ c.toNat) && decide (c.toNat ≤ 57)
def dv (c : UInt8) : Nat := c.toNat - 48
def vd (l : List UInt8) : Nat := l.foldl (fun a c => 10 * a + dv c) 0
def AllD (l : List UInt8) : Prop := ∀ c ∈ l, isD c = true
structure Num where
 neg : Bool
 dg : List UInt8
 ex : Int
def trimL (l : List UInt8) : List UInt8 := l.dropWhile (· == 48)
def trimR (l : List UInt8) : List UInt8 := (trimL l.reverse).reverse
def zeroN : Num := ⟨false, [], 0⟩
def trimN (n : Num) : Num :=
 if trimR (trimL n.dg) = [] then zeroN else ⟨n.neg, trimR (trimL n.dg), n.ex + ((trimL n.dg).length - (trimR (trimL n.dg)).length : Nat)⟩
def firstN (n : Num) : Int := n.ex + n.dg.length - 1
structure Canon (n : Num) : Prop where
 all : AllD n.dg
 front : n.dg.head? ≠ some 48
 back : n.dg.getLast? ≠ some 48
 zero : n.dg = [] → n.neg = false ∧ n.ex = 0
def sg (b : Bool) : Int := if b then -1 else 1
def V (K : Nat) (n : Num) : Int := sg n.neg * ((vd n.dg * 10 ^ (n.ex + K).toNat : Nat) : Int)

theorem vd_acc (l : List UInt8) : ∀ a, l.foldl (fun a c => 10 * a + dv c) a = a * 10 ^ l.length + vd l := by
 induction l with
 | nil => intro a; simp [vd]
 | cons c t ih =>
  intro a
  have h1 : vd (c :: t) = dv c * 10 ^ t.length + vd t := by
   show (c :: t).foldl _ 0 = _
   rw [List.foldl_cons, ih, Nat.mul_zero, Nat.zero_add]
  rw [List.foldl_cons, ih, h1, List.length_cons, Nat.pow_succ, Nat.add_mul, Nat.mul_comm 10 a, Nat.mul_assoc, Nat.mul_comm 10 (10 ^ t.length), Nat.add_assoc]
theorem vd_append (l r : List UInt8) : vd (l ++ r) = vd l * 10 ^ r.length + vd r := by
 show (l ++ r).foldl _ 0 = _
 rw [List.foldl_append]
 exact vd_acc r (vd l)
end Wv.Dc
/-
  Decimal numbers in plain Lean: zeros at both ends are taken away, the text of a number. No program stands here.
-/
namespace Wv.Dc
theorem trimL_sub (l : List UInt8) : ∀ c ∈ trimL l, c ∈ l := fun c h => (List.dropWhile_suffix _).subset h
theorem trimL_head (l : List UInt8) : (trimL l).head? ≠ some 48 := by
 induction l with
 | nil => simp [trimL]
 | cons c t ih =>
  unfold trimL at ih ⊢
  rw [List.dropWhile_cons]
  by_cases h : c = 48
  ·subst h
   rw [if_pos (by decide)]
   exact ih
  ·rw [if_neg (by simpa using h)]
   simpa using h
theorem trimL_len (l : List UInt8) : (trimL l).length ≤ l.length := (List.dropWhile_suffix _).length_le
theorem trimR_pre (l : List UInt8) : ∃ k, l = trimR l ++ List.replicate k 48 := by
 unfold trimR trimL
 refine ⟨(l.reverse.takeWhile (· == 48)).length, ?_⟩
 have h1 := List.takeWhile_append_dropWhile (p := (· == 48)) (l := l.reverse)
 have h2 : l = (l.reverse.dropWhile (· == 48)).reverse ++ (l.reverse.takeWhile (· == 48)).reverse := by
  rw [← List.reverse_append, h1, List.reverse_reverse]
 have h3 : l.reverse.takeWhile (· == 48) = List.replicate (l.reverse.takeWhile (· == 48)).length 48 := by
  rw [List.eq_replicate_iff]
  refine ⟨rfl, fun b hb => ?_⟩
  have := List.all_takeWhile (p := (· == 48)) (l := l.reverse)
  rw [List.all_eq_true] at this
  simpa using this b hb
 have h4 : (l.reverse.takeWhile (· == 48)).reverse = List.replicate (l.reverse.takeWhile (· == 48)).length 48 := by
  rw [h3, List.reverse_replicate, List.length_replicate]
 rw [h4] at h2
 exact h2
theorem trimR_len (l : List UInt8) : (trimR l).length ≤ l.length := by
 unfold trimR
 rw [List.length_reverse]
 have := trimL_len l.reverse
 rwa [List.length_reverse] at this
theorem trimR_back (l : List UInt8) : (trimR l).getLast? ≠ some 48 := by
 unfold trimR
 rw [List.getLast?_reverse]
 exact trimL_head _
theorem trimR_sub (l : List UInt8) : ∀ c ∈ trimR l, c ∈ l := fun c h => by
 unfold trimR at h
 have := trimL_sub _ c (List.mem_reverse.1 h)
 exact List.mem_reverse.1 this
theorem trimR_head {l : List UInt8} (h : l.head? ≠ some 48) : (trimR l).head? ≠ some 48 := by
 obtain ⟨k, hk⟩ := trimR_pre l
 intro h2
 apply h
 rw [hk]
 match hm : trimR l with
 | [] => rw [hm] at h2; simp at h2
 | c :: t => rw [hm] at h2; simpa using h2
theorem trimN_canon {n : Num} (h : AllD n.dg) : Canon (trimN n) := by
 unfold trimN
 split
 ·exact ⟨by intro c hc; simp [zeroN] at hc, by simp [zeroN], by simp [zeroN], fun _ => ⟨rfl, rfl⟩⟩
 ·rename_i h0
  exact ⟨fun c hc => h c (trimL_sub _ c (trimR_sub _ c hc)), trimR_head (trimL_head _), trimR_back _, fun e => absurd e h0⟩
theorem trimN_of_canon {n : Num} (h : Canon n) : trimN n = n := by
 obtain ⟨b, d, e⟩ := n
 have hf := h.front
 have hb := h.back
 simp only at hf hb
 have h1 : trimL d = d := by
  unfold trimL
  match d with
  | [] => rfl
  | c :: t =>
   rw [List.dropWhile_cons, if_neg (by simpa using hf)]
 have h2 : trimR d = d := by
  unfold trimR trimL
  have : d.reverse.dropWhile (· == 48) = d.reverse := by
   match hd : d.reverse with
   | [] => rfl
   | c :: t =>
    have h3 : d.getLast? = some c := by rw [← List.head?_reverse, hd]; rfl
    rw [List.dropWhile_cons, if_neg (by
     intro h4
     apply hb
     rw [h3]
     simpa using h4)]
  rw [this, List.reverse_reverse]
 unfold trimN
 simp only [h1, h2]
 by_cases h0 : d = []
 ·obtain ⟨z1, z2⟩ := h.zero h0
  simp only at z1 z2
  rw [if_pos h0, z1, z2, h0]
  rfl
 ·rw [if_neg h0, Nat.sub_self]
  simp
def decN (n : Nat) : List UInt8 := if h : n < 10 then [UInt8.ofNat (48 + n)] else decN (n / 10) ++ [UInt8.ofNat (48 + n % 10)]
termination_by n
decreasing_by omega
def decZ (n : Int) : List UInt8 := if n < 0 then 45 :: decN (-n).toNat else decN n.toNat
theorem isD_of {d : Nat} (h : d < 10) : isD (UInt8.ofNat (48 + d)) = true ∧ dv (UInt8.ofNat (48 + d)) = d := by
 have : (UInt8.ofNat (48 + d)).toNat = 48 + d := by simp; omega
 unfold isD dv
 rw [this]
 simp
 omega
theorem vd_one (c : UInt8) : vd [c] = dv c := by simp [vd]
theorem decN_all (n : Nat) : AllD (decN n) := by
 induction n using Nat.strongRecOn with
 | ind n ih =>
  rw [decN]
  split
  ·rename_i h
   intro c hc
   rw [List.mem_singleton] at hc
   rw [hc]
   exact (isD_of h).1
  ·rename_i h
   intro c hc
   rcases List.mem_append.1 hc with h1 | h1
   ·exact ih (n / 10) (by omega) c h1
   ·rw [List.mem_singleton] at h1
    rw [h1]
    exact (isD_of (by omega)).1
theorem vd_decN (n : Nat) : vd (decN n) = n := by
 induction n using Nat.strongRecOn with
 | ind n ih =>
  rw [decN]
  split
  ·rename_i h
   rw [vd_one]
   exact (isD_of h).2
  ·rename_i h
   rw [vd_append, ih (n / 10) (by omega)]
   have := (isD_of (d := n % 10) (by omega)).2
   have e : vd [UInt8.ofNat (48 + n % 10)] = n % 10 := by rw [vd_one, this]
   rw [e]
   simp
   omega
theorem decN_ne (n : Nat) : decN n ≠ [] := by
 rw [decN]
 split <;> simp
theorem decN_len {n k : Nat} (hk : 0 < k) (h : n < 10 ^ k) : (decN n).length ≤ k := by
 induction k generalizing n with
 | zero => omega
 | succ k ih =>
  rw [decN]
  split
  ·simp
  ·rename_i h9
   rw [List.length_append, List.length_singleton]
   by_cases h0 : k = 0
   ·subst h0; omega
   ·have := ih (n := n / 10) (by omega) (by rw [Nat.pow_succ] at h; omega)
    omega
def ctext (n : Num) : List UInt8 × Nat :=
 if n.dg = [] then ([48], 0)
 else if 17 < n.dg.length ∨ firstN n < -400 ∨ 400 < firstN n then ([], 9)
 else ((if n.neg then [45] else []) ++ n.dg.take 1 ++ (if 1 < n.dg.length then 46 :: n.dg.drop 1 else []) ++ 101 :: decZ (firstN n), 0)
end Wv.Dc
/-
  Decimal numbers in plain Lean: the number of a text; the text of a number is read as it. No program stands here.
-/
namespace Wv.Dc
def sgn : List UInt8 → Bool × List UInt8
 | [] => (false, [])
 | c :: t => if c = 45 then (true, t) else if c = 43 then (false, t) else (false, c :: t)
def dfr (s : List UInt8) : List UInt8 := s.takeWhile isD
def aft (s : List UInt8) : List UInt8 := s.dropWhile isD
def frac : List UInt8 → Option (List UInt8 × List UInt8)
 | [] => some ([], [])
 | c :: t => if c = 46 then (if dfr t = [] then none else some (dfr t, aft t)) else some ([], c :: t)
def expo (f : List UInt8 → Nat) : List UInt8 → Option (Int × List UInt8)
 | [] => some (0, [])
 | c :: t => if c = 101 ∨ c = 69 then (if dfr (sgn t).2 = [] then none else some (sg (sgn t).1 * (f (dfr (sgn t).2) : Int), aft (sgn t).2)) else some (0, c :: t)
def scn (f : List UInt8 → Nat) (s : List UInt8) : Option Num :=
 if 64 < s.length then none else if dfr (sgn s).2 = [] then none else
 match frac (aft (sgn s).2) with
 | none => none
 | some x => match expo f x.2 with
  | none => none
  | some y => if y.2 = [] then some ⟨(sgn s).1, dfr (sgn s).2 ++ x.1, y.1 - x.1.length⟩ else none
def cl1 (p : List UInt8) : Nat := p.foldl (fun e c => min 1048576 (10 * e + dv c)) 0
theorem cl_min (cap : Nat) (p : List UInt8) : ∀ a, p.foldl (fun e c => min cap (10 * e + dv c)) (min cap a) = min cap (p.foldl (fun e c => 10 * e + dv c) a) := by
 induction p with
 | nil => intro a; rfl
 | cons c t ih =>
  intro a
  rw [List.foldl_cons, List.foldl_cons, ← ih]
  congr 1
  omega
theorem cl1_eq (p : List UInt8) : cl1 p = min 1048576 (vd p) := by
 have := cl_min 1048576 p 0
 simpa [cl1, vd] using this
theorem dfr_append {d r : List UInt8} (hd : AllD d) (hr : ∀ c t, r = c :: t → isD c = false) : dfr (d ++ r) = d ∧ aft (d ++ r) = r := by
 unfold dfr aft
 induction d with
 | nil =>
  match r with
  | [] => exact ⟨rfl, rfl⟩
  | c :: t =>
   have := hr c t rfl
   simp [List.takeWhile_cons, List.dropWhile_cons, this]
 | cons c d ih =>
  have h1 := hd c List.mem_cons_self
  obtain ⟨a, b⟩ := ih (fun x hx => hd x (List.mem_cons_of_mem _ hx))
  rw [List.cons_append, List.takeWhile_cons, List.dropWhile_cons, if_pos h1, if_pos h1, a, b]
  exact ⟨rfl, rfl⟩
theorem dfr_all (s : List UInt8) : AllD (dfr s) := fun c h => by
 have := List.all_takeWhile (p := isD) (l := s)
 rw [List.all_eq_true] at this
 exact this c h
theorem frac_cons (c : UInt8) (t : List UInt8) : frac (c :: t) = if c = 46 then (if dfr t = [] then none else some (dfr t, aft t)) else some ([], c :: t) := rfl
theorem sgn_cons (c : UInt8) (t : List UInt8) : sgn (c :: t) = if c = 45 then (true, t) else if c = 43 then (false, t) else (false, c :: t) := rfl
theorem expo_cons (f : List UInt8 → Nat) (c : UInt8) (t : List UInt8) : expo f (c :: t) = if c = 101 ∨ c = 69 then (if dfr (sgn t).2 = [] then none else some (sg (sgn t).1 * (f (dfr (sgn t).2) : Int), aft (sgn t).2)) else some (0, c :: t) := rfl
theorem sgn_digit {c : UInt8} {t : List UInt8} (h : isD c = true) : sgn (c :: t) = (false, c :: t) := by
 rw [sgn_cons]
 unfold isD at h
 simp at h
 have h1 : c ≠ 45 := fun e => by subst e; simp at h
 have h2 : c ≠ 43 := fun e => by subst e; simp at h
 rw [if_neg h1, if_neg h2]
theorem sgn_decZ (E : Int) : sgn (decZ E) = (decide (E < 0), decN E.natAbs) := by
 unfold decZ
 by_cases h : E < 0
 ·rw [if_pos h]
  have : (-E).toNat = E.natAbs := by omega
  rw [this]
  simp [sgn, h]
 ·rw [if_neg h]
  have : E.toNat = E.natAbs := by omega
  rw [this]
  match hd : decN E.natAbs with
  | [] => exact absurd hd (decN_ne _)
  | c :: t =>
   have := decN_all E.natAbs c (by rw [hd]; exact List.mem_cons_self)
   rw [sgn_digit this]
   simp [h]
theorem scn_text {f : List UInt8 → Nat} {m : Num} (hm : AllD m.dg) (h0 : m.dg ≠ []) (h17 : m.dg.length ≤ 17) (hE1 : -400 ≤ firstN m) (hE2 : firstN m ≤ 400) (hf : ∀ p, AllD p → vd p ≤ 400 → f p = vd p) :
  scn f ((if m.neg then [45] else []) ++ m.dg.take 1 ++ (if 1 < m.dg.length then 46 :: m.dg.drop 1 else []) ++ 101 :: decZ (firstN m)) = some m := by
 obtain ⟨b, d, e⟩ := m
 simp only at hm h0 h17
 obtain ⟨E, hE⟩ : ∃ E, firstN ⟨b, d, e⟩ = E := ⟨_, rfl⟩
 rw [hE] at hE1 hE2
 rw [hE]
 have hE3 : E = e + d.length - 1 := by rw [← hE]; rfl
 match d, h0 with
 | c :: t, _ =>
  simp only [List.take_succ_cons, List.take_zero, List.drop_succ_cons, List.drop_zero]
  obtain ⟨R, hR⟩ : ∃ R, ((if 1 < (c :: t).length then 46 :: t else []) ++ 101 :: decZ E : List UInt8) = R := ⟨_, rfl⟩
  have hc := hm c List.mem_cons_self
  have ht : AllD t := fun x hx => hm x (List.mem_cons_of_mem _ hx)
  have es : (if b then [45] else []) ++ [c] ++ (if 1 < (c :: t).length then 46 :: t else []) ++ 101 :: decZ E = (if b then [45] else []) ++ (c :: R) := by
   rw [← hR]
   simp only [List.append_assoc, List.singleton_append, List.cons_append, List.nil_append]
  simp only [es]
  have hs : sgn ((if b then [45] else []) ++ (c :: R)) = (b, c :: R) := by
   cases b
   ·simpa using sgn_digit (t := R) hc
   ·simp [sgn]
  have hR0 : ∀ x y, R = x :: y → isD x = false := by
   intro x y h
   rw [← hR] at h
   split at h
   ·injection h with h1 _; rw [← h1]; decide
   ·injection h with h1 _; rw [← h1]; decide
  obtain ⟨q1, q2⟩ := dfr_append (d := [c]) (r := R) (fun x hx => by rw [List.mem_singleton] at hx; rw [hx]; exact hc) hR0
  have hlen : ((if b then [45] else []) ++ (c :: R)).length ≤ 64 := by
   have hz : (decZ E).length ≤ 4 := by
    unfold decZ
    split
    ·have := decN_len (n := (-E).toNat) (k := 3) (by omega) (by omega)
     rw [List.length_cons]; omega
    ·have := decN_len (n := E.toNat) (k := 3) (by omega) (by omega)
     omega
   have h2 : (if b then [(45 : UInt8)] else []).length ≤ 1 := by cases b <;> simp
   have h3 : (if 1 < (c :: t).length then (46 :: t : List UInt8) else []).length ≤ t.length + 1 := by split <;> simp
   rw [List.length_append, List.length_cons, ← hR, List.length_append]
   rw [List.length_cons] at h17
   have h4 : (101 :: decZ E).length = (decZ E).length + 1 := rfl
   omega
  have hx : expo f (101 :: decZ E) = some (E, []) := by
   rw [expo_cons, if_pos (.inl rfl), sgn_decZ]
   obtain ⟨a1, a2⟩ := dfr_append (d := decN E.natAbs) (r := []) (decN_all _) (fun _ _ h => by cases h)
   rw [List.append_nil] at a1 a2
   simp only [a1, a2]
   rw [if_neg (decN_ne _), hf _ (decN_all _) (by rw [vd_decN]; omega), vd_decN]
   congr 2
   unfold sg
   split
   ·rename_i h; simp at h; omega
   ·rename_i h; simp at h; omega
  have hfr : frac R = some (t, 101 :: decZ E) := by
   rw [← hR]
   by_cases h1 : 1 < (c :: t).length
   ·rw [if_pos h1]
    obtain ⟨a1, a2⟩ := dfr_append (d := t) (r := 101 :: decZ E) ht (fun x y h => by injection h with h _; rw [← h]; decide)
    rw [List.cons_append, frac_cons, if_pos rfl, a1, a2, if_neg (by intro h; rw [h] at h1; simp at h1)]
   ·rw [if_neg h1]
    have : t = [] := List.eq_nil_of_length_eq_zero (by rw [List.length_cons] at h1; omega)
    subst this
    rw [List.nil_append, frac_cons, if_neg (by decide)]
  unfold scn
  rw [if_neg (by omega), hs]
  simp only
  have q1' : dfr (c :: R) = [c] := q1
  have q2' : aft (c :: R) = R := q2
  rw [q1', q2', if_neg (by simp), hfr]
  simp only
  rw [hx]
  simp only [if_true]
  congr 1
  rw [List.length_cons] at hE3
  simp
  omega
structure Fits (n : Num) : Prop where
 canon : Canon n
 len : n.dg.length ≤ 17
 lo : n.dg ≠ [] → -400 ≤ firstN n
 hi : n.dg ≠ [] → firstN n ≤ 400
theorem ctext_fits {n : Num} (h : Canon n) (h0 : (ctext n).2 = 0) : Fits n := by
 unfold ctext at h0
 split at h0
 ·rename_i hz
  exact ⟨h, by rw [hz]; simp, fun e => absurd hz e, fun e => absurd hz e⟩
 ·split at h0
  ·cases h0
  ·rename_i h1
   exact ⟨h, by omega, fun _ => by omega, fun _ => by omega⟩
theorem fits_ok {n : Num} (h : Fits n) : (ctext n).2 = 0 := by
 unfold ctext
 split
 ·rfl
 ·rename_i h0
  have a := h.lo h0
  have b := h.hi h0
  have c := h.len
  rw [if_neg (by omega)]
theorem scn_ctext {f : List UInt8 → Nat} (hf : ∀ p, AllD p → vd p ≤ 400 → f p = vd p) {n : Num} (h : Fits n) : ∃ m, scn f (ctext n).1 = some m ∧ trimN m = n := by
 by_cases h0 : n.dg = []
 ·have hz : n = zeroN := by
   obtain ⟨z1, z2⟩ := h.canon.zero h0
   obtain ⟨b, d, e⟩ := n
   simp only at z1 z2 h0
   rw [z1, z2, h0]
   rfl
  subst hz
  exact ⟨⟨false, [48], 0⟩, rfl, rfl⟩
 ·have e : (ctext n).1 = (if n.neg then [45] else []) ++ n.dg.take 1 ++ (if 1 < n.dg.length then 46 :: n.dg.drop 1 else []) ++ 101 :: decZ (firstN n) := by
   have a := h.lo h0
   have b := h.hi h0
   have c := h.len
   unfold ctext
   rw [if_neg h0, if_neg (by omega)]
  rw [e]
  exact ⟨n, scn_text h.canon.all h0 h.len (h.lo h0) (h.hi h0) hf, trimN_of_canon h.canon⟩
theorem cl1_ok (p : List UInt8) (h : vd p ≤ 400) : cl1 p = vd p := by rw [cl1_eq]; omega
end Wv.Dc
/-
  Decimal numbers in plain Lean: both limits of an exponent give the same text; canonical texts and their numbers. No program stands here.
-/
namespace Wv.Dc
theorem dfr_len (s : List UInt8) : (dfr s).length ≤ s.length := (List.takeWhile_prefix _).length_le
theorem aft_len (s : List UInt8) : (aft s).length ≤ s.length := (List.dropWhile_suffix _).length_le
theorem sgn_len (s : List UInt8) : (sgn s).2.length ≤ s.length := by
 match s with
 | [] => simp [sgn]
 | c :: t =>
  rw [sgn_cons]
  split
  ·simp
  ·split <;> simp
theorem frac_len {s : List UInt8} {x : List UInt8 × List UInt8} (h : frac s = some x) : x.1.length ≤ s.length ∧ AllD x.1 := by
 match s, h with
 | [], h => injection h with h; subst h; exact ⟨by simp, by intro c hc; simp at hc⟩
 | c :: t, h =>
  rw [frac_cons] at h
  split at h
  ·split at h
   ·cases h
   ·injection h with h
    subst h
    have := dfr_len t
    exact ⟨by simp; omega, dfr_all t⟩
  ·injection h with h
   subst h
   exact ⟨by simp, by intro c hc; simp at hc⟩
theorem scn_parts {f : List UInt8 → Nat} {s : List UInt8} {n : Num} (h : scn f s = some n) : AllD n.dg ∧ n.dg.length ≤ 128 ∧ n.dg ≠ [] ∧ s.length ≤ 64 := by
 unfold scn at h
 split at h
 ·cases h
 ·rename_i h64
  split at h
  ·cases h
  ·rename_i hne
   match hf : frac (aft (sgn s).2), h with
   | none, h => cases h
   | some x, h =>
    simp only at h
    obtain ⟨l1, l2⟩ := frac_len hf
    match hx : expo f x.2, h with
    | none, h => cases h
    | some y, h =>
     simp only at h
     split at h
     ·injection h with h
      subst h
      have a1 := sgn_len s
      have a2 := dfr_len (sgn s).2
      have a3 := aft_len (sgn s).2
      refine ⟨fun c hc => ?_, ?_, ?_, by omega⟩
      ·rcases List.mem_append.1 hc with h1 | h1
       ·exact dfr_all _ c h1
       ·exact l2 c h1
      ·simp only [List.length_append]; omega
      ·simp only [ne_eq, List.append_eq_nil_iff]
       exact fun h => hne h.1
     ·cases h
def canN (s : List UInt8) : Option Num := match scn cl1 s with
 | none => none
 | some m => if ctext (trimN m) = (s, 0) then some (trimN m) else none
theorem canN_iff {s : List UInt8} {n : Num} : canN s = some n ↔ Fits n ∧ s = (ctext n).1 := by
 constructor
 ·intro h
  unfold canN at h
  match hs : scn cl1 s, h with
  | none, h => cases h
  | some m, h =>
   simp only at h
   split at h
   ·rename_i h1
    injection h with h
    subst h
    exact ⟨ctext_fits (trimN_canon (scn_parts hs).1) (by rw [h1]), by rw [h1]⟩
   ·cases h
 ·rintro ⟨h1, rfl⟩
  obtain ⟨m, h2, h3⟩ := scn_ctext (f := cl1) (fun p _ h => cl1_ok p h) h1
  unfold canN
  rw [h2]
  simp only
  have e : ctext n = ((ctext n).1, 0) := Prod.ext rfl (fits_ok h1)
  rw [h3, if_pos e]
end Wv.Dc
namespace Wv.Dc
end Wv.Dc
namespace Wv.Dc
def W (n : Num) : Int := V 1000 n
end Wv.Dc
namespace Wv.Dc
end Wv.Dc
namespace Wv.Dc
end Wv.Dc
namespace Wv.Dc
section
variable {x y z : Num}
end
end Wv.Dc
namespace Wv.Dc
end Wv.Dc
/-
  Decimal numbers: what the walks share.
-/
namespace Go.Proofs.YtjfcemlbbinanaaGreatDoor
open Go.RowKit Go.Proofs Wv Wv.Dc
set_option linter.unusedVariables false

theorem ret_intE {k : IntKind} {a b : Int} (h : a = b) : Ending.returned (.int k a) = .returned (.int k b) := by rw [h]
theorem ret_boolE {a b : Bool} (h : a = b) : Ending.returned (.bool a) = .returned (.bool b) := by rw [h]
theorem ret_strE {a b : ByteArray} (h : a = b) : Ending.returned (.string a) = .returned (.string b) := by rw [h]
theorem ret_ofE {a b : Value} (h : a = b) : Ending.returned a = .returned b := by rw [h]
theorem u8infE : (Tryz.prog.info? 5).map (fun i => (i.zero, i.size, i.bytes)) = some (some (.int .u8 0), 1, 1) := by kernel_rfl
theorem empA1 {s : ByteArray} (h : s.size = 0) : s.toList.isEmpty = true := by
 rw [ByteArray.toList_eq]
 have : s.data.toList.length = 0 := h
 rw [List.eq_nil_of_length_eq_zero this]
 rfl
theorem empA0 {s : ByteArray} (h : 0 < s.size) : s.toList.isEmpty = false := by
 rw [ByteArray.toList_eq]
 have : s.data.toList.length = s.size := rfl
 match hl : s.data.toList with
 | [] => rw [hl] at this; simp at this; omega
 | _ :: _ => rfl
theorem ext_dropE (s : ByteArray) (z : Nat) : s.extract z s.size = bs ((toL s).drop z) := by
 apply ByteArray.ext
 apply Array.toList_inj.1
 simp only [bs, toL, ByteArray.data_extract, Array.toList_extract, List.extract_eq_take_drop, List.toList_toArray]
 rw [List.take_of_length_le (by rw [List.length_drop]; exact Nat.le_refl _)]
theorem ext_takeE (s : ByteArray) (z : Nat) : s.extract 0 z = bs ((toL s).take z) := by
 apply ByteArray.ext
 apply Array.toList_inj.1
 simp [bs, toL]

theorem conv_at {P : Program} (src dst e : TypeId) (hs : P.underlying src = some (.slice e)) (he : P.underlying e = some (.int .u8)) (hd : P.underlying dst = some .string) {w : World} {A : Option Addr} {l : List UInt8} (h : At w A (l.map bv)) (cap : Nat) :
  (convert src dst (.slice A l.length cap)).run P w = .ok (.string (bs l)) w := by
 cases A with
 | none =>
  have hl : l = [] := by
   rcases l with _ | ⟨c, t⟩
   ·rfl
   ·obtain ⟨b, p, h, _⟩ := h 0 (by simp)
    cases h
  subst hl
  exact run_convert_bytes_nil w src e hs he 0 cap dst hd
 | some a =>
  refine run_convert_bytes_back w src dst e a cap l hs he hd (fun j hj => ?_)
  obtain ⟨b, o, hA, hb, hc⟩ := h j (by rw [List.length_map]; exact hj)
  injection hA with hA
  subst hA
  rw [Go.WideShapes.add_plain, hc]
  simp [bv]
theorem own_below {w w' : World} {r : Nat} (hf : Fr (only r) w w') {B : Nat} (hB : B ≤ w.heap.size) (hr : B ≤ r) : Below B w w' := hf.toBelow' hB (fun j hj e => by have : j = r := e; omega)
theorem only_setE {w w' : World} {b : Nat} (h : Fr (only b) w w') (o : Nat) (x : Value) : Fr (only b) w (w'.setCell ⟨b, o, none⟩ x) := h.setCell (p := ⟨b, o, none⟩) (.inl rfl) x
theorem two_below (w : World) (o p : Obj) : Below w.heap.size w ((w.alloc o).alloc p) := ((Below.refl w.heap.size w).alloc (Nat.le_refl _) _).alloc (by simp) _
theorem at_shift {w : World} {b o : Nat} {vs : List Value} (h : At w (some ⟨b, o, none⟩) vs) (k : Nat) : At w (some ⟨b, o + k, none⟩) (vs.drop k) := fun i hi => by
 rw [List.length_drop] at hi
 obtain ⟨b', o', h1, h2, h3⟩ := h (k + i) (by omega)
 injection h1 with h1
 injection h1 with h1 h4
 subst h1; subst h4
 exact ⟨b, o + k, rfl, h2, by rw [List.getElem_drop, Nat.add_assoc]; exact h3⟩
theorem at_front {w : World} {A : Option Addr} {vs : List Value} (h : At w A vs) (k : Nat) : At w A (vs.take k) := fun i hi => by
 rw [List.length_take] at hi
 obtain ⟨b, o, h1, h2, h3⟩ := h i (by omega)
 exact ⟨b, o, h1, h2, by rw [List.getElem_take]; exact h3⟩
theorem at_off {w : World} {A : Option Addr} {vs : List Value} {b : Nat} {T : TypeId} {cs : Array Value} (h : At w A vs) (hk : Bk w b T cs) (hn : ∀ v ∈ vs, v ∉ cs.toList) (k : Nat) (x : Value) : At (w.setCell ⟨b, k, none⟩ x) A vs := by
 intro i hi
 obtain ⟨b', o, hA, hb, hc⟩ := h i hi
 have hne : b' ≠ b := by
  rintro rfl
  have h2 := hk.cell (o + i)
  rw [hc] at h2
  exact hn _ (List.getElem_mem hi) (by
   have h3 : cs.toList[o + i]? = some vs[i] := by simpa using h2.symm
   exact List.mem_of_getElem? h3)
 refine ⟨b', o, hA, by simpa using hb, ?_⟩
 exact ((Fr.refl (fun j => j = b) w).setCell (p := ⟨b, k, none⟩) (.inl rfl) x).cell (p := ⟨b', _, none⟩) hb hne |>.trans hc
theorem at_only {w w' : World} {A : Option Addr} {vs : List Value} {b : Nat} {T : TypeId} {cs : Array Value} (h : At w A vs) (hk : Bk w b T cs) (hn : ∀ v ∈ vs, v ∉ cs.toList) (hf : Fr (only b) w w') : At w' A vs := by
 intro i hi
 obtain ⟨b', o, hA, hb, hc⟩ := h i hi
 have hne : b' ≠ b := by
  rintro rfl
  have h2 := hk.cell (o + i)
  rw [hc] at h2
  exact hn _ (List.getElem_mem hi) (by
   have h3 : cs.toList[o + i]? = some vs[i] := by simpa using h2.symm
   exact List.mem_of_getElem? h3)
 exact ⟨b', o, hA, Nat.lt_of_lt_of_le hb hf.size, (hf.cell (p := ⟨b', _, none⟩) hb hne).trans hc⟩
def NV (w : World) (v : Value) (n : Num) : Prop := ∃ A cap, v = .agg #[.bool n.neg, .slice A n.dg.length cap, .int .i64 n.ex] ∧ At w A (n.dg.map bv) ∧ n.dg.length ≤ cap ∧ cap ≤ maxLen
theorem NV.below {w w' : World} {v : Value} {n : Num} (h : NV w v n) (hb : Below w.heap.size w w') : NV w' v n := by
 obtain ⟨A, cap, h1, h2, h3, h4⟩ := h
 exact ⟨A, cap, h1, h2.below hb, h3, h4⟩
end Go.Proofs.YtjfcemlbbinanaaGreatDoor
/-
  The walks over decimal numbers: the place of the first digit, the sign, the negative number.
-/
namespace Go.Proofs.YtjfcemlbbinanaaGreatDoor
open Go.RowKit Go.Proofs Wv Wv.Dc
set_option linter.unusedVariables false

structure Sz (n : Num) : Prop where
 lo : -2000000 ≤ n.ex
 hi : n.ex ≤ 2000000
 len : n.dg.length ≤ 100000
end Go.Proofs.YtjfcemlbbinanaaGreatDoor
namespace Go.Proofs.YtjfcemlbbinanaaGreatDoor
open Go.RowKit Go.Proofs Wv Wv.Dc
set_option linter.unusedVariables false

end Go.Proofs.YtjfcemlbbinanaaGreatDoor
/-
  The walks over decimal numbers: comparing, second part.
-/
namespace Go.Proofs.YtjfcemlbbinanaaGreatDoor
open Go.RowKit Go.Proofs Wv Wv.Dc
set_option linter.unusedVariables false

theorem pfirst_raw (b : Bool) (A : Option Addr) (L cap : Nat) (e : Int) (s1 : -2000000 ≤ e) (s2 : e ≤ 2000000) (s3 : L ≤ 100000) (w : World) :
  Calls Tryz.prog 145 #[.agg #[.bool b, .slice A L cap, .int .i64 e]] w fun x w' => x = .returned (.int .i64 (e + L - 1)) ∧ Below w.heap.size w w' := by
 go_enter Tryz.func145, Tryz.ntmps145
 go_wp2
 go_returns
 exact ⟨rfl, (Below.refl w.heap.size w).alloc (Nat.le_refl _) _⟩
def TwoN (w0 W : World) (x y : Nat) (ca cb : Array Value) : Prop := Bk W x 148 ca ∧ Bk W y 148 cb ∧ Below w0.heap.size w0 W
theorem TwoN.below {w0 W W' : World} {x y : Nat} {ca cb : Array Value} (h : TwoN w0 W x y ca cb) (hb : Below W.heap.size W W') : TwoN w0 W' x y ca cb :=
 ⟨Bk.below h.1 hb (Bk.lt h.1), Bk.below h.2.1 hb (Bk.lt h.2.1), h.2.2.trans (hb.mono h.2.2.size)⟩
end Go.Proofs.YtjfcemlbbinanaaGreatDoor
namespace Go.Proofs.YtjfcemlbbinanaaGreatDoor
open Go.RowKit Go.Proofs Wv Wv.Dc
set_option linter.unusedVariables false

end Go.Proofs.YtjfcemlbbinanaaGreatDoor
/-
  The walks over decimal numbers: the text of a number.
-/
namespace Go.Proofs.YtjfcemlbbinanaaGreatDoor
open Go.RowKit Go.Proofs Wv Wv.Dc
set_option linter.unusedVariables false

def Tab (w : World) : Prop := ∀ W, Below w.heap.size w W → Lib.TabIs Tryz.prog W "internal/strconv.uint64pow10" .u64 Lib.pow10Tab
theorem Tab.below {w w' : World} (h : Tab w) (hb : Below w.heap.size w w') : Tab w' := fun w2 h2 => h w2 (hb.trans (h2.mono hb.size))
theorem decDigits_decN (n : Nat) : Lib.decDigits n = decN n := by
 induction n using Nat.strongRecOn with
 | ind n ih =>
  rw [Lib.decDigits, decN]
  split
  ·rfl
  ·rw [ih (n / 10) (by omega)]
theorem itoa_decZ (n : Int) : Lib.itoa n = decZ n := by
 unfold Lib.itoa decZ
 split
 ·rw [decDigits_decN, show n.natAbs = (-n).toNat by omega]
 ·rw [decDigits_decN]
theorem pitoa_any {w : World} (ht : Tab w) (n : Int) (h0 : -9223372036854775808 ≤ n) (h1 : n ≤ 9223372036854775807) :
  Calls Tryz.prog 146 #[.int .i64 n] w fun x w' => x = .returned (.string (bs (decZ n))) ∧ Below w.heap.size w w' := by
 refine (Tryz.strconv_Itoa n h0 h1 w (ht w (Below.refl _ _))).mono ?_
 rintro x w' ⟨rfl, k, os, rfl⟩
 refine ⟨ret_strE (by rw [itoa_decZ]; rfl), ?_⟩
 have h1 := bdN (Below.refl w.heap.size w) k
 refine ⟨h1.os, h1.tape, h1.output, ?_, fun j hj => ?_⟩
 ·show w.heap.size ≤ (w.heap ++ os).size
  rw [Array.size_append]
  omega
 ·show (w.heap ++ os)[j]? = w.heap[j]?
  rw [Array.getElem?_append_left hj]
end Go.Proofs.YtjfcemlbbinanaaGreatDoor
