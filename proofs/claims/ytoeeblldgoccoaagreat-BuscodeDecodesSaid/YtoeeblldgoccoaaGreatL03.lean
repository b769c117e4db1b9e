/-
  Joined texts: Base5, Base6, Base7, Base8.
-/
import Derived.Test.YtoeeblldgoccoaaGreatL02
set_option linter.unusedVariables false
set_option linter.unusedSimpArgs false
set_option maxRecDepth 100000
set_option maxHeartbeats 8000000
namespace Wv
open Go Go.RowKit
theorem run_app1 {P : Program} {w : World} (t ty e : TypeId) (z : Value) (bytes size : Nat) (ht : P.underlying t = some (.slice e)) (hinfo : (P.info? e).map (fun i => (i.zero, i.size, i.bytes)) = some (some z, size, bytes)) (hz1 : z.cells.size = size) (hs0 : 0 < size)
    {base : Nat} {v : Value} {n : Nat} {xs : List Value} (hv : w.ownsRow base e size v n xs) (ys : List Value) (hys : ys.length = size) (h1 : ∀ y ∈ ys, y.oneCell' = true)
    (h63 : n + 1 ≤ maxLen) (hbytes : (n + 1) * bytes ≤ 140737488355328) (hbase : base ≤ w.heap.size) :
    ∃ v' w', (Builtin.append_ #[t, t] ty #[v, .slice (some ⟨w.heap.size, 0, none⟩) 1 1]).run P (w.alloc (.cells ys.toArray e)).drew = .ok v' w' ∧ w'.ownsRow base e size v' (n + 1) (xs ++ ys) ∧
      (w.alloc (.cells ys.toArray e)).drew.grownBy w' v.ownBlock ∧ (v'.ownBlock = v.ownBlock ∨ v'.ownBlock = some (w.heap.size + 1)) := by
  obtain ⟨i, hi, hz, hs, hby⟩ := info_parts hinfo;have hv2 : (w.alloc (.cells ys.toArray e)).drew.ownsRow base e size v n xs := hv.alloc _
  obtain ⟨v', w', hr, h2, h3, _, h5⟩ := run_append_own_at (P := P) (w.alloc (.cells ys.toArray e)).drew base t ty e i z size bytes ht hi hz hs hby hz1 hs0 v n xs hv2 ⟨w.heap.size, 0, none⟩ 1 1 ys (by omega) (fun j u hu => by
      have hb := (Bk.new w e ys.toArray).cell j;rw [Go.WideShapes.add_plain, Nat.zero_add]
      show (w.alloc (.cells ys.toArray e)).cell? _ = _
      rw [hb]
      simpa using hu) h1 h63 hbytes (Nat.le_trans hbase (by simp))
  refine ⟨v', w', hr, h2, h3, ?_⟩
  rcases h5 with h5 | h5
  · exact .inl h5
  · refine .inr (h5.trans ?_)
    simp
structure TwoSt (wb : World) (B : Nat) (e : TypeId) (v1 : Value) (xs : List Value) (v2 : Value) (ys : List Value) (w : World) : Prop where
 own1 : w.ownsRow B e 1 v1 xs.length xs
 own2 : w.ownsRow B e 1 v2 ys.length ys
 apart : ∀ g, v1.ownBlock = some g → v2.ownBlock ≠ some g
 bel : Below B wb w
 base : B ≤ w.heap.size
theorem TwoSt.alloc {wb w : World} {B : Nat} {e : TypeId} {v1 v2 : Value} {xs ys : List Value} (h : TwoSt wb B e v1 xs v2 ys w) (o : Obj) : TwoSt wb B e v1 xs v2 ys (w.alloc o) :=
 ⟨h.own1.alloc o, h.own2.alloc o, h.apart, h.bel.alloc h.base o, Nat.le_trans h.base (by simp)⟩
theorem TwoSt.drew {wb w : World} {B : Nat} {e : TypeId} {v1 v2 : Value} {xs ys : List Value} (h : TwoSt wb B e v1 xs v2 ys w) : TwoSt wb B e v1 xs v2 ys w.drew := ⟨h.own1, h.own2, h.apart, h.bel.drew, h.base⟩
theorem TwoSt.swap {wb w : World} {B : Nat} {e : TypeId} {v1 v2 : Value} {xs ys : List Value} (h : TwoSt wb B e v1 xs v2 ys w) : TwoSt wb B e v2 ys v1 xs w := ⟨h.own2, h.own1, fun g h1 h2 => h.apart g h2 h1, h.bel, h.base⟩
theorem two_step {P : Program} (t e : TypeId) (z : Value) (bytes : Nat) (ht : P.underlying t = some (.slice e)) (hinfo : (P.info? e).map (fun i => (i.zero, i.size, i.bytes)) = some (some z, 1, bytes)) (hz1 : z.cells.size = 1) {wb w : World} {B : Nat} {v1 v2 : Value} {xs ys : List Value} (h : TwoSt wb B e v1 xs v2 ys w) (a : Nat) (x : Value) (ha : w.cell? ⟨a, 0, none⟩ = some x) (h1 : x.oneCell' = true) (h63 : xs.length + 1 ≤ maxLen) (hby : (xs.length + 1) * bytes ≤ 140737488355328) :
    ∃ v' w', (Builtin.append_ #[t, t] t #[v1, .slice (some ⟨a, 0, none⟩) 1 1]).run P w = .ok v' w' ∧ TwoSt wb B e v' (xs ++ [x]) v2 ys w' ∧ (∀ b, some b ≠ v1.ownBlock → b < w.heap.size → w'.cell? ⟨b, 0, none⟩ = w.cell? ⟨b, 0, none⟩) ∧ (∀ xb T cs, Bk w xb T cs → T ≠ e → Bk w' xb T cs) := by
  obtain ⟨i, hi, hz, hs, hb⟩ := info_parts hinfo
  obtain ⟨v', w', hr, h2, h3, _, h5⟩ := run_append_own_at (P := P) w B t t e i z 1 bytes ht hi hz hs hb hz1 (by omega) v1 xs.length xs h.own1 ⟨a, 0, none⟩ 1 1 [x] rfl (fun j u hu => by
      cases j with
      | zero =>
        simp at hu; subst hu
        exact ha
      | succ j => simp at hu) (by simpa using h1) h63 hby h.base
  have hfr : Fr (fun k => v1.ownBlock = some k) w w' := (Fr.refl _ w).grown h3 (fun k hk => .inl hk);refine ⟨v', w', hr, ⟨by rw [List.length_append]; exact h2, own_fr h.own2 hfr (fun g hg e => h.apart g e hg), fun g hg => ?_, h.bel.grown h3 h.base (fun k hk => (h.own1.lt k hk).1), Nat.le_trans h.base hfr.size⟩, fun b hb hlt => hfr.cell (p := ⟨b, 0, none⟩) hlt (fun e => hb e.symm), fun xb T cs hb hT => hb.grown h3 (fun e => own_apart h.own1 hb (fun e => hT e.symm) e.symm)⟩
  rcases h5 with h5 | h5
  · exact h.apart g (h5 ▸ hg)
  · intro h6
    have h7 : some g = some w.heap.size := hg.symm.trans h5
    injection h7 with h7
    have := (h.own2.lt g h6).2;omega
theorem two_both {P : Program} (t e : TypeId) (z : Value) (bytes : Nat) (ht : P.underlying t = some (.slice e)) (hinfo : (P.info? e).map (fun i => (i.zero, i.size, i.bytes)) = some (some z, 1, bytes)) (hz1 : z.cells.size = 1) {wb w : World} {B : Nat} {v1 v2 : Value} {xs ys : List Value} (h : TwoSt wb B e v1 xs v2 ys w) (x y : Value) (hx : x.oneCell' = true) (hy : y.oneCell' = true) (hxl : xs.length + 1 ≤ maxLen) (hxb : (xs.length + 1) * bytes ≤ 140737488355328)
  (hyl : ys.length + 1 ≤ maxLen) (hyb : (ys.length + 1) * bytes ≤ 140737488355328) (xb : Nat) (T : TypeId) (cs : Array Value) (hk : Bk w xb T cs) (hT : T ≠ e) :
  (∃ a1 w1 a2 w2, (Builtin.append_ #[t, t] t #[v1, .slice (some ⟨w.heap.size, 0, none⟩) 1 1]).run P (w.alloc (.cells #[x] e)).drew = .ok a1 w1 ∧ (Builtin.append_ #[t, t] t #[v2, .slice (some ⟨w1.heap.size, 0, none⟩) 1 1]).run P (w1.alloc (.cells #[y] e)) = .ok a2 w2 ∧ TwoSt wb B e a1 (xs ++ [x]) a2 (ys ++ [y]) w2 ∧ Bk w1 xb T cs ∧ Bk w2 xb T cs) ∧
  (∃ a1 w1 a2 w2, (Builtin.append_ #[t, t] t #[v1, .slice (some ⟨w.heap.size, 0, none⟩) 1 1]).run P ((w.alloc (.cells #[x] e)).alloc (.cells #[y] e)).drew = .ok a1 w1 ∧ (Builtin.append_ #[t, t] t #[v2, .slice (some ⟨w.heap.size + 1, 0, none⟩) 1 1]).run P w1 = .ok a2 w2 ∧ TwoSt wb B e a1 (xs ++ [x]) a2 (ys ++ [y]) w2 ∧ Bk w1 xb T cs ∧ Bk w2 xb T cs) ∧
  (∃ a1 w1 a2 w2, (Builtin.append_ #[t, t] t #[v1, .slice (some ⟨w.heap.size + 1, 0, none⟩) 1 1]).run P ((w.alloc (.cells #[y] e)).alloc (.cells #[x] e)).drew = .ok a1 w1 ∧ (Builtin.append_ #[t, t] t #[v2, .slice (some ⟨w.heap.size, 0, none⟩) 1 1]).run P w1 = .ok a2 w2 ∧ TwoSt wb B e a1 (xs ++ [x]) a2 (ys ++ [y]) w2 ∧ Bk w1 xb T cs ∧ Bk w2 xb T cs) := by
 have hlt1 : ∀ g, v1.ownBlock = some g → g < w.heap.size := fun g hg => (h.own1.lt g hg).2
 have cx : (w.alloc (.cells #[x] e)).cell? ⟨w.heap.size, 0, none⟩ = some x := (Bk.new w e #[x]).cell 0;have cy : (w.alloc (.cells #[y] e)).cell? ⟨w.heap.size, 0, none⟩ = some y := (Bk.new w e #[y]).cell 0
 have hs1 : (w.alloc (.cells #[x] e)).heap.size = w.heap.size + 1 := by simp
 have hs2 : (w.alloc (.cells #[y] e)).heap.size = w.heap.size + 1 := by simp
 refine ⟨?_, ?_, ?_⟩
 ·obtain ⟨a1, w1, r1, t1, _, b1⟩ := two_step t e z bytes ht hinfo hz1 (h.alloc (.cells #[x] e)).drew w.heap.size x cx hx hxl hxb
  obtain ⟨a2, w2, r2, t2, _, b2⟩ := two_step t e z bytes ht hinfo hz1 (t1.swap.alloc (.cells #[y] e)) w1.heap.size y ((Bk.new w1 e #[y]).cell 0) hy hyl hyb;exact ⟨a1, w1, a2, w2, r1, r2, t2.swap, b1 xb T cs (hk.alloc (.cells #[x] e)).drew hT, b2 xb T cs ((b1 xb T cs (hk.alloc (.cells #[x] e)).drew hT).alloc (.cells #[y] e)) hT⟩
 ·have c1 : ((w.alloc (.cells #[x] e)).alloc (.cells #[y] e)).drew.cell? ⟨w.heap.size, 0, none⟩ = some x := ((Bk.new w e #[x]).alloc (.cells #[y] e)).cell 0
  have c2 : ((w.alloc (.cells #[x] e)).alloc (.cells #[y] e)).drew.cell? ⟨w.heap.size + 1, 0, none⟩ = some y := by
   have := (Bk.new (w.alloc (.cells #[x] e)) e #[y]).cell 0;rw [hs1] at this;exact this
  obtain ⟨a1, w1, r1, t1, k1, b1⟩ := two_step t e z bytes ht hinfo hz1 ((h.alloc (.cells #[x] e)).alloc (.cells #[y] e)).drew w.heap.size x c1 hx hxl hxb;have c3 := (k1 (w.heap.size + 1) (fun e => by have := hlt1 _ e.symm; omega) (by show _ < ((w.alloc (.cells #[x] e)).alloc (.cells #[y] e)).heap.size; simp <;> omega)).trans c2;obtain ⟨a2, w2, r2, t2, _, b2⟩ := two_step t e z bytes ht hinfo hz1 t1.swap (w.heap.size + 1) y c3 hy hyl hyb;exact ⟨a1, w1, a2, w2, r1, r2, t2.swap, b1 xb T cs ((hk.alloc (.cells #[x] e)).alloc (.cells #[y] e)).drew hT, b2 xb T cs (b1 xb T cs ((hk.alloc (.cells #[x] e)).alloc (.cells #[y] e)).drew hT) hT⟩
 ·have c1 : ((w.alloc (.cells #[y] e)).alloc (.cells #[x] e)).drew.cell? ⟨w.heap.size, 0, none⟩ = some y := ((Bk.new w e #[y]).alloc (.cells #[x] e)).cell 0
  have c2 : ((w.alloc (.cells #[y] e)).alloc (.cells #[x] e)).drew.cell? ⟨w.heap.size + 1, 0, none⟩ = some x := by
   have := (Bk.new (w.alloc (.cells #[y] e)) e #[x]).cell 0;rw [hs2] at this;exact this
  obtain ⟨a1, w1, r1, t1, k1, b1⟩ := two_step t e z bytes ht hinfo hz1 ((h.alloc (.cells #[y] e)).alloc (.cells #[x] e)).drew (w.heap.size + 1) x c2 hx hxl hxb;have c3 := (k1 w.heap.size (fun e => by have := hlt1 _ e.symm; omega) (by show _ < ((w.alloc (.cells #[y] e)).alloc (.cells #[x] e)).heap.size; simp <;> omega)).trans c1;obtain ⟨a2, w2, r2, t2, _, b2⟩ := two_step t e z bytes ht hinfo hz1 t1.swap w.heap.size y c3 hy hyl hyb;exact ⟨a1, w1, a2, w2, r1, r2, t2.swap, b1 xb T cs ((hk.alloc (.cells #[y] e)).alloc (.cells #[x] e)).drew hT, b2 xb T cs (b1 xb T cs ((hk.alloc (.cells #[y] e)).alloc (.cells #[x] e)).drew hT) hT⟩
theorem run_appAt {P : Program} (t e : TypeId) (z : Value) (bytes : Nat) (ht : P.underlying t = some (.slice e)) (hinfo : (P.info? e).map (fun i => (i.zero, i.size, i.bytes)) = some (some z, 1, bytes)) (hz1 : z.cells.size = 1) {w : World} {base : Nat} {v : Value} {n : Nat} {xs ys : List Value} (hv : w.ownsRow base e 1 v n xs) {A : Option Addr} (hu : At w A ys) (cap m : Nat) (hm : m = ys.length) (hA : A = none → ys = []) (h1 : ∀ y ∈ ys, y.oneCell' = true)
  (h63 : n + m ≤ maxLen) (hbytes : (n + m) * bytes ≤ 140737488355328) (hbase : base ≤ w.heap.size) :
  ∃ v' w', (Builtin.append_ #[t, t] t #[v, .slice A m cap]).run P w = .ok v' w' ∧ w'.ownsRow base e 1 v' (n + m) (xs ++ ys) ∧ w.grownBy w' v.ownBlock ∧ (v'.ownBlock = v.ownBlock ∨ v'.ownBlock = some w.heap.size) := by
 obtain ⟨i, hi, hz, hs, hby⟩ := info_parts hinfo
 cases A with
 | none =>
  have hy := hA rfl;subst hy
  simp at hm
  subst hm;refine ⟨v, w, ?_, by simpa using hv, ⟨rfl, rfl, rfl, Nat.le_refl _, fun _ _ _ => rfl⟩, .inl rfl⟩
  rcases hv.2 with ⟨rfl, rfl⟩ | ⟨g, cap, cur, rfl, _, _, hnc, _⟩
  ·simp [Builtin.append_, run_underlying ht, Go.sizeOf, typeInfo, hi, Builtin.lenOf, Builtin.firstCells]
  ·simp [Builtin.append_, run_underlying ht, Go.sizeOf, typeInfo, hi, Builtin.lenOf, Builtin.firstCells, hnc, storeCells]
 | some a =>
  obtain ⟨v', w', hr, h2, h3, _, h5⟩ := run_append_own_at (P := P) w base t t e i z 1 bytes ht hi hz hs hby hz1 (by omega) v n xs hv a m cap ys (by omega) (fun j u hj => by
   obtain ⟨hlt, rfl⟩ := List.getElem?_eq_some_iff.1 hj;obtain ⟨b, o, hA, hb, hc⟩ := hu j hlt
   injection hA with hA
   subst hA;rw [Go.WideShapes.add_plain]
   exact hc) h1 h63 hbytes hbase
  exact ⟨v', w', hr, h2, h3, h5⟩
theorem own_made0 (e : TypeId) (w : World) : (w.alloc (.cells #[] e)).ownsRow w.heap.size e 1 (.slice (some ⟨w.heap.size, 0, none⟩) 0 0) 0 [] :=
 World.ownsRow_made w #[] 0 (Nat.le_refl _) (by unfold maxLen; omega) rfl
theorem run_copy {P : Program} (t e : TypeId) (z : Value) (bytes : Nat) (ht : P.underlying t = some (.slice e)) (hinfo : (P.info? e).map (fun i => (i.zero, i.size, i.bytes)) = some (some z, 1, bytes)) (hz1 : z.cells.size = 1) {w : World} {ys : List Value} {A : Option Addr} (hu : At w A ys) (cap m : Nat) (hm : m = ys.length) (hA : A = none → ys = []) (h1 : ∀ y ∈ ys, y.oneCell' = true) (h63 : m ≤ maxLen) (hbytes : m * bytes ≤ 140737488355328) :
  ∃ v' w', (Builtin.append_ #[t, t] t #[.slice (some ⟨w.heap.size, 0, none⟩) 0 0, .slice A m cap]).run P (w.alloc (.cells #[] e)) = .ok v' w' ∧ w'.ownsRow w.heap.size e 1 v' m ys ∧ Below w.heap.size w w' ∧ (∀ xb T cs, Bk w xb T cs → Bk w' xb T cs) := by
 obtain ⟨v', w', hr, ho, hg, _⟩ := run_appAt t e z bytes ht hinfo hz1 (own_made0 e w) (hu.alloc (.cells #[] e)) cap m hm hA h1 (by omega) (by rw [Nat.zero_add]; exact hbytes) (by simp);refine ⟨v', w', hr, by simpa using ho, ((Below.refl w.heap.size w).alloc (Nat.le_refl _) (.cells #[] e)).grown hg (by simp) (fun k hk => by simp [Value.ownBlock] at hk; omega), fun xb T cs hk => ?_⟩
 exact (hk.alloc (.cells #[] e)).grown hg (fun e => by
  have := hk.lt
  simp [Value.ownBlock] at e
  omega)
theorem copy_push {P : Program} (t e : TypeId) (z : Value) (bytes : Nat) (ht : P.underlying t = some (.slice e)) (hinfo : (P.info? e).map (fun i => (i.zero, i.size, i.bytes)) = some (some z, 1, bytes)) (hz1 : z.cells.size = 1) {w : World} {ys : List Value} {A : Option Addr} (hu : At w A ys) (cap m : Nat) (hm : m = ys.length) (hA : A = none → ys = []) (h1 : ∀ y ∈ ys, y.oneCell' = true) (x : Value) (hx : x.oneCell' = true) (h63 : m + 1 ≤ maxLen) (hbytes : (m + 1) * bytes ≤ 140737488355328) :
  (∃ v1 w1 v2 w2, (Builtin.append_ #[t, t] t #[.slice (some ⟨w.heap.size, 0, none⟩) 0 0, .slice A m cap]).run P (w.alloc (.cells #[] e)).drew = .ok v1 w1 ∧ (Builtin.append_ #[t, t] t #[v1, .slice (some ⟨w1.heap.size, 0, none⟩) 1 1]).run P (w1.alloc (.cells #[x] e)) = .ok v2 w2 ∧
   w2.ownsRow w.heap.size e 1 v2 (m + 1) (ys ++ [x]) ∧ Below w.heap.size w w2 ∧ (∀ xb T cs, Bk w xb T cs → Bk w1 xb T cs ∧ Bk w2 xb T cs) ∧ w.heap.size ≤ w1.heap.size) ∧
  (∃ v1 w1 v2 w2, (Builtin.append_ #[t, t] t #[.slice (some ⟨w.heap.size, 0, none⟩) 0 0, .slice A m cap]).run P ((w.alloc (.cells #[] e)).alloc (.cells #[x] e)).drew = .ok v1 w1 ∧ (Builtin.append_ #[t, t] t #[v1, .slice (some ⟨w.heap.size + 1, 0, none⟩) 1 1]).run P w1 = .ok v2 w2 ∧
   w2.ownsRow w.heap.size e 1 v2 (m + 1) (ys ++ [x]) ∧ Below w.heap.size w w2 ∧ (∀ xb T cs, Bk w xb T cs → Bk w1 xb T cs ∧ Bk w2 xb T cs) ∧ w.heap.size ≤ w1.heap.size) ∧
  (∃ v1 w1 v2 w2, (Builtin.append_ #[t, t] t #[.slice (some ⟨w.heap.size + 1, 0, none⟩) 0 0, .slice A m cap]).run P ((w.alloc (.cells #[x] e)).alloc (.cells #[] e)).drew = .ok v1 w1 ∧ (Builtin.append_ #[t, t] t #[v1, .slice (some ⟨w.heap.size, 0, none⟩) 1 1]).run P w1 = .ok v2 w2 ∧
   w2.ownsRow w.heap.size e 1 v2 (m + 1) (ys ++ [x]) ∧ Below w.heap.size w w2 ∧ (∀ xb T cs, Bk w xb T cs → Bk w1 xb T cs ∧ Bk w2 xb T cs) ∧ w.heap.size ≤ w1.heap.size) := by
 obtain ⟨i, hi, hz, hs, hby⟩ := info_parts hinfo
 -- the second append, at whatever world
 have second : ∀ (w1 : World) (v1 : Value) (a : Nat), w1.ownsRow w.heap.size e 1 v1 m ys → w1.cell? ⟨a, 0, none⟩ = some x → w.heap.size ≤ w1.heap.size → Below w.heap.size w w1 → (∀ xb T cs, Bk w xb T cs → Bk w1 xb T cs) →
   ∃ v2 w2, (Builtin.append_ #[t, t] t #[v1, .slice (some ⟨a, 0, none⟩) 1 1]).run P w1 = .ok v2 w2 ∧ w2.ownsRow w.heap.size e 1 v2 (m + 1) (ys ++ [x]) ∧ Below w.heap.size w w2 ∧ (∀ xb T cs, Bk w xb T cs → Bk w2 xb T cs) := by
  intro w1 v1 a ho ha hsz hb hk
  obtain ⟨v2, w2, hr, h2, h3, _⟩ := run_append_own_at (P := P) w1 w.heap.size t t e i z 1 bytes ht hi hz hs hby hz1 (by omega) v1 m ys ho ⟨a, 0, none⟩ 1 1 [x] rfl (fun j u hu => by
   cases j with
   | zero => simp at hu; subst hu; exact ha
   | succ j => simp at hu) (by simpa using hx) h63 hbytes hsz
  refine ⟨v2, w2, hr, h2, hb.grown h3 hsz (fun k hk => (ho.lt k hk).1), fun xb T cs hx => (hk xb T cs hx).grown h3 (fun e => ?_)⟩;have h4 := (ho.lt xb e.symm).1;have h5 := hx.lt;omega
 have hb0 : ∀ o : Obj, Below w.heap.size w (w.alloc o) := fun o => (Below.refl w.heap.size w).alloc (Nat.le_refl _) o
 refine ⟨?_, ?_, ?_⟩
 ·obtain ⟨v1, w1, r1, o1, b1, k1⟩ := run_copy t e z bytes ht hinfo hz1 (w := w.drew) hu cap m hm hA h1 (by omega) (Nat.le_trans (Nat.mul_le_mul_right _ (by omega)) hbytes)
  have b1' : Below w.heap.size w w1 := (Below.refl w.heap.size w).drew.trans b1;obtain ⟨v2, w2, r2, o2, b2, k2⟩ := second (w1.alloc (.cells #[x] e)) v1 w1.heap.size (o1.alloc _) ((Bk.new w1 e #[x]).cell 0) (Nat.le_trans b1'.size (by simp)) (b1'.alloc b1'.size _) (fun xb T cs hk => (k1 xb T cs hk).alloc _);exact ⟨v1, w1, v2, w2, r1, r2, o2, b2, fun xb T cs hk => ⟨k1 xb T cs hk, k2 xb T cs hk⟩, b1'.size⟩
 ·have ho : ((w.alloc (.cells #[] e)).alloc (.cells #[x] e)).drew.ownsRow w.heap.size e 1 (.slice (some ⟨w.heap.size, 0, none⟩) 0 0) 0 [] := (own_made0 e w).alloc _
  obtain ⟨v1, w1, r1, o1, g1, _⟩ := run_appAt t e z bytes ht hinfo hz1 ho (A := A) (ys := ys) ((hu.alloc _).alloc _) cap m hm hA h1 (by omega) (Nat.le_trans (Nat.mul_le_mul_right _ (by omega)) hbytes) (by show _ ≤ ((w.alloc _).alloc _).heap.size; simp; omega);have hbb : Below w.heap.size w ((w.alloc (.cells #[] e)).alloc (.cells #[x] e)).drew := ((hb0 _).alloc (by simp) _).drew;have b1 : Below w.heap.size w w1 := hbb.grown g1 hbb.size (fun k hk => by simp [Value.ownBlock] at hk; omega)
  have cx : w1.cell? ⟨w.heap.size + 1, 0, none⟩ = some x := by
   have h3 := (Bk.new (w.alloc (.cells #[] e)) e #[x])
   have h3' : Bk ((w.alloc (.cells #[] e)).alloc (.cells #[x] e)) (w.heap.size + 1) e #[x] := by simpa using h3
   have h4 : Bk ((w.alloc (.cells #[] e)).alloc (.cells #[x] e)).drew (w.heap.size + 1) e #[x] := h3';exact (h4.grown g1 (fun e => by simp [Value.ownBlock] at e)).cell 0
  have k1 : ∀ xb T cs, Bk w xb T cs → Bk w1 xb T cs := fun xb T cs hk => (((hk.alloc _).alloc _).drew).grown g1 (fun e => by have := hk.lt; simp [Value.ownBlock] at e; omega)
  obtain ⟨v2, w2, r2, o2, b2, k2⟩ := second w1 v1 (w.heap.size + 1) (by simpa using o1) cx b1.size b1 k1;exact ⟨v1, w1, v2, w2, r1, r2, o2, b2, fun xb T cs hk => ⟨k1 xb T cs hk, k2 xb T cs hk⟩, b1.size⟩
 ·have ho0 := own_made0 e (w.alloc (.cells #[x] e))
  have ho : ((w.alloc (.cells #[x] e)).alloc (.cells #[] e)).drew.ownsRow w.heap.size e 1 (.slice (some ⟨w.heap.size + 1, 0, none⟩) 0 0) 0 [] := by
   have h1 := own_base ho0 (base' := w.heap.size) (by simp)
   have h2 : ((w.alloc (.cells #[x] e)).alloc (.cells #[] e)).ownsRow w.heap.size e 1 (.slice (some ⟨w.heap.size + 1, 0, none⟩) 0 0) 0 [] := by simpa using h1
   exact h2
  obtain ⟨v1, w1, r1, o1, g1, _⟩ := run_appAt t e z bytes ht hinfo hz1 ho (A := A) (ys := ys) ((hu.alloc _).alloc _) cap m hm hA h1 (by omega) (Nat.le_trans (Nat.mul_le_mul_right _ (by omega)) hbytes) (by show _ ≤ ((w.alloc _).alloc _).heap.size; simp; omega);have hbb : Below w.heap.size w ((w.alloc (.cells #[x] e)).alloc (.cells #[] e)).drew := ((hb0 _).alloc (by simp) _).drew;have b1 : Below w.heap.size w w1 := hbb.grown g1 hbb.size (fun k hk => by simp [Value.ownBlock] at hk; omega)
  have cx : w1.cell? ⟨w.heap.size, 0, none⟩ = some x := by
   have h4 : Bk ((w.alloc (.cells #[x] e)).alloc (.cells #[] e)).drew w.heap.size e #[x] := ((Bk.new w e #[x]).alloc _).drew;exact (h4.grown g1 (fun e => by simp [Value.ownBlock] at e)).cell 0
  have k1 : ∀ xb T cs, Bk w xb T cs → Bk w1 xb T cs := fun xb T cs hk => (((hk.alloc _).alloc _).drew).grown g1 (fun e => by have := hk.lt; simp [Value.ownBlock] at e; omega)
  obtain ⟨v2, w2, r2, o2, b2, k2⟩ := second w1 v1 w.heap.size (by simpa using o1) cx b1.size b1 k1;exact ⟨v1, w1, v2, w2, r1, r2, o2, b2, fun xb T cs hk => ⟨k1 xb T cs hk, k2 xb T cs hk⟩, b1.size⟩
theorem wpList_run {P : Program} {ops : Array Oper} {rest : List Oper} {o : Oper} {a : Act} {w w0 w' : World} {Q : Exit → Act → World → Prop} {v' : Value} (hw : w = w0) (hgd : o.guard = none) (s x : Operand) (t : TypeId)
  (ho : o.op = .call { callee := .builtin .append, args := #[s, x], argTypes := #[t, t] }) (v u : Value) (hs : a.eval s = v) (hx : a.eval x = u)
  (hr : (Builtin.append_ #[t, t] o.type #[v, u]).run P w0 = .ok v' w') (h : wpList P ops Q rest (a.put o.dst v') w') : wpList P ops Q (o :: rest) a w := by
 subst hw;refine wpList_plain hgd fun K hK => ?_;unfold Oper.wp execOp;simp only [ho, resolve, invoke, builtin, Sem.run_bind, Sem.run_pure, Result.andThen_ok, List.map_toArray, List.map_cons, List.map_nil, hs, hx, hr];exact hK _ _ h
theorem step_at {P : Program} {o : Oper} {a : Act} {w : World} (w0 : World) {K : Act → World → Prop} {Q : Exit → Act → World → Prop} {E : Prop} {c : Prop} [Decidable c] (hw : w = w0) (h : if c then Oper.wp P o a w0 K Q else E) : if c then Oper.wp P o a w K Q else E := by
 subst hw;exact h
theorem step_runW {P : Program} {ops : Array Oper} {o : Oper} {a : Act} {w w0 w' : World} {K : Act → World → Prop} {Q : Exit → Act → World → Prop} {E : Prop} {v' : Value} (hw : w = w0) (hgd : o.guard = none) (s x : Operand) (t : TypeId)
  (ho : o.op = .call { callee := .builtin .append, args := #[s, x], argTypes := #[t, t] }) (v u : Value) (hs : a.eval s = v) (hx : a.eval x = u)
  (hr : (Builtin.append_ #[t, t] o.type #[v, u]).run P w0 = .ok v' w') (h : K (a.put o.dst v') w') :
  if Region.wanted o (yielded ops a.tmps) = true then Oper.wp P o a w K Q else E := by
 subst hw;exact step_run hgd s x t ho v u hs hx hr h
theorem app_own {P : Program} (t e : TypeId) (z : Value) (bytes : Nat) (ht : P.underlying t = some (.slice e)) (hinfo : (P.info? e).map (fun i => (i.zero, i.size, i.bytes)) = some (some z, 1, bytes)) (hz1 : z.cells.size = 1) {w wb : World} {B : Nat} {v : Value} {n : Nat} {xs : List Value} (h : w.ownsRow B e 1 v n xs) (hf : Below B wb w) (hB : B ≤ w.heap.size) (x : Value) (hx : x.oneCell' = true) (h63 : n + 1 ≤ maxLen) (hbytes : (n + 1) * bytes ≤ 140737488355328) :
  ∃ v' w', (Builtin.append_ #[t, t] t #[v, .slice (some ⟨w.heap.size, 0, none⟩) 1 1]).run P (w.alloc (.cells #[x] e)) = .ok v' w' ∧ w'.ownsRow B e 1 v' (n + 1) (xs ++ [x]) ∧ Below B wb w' ∧ (∀ xb T cs, Bk w xb T cs → e ≠ T → Bk w' xb T cs) := by
 obtain ⟨i, hi, hz, hs, hby⟩ := info_parts hinfo;obtain ⟨v', w', hr, h2, h3, _⟩ := run_append_own_at (P := P) (w.alloc (.cells #[x] e)) B t t e i z 1 bytes ht hi hz hs hby hz1 (by omega) v n xs (h.alloc _) ⟨w.heap.size, 0, none⟩ 1 1 [x] rfl (news_one _ _ _) (by simpa using hx) h63 hbytes (Nat.le_trans hB (by simp));exact ⟨v', w', hr, h2, (hf.alloc hB _).grown h3 (Nat.le_trans hB (by simp)) (fun k hk => (h.lt k hk).1), fun xb T cs hk hT => (hk.alloc _).grown h3 (fun e => own_apart h hk hT e.symm)⟩
theorem app_own2 {P : Program} (t e : TypeId) (z : Value) (bytes : Nat) (ht : P.underlying t = some (.slice e)) (hinfo : (P.info? e).map (fun i => (i.zero, i.size, i.bytes)) = some (some z, 1, bytes)) (hz1 : z.cells.size = 1) {w wb : World} {B : Nat} {v : Value} {n : Nat} {xs : List Value} (h : w.ownsRow B e 1 v n xs) (hf : Below B wb w) (hB : B ≤ w.heap.size) (x : Value) (hx : x.oneCell' = true) (h63 : n + 1 ≤ maxLen) (hbytes : (n + 1) * bytes ≤ 140737488355328) :
  ∃ v' w', (Builtin.append_ #[t, t] t #[v, .slice (some ⟨w.heap.size, 0, none⟩) 1 1]).run P (w.alloc (.cells #[x] e)) = .ok v' w' ∧ w'.ownsRow B e 1 v' (n + 1) (xs ++ [x]) ∧ Below B wb w' ∧ (v'.ownBlock = v.ownBlock ∨ v'.ownBlock = some (w.heap.size + 1)) ∧ w.heap.size + 1 ≤ w'.heap.size ∧
   (∀ A vs, At w A vs → (∀ b o, A = some ⟨b, o, none⟩ → v.ownBlock ≠ some b) → At w' A vs) := by
 obtain ⟨i, hi, hz, hs, hby⟩ := info_parts hinfo;obtain ⟨v', w', hr, h2, h3, _, h5⟩ := run_append_own_at (P := P) (w.alloc (.cells #[x] e)) B t t e i z 1 bytes ht hi hz hs hby hz1 (by omega) v n xs (h.alloc _) ⟨w.heap.size, 0, none⟩ 1 1 [x] rfl (news_one _ _ _) (by simpa using hx) h63 hbytes (Nat.le_trans hB (by simp));have hfr : Fr (fun k => v.ownBlock = some k) (w.alloc (.cells #[x] e)) w' := (Fr.refl _ _).grown h3 (fun k hk => .inl hk);refine ⟨v', w', hr, h2, (hf.alloc hB _).grown h3 (Nat.le_trans hB (by simp)) (fun k hk => (h.lt k hk).1), ?_, ?_, fun A vs ha hA => ?_⟩
 ·rcases h5 with h5 | h5
  ·exact .inl h5
  ·refine .inr (h5.trans ?_)
   simp
 ·have := hfr.size
  simpa using this
 ·exact (ha.alloc _).keep hfr (fun b o hb hs => hA b o hb hs)
theorem app_ownL {P : Program} (t e : TypeId) (z : Value) (bytes size : Nat) (ht : P.underlying t = some (.slice e)) (hinfo : (P.info? e).map (fun i => (i.zero, i.size, i.bytes)) = some (some z, size, bytes)) (hz1 : z.cells.size = size) (hs0 : 0 < size) {w wb : World} {B : Nat} {v : Value} {n : Nat} {xs : List Value} (h : w.ownsRow B e size v n xs) (hf : Below B wb w) (hB : B ≤ w.heap.size) (ys : List Value) (hys : ys.length = size) (h1 : ∀ y ∈ ys, y.oneCell' = true) (h63 : n + 1 ≤ maxLen) (hbytes : (n + 1) * bytes ≤ 140737488355328) :
    ∃ v' w', (Builtin.append_ #[t, t] t #[v, .slice (some ⟨w.heap.size, 0, none⟩) 1 1]).run P (w.alloc (.cells ys.toArray e)) = .ok v' w' ∧ w'.ownsRow B e size v' (n + 1) (xs ++ ys) ∧ Below B wb w' ∧ (v'.ownBlock = v.ownBlock ∨ v'.ownBlock = some (w.heap.size + 1)) ∧ w.heap.size + 1 ≤ w'.heap.size ∧
      (∀ A vs, At w A vs → (∀ b o, A = some ⟨b, o, none⟩ → v.ownBlock ≠ some b) → At w' A vs) := by
  obtain ⟨i, hi, hz, hs, hby⟩ := info_parts hinfo
  obtain ⟨v', w', hr, h2, h3, _, h5⟩ := run_append_own_at (P := P) (w.alloc (.cells ys.toArray e)) B t t e i z size bytes ht hi hz hs hby hz1 hs0 v n xs (h.alloc _) ⟨w.heap.size, 0, none⟩ 1 1 ys (by omega) (fun j u hu => by
      have hb := (Bk.new w e ys.toArray).cell j;rw [Go.WideShapes.add_plain, Nat.zero_add, hb]
      simpa using hu) h1 h63 hbytes (Nat.le_trans hB (by simp))
  have hfr : Fr (fun k => v.ownBlock = some k) (w.alloc (.cells ys.toArray e)) w' := (Fr.refl _ _).grown h3 (fun k hk => .inl hk);refine ⟨v', w', hr, h2, (hf.alloc hB _).grown h3 (Nat.le_trans hB (by simp)) (fun k hk => (h.lt k hk).1), ?_, ?_, fun A vs ha hA => ?_⟩
  · rcases h5 with h5 | h5
    · exact .inl h5
    · refine .inr (h5.trans ?_)
      simp
  · have := hfr.size
    simpa using this
  · exact (ha.alloc _).keep hfr (fun b o hb hs => hA b o hb hs)
theorem two_bothB {P : Program} (t e : TypeId) (z : Value) (bytes : Nat) (ht : P.underlying t = some (.slice e)) (hinfo : (P.info? e).map (fun i => (i.zero, i.size, i.bytes)) = some (some z, 1, bytes)) (hz1 : z.cells.size = 1) {wb w : World} {B : Nat} {v1 v2 : Value} {xs ys : List Value} (h : TwoSt wb B e v1 xs v2 ys w) (x y : Value) (hx : x.oneCell' = true) (hy : y.oneCell' = true) (hxl : xs.length + 1 ≤ maxLen) (hxb : (xs.length + 1) * bytes ≤ 140737488355328)
  (hyl : ys.length + 1 ≤ maxLen) (hyb : (ys.length + 1) * bytes ≤ 140737488355328) :
  (∃ a1 w1 a2 w2, (Builtin.append_ #[t, t] t #[v1, .slice (some ⟨w.heap.size, 0, none⟩) 1 1]).run P (w.alloc (.cells #[x] e)).drew = .ok a1 w1 ∧ (Builtin.append_ #[t, t] t #[v2, .slice (some ⟨w1.heap.size, 0, none⟩) 1 1]).run P (w1.alloc (.cells #[y] e)) = .ok a2 w2 ∧ TwoSt wb B e a1 (xs ++ [x]) a2 (ys ++ [y]) w2 ∧ Below B wb w1 ∧ Below B wb w2) ∧
  (∃ a1 w1 a2 w2, (Builtin.append_ #[t, t] t #[v1, .slice (some ⟨w.heap.size, 0, none⟩) 1 1]).run P ((w.alloc (.cells #[x] e)).alloc (.cells #[y] e)).drew = .ok a1 w1 ∧ (Builtin.append_ #[t, t] t #[v2, .slice (some ⟨w.heap.size + 1, 0, none⟩) 1 1]).run P w1 = .ok a2 w2 ∧ TwoSt wb B e a1 (xs ++ [x]) a2 (ys ++ [y]) w2 ∧ Below B wb w1 ∧ Below B wb w2) ∧
  (∃ a1 w1 a2 w2, (Builtin.append_ #[t, t] t #[v1, .slice (some ⟨w.heap.size + 1, 0, none⟩) 1 1]).run P ((w.alloc (.cells #[y] e)).alloc (.cells #[x] e)).drew = .ok a1 w1 ∧ (Builtin.append_ #[t, t] t #[v2, .slice (some ⟨w.heap.size, 0, none⟩) 1 1]).run P w1 = .ok a2 w2 ∧ TwoSt wb B e a1 (xs ++ [x]) a2 (ys ++ [y]) w2 ∧ Below B wb w1 ∧ Below B wb w2) := by
 have hlt1 : ∀ g, v1.ownBlock = some g → g < w.heap.size := fun g hg => (h.own1.lt g hg).2
 have cx : (w.alloc (.cells #[x] e)).cell? ⟨w.heap.size, 0, none⟩ = some x := (Bk.new w e #[x]).cell 0;have cy : (w.alloc (.cells #[y] e)).cell? ⟨w.heap.size, 0, none⟩ = some y := (Bk.new w e #[y]).cell 0
 have hs1 : (w.alloc (.cells #[x] e)).heap.size = w.heap.size + 1 := by simp
 have hs2 : (w.alloc (.cells #[y] e)).heap.size = w.heap.size + 1 := by simp
 refine ⟨?_, ?_, ?_⟩
 ·obtain ⟨a1, w1, r1, t1, _, b1⟩ := two_step t e z bytes ht hinfo hz1 (h.alloc (.cells #[x] e)).drew w.heap.size x cx hx hxl hxb
  obtain ⟨a2, w2, r2, t2, _, b2⟩ := two_step t e z bytes ht hinfo hz1 (t1.swap.alloc (.cells #[y] e)) w1.heap.size y ((Bk.new w1 e #[y]).cell 0) hy hyl hyb;exact ⟨a1, w1, a2, w2, r1, r2, t2.swap, t1.bel, t2.bel⟩
 ·have c1 : ((w.alloc (.cells #[x] e)).alloc (.cells #[y] e)).drew.cell? ⟨w.heap.size, 0, none⟩ = some x := ((Bk.new w e #[x]).alloc (.cells #[y] e)).cell 0
  have c2 : ((w.alloc (.cells #[x] e)).alloc (.cells #[y] e)).drew.cell? ⟨w.heap.size + 1, 0, none⟩ = some y := by
   have := (Bk.new (w.alloc (.cells #[x] e)) e #[y]).cell 0;rw [hs1] at this;exact this
  obtain ⟨a1, w1, r1, t1, k1, b1⟩ := two_step t e z bytes ht hinfo hz1 ((h.alloc (.cells #[x] e)).alloc (.cells #[y] e)).drew w.heap.size x c1 hx hxl hxb;have c3 := (k1 (w.heap.size + 1) (fun e => by have := hlt1 _ e.symm; omega) (by show _ < ((w.alloc (.cells #[x] e)).alloc (.cells #[y] e)).heap.size; simp <;> omega)).trans c2;obtain ⟨a2, w2, r2, t2, _, b2⟩ := two_step t e z bytes ht hinfo hz1 t1.swap (w.heap.size + 1) y c3 hy hyl hyb;exact ⟨a1, w1, a2, w2, r1, r2, t2.swap, t1.bel, t2.bel⟩
 ·have c1 : ((w.alloc (.cells #[y] e)).alloc (.cells #[x] e)).drew.cell? ⟨w.heap.size, 0, none⟩ = some y := ((Bk.new w e #[y]).alloc (.cells #[x] e)).cell 0
  have c2 : ((w.alloc (.cells #[y] e)).alloc (.cells #[x] e)).drew.cell? ⟨w.heap.size + 1, 0, none⟩ = some x := by
   have := (Bk.new (w.alloc (.cells #[y] e)) e #[x]).cell 0;rw [hs2] at this;exact this
  obtain ⟨a1, w1, r1, t1, k1, b1⟩ := two_step t e z bytes ht hinfo hz1 ((h.alloc (.cells #[y] e)).alloc (.cells #[x] e)).drew (w.heap.size + 1) x c2 hx hxl hxb;have c3 := (k1 w.heap.size (fun e => by have := hlt1 _ e.symm; omega) (by show _ < ((w.alloc (.cells #[y] e)).alloc (.cells #[x] e)).heap.size; simp <;> omega)).trans c1;obtain ⟨a2, w2, r2, t2, _, b2⟩ := two_step t e z bytes ht hinfo hz1 t1.swap w.heap.size y c3 hy hyl hyb;exact ⟨a1, w1, a2, w2, r1, r2, t2.swap, t1.bel, t2.bel⟩
end Wv
