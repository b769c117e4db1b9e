/-
  The laws of the bit strings: codes that are written are read again, and nothing is left.
-/
import Derived.Test.YtfahcmiignnnkaaLaw2
import Derived.Test.YtfahcmiignnnkaaLaw3
import Derived.Test.YtfahcmiignnnkaaPlain3
import Derived.Test.YtfahcmiignnnkaaOwn3
namespace Go.Proofs.Ytfahcmiignnnkaa
open Go.RowKit Go.Proofs Wv Wv.Bit
set_option linter.unusedVariables false

theorem WSt.fr {B : Nat} {S : Nat → Prop} {w w' : World} {b : Nat} {dv : Value} {L : List Bool} (h : WSt B w b dv L) (hf : Fr S w w') (hb : ¬ S b) (hd : ∀ g, dv.ownBlock = some g → ¬ S g) : WSt B w' b dv L :=
  ⟨⟨h.at_.1.fr hf hb, own_fr h.at_.2 hf hd⟩, h.own, h.new⟩
/-- The codes that are written so far: the writer, and their row. -/
structure ISt (B : Nat) (w : World) (b : Nat) (dv sv : Value) (D : List Cd) : Prop where
  wst : WSt B w b dv (catb D)
  row : w.ownsRow B 42 3 sv D.length (cds D)
  all : ∀ c ∈ D, c.ok = true ∧ CdOk c
  len : (catb D).length ≤ 65536
theorem ISt.alloc {B : Nat} {w : World} {b : Nat} {dv sv : Value} {D : List Cd} (h : ISt B w b dv sv D) (o : Obj) : ISt B (w.alloc o) b dv sv D := ⟨h.wst.alloc o, h.row.alloc o, h.all, h.len⟩
theorem ISt.below {B : Nat} {w w' : World} {b : Nat} {dv sv : Value} {D : List Cd} (h : ISt B w b dv sv D) (hb : Below w.heap.size w w') : ISt B w' b dv sv D :=
  ⟨h.wst.below hb, own_fr h.row (Fr.of_below (S := nob) hb) (fun _ _ f => f), h.all, h.len⟩
theorem row_foot {B : Nat} {w w' : World} {b : Nat} {dv sv : Value} {L : List Bool} {n : Nat} {xs : List Value} (h : WSt B w b dv L) (hr : w.ownsRow B 42 3 sv n xs) (hf : Fr (foot b dv) w w') : w'.ownsRow B 42 3 sv n xs :=
  own_fr hr hf (fun g hg hs => by
    rcases hs with hs | hs
    · exact own_apart hr h.at_.1 (by decide) (by rw [hg, hs])
    · exact own_apart2 hr h.at_.2 (by decide) g hg hs)
theorem wst_grown {B : Nat} {w w' : World} {b : Nat} {dv sv : Value} {L : List Bool} {n : Nat} {xs : List Value} (h : WSt B w b dv L) (hr : w.ownsRow B 42 3 sv n xs) (hg : w.grownBy w' sv.ownBlock) : WSt B w' b dv L :=
  h.fr (S := fun k => sv.ownBlock = some k) ((Fr.refl _ w).grown hg (fun k hk => .inl hk)) (fun e => own_apart hr h.at_.1 (by decide) e) (fun g hd e => own_apart2 hr h.at_.2 (by decide) g e hd)
theorem codeinf : (Try.prog.info? 42).map (fun i => (i.zero, i.size, i.bytes)) = some (some (.agg #[.int .i64 0, .int .i64 0, .int .i64 0]), 3, 24) := by kernel_rfl
theorem held3w {W W' : World} {B : Nat} {x y z : Value} {w : World} {b wb : Nat} {dv sv : Value} {D : List Cd} (h : W.cell? ⟨B, 0, none⟩ = some x ∧ W.cell? ⟨B, 1, none⟩ = some y ∧ W.cell? ⟨B, 2, none⟩ = some z ∧ B < W.heap.size ∧ b ≤ W.heap.size ∧ Below b w W ∧ ISt b W wb dv sv D) (hb : Below W.heap.size W W') :
    W'.cell? ⟨B, 0, none⟩ = some x ∧ W'.cell? ⟨B, 1, none⟩ = some y ∧ W'.cell? ⟨B, 2, none⟩ = some z ∧ B < W'.heap.size ∧ b ≤ W'.heap.size ∧ Below b w W' ∧ ISt b W' wb dv sv D := by
  obtain ⟨h0, h1, h2, h3, h4, h5, h6⟩ := h
  exact ⟨(hb.cell h3).trans h0, (hb.cell h3).trans h1, (hb.cell h3).trans h2, Nat.lt_of_lt_of_le h3 hb.size, Nat.le_trans h4 hb.size, h5.trans (hb.mono h4), h6.below hb⟩
theorem held3w_st {W : World} {B : Nat} {x y z : Value} {w : World} {b wb : Nat} {dv sv : Value} {D : List Cd} (h : W.cell? ⟨B, 0, none⟩ = some x ∧ W.cell? ⟨B, 1, none⟩ = some y ∧ W.cell? ⟨B, 2, none⟩ = some z ∧ B < W.heap.size ∧ b ≤ W.heap.size ∧ Below b w W ∧ ISt b W wb dv sv D) : ISt b W wb dv sv D := h.2.2.2.2.2.2
theorem held3w_below {W : World} {B : Nat} {x y z : Value} {w : World} {b wb : Nat} {dv sv : Value} {D : List Cd} (h : W.cell? ⟨B, 0, none⟩ = some x ∧ W.cell? ⟨B, 1, none⟩ = some y ∧ W.cell? ⟨B, 2, none⟩ = some z ∧ B < W.heap.size ∧ b ≤ W.heap.size ∧ Below b w W ∧ ISt b W wb dv sv D) : Below b w W := h.2.2.2.2.2.1
theorem putm_cases (L : List Bool) (c : Cd) : (putm L c = (L ++ c.bits, 0) ∧ c.ok = true ∧ L.length + c.bits.length ≤ 65536 ∧ csz c.k c.p c.v = c.bits.length) ∨ (putm L c = (L, 9) ∧ ¬ L.length + csz c.k c.p c.v ≤ 65536) ∨ (putm L c = (L, 1) ∧ csz c.k c.p c.v = 0) := by
  by_cases h : c.ok = true
  · have hz : csz c.k c.p c.v = c.bits.length := by unfold csz; rw [if_pos (show vld c.k c.p c.v = true from h)]; rfl
    by_cases h2 : 65536 < L.length + c.bits.length
    · refine .inr (.inl ⟨by unfold putm; rw [if_pos h, if_pos h2], by omega⟩)
    · exact .inl ⟨by unfold putm; rw [if_pos h, if_neg h2], h, by omega, hz⟩
  · refine .inr (.inr ⟨by unfold putm; rw [if_neg h], ?_⟩)
    unfold csz
    rw [if_neg (show ¬ vld c.k c.p c.v = true from h)]
end Go.Proofs.Ytfahcmiignnnkaa
