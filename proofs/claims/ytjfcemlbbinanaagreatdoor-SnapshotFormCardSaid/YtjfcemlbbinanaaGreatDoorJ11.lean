/-
  The walks over the models, first part: probabilities, a model of numbers in memory.
-/
import Derived.Test.YtjfcemlbbinanaaGreatDoorJ10
import Derived.Deep.RegionWith
set_option linter.unusedVariables false
set_option linter.unusedSimpArgs false
namespace Go.Proofs.YtjfcemlbbinanaaGreatDoor
open Go.RowKit Go.Proofs Wv Wv.Vi Wv.Rc Wv.Mo
set_option linter.unusedVariables false

set_option maxHeartbeats 400000 in
theorem mclamp_any (p : Int) (h1 : 1 ≤ p) (h2 : p ≤ 2047) (w : World) :
  Calls Tryz.prog 126 #[.int .i64 p] w fun x w' => x = .returned (.int .i64 p) ∧ w = w' := by
 go_enter Tryz.func126, Tryz.ntmps126
 go_wp2
 go_ret
 exact ⟨rfl, rfl⟩
set_option maxHeartbeats 400000 in
theorem adapt_any (z b : Nat) (h1 : 1 ≤ z) (h2 : z ≤ 2047) (hb : b < 2) (w : World) :
  Calls Tryz.prog 100 #[.int .i64 (z : Int), .int .i64 (b : Int)] w fun x w' => x = .returned (.int .i64 (adapt z b : Nat)) ∧ w = w' := by
 have Hc := hide (mclamp_any (z : Int) (by omega) (by omega))
 have hz : b = 0 ∨ b = 1 := by omega
 rcases hz with rfl | rfl
 ·have ha := hide (show adapt z 0 = z + (2048 - z) / 32 by unfold adapt; rw [if_pos rfl])
  go_enter Tryz.func100, Tryz.ntmps100
  go_wp2_with fail
  refine (Hc.out _).mono ?_
  rintro x w1 ⟨rfl, rfl⟩
  go_wp2
  go_ret
  exact ⟨ret_int (by rw [ha.out]; omega), rfl⟩
 ·have ha := hide (show adapt z 1 = z - z / 32 by unfold adapt; rw [if_neg (by omega)])
  have hne : (((1 : Nat) : Int) == 0) = false := rfl
  go_enter Tryz.func100, Tryz.ntmps100
  go_wp2_with fail
  refine (Hc.out _).mono ?_
  rintro x w1 ⟨rfl, rfl⟩
  go_wp2
  go_ret
  exact ⟨ret_int (by rw [ha.out]; omega), rfl⟩
def nc (t : List Nat) : Array Value := (t.map fun n : Nat => (Value.int .i64 (n : Int))).toArray
theorem nc_get (t : List Nat) (i : Nat) (h : i < t.length) : (nc t)[i]? = some (.int .i64 (t.getD i 0 : Nat)) := by
 have : t.getD i 0 = t[i] := by simp [List.getD, h]
 rw [this]
 simp [nc, List.getElem?_eq_getElem h]
theorem nc_set (t : List Nat) (i z : Nat) : (nc t).setIfInBounds i (.int .i64 (z : Int)) = nc (t.set i z) := by
 apply Array.toList_inj.1
 simp [nc, List.map_set]
def NAt (w : World) (b g : Nat) (t : List Nat) : Prop := Bk w b 139 #[.int .i64 6, .slice (some ⟨g, 0, none⟩) 64 64] ∧ Bk w g 3 (nc t)
theorem NAt.drewN {w : World} {b g : Nat} {t : List Nat} (h : NAt w b g t) (n : Nat) : NAt (w.drewN n) b g t := h
theorem NAt.drew {w : World} {b g : Nat} {t : List Nat} (h : NAt w b g t) : NAt w.drew b g t := h
theorem NAt.fr {S : Nat → Prop} {w w' : World} {b g : Nat} {t : List Nat} (h : NAt w b g t) (hf : Fr S w w') (h1 : ¬ S b) (h2 : ¬ S g) : NAt w' b g t := ⟨h.1.fr hf h1, h.2.fr hf h2⟩
theorem NAt.below {w w' : World} {b g : Nat} {t : List Nat} (h : NAt w b g t) (hb : Below w.heap.size w w') : NAt w' b g t := ⟨h.1.below hb h.1.lt, h.2.below hb h.2.lt⟩
theorem NAt.put {w : World} {b g : Nat} {t : List Nat} (h : NAt w b g t) (m z : Nat) : NAt (w.setCell ⟨g, m, none⟩ (.int .i64 (z : Int))) b g (t.set m z) := by
 have hne : b ≠ g := Bk.apart h.1 h.2 (by decide)
 refine ⟨h.1.off (p := ⟨g, m, none⟩) hne _, ?_⟩
 have := h.2.put m (.int .i64 (z : Int))
 rwa [nc_set] at this
theorem NAt.foot {w : World} {b g eb : Nat} {dv : Value} {t : List Nat} {e : En} (h : NAt w b g t) (he : EnAt w eb dv e) : ¬ foot eb dv b ∧ ¬ foot eb dv g := by
 refine ⟨fun hs => ?_, fun hs => ?_⟩
 ·rcases hs with hs | hs
  ·exact Bk.apart h.1 he.1 (by decide) hs
  ·exact own_apart he.2 h.1 (by decide) hs
 ·rcases hs with hs | hs
  ·exact Bk.apart h.2 he.1 (by decide) hs
  ·exact own_apart he.2 h.2 (by decide) hs
theorem NAt.onl {w : World} {b g eb : Nat} {t : List Nat} {d : De} (h : NAt w b g t) (he : DAt w eb d) : ¬ only eb b ∧ ¬ only eb g :=
 ⟨fun hs => Bk.apart h.1 he (by decide) hs, fun hs => Bk.apart h.2 he (by decide) hs⟩
def efoot (g eb : Nat) (dv : Value) : Nat → Prop := fun k => k = g ∨ foot eb dv k
def dfoot (g eb : Nat) : Nat → Prop := fun k => k = g ∨ k = eb
theorem efr_foot {w w1 w2 : World} {g eb : Nat} {dv dr : Value} (h : Fr (efoot g eb dv) w w1) (k : Fr (foot eb dr) w1 w2) (ho : OwnNew w dv dr) : Fr (efoot g eb dv) w w2 :=
 h.trans' k (fun i hi hs => by
  rcases hs with hs | hs
  ·exact .inr (.inl hs)
  ·rcases ho with ho | ho
   ·exact .inr (.inr (ho ▸ hs))
   ·have := ho i hs; omega)
theorem efr_set {w w1 : World} {g eb m : Nat} {dv x : Value} (h : Fr (efoot g eb dv) w w1) : Fr (efoot g eb dv) w (w1.setCell ⟨g, m, none⟩ x) := h.setCell (p := ⟨g, m, none⟩) (.inl (.inl rfl)) x
theorem EnAt.off {w : World} {b g eb m : Nat} {dv x : Value} {t : List Nat} {e : En} (he : EnAt w eb dv e) (h : NAt w b g t) : EnAt (w.setCell ⟨g, m, none⟩ x) eb dv e :=
 he.fr (S := only g) ((Fr.refl (only g) w).setCell (p := ⟨g, m, none⟩) (.inl rfl) x) (fun e => (h.foot he).2 (.inl e.symm)) (fun k hk e => (h.foot he).2 (.inr (by rw [hk]; exact congrArg some e)))
theorem DAt.off {w : World} {b g eb m : Nat} {x : Value} {t : List Nat} {d : De} (he : DAt w eb d) (h : NAt w b g t) : DAt (w.setCell ⟨g, m, none⟩ x) eb d :=
 he.fr (S := only g) ((Fr.refl (only g) w).setCell (p := ⟨g, m, none⟩) (.inl rfl) x) (fun e => (h.onl he).2 e.symm)
end Go.Proofs.YtjfcemlbbinanaaGreatDoor
