/-
  Joined texts: Ek, El, Em.
-/
import Derived.Test.YtjfcemlbbinanaaGreatDoorJ18
import Derived.Lib.AppendStr
import Derived.Lib.MinMax
set_option linter.unusedVariables false
set_option linter.unusedSimpArgs false
/-
  The walks over decimal numbers: a scan's places in its text, and what lies in memory on its way.
-/
namespace Go.Proofs.YtjfcemlbbinanaaGreatDoor
open Go.RowKit Go.Proofs Wv Wv.Dc
set_option linter.unusedVariables false

def sgK (L : List UInt8) (k : Nat) : Nat := if hitB [45] L k then k + 1 else hitK [43] L k
theorem hit_cases (S L : List UInt8) (k : Nat) : (L.length ≤ k ∧ hitB S L k = false ∧ L.drop k = []) ∨ (∃ c, L[k]? = some c ∧ k < L.length ∧ hitB S L k = S.contains c ∧ L.drop k = c :: L.drop (k + 1)) := by
 by_cases h : k < L.length
 ·right
  refine ⟨L[k], List.getElem?_eq_getElem h, h, ?_, List.drop_eq_getElem_cons h⟩
  unfold hitB
  rw [List.getElem?_eq_getElem h]
 ·left
  refine ⟨by omega, ?_, List.drop_eq_nil_of_le (by omega)⟩
  unfold hitB
  rw [List.getElem?_eq_none (by omega)]
theorem sgn_place (L : List UInt8) (k : Nat) : sgn (L.drop k) = (hitB [45] L k, L.drop (sgK L k)) := by
 unfold sgK hitK
 rcases hit_cases [45] L k with ⟨h1, h2, h3⟩ | ⟨c, h1, h2, h3, h4⟩
 ·have h5 : hitB [43] L k = false := by unfold hitB; rw [List.getElem?_eq_none h1]
  rw [h2, h5, h3]
  simp [sgn, h3]
 ·have h5 : hitB [43] L k = [43].contains c := by unfold hitB; rw [h1]
  rw [h3, h5, h4, sgn_cons]
  by_cases e1 : c = 45
  ·subst e1; simp
  ·by_cases e2 : c = 43
   ·subst e2; simp
   ·simp [e1, e2, h4]
theorem sgK_le {L : List UInt8} {k : Nat} (hk : k ≤ L.length) : k ≤ sgK L k ∧ sgK L k ≤ L.length := by
 unfold sgK hitK
 rcases hit_cases [45] L k with ⟨h1, h2, h3⟩ | ⟨c, h1, h2, h3, h4⟩
 ·have h5 : hitB [43] L k = false := by unfold hitB; rw [List.getElem?_eq_none h1]
  rw [h2, h5]
  simp [hk]
 ·split
  ·omega
  ·split <;> omega
theorem hit_lt {S L : List UInt8} {k : Nat} (h : hitB S L k = true) : k < L.length := by
 rcases hit_cases S L k with ⟨h1, h2, h3⟩ | ⟨c, h1, h2, h3, h4⟩
 ·rw [h2] at h; cases h
 ·exact h2
theorem hitK_yes {S L : List UInt8} {k : Nat} (h : hitB S L k = true) : hitK S L k = k + 1 := by unfold hitK; rw [if_pos h]
theorem hitK_no {S L : List UInt8} {k : Nat} (h : hitB S L k = false) : hitK S L k = k := by unfold hitK; rw [h]; rfl
theorem aft_drop (L : List UInt8) (k : Nat) : aft (L.drop k) = L.drop (k + (dfr (L.drop k)).length) := by
 have h : L.drop k = dfr (L.drop k) ++ aft (L.drop k) := (List.takeWhile_append_dropWhile (p := isD) (l := L.drop k)).symm
 have h2 : (L.drop k).drop (dfr (L.drop k)).length = aft (L.drop k) := by
  have h3 : (dfr (L.drop k) ++ aft (L.drop k)).drop (dfr (L.drop k)).length = aft (L.drop k) := List.drop_left
  rw [← h] at h3
  exact h3
 rw [← h2, List.drop_drop]
theorem dfr_fit (L : List UInt8) {k : Nat} (hk : k ≤ L.length) : k + (dfr (L.drop k)).length ≤ L.length := by
 have := dfr_len (L.drop k)
 rw [List.length_drop] at this
 omega
theorem frac_place (L : List UInt8) (k : Nat) : frac (L.drop k) = if hitB [46] L k then (if dfr (L.drop (k + 1)) = [] then none else some (dfr (L.drop (k + 1)), L.drop (k + 1 + (dfr (L.drop (k + 1))).length))) else some ([], L.drop k) := by
 rcases hit_cases [46] L k with ⟨h1, h2, h3⟩ | ⟨c, h1, h2, h3, h4⟩
 ·rw [h2, h3]
  rfl
 ·rw [h3, h4, frac_cons]
  by_cases e : c = 46
  ·subst e
   simp [aft_drop]
  ·simp [e]
theorem expo_place (f : List UInt8 → Nat) (L : List UInt8) (k : Nat) : expo f (L.drop k) = if hitB [101, 69] L k then (if dfr (L.drop (sgK L (k + 1))) = [] then none else some (sg (hitB [45] L (k + 1)) * (f (dfr (L.drop (sgK L (k + 1)))) : Int), L.drop (sgK L (k + 1) + (dfr (L.drop (sgK L (k + 1)))).length))) else some (0, L.drop k) := by
 rcases hit_cases [101, 69] L k with ⟨h1, h2, h3⟩ | ⟨c, h1, h2, h3, h4⟩
 ·rw [h2, h3]
  rfl
 ·rw [h3, h4, expo_cons, sgn_place]
  by_cases e : c = 101 ∨ c = 69
  ·have : [101, 69].contains c = true := by rw [List.contains_iff_mem]; simpa using e
   rw [this, if_pos e]
   simp [aft_drop]
  ·have : [101, 69].contains c = false := by
    rw [Bool.eq_false_iff]
    intro h
    rw [List.contains_iff_mem] at h
    exact e (by simpa using h)
   rw [this, if_neg e]
   simp
structure ScSt (w wx : World) (s : ByteArray) (k : Nat) (b : Bool) (v : Value) (D : List UInt8) (e : Int) : Prop where
 bs_ : Bk wx w.heap.size 9 #[.string s]
 br : Bk wx (w.heap.size + 1) 148 #[.bool false, .slice none 0 0, .int .i64 0]
 bn : Bk wx (w.heap.size + 1 + 1) 148 #[.bool b, v, .int .i64 e]
 ba : Bk wx (w.heap.size + 1 + 1 + 1) 3 #[.int .i64 (k : Int)]
 own : wx.ownsRow w.heap.size 5 1 v D.length (D.map bv)
 bel : Below w.heap.size w wx
theorem ScSt.step {w wx wy : World} {s : ByteArray} {k k' : Nat} {b : Bool} {v : Value} {D : List UInt8} {e : Int} (h : ScSt w wx s k b v D e) (hb : Bk wy (w.heap.size + 1 + 1 + 1) 3 #[.int .i64 (k' : Int)]) (hf : Fr (only (w.heap.size + 1 + 1 + 1)) wx wy) : ScSt w wy s k' b v D e where
 bs_ := h.bs_.fr hf (by show ¬ _ = _; omega)
 br := h.br.fr hf (by show ¬ _ = _; omega)
 bn := h.bn.fr hf (by show ¬ _ = _; omega)
 ba := hb
 own := own_fr h.own hf (fun g hg hn => own_apart h.own h.ba (by decide) (hn ▸ hg))
 bel := h.bel.trans (own_below hf h.bel.size (by omega))
theorem ScSt.num {w wx wy : World} {s : ByteArray} {k : Nat} {b b' : Bool} {v : Value} {D : List UInt8} {e e' : Int} (h : ScSt w wx s k b v D e) (hb : Bk wy (w.heap.size + 1 + 1) 148 #[.bool b', v, .int .i64 e']) (hf : Fr (only (w.heap.size + 1 + 1)) wx wy) : ScSt w wy s k b' v D e' where
 bs_ := h.bs_.fr hf (by show ¬ _ = _; omega)
 br := h.br.fr hf (by show ¬ _ = _; omega)
 bn := hb
 ba := h.ba.fr hf (by show ¬ _ = _; omega)
 own := own_fr h.own hf (fun g hg hn => own_apart h.own h.bn (by decide) (hn ▸ hg))
 bel := h.bel.trans (own_below hf h.bel.size (by omega))
theorem ScSt.neg {w wx : World} {s : ByteArray} {k : Nat} {b : Bool} {v : Value} {D : List UInt8} {e : Int} (h : ScSt w wx s k b v D e) (b' : Bool) : ScSt w (wx.setCell ⟨w.heap.size + 1 + 1, 0, none⟩ (.bool b')) s k b' v D e :=
 h.num (by simpa using h.bn.put 0 (.bool b')) (only_setE (Fr.refl _ _) 0 _)
theorem ScSt.exp {w wx : World} {s : ByteArray} {k : Nat} {b : Bool} {v : Value} {D : List UInt8} {e : Int} (h : ScSt w wx s k b v D e) (e' : Int) : ScSt w (wx.setCell ⟨w.heap.size + 1 + 1, 2, none⟩ (.int .i64 e')) s k b v D e' :=
 h.num (by simpa using h.bn.put 2 (.int .i64 e')) (only_setE (Fr.refl _ _) 2 _)
theorem ScSt.app {w wx wy : World} {s : ByteArray} {k : Nat} {b : Bool} {v v' : Value} {D E : List UInt8} {e : Int} (h : ScSt w wx s k b v D e) (ho : wy.ownsRow w.heap.size 5 1 v' (D ++ E).length ((D ++ E).map bv)) (hg : wx.grownBy wy v.ownBlock) :
  Bk wy (w.heap.size + 1 + 1) 148 #[.bool b, v, .int .i64 e] ∧ ScSt w (wy.setCell ⟨w.heap.size + 1 + 1, 1, none⟩ v') s k b v' (D ++ E) e := by
 have hn := h.bn.grown hg (fun x => own_apart h.own h.bn (by decide) x.symm)
 have hk := hn.put 1 v'
 refine ⟨hn, ?_⟩
 refine ⟨?_, ?_, by simpa using hk, ?_, ?_, ?_⟩
 ·exact (h.bs_.grown hg (fun x => own_apart h.own h.bs_ (by decide) x.symm)).off (p := ⟨w.heap.size + 1 + 1, 1, none⟩) (by simp <;> omega) _
 ·exact (h.br.grown hg (fun x => own_apart h.own h.br (by decide) x.symm)).off (p := ⟨w.heap.size + 1 + 1, 1, none⟩) (by simp <;> omega) _
 ·exact (h.ba.grown hg (fun x => own_apart h.own h.ba (by decide) x.symm)).off (p := ⟨w.heap.size + 1 + 1, 1, none⟩) (by simp <;> omega) _
 ·exact own_off ho (p := ⟨w.heap.size + 1 + 1, 1, none⟩) (own_apart ho hn (by decide)) _
 ·exact (h.bel.grown hg h.bel.size (fun k hk => (h.own.lt k hk).1)).setCell (p := ⟨w.heap.size + 1 + 1, 1, none⟩) (by show _ ≤ _ + 1 + 1; omega) _
theorem ScSt.one {w wx : World} {s : ByteArray} {k : Nat} {b : Bool} {v : Value} {D : List UInt8} {e : Int} (h : ScSt w wx s k b v D e) (S : List UInt8) (hk : k ≤ s.size) (hs : s.size ≤ 64) (hS : S.length ≤ 2) :
  Calls Tryz.prog 142 #[.string (bs S), .pointer (some ⟨w.heap.size + 1 + 1 + 1, 0, none⟩), .pointer (some ⟨w.heap.size, 0, none⟩)] wx fun x w' => x = .returned (.bool (hitB S (toL s) k)) ∧ ScSt w w' s (hitK S (toL s) k) b v D e := by
 refine (one_any h.ba h.bs_ hk hs hS).mono ?_
 rintro x w' ⟨h1, h2, h3, h4⟩
 exact ⟨h1, h.step h2 h4⟩
theorem ScSt.dig {w wx : World} {s : ByteArray} {k : Nat} {b : Bool} {v : Value} {D : List UInt8} {e : Int} (h : ScSt w wx s k b v D e) (hk : k ≤ s.size) (hs : s.size ≤ 64) :
  Calls Tryz.prog 143 #[.pointer (some ⟨w.heap.size + 1 + 1 + 1, 0, none⟩), .pointer (some ⟨w.heap.size, 0, none⟩)] wx fun x w' => x = .returned (.string (bs (dfr ((toL s).drop k)))) ∧ ScSt w w' s (k + (dfr ((toL s).drop k)).length) b v D e := by
 refine (dig_any h.ba h.bs_ hk hs).mono ?_
 rintro x w' ⟨h1, h2, h3, h4⟩
 exact ⟨h1, h.step h2 h4⟩
theorem strCells_bv (L : List UInt8) : Lib.strCells (bs L) = L.map bv := by
 unfold Lib.strCells bs bv
 simp
def PRes (w w' : World) (o : Option Num) (x : Ending) : Prop := ∃ v b, x = .returned (.tuple #[v, .bool b]) ∧ Below w.heap.size w w' ∧ (∃ b0 A l c e, v = .agg #[.bool b0, .slice A l c, .int .i64 e]) ∧ (match o with
 | none => b = false
 | some n => b = true ∧ NV w' v n ∧ Sz n)
end Go.Proofs.YtjfcemlbbinanaaGreatDoor
/-
  The walks over decimal numbers: the scan of a text.
-/
namespace Go.Proofs.YtjfcemlbbinanaaGreatDoor
open Go.RowKit Go.Proofs Wv Wv.Dc
set_option linter.unusedVariables false

theorem sc_start (w : World) (s : ByteArray) :
  ScSt w ((((w.alloc (.cells #[.string s] 9)).alloc (.cells #[.bool false, .slice none 0 0, .int .i64 0] 148)).alloc (.cells #[.bool false, .slice none 0 0, .int .i64 0] 148)).alloc (.cells #[.int .i64 0] 3)) s 0 false (.slice none 0 0) [] 0 where
 bs_ := ((Bk.new w _ _).alloc _).alloc _ |>.alloc _
 br := by
  have := Bk.new (w.alloc (.cells #[.string s] 9)) 148 #[.bool false, .slice none 0 0, .int .i64 0]
  rw [World.size_alloc] at this
  exact (this.alloc _).alloc _
 bn := by
  have := Bk.new ((w.alloc (.cells #[.string s] 9)).alloc (.cells #[.bool false, .slice none 0 0, .int .i64 0] 148)) 148 #[.bool false, .slice none 0 0, .int .i64 0]
  rw [World.size_alloc, World.size_alloc] at this
  exact this.alloc _
 ba := by
  have := Bk.new (((w.alloc (.cells #[.string s] 9)).alloc (.cells #[.bool false, .slice none 0 0, .int .i64 0] 148)).alloc (.cells #[.bool false, .slice none 0 0, .int .i64 0] 148)) 3 #[.int .i64 0]
  rw [World.size_alloc, World.size_alloc, World.size_alloc] at this
  exact this
 own := own_nil
 bel := (((Below.refl w.heap.size w).alloc (Nat.le_refl _) _).alloc (by simp) _ |>.alloc (by simp <;> omega) _).alloc (by simp <;> omega) _
theorem scn_at (f : List UInt8 → Nat) {L : List UInt8} (h : L.length ≤ 64) : scn f L = if dfr (L.drop (sgK L 0)) = [] then none else
  match frac (L.drop (sgK L 0 + (dfr (L.drop (sgK L 0))).length)) with
  | none => none
  | some x => match expo f x.2 with
   | none => none
   | some y => if y.2 = [] then some ⟨hitB [45] L 0, dfr (L.drop (sgK L 0)) ++ x.1, y.1 - x.1.length⟩ else none := by
 have h0 := sgn_place L 0
 rw [List.drop_zero] at h0
 unfold scn
 rw [if_neg (by omega), h0]
 simp only [aft_drop]
 rfl
theorem sc_end {w w1 : World} {s : ByteArray} {k : Nat} {b : Bool} {v : Value} {D : List UInt8} {e : Int} (h : ScSt w w1 s k b v D e) :
  ∃ W, (((w1.setCell ⟨w.heap.size + 1, 0, none⟩ (.bool b)).setCell ⟨w.heap.size + 1, 1, none⟩ v).setCell ⟨w.heap.size + 1, 2, none⟩ (.int .i64 e)) = W ∧ W.cell? ⟨w.heap.size + 1, 0, none⟩ = some (.bool b) ∧ W.cell? ⟨w.heap.size + 1, 1, none⟩ = some v ∧ W.cell? ⟨w.heap.size + 1, 2, none⟩ = some (.int .i64 e) ∧ Below w.heap.size w W := by
 obtain ⟨W, h1, h2, h3, h4, _, h5⟩ := nres_end h.br h.bel (by omega) (L := []) (At.nil w1 none) b v e
 exact ⟨W, h1, h2, h3, h4, h5⟩
theorem sc_app {w w1 : World} {s : ByteArray} {k : Nat} {b : Bool} {v : Value} {D : List UInt8} {e : Int} (h : ScSt w w1 s k b v D e) (E : List UInt8) (hl : D.length + E.length ≤ 1000) :
  ∃ v' w', (Builtin.append_ #[74, 9] 74 #[v, .string (bs E)]).run Tryz.prog w1 = .ok v' w' ∧ Bk w' (w.heap.size + 1 + 1) 148 #[.bool b, v, .int .i64 e] ∧ ScSt w (w'.setCell ⟨w.heap.size + 1 + 1, 1, none⟩ v') s k b v' (D ++ E) e := by
 obtain ⟨i, hi, hz, hs, hby⟩ := info_parts u8infE
 obtain ⟨v', w', hr, ho, hg, _⟩ := Lib.run_append_own_string (P := Tryz.prog) (w := w1) w.heap.size 74 9 74 5 i Tryz.underlying74 Tryz.underlying9 hi hz hs hby v D.length (D.map bv) h.own (bs E) (by rw [bs_size]; unfold maxLen; omega) (by rw [bs_size]; omega) h.bel.size
 rw [strCells_bv, ← List.map_append, bs_size, ← List.length_append] at ho
 obtain ⟨h1, h2⟩ := h.app ho hg
 exact ⟨v', w', hr, h1, h2⟩
theorem wpList_runS {P : Program} {ops : Array Oper} {rest : List Oper} {o : Oper} {a : Act} {w w0 w' : World} {Q : Exit → Act → World → Prop} {v' : Value} (hw : w = w0) (hgd : o.guard = none) (s x : Operand) (t t2 : TypeId)
  (ho : o.op = .call { callee := .builtin .append, args := #[s, x], argTypes := #[t, t2] }) (v u : Value) (hs : a.eval s = v) (hx : a.eval x = u)
  (hr : (Builtin.append_ #[t, t2] o.type #[v, u]).run P w0 = .ok v' w') (h : wpList P ops Q rest (a.put o.dst v') w') : wpList P ops Q (o :: rest) a w := by
 subst hw
 refine wpList_plain hgd fun K hK => ?_
 unfold Oper.wp execOp
 simp only [ho, resolve, invoke, builtin, Sem.run_bind, Sem.run_pure, Result.andThen_ok, List.map_toArray, List.map_cons, List.map_nil, hs, hx, hr]
 exact hK _ _ h
theorem cl1_snoc (p : List UInt8) (i : Nat) (h : i < p.length) : cl1 (p.take (i + 1)) = min 1048576 (10 * cl1 (p.take i) + dv p[i]) := by
 unfold cl1
 rw [List.take_succ_eq_append_getElem h, List.foldl_append]
 rfl
theorem cl1_le (p : List UInt8) : cl1 p ≤ 1048576 := by rw [cl1_eq]; exact Nat.min_le_left _ _
theorem dig_dv {c : UInt8} (h : isD c = true) : 48 ≤ c.toNat ∧ c.toNat ≤ 57 ∧ dv c = c.toNat - 48 := by
 unfold isD at h
 simp at h
 exact ⟨h.1, h.2, rfl⟩
theorem sz_trim {n : Num} (h1 : -1500000 ≤ n.ex) (h2 : n.ex ≤ 1500000) (h3 : n.dg.length ≤ 1000) : Sz n ∧ Sz (trimN n) := by
 refine ⟨⟨by omega, by omega, by omega⟩, ?_⟩
 have a1 := trimL_len n.dg
 have a2 := trimR_len (trimL n.dg)
 unfold trimN
 split
 ·exact ⟨by simp [zeroN], by simp [zeroN], by simp [zeroN]⟩
 ·exact ⟨by simp only; omega, by simp only; omega, by simp only; omega⟩
theorem expo_in {L : List UInt8} {k : Nat} {E : Int} {r : List UInt8} (h : expo cl1 (L.drop k) = some (E, r)) : -1048576 ≤ E ∧ E ≤ 1048576 := by
 rw [expo_place] at h
 have := cl1_le (dfr (L.drop (sgK L (k + 1))))
 generalize cl1 (dfr (L.drop (sgK L (k + 1)))) = c at *
 split at h
 ·split at h
  ·cases h
  ·injection h with h
   injection h with h _
   rw [← h]
   unfold sg
   split <;> omega
 ·injection h with h
  injection h with h _
  rw [← h]
  omega
theorem ScSt.keep {w wx wy : World} {s : ByteArray} {k : Nat} {b : Bool} {v : Value} {D : List UInt8} {e : Int} (h : ScSt w wx s k b v D e) (hb : Below wx.heap.size wx wy) : ScSt w wy s k b v D e where
 bs_ := h.bs_.below hb h.bs_.lt
 br := h.br.below hb h.br.lt
 bn := h.bn.below hb h.bn.lt
 ba := h.ba.below hb h.ba.lt
 own := own_fr h.own (Fr.of_below (S := nob) hb) (fun _ _ f => f)
 bel := h.bel.trans (hb.mono h.bel.size)
theorem bytes_of (D : List UInt8) (w : World) : ∃ cap W, (convert 9 74 (.string (bs D))).run Tryz.prog w = .ok (.slice (some ⟨w.heap.size, 0, none⟩) (bs D).size cap) W ∧ At W (some ⟨w.heap.size, 0, none⟩) (D.map bv) ∧ Below w.heap.size w W := by
 have h := run_bytes_of_string (P := Tryz.prog) w 9 74 5 (bs D) Tryz.underlying9 Tryz.underlying74 Tryz.underlying5
 refine ⟨_, _, h, ?_, ((Below.refl w.heap.size w).drew).alloc (Nat.le_refl _) _⟩
 intro i hi
 rw [List.length_map] at hi
 refine ⟨w.heap.size, 0, rfl, by rw [World.size_alloc]; exact Nat.lt_succ_self _, ?_⟩
 rw [Nat.zero_add]
 show (w.drew.alloc _).cell? ⟨w.drew.heap.size, i, none⟩ = _
 rw [World.cell?_alloc_mark, bytesRow_at _ _ i hi]
 simp [bv, bs]
theorem own_caps {w : World} {base e n : Nat} {v : Value} {xs : List Value} (h : w.ownsRow base e 1 v n xs) : ∃ A cap, v = .slice A n cap ∧ At w A xs ∧ n ≤ cap ∧ cap ≤ maxLen := by
 have h2 := h
 obtain ⟨A, cap, hv, hat⟩ := own_at h
 refine ⟨A, cap, hv, hat, ?_⟩
 rcases h2.2 with ⟨h3, h4⟩ | ⟨g, cap', cur, h3, _, _, h5, h6, _⟩
 ·rw [hv] at h3
  injection h3 with h3 h5 h6
  subst h6
  subst h4
  exact ⟨Nat.le_refl _, Nat.zero_le _⟩
 ·rw [hv] at h3
  injection h3 with h3 h7 h8
  subst h8
  exact ⟨h5, h6⟩
def ScC (w : World) (s : ByteArray) (k : Nat) (b : Bool) (v : Value) (F : Int) (W : World) : Prop :=
 W.cell? ⟨w.heap.size + 1 + 1, 0, none⟩ = some (.bool b) ∧ W.cell? ⟨w.heap.size + 1 + 1, 1, none⟩ = some v ∧ W.cell? ⟨w.heap.size + 1 + 1, 2, none⟩ = some (.int .i64 F) ∧ W.cell? ⟨w.heap.size + 1 + 1 + 1, 0, none⟩ = some (.int .i64 (k : Int)) ∧ W.cell? ⟨w.heap.size, 0, none⟩ = some (.string s)
theorem keep_cell {W W' : World} {p : Addr} {v : Value} (h : W.cell? p = some v) (hb : Below W.heap.size W W') : W'.cell? p = some v := (hb.cell (World.block_lt_of_cell? W p h)).trans h
theorem ScC.below {w : World} {s : ByteArray} {k : Nat} {b : Bool} {v : Value} {F : Int} {W W' : World} (h : ScC w s k b v F W) (hb : Below W.heap.size W W') : ScC w s k b v F W' :=
 ⟨keep_cell h.1 hb, keep_cell h.2.1 hb, keep_cell h.2.2.1 hb, keep_cell h.2.2.2.1 hb, keep_cell h.2.2.2.2 hb⟩
theorem put_cell {W : World} {g i : Nat} {p : Addr} {v u : Value} (h : W.cell? p = some v) (hn : g ≠ p.block) : (W.setCell ⟨g, i, none⟩ u).cell? p = some v := by
 have hf := ((Fr.refl (only g) W).setCell (p := ⟨g, i, none⟩) (.inl rfl) u).cell (p := p) (World.block_lt_of_cell? W p h) (fun e => hn e.symm)
 exact hf.trans h
theorem ScC.put3 {w : World} {s : ByteArray} {k : Nat} {b : Bool} {v : Value} {F : Int} {W : World} (h : ScC w s k b v F W) (x y z : Value) : ScC w s k b v F (((W.setCell ⟨w.heap.size + 1, 0, none⟩ x).setCell ⟨w.heap.size + 1, 1, none⟩ y).setCell ⟨w.heap.size + 1, 2, none⟩ z) := by
 have go : ∀ {W : World} (i : Nat) (u : Value), ScC w s k b v F W → ScC w s k b v F (W.setCell ⟨w.heap.size + 1, i, none⟩ u) := fun i u h =>
  ⟨put_cell h.1 (by simp), put_cell h.2.1 (by simp), put_cell h.2.2.1 (by simp), put_cell h.2.2.2.1 (by simp <;> omega), put_cell h.2.2.2.2 (by simp)⟩
 exact go 2 z (go 1 y (go 0 x h))
end Go.Proofs.YtjfcemlbbinanaaGreatDoor
/-
  The walks over decimal numbers: the scan of a text, its walk.
-/
namespace Go.Proofs.YtjfcemlbbinanaaGreatDoor
open Go.RowKit Go.Proofs Wv Wv.Dc
set_option linter.unusedVariables false

set_option maxRecDepth 100000 in
set_option maxHeartbeats 4000000 in
theorem pscan_any (s : ByteArray) (w : World) :
    Calls Tryz.prog 115 #[.string s] w fun x w' => PRes w w' ((scn cl1 (toL s)).map trimN) x := by
  by_cases hs : s.size ≤ 64
  · obtain ⟨R, hR⟩ : ∃ R, (scn cl1 (toL s)).map trimN = R := ⟨_, rfl⟩
    rw [hR]
    have hLs : (toL s).length ≤ 64 := by rw [toL_length]; exact hs
    have hLz : (toL s).length = s.size := toL_length s
    rw [scn_at cl1 hLs] at hR
    have hk := sgK_le (L := toL s) (k := 0) (Nat.zero_le _)
    obtain ⟨b, hb⟩ : ∃ b, hitB [45] (toL s) 0 = b := ⟨_, rfl⟩
    obtain ⟨k1, hk1⟩ : ∃ k1, sgK (toL s) 0 = k1 := ⟨_, rfl⟩
    have hsk : sgK (toL s) 0 = if hitB [45] (toL s) 0 then 0 + 1 else hitK [43] (toL s) 0 := rfl
    rw [hb, hk1] at hR hsk
    rw [hk1, hLz] at hk
    have hk1s : k1 ≤ s.size := hk.2
    have Hb := hide hb
    have Hsk := hide hsk
    have HR := hide hR
    have Hst := hide (sc_start w s)
    have Hz : 0 ≤ s.size := Nat.zero_le _
    clear hb hk1 hsk hR hk hLs hLz
    go_enter Tryz.func115, Tryz.ntmps115
    go_upto_if 22 with (go_at_call 142; refine ((ScSt.one Hst.out [45] Hz hs (by simp)).mono ?_); rintro x w1 ⟨rfl, h1⟩)
    rw [Hb.out]
    go_cut [] (fun wx => ScSt w wx s k1 b (.slice none 0 0) [] 0)
    case first =>
      cases b
      · have e0 : hitK [45] (toL s) 0 = 0 := hitK_no Hb.out
        rw [e0] at h1
        have e1 : k1 = hitK [43] (toL s) 0 := Hsk.out
        have H1 := hide h1
        clear h1
        go_wp2_with (go_at_call 142; refine ((ScSt.one H1.out [43] Hz hs (by simp)).mono ?_); rintro x w2 ⟨rfl, h2⟩)
        rw [← e1] at h2
        have H2 := hide h2
        clear h2
        go_meet
        case rel => exact H2.out
      · have e0 : hitK [45] (toL s) 0 = 0 + 1 := hitK_yes Hb.out
        have e1 : k1 = 0 + 1 := Hsk.out
        rw [e0, ← e1] at h1
        have n0 := h1.bn.cell 0
        have n1 := h1.bn.frozen 0
        have h3 := h1.neg true
        simp at n0
        have H3 := hide h3
        clear h1 h3
        go_wp2
        go_meet
        case rel => exact H3.out
    case rest =>
      have H1 := hide hcut
      clear hcut h1 Hsk
      obtain ⟨D, hD⟩ : ∃ D, dfr ((toL s).drop k1) = D := ⟨_, rfl⟩
      obtain ⟨k2, hk2⟩ : ∃ k2, k1 + D.length = k2 := ⟨_, rfl⟩
      have hfit := dfr_fit (toL s) (k := k1) (by rw [toL_length]; exact hk1s)
      rw [hD, toL_length, hk2] at hfit
      have hk2s : k2 ≤ s.size := hfit
      have hDl : D.length ≤ 64 := by omega
      have hR := HR.out
      rw [hD, hk2] at hR
      have Hdig : Hid (∀ (wx : World) (b' : Bool) (v : Value) (E : List UInt8) (e : Int), ScSt w wx s k1 b' v E e → Calls Tryz.prog 143 #[.pointer (some ⟨w.heap.size + 1 + 1 + 1, 0, none⟩), .pointer (some ⟨w.heap.size, 0, none⟩)] wx fun x w' => x = .returned (.string (bs D)) ∧ ScSt w w' s k2 b' v E e) := hide (fun wx b' v E e h => by
        have := h.dig hk1s hs
        rw [hD, hk2] at this
        exact this)
      clear hD hk2 hfit HR
      go_upto_if 29 with (go_at_call 143; refine ((Hdig.out _ _ _ _ _ H1.out).mono ?_); rintro x w2 ⟨rfl, h2⟩)
      clear Hdig H1 Hst
      by_cases hD0 : D = []
      · rw [if_pos hD0] at hR
        have Hnone : Hid ((none : Option Num) = R) := hide hR
        have hem : (bs D).toList.isEmpty = true := empA1 (by rw [bs_size, hD0]; rfl)
        obtain ⟨WF, hWF, u0, u1, u2, hbF⟩ := sc_end h2
        have n0 := h2.bn.cell 0
        have n1 := h2.bn.cell 1
        have n2 := h2.bn.cell 2
        have r0 := h2.br.cell 0
        have r1 := h2.br.cell 1
        have r2 := h2.br.cell 2
        have g0 := h2.br.frozen 0
        have g1 := h2.br.frozen 1
        have g2 := h2.br.frozen 2
        simp at n0 n1 n2 r0 r1 r2
        have HWF := hide hWF
        have HbF := hide hbF
        rw [hem]
        clear hR hD0 hWF hbF hem h2
        go_wp2
        rw [HWF.out]
        refine bodyPost_ret (by simp [results, Tryz.results115, go_sem, u0, u1, u2]; try rfl) rfl ?_
        rw [← Hnone.out]
        exact ⟨_, _, rfl, HbF.out, ⟨_, _, _, _, _, rfl⟩, rfl⟩
      · rw [if_neg hD0] at hR
        have HR := hide hR
        have hem : (bs D).toList.isEmpty = false := empA0 (by rw [bs_size]; exact List.length_pos_iff.2 hD0)
        obtain ⟨v3, w3, hr3, hk3, h3⟩ := sc_app h2 D (by simp; omega)
        obtain ⟨A3, M3, c3, rfl⟩ := own_slice h3.own
        rw [List.nil_append] at h3
        have n1 := h2.bn.cell 1
        have m1 := hk3.cell 1
        have f1 := hk3.frozen 1
        simp at n1 m1
        have H3 := hide h3
        have Hr3 := hide hr3
        rw [hem]
        clear hR hD0 h2 h3 hr3 hk3 hem
        generalize bs D = SD at *
        go_upto_if 37 with (first
          | (at_builtin; refine wpList_runS (by with_reducible rfl) rfl _ _ _ _ rfl _ _ (by rfl) (by rfl) Hr3.out ?_)
          | (go_at_call 142; refine ((ScSt.one H3.out [46] hk2s hs (by simp)).mono ?_); rintro x w4 ⟨rfl, h4⟩))
        clear n1 m1 f1 Hr3 H3
        go_cut [] (fun wx => ∃ v P k3, k3 ≤ s.size ∧ P.length ≤ 64 ∧ Hid (frac ((toL s).drop k2) = some (P, (toL s).drop k3)) ∧ ScSt w wx s k3 b v (D ++ P) (-(P.length : Int)))
        case first =>
          have hfp := frac_place (toL s) k2
          by_cases hdot : hitB [46] (toL s) k2 = true
          · rw [if_pos hdot] at hfp
            rw [hitK_yes hdot] at h4
            have hk4s : k2 + 1 ≤ s.size := by have := hit_lt hdot; rw [toL_length] at this; exact this
            obtain ⟨P, hP⟩ : ∃ P, dfr ((toL s).drop (k2 + 1)) = P := ⟨_, rfl⟩
            obtain ⟨k3, hk3⟩ : ∃ k3, k2 + 1 + P.length = k3 := ⟨_, rfl⟩
            have hfit := dfr_fit (toL s) (k := k2 + 1) (by rw [toL_length]; exact hk4s)
            rw [hP, toL_length, hk3] at hfit
            have hPl : P.length ≤ 64 := by omega
            rw [hP, hk3] at hfp
            have Hdig : Hid (∀ (wx : World) (b' : Bool) (v : Value) (E : List UInt8) (e : Int), ScSt w wx s (k2 + 1) b' v E e → Calls Tryz.prog 143 #[.pointer (some ⟨w.heap.size + 1 + 1 + 1, 0, none⟩), .pointer (some ⟨w.heap.size, 0, none⟩)] wx fun x w' => x = .returned (.string (bs P)) ∧ ScSt w w' s k3 b' v E e) := hide (fun wx b' v E e h => by
              have := h.dig hk4s hs
              rw [hP, hk3] at this
              exact this)
            have H4 := hide h4
            rw [hdot]
            clear hP hk3 h4 hdot
            by_cases hP0 : P = []
            · rw [if_pos hP0] at hfp
              have hR := HR.out
              rw [hfp] at hR
              have Hnone : Hid ((none : Option Num) = R) := hide hR
              have hem : (bs P).toList.isEmpty = true := empA1 (by rw [bs_size, hP0]; rfl)
              clear hR hfp hP0 HR
              go_upto_region 17 with (go_at_call 143; refine ((Hdig.out _ _ _ _ _ H4.out).mono ?_); rintro x w5 ⟨rfl, h5⟩)
              obtain ⟨WF, hWF, u0, u1, u2, hbF⟩ := sc_end h5
              have n0 := h5.bn.cell 0
              have n1 := h5.bn.cell 1
              have n2 := h5.bn.cell 2
              have r0 := h5.br.cell 0
              have r1 := h5.br.cell 1
              have r2 := h5.br.cell 2
              have g0 := h5.br.frozen 0
              have g1 := h5.br.frozen 1
              have g2 := h5.br.frozen 2
              simp at n0 n1 n2 r0 r1 r2
              have HWF := hide hWF
              have HbF := hide hbF
              clear hWF hbF h5 Hdig H4
              go_wp2
              rw [HWF.out]
              refine bodyPost_ret (by simp [results, Tryz.results115, go_sem, u0, u1, u2]; try rfl) rfl ?_
              rw [← Hnone.out]
              exact ⟨_, _, rfl, HbF.out, ⟨_, _, _, _, _, rfl⟩, rfl⟩
            · rw [if_neg hP0] at hfp
              have Hfp := hide hfp
              have hem : (bs P).toList.isEmpty = false := empA0 (by rw [bs_size]; exact List.length_pos_iff.2 hP0)
              clear hfp hP0
              go_upto_region 18 with (go_at_call 143; refine ((Hdig.out _ _ _ _ _ H4.out).mono ?_); rintro x w5 ⟨rfl, h5⟩)
              obtain ⟨v6, w6, hr6, hk6, h6⟩ := sc_app h5 P (by omega)
              obtain ⟨A6, M6, c6, rfl⟩ := own_slice h6.own
              have n1 := h5.bn.cell 1
              have m1 := hk6.cell 1
              have f1 := hk6.frozen 1
              have p2 := h6.bn.cell 2
              have q2 := h6.bn.frozen 2
              simp at n1 m1 p2
              have h7 := h6.exp (-((bs P).size : Int))
              have H7 := hide h7
              have Hr6 := hide hr6
              have hPz : (bs P).size ≤ 64 := hPl
              clear h5 hr6 hk6 h6 h7 Hdig H4
              go_wp2_with (at_builtin; refine wpList_runS (by with_reducible rfl) rfl _ _ _ _ rfl _ _ (by rfl) (by rfl) Hr6.out ?_)
              go_meet
              case rel => exact ⟨_, P, k3, hfit, hPl, Hfp, H7.out⟩
          · rw [if_neg hdot] at hfp
            have hdf : hitB [46] (toL s) k2 = false := by simpa using hdot
            rw [hitK_no hdf] at h4
            have Hfp := hide hfp
            have H4 := hide h4
            rw [hdf]
            clear hfp hdot hdf h4
            go_wp2
            go_meet
            case rel => exact ⟨_, [], k2, hk2s, by simp, Hfp, by simpa using H4.out⟩
        case rest =>
          obtain ⟨v5, P, k3, hk3s, hPl, hfr, hst⟩ := hcut
          obtain ⟨A5, M5, c5, rfl⟩ := own_slice hst.own
          have hR := HR.out
          rw [hfr.out] at hR
          simp only at hR
          have HR3 := hide hR
          have H5 := hide hst
          clear hR HR hst hfr h4
          go_upto_if 53 with (go_at_call 142; refine ((ScSt.one H5.out [101, 69] hk3s hs (by simp)).mono ?_); rintro x w6 ⟨rfl, h6⟩)
          go_cut [] (fun wx => ∃ E k4, k4 ≤ s.size ∧ Hid (expo cl1 ((toL s).drop k3) = some (E, (toL s).drop k4)) ∧ ScSt w wx s k4 b (.slice A5 M5 c5) (D ++ P) (E - (P.length : Int)))
          case first =>
            have hxp := expo_place cl1 (toL s) k3
            by_cases hE : hitB [101, 69] (toL s) k3 = true
            · rw [if_pos hE] at hxp
              rw [hitK_yes hE] at h6
              have hk6s : k3 + 1 ≤ s.size := by have := hit_lt hE; rw [toL_length] at this; exact this
              have hk5s := (sgK_le (L := toL s) (k := k3 + 1) (by rw [toL_length]; exact hk6s)).2
              have hsk : sgK (toL s) (k3 + 1) = if hitB [45] (toL s) (k3 + 1) then k3 + 1 + 1 else hitK [43] (toL s) (k3 + 1) := rfl
              obtain ⟨bn, hbn⟩ : ∃ bn, hitB [45] (toL s) (k3 + 1) = bn := ⟨_, rfl⟩
              obtain ⟨k5, hk5⟩ : ∃ k5, sgK (toL s) (k3 + 1) = k5 := ⟨_, rfl⟩
              rw [hbn, hk5] at hxp hsk
              rw [hk5, toL_length] at hk5s
              obtain ⟨D3, hD3⟩ : ∃ D3, dfr ((toL s).drop k5) = D3 := ⟨_, rfl⟩
              obtain ⟨k7, hk7⟩ : ∃ k7, k5 + D3.length = k7 := ⟨_, rfl⟩
              have hfit := dfr_fit (toL s) (k := k5) (by rw [toL_length]; exact hk5s)
              rw [hD3, toL_length, hk7] at hfit
              have hDl3 : D3.length ≤ 64 := by omega
              rw [hD3, hk7] at hxp
              have Hall : Hid (AllD D3) := hide (hD3 ▸ dfr_all _)
              have Hdig : Hid (∀ (wx : World) (b' : Bool) (v : Value) (E : List UInt8) (e : Int), ScSt w wx s k5 b' v E e → Calls Tryz.prog 143 #[.pointer (some ⟨w.heap.size + 1 + 1 + 1, 0, none⟩), .pointer (some ⟨w.heap.size, 0, none⟩)] wx fun x w' => x = .returned (.string (bs D3)) ∧ ScSt w w' s k7 b' v E e) := hide (fun wx b' v E e h => by
                have := h.dig hk5s hs
                rw [hD3, hk7] at this
                exact this)
              have Hbn := hide hbn
              have Hsk := hide hsk
              have H6 := hide h6
              have Hxp := hide hxp
              rw [hE]
              clear hxp hE h6 hbn hk5 hsk hD3 hk7
              go_upto_if 57 with (go_at_call 142; refine ((ScSt.one H6.out [45] hk6s hs (by simp)).mono ?_); rintro x w7 ⟨rfl, h7⟩)
              rw [Hbn.out]
              go_cut [10] (fun s10 wx => s10 = .bool bn ∧ ScSt w wx s k5 b (.slice A5 M5 c5) (D ++ P) (-(P.length : Int)))
              case first =>
                cases bn
                · have e0 : hitK [45] (toL s) (k3 + 1) = k3 + 1 := hitK_no Hbn.out
                  rw [e0] at h7
                  have e1 : k5 = hitK [43] (toL s) (k3 + 1) := Hsk.out
                  have H7 := hide h7
                  clear h7 e0
                  go_wp2_with (go_at_call 142; refine ((ScSt.one H7.out [43] hk6s hs (by simp)).mono ?_); rintro x w8 ⟨rfl, h8⟩)
                  rw [← e1] at h8
                  have H8 := hide h8
                  clear h8
                  go_meet
                  case rel => exact ⟨rfl, H8.out⟩
                · have e0 : hitK [45] (toL s) (k3 + 1) = k3 + 1 + 1 := hitK_yes Hbn.out
                  have e1 : k5 = k3 + 1 + 1 := Hsk.out
                  rw [e0, ← e1] at h7
                  have H7 := hide h7
                  clear h7 e0
                  go_wp2
                  go_meet
                  case rel => exact ⟨rfl, H7.out⟩
              case rest =>
                obtain ⟨rfl, hst⟩ := hcut
                have H8 := hide hst
                clear hst h7 H6 H5 Hsk Hbn
                by_cases hD0 : D3 = []
                · have hR := HR3.out
                  have hxp := Hxp.out
                  rw [if_pos hD0] at hxp
                  rw [hxp] at hR
                  have Hnone : Hid ((none : Option Num) = R) := hide hR
                  have hem : (bs D3).toList.isEmpty = true := empA1 (by rw [bs_size, hD0]; rfl)
                  clear hR hxp HR3 Hxp hD0 Hall
                  go_upto_region 26 with (go_at_call 143; refine ((Hdig.out _ _ _ _ _ H8.out).mono ?_); rintro x w9 ⟨rfl, h9⟩)
                  obtain ⟨WF, hWF, u0, u1, u2, hbF⟩ := sc_end h9
                  have n0 := h9.bn.cell 0
                  have n1 := h9.bn.cell 1
                  have n2 := h9.bn.cell 2
                  have r0 := h9.br.cell 0
                  have r1 := h9.br.cell 1
                  have r2 := h9.br.cell 2
                  have g0 := h9.br.frozen 0
                  have g1 := h9.br.frozen 1
                  have g2 := h9.br.frozen 2
                  simp at n0 n1 n2 r0 r1 r2
                  have HWF := hide hWF
                  have HbF := hide hbF
                  clear hWF hbF h9 Hdig H8
                  go_wp2
                  rw [HWF.out]
                  refine bodyPost_ret (by simp [results, Tryz.results115, go_sem, u0, u1, u2]; try rfl) rfl ?_
                  rw [← Hnone.out]
                  exact ⟨_, _, rfl, HbF.out, ⟨_, _, _, _, _, rfl⟩, rfl⟩
                · have hxp := Hxp.out
                  rw [if_neg hD0] at hxp
                  have Hxp2 := hide hxp
                  have hem : (bs D3).toList.isEmpty = false := empA0 (by rw [bs_size]; exact List.length_pos_iff.2 hD0)
                  clear hxp Hxp HR3 hD0
                  go_upto_region 28 with (go_at_call 143; refine ((Hdig.out _ _ _ _ _ H8.out).mono ?_); rintro x w9 ⟨rfl, h9⟩)
                  obtain ⟨cp, W8, hcv, hat, hbel⟩ := bytes_of D3 w9
                  have h10 := h9.keep hbel
                  obtain ⟨N3, hN3⟩ : ∃ N, D3.length = N := ⟨_, rfl⟩
                  have hN4 : (bs D3).size = N3 := hN3
                  have hcell : ∀ i (h : i < N3), ∃ X : Nat, W8.cell? ⟨w9.heap.size, i, none⟩ = some (.int .u8 (X : Int)) ∧ 48 ≤ X ∧ X ≤ 57 ∧ cl1 (D3.take (i + 1)) = min 1048576 (10 * cl1 (D3.take i) + (X - 48)) := by
                    intro i hi
                    obtain ⟨b', o', hA, hb', hc⟩ := hat i (by rw [List.length_map]; omega)
                    injection hA with hA
                    injection hA with hA1 hA2
                    subst hA1; subst hA2
                    rw [Nat.zero_add, List.getElem_map] at hc
                    obtain ⟨q1, q2, q3⟩ := dig_dv (Hall.out D3[i] (List.getElem_mem _))
                    exact ⟨_, hc, q1, q2, by rw [cl1_snoc D3 i (by omega), q3]⟩
                  have n2 := h10.bn.cell 2
                  have f2 := h10.bn.frozen 2
                  simp at n2
                  have Hcell := hide hcell
                  have H10 := hide h10
                  have HN := hide hN3
                  rw [hN4] at hcv
                  clear hat hbel h9 h10 hcell Hdig H8 hN3 hN4 Hall
                  have hN64 : N3 ≤ 64 := by have := HN.out; omega
                  go_upto_region 29 with fail
                  go_loopw [12, 68] (fun s12 s68 wr => ∃ i : Nat, i ≤ N3 ∧ s12 = .int .i64 ((cl1 (D3.take i) : Nat) : Int) ∧ s68 = .int .i64 (i : Int) ∧ wr = W8) (fun _ s68 _ => (N3 - intOf s68).toNat)
                  case atStart => exact ⟨0, Nat.zero_le _, rfl, rfl, rfl⟩
                  case round =>
                    obtain ⟨i, hi, rfl, rfl, rfl⟩ := hrel
                    obtain ⟨c, hc⟩ : ∃ c, cl1 (D3.take i) = c := ⟨_, rfl⟩
                    have hcl := cl1_le (D3.take i)
                    rw [hc] at hcl
                    by_cases hlt : i < N3
                    · obtain ⟨X, hX, q1, q2, q3⟩ := Hcell.out i hlt
                      rw [hc] at q3
                      have Q3 := hide q3
                      rw [hc]
                      clear q3 hc n2 f2 Hcell
                      go_wp2
                      refine ⟨⟨i + 1, hlt, ?_, by go_num, by first | trivial | rfl⟩, ?_⟩
                      · rw [Q3.out]
                        first
                          | (congr 1; omega)
                          | rfl
                      · simp [intOf] <;> omega
                    · have hiN : i = N3 := by omega
                      have htk : D3.take i = D3 := List.take_of_length_le (by have := HN.out; omega)
                      rw [htk] at hc
                      have hxp := Hxp2.out
                      rw [hc] at hxp
                      have Hxp3 := hide hxp
                      have hex : Hid (∀ e', ScSt w (wr.setCell ⟨w.heap.size + 1 + 1, 2, none⟩ (.int .i64 e')) s k7 b (.slice A5 M5 c5) (D ++ P) e') := hide (fun e' => H10.out.exp e')
                      rw [htk, hc]
                      subst hiN
                      clear htk hc hxp Hxp2 Hcell HN
                      cases bn
                      · go_wp2
                        go_meet
                        case rel => exact ⟨_, k7, hfit, Hxp3, by
                          have := hex.out (-(P.length : Int) + (c : Int))
                          rw [show sg false * (c : Int) - (P.length : Int) = -(P.length : Int) + (c : Int) by unfold sg; simp; omega]
                          exact this⟩
                      · go_wp2
                        go_meet
                        case rel => exact ⟨_, k7, hfit, Hxp3, by
                          have := hex.out (-(P.length : Int) + -(c : Int))
                          rw [show sg true * (c : Int) - (P.length : Int) = -(P.length : Int) + -(c : Int) by unfold sg; simp; omega]
                          exact this⟩
            · rw [if_neg hE] at hxp
              have hEf : hitB [101, 69] (toL s) k3 = false := by simpa using hE
              rw [hitK_no hEf] at h6
              have Hxp := hide hxp
              have H6 := hide h6
              rw [hEf]
              clear hxp hE hEf h6 H5
              go_wp2
              go_meet
              case rel => exact ⟨0, k3, hk3s, Hxp, by simpa using H6.out⟩
          case rest =>
            obtain ⟨E, k4, hk4s, hxp, hst⟩ := hcut
            obtain ⟨hE1, hE2⟩ := expo_in hxp.out
            have hR := HR3.out
            rw [hxp.out] at hR
            simp only at hR
            obtain ⟨N, hN⟩ : ∃ N : Num, N = ⟨b, D ++ P, E - (P.length : Int)⟩ := ⟨_, rfl⟩
            obtain ⟨hsz, hszt⟩ : Sz N ∧ Sz (trimN N) := sz_trim (by rw [hN]; simp only; omega) (by rw [hN]; simp only; omega) (by rw [hN]; simp only [List.length_append]; omega)
            obtain ⟨A, cap, hv, hat, hc1, hc2⟩ := own_caps hst.own
            injection hv with hv1 hv2 hv3
            subst hv1; subst hv2; subst hv3
            have hnv : NV wc (.agg #[.bool b, .slice A5 (D ++ P).length c5, .int .i64 (E - (P.length : Int))]) N := ⟨A5, c5, by rw [hN], by rw [hN]; exact hat, by rw [hN]; exact hc1, hc2⟩
            have Htr : Hid (∀ W, Below wc.heap.size wc W → Calls Tryz.prog 144 #[.agg #[.bool b, .slice A5 (D ++ P).length c5, .int .i64 (E - (P.length : Int))]] W fun x w' => ∃ v', x = .returned v' ∧ NV w' v' (trimN N) ∧ Below W.heap.size W w') := hide (fun W h => ptrim_any (hnv.below h) hsz)
            have hdl : (toL s).drop k4 = [] ↔ k4 = s.size := by
              rw [List.drop_eq_nil_iff, toL_length]
              omega
            have Hfin : Hid (∀ (v' : Value) (W : World), Below w.heap.size w W → NV W v' (trimN N) → PRes w W R (.returned (.tuple #[v', .bool (decide (k4 = s.size))]))) := hide (fun v' W hW hn => by
              refine ⟨v', _, rfl, hW, ?_, ?_⟩
              · obtain ⟨A', cp', rfl, _⟩ := hn
                exact ⟨_, _, _, _, _, rfl⟩
              · rw [← hR]
                by_cases hz : k4 = s.size
                · rw [if_pos (hdl.2 hz), ← hN]
                  exact ⟨by simpa using hz, hn, hszt⟩
                · rw [if_neg (fun h => hz (hdl.1 h))]
                  simpa using hz)
            have Hst := hide hst
            have n0 := hst.bn.cell 0
            have n1 := hst.bn.cell 1
            have n2 := hst.bn.cell 2
            have a0 := hst.ba.cell 0
            have s0 := hst.bs_.cell 0
            obtain ⟨F, hF⟩ : ∃ F, E - (P.length : Int) = F := ⟨_, rfl⟩
            obtain ⟨M, hM⟩ : ∃ M, (D ++ P).length = M := ⟨_, rfl⟩
            rw [hF] at n2 Htr
            rw [hM] at n1 Htr
            simp at n0 n1 n2 a0 s0
            clear hR hst hat hnv hszt hsz hN hxp HR3 hF hM hE1 hE2 h6 H5 hdl
            have H1 : ScC w s k4 b (.slice A5 M c5) F wc.drew := ⟨n0, n1, n2, a0, s0⟩
            unfold ScC at H1
            go_wp2
            go_region_held3 (fun W => W.cell? ⟨w.heap.size + 1 + 1, 0, none⟩ = some (.bool b) ∧ W.cell? ⟨w.heap.size + 1 + 1, 1, none⟩ = some (.slice A5 M c5) ∧ W.cell? ⟨w.heap.size + 1 + 1, 2, none⟩ = some (.int .i64 F) ∧ W.cell? ⟨w.heap.size + 1 + 1 + 1, 0, none⟩ = some (.int .i64 (k4 : Int)) ∧ W.cell? ⟨w.heap.size, 0, none⟩ = some (.string s)) (first | exact H1 | assumption | exact ScC.below (by assumption) (by assumption) | exact ScC.put3 (by assumption) _ _ _)
              (first
                | (go_at_call 144; refine (Htr.out _ ((Below.refl _ _).drew)).mono ?_; rintro x w9 ⟨v', rfl, ⟨A', cp', rfl, hat', hc', hm'⟩, hb'⟩
                   have hr9 := Hst.out.br.below (((Below.refl wc.heap.size wc).drew).trans hb') Hst.out.br.lt
                   have r0 := hr9.cell 0
                   have r1 := hr9.cell 1
                   have r2 := hr9.cell 2
                   have g0 := hr9.frozen 0
                   have g1 := hr9.frozen 1
                   have g2 := hr9.frozen 2
                   simp at r0 r1 r2
                   have Hr9 := hide hr9
                   have Hat' := hide hat'
                   clear hr9 hat'))
            obtain ⟨WF, hWF, u0, u1, u2, hatF, hbF⟩ := nres_end Hr9.out (Hst.out.bel.trans (((Below.refl wc.heap.size wc).drew.trans hb').mono Hst.out.bel.size)) (by omega) Hat'.out (trimN N).neg (.slice A' (trimN N).dg.length cp') (trimN N).ex
            have HWF := hide hWF
            have HatF := hide hatF
            have HbF := hide hbF
            have hq : ((k4 : Int) == (s.size : Int)) = decide (k4 = s.size) := by
              rw [Bool.eq_iff_iff, beq_iff_eq, decide_eq_true_iff]
              omega
            have Hq := hide hq
            have Hc' := hide hc'
            have Hm' := hide hm'
            clear hWF hatF hbF hq hc' hm' H1 n0 n1 n2 a0 s0 r0 r1 r2 g0 g1 g2 hb'
            go_wp2
            rw [HWF.out]
            refine bodyPost_ret (by simp [results, Tryz.results115, go_sem, u0, u1, u2]; try rfl) rfl ?_
            rw [Hq.out]
            exact Hfin.out _ WF HbF.out ⟨A', cp', rfl, HatF.out, Hc'.out, Hm'.out⟩
  · have hn : scn cl1 (toL s) = none := by
      unfold scn
      rw [if_pos (by rw [toL_length]; omega)]
    have Hn := hide hn
    have hs2 : (64 : Int) < (s.size : Int) := by omega
    have Hb3 := hide ((two_below w (.cells #[.string s] 9) (.cells #[.bool false, .slice none 0 0, .int .i64 0] 148)).alloc (by simp <;> omega) (.cells #[.bool false, .slice none 0 0, .int .i64 0] 148))
    clear hn
    go_enter Tryz.func115, Tryz.ntmps115
    go_wp2
    go_returns
    rw [Hn.out]
    exact ⟨_, _, rfl, Hb3.out, ⟨_, _, _, _, _, rfl⟩, rfl⟩
end Go.Proofs.YtjfcemlbbinanaaGreatDoor
