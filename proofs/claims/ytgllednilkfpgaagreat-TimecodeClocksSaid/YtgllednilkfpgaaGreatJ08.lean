/-
  Joined texts: Ra, Rb, Rc, Rd, Re.
-/
import Derived.Test.YtgllednilkfpgaaGreatJ07
import Derived.Test.YtgllednilkfpgaaGreatJ02
import Derived.Laws.CopyOwn
import Derived.Deep.RegionLaw
set_option linter.unusedVariables false
set_option linter.unusedSimpArgs false
/-
  The walks over runs of texts, first part: the row of numbers, a search in it.
-/
namespace Go.Proofs.YtgllednilkfpgaaGreat
open Go.RowKit Go.Proofs Wv Wv.Vi Wv.Rc Wv.Mo Wv.Ru
set_option linter.unusedVariables false

def rowp (j : Nat) : List Nat := List.range j ++ List.replicate (4096 - j) 0
theorem rowp_set (j : Nat) (h : j < 4096) : (rowp j).set j j = rowp (j + 1) := by
  unfold rowp
  rw [List.set_append_right _ _ (by simp), List.length_range, Nat.sub_self, show 4096 - j = (4096 - (j + 1)) + 1 from by omega, List.replicate_succ, List.set_cons_zero, List.range_succ, List.append_assoc]
  rfl
theorem rowp_length (j : Nat) (h : j ≤ 4096) : (rowp j).length = 4096 := by simp [rowp]; omega
theorem rowp_all : rowp 4096 = r0 := by unfold rowp r0; rw [Nat.sub_self, List.replicate_zero, List.append_nil]
theorem rowp_none (n : Nat) : nc (List.replicate n 0) = Array.replicate n (.int .i64 0) := by
  apply Array.toList_inj.1
  simp [nc]
set_option maxHeartbeats 1000000 in
theorem row_any (w : World) :
    Calls Tryz.prog 165 #[] w fun x w' => x = .returned (.slice (some ⟨w.heap.size, 0, none⟩) 4096 4096) ∧ Bk w' w.heap.size 3 (nc r0) ∧ Below w.heap.size w w' := by
  have hmk := mk_row (P := Tryz.prog) 22 3 _ _ Tryz.underlying22 intinf rfl 4096 4096 rfl (by omega) (by omega) w
  rw [← rowp_none] at hmk
  have h0 : List.replicate 4096 0 = rowp 0 := by unfold rowp; rw [List.range_zero, List.nil_append]
  rw [h0] at hmk
  clear h0
  go_enter Tryz.func165, Tryz.ntmps165
  go_wp2
  go_loopw [2, 6] (fun _ i wr => ∃ j : Nat, j ≤ 4096 ∧ i = .int .i64 j ∧ Bk wr w.heap.size 3 (nc (rowp j)) ∧ Below w.heap.size w wr) (fun _ i _ => (4096 - intOf i).toNat)
  case atStart => exact ⟨0, by omega, rfl, Bk.new _ _ _, (Below.refl _ _).alloc (Nat.le_refl _) _⟩
  case round =>
    obtain ⟨j, hj, rfl, hbk, hf⟩ := hrel
    by_cases hlt : j < 4096
    · have hc := hbk.cell j
      rw [nc_get _ _ (by rw [rowp_length j hj]; exact hlt)] at hc
      have fc := hbk.frozen j
      have hp := hbk.put j (.int .i64 (j : Int))
      rw [nc_set, rowp_set j hlt] at hp
      have Hp := hide hp
      have hlt2 : (j : Int) < 4096 := by omega
      clear hp hbk hmk hlt
      go_wp2
      go_roundw
      case rel => exact ⟨j + 1, by omega, by go_num, Hp.out, hf.setCell (p := ⟨w.heap.size, j, none⟩) (Nat.le_refl _) _⟩
      case measure => simp [intOf] <;> omega
    · have hj64 : j = 4096 := by omega
      subst hj64
      rw [rowp_all] at hbk
      clear hmk
      go_wp2
      go_ret
      exact ⟨rfl, hbk, hf⟩
set_option maxHeartbeats 1000000 in
theorem sindex_any {w : World} {g : Nat} {r : List Nat} (h : Bk w g 3 (nc r)) (hr : r.length = 4096) (n : Nat) (hn : n ∈ r) :
    Calls Tryz.prog 55 #[.slice (some ⟨g, 0, none⟩) 4096 4096, .int .i64 (n : Int)] w fun x w' => x = .returned (.int .i64 (ix r n : Nat)) ∧ w = w' := by
  have H := hide h
  have Hn := hide hn
  have Hr := hide hr
  have hle : ix r n < 4096 := by rw [← hr]; exact ix_lt.2 hn
  clear h hn hr
  go_enter Tryz.func55, Tryz.ntmps55
  go_wp2
  go_loop [5, 8] (fun _ i => ∃ j : Nat, j ≤ ix r n ∧ i = .int .i64 j) (fun _ i => (4096 - intOf i).toNat)
  case atStart => exact ⟨0, by omega, rfl⟩
  case round =>
    obtain ⟨j, hj, rfl⟩ := hrel
    have hc := H.out.cell j
    rw [nc_get _ _ (by rw [Hr.out]; omega)] at hc
    have hj2 : (j : Int) < 4096 := by omega
    obtain ⟨y, hy⟩ : ∃ y, r.getD j 0 = y := ⟨_, rfl⟩
    have hjy : r[j]? = some y := by
      have hjl : j < r.length := by rw [Hr.out]; omega
      rw [List.getElem?_eq_getElem hjl, ← hy]
      simp [List.getD, hjl]
    rw [hy] at hc
    by_cases hlt : j < ix r n
    · have hne : ((n : Int) == (y : Int)) = false := by
        rw [beq_eq_false_iff_ne]
        intro e
        have : n = y := by omega
        exact ix_before j hlt (this ▸ hjy)
      clear hy hjy
      go_wp2
      go_round
      case rel => exact ⟨j + 1, by omega, by go_num⟩
      case measure => simp [intOf] <;> omega
    · have hje : j = ix r n := by omega
      have hne : ((n : Int) == (y : Int)) = true := by
        rw [beq_iff_eq]
        have := ix_get? Hn.out
        rw [← hje, hjy] at this
        injection this with this
        omega
      have Hje := hide hje
      clear hy hjy hje
      go_wp2
      go_ret
      exact ⟨ret_int (by rw [Hje.out]), rfl⟩
theorem front1_any {w : World} {g : Nat} {r : List Nat} (h : Bk w g 3 (nc r)) (hr : r.length = 4096) (n : Nat) (hn : n ∈ r) :
    Calls Tryz.prog 163 #[.slice (some ⟨g, 0, none⟩) 4096 4096, .int .i64 (n : Int)] w fun x w' => x = .returned (.tuple #[.int .i64 (ix r n : Nat), .int .i64 (ix r n : Nat)]) ∧ w = w' := by
  have H := hide (sindex_any h hr n hn)
  go_enter Tryz.func163, Tryz.ntmps163
  go_wp2_with fail
  refine (H.out).mono ?_
  rintro x w1 ⟨rfl, rfl⟩
  go_wp2
  go_ret2
  exact ⟨rfl, rfl⟩
theorem unfront1_any {w : World} {g : Nat} {r : List Nat} (h : Bk w g 3 (nc r)) (hr : r.length = 4096) (n : Nat) (hn : n < 4096) :
    Calls Tryz.prog 160 #[.slice (some ⟨g, 0, none⟩) 4096 4096, .int .i64 (n : Int)] w fun x w' => x = .returned (.tuple #[.int .i64 (r.getD n 0 : Nat), .int .i64 (n : Int)]) ∧ w = w' := by
  have hc := h.cell n
  rw [nc_get _ _ (by rw [hr]; exact hn)] at hc
  have hn2 : (n : Int) < 4096 := by omega
  obtain ⟨y, hy⟩ : ∃ y, r.getD n 0 = y := ⟨_, rfl⟩
  rw [hy] at hc ⊢
  clear h hr hn hy
  go_enter Tryz.func160, Tryz.ntmps160
  go_wp2
  go_ret2
  exact ⟨rfl, rfl⟩
end Go.Proofs.YtgllednilkfpgaaGreat
/-
  The walks over runs of texts, second part: a number moves to the front.
-/
namespace Wv
open Go Go.RowKit
/-- A copy inside a region that draws its order, by the equation of its run. -/
theorem step_copy {P : Program} {ops : Array Oper} {o : Oper} {a : Act} {w w' : World} {K : Act → World → Prop} {Q : Exit → Act → World → Prop} {E : Prop} {v' : Value} (hgd : o.guard = none) (s x : Operand) (t : TypeId)
    (ho : o.op = .call { callee := .builtin .copy, args := #[s, x], argTypes := #[t, t] }) (v u : Value) (hs : a.eval s = v) (hx : a.eval x = u)
    (hr : (Builtin.copy_ #[t, t] o.type #[v, u]).run P w = .ok v' w') (h : K (a.put o.dst v') w') :
    if Region.wanted o (yielded ops a.tmps) = true then Oper.wp P o a w K Q else E := by
  have hw : Region.wanted o (yielded ops a.tmps) = true := by simp [Region.wanted, hgd]
  rw [if_pos hw]
  unfold Oper.wp execOp
  simp only [ho, resolve, invoke, builtin, Sem.run_bind, Sem.run_pure, Result.andThen_ok, List.map_toArray, List.map_cons, List.map_nil, hs, hx, hr]
  exact h
theorem fr_setRow {S : Nat → Prop} {a w : World} {g : Nat} (h : Fr S a w) (hg : S g) (cs : Array Value) : Fr S a (w.setRow g cs) :=
  h.trans ⟨rfl, rfl, rfl, by simp [World.setRow], fun k hk hn => setRow_other w g k cs (fun e => hn (e ▸ hg))⟩
end Wv
namespace Go.Proofs.YtgllednilkfpgaaGreat
open Go.RowKit Go.Proofs Wv Wv.Vi Wv.Rc Wv.Mo Wv.Ru
set_option linter.unusedVariables false

theorem movef_zero (r : List Nat) (h : 0 < r.length) : movef r 0 = r := by
  unfold movef
  match r with
  | a :: t => rfl
theorem movef_pos (r : List Nat) (p : Nat) (h : p < r.length) : (r.take 1 ++ r.take p ++ r.drop (1 + p)).set 0 (r.getD p 0) = movef r p := by
  unfold movef
  match r, h with
  | a :: t, h =>
    rw [List.eraseIdx_eq_take_drop_succ, Nat.add_comm 1 p]
    rfl
theorem nc_list (t : List Nat) : (nc t).toList = t.map (fun n : Nat => (Value.int .i64 (n : Int))) := by simp [nc]
theorem intsz : (Tryz.prog.info? 3).map (·.size) = some 1 := by kernel_rfl
set_option maxHeartbeats 400000 in
theorem move_zero {w : World} {g : Nat} {r : List Nat} (h : Bk w g 3 (nc r)) (hr : r.length = 4096) :
    Calls Tryz.prog 166 #[.slice (some ⟨g, 0, none⟩) 4096 4096, .int .i64 0] w fun x w' => x = .returned (.slice (some ⟨g, 0, none⟩) 4096 4096) ∧ Bk w' g 3 (nc (movef r 0)) ∧ Fr (only g) w w' := by
  have hc := h.cell 0
  rw [nc_get _ _ (by rw [hr]; omega)] at hc
  have hfz := h.frozen 0
  have hput := h.put 0 (.int .i64 ((r.getD 0 0 : Nat) : Int))
  have hset : r.set 0 (r.getD 0 0) = movef r 0 := by
    rw [movef_zero r (by omega)]
    match r, hr with
    | a :: t, _ => rfl
  rw [nc_set, hset] at hput
  obtain ⟨y, hy⟩ : ∃ y, r.getD 0 0 = y := ⟨_, rfl⟩
  have hw1 : IntKind.i64.wrap 1 = 1 := by rw [IntWalk.i64_in _ (by omega)]
  rw [hy] at hc hput
  have hrun := run_copy_none (P := Tryz.prog) w.drew 22 22 3 3 (some ⟨g, 0, none⟩) (some ⟨g, 0, none⟩) 0 0 0 0 Tryz.underlying22 intsz rfl
  have Hput := hide hput
  clear h hput hset hy
  go_enter Tryz.func166, Tryz.ntmps166
  go_wp2
  go_region
  go_wp2
  go_ret
  exact ⟨rfl, by have := Hput.out.drew; exact this, ((Fr.refl (only g) w).setCell (p := ⟨g, 0, none⟩) (.inl rfl) _).drew⟩
set_option maxHeartbeats 400000 in
theorem move_pos {w : World} {g : Nat} {r : List Nat} (h : Bk w g 3 (nc r)) (hr : r.length = 4096) (p : Nat) (hp : p < 4096) (hp0 : 0 < p) :
    Calls Tryz.prog 166 #[.slice (some ⟨g, 0, none⟩) 4096 4096, .int .i64 (p : Int)] w fun x w' => x = .returned (.slice (some ⟨g, 0, none⟩) 4096 4096) ∧ Bk w' g 3 (nc (movef r p)) ∧ Fr (only g) w w' := by
  have hc := h.cell p
  rw [nc_get _ _ (by rw [hr]; omega)] at hc
  have hp1 : (p : Int) < 4096 := by omega
  have hp2 : IntKind.i64.wrap ((p : Int) + 1) = (p : Int) + 1 := by rw [IntWalk.i64_in _ (by omega)]
  have hp3 : (1 : Int) ≤ (p : Int) := by omega
  have hp4 : (p : Int) + 1 ≤ 4096 := by omega
  have hp5 : (0 : Int) ≤ (p : Int) + 1 := by omega
  have hp6 : max ((p : Int) + 1) 0 = (p : Int) + 1 := by omega
  have hp7 : (1 : Int) ≤ (p : Int) + 1 := by omega
  have hp8 : ((p : Int) + 1).toNat = p + 1 := by omega
  have hp9 : ¬ p = 0 := by omega
  have hp10 : (0 : Int) ≤ (p : Int) := by omega
  have hp11 : (p : Int) ≤ 4096 := by omega
  have hrun := run_copy_row (P := Tryz.prog) w.drew 22 22 3 3 g 1 p p ⟨g, 0, none⟩ p p (nc r) 3 ((r.take p).map (fun n : Nat => (Value.int .i64 (n : Int)))) Tryz.underlying22 intsz h (by simp; omega) (fun j v hv => by
      rw [Go.WideShapes.add_plain, Nat.zero_add]
      have h1 := h.cell j
      show w.cell? _ = _
      rw [h1, ← Array.getElem?_toList, nc_list]
      rw [List.map_take, List.getElem?_take] at hv
      split at hv
      · exact hv
      · cases hv) (by simp [nc]; omega) (fun v hv => by
      obtain ⟨n, _, rfl⟩ := List.mem_map.1 hv
      rfl)
  obtain ⟨C, hC⟩ : ∃ C, ((nc r).toList.take 1 ++ (r.take p).map (fun n : Nat => (Value.int .i64 (n : Int))) ++ (nc r).toList.drop (1 + ((r.take p).map (fun n : Nat => (Value.int .i64 (n : Int)))).length)).toArray = C := ⟨_, rfl⟩
  rw [hC] at hrun
  have hCn : C = nc (r.take 1 ++ r.take p ++ r.drop (1 + p)) := by
    rw [← hC]
    apply Array.toList_inj.1
    rw [nc_list, nc_list, List.length_map, List.length_take, show min p r.length = p from by omega]
    simp [List.map_take, List.map_drop]
  have hbk : Bk (w.drew.setRow g C) g 3 C := setRow_heap w.drew g _ C _ (0, 0) h
  have hfr : Fr (only g) w (w.drew.setRow g C) := fr_setRow ((Fr.refl (only g) w).drew) rfl C
  generalize w.drew.setRow g C = W at *
  obtain ⟨y, hy⟩ : ∃ y, r.getD p 0 = y := ⟨_, rfl⟩
  rw [hCn] at hbk
  have hput := hbk.put 0 (.int .i64 (y : Int))
  have hmv := movef_pos r p (by omega)
  rw [hy] at hmv hc
  rw [nc_set, hmv] at hput
  obtain ⟨y0, hc0⟩ : ∃ y0 : Int, W.cell? ⟨g, 0, none⟩ = some (.int .i64 y0) := ⟨_, by
    rw [hbk.cell, nc_get _ _ (by rw [List.length_append, List.length_append, List.length_take]; omega)]⟩
  have hfz := hbk.frozen 0
  have hlen : (goInt ((r.take p).map (fun n : Nat => (Value.int .i64 (n : Int)))).length) = .int .i64 (p : Int) := by
    rw [List.length_map, List.length_take, show min p r.length = p from by omega]
    rfl
  rw [hlen] at hrun
  have Hput := hide hput
  have Hfr := hide hfr
  clear h hy hC hCn hbk hfr hput hmv hlen hr
  go_enter Tryz.func166, Tryz.ntmps166
  go_wp2
  go_region
  go_wp2
  go_ret
  exact ⟨rfl, Hput.out, Hfr.out.setCell (p := ⟨g, 0, none⟩) (.inl rfl) _⟩
theorem move_any {w : World} {g : Nat} {r : List Nat} (h : Bk w g 3 (nc r)) (hr : r.length = 4096) (p : Nat) (hp : p < 4096) :
    Calls Tryz.prog 166 #[.slice (some ⟨g, 0, none⟩) 4096 4096, .int .i64 (p : Int)] w fun x w' => x = .returned (.slice (some ⟨g, 0, none⟩) 4096 4096) ∧ Bk w' g 3 (nc (movef r p)) ∧ Fr (only g) w w' := by
  rcases Nat.eq_zero_or_pos p with rfl | h0
  · exact move_zero h hr
  · exact move_pos h hr p hp h0
end Go.Proofs.YtgllednilkfpgaaGreat
/-
  The walks over runs of texts, third part: the places of numbers that move to the front, and back.
-/
namespace Go.Proofs.YtgllednilkfpgaaGreat
open Go.RowKit Go.Proofs Wv Wv.Vi Wv.Rc Wv.Mo Wv.Ru
set_option linter.unusedVariables false

/-- The row behind some numbers. -/
def rowF : List Nat → List Nat → List Nat
  | r, [] => r
  | r, n :: t => rowF (movef r (ix r n)) t
def rowU : List Nat → List Nat → List Nat
  | r, [] => r
  | r, n :: t => rowU (movef r n) t
theorem frontA_snoc (l : List Nat) (n : Nat) : ∀ r, frontA r (l ++ [n]) = frontA r l ++ [ix (rowF r l) n] ∧ rowF r (l ++ [n]) = movef (rowF r l) (ix (rowF r l) n) := by
  induction l with
  | nil => intro r; exact ⟨rfl, rfl⟩
  | cons a l ih =>
    intro r
    obtain ⟨h1, h2⟩ := ih (movef r (ix r a))
    exact ⟨by rw [List.cons_append, frontA, h1]; rfl, by rw [List.cons_append, rowF, h2]; rfl⟩
theorem unfrontA_snoc (l : List Nat) (n : Nat) : ∀ r, unfrontA r (l ++ [n]) = unfrontA r l ++ [(rowU r l).getD n 0] ∧ rowU r (l ++ [n]) = movef (rowU r l) n := by
  induction l with
  | nil => intro r; exact ⟨rfl, rfl⟩
  | cons a l ih =>
    intro r
    obtain ⟨h1, h2⟩ := ih (movef r a)
    exact ⟨by rw [List.cons_append, unfrontA, h1]; rfl, by rw [List.cons_append, rowU, h2]; rfl⟩
theorem rowF_ok (l : List Nat) : ∀ r, (∀ n ∈ l, n ∈ r) → (rowF r l).length = r.length ∧ ∀ m, m ∈ r → m ∈ rowF r l := by
  induction l with
  | nil => intro r _; exact ⟨rfl, fun m h => h⟩
  | cons a l ih =>
    intro r h
    have h1 := ix_lt.2 (h a List.mem_cons_self)
    obtain ⟨a1, a2⟩ := ih (movef r (ix r a)) (fun n hn => movef_mem h1 (h n (List.mem_cons_of_mem _ hn)))
    exact ⟨a1.trans (movef_length h1), fun m hm => a2 m (movef_mem h1 hm)⟩
theorem rowU_ok (l : List Nat) : ∀ r, (∀ n ∈ l, n < r.length) → (rowU r l).length = r.length := by
  induction l with
  | nil => intro r _; rfl
  | cons a l ih =>
    intro r h
    have h1 := h a List.mem_cons_self
    exact (ih (movef r a) (fun n hn => by rw [movef_length h1]; exact h n (List.mem_cons_of_mem _ hn))).trans (movef_length h1)
theorem npad_set (L : List Nat) (n v : Nat) (h : L.length < n) : (L ++ List.replicate (n - L.length) 0).set L.length v = (L ++ [v]) ++ List.replicate (n - (L.length + 1)) 0 := by
  rw [List.set_append_right _ _ (Nat.le_refl _), Nat.sub_self, show n - L.length = (n - (L.length + 1)) + 1 from by omega, List.replicate_succ, List.set_cons_zero]
  simp
theorem nc_ivs (l : List Nat) : (nc l).toList = ivs (l.map Int.ofNat) := by simp [nc, ivs, iv]
theorem take_snocD (l : List Nat) (k : Nat) (h : k < l.length) : l.take (k + 1) = l.take k ++ [l.getD k 0] := by
  rw [List.take_succ_eq_append_getElem h]
  simp [List.getD, h]
/-- Two results: a new list of numbers, and an error. -/
def NRes (w : World) (x : Ending) (w' : World) (r : List Nat × Nat) : Prop := ∃ v, x = .returned (.tuple #[v, .int .i64 (r.2 : Int)]) ∧ IRes w' v (r.1.map Int.ofNat) ∧ Below w.heap.size w w'
theorem nres_err {w w' : World} (e : Nat) (hb : Below w.heap.size w w') : NRes w (.returned (.tuple #[.slice none 0 0, .int .i64 (e : Int)])) w' ([], e) := ⟨_, rfl, IRes.nil _, hb⟩

set_option maxHeartbeats 1000000 in
theorem each_bad_front {w : World} {A : Option Addr} {l : List Int} (ha : At w A (ivs l)) (n cap : Nat) (hn : n = l.length) (hm : n ≤ 9223372036854775807) (hb : chkn l ≠ 0) :
    Calls Tryz.prog 159 #[.slice A n cap, .func (.func 163) #[] #[]] w fun x w' => NRes w x w' ([], chkn l) := by
  have Ha := hide ha
  have Hlen := hide hn
  have hbel : Below w.heap.size w w := Below.refl _ _
  by_cases h9 : 4096 < n
  · have hc : Hid (chkn l = 9) := hide (by unfold chkn; rw [if_pos (by omega)])
    have h92 : (4096 : Int) < (n : Int) := by omega
    clear ha hn hb h9
    go_enter Tryz.func159, Tryz.ntmps159
    go_wp2
    go_returns
    rw [hc.out]
    exact nres_err 9 hbel
  · have hc : Hid (chkn l = 2) := hide (by
      unfold chkn at hb ⊢
      rw [if_neg (by omega)] at hb ⊢
      by_cases h : ∀ n ∈ l, 0 ≤ n ∧ n < 4096
      · rw [if_pos h] at hb; exact absurd rfl hb
      · rw [if_neg h])
    have hbad : Hid (¬ ∀ n ∈ l, 0 ≤ n ∧ n < 4096) := hide (by
      intro h
      apply hb
      exact chkn_ok (by omega) h)
    have h92 : ¬ (4096 : Int) < (n : Int) := by omega
    clear ha hn hb h9
    go_enter Tryz.func159, Tryz.ntmps159
    go_wp2
    go_loop [7, 19] (fun _ i => ∃ k : Nat, k ≤ n ∧ i = .int .i64 k ∧ Hid (∀ v ∈ l.take k, 0 ≤ v ∧ v < 4096)) (fun _ i => (n - intOf i).toNat)
    case atStart => exact ⟨0, by omega, rfl, hide (by simp)⟩
    case round =>
      obtain ⟨k, hk, rfl, hall⟩ := hrel
      by_cases hlt : k < n
      · have hkl : k < l.length := by rw [← Hlen.out]; exact hlt
        obtain ⟨v, hv⟩ : ∃ v, l.getD k 0 = v := ⟨_, rfl⟩
        have hlk : l[k] = v := by rw [← hv]; simp [List.getD, hkl]
        obtain ⟨bA, oA, hA, hbA, hcA⟩ := Ha.out.get k (.int .i64 v) (by rw [ivs_get _ _ hkl, hv])
        subst hA
        by_cases hok : 0 ≤ v ∧ v < 4096
        · obtain ⟨o1, o2⟩ := hok
          have o3 : ¬ v < 0 := by omega
          have o4 : ¬ 4096 ≤ v := by omega
          have hall2 : Hid (∀ u ∈ l.take (k + 1), 0 ≤ u ∧ u < 4096) := hide (by
            intro u hu
            rw [List.take_succ_eq_append_getElem hkl, hlk] at hu
            rcases List.mem_append.1 hu with h | h
            · exact hall.out u h
            · rw [List.mem_singleton] at h; omega)
          clear hv hlk
          go_wp2
          go_round
          case rel => exact ⟨k + 1, by omega, by go_num, hall2⟩
          case measure => simp [intOf] <;> omega
        · clear hv hlk
          by_cases o1 : v < 0
          · clear hok
            go_wp2
            go_returns
            rw [hc.out]
            exact nres_err 2 hbel
          · have o2 : 4096 ≤ v := by omega
            clear hok
            go_wp2
            go_returns
            rw [hc.out]
            exact nres_err 2 hbel
      · exfalso
        apply hbad.out
        have := hall.out
        rwa [List.take_of_length_le (by rw [← Hlen.out]; omega)] at this
set_option maxRecDepth 100000 in
set_option maxHeartbeats 2000000 in
theorem each_ok_front {w : World} {A : Option Addr} {l : List Nat} (ha : At w A (ivs (l.map Int.ofNat))) (n cap : Nat) (hn : n = l.length) (hl : l.length ≤ 4096) (hv : ∀ v ∈ l, v < 4096) :
    Calls Tryz.prog 159 #[.slice A n cap, .func (.func 163) #[] #[]] w fun x w' => NRes w x w' (frontA r0 l, 0) := by
  have Ha := hide ha
  have Hlen := hide hn
  have Hv := hide hv
  have hn4 : n ≤ 4096 := by omega
  have h92 : ¬ (4096 : Int) < (n : Int) := by omega
  have Hrow := hide (row_any w)
  have Hin := hide (fun (v : Nat) (h : v < 4096) => show v ∈ r0 from List.mem_range.2 h)
  have Hlr := hide (show r0.length = 4096 from List.length_range)
  clear ha hn hv hl
  go_enter Tryz.func159, Tryz.ntmps159
  go_wp2
  go_loop [7, 19] (fun _ i => ∃ k : Nat, k ≤ n ∧ i = .int .i64 k) (fun _ i => (n - intOf i).toNat)
  case atStart => exact ⟨0, by omega, rfl⟩
  case round =>
    obtain ⟨k, hk, rfl⟩ := hrel
    by_cases hlt : k < n
    · have hkl : k < l.length := by rw [← Hlen.out]; exact hlt
      obtain ⟨v, hvk⟩ : ∃ v, l.getD k 0 = v := ⟨_, rfl⟩
      have hv4 : v < 4096 := by
        have h1 : l.getD k 0 = l[k] := by simp [List.getD, hkl]
        rw [← hvk, h1]
        exact Hv.out _ (List.getElem_mem _)
      obtain ⟨bA, oA, hA, hbA, hcA⟩ := Ha.out.get k (.int .i64 (v : Int)) (by
        rw [ivs_get _ _ (by rw [List.length_map]; exact hkl)]
        have h1 : (l.map Int.ofNat).getD k 0 = ((l.getD k 0 : Nat) : Int) := by simp [List.getD, hkl]
        rw [h1, hvk])
      subst hA
      have o3 : ¬ (v : Int) < 0 := by omega
      have o4 : ¬ (4096 : Int) ≤ (v : Int) := by omega
      clear hvk hv4
      go_wp2
      go_round
      case rel => exact ⟨k + 1, by omega, by go_num⟩
      case measure => simp [intOf] <;> omega
    · have hkn : k = n := by omega
      subst hkn
      go_wp2_with fail
      refine (Hrow.out).mono ?_
      rintro x w1 ⟨rfl, hr1, hb1⟩
      have hs1 := hb1.size
      have hmk := mk_row (P := Tryz.prog) 22 3 _ _ Tryz.underlying22 intinf rfl (k : Int) k rfl (by omega) (by omega) w1
      rw [← rowp_none] at hmk
      have ha1 := Ha.out.below hb1
      have hrl := hr1.lt
      have hr2 := hr1.alloc (.cells (nc (List.replicate k 0)) 3)
      have hb2 := hb1.alloc hs1 (.cells (nc (List.replicate k 0)) 3)
      have ha2 := ha1.alloc (.cells (nc (List.replicate k 0)) 3)
      have ho2 := Bk.new w1 3 (nc (List.replicate k 0))
      have Hs := hide (show w.heap.size < w1.heap.size ∧ w.heap.size ≠ w1.heap.size from ⟨by omega, by omega⟩)
      clear hr1 hb1 ha1
      go_wp2
      go_loopw [8, 10, 11, 12, 13, 36] (fun s8 _ _ _ _ i wr => ∃ j : Nat, j ≤ k ∧ i = .int .i64 j ∧ s8 = .slice (some ⟨w.heap.size, 0, none⟩) 4096 4096 ∧ Bk wr w.heap.size 3 (nc (rowF r0 (l.take j))) ∧ Bk wr w1.heap.size 3 (nc (frontA r0 (l.take j) ++ List.replicate (k - j) 0)) ∧ At wr A (ivs (l.map Int.ofNat)) ∧ Below w.heap.size w wr) (fun _ _ _ _ _ i _ => (k - intOf i).toNat)
      case atStart => exact ⟨0, by omega, rfl, rfl, hr2, ho2, ha2, hb2⟩
      case round =>
        clear hr2 ho2 ha2 hb2 hmk
        obtain ⟨j, hj, rfl, rfl, hrow, hout, hat, hf⟩ := hrel
        have hmem : ∀ m ∈ l.take j, m < 4096 := fun m hm => Hv.out m (List.mem_of_mem_take hm)
        by_cases hlt2 : j < k
        · have hkl : j < l.length := by rw [← Hlen.out]; exact hlt2
          obtain ⟨v, hvk⟩ : ∃ v, l.getD j 0 = v := ⟨_, rfl⟩
          have hv4 : v < 4096 := by
            have h1 : l.getD j 0 = l[j] := by simp [List.getD, hkl]
            rw [← hvk, h1]
            exact Hv.out _ (List.getElem_mem _)
          obtain ⟨bA, oA, hA, hbA, hcA⟩ := hat.get j (.int .i64 (v : Int)) (by
            rw [ivs_get _ _ (by rw [List.length_map]; exact hkl)]
            have h1 : (l.map Int.ofNat).getD j 0 = ((l.getD j 0 : Nat) : Int) := by simp [List.getD, hkl]
            rw [h1, hvk])
          subst hA
          obtain ⟨sn1, sn2⟩ := frontA_snoc (l.take j) v r0
          rw [← hvk, ← take_snocD l j hkl, hvk] at sn1 sn2
          have hfl := frontA_length (l.take j) r0
          rw [List.length_take, Nat.min_eq_left (by omega)] at hfl
          obtain ⟨hrl1, hrm⟩ := rowF_ok (l.take j) r0 (fun m hm => Hin.out m (hmem m hm))
          have hrl2 := hrl1.trans Hlr.out
          have hvm := hrm v (Hin.out v hv4)
          obtain ⟨R, hR⟩ : ∃ R, rowF r0 (l.take j) = R := ⟨_, rfl⟩
          obtain ⟨O, hO⟩ : ∃ O, frontA r0 (l.take j) = O := ⟨_, rfl⟩
          rw [hR] at sn1 sn2 hrow hrl2 hvm
          rw [hO] at sn1 hout hfl
          have Hst := hide (front1_any hrow hrl2 v hvm)
          have hpl : ix R v < 4096 := by rw [← hrl2]; exact ix_lt.2 hvm
          obtain ⟨pl, hpl2⟩ : ∃ pl, ix R v = pl := ⟨_, rfl⟩
          rw [hpl2] at sn1 sn2 Hst hpl
          clear hpl2
          have Hsn1 := hide sn1
          have Hsn2 := hide sn2
          have Hrow2 := hide hrow
          have hset := npad_set O k pl (by omega)
          rw [hfl] at hset
          have Hset := hide hset
          have hput := hout.put j (.int .i64 ((pl : Nat) : Int))
          rw [nc_set, Hset.out] at hput
          have hol : (O ++ List.replicate (k - j) 0).length = k := by rw [List.length_append, List.length_replicate]; omega
          obtain ⟨y0, hc0⟩ : ∃ y0 : Int, wr.cell? ⟨w1.heap.size, j, none⟩ = some (.int .i64 y0) := ⟨_, by rw [hout.cell, nc_get _ _ (by omega)]⟩
          have hfz := hout.frozen j
          have hrow3 := hrow.off (p := ⟨w1.heap.size, j, none⟩) (Hs.out.2) (.int .i64 ((pl : Nat) : Int))
          have hf3 := hf.setCell (p := ⟨w1.heap.size, j, none⟩) (Nat.le_of_lt Hs.out.1) (.int .i64 ((pl : Nat) : Int))
          have Hmv := hide (move_any hrow3 hrl2 pl (by exact hpl))
          have Hput := hide hput
          have Hf3 := hide hf3
          clear sn1 sn2 hset hput hol hrow hout hR hO hvk hfl hmem hrow3 hf3 hat hf hrl2 hvm
          go_wp2_with fail
          refine (Hst.out).mono ?_
          rintro x w3 ⟨rfl, rfl⟩
          go_wp2_with fail
          refine (Hmv.out).mono ?_
          rintro x w4 ⟨rfl, hr4, hf4⟩
          have hout4 := Hput.out.fr hf4 (fun e => Hs.out.2 e.symm)
          have hb4 : Below w.heap.size w w4 := Hf3.out.trans (hf4.toBelow' Hf3.out.size (fun i hi e => by have : i = w.heap.size := e; omega))
          have ha4 := Ha.out.below hb4
          go_wp2
          go_roundw
          case rel => exact ⟨j + 1, by omega, by go_num, rfl, by rw [Hsn2.out]; exact hr4, by rw [Hsn1.out]; exact hout4, ha4, hb4⟩
          case measure => simp [intOf] <;> omega
        · have hjk : j = k := by omega
          subst hjk
          have htk : l.take j = l := List.take_of_length_le (by rw [← Hlen.out]; exact Nat.le_refl _)
          rw [htk, Nat.sub_self, List.replicate_zero, List.append_nil] at hout
          have hat2 := hide hout.at_
          have hfl := hide (frontA_length l r0)
          clear hrow hout hat htk hmem
          go_wp2
          go_returns
          have h9 := hat2.out
          rw [nc_ivs] at h9
          exact ⟨.slice (some ⟨w1.heap.size, 0, none⟩) j j, rfl, ⟨some ⟨w1.heap.size, 0, none⟩, j, by rw [List.length_map, hfl.out, ← Hlen.out], h9⟩, hf⟩
end Go.Proofs.YtgllednilkfpgaaGreat
/-
  The walks over runs of texts, fourth part: numbers out of their places.
-/
namespace Go.Proofs.YtgllednilkfpgaaGreat
open Go.RowKit Go.Proofs Wv Wv.Vi Wv.Rc Wv.Mo Wv.Ru
set_option linter.unusedVariables false

set_option maxHeartbeats 1000000 in
theorem each_bad_unfront {w : World} {A : Option Addr} {l : List Int} (ha : At w A (ivs l)) (n cap : Nat) (hn : n = l.length) (hm : n ≤ 9223372036854775807) (hb : chkn l ≠ 0) :
    Calls Tryz.prog 159 #[.slice A n cap, .func (.func 160) #[] #[]] w fun x w' => NRes w x w' ([], chkn l) := by
  have Ha := hide ha
  have Hlen := hide hn
  have hbel : Below w.heap.size w w := Below.refl _ _
  by_cases h9 : 4096 < n
  · have hc : Hid (chkn l = 9) := hide (by unfold chkn; rw [if_pos (by omega)])
    have h92 : (4096 : Int) < (n : Int) := by omega
    clear ha hn hb h9
    go_enter Tryz.func159, Tryz.ntmps159
    go_wp2
    go_returns
    rw [hc.out]
    exact nres_err 9 hbel
  · have hc : Hid (chkn l = 2) := hide (by
      unfold chkn at hb ⊢
      rw [if_neg (by omega)] at hb ⊢
      by_cases h : ∀ n ∈ l, 0 ≤ n ∧ n < 4096
      · rw [if_pos h] at hb; exact absurd rfl hb
      · rw [if_neg h])
    have hbad : Hid (¬ ∀ n ∈ l, 0 ≤ n ∧ n < 4096) := hide (by
      intro h
      apply hb
      exact chkn_ok (by omega) h)
    have h92 : ¬ (4096 : Int) < (n : Int) := by omega
    clear ha hn hb h9
    go_enter Tryz.func159, Tryz.ntmps159
    go_wp2
    go_loop [7, 19] (fun _ i => ∃ k : Nat, k ≤ n ∧ i = .int .i64 k ∧ Hid (∀ v ∈ l.take k, 0 ≤ v ∧ v < 4096)) (fun _ i => (n - intOf i).toNat)
    case atStart => exact ⟨0, by omega, rfl, hide (by simp)⟩
    case round =>
      obtain ⟨k, hk, rfl, hall⟩ := hrel
      by_cases hlt : k < n
      · have hkl : k < l.length := by rw [← Hlen.out]; exact hlt
        obtain ⟨v, hv⟩ : ∃ v, l.getD k 0 = v := ⟨_, rfl⟩
        have hlk : l[k] = v := by rw [← hv]; simp [List.getD, hkl]
        obtain ⟨bA, oA, hA, hbA, hcA⟩ := Ha.out.get k (.int .i64 v) (by rw [ivs_get _ _ hkl, hv])
        subst hA
        by_cases hok : 0 ≤ v ∧ v < 4096
        · obtain ⟨o1, o2⟩ := hok
          have o3 : ¬ v < 0 := by omega
          have o4 : ¬ 4096 ≤ v := by omega
          have hall2 : Hid (∀ u ∈ l.take (k + 1), 0 ≤ u ∧ u < 4096) := hide (by
            intro u hu
            rw [List.take_succ_eq_append_getElem hkl, hlk] at hu
            rcases List.mem_append.1 hu with h | h
            · exact hall.out u h
            · rw [List.mem_singleton] at h; omega)
          clear hv hlk
          go_wp2
          go_round
          case rel => exact ⟨k + 1, by omega, by go_num, hall2⟩
          case measure => simp [intOf] <;> omega
        · clear hv hlk
          by_cases o1 : v < 0
          · clear hok
            go_wp2
            go_returns
            rw [hc.out]
            exact nres_err 2 hbel
          · have o2 : 4096 ≤ v := by omega
            clear hok
            go_wp2
            go_returns
            rw [hc.out]
            exact nres_err 2 hbel
      · exfalso
        apply hbad.out
        have := hall.out
        rwa [List.take_of_length_le (by rw [← Hlen.out]; omega)] at this
set_option maxRecDepth 100000 in
set_option maxHeartbeats 2000000 in
theorem each_ok_unfront {w : World} {A : Option Addr} {l : List Nat} (ha : At w A (ivs (l.map Int.ofNat))) (n cap : Nat) (hn : n = l.length) (hl : l.length ≤ 4096) (hv : ∀ v ∈ l, v < 4096) :
    Calls Tryz.prog 159 #[.slice A n cap, .func (.func 160) #[] #[]] w fun x w' => NRes w x w' (unfrontA r0 l, 0) := by
  have Ha := hide ha
  have Hlen := hide hn
  have Hv := hide hv
  have hn4 : n ≤ 4096 := by omega
  have h92 : ¬ (4096 : Int) < (n : Int) := by omega
  have Hrow := hide (row_any w)
  have Hin := hide (fun (v : Nat) (h : v < 4096) => show v ∈ r0 from List.mem_range.2 h)
  have Hlr := hide (show r0.length = 4096 from List.length_range)
  clear ha hn hv hl
  go_enter Tryz.func159, Tryz.ntmps159
  go_wp2
  go_loop [7, 19] (fun _ i => ∃ k : Nat, k ≤ n ∧ i = .int .i64 k) (fun _ i => (n - intOf i).toNat)
  case atStart => exact ⟨0, by omega, rfl⟩
  case round =>
    obtain ⟨k, hk, rfl⟩ := hrel
    by_cases hlt : k < n
    · have hkl : k < l.length := by rw [← Hlen.out]; exact hlt
      obtain ⟨v, hvk⟩ : ∃ v, l.getD k 0 = v := ⟨_, rfl⟩
      have hv4 : v < 4096 := by
        have h1 : l.getD k 0 = l[k] := by simp [List.getD, hkl]
        rw [← hvk, h1]
        exact Hv.out _ (List.getElem_mem _)
      obtain ⟨bA, oA, hA, hbA, hcA⟩ := Ha.out.get k (.int .i64 (v : Int)) (by
        rw [ivs_get _ _ (by rw [List.length_map]; exact hkl)]
        have h1 : (l.map Int.ofNat).getD k 0 = ((l.getD k 0 : Nat) : Int) := by simp [List.getD, hkl]
        rw [h1, hvk])
      subst hA
      have o3 : ¬ (v : Int) < 0 := by omega
      have o4 : ¬ (4096 : Int) ≤ (v : Int) := by omega
      clear hvk hv4
      go_wp2
      go_round
      case rel => exact ⟨k + 1, by omega, by go_num⟩
      case measure => simp [intOf] <;> omega
    · have hkn : k = n := by omega
      subst hkn
      go_wp2_with fail
      refine (Hrow.out).mono ?_
      rintro x w1 ⟨rfl, hr1, hb1⟩
      have hs1 := hb1.size
      have hmk := mk_row (P := Tryz.prog) 22 3 _ _ Tryz.underlying22 intinf rfl (k : Int) k rfl (by omega) (by omega) w1
      rw [← rowp_none] at hmk
      have ha1 := Ha.out.below hb1
      have hrl := hr1.lt
      have hr2 := hr1.alloc (.cells (nc (List.replicate k 0)) 3)
      have hb2 := hb1.alloc hs1 (.cells (nc (List.replicate k 0)) 3)
      have ha2 := ha1.alloc (.cells (nc (List.replicate k 0)) 3)
      have ho2 := Bk.new w1 3 (nc (List.replicate k 0))
      have Hs := hide (show w.heap.size < w1.heap.size ∧ w.heap.size ≠ w1.heap.size from ⟨by omega, by omega⟩)
      clear hr1 hb1 ha1
      go_wp2
      go_loopw [8, 10, 11, 12, 13, 36] (fun s8 _ _ _ _ i wr => ∃ j : Nat, j ≤ k ∧ i = .int .i64 j ∧ s8 = .slice (some ⟨w.heap.size, 0, none⟩) 4096 4096 ∧ Bk wr w.heap.size 3 (nc (rowU r0 (l.take j))) ∧ Bk wr w1.heap.size 3 (nc (unfrontA r0 (l.take j) ++ List.replicate (k - j) 0)) ∧ At wr A (ivs (l.map Int.ofNat)) ∧ Below w.heap.size w wr) (fun _ _ _ _ _ i _ => (k - intOf i).toNat)
      case atStart => exact ⟨0, by omega, rfl, rfl, hr2, ho2, ha2, hb2⟩
      case round =>
        clear hr2 ho2 ha2 hb2 hmk
        obtain ⟨j, hj, rfl, rfl, hrow, hout, hat, hf⟩ := hrel
        have hmem : ∀ m ∈ l.take j, m < 4096 := fun m hm => Hv.out m (List.mem_of_mem_take hm)
        by_cases hlt2 : j < k
        · have hkl : j < l.length := by rw [← Hlen.out]; exact hlt2
          obtain ⟨v, hvk⟩ : ∃ v, l.getD j 0 = v := ⟨_, rfl⟩
          have hv4 : v < 4096 := by
            have h1 : l.getD j 0 = l[j] := by simp [List.getD, hkl]
            rw [← hvk, h1]
            exact Hv.out _ (List.getElem_mem _)
          obtain ⟨bA, oA, hA, hbA, hcA⟩ := hat.get j (.int .i64 (v : Int)) (by
            rw [ivs_get _ _ (by rw [List.length_map]; exact hkl)]
            have h1 : (l.map Int.ofNat).getD j 0 = ((l.getD j 0 : Nat) : Int) := by simp [List.getD, hkl]
            rw [h1, hvk])
          subst hA
          obtain ⟨sn1, sn2⟩ := unfrontA_snoc (l.take j) v r0
          rw [← hvk, ← take_snocD l j hkl, hvk] at sn1 sn2
          have hfl := unfrontA_length (l.take j) r0
          rw [List.length_take, Nat.min_eq_left (by omega)] at hfl
          have hrl2 : (rowU r0 (l.take j)).length = 4096 := (rowU_ok (l.take j) r0 (fun m hm => by rw [Hlr.out]; exact hmem m hm)).trans Hlr.out
          have hvm : True := trivial
          obtain ⟨R, hR⟩ : ∃ R, rowU r0 (l.take j) = R := ⟨_, rfl⟩
          obtain ⟨O, hO⟩ : ∃ O, unfrontA r0 (l.take j) = O := ⟨_, rfl⟩
          rw [hR] at sn1 sn2 hrow hrl2
          rw [hO] at sn1 hout hfl
          have Hst := hide (unfront1_any hrow hrl2 v hv4)
          obtain ⟨pl, hpl2⟩ : ∃ pl, R.getD v 0 = pl := ⟨_, rfl⟩
          rw [hpl2] at sn1 Hst
          clear hpl2
          have Hsn1 := hide sn1
          have Hsn2 := hide sn2
          have Hrow2 := hide hrow
          have hset := npad_set O k pl (by omega)
          rw [hfl] at hset
          have Hset := hide hset
          have hput := hout.put j (.int .i64 ((pl : Nat) : Int))
          rw [nc_set, Hset.out] at hput
          have hol : (O ++ List.replicate (k - j) 0).length = k := by rw [List.length_append, List.length_replicate]; omega
          obtain ⟨y0, hc0⟩ : ∃ y0 : Int, wr.cell? ⟨w1.heap.size, j, none⟩ = some (.int .i64 y0) := ⟨_, by rw [hout.cell, nc_get _ _ (by omega)]⟩
          have hfz := hout.frozen j
          have hrow3 := hrow.off (p := ⟨w1.heap.size, j, none⟩) (Hs.out.2) (.int .i64 ((pl : Nat) : Int))
          have hf3 := hf.setCell (p := ⟨w1.heap.size, j, none⟩) (Nat.le_of_lt Hs.out.1) (.int .i64 ((pl : Nat) : Int))
          have Hmv := hide (move_any hrow3 hrl2 v (by exact hv4))
          have Hput := hide hput
          have Hf3 := hide hf3
          clear sn1 sn2 hset hput hol hrow hout hR hO hvk hfl hmem hrow3 hf3 hat hf hrl2 hvm
          go_wp2_with fail
          refine (Hst.out).mono ?_
          rintro x w3 ⟨rfl, rfl⟩
          go_wp2_with fail
          refine (Hmv.out).mono ?_
          rintro x w4 ⟨rfl, hr4, hf4⟩
          have hout4 := Hput.out.fr hf4 (fun e => Hs.out.2 e.symm)
          have hb4 : Below w.heap.size w w4 := Hf3.out.trans (hf4.toBelow' Hf3.out.size (fun i hi e => by have : i = w.heap.size := e; omega))
          have ha4 := Ha.out.below hb4
          go_wp2
          go_roundw
          case rel => exact ⟨j + 1, by omega, by go_num, rfl, by rw [Hsn2.out]; exact hr4, by rw [Hsn1.out]; exact hout4, ha4, hb4⟩
          case measure => simp [intOf] <;> omega
        · have hjk : j = k := by omega
          subst hjk
          have htk : l.take j = l := List.take_of_length_le (by rw [← Hlen.out]; exact Nat.le_refl _)
          rw [htk, Nat.sub_self, List.replicate_zero, List.append_nil] at hout
          have hat2 := hide hout.at_
          have hfl := hide (unfrontA_length l r0)
          clear hrow hout hat htk hmem
          go_wp2
          go_returns
          have h9 := hat2.out
          rw [nc_ivs] at h9
          exact ⟨.slice (some ⟨w1.heap.size, 0, none⟩) j j, rfl, ⟨some ⟨w1.heap.size, 0, none⟩, j, by rw [List.length_map, hfl.out, ← Hlen.out], h9⟩, hf⟩
end Go.Proofs.YtgllednilkfpgaaGreat
/-
  The walks over runs of texts, fifth part: Front, Unfront; a look for a long text.
-/
namespace Go.Proofs.YtgllednilkfpgaaGreat
open Go.RowKit Go.Proofs Wv Wv.Vi Wv.Rc Wv.Mo Wv.Ru
set_option linter.unusedVariables false

theorem map_toNat_nat {l : List Int} (h : ∀ n ∈ l, 0 ≤ n ∧ n < 4096) : (l.map Int.toNat).map Int.ofNat = l := by
  rw [List.map_map]
  refine (List.map_congr_left fun n hn => ?_).trans (List.map_id l)
  exact Int.toNat_of_nonneg (h n hn).1
theorem nres_open {w w' : World} {x : Ending} {r : List Nat × Nat} (h : NRes w x w' r) : ∃ v, x = .returned (.tuple #[v, .int .i64 (r.2 : Int)]) ∧ IRes w' v (r.1.map Int.ofNat) ∧ Below w.heap.size w w' := h
theorem each_front {w : World} {A : Option Addr} {l : List Int} (ha : At w A (ivs l)) (n cap : Nat) (hn : n = l.length) (hm : n ≤ 9223372036854775807) :
    Calls Tryz.prog 159 #[.slice A n cap, .func (.func 163) #[] #[]] w fun x w' => NRes w x w' (front l) := by
  by_cases hc : chkn l = 0
  · obtain ⟨h1, h2⟩ := front_ok hc
    have e := map_toNat_nat h2
    have hf : front l = (frontA r0 (l.map Int.toNat), 0) := by unfold front; rw [if_pos hc]
    rw [hf]
    exact each_ok_front (by rw [e]; exact ha) n cap (by rw [List.length_map]; exact hn) (by rw [List.length_map]; exact h1) (fun v hv => by
      obtain ⟨u, hu, rfl⟩ := List.mem_map.1 hv
      have := h2 u hu
      omega)
  · have hf : front l = ([], chkn l) := by unfold front; rw [if_neg hc]
    rw [hf]
    exact each_bad_front ha n cap hn hm hc
theorem each_unfront {w : World} {A : Option Addr} {l : List Int} (ha : At w A (ivs l)) (n cap : Nat) (hn : n = l.length) (hm : n ≤ 9223372036854775807) :
    Calls Tryz.prog 159 #[.slice A n cap, .func (.func 160) #[] #[]] w fun x w' => NRes w x w' (unfront l) := by
  by_cases hc : chkn l = 0
  · obtain ⟨h1, h2⟩ := front_ok hc
    have e := map_toNat_nat h2
    have hf : unfront l = (unfrontA r0 (l.map Int.toNat), 0) := by unfold unfront; rw [if_pos hc]
    rw [hf]
    exact each_ok_unfront (by rw [e]; exact ha) n cap (by rw [List.length_map]; exact hn) (by rw [List.length_map]; exact h1) (fun v hv => by
      obtain ⟨u, hu, rfl⟩ := List.mem_map.1 hv
      have := h2 u hu
      omega)
  · have hf : unfront l = ([], chkn l) := by unfold unfront; rw [if_neg hc]
    rw [hf]
    exact each_bad_unfront ha n cap hn hm hc
theorem pfront_any {w : World} {A : Option Addr} {l : List Int} (ha : At w A (ivs l)) (n cap : Nat) (hn : n = l.length) (hm : n ≤ 9223372036854775807) :
    Calls Tryz.prog 153 #[.slice A n cap] w fun x w' => NRes w x w' (front l) := by
  have H := hide (each_front ha n cap hn hm)
  generalize front l = r at *
  clear ha hn
  go_enter Tryz.func153, Tryz.ntmps153
  go_wp2_with fail
  refine (H.out).mono ?_
  rintro x w1 ⟨v, rfl, hi, hb⟩
  go_wp2
  go_returns
  exact ⟨v, rfl, hi, hb⟩
theorem punfront_any {w : World} {A : Option Addr} {l : List Int} (ha : At w A (ivs l)) (n cap : Nat) (hn : n = l.length) (hm : n ≤ 9223372036854775807) :
    Calls Tryz.prog 145 #[.slice A n cap] w fun x w' => NRes w x w' (unfront l) := by
  have H := hide (each_unfront ha n cap hn hm)
  generalize unfront l = r at *
  clear ha hn
  go_enter Tryz.func145, Tryz.ntmps145
  go_wp2_with fail
  refine (H.out).mono ?_
  rintro x w1 ⟨v, rfl, hi, hb⟩
  go_wp2
  go_returns
  exact ⟨v, rfl, hi, hb⟩
/-- The texts of a list, as cells. -/
def svs (l : List ByteArray) : List Value := l.map sv
theorem svs_get (l : List ByteArray) (i : Nat) (h : i < l.length) : (svs l)[i]? = some (.string l[i]) := by
  simp [svs, sv, List.getElem?_eq_getElem h]
theorem long1_any (s : ByteArray) (hs : s.size ≤ 9223372036854775807) (w : World) :
    Calls Tryz.prog 150 #[.string s] w fun x w' => x = .returned (.bool (decide (128 < s.size))) ∧ w = w' := by
  have h := hide (show decide ((128 : Int) < (s.size : Int)) = decide (128 < s.size) from by
    rw [Bool.eq_iff_iff, decide_eq_true_iff, decide_eq_true_iff]; omega)
  go_enter Tryz.func150, Tryz.ntmps150
  go_wp2
  go_ret
  exact ⟨ret_bool h.out, rfl⟩
/-- What the look for a long text answers. -/
def LongR (w : World) (L : Bool) (x : Ending) (w' : World) : Prop := ((∃ k : Nat, k ≤ 4096 ∧ L = true ∧ x = .returned (.int .i64 k)) ∨ (L = false ∧ x = .returned (.int .i64 (-1)))) ∧ w = w'
def longB (l : List ByteArray) : Bool := decide (∃ s ∈ l, 128 < s.size)
set_option maxHeartbeats 400000 in
theorem long_any {w : World} {A : Option Addr} {l : List ByteArray} (ha : At w A (svs l)) (hsz : ∀ s ∈ l, s.size ≤ 9223372036854775807) (n cap : Nat) (hn : n = l.length) (hm : n ≤ 4096) :
    Calls Tryz.prog 149 #[.slice A n cap, .func (.func 150) #[] #[]] w fun x w' => x = .returned (.bool (longB l)) ∧ w = w' := by
  have H : Hid (Calls Tryz.prog 161 #[.slice A n cap, .func (.func 150) #[] #[]] w fun x w' => LongR w (longB l) x w') := hide (by
    have Ha := hide ha
    have Hn := hide hn
    have Hs := hide hsz
    clear ha hn hsz
    go_enter Tryz.func161, Tryz.ntmps161
    go_wp2
    go_loop [5, 8] (fun _ i => ∃ k : Nat, k ≤ n ∧ i = .int .i64 k ∧ Hid (∀ s ∈ l.take k, ¬ 128 < s.size)) (fun _ i => (n - intOf i).toNat)
    case atStart => exact ⟨0, by omega, rfl, hide (by simp)⟩
    case round =>
      obtain ⟨k, hk, rfl, hall⟩ := hrel
      by_cases hlt : k < n
      · have hkl : k < l.length := by rw [← Hn.out]; exact hlt
        obtain ⟨s, hs⟩ : ∃ s, l[k] = s := ⟨_, rfl⟩
        obtain ⟨bA, oA, hA, hbA, hcA⟩ := Ha.out.get k (.string s) (by rw [svs_get l k hkl, hs])
        subst hA
        have Hc := long1_any s (Hs.out s (hs ▸ List.getElem_mem _)) w
        by_cases hl : 128 < s.size
        · rw [decide_eq_true hl] at Hc
          have Hc := hide Hc
          have hL : longB l = true := decide_eq_true ⟨s, hs ▸ List.getElem_mem _, hl⟩
          have HL := hide hL
          clear hL hl hs
          go_wp2_with fail
          refine (Hc.out).mono ?_
          rintro x w1 ⟨rfl, rfl⟩
          go_wp2
          go_ret
          exact ⟨.inl ⟨k, by omega, HL.out, rfl⟩, rfl⟩
        · rw [decide_eq_false hl] at Hc
          have Hc := hide Hc
          have hall2 : Hid (∀ u ∈ l.take (k + 1), ¬ 128 < u.size) := hide (by
            intro u hu
            rw [List.take_succ_eq_append_getElem hkl, hs] at hu
            rcases List.mem_append.1 hu with h | h
            · exact hall.out u h
            · rw [List.mem_singleton] at h; rw [h]; exact hl)
          clear hl hs
          go_wp2_with fail
          refine (Hc.out).mono ?_
          rintro x w1 ⟨rfl, rfl⟩
          go_wp2
          go_round
          case rel => exact ⟨k + 1, by omega, by go_num, hall2⟩
          case measure => simp [intOf] <;> omega
      · have hL : longB l = false := decide_eq_false (by
          rintro ⟨s, h1, h2⟩
          refine hall.out s ?_ h2
          rwa [List.take_of_length_le (by rw [← Hn.out]; omega)])
        have HL := hide hL
        clear hL
        go_wp2
        go_ret
        exact ⟨.inr ⟨HL.out, rfl⟩, rfl⟩)
  clear ha hsz hn
  generalize longB l = L at *
  go_enter Tryz.func149, Tryz.ntmps149
  go_wp2_with fail
  refine (H.out).mono ?_
  rintro x w1 ⟨⟨k, hk, rfl, rfl⟩ | ⟨rfl, rfl⟩, rfl⟩
  · go_wp2
    go_ret
    exact ⟨rfl, rfl⟩
  · go_wp2
    go_ret
    exact ⟨rfl, rfl⟩
end Go.Proofs.YtgllednilkfpgaaGreat
