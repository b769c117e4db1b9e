/-
  Joined texts: Ea, Eb, Ec, Ed, Ee.
-/
import Derived.Test.YtkgclfagimlneaaDoorChecked
import Derived.Test.YtkgclfagimlneaaDoorJ01
import Derived.Test.YtkgclfagimlneaaDoorJ02
import Derived.WalkKit
import Derived.WalkSpells
import Derived.WalkLawsBesides
import Derived.Deep.QuietTactic
import Derived.BigQuiet
import Derived.BigRegion
import Derived.IntWalk
import Derived.Outline
import Derived.Handy
import Derived.Deep.DeepCutAuto
set_option linter.unusedVariables false
set_option linter.unusedSimpArgs false
/-
  Decimal numbers: what the walks share.
-/
namespace Go.Proofs.YtkgclfagimlneaaDoor
open Go.RowKit Go.Proofs Wv Wv.Dc
set_option linter.unusedVariables false

theorem ret_int {k : IntKind} {a b : Int} (h : a = b) : Ending.returned (.int k a) = .returned (.int k b) := by rw [h]
theorem ret_bool {a b : Bool} (h : a = b) : Ending.returned (.bool a) = .returned (.bool b) := by rw [h]
theorem ret_str {a b : ByteArray} (h : a = b) : Ending.returned (.string a) = .returned (.string b) := by rw [h]
theorem ret_of {a b : Value} (h : a = b) : Ending.returned a = .returned b := by rw [h]
theorem u8inf : (Tryd.prog.info? 5).map (fun i => (i.zero, i.size, i.bytes)) = some (some (.int .u8 0), 1, 1) := by kernel_rfl
theorem emp1 {s : ByteArray} (h : s.size = 0) : s.toList.isEmpty = true := by
  rw [ByteArray.toList_eq]
  have : s.data.toList.length = 0 := h
  rw [List.eq_nil_of_length_eq_zero this]
  rfl
theorem emp0 {s : ByteArray} (h : 0 < s.size) : s.toList.isEmpty = false := by
  rw [ByteArray.toList_eq]
  have : s.data.toList.length = s.size := rfl
  match hl : s.data.toList with
  | [] => rw [hl] at this; simp at this; omega
  | _ :: _ => rfl
theorem ext_drop (s : ByteArray) (z : Nat) : s.extract z s.size = bs ((toL s).drop z) := by
  apply ByteArray.ext
  apply Array.toList_inj.1
  simp only [bs, toL, ByteArray.data_extract, Array.toList_extract, List.extract_eq_take_drop, List.toList_toArray]
  rw [List.take_of_length_le (by rw [List.length_drop]; exact Nat.le_refl _)]
theorem ext_take (s : ByteArray) (z : Nat) : s.extract 0 z = bs ((toL s).take z) := by
  apply ByteArray.ext
  apply Array.toList_inj.1
  simp [bs, toL]

/-- 'string(b)', b a row that is only seen. -/
theorem conv_at {P : Program} (src dst e : TypeId) (hs : P.underlying src = some (.slice e)) (he : P.underlying e = some (.int .u8)) (hd : P.underlying dst = some .string) {w : World} {A : Option Addr} {l : List UInt8} (h : At w A (l.map bv)) (cap : Nat) :
    (convert src dst (.slice A l.length cap)).run P w = .ok (.string (bs l)) w := by
  cases A with
  | none =>
    have hl : l = [] := by
      rcases l with _ | ⟨c, t⟩
      · rfl
      · obtain ⟨b, p, h, _⟩ := h 0 (by simp)
        cases h
    subst hl
    exact run_convert_bytes_nil w src e hs he 0 cap dst hd
  | some a =>
    refine run_convert_bytes_back w src dst e a cap l hs he hd (fun j hj => ?_)
    obtain ⟨b, o, hA, hb, hc⟩ := h j (by rw [List.length_map]; exact hj)
    injection hA with hA
    subst hA
    rw [Go.WideShapes.add_plain, hc]
    simp [bv]
theorem own_below {w w' : World} {r : Nat} (hf : Fr (only r) w w') {B : Nat} (hB : B ≤ w.heap.size) (hr : B ≤ r) : Below B w w' := hf.toBelow' hB (fun j hj e => by have : j = r := e; omega)
theorem only_set {w w' : World} {b : Nat} (h : Fr (only b) w w') (o : Nat) (x : Value) : Fr (only b) w (w'.setCell ⟨b, o, none⟩ x) := h.setCell (p := ⟨b, o, none⟩) (.inl rfl) x
theorem two_below (w : World) (o p : Obj) : Below w.heap.size w ((w.alloc o).alloc p) := ((Below.refl w.heap.size w).alloc (Nat.le_refl _) _).alloc (by simp) _
theorem bvs_one (l : List UInt8) : ∀ y ∈ l.map bv, y.oneCell' = true := by
  intro y hy
  obtain ⟨b, _, rfl⟩ := List.mem_map.1 hy
  rfl
/-- A row's front and rest. -/
theorem at_shift {w : World} {b o : Nat} {vs : List Value} (h : At w (some ⟨b, o, none⟩) vs) (k : Nat) : At w (some ⟨b, o + k, none⟩) (vs.drop k) := fun i hi => by
  rw [List.length_drop] at hi
  obtain ⟨b', o', h1, h2, h3⟩ := h (k + i) (by omega)
  injection h1 with h1
  injection h1 with h1 h4
  subst h1; subst h4
  exact ⟨b, o + k, rfl, h2, by rw [List.getElem_drop, Nat.add_assoc]; exact h3⟩
theorem at_front {w : World} {A : Option Addr} {vs : List Value} (h : At w A vs) (k : Nat) : At w A (vs.take k) := fun i hi => by
  rw [List.length_take] at hi
  obtain ⟨b, o, h1, h2, h3⟩ := h i (by omega)
  exact ⟨b, o, h1, h2, by rw [List.getElem_take]; exact h3⟩
/-- A row is not touched by a store into a block that holds other values. -/
theorem at_off {w : World} {A : Option Addr} {vs : List Value} {b : Nat} {T : TypeId} {cs : Array Value} (h : At w A vs) (hk : Bk w b T cs) (hn : ∀ v ∈ vs, v ∉ cs.toList) (k : Nat) (x : Value) : At (w.setCell ⟨b, k, none⟩ x) A vs := by
  intro i hi
  obtain ⟨b', o, hA, hb, hc⟩ := h i hi
  have hne : b' ≠ b := by
    rintro rfl
    have h2 := hk.cell (o + i)
    rw [hc] at h2
    exact hn _ (List.getElem_mem hi) (by
      have h3 : cs.toList[o + i]? = some vs[i] := by simpa using h2.symm
      exact List.mem_of_getElem? h3)
  refine ⟨b', o, hA, by simpa using hb, ?_⟩
  exact ((Fr.refl (fun j => j = b) w).setCell (p := ⟨b, k, none⟩) (.inl rfl) x).cell (p := ⟨b', _, none⟩) hb hne |>.trans hc
/-- A row is not touched by what happens in a block that holds other values. -/
theorem at_only {w w' : World} {A : Option Addr} {vs : List Value} {b : Nat} {T : TypeId} {cs : Array Value} (h : At w A vs) (hk : Bk w b T cs) (hn : ∀ v ∈ vs, v ∉ cs.toList) (hf : Fr (only b) w w') : At w' A vs := by
  intro i hi
  obtain ⟨b', o, hA, hb, hc⟩ := h i hi
  have hne : b' ≠ b := by
    rintro rfl
    have h2 := hk.cell (o + i)
    rw [hc] at h2
    exact hn _ (List.getElem_mem hi) (by
      have h3 : cs.toList[o + i]? = some vs[i] := by simpa using h2.symm
      exact List.mem_of_getElem? h3)
  exact ⟨b', o, hA, Nat.lt_of_lt_of_le hb hf.size, (hf.cell (p := ⟨b', _, none⟩) hb hne).trans hc⟩
/-- A number as a value. -/
def NV (w : World) (v : Value) (n : Num) : Prop := ∃ A cap, v = .agg #[.bool n.neg, .slice A n.dg.length cap, .int .i64 n.ex] ∧ At w A (n.dg.map bv) ∧ n.dg.length ≤ cap ∧ cap ≤ maxLen
theorem NV.below {w w' : World} {v : Value} {n : Num} (h : NV w v n) (hb : Below w.heap.size w w') : NV w' v n := by
  obtain ⟨A, cap, h1, h2, h3, h4⟩ := h
  exact ⟨A, cap, h1, h2.below hb, h3, h4⟩
end Go.Proofs.YtkgclfagimlneaaDoor
/-
  The walks over decimal numbers: the place of the first digit, the sign, the negative number.
-/
namespace Go.Proofs.YtkgclfagimlneaaDoor
open Go.RowKit Go.Proofs Wv Wv.Dc
set_option linter.unusedVariables false

/-- What a walk asks of a number's size. -/
structure Sz (n : Num) : Prop where
  lo : -2000000 ≤ n.ex
  hi : n.ex ≤ 2000000
  len : n.dg.length ≤ 100000
theorem pfirst_any {w : World} {v : Value} {n : Num} (h : NV w v n) (hs : Sz n) :
    Calls Tryd.prog 31 #[v] w fun x w' => x = .returned (.int .i64 (firstN n)) ∧ Below w.heap.size w w' := by
  obtain ⟨A, cap, rfl, hat, hc, hm⟩ := h
  obtain ⟨b, d, e⟩ := n
  obtain ⟨s1, s2, s3⟩ := hs
  simp only at *
  have hf : firstN ⟨b, d, e⟩ = e + d.length - 1 := rfl
  have Hf := hide hf
  obtain ⟨L, hL⟩ : ∃ L, d.length = L := ⟨_, rfl⟩
  rw [hL] at s3 hc Hf ⊢
  clear hat hf hL hm
  go_enter Tryd.func31, Tryd.ntmps31
  go_wp2
  go_returns
  exact ⟨ret_int (by rw [Hf.out]), (Below.refl w.heap.size w).alloc (Nat.le_refl _) _⟩
theorem psign_any {w : World} {v : Value} {n : Num} (h : NV w v n) :
    Calls Tryd.prog 30 #[v] w fun x w' => x = .returned (.int .i64 (signN n)) ∧ Below w.heap.size w w' := by
  obtain ⟨A, cap, rfl, hat, hc, hm⟩ := h
  obtain ⟨b, d, e⟩ := n
  simp only at *
  have hf : signN ⟨b, d, e⟩ = if d = [] then 0 else if b then -1 else 1 := rfl
  have hd : (d = [] ∧ d.length = 0) ∨ (d ≠ [] ∧ d.length ≠ 0) := by
    rcases d with _ | ⟨c, t⟩
    · exact .inl ⟨rfl, rfl⟩
    · exact .inr ⟨by simp, by simp⟩
  clear hat hm hc
  rcases hd with ⟨h1, h2⟩ | ⟨h1, h2⟩
  · rw [if_pos h1] at hf
    have Hf := hide hf
    rw [h2]
    clear h1 h2 hf
    go_enter Tryd.func30, Tryd.ntmps30
    go_wp2
    go_returns
    exact ⟨ret_int Hf.out.symm, (Below.refl w.heap.size w).alloc (Nat.le_refl _) _⟩
  · rw [if_neg h1] at hf
    have hb0 : ((d.length : Int) == 0) = false := by rw [beq_eq_false_iff_ne]; omega
    cases b
    all_goals
      have Hf := hide hf
      clear h1 h2 hf
      go_enter Tryd.func30, Tryd.ntmps30
      go_wp2
      go_returns
      exact ⟨ret_int Hf.out.symm, (Below.refl w.heap.size w).alloc (Nat.le_refl _) _⟩
theorem pminus_any {w : World} {v : Value} {n : Num} (h : NV w v n) :
    Calls Tryd.prog 40 #[v] w fun x w' => ∃ v', x = .returned v' ∧ NV w' v' (minusN n) ∧ Below w.heap.size w w' := by
  obtain ⟨A, cap, rfl, hat, hc, hm⟩ := h
  obtain ⟨b, d, e⟩ := n
  simp only at *
  have hf : minusN ⟨b, d, e⟩ = ⟨!b && decide (d ≠ []), d, e⟩ := rfl
  have hd : (d = [] ∧ d.length = 0) ∨ (d ≠ [] ∧ 0 < d.length) := by
    rcases d with _ | ⟨c, t⟩
    · exact .inl ⟨rfl, rfl⟩
    · exact .inr ⟨by simp, by simp⟩
  have Hat := hide hat
  clear hat
  have hd2 : (!b && decide (d ≠ [])) = (!b && decide (0 < d.length)) := by
    rcases hd with ⟨h1, h2⟩ | ⟨h1, h2⟩ <;> simp [h1, h2]
  rw [hd2] at hf
  clear hd2 hd
  cases b
  all_goals
    have Hf := hide hf
    clear hf
    go_enter Tryd.func40, Tryd.ntmps40
    go_wp2
    go_returns
    rw [Hf.out]
    exact ⟨_, rfl, ⟨A, cap, rfl, (Hat.out.alloc _).alloc _, hc, hm⟩, two_below _ _ _⟩
end Go.Proofs.YtkgclfagimlneaaDoor
/-
  The walks over decimal numbers: zeros at both ends.
-/
namespace Go.Proofs.YtkgclfagimlneaaDoor
open Go.RowKit Go.Proofs Wv Wv.Dc
set_option linter.unusedVariables false

/-- Digits as a row. -/
def DR (w : World) (v : Value) (d : List UInt8) : Prop := ∃ A cap, v = .slice A d.length cap ∧ At w A (d.map bv) ∧ d.length ≤ cap ∧ cap ≤ maxLen
theorem DR.nil (w : World) : DR w (.slice none 0 0) [] := ⟨none, 0, rfl, At.nil _ _, Nat.le_refl _, Nat.zero_le _⟩
theorem trimL_cons (c : UInt8) (t : List UInt8) : trimL (c :: t) = if c = 48 then trimL t else c :: t := by
  unfold trimL
  rw [List.dropWhile_cons]
  by_cases h : c = 48
  · subst h; rfl
  · rw [if_neg h, if_neg (by simpa using h)]
set_option maxHeartbeats 1000000 in
theorem tlb_any {w : World} {A : Option Addr} {d : List UInt8} (h : At w A (d.map bv)) (n cap : Nat) (hn : n = d.length) (hc : n ≤ cap) (hm : cap ≤ maxLen) :
    Calls Tryd.prog 70 #[.slice A n cap, .int .u8 48] w fun x w' => ∃ v, x = .returned v ∧ DR w' v (trimL d) ∧ Below w.heap.size w w' := by
  have Hat := hide h
  have hm2 : cap ≤ 9223372036854775807 := by unfold maxLen at hm; omega
  have Hn := hide hn
  have Hm := hide hm
  clear h hn hm
  go_enter Tryd.func70, Tryd.ntmps70
  go_wp2
  go_loopw [0] (fun v wr => ∃ (k m cap' : Nat) (A' : Option Addr), k ≤ d.length ∧ m = d.length - k ∧ v = .slice A' m cap' ∧ At wr A' ((d.drop k).map bv) ∧ m ≤ cap' ∧ cap' ≤ 9223372036854775807 ∧ Hid (cap' ≤ maxLen) ∧ Hid (trimL (d.drop k) = trimL d) ∧ Below w.heap.size w wr) (fun v _ => match v with | .slice _ m _ => m | _ => 0)
  case atStart => exact ⟨0, n, cap, A, by omega, by rw [← Hn.out, Nat.sub_zero], rfl, Hat.out, hc, hm2, Hm, hide rfl, Below.refl _ _⟩
  case round =>
    obtain ⟨k, m, cap', A', hk, hmk, rfl, hat, hc', hm', hmx, htr, hf⟩ := hrel
    by_cases h0 : 0 < m
    · have hlt : k < d.length := by omega
      have hd : d.drop k = d[k] :: d.drop (k + 1) := List.drop_eq_getElem_cons hlt
      obtain ⟨c, hcc⟩ : ∃ c, d[k] = c := ⟨_, rfl⟩
      rw [hcc] at hd
      have hat0 := hat
      rw [hd] at hat
      obtain ⟨b, o, hA, hb, hcell⟩ := hat.get 0 (bv c) rfl
      subst hA
      have hcell' : wr.cell? ⟨b, o, none⟩ = some (.int .u8 (c.toNat : Int)) := hcell
      have hsh := at_shift hat 1
      have htc := trimL_cons c (d.drop (k + 1))
      have hto := htr.out
      rw [hd] at hto
      rw [htc] at hto
      by_cases h48 : c = 48
      · rw [if_pos h48] at hto
        subst h48
        have Hto := hide hto
        have Hsh := hide hsh
        have Hf := hide hf
        clear hto hsh hf hat hat0 hd hcc htc htr hcell
        have Hmk := hide hmk
        have Hm1 := hide (show m - 1 = d.length - (k + 1) by omega)
        clear hmk
        by_cases hc1 : cap' = 1
        · have hm9 : m = 1 := by omega
          go_wp2
          refine ⟨⟨k + 1, 0, 0, some ⟨b, o, none⟩, by omega, by have := Hm1.out; omega, rfl, ?_, Nat.le_refl _, by omega, hide (Nat.zero_le _), Hto, Hf.out⟩, by show 0 < m; omega⟩
          have : d.drop (k + 1) = [] := List.drop_eq_nil_of_le (by have := Hmk.out; omega)
          rw [this]
          exact At.nil _ _
        · go_wp2
          refine ⟨⟨k + 1, m - 1, cap' - 1, some ⟨b, o + 1, none⟩, by omega, Hm1.out, by first | rw [if_neg hc1] | rfl, ?_, by omega, by omega, hide (by have := hmx.out; omega), Hto, Hf.out⟩, by first | (rw [if_neg hc1]; show m - 1 < m; omega) | (show m - 1 < m; omega)⟩
          have := Hsh.out
          rw [List.map_cons, List.drop_one, List.tail_cons] at this
          exact this
      · rw [if_neg h48] at hto
        have hne : ((c.toNat : Int) == 48) = false := by
          rw [beq_eq_false_iff_ne]
          intro e
          exact h48 (UInt8.toNat_inj.1 (by rw [show (48 : UInt8).toNat = 48 from rfl]; omega))
        have Hto := hide hto
        have Hat0 := hide hat0
        have Hd := hide hd
        have Hmk := hide hmk
        have hm0 : ((m : Int) == 0) = false := by rw [beq_eq_false_iff_ne]; omega
        clear hto hat hat0 hd hcc htc htr hcell hsh h48 hmk
        go_wp2
        go_returns
        rw [← Hto.out, ← Hd.out]
        exact ⟨.slice (some ⟨b, o, none⟩) m cap', rfl, ⟨_, cap', by rw [List.length_drop, ← Hmk.out], Hat0.out, by rw [List.length_drop, ← Hmk.out]; exact hc', hmx.out⟩, hf⟩
    · have hm0 : m = 0 := by omega
      have hdn : d.drop k = [] := List.drop_eq_nil_of_le (by omega)
      have hto := htr.out
      rw [hdn] at hto
      have ht : trimL ([] : List UInt8) = [] := rfl
      rw [ht] at hto
      have Hto := hide hto
      clear htr hdn hto ht hat hmk
      subst hm0
      go_wp2
      go_returns
      rw [← Hto.out]
      exact ⟨_, rfl, DR.nil _, hf⟩
set_option maxHeartbeats 1000000 in
theorem trimleft_any {w : World} {A : Option Addr} {d : List UInt8} (h : At w A (d.map bv)) (n cap : Nat) (hn : n = d.length) (hc : n ≤ cap) (hm : cap ≤ maxLen) :
    Calls Tryd.prog 64 #[.slice A n cap, .string ⟨#[48]⟩] w fun x w' => ∃ v, x = .returned v ∧ DR w' v (trimL d) ∧ Below w.heap.size w w' := by
  have H := hide (tlb_any h n cap hn hc hm)
  by_cases h0 : n = 0
  · subst h0
    have hd : d = [] := List.eq_nil_of_length_eq_zero hn.symm
    subst hd
    clear h hn H hm
    go_enter Tryd.func64, Tryd.ntmps64
    go_wp2
    go_returns
    exact ⟨_, rfl, DR.nil _, Below.refl _ _⟩
  · have hn0 : ((n : Int) == 0) = false := by rw [beq_eq_false_iff_ne]; omega
    have hg0 : ((⟨#[48]⟩ : ByteArray)[0]'Nat.zero_lt_one) = 48 := rfl
    clear h hn hm h0 hc
    go_enter Tryd.func64, Tryd.ntmps64
    go_wp2_with (go_at_call 70; refine (H.out).mono ?_; rintro x w1 ⟨v, rfl, hd, hb⟩)
    go_returns
    exact ⟨_, rfl, hd, hb⟩
theorem trimR_snoc (d : List UInt8) (c : UInt8) : trimR (d ++ [c]) = if c = 48 then trimR d else d ++ [c] := by
  unfold trimR
  rw [List.reverse_append, List.reverse_singleton, List.singleton_append, trimL_cons]
  split
  · rfl
  · rw [List.reverse_cons, List.reverse_reverse]
set_option maxHeartbeats 1000000 in
theorem trb_any {w : World} {A : Option Addr} {d : List UInt8} (h : At w A (d.map bv)) (n cap : Nat) (hn : n = d.length) (hc : n ≤ cap) (hm : cap ≤ maxLen) :
    Calls Tryd.prog 74 #[.slice A n cap, .int .u8 48] w fun x w' => x = .returned (.slice A (trimR d).length cap) ∧ Below w.heap.size w w' := by
  have Hat := hide h
  have hm2 : cap ≤ 9223372036854775807 := by unfold maxLen at hm; omega
  have Hn := hide hn
  clear h hn hm
  go_enter Tryd.func74, Tryd.ntmps74
  go_wp2
  go_loopw [0] (fun v wr => ∃ k : Nat, k ≤ n ∧ v = .slice A k cap ∧ Hid (trimR (d.take k) = trimR d) ∧ Below w.heap.size w wr) (fun v _ => match v with | .slice _ m _ => m | _ => 0)
  case atStart => exact ⟨n, Nat.le_refl _, rfl, hide (by rw [Hn.out, List.take_length]), Below.refl _ _⟩
  case round =>
    obtain ⟨k, hk, rfl, htr, hf⟩ := hrel
    by_cases h0 : 0 < k
    · obtain ⟨j, rfl⟩ : ∃ j, k = j + 1 := ⟨k - 1, by omega⟩
      have hj : j < d.length := by rw [← Hn.out]; omega
      have hd : d.take (j + 1) = d.take j ++ [d[j]] := List.take_succ_eq_append_getElem hj
      obtain ⟨c, hcc⟩ : ∃ c, d[j] = c := ⟨_, rfl⟩
      rw [hcc] at hd
      have hto := htr.out
      rw [hd, trimR_snoc] at hto
      obtain ⟨b, o, hA, hb, hcell⟩ := (Hat.out.below hf).get j (bv c) (by rw [List.getElem?_map, List.getElem?_eq_getElem hj, hcc]; rfl)
      have hcell' : wr.cell? ⟨b, o + j, none⟩ = some (.int .u8 (c.toNat : Int)) := hcell
      subst hA
      by_cases h48 : c = 48
      · rw [if_pos h48] at hto
        subst h48
        have Hto := hide hto
        clear hto hd hcc htr hcell hj
        go_wp2
        refine ⟨⟨j, by omega, rfl, Hto, hf⟩, by show j < j + 1; omega⟩
      · rw [if_neg h48] at hto
        have hne : ((c.toNat : Int) == 48) = false := by
          rw [beq_eq_false_iff_ne]
          intro e
          exact h48 (UInt8.toNat_inj.1 (by rw [show (48 : UInt8).toNat = 48 from rfl]; omega))
        have hlen : (trimR d).length = j + 1 := by
          rw [← hto, List.length_append, List.length_take]
          simp
          omega
        have Hlen := hide hlen
        clear hto hd hcc htr hcell hj h48 hlen
        go_wp2
        go_returns
        exact ⟨by rw [Hlen.out] <;> rfl, hf⟩
    · have hk0 : k = 0 := by omega
      subst hk0
      have hlen : (trimR d).length = 0 := by rw [← htr.out]; rfl
      have Hlen := hide hlen
      clear htr hlen
      go_wp2
      go_returns
      exact ⟨by rw [Hlen.out] <;> rfl, hf⟩
set_option maxHeartbeats 1000000 in
theorem trimright_any {w : World} {A : Option Addr} {d : List UInt8} (h : At w A (d.map bv)) (n cap : Nat) (hn : n = d.length) (hc : n ≤ cap) (hm : cap ≤ maxLen) :
    Calls Tryd.prog 65 #[.slice A n cap, .string ⟨#[48]⟩] w fun x w' => x = .returned (.slice A (trimR d).length cap) ∧ Below w.heap.size w w' := by
  have H := hide (trb_any h n cap hn hc hm)
  by_cases h0 : n = 0
  · subst h0
    have hd : d = [] := List.eq_nil_of_length_eq_zero hn.symm
    subst hd
    have ht : (trimR ([] : List UInt8)).length = 0 := rfl
    rw [ht]
    clear h hn H hm ht
    go_enter Tryd.func65, Tryd.ntmps65
    go_wp2
    go_returns
    exact ⟨rfl, Below.refl _ _⟩
  · have hn0 : ((n : Int) == 0) = false := by rw [beq_eq_false_iff_ne]; omega
    have hg0 : ((⟨#[48]⟩ : ByteArray)[0]'Nat.zero_lt_one) = 48 := rfl
    clear h hn hm h0 hc
    go_enter Tryd.func65, Tryd.ntmps65
    go_wp2_with (go_at_call 74; refine (H.out).mono ?_; rintro x w1 ⟨rfl, hb⟩)
    go_returns
    exact ⟨rfl, hb⟩
/-- A number is given back as a result. -/
theorem nres_end {w0 w : World} {r : Nat} (hr : Bk w r 41 #[.bool false, .slice none 0 0, .int .i64 0]) (hb : Below w0.heap.size w0 w) (h0 : w0.heap.size ≤ r) {L : List UInt8} {A : Option Addr} (ha : At w A (L.map bv)) (b : Bool) (v : Value) (e : Int) :
    ∃ W, (((w.setCell ⟨r, 0, none⟩ (.bool b)).setCell ⟨r, 1, none⟩ v).setCell ⟨r, 2, none⟩ (.int .i64 e)) = W ∧ W.cell? ⟨r, 0, none⟩ = some (.bool b) ∧ W.cell? ⟨r, 1, none⟩ = some v ∧ W.cell? ⟨r, 2, none⟩ = some (.int .i64 e) ∧ At W A (L.map bv) ∧ Below w0.heap.size w0 W := by
  have hf : Fr (only r) w (((w.setCell ⟨r, 0, none⟩ (.bool b)).setCell ⟨r, 1, none⟩ v).setCell ⟨r, 2, none⟩ (.int .i64 e)) := only_set (only_set (only_set (Fr.refl _ _) 0 _) 1 _) 2 _
  have hk := ((hr.put 0 (.bool b)).put 1 v).put 2 (.int .i64 e)
  exact ⟨_, rfl, hk.cell 0, hk.cell 1, hk.cell 2, at_only ha hr (fun x hx => by
    obtain ⟨q, _, rfl⟩ := List.mem_map.1 hx
    simp [bv]) hf, hb.trans (own_below hf hb.size h0)⟩
set_option maxHeartbeats 1000000 in
theorem ptrim_any {w : World} {v : Value} {n : Num} (h : NV w v n) (hs : Sz n) :
    Calls Tryd.prog 52 #[v] w fun x w' => ∃ v', x = .returned v' ∧ NV w' v' (trimN n) ∧ Below w.heap.size w w' := by
  obtain ⟨A, cap, rfl, hat, hc, hm⟩ := h
  obtain ⟨b, d, e⟩ := n
  obtain ⟨s1, s2, s3⟩ := hs
  simp only at *
  have hr0 := Bk.new (w.alloc (.cells #[.bool b, .slice A d.length cap, .int .i64 e] 41)) 41 #[.bool false, .slice none 0 0, .int .i64 0]
  rw [World.size_alloc] at hr0
  have hx0 : Bk ((w.alloc (.cells #[.bool b, .slice A d.length cap, .int .i64 e] 41)).alloc (.cells #[.bool false, .slice none 0 0, .int .i64 0] 41)) w.heap.size 41 #[.bool b, .slice A d.length cap, .int .i64 e] := Bk.alloc (Bk.new _ _ _) _
  have hb0 := two_below w (.cells #[.bool b, .slice A d.length cap, .int .i64 e] 41) (.cells #[.bool false, .slice none 0 0, .int .i64 0] 41)
  have hat0 := (hat.alloc (.cells #[.bool b, .slice A d.length cap, .int .i64 e] 41)).alloc (.cells #[.bool false, .slice none 0 0, .int .i64 0] 41)
  have H1 := hide (trimleft_any hat0 d.length cap rfl hc hm)
  have Hx0 := hide hx0
  have Hr0 := hide hr0
  have Hb0 := hide hb0
  clear hat hat0 hx0 hr0 hb0
  go_enter Tryd.func52, Tryd.ntmps52
  go_wp2_with fail
  refine (H1.out).mono ?_
  rintro x w1 ⟨v1, rfl, ⟨A1, cap1, rfl, hat1, hc1, hm1⟩, hb1⟩
  obtain ⟨T, hT⟩ : ∃ T, trimL d = T := ⟨_, rfl⟩
  have htl : T.length ≤ d.length := by rw [← hT]; exact trimL_len d
  have htn : trimN ⟨b, d, e⟩ = if trimR T = [] then zeroN else ⟨b, trimR T, e + ((T.length - (trimR T).length : Nat) : Int)⟩ := by unfold trimN; simp only [hT]
  rw [hT] at hat1 hc1
  obtain ⟨R, hR⟩ : ∃ R, trimR T = R := ⟨_, rfl⟩
  have hrl : R.length ≤ T.length := by rw [← hR]; exact trimR_len T
  have hrt : T.take R.length = R := by
    obtain ⟨k, hk⟩ := trimR_pre T
    rw [hR] at hk
    have : T.take R.length = (R ++ List.replicate k 48).take R.length := by rw [← hk]
    rw [this, List.take_left]
  have hx1 := Bk.below Hx0.out hb1 (Bk.lt Hx0.out)
  have hr1 := Bk.below Hr0.out hb1 (Bk.lt Hr0.out)
  have hbw1 := Hb0.out.trans (hb1.mono Hb0.out.size)
  have hno : ∀ v ∈ T.map bv, v ∉ (#[.bool b, .slice A d.length cap, .int .i64 e] : Array Value).toList := fun v hv => by
    obtain ⟨y, _, rfl⟩ := List.mem_map.1 hv
    simp [bv]
  have hat2 := at_off hat1 hx1 hno 1 (.slice A1 T.length cap1)
  have hx2 := hx1.put 1 (.slice A1 T.length cap1)
  have hr2 := hr1.off (p := ⟨w.heap.size, 1, none⟩) (by simp) (.slice A1 T.length cap1)
  have hbw2 := hbw1.setCell (p := ⟨w.heap.size, 1, none⟩) (Nat.le_refl _) (.slice A1 T.length cap1)
  have c1 := hx1.cell 1
  have f1 := hx1.frozen 1
  simp at c1
  have h2 := trimright_any hat2 T.length cap1 rfl hc1 hm1
  rw [hR] at h2
  rw [hT]
  have H2 := hide h2
  have Hx2 := hide hx2
  have Hr2 := hide hr2
  have Hbw2 := hide hbw2
  have Hat2 := hide hat2
  rw [hR] at htn
  have Htn := hide htn
  have Hrt := hide hrt
  clear hx1 hr1 hbw1 hno hat2 hx2 hr2 hbw2 hb1 hat1 H1 Hx0 Hr0 Hb0 htn hrt hT hR h2
  go_wp2_with fail
  refine (H2.out).mono ?_
  rintro x w2 ⟨rfl, hb2⟩
  have hx3 := Bk.below Hx2.out hb2 (Bk.lt Hx2.out)
  have hr3 := Bk.below Hr2.out hb2 (Bk.lt Hr2.out)
  have hat3 := Hat2.out.below hb2
  have hbw3 := Hbw2.out.trans (hb2.mono Hbw2.out.size)
  clear c1 f1
  have e1 : ((T.length - R.length : Nat) : Int) = (T.length : Int) - (R.length : Int) := by omega
  obtain ⟨E, hE⟩ : ∃ E, e + ((T.length : Int) - (R.length : Int)) = E := ⟨_, rfl⟩
  have hno : ∀ (L : List UInt8) (x : Bool) (y : Value) (z : Int), y = .slice A1 T.length cap1 ∨ y = .slice none 0 0 → ∀ v ∈ L.map bv, v ∉ (#[.bool x, y, .int .i64 z] : Array Value).toList := fun L x y z hy v hv => by
    obtain ⟨q, _, rfl⟩ := List.mem_map.1 hv
    rcases hy with rfl | rfl <;> simp [bv]
  have hx3' : Bk w2 w.heap.size 41 #[.bool b, .slice A1 T.length cap1, .int .i64 e] := by simpa using hx3
  have hx4 : Bk (w2.setCell ⟨w.heap.size, 2, none⟩ (.int .i64 E)) w.heap.size 41 #[.bool b, .slice A1 T.length cap1, .int .i64 E] := by simpa using hx3'.put 2 (.int .i64 E)
  have hat4 := at_off hat3 hx3' (hno _ _ _ _ (.inl rfl)) 2 (.int .i64 E)
  have hat5 := at_off hat4 hx4 (hno _ _ _ _ (.inl rfl)) 1 (.slice A1 R.length R.length)
  have hr4 := (hr3.off (p := ⟨w.heap.size, 2, none⟩) (by simp) (.int .i64 E)).off (p := ⟨w.heap.size, 1, none⟩) (by simp) (.slice A1 R.length R.length)
  have hbw4 := (hbw3.setCell (p := ⟨w.heap.size, 2, none⟩) (Nat.le_refl _) (.int .i64 E)).setCell (p := ⟨w.heap.size, 1, none⟩) (Nat.le_refl _) (.slice A1 R.length R.length)
  have c0 := hx3'.cell 0
  have c1 := hx3'.cell 1
  have c2 := hx3'.cell 2
  have f1 := hx3'.frozen 1
  have f2 := hx3'.frozen 2
  have r0 := hr3.cell 0
  have r1 := hr3.cell 1
  have r2 := hr3.cell 2
  have g0 := hr3.frozen 0
  have g1 := hr3.frozen 1
  have g2 := hr3.frozen 2
  simp at c0 c1 c2 r0 r1 r2
  have hz := hide hno
  have hat6 := at_front hat5 R.length
  rw [← List.map_take, Hrt.out] at hat6
  have Hat5 := hide hat6
  have Hr4 := hide hr4
  have Hbw4 := hide hbw4
  have hEs : -4000000 ≤ E ∧ E ≤ 4000000 := by omega
  have HE := hide hE
  have He1 := hide e1
  clear e1
  have hcap : R.length ≤ cap1 := by omega
  clear hx3 hx3' hx4 hat3 hat4 hat5 hat6 hr3 hr4 hbw3 hbw4 hb2 Hx2 Hr2 Hbw2 Hat2 H2 hno
  by_cases hR0 : R = []
  · have hl : R.length = 0 := by rw [hR0]; rfl
    have ht := Htn.out
    rw [if_pos hR0] at ht
    have Ht := hide ht
    obtain ⟨WF, hWF, u0, u1, u2, hatF, hbF⟩ := nres_end Hr4.out Hbw4.out (by omega) Hat5.out false (.slice none 0 0) 0
    have HWF := hide hWF
    have HbF := hide hbF
    have hl2 : ((R.length : Int) == 0) = true := by rw [beq_iff_eq]; omega
    clear ht Htn hWF hatF hbF Hr4 Hbw4 Hat5 hR0 HE He1 hz Hrt hl
    go_wp2
    rw [HWF.out]
    refine bodyPost_ret (by simp [results, Tryd.results52, go_sem, u0, u1, u2]; try rfl) rfl ?_
    rw [Ht.out]
    exact ⟨_, rfl, ⟨none, 0, rfl, At.nil _ _, Nat.le_refl _, Nat.zero_le _⟩, HbF.out⟩
  · have hl : ((R.length : Int) == 0) = false := by
      rw [beq_eq_false_iff_ne]
      intro h
      exact hR0 (List.eq_nil_of_length_eq_zero (by omega))
    have ht := Htn.out
    rw [if_neg hR0] at ht
    have Ht := hide ht
    obtain ⟨WF, hWF, u0, u1, u2, hatF, hbF⟩ := nres_end Hr4.out Hbw4.out (by omega) Hat5.out b (.slice A1 R.length R.length) E
    have HWF := hide hWF
    have HatF := hide hatF
    have HbF := hide hbF
    clear ht hR0 Htn hWF hatF hbF Hr4 Hbw4 Hat5
    go_wp2
    rw [HWF.out]
    refine bodyPost_ret (by simp [results, Tryd.results52, go_sem, u0, u1, u2]; try rfl) rfl ?_
    rw [Ht.out]
    exact ⟨_, rfl, ⟨A1, R.length, by rw [He1.out, HE.out], HatF.out, Nat.le_refl _, Nat.le_trans hcap hm1⟩, HbF.out⟩
end Go.Proofs.YtkgclfagimlneaaDoor
/-
  The walks over decimal numbers: the closures of a scan.
-/
namespace Go.Proofs.YtkgclfagimlneaaDoor
open Go.RowKit Go.Proofs Wv Wv.Dc
set_option linter.unusedVariables false

/-- Whether the byte at a place is one of some. -/
def hitB (S L : List UInt8) (k : Nat) : Bool := match L[k]? with
  | some c => S.contains c
  | none => false
def hitK (S L : List UInt8) (k : Nat) : Nat := if hitB S L k then k + 1 else k
theorem byte_at (s : ByteArray) (k : Nat) (h : k < s.size) : (toL s)[k]? = some (s[k]'h) := by
  have hl : k < (toL s).length := h
  rw [List.getElem?_eq_getElem hl]
  simp only [toL, Array.getElem_toList]
  rfl
theorem byte_no (s : ByteArray) (k : Nat) (h : ¬ k < s.size) : (toL s)[k]? = none := List.getElem?_eq_none (by rw [toL_length]; omega)
set_option maxHeartbeats 2000000 in
theorem one_any {w : World} {ba bb k : Nat} {s : ByteArray} {S : List UInt8} (ha : Bk w ba 3 #[.int .i64 (k : Int)]) (hb : Bk w bb 9 #[.string s]) (hk : k ≤ s.size) (hs : s.size ≤ 64) (hS : S.length ≤ 2) :
    Calls Tryd.prog 50 #[.string (bs S), .pointer (some ⟨ba, 0, none⟩), .pointer (some ⟨bb, 0, none⟩)] w fun x w' => x = .returned (.bool (hitB S (toL s) k)) ∧ Bk w' ba 3 #[.int .i64 (hitK S (toL s) k : Int)] ∧ Bk w' bb 9 #[.string s] ∧ Fr (only ba) w w' := by
  have Ha := hide ha
  have Hb := hide hb
  have hsz : (bs S).size = S.length := rfl
  by_cases hlt : k < s.size
  · have hat := byte_at s k hlt
    obtain ⟨c, hc⟩ : ∃ c, s[k] = c := ⟨_, rfl⟩
    rw [hc] at hat
    have hhit : hitB S (toL s) k = S.contains c := by unfold hitB; rw [hat]
    have hcn : ((s[k]'hlt).toNat : Int) = (c.toNat : Int) := by rw [hc]
    have Hget := hide (show ∀ (i : Nat) (h : i < (bs S).size) (h2 : i < S.length), ((bs S)[i]'h) = S[i] from fun i h h2 => rfl)
    have Hhit := hide hhit
    have Hk0 := hide (show S.contains c = false → hitK S (toL s) k = k from fun h => by unfold hitK; rw [hhit, h]; rfl)
    have Hk1 := hide (show S.contains c = true → hitK S (toL s) k = k + 1 from fun h => by unfold hitK; rw [hhit, h]; rfl)
    obtain ⟨C, hC⟩ : ∃ C, c.toNat = C := ⟨_, rfl⟩
    rw [hC] at hcn
    have HC := hide hC
    generalize bs S = B at *
    obtain ⟨L, hL⟩ : ∃ L, S.length = L := ⟨_, rfl⟩
    have HL := hide hL
    rw [hL] at hsz hS
    have Hsz := hide hsz
    have hBs : B.size ≤ 2 := by omega
    clear ha hb hhit hsz hL hat hc hC
    go_enter Tryd.func50, Tryd.ntmps50
    go_wp2
    go_loopw [8] (fun iv wr => ∃ i : Nat, i ≤ B.size ∧ iv = .int .i64 i ∧ Bk wr ba 3 #[.int .i64 (k : Int)] ∧ Bk wr bb 9 #[.string s] ∧ Hid (∀ j, j < i → S[j]? ≠ some c) ∧ Fr (only ba) w wr) (fun iv _ => (B.size - intOf iv).toNat)
    case atStart => exact ⟨0, by omega, rfl, Ha.out, Hb.out, hide (fun j h => by omega), Fr.refl _ _⟩
    case round =>
      obtain ⟨i, hi, rfl, ha1, hb1, hno, hf⟩ := hrel
      have c0 := ha1.cell 0
      have c1 := hb1.cell 0
      have f0 := ha1.frozen 0
      simp at c0 c1
      by_cases hil : i < B.size
      · have hiS : i < S.length := by rw [HL.out]; have := Hsz.out; omega
        obtain ⟨d, hd⟩ : ∃ d, S[i] = d := ⟨_, rfl⟩
        obtain ⟨D, hD⟩ : ∃ D, d.toNat = D := ⟨_, rfl⟩
        have hdn : ((B[i]'hil).toNat : Int) = (D : Int) := by rw [Hget.out i hil hiS, hd, hD]
        by_cases hcd : c = d
        · have hcon : S.contains c = true := by
            rw [List.contains_iff_mem, hcd, ← hd]
            exact List.getElem_mem _
          have heq : ((C : Int) == (D : Int)) = true := by rw [beq_iff_eq, ← HC.out, ← hD, hcd]
          have hh := Hhit.out
          rw [hcon] at hh
          have Hh := hide hh
          have hkk := Hk1.out hcon
          have Hkk := hide hkk
          clear hcon hh hkk Hhit Hk0 Hk1 hno Hget hd hD hcd HC HL Hsz
          go_wp2
          go_quiet (fail)
          go_wp2
          go_returns
          rw [Hh.out, Hkk.out]
          refine ⟨rfl, ?_, (hb1.drewN nq).off (p := ⟨ba, 0, none⟩) ?_ _, only_set (hf.drewN nq) 0 _⟩
          · simpa using (ha1.drewN nq).put 0 (.int .i64 ((k + 1 : Nat) : Int))
          · exact fun e => (hb1.apart ha1 (by decide)) e
        · have hne : ((C : Int) == (D : Int)) = false := by
            rw [beq_eq_false_iff_ne, ← HC.out, ← hD]
            intro e
            exact hcd (UInt8.toNat_inj.1 (by omega))
          have hno2 : Hid (∀ j, j < i + 1 → S[j]? ≠ some c) := hide (fun j h => by
            rcases Nat.lt_or_ge j i with h1 | h1
            · exact hno.out j h1
            · have : j = i := by omega
              subst this
              rw [List.getElem?_eq_getElem hiS, hd]
              intro e
              injection e with e
              exact hcd e.symm)
          clear Hhit Hk0 Hk1 hno Hget hd hD hcd HC HL Hsz
          go_wp2
          go_quiet (fail)
          go_wp2
          refine ⟨⟨i + 1, by omega, by go_num, ha1.drewN nq, hb1.drewN nq, hno2, hf.drewN nq⟩, ?_⟩
          simp [intOf] <;> omega
      · have hcon : S.contains c = false := by
          rw [Bool.eq_false_iff]
          intro h
          rw [List.contains_iff_mem] at h
          obtain ⟨j, hj, he⟩ := List.getElem_of_mem h
          exact hno.out j (by have := HL.out; have := Hsz.out; omega) (by rw [List.getElem?_eq_getElem hj, he])
        have hh := Hhit.out
        rw [hcon] at hh
        have Hh := hide hh
        have hkk := Hk0.out hcon
        have Hkk := hide hkk
        clear hcon hh hkk Hhit Hk0 Hk1 hno Hget HC HL Hsz
        go_wp2
        go_returns
        rw [Hh.out, Hkk.out]
        exact ⟨rfl, ha1, hb1, hf⟩
  · have hhit : hitB S (toL s) k = false := by unfold hitB; rw [byte_no s k hlt]
    have hk2 : k = s.size := by omega
    have Hhit := hide hhit
    have Hkk := hide (show hitK S (toL s) k = k by unfold hitK; rw [hhit]; rfl)
    generalize bs S = B at *
    obtain ⟨L, hL⟩ : ∃ L, S.length = L := ⟨_, rfl⟩
    rw [hL] at hsz hS
    have Hsz := hide hsz
    have hBs : B.size ≤ 2 := by omega
    clear ha hb hhit hsz hL
    go_enter Tryd.func50, Tryd.ntmps50
    go_wp2
    go_loopw [8] (fun iv wr => ∃ i : Nat, i ≤ B.size ∧ iv = .int .i64 i ∧ Bk wr ba 3 #[.int .i64 (k : Int)] ∧ Bk wr bb 9 #[.string s] ∧ Fr (only ba) w wr) (fun iv _ => (B.size - intOf iv).toNat)
    case atStart => exact ⟨0, by omega, rfl, Ha.out, Hb.out, Fr.refl _ _⟩
    case round =>
      obtain ⟨i, hi, rfl, ha1, hb1, hf⟩ := hrel
      have c0 := ha1.cell 0
      have c1 := hb1.cell 0
      simp at c0 c1
      by_cases hil : i < B.size
      · go_wp2
        go_quiet (fail)
        go_wp2
        refine ⟨⟨i + 1, by omega, by go_num, ha1.drewN nq, hb1.drewN nq, hf.drewN nq⟩, ?_⟩
        simp [intOf] <;> omega
      · go_wp2
        go_returns
        rw [Hhit.out, Hkk.out]
        exact ⟨rfl, by first | exact ha1 | (rw [hk2] at ha1; exact ha1), hb1, hf⟩
end Go.Proofs.YtkgclfagimlneaaDoor
/-
  The walks over decimal numbers: the closure of a scan that takes digits.
-/
namespace Go.Proofs.YtkgclfagimlneaaDoor
open Go.RowKit Go.Proofs Wv Wv.Dc
set_option linter.unusedVariables false

theorem dfr_pre (L : List UInt8) : dfr L = L.take (dfr L).length := by
  have h := (List.takeWhile_prefix isD (l := L))
  exact (List.prefix_iff_eq_take.1 h)
theorem dfr_get (L : List UInt8) (j : Nat) (h : j < (dfr L).length) : ∃ c, L[j]? = some c ∧ isD c = true := by
  obtain ⟨c, hc⟩ : ∃ c, (dfr L)[j] = c := ⟨_, rfl⟩
  have hd : isD c = true := hc ▸ dfr_all L _ (List.getElem_mem _)
  have h1 : (dfr L)[j]? = some c := by rw [List.getElem?_eq_getElem h, hc]
  have h2 : (L.take (dfr L).length)[j]? = some c := by rw [← dfr_pre L]; exact h1
  rw [List.getElem?_take, if_pos h] at h2
  exact ⟨c, h2, hd⟩
theorem dfr_stop (L : List UInt8) : ∀ c, L[(dfr L).length]? = some c → isD c = false := by
  unfold dfr
  induction L with
  | nil => intro c h; simp at h
  | cons a t ih =>
    intro c h
    rw [List.takeWhile_cons] at h
    split at h
    · rw [List.length_cons, List.getElem?_cons_succ] at h
      exact ih c h
    · rename_i ha
      simp at h
      subst h
      simpa using ha
def amu (b n : Nat) (w : World) : Nat := match w.cell? ⟨b, 0, none⟩ with
  | some (.int _ k) => (n - k).toNat
  | _ => 0
theorem amu_eq {w : World} {b n k : Nat} (h : Bk w b 3 #[.int .i64 (k : Int)]) : amu b n w = ((n : Int) - (k : Int)).toNat := by
  have := h.cell 0
  simp at this
  unfold amu
  rw [this]
theorem ext_mid (s : ByteArray) (a b : Nat) : s.extract a b = bs (((toL s).drop a).take (b - a)) := by
  apply ByteArray.ext
  apply Array.toList_inj.1
  simp only [bs, toL, ByteArray.data_extract, Array.toList_extract, List.extract_eq_take_drop]
set_option maxHeartbeats 2000000 in
theorem dig_any {w : World} {ba bb k : Nat} {s : ByteArray} (ha : Bk w ba 3 #[.int .i64 (k : Int)]) (hb : Bk w bb 9 #[.string s]) (hk : k ≤ s.size) (hs : s.size ≤ 64) :
    Calls Tryd.prog 51 #[.pointer (some ⟨ba, 0, none⟩), .pointer (some ⟨bb, 0, none⟩)] w fun x w' => x = .returned (.string (bs (dfr ((toL s).drop k)))) ∧ Bk w' ba 3 #[.int .i64 ((k + (dfr ((toL s).drop k)).length : Nat) : Int)] ∧ Bk w' bb 9 #[.string s] ∧ Fr (only ba) w w' := by
  have Ha := hide ha
  have Hb := hide hb
  have hpre := dfr_pre ((toL s).drop k)
  have Hget := hide (dfr_get ((toL s).drop k))
  have Hstop := hide (dfr_stop ((toL s).drop k))
  obtain ⟨D, hD⟩ : ∃ D, dfr ((toL s).drop k) = D := ⟨_, rfl⟩
  rw [hD] at hpre Hget Hstop ⊢
  obtain ⟨m, hm⟩ : ∃ m, k + D.length = m := ⟨_, rfl⟩
  have hdl : D.length ≤ s.size - k := by
    have := dfr_len ((toL s).drop k)
    rw [hD, List.length_drop, toL_length] at this
    exact this
  have hms : m ≤ s.size := by omega
  have hex : s.extract k m = bs D := by
    rw [ext_mid, show m - k = D.length by omega, ← hpre]
  have Hex := hide hex
  have Hm := hide hm
  rw [hm]
  have hkm : k ≤ m := by omega
  have Hat : Hid (∀ j, k ≤ j → j < m → ∃ (h : j < s.size), isD (s[j]'h) = true) := hide (fun j h1 h2 => by
    obtain ⟨c, hc1, hc2⟩ := Hget.out (j - k) (by omega)
    have hj : j < s.size := by omega
    refine ⟨hj, ?_⟩
    rw [List.getElem?_drop, show k + (j - k) = j by omega, byte_at s j hj] at hc1
    injection hc1 with hc1
    rw [hc1]
    exact hc2)
  have Hend : Hid (∀ (h : m < s.size), isD (s[m]'h) = false) := hide (fun h => by
    refine Hstop.out _ ?_
    rw [List.getElem?_drop, show k + D.length = m from hm]
    exact byte_at s m h)
  clear ha hb hpre Hget Hstop hD hdl hex hm
  have c00 := Ha.out.cell 0
  simp at c00
  go_enter Tryd.func51, Tryd.ntmps51
  go_wp2
  go_loopw [] (fun wr => ∃ j : Nat, k ≤ j ∧ j ≤ m ∧ Bk wr ba 3 #[.int .i64 (j : Int)] ∧ Bk wr bb 9 #[.string s] ∧ Fr (only ba) w wr) (fun wr => amu ba m wr)
  case atStart => exact ⟨k, Nat.le_refl _, hkm, Ha.out, Hb.out, Fr.refl _ _⟩
  case round =>
    obtain ⟨j, hj1, hj2, ha1, hb1, hf⟩ := hrel
    have c0 := ha1.cell 0
    have c1 := hb1.cell 0
    have f0 := ha1.frozen 0
    simp at c0 c1
    by_cases hlt : j < m
    · obtain ⟨hjs, hdg⟩ := Hat.out j hj1 hlt
      obtain ⟨C, hC⟩ : ∃ C, (s[j]'hjs).toNat = C := ⟨_, rfl⟩
      have hC2 : 48 ≤ C ∧ C ≤ 57 := by
        unfold isD at hdg
        simp at hdg
        omega
      obtain ⟨q1, q2⟩ := hC2
      have hne := hb1.apart ha1 (by decide)
      have hput := ha1.put 0 (.int .i64 ((j + 1 : Nat) : Int))
      have Hput := hide (show Bk (wr.setCell ⟨ba, 0, none⟩ (.int .i64 ((j + 1 : Nat) : Int))) ba 3 #[.int .i64 ((j + 1 : Nat) : Int)] by simpa using hput)
      have Hb1 := hide (hb1.off (p := ⟨ba, 0, none⟩) hne (.int .i64 ((j + 1 : Nat) : Int)))
      have Hf := hide (only_set hf 0 (.int .i64 ((j + 1 : Nat) : Int)))
      have Hmu := hide (amu_eq (n := m) ha1)
      clear hdg hput hb1 hf ha1 hne Hat Hend
      go_wp2
      have e1 : (j : Int) + 1 = ((j + 1 : Nat) : Int) := by omega
      rw [e1]
      refine ⟨⟨j + 1, by omega, by omega, Hput.out, Hb1.out, Hf.out⟩, ?_⟩
      rw [amu_eq Hput.out, Hmu.out]
      omega
    · have hjm : j = m := by omega
      subst hjm
      have Ha1 := hide ha1
      have Hb1 := hide hb1
      have Hf := hide hf
      have hjk : (k : Int) ≤ (j : Int) := by omega
      by_cases hjs : j < s.size
      · have hdg := Hend.out hjs
        obtain ⟨C, hC⟩ : ∃ C, (s[j]'hjs).toNat = C := ⟨_, rfl⟩
        have hC2 : C < 48 ∨ 57 < C := by
          unfold isD at hdg
          simp at hdg
          omega
        clear hdg ha1 hb1 hf Hat Hend
        rcases hC2 with q1 | q1
        all_goals
          go_wp2
          go_returns
          exact ⟨ret_str Hex.out, Ha1.out, Hb1.out, Hf.out⟩
      · have hjz : ¬ (j : Int) < (s.size : Int) := by omega
        clear ha1 hb1 hf Hat Hend
        go_wp2
        go_returns
        exact ⟨ret_str Hex.out, Ha1.out, Hb1.out, Hf.out⟩
end Go.Proofs.YtkgclfagimlneaaDoor
