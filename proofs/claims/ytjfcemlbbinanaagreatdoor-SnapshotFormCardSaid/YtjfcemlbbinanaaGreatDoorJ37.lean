/-
  The walks over frames: a frame is written.
-/
import Derived.Test.YtjfcemlbbinanaaGreatDoorJ34
set_option linter.unusedVariables false
set_option linter.unusedSimpArgs false
namespace Go.Proofs.YtjfcemlbbinanaaGreatDoor
open Go.RowKit Go.Proofs Wv Wv.Vi Wv.Rc Wv.Mo Wv.Ru Wv.Lz Wv.Fm
set_option linter.unusedVariables false
theorem conv_two {w : World} {g : Nat} (a b : Nat) (ha : a < 256) (hb : b < 256) (h : Bk w g 5 #[.int .u8 (a : Int), .int .u8 (b : Int)]) :
  (convert 74 9 (.slice (some ⟨g, 0, none⟩) 2 2)).run Tryz.prog w = .ok (.string (bs [UInt8.ofNat a, UInt8.ofNat b])) w := by
 refine run_convert_bytes_back w 74 9 5 ⟨g, 0, none⟩ 2 [UInt8.ofNat a, UInt8.ofNat b] Tryz.underlying74 Tryz.underlying5 Tryz.underlying9 (fun j hj => ?_)
 have hj2 : j < 2 := hj
 rw [Go.WideShapes.add_plain, Nat.zero_add, h.cell]
 have : j = 0 ∨ j = 1 := by omega
 rcases this with rfl | rfl <;> simp [Nat.mod_eq_of_lt, *]
theorem lzE_len {c t : List UInt8} (h : lzE c = some t) : t.length ≤ 600000 := by
 unfold lzE at h
 split at h
 ·cases h
 ·rename_i hc
  injection h with h
  rw [← h, List.length_append]
  have h9 := kof9 c.length
  split
  ·simp; omega
  ·have key : ∀ (i : Nat) (l : List Pc), Parses c i l → ∀ x : Ms × En, (pencs l x).2.out.length ≤ x.2.out.length + 135 * (c.length - i) := by
    intro i l hp
    induction hp with
    | done => intro x; show x.2.out.length ≤ _; omega
    | @step i p l hk r ih =>
     intro x
     obtain ⟨o1, o2, o3⟩ := pc_some hk (by omega)
     have hpos := hk.pos
     have h1 := ih (penc p x)
     have h2 := penc_len o1 o2 (by omega) x
     rw [pencs_cons]
     omega
   have := key 0 (parse c) (parse_parses c) (m0, e0)
   have e : (m0, e0).2.out.length = 0 := rfl
   rw [e] at this
   unfold efin
   rw [List.length_append, be4]
   simp only [List.length_cons, List.length_nil]
   omega
theorem wrapS_eq (k : Nat) (c : List UInt8) : wrapS k c = match lzE c with
  | none => none
  | some t => some (wrapT k c t) := by
 unfold wrapS
 cases lzE c <;> rfl
theorem two_in {w w2 : World} {o : Obj} (hb2 : Below (w.alloc o).drew.heap.size (w.alloc o).drew w2) : w2.heap[w.heap.size]? = some o ∧ Below w.heap.size w w2 :=
 ⟨(hb2.block w.heap.size (by show w.heap.size < (w.alloc o).heap.size; simp)).trans (heap_alloc_new w o), ((Below.refl w.heap.size w).alloc (Nat.le_refl _) o).drew.trans (hb2.mono (by show w.heap.size ≤ (w.alloc o).heap.size; simp))⟩
set_option maxRecDepth 100000 in
set_option maxHeartbeats 4000000 in
theorem wrap_tail {k : Nat} (hk : k < 32) {c : List UInt8} (hc : c.length ≤ 4096) {R : List UInt8} (hR : sealB (165 :: UInt8.ofNat k :: (num c.length ++ c)) = R) :
  (∀ W : World, (convert 74 9 (.slice (some ⟨W.heap.size, 0, none⟩) 2 2)).run Tryz.prog (W.alloc (.cells #[.int .u8 165, .int .u8 (k : Int)] 5)) = .ok (.string (bs [165, UInt8.ofNat k])) (W.alloc (.cells #[.int .u8 165, .int .u8 (k : Int)] 5))) ∧
  (∀ (W w2 : World), w2.heap[W.heap.size]? = some (.cells #[.int .u8 165, .int .u8 (k : Int)] 5) → (convert 74 9 (.slice (some ⟨W.heap.size, 0, none⟩) 2 2)).run Tryz.prog w2 = .ok (.string (bs [165, UInt8.ofNat k])) w2) ∧
  (∀ W : World, Calls Tryz.prog 25 #[.string (bs c)] W fun x w' => x = .returned (.string (bs (num c.length ++ c))) ∧ Below W.heap.size W w') ∧
  (∀ W : World, Calls Tryz.prog 38 #[.string (bs [165, UInt8.ofNat k] ++ bs (num c.length ++ c))] W fun x w' => x = .returned (.string (bs R)) ∧ Below W.heap.size W w') ∧ (bs [165, UInt8.ofNat k]).size = 2 ∧ (bs (num c.length ++ c)).size ≤ 10000 := by
 have e165 : (165 : UInt8) = UInt8.ofNat 165 := rfl
 refine ⟨fun W => ?_, fun W w2 h => ?_, fun W => ?_, fun W => ?_, rfl, ?_⟩
 ·exact conv_two 165 k (by omega) (by omega) (Bk.new W _ _)
 ·exact conv_two 165 k (by omega) (by omega) h
 ·have h1 := text_any (bs c) (by rw [bs_size]; omega) W
  have h2 : text (bs c) = num c.length ++ c := by unfold text; rw [bs_size, toL_bs]
  rw [h2] at h1
  exact h1
 ·have := crcseal_any (165 :: UInt8.ofNat k :: (num c.length ++ c)) (by have := kof9 c.length; simp only [List.length_cons, List.length_append]; omega) W
  rw [hR] at this
  rw [bs_append]
  exact this
 ·have := kof9 c.length
  rw [bs_size, List.length_append]
  omega
theorem bel3 {w W1 w2 w3 : World} (h1 : Below w.heap.size w W1) (h2 : Below W1.heap.size W1 w2) (h3 : Below w2.heap.size w2 w3) : Below w.heap.size w w3 :=
 (h1.trans (h2.mono h1.size)).trans (h3.mono (Nat.le_trans h1.size h2.size))
theorem bel3a {w W1 w2 w3 : World} {o : Obj} (h1 : Below w.heap.size w W1) (h2 : Below W1.heap.size W1 w2) (h3 : Below (w2.alloc o).heap.size (w2.alloc o) w3) : Below w.heap.size w w3 :=
 bel3 h1 (h2.alloc h2.size o) h3
def frV (k : Nat) (c : List UInt8) : Value := .agg #[.int .i64 (k : Int), .string (bs c)]
set_option maxRecDepth 100000 in
set_option maxHeartbeats 4000000 in
theorem wrap_any (k : Nat) (hk : k < 16) (c : List UInt8) (hc : c.length ≤ 1000000000) (w : World) :
  Calls Tryz.prog 26 #[frV k c] w fun x w' => x = .returned (optV (wrapS k c)) ∧ Below w.heap.size w w' := by
 have Hen := hide (fun W => lzencode_any c hc W)
 have hW := wrapS_eq k c
 have he : bs ([] : List UInt8) = ⟨#[]⟩ := rfl
 have hb0 := hide ((Below.refl w.heap.size w).alloc (Nat.le_refl _) (.cells #[.int .i64 (k : Int), .string (bs c)] 50))
 have hK0 := hide (Bk.new w 50 #[.int .i64 (k : Int), .string (bs c)])
 have hk15 : ¬ (15 : Int) < (k : Int) := by omega
 unfold frV
 cases hE : lzE c with
 | none =>
  rw [hE] at hW Hen
  simp only at hW
  rw [hW]
  have hov : optV none = .tuple #[.string ⟨#[]⟩, .int .i64 9] := rfl
  rw [hov] at Hen ⊢
  generalize bs c = S at *
  clear hE hW he hov hc hK0
  go_enter Tryz.func26, Tryz.ntmps26
  go_wp2_with fail
  refine (Hen.out _).mono ?_
  rintro x w1 ⟨rfl, hb1⟩
  have hbb := hide (hb0.out.trans (hb1.mono (by simp)))
  clear hb1 hb0
  go_wp2
  go_returns
  exact ⟨rfl, hbb.out⟩
 | some t =>
  rw [hE] at hW Hen
  simp only at hW
  rw [hW]
  have hov : optV (some t) = .tuple #[.string (bs t), .int .i64 0] := rfl
  have hov2 : optV (some (wrapT k c t)) = .tuple #[.string (bs (wrapT k c t)), .int .i64 0] := rfl
  rw [hov] at Hen
  rw [hov2]
  have hc4 := lzE_some hE
  have htz : (bs t).size = t.length := bs_size t
  have hcz : (bs c).size = c.length := bs_size c
  have hWT : wrapT k c t = sealB (165 :: UInt8.ofNat (bodyK k c t) :: (num (bodyT c t).length ++ bodyT c t)) := rfl
  have hbl : (bodyT c t).length ≤ 4096 := by unfold bodyT; split <;> omega
  have hbk32 : bodyK k c t < 32 := by unfold bodyK; split <;> omega
  obtain ⟨T1, T2, T3, T4, T5, T6⟩ := wrap_tail hbk32 hbl hWT.symm
  obtain ⟨k2, hk2⟩ : ∃ x, bodyK k c t = x := ⟨_, rfl⟩
  rw [hk2] at T1 T2 T4 T5 hbk32
  have hcase : ((t.length < c.length ∧ k2 = k + 16 ∧ bs (bodyT c t) = bs t) ∨ (¬ t.length < c.length ∧ k2 = k ∧ bs (bodyT c t) = bs c)) := by
   rw [← hk2]
   unfold bodyK bodyT
   by_cases h : t.length < c.length
   ·rw [if_pos h, if_pos h]; exact .inl ⟨h, rfl, rfl⟩
   ·rw [if_neg h, if_neg h]; exact .inr ⟨h, rfl, rfl⟩
  rw [← htz, ← hcz] at hcase
  have hw8 : IntKind.u8.wrap (k2 : Int) = (k2 : Int) := by rw [IntKind.wrap_u8]; omega
  have Ht := hide T3
  have Hse := hide T4
  have H2 := hide T2
  have T9 := fun W : World => T2 W (W.alloc (.cells #[.int .u8 165, .int .u8 (k2 : Int)] 5)).drew (heap_alloc_new W _)
  have hts : (bs t).size ≤ 9000000000000000000 ∧ (bs c).size ≤ 9000000000000000000 := by
   have := lzE_len hE
   omega
  generalize bs (wrapT k c t) = RS at *
  generalize bs [165, UInt8.ofNat k2] = S1 at *
  generalize bs (num (bodyT c t).length ++ bodyT c t) = S2 at *
  generalize bs (bodyT c t) = BS at *
  generalize bs t = TS at *
  generalize bs c = S at *
  obtain ⟨ts1, ts2⟩ := hts
  have Hcase := hide hcase
  clear hE hW he hov hov2 hc hWT hk2 htz hcz T2 T3 T4 hc4 hbl hcase
  go_enter Tryz.func26, Tryz.ntmps26
  go_wp2_with fail
  refine (Hen.out _).mono ?_
  rintro x w1 ⟨rfl, hb1⟩
  have hK1 := hK0.out.below hb1 (by simp)
  have q0 := hK1.cell 0
  have q1 := hK1.cell 1
  simp at q0 q1
  have hbb := hide (hb0.out.trans (hb1.mono (by simp)))
  clear hb1 hb0 hK0 hK1 Hen
  go_wp2
  go_quiet (fail)
  go_upto_if 33 with fail
  go_cut [6, 7] (fun s6 s7 wx => s6 = .int .i64 (k2 : Int) ∧ s7 = .string BS ∧ Hid (Below w.heap.size w wx))
  case first =>
   have HbF := hide (bdN hbb.out nq)
   rcases Hcase.out with ⟨h1, h2, h3⟩ | ⟨h1, h2, h3⟩
   ·have hd : decide (TS.size < S.size) = true := decide_eq_true h1
    have hki : (k : Int) + 16 = (k2 : Int) := by omega
    subst h3
    clear Hcase hbb q0 q1 Ht Hse H2 T9 T1 h2 hw8
    go_wp2
    go_meet
    case rel => exact ⟨rfl, rfl, HbF⟩
   ·have hd : decide (TS.size < S.size) = false := decide_eq_false h1
    subst h3
    subst h2
    clear Hcase hbb q0 q1 Ht Hse H2 T9 T1
    go_wp2
    go_meet
    case rel => exact ⟨rfl, rfl, HbF⟩
  case rest =>
   obtain ⟨rfl, rfl, HB⟩ := hcut
   clear hbb q0 q1 Hcase hk15 hk
   go_wp2
   go_region_with (first
    | (go_at_call 25; refine (Ht.out _).mono ?_; rintro r w2 ⟨rfl, hb2⟩; first | (have hy := two_in hb2; have hcv := H2.out _ _ hy.1; have Hy := hide hy.2; clear hb2 hy) | (have Hy := hide (lvB hb2); clear hb2))
    | (go_at_call 38; refine (Hse.out _).mono ?_; rintro r w3 ⟨rfl, hb3⟩))
   all_goals
    have HF : Below w.heap.size w w3 := by
     first
      | exact bel3 HB.out Hy.out hb3
      | exact bel3a HB.out Hy.out hb3
    clear hb3
    go_wp2
    go_returns
    exact ⟨rfl, HF⟩
end Go.Proofs.YtjfcemlbbinanaaGreatDoor
