/-
  The laws of snapshots: changes in two parts.
-/
import Derived.Test.YtjfcemlbbinanaaGreatDoorJ45
set_option linter.unusedVariables false
set_option linter.unusedSimpArgs false
namespace Wv
open Go Go.RowKit
set_option linter.unusedVariables false
def Vls (w : World) (xs : List Value) (L : List (List (Int × ByteArray))) : Prop :=
 xs.length = L.length ∧ ∀ i (h : i < L.length), ∃ B cap, xs[i]? = some (.slice B L[i].length cap) ∧ At w B (cv L[i]) ∧ L[i].length ≤ cap
theorem Vls.below {w w' : World} {xs : List Value} {L : List (List (Int × ByteArray))} (h : Vls w xs L) (hb : Below w.heap.size w w') : Vls w' xs L :=
 ⟨h.1, fun i hi => by
  obtain ⟨B, cap, h1, h2, h3⟩ := h.2 i hi
  exact ⟨B, cap, h1, h2.below hb, h3⟩⟩
theorem Vls.nil (w : World) : Vls w [] [] := ⟨rfl, fun i hi => absurd hi (Nat.not_lt_zero _)⟩
theorem Vls.snoc {w : World} {xs : List Value} {L : List (List (Int × ByteArray))} (h : Vls w xs L) {B : Option Addr} {l : List (Int × ByteArray)} (cap : Nat) (hl : At w B (cv l)) (hc : l.length ≤ cap) : Vls w (xs ++ [.slice B l.length cap]) (L ++ [l]) := by
 refine ⟨by rw [List.length_append, List.length_append, h.1]; rfl, fun i hi => ?_⟩
 rw [List.length_append, List.length_singleton] at hi
 rcases Nat.lt_or_ge i L.length with h1 | h1
 ·obtain ⟨B', cap', h2, h3, h4⟩ := h.2 i h1
  rw [List.getElem_append_left h1]
  exact ⟨B', cap', by rw [List.getElem?_append_left (by rw [h.1]; exact h1)]; exact h2, h3, h4⟩
 ·have hiL : i = L.length := by omega
  subst hiL
  refine ⟨B, cap, ?_, ?_, by simpa using hc⟩
  ·rw [List.getElem?_append_right (by rw [h.1]; exact Nat.le_refl _), h.1, Nat.sub_self]
   simp
  ·simpa using hl
theorem Vls.cha {w : World} {A : Option Addr} {xs : List Value} {L : List (List (Int × ByteArray))} (h : Vls w xs L) (ha : At w A xs) : ChA w A L := by
 intro i hi
 obtain ⟨B, cap, h1, h2, h3⟩ := h.2 i hi
 obtain ⟨b, o, hA, hlt, hc⟩ := ha.get i _ h1
 exact ⟨b, o, B, cap, hA, hlt, hc, h2, h3⟩
theorem at_cut {w : World} {B : Option Addr} {l : List (Int × ByteArray)} (h : At w B (cv l)) (q : Nat) : At w B (cv (l.take q)) ∧ At w (B.map (fun a => a.add (q * 2))) (cv (l.drop q)) := by
 constructor
 ·rw [cv_take]
  intro i hi
  rw [List.length_take] at hi
  obtain ⟨b, o, h1, h2, h3⟩ := h i (by omega)
  exact ⟨b, o, h1, h2, by rw [List.getElem_take]; exact h3⟩
 ·rw [cv_drop]
  intro i hi
  rw [List.length_drop] at hi
  obtain ⟨b, o, h1, h2, h3⟩ := h (2 * q + i) (by omega)
  refine ⟨b, o + q * 2, by rw [h1]; simp [Go.WideShapes.add_plain], h2, ?_⟩
  rw [List.getElem_drop, show o + q * 2 + i = o + (2 * q + i) by omega]
  exact h3
end Wv
namespace Go.Proofs.YtjfcemlbbinanaaGreatDoor
open Go.RowKit Go.Proofs Wv Wv.Vi Wv.Bc Wv.Sn Wv.Dc Wv.Fm
set_option linter.unusedVariables false
theorem chsinf : (Tryz.prog.info? 37).map (fun i => (i.zero, i.size, i.bytes)) = some (some (.slice none 0 0), 1, 24) := by kernel_rfl
set_option maxRecDepth 100000 in
set_option maxHeartbeats 8000000 in
theorem lsteps_any {A : Option Addr} {vs : List ByteArray} {w : World} (ha : At w A (tvs vs)) (hs : ∀ s ∈ vs, s.size ≤ 9223372036854775807) (n cap : Nat) (hn : n = vs.length) (hn4 : n ≤ 9223372036854775807)
  {B : Option Addr} {L : List (List (Int × ByteArray))} (hc : ChA w B L) (hL : ∀ x ∈ L, x.length ≤ 9223372036854775807 ∧ ∀ c ∈ x, I64 c.1 ∧ c.2.size ≤ 9223372036854775807) (m cap2 : Nat) (hm : m = L.length) (hm4 : m ≤ 9223372036854775807) (at_ : Int) (a0 : 0 ≤ at_) (a1 : at_ < 256) (ht : Tab w) :
  Calls Tryz.prog 7 #[.slice A n cap, .slice B m cap2, .int .u8 at_] w fun x w' => x = .returned (.bool true) ∧ Below w.heap.size w w' := by
 have Haw := hide (snawake_any w ht)
 obtain ⟨p, rfl⟩ : ∃ p : Nat, at_ = (p : Int) := ⟨at_.toNat, by omega⟩
 by_cases hg1 : (20 : Int) < (n : Int)
 ·clear ha hs hn hn4 hc hL hm hm4 ht
  go_enter Tryz.func7, Tryz.ntmps7
  go_wp2_with fail
  refine (Haw.out).mono ?_
  rintro x w1 ⟨rfl, hb1⟩
  go_wp2
  go_returns
  exact ⟨rfl, hb1⟩
 ·by_cases hg2 : (20 : Int) < (m : Int)
  ·clear ha hs hn hc hL hm ht
   go_enter Tryz.func7, Tryz.ntmps7
   go_wp2_with fail
   refine (Haw.out).mono ?_
   rintro x w1 ⟨rfl, hb1⟩
   go_wp2
   go_returns
   exact ⟨rfl, hb1⟩
  ·have Hc := hide (fun W (hb : Below w.heap.size w W) => hc.below hb)
   have Hm := hide hm
   have HL4 : Hid (∀ l ∈ L, l.length ≤ 9223372036854775807) := hide (fun l h => (hL l h).1)
   have HA1 := hide (fun (W : World) (hb : Below w.heap.size w W) B2 cap2 (L2 : List (List (Int × ByteArray))) (h2 : ∀ l ∈ L2, l.length ≤ 4611686018427387903) (hc2 : ChA W B2 L2) (h3 : L2.length = m) => safter_any (ha.below hb) hc2 h2 n cap m cap2 hn h3.symm (by omega) hm4)
   have HA2 := hide (fun (W : World) (vs2 : List ByteArray) A2 cap1 (h1 : vs2.length = n) (ha2 : At W A2 (tvs vs2)) B2 cap2 (L2 : List (List (Int × ByteArray))) (h2 : ∀ l ∈ L2, l.length ≤ 4611686018427387903) (hc2 : ChA W B2 L2) (h3 : L2.length = m) => safter_any ha2 hc2 h2 n cap1 m cap2 h1.symm h3.symm (by omega) hm4)
   have Hpt := hide (aftS_parts (fun l => p % (l.length + 1)) vs L)
   have Hvl : Hid (∀ L2, (aftS vs L2).length = n) := hide (fun L2 => by rw [aftS_len, hn])
   have hmn : m ≤ 20 := by omega
   clear ha hs hn hn4 hc hL hm ht
   go_enter Tryz.func7, Tryz.ntmps7
   go_wp2_with fail
   refine (Haw.out).mono ?_
   rintro x w1 ⟨rfl, hb1⟩
   have Hb1 := hide hb1
   have htw0 : Hid (TwoSt w1 w1.heap.size 37 (.slice none 0 0) [] (.slice none 0 0) [] w1) := hide ⟨own_nil, own_nil, by simp [Value.ownBlock], Below.refl _ _, Nat.le_refl _⟩
   have hv0 := hide (Vls.nil w1)
   clear hb1 Haw
   go_wp2
   go_loopw [7, 8, 27] (fun s7 s8 s27 wr => ∃ (k : Nat) (X Y : List Value), k ≤ m ∧ s27 = .int .i64 (k : Int) ∧ Hid (TwoSt w1 w1.heap.size 37 s7 X s8 Y wr) ∧ Hid (Vls w1 X ((L.take k).map (fun l => l.take (p % (l.length + 1))))) ∧ Hid (Vls w1 Y ((L.take k).map (fun l => l.drop (p % (l.length + 1))))) ∧ Hid (∀ l ∈ L.take k, (l.length : Int) ≤ 20)) (fun _ _ s27 _ => (m - intOf s27).toNat)
   case atStart => exact ⟨0, [], [], Nat.zero_le _, rfl, htw0, hv0, hv0, hide (by simp)⟩
   case round =>
    clear htw0 hv0
    obtain ⟨k, X, Y, hk, rfl, htw, hX, hY, hall⟩ := hrel
    by_cases hlt : k < m
    ·have hkL : k < L.length := by rw [← Hm.out]; exact hlt
     obtain ⟨bA, oA, B2, capB, rfl, hlA, c0, hB, hcap⟩ := (Hc.out _ Hb1.out) k hkL
     have c1 := (htw.out.bel.cell (p := ⟨bA, oA + k, none⟩) hlA).trans c0
     have htk : L.take (k + 1) = L.take k ++ [L[k]] := List.take_succ_eq_append_getElem hkL
     have hk0 : (0 : Int) ≤ (k : Int) := by omega
     have hltI : (k : Int) < (m : Int) := by omega
     obtain ⟨l, hl⟩ : ∃ l, L[k] = l := ⟨_, rfl⟩
     rw [hl] at c1 hB htk
     by_cases hg : (20 : Int) < (l.length : Int)
     ·have hblx := hide (Hb1.out.trans (htw.out.bel.mono Hb1.out.size))
      generalize l.length = N at *
      clear htk hl hcap hkL hB hall c0 HA1 HA2 htw hX hY
      go_wp2
      go_returns
      exact ⟨rfl, hblx.out⟩
     ·have hg' : (l.length : Int) ≤ 20 := by omega
      rw [hl] at hcap
      obtain ⟨N, hN⟩ : ∃ N, l.length = N := ⟨_, rfl⟩
      obtain ⟨q, hq⟩ : ∃ q, p % (N + 1) = q := ⟨_, rfl⟩
      have hqN : q ≤ N := by have := Nat.mod_lt p (show 0 < N + 1 by omega); omega
      obtain ⟨cu1, cu2⟩ := at_cut hB q
      have hXl : X.length = k := by rw [hX.out.1, List.length_map, List.length_take]; omega
      have hYl : Y.length = k := by rw [hY.out.1, List.length_map, List.length_take]; omega
      have Hall : Hid (∀ l ∈ L.take (k + 1), (l.length : Int) ≤ 20) := hide (by
       rw [htk]
       intro s hs
       rcases List.mem_append.1 hs with h | h
       ·exact hall.out s h
       ·rw [List.mem_singleton.1 h]; exact hg')
      have hq2 : p % (l.length + 1) = q := by rw [hN]; exact hq
      have e1 : (L.take (k + 1)).map (fun l => l.take (p % (l.length + 1))) = (L.take k).map (fun l => l.take (p % (l.length + 1))) ++ [l.take q] := by rw [htk, List.map_append, List.map_singleton, hq2]
      have e2 : (L.take (k + 1)).map (fun l => l.drop (p % (l.length + 1))) = (L.take k).map (fun l => l.drop (p % (l.length + 1))) ++ [l.drop q] := by rw [htk, List.map_append, List.map_singleton, hq2]
      have hl1 : (l.take q).length = q := by rw [List.length_take]; omega
      have hl2 : (l.drop q).length = N - q := by rw [List.length_drop]; omega
      have hNc : N ≤ capB := by omega
      have hx2 := hX.out.snoc (B := B2) (l := l.take q) capB cu1 (by omega)
      rw [← e1, hl1] at hx2
      have HX2 := hide hx2
      have hy2 := fun B' c' h h' => hY.out.snoc (B := B') (l := l.drop q) c' h h'
      rw [← e2, hl2] at hy2
      have i1 : IntKind.i64.wrap ((N : Int) + 1) = (N : Int) + 1 := by rw [IntWalk.i64_in _ (by omega)]
      have i3 : (p : Int) % ((N : Int) + 1) = (q : Int) := by rw [← hq]; push_cast; rfl
      have i2 : IntKind.i64.wrap (q : Int) = (q : Int) := by rw [IntWalk.i64_in _ (by omega)]
      have q0 : (0 : Int) ≤ (q : Int) := by omega
      have q1 : (q : Int) ≤ (N : Int) := by omega
      have q2 : (q : Int) ≤ (capB : Int) := by omega
      have n1 : ¬ ((N : Int) + 1 = 0) := by omega
      rw [hN] at c1 hg'
      by_cases hcq : capB = q
      ·have hNq : N = q := by omega
       subst hcq
       subst hNq
       rw [Nat.sub_self] at hy2
       obtain ⟨t1, t2, t3⟩ := two_bothB (P := Tryz.prog) 35 37 _ 24 Tryz.underlying35 chsinf rfl htw.out (.slice B2 N N) (.slice B2 0 0) (by rfl) (by rfl) (by unfold maxLen; omega) (by omega) (by unfold maxLen; omega) (by omega)
       obtain ⟨t4, t5, t6⟩ := two_bothB (P := Tryz.prog) 35 37 _ 24 Tryz.underlying35 chsinf rfl htw.out.swap (.slice B2 0 0) (.slice B2 N N) (by rfl) (by rfl) (by unfold maxLen; omega) (by omega) (by unfold maxLen; omega) (by omega)
       obtain ⟨a1a, w1a, a1b, w1b, e1a, e1b, ts1, -, -⟩ := t1
       have E1a := hide e1a
       have E1b := hide e1b
       have TS1 := hide ts1
       clear e1a e1b ts1
       obtain ⟨a2a, w2a, a2b, w2b, e2a, e2b, ts2, -, -⟩ := t2
       have E2a := hide e2a
       have E2b := hide e2b
       have TS2 := hide ts2
       clear e2a e2b ts2
       obtain ⟨a3a, w3a, a3b, w3b, e3a, e3b, ts3, -, -⟩ := t3
       have E3a := hide e3a
       have E3b := hide e3b
       have TS3 := hide ts3
       clear e3a e3b ts3
       obtain ⟨a4a, w4a, a4b, w4b, e4a, e4b, ts4, -, -⟩ := t4
       have E4a := hide e4a
       have E4b := hide e4b
       have TS4 := hide ts4
       clear e4a e4b ts4
       obtain ⟨a5a, w5a, a5b, w5b, e5a, e5b, ts5, -, -⟩ := t5
       have E5a := hide e5a
       have E5b := hide e5b
       have TS5 := hide ts5
       clear e5a e5b ts5
       obtain ⟨a6a, w6a, a6b, w6b, e6a, e6b, ts6, -, -⟩ := t6
       have E6a := hide e6a
       have E6b := hide e6b
       have TS6 := hide ts6
       clear e6a e6b ts6
       have HY2 := hide (hy2 B2 0 (by rw [List.drop_eq_nil_of_le (by omega)]; exact At.nil _ _) (by omega))
       clear hy2 hx2 hB c0 hl hkL htk hq2 hq hall HA1 HA2 hX hY e1 e2 hl1 hl2 cu1 cu2 hN
       go_upto_region 12 with fail
       rw [i3]
       clear i3
       go_region_held3 (fun W => True) (first | trivial)
        ((first | refine step_runW (by with_reducible rfl) (by rfl) _ _ _ (by rfl) _ _ (by rfl) (by rfl) E1a.out ?_ | refine step_runW (by with_reducible rfl) (by rfl) _ _ _ (by rfl) _ _ (by rfl) (by rfl) E1b.out ?_ | refine step_runW (by with_reducible rfl) (by rfl) _ _ _ (by rfl) _ _ (by rfl) (by rfl) E2a.out ?_ | refine step_runW (by with_reducible rfl) (by rfl) _ _ _ (by rfl) _ _ (by rfl) (by rfl) E2b.out ?_ | refine step_runW (by with_reducible rfl) (by rfl) _ _ _ (by rfl) _ _ (by rfl) (by rfl) E3a.out ?_ | refine step_runW (by with_reducible rfl) (by rfl) _ _ _ (by rfl) _ _ (by rfl) (by rfl) E3b.out ?_ | refine step_runW (by with_reducible rfl) (by rfl) _ _ _ (by rfl) _ _ (by rfl) (by rfl) E4a.out ?_ | refine step_runW (by with_reducible rfl) (by rfl) _ _ _ (by rfl) _ _ (by rfl) (by rfl) E4b.out ?_ | refine step_runW (by with_reducible rfl) (by rfl) _ _ _ (by rfl) _ _ (by rfl) (by rfl) E5a.out ?_ | refine step_runW (by with_reducible rfl) (by rfl) _ _ _ (by rfl) _ _ (by rfl) (by rfl) E5b.out ?_ | refine step_runW (by with_reducible rfl) (by rfl) _ _ _ (by rfl) _ _ (by rfl) (by rfl) E6a.out ?_ | refine step_runW (by with_reducible rfl) (by rfl) _ _ _ (by rfl) _ _ (by rfl) (by rfl) E6b.out ?_))
       all_goals
        go_wp2
        go_roundw
        case rel =>
         refine ⟨k + 1, _, _, hlt, by go_num, ?_, HX2, HY2, Hall⟩
         first | exact TS1 | exact TS2 | exact TS3 | exact hide TS4.out.swap | exact hide TS5.out.swap | exact hide TS6.out.swap
        case measure => simp [intOf] <;> omega
      ·obtain ⟨t1, t2, t3⟩ := two_bothB (P := Tryz.prog) 35 37 _ 24 Tryz.underlying35 chsinf rfl htw.out (.slice B2 q capB) (.slice (Option.map (fun x => x.add (q * 2)) B2) (N - q) (capB - q)) (by rfl) (by rfl) (by unfold maxLen; omega) (by omega) (by unfold maxLen; omega) (by omega)
       obtain ⟨t4, t5, t6⟩ := two_bothB (P := Tryz.prog) 35 37 _ 24 Tryz.underlying35 chsinf rfl htw.out.swap (.slice (Option.map (fun x => x.add (q * 2)) B2) (N - q) (capB - q)) (.slice B2 q capB) (by rfl) (by rfl) (by unfold maxLen; omega) (by omega) (by unfold maxLen; omega) (by omega)
       obtain ⟨a1a, w1a, a1b, w1b, e1a, e1b, ts1, -, -⟩ := t1
       have E1a := hide e1a
       have E1b := hide e1b
       have TS1 := hide ts1
       clear e1a e1b ts1
       obtain ⟨a2a, w2a, a2b, w2b, e2a, e2b, ts2, -, -⟩ := t2
       have E2a := hide e2a
       have E2b := hide e2b
       have TS2 := hide ts2
       clear e2a e2b ts2
       obtain ⟨a3a, w3a, a3b, w3b, e3a, e3b, ts3, -, -⟩ := t3
       have E3a := hide e3a
       have E3b := hide e3b
       have TS3 := hide ts3
       clear e3a e3b ts3
       obtain ⟨a4a, w4a, a4b, w4b, e4a, e4b, ts4, -, -⟩ := t4
       have E4a := hide e4a
       have E4b := hide e4b
       have TS4 := hide ts4
       clear e4a e4b ts4
       obtain ⟨a5a, w5a, a5b, w5b, e5a, e5b, ts5, -, -⟩ := t5
       have E5a := hide e5a
       have E5b := hide e5b
       have TS5 := hide ts5
       clear e5a e5b ts5
       obtain ⟨a6a, w6a, a6b, w6b, e6a, e6b, ts6, -, -⟩ := t6
       have E6a := hide e6a
       have E6b := hide e6b
       have TS6 := hide ts6
       clear e6a e6b ts6
       have HY2 := hide (hy2 _ (capB - q) cu2 (by omega))
       clear hy2 hx2 hB c0 hl hkL htk hq2 hq hall HA1 HA2 hX hY e1 e2 hl1 hl2 cu1 cu2 hN
       go_upto_region 12 with fail
       rw [i3]
       clear i3
       go_region_held3 (fun W => True) (first | trivial)
        ((first | refine step_runW (by with_reducible rfl) (by rfl) _ _ _ (by rfl) _ _ (by rfl) (by rfl) E1a.out ?_ | refine step_runW (by with_reducible rfl) (by rfl) _ _ _ (by rfl) _ _ (by rfl) (by rfl) E1b.out ?_ | refine step_runW (by with_reducible rfl) (by rfl) _ _ _ (by rfl) _ _ (by rfl) (by rfl) E2a.out ?_ | refine step_runW (by with_reducible rfl) (by rfl) _ _ _ (by rfl) _ _ (by rfl) (by rfl) E2b.out ?_ | refine step_runW (by with_reducible rfl) (by rfl) _ _ _ (by rfl) _ _ (by rfl) (by rfl) E3a.out ?_ | refine step_runW (by with_reducible rfl) (by rfl) _ _ _ (by rfl) _ _ (by rfl) (by rfl) E3b.out ?_ | refine step_runW (by with_reducible rfl) (by rfl) _ _ _ (by rfl) _ _ (by rfl) (by rfl) E4a.out ?_ | refine step_runW (by with_reducible rfl) (by rfl) _ _ _ (by rfl) _ _ (by rfl) (by rfl) E4b.out ?_ | refine step_runW (by with_reducible rfl) (by rfl) _ _ _ (by rfl) _ _ (by rfl) (by rfl) E5a.out ?_ | refine step_runW (by with_reducible rfl) (by rfl) _ _ _ (by rfl) _ _ (by rfl) (by rfl) E5b.out ?_ | refine step_runW (by with_reducible rfl) (by rfl) _ _ _ (by rfl) _ _ (by rfl) (by rfl) E6a.out ?_ | refine step_runW (by with_reducible rfl) (by rfl) _ _ _ (by rfl) _ _ (by rfl) (by rfl) E6b.out ?_))
       all_goals
        go_wp2
        go_roundw
        case rel =>
         refine ⟨k + 1, _, _, hlt, by go_num, ?_, HX2, HY2, Hall⟩
         first | exact TS1 | exact TS2 | exact TS3 | exact hide TS4.out.swap | exact hide TS5.out.swap | exact hide TS6.out.swap
        case measure => simp [intOf] <;> omega
    ·have hkm : k = m := by omega
     subst hkm
     have htkL : L.take k = L := List.take_of_length_le (by rw [Hm.out]; exact Nat.le_refl _)
     have h1 := hX.out
     have h2 := hY.out
     have h3 := hall.out
     rw [htkL] at h1 h2 h3
     have hb4 : ∀ l ∈ L, l.length ≤ 4611686018427387903 := fun l h => by have := h3 l h; omega
     have hF4 : ∀ l ∈ L.map (fun l => l.take (p % (l.length + 1))), l.length ≤ 4611686018427387903 := by
      intro l h
      obtain ⟨l', h', rfl⟩ := List.mem_map.1 h
      have := hb4 l' h'
      rw [List.length_take]; omega
     have hG4 : ∀ l ∈ L.map (fun l => l.drop (p % (l.length + 1))), l.length ≤ 4611686018427387903 := by
      intro l h
      obtain ⟨l', h', rfl⟩ := List.mem_map.1 h
      have := hb4 l' h'
      rw [List.length_drop]; omega
     have hXl : X.length = k := by rw [h1.1, List.length_map, Hm.out]
     have hYl : Y.length = k := by rw [h2.1, List.length_map, Hm.out]
     obtain ⟨A7, c7, rfl, at7⟩ := own_at htw.out.own1
     obtain ⟨A8, c8, rfl, at8⟩ := own_at htw.out.own2
     have Hbw := hide (Hb1.out.trans (htw.out.bel.mono Hb1.out.size))
     have CF := (h1.below htw.out.bel).cha at7
     have CG := hide (fun W (hb : Below wr.heap.size wr W) => ((h2.below htw.out.bel).cha at8).below hb)
     have K1 := hide (HA1.out wr Hbw.out A7 c7 _ hF4 CF (by rw [List.length_map, Hm.out]))
     have hFl := Hvl.out (L.map (fun l => l.take (p % (l.length + 1))))
     have K2 := hide (fun W (hb : Below wr.heap.size wr W) A2 cap1 h => HA2.out W (aftS vs (L.map (fun l => l.take (p % (l.length + 1))))) A2 cap1 hFl h A8 c8 _ hG4 (CG.out W hb) (by rw [List.length_map, Hm.out]))
     have K3 := hide (fun W (hb : Below w.heap.size w W) => HA1.out W hb B cap2 L hb4 (Hc.out W hb) Hm.out.symm)
     rw [Hpt.out] at K2
     have HFl := hide hFl
     have HRl := hide (Hvl.out L)
     generalize aftS vs (L.map (fun l => l.take (p % (l.length + 1)))) = F at *
     generalize aftS vs L = R at *
     rw [hXl, hYl]
     clear h1 h2 h3 htkL hb4 hF4 hG4 hXl hYl at7 at8 CF CG HA1 HA2 hFl htw hX hY hall Hpt Hvl
     go_wp2_with fail
     refine (K1.out).mono ?_
     rintro x w2 ⟨v2, rfl, ⟨A2, d2, rfl, hat2⟩, hb2⟩
     rw [HFl.out]
     have Hb2 := hide hb2
     have K2 := hide (K2.out _ hb2 A2 d2 hat2)
     clear hb2 hat2 K1
     go_wp2_with fail
     refine (K2.out).mono ?_
     rintro x w3 ⟨v3, rfl, ⟨A3, d3, rfl, hat3⟩, hb3⟩
     rw [HRl.out]
     have Hb3 := hide (Hbw.out.trans ((Hb2.out.trans (hb3.mono Hb2.out.size)).mono Hbw.out.size))
     have Hat3 := hide (fun W (hb : Below w3.heap.size w3 W) => hat3.below hb)
     clear hb3 hat3 K2
     go_wp2_with fail
     refine (K3.out _ Hb3.out).mono ?_
     rintro x w4 ⟨v4, rfl, ⟨A4, d4, rfl, hat4⟩, hb4⟩
     rw [HRl.out]
     have Hb4 := hide (Hb3.out.trans (hb4.mono Hb3.out.size))
     have Hat3 := hide (Hat3.out _ hb4)
     have Hat4 := hide hat4
     clear hb4 hat4 K3
     go_wp2
     go_loopw [75] (fun s75 wr => ∃ (j r : Nat), j ≤ n ∧ s75 = .int .i64 (j : Int) ∧ wr = w4.drewN r) (fun s75 _ => (n - intOf s75).toNat)
     case atStart => exact ⟨0, 0, Nat.zero_le _, rfl, rfl⟩
     case round =>
      obtain ⟨j, r, hj, rfl, rfl⟩ := hrel
      by_cases hlt2 : j < n
      ·have hjR : j < R.length := by rw [HRl.out]; exact hlt2
       obtain ⟨b3, o3, rfl, _, c3⟩ := at_text Hat3.out j hjR
       obtain ⟨b4, o4, rfl, _, c4⟩ := at_text Hat4.out j hjR
       have hj0 : (0 : Int) ≤ (j : Int) := by omega
       have hltI : (j : Int) < (n : Int) := by omega
       generalize R[j] = V at *
       have hne : (V.toList != V.toList) = false := bne_self_eq_false _
       clear hjR
       go_wp2
       go_quiet (fail)
       go_wp2
       refine ⟨⟨j + 1, _, hlt2, by go_num, rfl⟩, ?_⟩
       simp [intOf] <;> omega
      ·have hjn : j = n := by omega
       subst hjn
       go_wp2
       go_returns
       exact ⟨rfl, ⟨Hb4.out.1, Hb4.out.2, Hb4.out.3, Hb4.out.4, Hb4.out.5⟩⟩
end Go.Proofs.YtjfcemlbbinanaaGreatDoor
