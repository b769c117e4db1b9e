/-
  Joined texts: Sw, Sx, Sy, Ub.
-/
import Derived.Test.YtoeeblldgoccoaaGreatL34
import Derived.Test.YtoeeblldgoccoaaGreatL29
import Derived.Test.YtoeeblldgoccoaaGreatL30
set_option linter.unusedVariables false
set_option linter.unusedSimpArgs false
set_option maxRecDepth 100000
set_option maxHeartbeats 8000000
namespace Go.Proofs.YtoeeblldgoccoaaGreat
open Go.RowKit Go.Proofs Wv Wv.Vi Wv.Rc Wv.Mo
theorem fndec_any {w : World} {A : Option Addr} {t : List Nat} (d : De) (hv : DV 0 d) (ha : At w A (ns t)) (ht : TNum t) (cap : Nat) :
  Calls Tryz.prog 121 #[.agg #[.string (bs d.rest), .int .i64 (d.code : Int), .int .i64 (d.size : Int), .bool d.miss, .bool d.full], .slice A 64 cap] w fun x w' => DRT w A (ndec t d).2.2 (ndec t d).2.1 (ndec t d).1 x w' := by
 have hr0 := dzero_new (w.alloc (.cells #[.string (bs d.rest), .int .i64 (d.code : Int), .int .i64 (d.size : Int), .bool d.miss, .bool d.full] 140));rw [World.size_alloc] at hr0;have hb0 := two_below w (.cells #[.string (bs d.rest), .int .i64 (d.code : Int), .int .i64 (d.size : Int), .bool d.miss, .bool d.full] 140) (.cells #[.string ⟨#[]⟩, .int .i64 0, .int .i64 0, .bool false, .bool false] 140);have hat0 := (ha.alloc (.cells #[.string (bs d.rest), .int .i64 (d.code : Int), .int .i64 (d.size : Int), .bool d.miss, .bool d.full] 140)).alloc (.cells #[.string ⟨#[]⟩, .int .i64 0, .int .i64 0, .bool false, .bool false] 140);have hab := at_below_block ha (by rw [ht.2]; omega);have ht0 := ftdec_any d hv hat0 ht cap;obtain ⟨k1, k2, k3, k4, k5⟩ := tdec_v 6 1 t d ht.1 (by rw [ht.2]; decide) hv;have heq0 := ndec_eq t d
 have hsz0 : ((w.alloc (.cells #[.string (bs d.rest), .int .i64 (d.code : Int), .int .i64 (d.size : Int), .bool d.miss, .bool d.full] 140)).alloc (.cells #[.string ⟨#[]⟩, .int .i64 0, .int .i64 0, .bool false, .bool false] 140)).heap.size = w.heap.size + 2 := by rw [World.size_alloc, World.size_alloc]
 obtain ⟨D, hD⟩ : ∃ D, tdec 6 1 t d = D := ⟨_, rfl⟩;rw [hD] at ht0 k1 k2 k3 k4 k5;obtain ⟨m, t2, d2⟩ := D;simp only at ht0 k1 k2 k3 k4 k5;obtain ⟨n, rfl⟩ : ∃ n, m = n + 64 := ⟨m - 64, by omega⟩;have heq := heq0 n t2 d2 hD
 have htn2 : t2.length = 64 := by rw [k2]; exact ht.2
 rw [Nat.add_sub_cancel] at ht0;have Ht := hide ht0;have Heq := hide heq;have Hr0 := hide hr0;have Hb0 := hide hb0;have Hab := hide (hide hab);have Hk3 := hide k3
 have hn64 : n < 64 := by omega
 have Htn2 := hide htn2;have Hsz0 := hide hsz0;clear k1 k2 k3 k4 k5 heq heq0 ht0 ha ht hv hr0 hb0 hat0 hab hD htn2 hsz0
 go_enter Tryz.func121, Tryz.ntmps121
 go_wp2_with fail
 refine (Ht.out).mono ?_;rintro x w2 ⟨A2, cap2, rfl, hat2, hb2, hfar2⟩;have hr2 := Hr0.out.below hb2;have hbw2 := Hb0.out.trans (hb2.mono Hb0.out.size)
 have hw2 : w.heap.size + 2 ≤ w2.heap.size := by have := hb2.size; rw [Hsz0.out] at this; exact this
 have Hne : Hid (∀ b o, A2 = some ⟨b, o, none⟩ → b ≠ w.heap.size + 1) := hide (fun b o h => by
  rcases hfar2 b o h with h1 | h1
  ·have := Hab.out.out b o (h1 ▸ h)
   omega
  ·rw [Hsz0.out] at h1
   omega)
 have Hfin : Hid (∀ b o, A2 = some ⟨b, o, none⟩ → A2 = A ∨ w.heap.size ≤ b) := hide (fun b o h => by
  rcases hfar2 b o h with h1 | h1
  ·exact .inl h1
  ·rw [Hsz0.out] at h1
   exact .inr (by omega))
 have hy2 : DB (w2.alloc (.cells #[.string (bs d2.rest), .int .i64 (d2.code : Int), .int .i64 (d2.size : Int), .bool d2.miss, .bool d2.full] 140)) w2.heap.size d2 := Bk.new _ _ _;have hr2a := hr2.alloc (.cells #[.string (bs d2.rest), .int .i64 (d2.code : Int), .int .i64 (d2.size : Int), .bool d2.miss, .bool d2.full] 140);have hbw2a := hbw2.alloc hbw2.size (.cells #[.string (bs d2.rest), .int .i64 (d2.code : Int), .int .i64 (d2.size : Int), .bool d2.miss, .bool d2.full] 140);have hat2a := hat2.alloc (.cells #[.string (bs d2.rest), .int .i64 (d2.code : Int), .int .i64 (d2.size : Int), .bool d2.miss, .bool d2.full] 140);have Hy2 := hide hy2;have Hr2 := hide hr2a;have Hbw2 := hide hbw2a;have Hat2 := hide hat2a;clear hr2 hbw2 hat2 hb2 hfar2 Ht Hr0 Hb0 Hab Hsz0 hw2 hr2a hbw2a hat2a hy2
 go_upto_region 2 with fail
 generalize w2.alloc (.cells #[.string (bs d2.rest), .int .i64 (d2.code : Int), .int .i64 (d2.size : Int), .bool d2.miss, .bool d2.full] 140) = W2 at *
 obtain ⟨c0, c1, c2, c3, c4⟩ := Hy2.out.cells;obtain ⟨r0, r1, r2, r3, r4⟩ := Hr2.out.cells;obtain ⟨g0, g1, g2, g3, g4⟩ := Hr2.out.frozens
 by_cases h2 : n < 2
 ·have e1 := Heq.out
  rw [if_pos h2, nval_small d2 h2] at e1;have Hq := hide e1
  have hz : n = 0 ∨ n = 1 := by omega
  clear e1 h2 Heq hn64;have hatF := at_five (Hat2.out) Hne.out (.string (bs d2.rest)) (.int .i64 (d2.code : Int)) (.int .i64 (d2.size : Int)) (.bool d2.miss) (.bool d2.full);obtain ⟨WF, hWF, u0, u1, u2, u3, u4, hfr⟩ := dres_endB d2 (Hr2.out) (Hbw2.out) (by omega) ;rw [hWF] at hatF;have HWF := hide hWF;have HbF := hide hfr;have HatF := hide hatF;clear hWF hfr hatF ;clear Hr2 Hbw2 Hat2 Htn2 Hk3
  rcases hz with rfl | rfl
  all_goals
   go_wp2
   rw [HWF.out];refine bodyPost_ret (by simp [results, Tryz.results121, go_sem, u0, u1, u2, u3, u4]; try rfl) rfl ?_;rw [Hq.out];exact ⟨A2, cap2, rfl, HatF.out, HbF.out, Hfin.out⟩
 ·have h2i : ¬ (n : Int) < 2 := by omega
  by_cases h63 : n = 63
  ·have e1 := Heq.out
   rw [if_neg h2, if_pos h63] at e1;subst h63;rw [nval_none] at e1;have Hq := hide e1;clear e1 h2 Heq h2i;have hatF := at_five (Hat2.out) Hne.out (.string (bs d2.rest)) (.int .i64 (d2.code : Int)) (.int .i64 (d2.size : Int)) (.bool d2.miss) (.bool d2.full);obtain ⟨WF, hWF, u0, u1, u2, u3, u4, hfr⟩ := dres_endB d2 (Hr2.out) (Hbw2.out) (by omega) ;rw [hWF] at hatF;have HWF := hide hWF;have HbF := hide hfr;have HatF := hide hatF;clear hWF hfr hatF 
   go_wp2
   rw [HWF.out];refine bodyPost_ret (by simp [results, Tryz.results121, go_sem, u0, u1, u2, u3, u4]; try rfl) rfl ?_;rw [Hq.out];exact ⟨A2, cap2, rfl, HatF.out, HbF.out, Hfin.out⟩
  ·have hb63 : ((n : Int) == 63) = false := by rw [beq_eq_false_iff_ne]; omega
   have e1 := Heq.out;rw [if_neg h2, if_neg h63, nval_big d2 h2 h63] at e1;obtain ⟨q, hq⟩ : ∃ q, n - 1 = q := ⟨_, rfl⟩;rw [hq] at e1
   have hq61 : q ≤ 61 := by omega
   have i1 : (n : Int) - 1 = (q : Int) := by omega
   have i2 : IntKind.i64.wrap (q : Int) = (q : Int) := by rw [IntWalk.i64_in _ (by omega)]
   have hq0 : 0 ≤ (q : Int) := by omega
   obtain ⟨hx1, hx⟩ := ddir_v q 0 d2 Hk3.out;rw [Nat.zero_add, Nat.one_mul] at hx
   have hdd := fun W => fddir_any d2 Hk3.out q (by omega) W
   obtain ⟨G, hG⟩ : ∃ G, ddir q 0 d2 = G := ⟨_, rfl⟩;rw [hG] at e1 hx hdd;obtain ⟨v, E⟩ := G;simp only at e1 hx hdd
   have hsum : Hid (wrap64 (wrap64 (2 ^ q) + (v : Int)) = ((2 ^ q + v : Nat) : Int)) := hide (by
    have hp : 2 ^ q ≤ 2 ^ 61 := Nat.pow_le_pow_right (by omega) hq61
    have e : ((2 : Int) ^ q) = ((2 ^ q : Nat) : Int) := by rw [Int.natCast_pow]; rfl
    rw [e]
    generalize 2 ^ q = p at *
    unfold wrap64
    omega)
   have Hdd := hide hdd;have Hq := hide e1;clear e1 h2 h63 hq hx hx1 hG hdd Heq
   go_wp2_with fail
   refine (Hdd.out _).mono ?_;rintro x w3 ⟨rfl, hb3⟩;have hr3 := Hr2.out.below hb3;have hbw3 := Hbw2.out.trans (hb3.mono Hbw2.out.size);have hat3 := Hat2.out.below hb3;clear r0 r1 r2 r3 r4 g0 g1 g2 g3 g4 c0 c1 c2 c3 c4;obtain ⟨r0, r1, r2, r3, r4⟩ := hr3.cells;obtain ⟨g0, g1, g2, g3, g4⟩ := hr3.frozens
   have hlw : w.heap.size ≤ w.heap.size + 1 := by omega
   have Hr3 := hide hr3;have Hbw3 := hide hbw3;have Hat3 := hide hat3;clear hr3 hbw3 hat3 hb3 Hr2 Hbw2 Hat2 Hdd Hk3;have hy3 : DB (w3.alloc (.cells #[.string (bs E.rest), .int .i64 (E.code : Int), .int .i64 (E.size : Int), .bool E.miss, .bool E.full] 140)) w3.heap.size E := Bk.new _ _ _;have hr3b := Hr3.out.alloc (.cells #[.string (bs E.rest), .int .i64 (E.code : Int), .int .i64 (E.size : Int), .bool E.miss, .bool E.full] 140);have hb3b := Hbw3.out.alloc Hbw3.out.size (.cells #[.string (bs E.rest), .int .i64 (E.code : Int), .int .i64 (E.size : Int), .bool E.miss, .bool E.full] 140);have ha3b := Hat3.out.alloc (.cells #[.string (bs E.rest), .int .i64 (E.code : Int), .int .i64 (E.size : Int), .bool E.miss, .bool E.full] 140);have Hy3 := hide hy3;have Hr3b := hide hr3b;have Hb3b := hide hb3b;have Ha3b := hide ha3b;clear hy3 hr3b hb3b ha3b r0 r1 r2 r3 r4 g0 g1 g2 g3 g4 Hr3 Hbw3 Hat3
   go_upto_region 7 with fail
   generalize w3.alloc (.cells #[.string (bs E.rest), .int .i64 (E.code : Int), .int .i64 (E.size : Int), .bool E.miss, .bool E.full] 140) = W3 at *
   obtain ⟨c0, c1, c2, c3, c4⟩ := Hy3.out.cells;obtain ⟨r0, r1, r2, r3, r4⟩ := Hr3b.out.cells;obtain ⟨g0, g1, g2, g3, g4⟩ := Hr3b.out.frozens
   go_region
   all_goals
    have hatF := (at_five (Ha3b.out) Hne.out (.string (bs E.rest)) (.int .i64 (E.code : Int)) (.int .i64 (E.size : Int)) (.bool E.miss) (.bool E.full)).drew;obtain ⟨WF, hWF, u0, u1, u2, u3, u4, hfr⟩ := dres_endD E (Hr3b.out) (Hb3b.out) (by omega) ;rw [hWF] at hatF;have HWF := hide hWF;have HbF := hide hfr;have HatF := hide hatF;clear hWF hfr hatF 
    go_wp2
    rw [HWF.out];refine bodyPost_ret (by simp [results, Tryz.results121, go_sem, u0, u1, u2, u3, u4]; try rfl) rfl ?_;rw [Hq.out];exact ⟨A2, cap2, by rw [hsum.out], HatF.out, HbF.out, Hfin.out⟩
end Go.Proofs.YtoeeblldgoccoaaGreat
namespace Wv
open Go Go.RowKit
theorem app_own3 {P : Program} (t e : TypeId) (z : Value) (bytes : Nat) (ht : P.underlying t = some (.slice e)) (hinfo : (P.info? e).map (fun i => (i.zero, i.size, i.bytes)) = some (some z, 1, bytes)) (hz1 : z.cells.size = 1) {w wb : World} {B : Nat} {v : Value} {n : Nat} {xs : List Value} (h : w.ownsRow B e 1 v n xs) (hf : Below B wb w) (hB : B ≤ w.heap.size) (x : Value) (hx : x.oneCell' = true) (h63 : n + 1 ≤ maxLen) (hbytes : (n + 1) * bytes ≤ 140737488355328) :
  ∃ v' w', (Builtin.append_ #[t, t] t #[v, .slice (some ⟨w.heap.size, 0, none⟩) 1 1]).run P (w.alloc (.cells #[x] e)) = .ok v' w' ∧ w'.ownsRow B e 1 v' (n + 1) (xs ++ [x]) ∧ Below B wb w' ∧ (v'.ownBlock = v.ownBlock ∨ v'.ownBlock = some (w.heap.size + 1)) ∧ w.heap.size + 1 ≤ w'.heap.size ∧
   (∀ A vs, At w A vs → (∀ b o, A = some ⟨b, o, none⟩ → v.ownBlock ≠ some b) → At w' A vs) ∧ (∀ xb T cs, Bk w xb T cs → e ≠ T → Bk w' xb T cs) := by
 obtain ⟨v1, w1, r1, a1, a2, a3, a4, a5⟩ := app_own2 t e z bytes ht hinfo hz1 h hf hB x hx h63 hbytes;obtain ⟨v2, w2, r2, b1, b2, b3⟩ := app_own t e z bytes ht hinfo hz1 h hf hB x hx h63 hbytes;have e := r1.symm.trans r2
 injection e with e1 e2
 subst e1; subst e2
 exact ⟨v1, w1, r1, a1, a2, a3, a4, a5, b3⟩
end Wv
namespace Go.Proofs.YtoeeblldgoccoaaGreat
open Go.RowKit Go.Proofs Wv Wv.Vi Wv.Rc Wv.Mo Wv.Ru
def frR (s : List UInt8) (most : Int) : Nat × List UInt8 × Nat :=
 match rd s with
 | none => (0, [], 12)
 | some x => if 4096 < x.1 then (0, [], 12) else if most < (x.1 : Int) then (0, [], 2) else if x.1 = 0 ∧ x.2 < s.length then (0, [], 12) else (x.1, s.drop x.2, 0)
def frV (s : List UInt8) (most : Int) : Value := .tuple #[.int .i64 ((frR s most).1 : Int), .string (bs (frR s most).2.1), .int .i64 ((frR s most).2.2 : Int)]
theorem frV_of {s r : List UInt8} {most : Int} {n e : Nat} (h : frR s most = (n, r, e)) : frV s most = .tuple #[.int .i64 (n : Int), .string (bs r), .int .i64 (e : Int)] := by unfold frV; rw [h]
theorem ffront_any (s : List UInt8) (hs : s.length ≤ 1099511627776) (most : Int) (w : World) :
  Calls Tryz.prog 119 #[.string (bs s), .int .i64 4096, .int .i64 most] w fun x w' => x = .returned (frV s most) ∧ Below w.heap.size w w' := by
 have Hr := hide (fun W => rread_any (s := bs s) (by rw [bs_size]; exact hs) W);have hsz := bs_size s
 match hrd : rd s with
 | none =>
  have Hn := hide (frV_of (s := s) (most := most) (n := 0) (r := []) (e := 12) (by unfold frR; rw [hrd]));rw [rk_none (by rw [toL_bs]; exact hrd)] at Hr;clear hrd
  generalize bs s = S at *
  clear hsz
  go_enter Tryz.func119, Tryz.ntmps119
  go_wp2_with fail
  refine (Hr.out _).mono ?_;rintro x w1 ⟨rfl, hb1⟩
  go_wp2
  go_returns
  exact ⟨by rw [Hn.out] <;> rfl, hb1⟩
 | some (n, z) =>
  rw [rk_some (by rw [toL_bs]; exact hrd)] at Hr;have hle := rd_le hrd
  have hz0 : ((z : Int) == 0) = false := by rw [beq_eq_false_iff_ne]; omega
  have hzs : z ≤ (bs s).size := by rw [bs_size]; exact hle.2.2.1
  have hex := ext_drop (bs s) z;rw [toL_bs] at hex
  by_cases h1 : 4096 < n
  ·have Hn := hide (frV_of (s := s) (most := most) (n := 0) (r := []) (e := 12) (by unfold frR; rw [hrd]; simp only; rw [if_pos h1]))
   have h1i : (4096 : Int) < (n : Int) := by omega
   clear hrd hle h1
   generalize bs s = S at *
   clear hsz
   go_enter Tryz.func119, Tryz.ntmps119
   go_wp2_with fail
   refine (Hr.out _).mono ?_;rintro x w1 ⟨rfl, hb1⟩
   go_wp2
   go_returns
   exact ⟨by rw [Hn.out] <;> rfl, hb1⟩
  ·have h1i : ¬ (4096 : Int) < (n : Int) := by omega
   by_cases h2 : most < (n : Int)
   ·have Hn := hide (frV_of (s := s) (most := most) (n := 0) (r := []) (e := 2) (by unfold frR; rw [hrd]; simp only; rw [if_neg h1, if_pos h2]))
    clear hrd hle h1
    generalize bs s = S at *
    clear hsz
    go_enter Tryz.func119, Tryz.ntmps119
    go_wp2_with fail
    refine (Hr.out _).mono ?_;rintro x w1 ⟨rfl, hb1⟩
    go_wp2
    go_returns
    exact ⟨by rw [Hn.out] <;> rfl, hb1⟩
   ·by_cases h3 : n = 0 ∧ z < s.length
    ·have Hn := hide (frV_of (s := s) (most := most) (n := 0) (r := []) (e := 12) (by unfold frR; rw [hrd]; simp only; rw [if_neg h1, if_neg h2, if_pos h3]))
     obtain ⟨rfl, h3⟩ := h3
     have h4 : (z : Int) < ((bs s).size : Int) := by omega
     clear hrd hle h1
     generalize bs s = S at *
     clear hsz
     go_enter Tryz.func119, Tryz.ntmps119
     go_wp2_with fail
     refine (Hr.out _).mono ?_;rintro x w1 ⟨rfl, hb1⟩
     go_wp2
     go_returns
     exact ⟨by rw [Hn.out] <;> rfl, hb1⟩
    ·have Hn := hide (frV_of (s := s) (most := most) (n := n) (r := s.drop z) (e := 0) (by unfold frR; rw [hrd]; simp only; rw [if_neg h1, if_neg h2, if_neg h3]))
     have h4 : n ≠ 0 ∨ ¬ (z : Int) < ((bs s).size : Int) := by omega
     clear hrd hle h1 h3
     generalize bs s = S at *
     by_cases h5 : n = 0
     ·subst h5
      have h6 : ¬ (z : Int) < (S.size : Int) := by omega
      clear h4;clear hsz
      go_enter Tryz.func119, Tryz.ntmps119
      go_wp2_with fail
      refine (Hr.out _).mono ?_;rintro x w1 ⟨rfl, hb1⟩
      go_wp2
      go_quiet (fail)
      go_wp2
      go_returns
      exact ⟨by rw [Hn.out] <;> rfl, bdN hb1 nq⟩
     ·have h6 : ((n : Int) == 0) = false := by rw [beq_eq_false_iff_ne]; omega
      clear h4;clear hsz
      go_enter Tryz.func119, Tryz.ntmps119
      go_wp2_with fail
      refine (Hr.out _).mono ?_;rintro x w1 ⟨rfl, hb1⟩
      go_wp2
      go_quiet (fail)
      go_wp2
      go_returns
      exact ⟨by rw [Hn.out] <;> rfl, bdN hb1 nq⟩
theorem decn_fr {s r : List UInt8} {most : Int} {n e : Nat} (h : frR s most = (n, r, e)) : n ≤ 4096 ∧ r.length ≤ s.length ∧ decn s most = if e ≠ 0 then ([], e) else if n = 0 then ([], 0) else
  if dend (nds n t0 (d0 r)).2.2 = true ∧ ∀ v ∈ (nds n t0 (d0 r)).1, 0 ≤ v then ((nds n t0 (d0 r)).1, 0) else ([], 12) := by
 unfold frR at h;unfold decn
 match hrd : rd s with
 | none =>
  rw [hrd] at h
  injection h with h1 h2
  injection h2 with h2 h3
  subst h1; subst h2; subst h3
  exact ⟨by omega, by simp, by simp⟩
 | some (m, z) =>
  rw [hrd] at h;simp only at h ⊢
  by_cases c1 : 4096 < m
  ·rw [if_pos c1] at h ⊢
   injection h with h1 h2
   injection h2 with h2 h3
   subst h1; subst h2; subst h3
   exact ⟨by omega, by simp, by simp⟩
  ·rw [if_neg c1] at h ⊢
   by_cases c2 : most < (m : Int)
   ·rw [if_pos c2] at h ⊢
    injection h with h1 h2
    injection h2 with h2 h3
    subst h1; subst h2; subst h3
    exact ⟨by omega, by simp, by simp⟩
   ·rw [if_neg c2] at h ⊢
    by_cases c3 : m = 0 ∧ z < s.length
    ·rw [if_pos c3] at h
     injection h with h1 h2
     injection h2 with h2 h3
     subst h1; subst h2; subst h3
     rw [if_pos c3.1, if_pos c3.2];exact ⟨by omega, by simp, by simp⟩
    ·rw [if_neg c3] at h
     injection h with h1 h2
     injection h2 with h2 h3
     subst h1; subst h2; subst h3
     refine ⟨by omega, by rw [List.length_drop]; omega, ?_⟩;rw [if_neg (show ¬ (0 : Nat) ≠ 0 by omega)]
     by_cases c4 : m = 0
     ·rw [if_pos c4, if_pos c4, if_neg (fun h => c3 ⟨c4, h⟩)]
     ·rw [if_neg c4, if_neg c4, (ndecs_nds m t0 (d0 (s.drop z))).1, (ndecs_nds m t0 (d0 (s.drop z))).2]
theorem nds_mem {t : List Nat} {d : De} {k n : Nat} (h : k ≤ n) {v : Int} (hv : v ∈ (nds k t d).1) : v ∈ (nds n t d).1 := by
 obtain ⟨j, rfl⟩ : ∃ j, n = k + j := ⟨n - k, by omega⟩;clear h
 induction j with
 | zero => exact hv
 | succ j ih =>
  rw [← Nat.add_assoc, nds_step];exact List.mem_append_left _ ih
def LMain (w : World) (D : List Int × List Nat × De) (x : Ending) (w' : World) : Prop := LRes w x w' (if dend D.2.2 = true ∧ ∀ v ∈ D.1, 0 ≤ v then (D.1, 0) else ([], 12))
theorem fdecn_main {s r : List UInt8} (hs : s.length ≤ 1099511627776) {most : Int} {n : Nat} (hfr : frR s most = (n, r, 0)) (hn0 : n ≠ 0) (w : World) :
    Calls Tryz.prog 80 #[.string (bs s), .int .i64 most] w fun x w' => LMain w (nds n t0 (d0 r)) x w' := by
  have hf0 := fun W => ffront_any s hs most W
  rw [frV_of hfr] at hf0;have hn4 := (decn_fr hfr).1;have Hf0 := hide hf0;have Hd0 := hide (fun W => fnewdec_any r W);have Hnt := hide (fun W => fnewtree_any W)
  have hne : ((n : Int) == 0) = false := by rw [beq_eq_false_iff_ne]; omega
  have Hv := hide (fun k => nds_v k tnum_0 (d0_v r));have Hst := hide (fun k => nds_step k t0 (d0 r));have Hln := hide (fun k => nds_length k t0 (d0 r));have Hsz := hide (bs_size s);obtain ⟨D0, hD0⟩ : ∃ D0, d0 r = D0 := ⟨_, rfl⟩;rw [hD0] at Hd0 Hv Hst Hln ⊢;have hz0 : nds 0 t0 D0 = ([], t0, D0) := rfl;have Hz0 := hide hz0;have Hinf := hide intinf
  generalize bs s = S at *
  generalize bs r = R at *
  clear hfr hf0 hD0 hz0 hn0
  go_enter Tryz.func80, Tryz.ntmps80
  go_wp2_with fail
  refine (Hf0.out _).mono ?_;rintro x w1 ⟨rfl, hb1⟩
  go_wp2_with fail
  refine (Hd0.out _).mono ?_;rintro x w2 ⟨rfl, hb2⟩
  go_wp2_with fail
  refine (Hnt.out _).mono ?_;rintro x w3 ⟨A3, cap3, rfl, hat3, hb3⟩;have hbw3 := (hb1.trans (hb2.mono hb1.size)).trans (hb3.mono (Nat.le_trans hb1.size hb2.size));have hx3 : DB (w3.alloc (.cells #[.string (bs D0.rest), .int .i64 (D0.code : Int), .int .i64 (D0.size : Int), .bool D0.miss, .bool D0.full] 140)) w3.heap.size D0 := Bk.new _ _ _;have hat3a := hat3.alloc (.cells #[.string (bs D0.rest), .int .i64 (D0.code : Int), .int .i64 (D0.size : Int), .bool D0.miss, .bool D0.full] 140);have hbw3a := hbw3.alloc hbw3.size (.cells #[.string (bs D0.rest), .int .i64 (D0.code : Int), .int .i64 (D0.size : Int), .bool D0.miss, .bool D0.full] 140);have hab := at_below_block hat3 (by rw [tnum_0.2]; omega);have Hx3 := hide hx3;have Hat3 := hide hat3a;have Hbw3 := hide hbw3a;have Hab := hide (hide hab);have Hs3 := hide hbw3.size;clear hx3 hat3 hat3a hbw3 hbw3a hab hb1 hb2 hb3 Hf0 Hd0 Hnt
  go_upto_region 5 with fail
  have hs4 : (w3.alloc (.cells #[.string (bs D0.rest), .int .i64 (D0.code : Int), .int .i64 (D0.size : Int), .bool D0.miss, .bool D0.full] 140)).heap.size = w3.heap.size + 1 := World.size_alloc _ _
  generalize w3.alloc (.cells #[.string (bs D0.rest), .int .i64 (D0.code : Int), .int .i64 (D0.size : Int), .bool D0.miss, .bool D0.full] 140) = W3 at *
  have Hx4 := hide (Hx3.out.alloc (.cells #[] 3));have Hat4 := hide (Hat3.out.alloc (.cells #[] 3));have Hbw4 := hide (Hbw3.out.alloc Hbw3.out.size (.cells #[] 3));have Hown4 := hide (own_base (own_made0 3 W3) Hbw3.out.size)
  have Hfar4 : Hid (∀ b o, A3 = some ⟨b, o, none⟩ → b ≠ w3.heap.size ∧ b ≠ W3.heap.size) := hide (fun b o h => by
    have := Hab.out.out b o h
    omega)
  have Hs4 := hide hs4;clear Hx3 Hat3 Hbw3 Hab hs4
  go_wp2
  go_loopw [10, 11, 12] (fun tv ov iv wr => ∃ (k : Nat) (A' : Option Addr) (cap' : Nat), k ≤ n ∧ iv = .int .i64 k ∧ tv = .slice A' 64 cap' ∧ At wr A' (ns (nds k t0 D0).2.1) ∧ DB wr w3.heap.size (nds k t0 D0).2.2 ∧ wr.ownsRow w.heap.size 3 1 ov k (ivs (nds k t0 D0).1) ∧ Hid (∀ b o, A' = some ⟨b, o, none⟩ → b ≠ w3.heap.size ∧ ov.ownBlock ≠ some b) ∧ Hid (∀ v ∈ (nds k t0 D0).1, 0 ≤ v) ∧ Below w.heap.size w wr) (fun _ _ i _ => (n - intOf i).toNat)
  case atStart =>
    refine ⟨0, A3, cap3, by omega, rfl, rfl, ?_, ?_, ?_, ?_, ?_, Hbw4.out⟩
    · rw [Hz0.out]; exact Hat4.out
    · rw [Hz0.out]; exact Hx4.out
    · rw [Hz0.out]; exact Hown4.out
    · exact hide (fun b o h => ⟨(Hfar4.out b o h).1, fun e => (Hfar4.out b o h).2 (by injection e with e; exact e.symm)⟩)
    · exact hide (by rw [Hz0.out]; simp)
  case round =>
    clear Hx4 Hat4 Hbw4 Hown4 Hfar4 Hz0;obtain ⟨k, A', cap', hk, rfl, rfl, hat, hx, hown, hfar, hpos, hf⟩ := hrel;obtain ⟨hvt, hvd⟩ := Hv.out k;have hln := Hln.out k
    by_cases hlt : k < n
    · have hst := Hst.out k
      obtain ⟨D, hD⟩ : ∃ D, nds k t0 D0 = D := ⟨_, rfl⟩;rw [hD] at hst hat hx hown hpos hvt hvd hln;obtain ⟨L, t, x⟩ := D;simp only at hst hat hx hown hpos hvt hvd hln;have hnd := fndec_any x hvd hat hvt cap';have huv := (ndec_v hvt hvd).1;obtain ⟨N, hN⟩ : ∃ N, ndec t x = N := ⟨_, rfl⟩;rw [hN] at hnd hst huv;obtain ⟨v, u, y⟩ := N;simp only at hnd hst huv;obtain ⟨A5, M5, cap5, rfl⟩ := own_slice hown;obtain ⟨c0, c1, c2, c3, c4⟩ := hx.cells;have hab := at_below_block hat (by rw [hvt.2]; omega);have Hnd := hide hnd;have Hat := hide hat;have Hx := hide hx;have Hown := hide hown;have Hf := hide hf;have Hstk := hide hst;have Hlnk := hide hln;have Hab := hide (hide hab);clear hnd hat hx hown hf hst hvt hvd hln hab hD hN Hv Hst Hln
      go_wp2_with fail
      refine (Hnd.out).mono ?_;rintro z w4 ⟨A4, cap4, rfl, hat4, hb4, hfar4⟩;have hx4 := (Hx.out.below hb4).alloc (.cells #[.string (bs y.rest), .int .i64 (y.code : Int), .int .i64 (y.size : Int), .bool y.miss, .bool y.full] 140);have hy4 : DB (w4.alloc (.cells #[.string (bs y.rest), .int .i64 (y.code : Int), .int .i64 (y.size : Int), .bool y.miss, .bool y.full] 140)) w4.heap.size y := Bk.new _ _ _;have hat4a := hat4.alloc (.cells #[.string (bs y.rest), .int .i64 (y.code : Int), .int .i64 (y.size : Int), .bool y.miss, .bool y.full] 140);have hf4 := Hf.out.trans (hb4.mono Hf.out.size);have hf4a := hf4.alloc hf4.size (.cells #[.string (bs y.rest), .int .i64 (y.code : Int), .int .i64 (y.size : Int), .bool y.miss, .bool y.full] 140);have hown4 := (own_fr Hown.out (Fr.of_below (S := nob) hb4) (fun _ _ f => f)).alloc (.cells #[.string (bs y.rest), .int .i64 (y.code : Int), .int .i64 (y.size : Int), .bool y.miss, .bool y.full] 140)
      have hfr4 : ∀ b o, A4 = some ⟨b, o, none⟩ → b ≠ w3.heap.size ∧ Value.ownBlock (.slice A5 M5 cap5) ≠ some b := fun b o h => by
        rcases hfar4 b o h with h1 | h1
        · exact hfar.out b o (h1 ▸ h)
        · have hx9 := Bk.lt Hx.out
          refine ⟨by omega, fun e => ?_⟩;have := (Hown.out.lt b e).2;omega
      have hn4 := at_below_block hat4a (t := u) (by rw [huv.2]; omega);have Hx4 := hide hx4;have Hy4 := hide hy4;have Hat4 := hide hat4a;have Hf4 := hide hf4a;have Hown4 := hide hown4;have Hfr4 := hide (hide hfr4);have Hn4 := hide (hide hn4);clear hx4 hy4 hat4 hat4a hf4 hf4a hown4 hfr4 hfar4 hb4 hn4 Hnd Hat Hx Hown Hf Hab c0 c1 c2 c3 c4 hfar huv
      go_upto_region 10 with fail
      generalize w4.alloc (.cells #[.string (bs y.rest), .int .i64 (y.code : Int), .int .i64 (y.size : Int), .bool y.miss, .bool y.full] 140) = W4 at *
      by_cases hv0 : v < 0
      · have Hbad : Hid (¬ (dend (nds n t0 D0).2.2 = true ∧ ∀ x ∈ (nds n t0 D0).1, 0 ≤ x)) := hide (fun h => by
          have := h.2 v (nds_mem (show k + 1 ≤ n by omega) (by rw [Hstk.out]; simp))
          omega)
        clear Hx4 Hy4 Hat4 Hown4 Hfr4 Hn4 Hstk Hlnk
        go_wp2
        go_returns
        unfold LMain;rw [if_neg Hbad.out];exact lres_err 12 Hf4.out
      · obtain ⟨c0, c1, c2, c3, c4⟩ := Hy4.out.cells
        obtain ⟨x0, x1, x2, x3, x4⟩ := Hx4.out.cells;obtain ⟨f0, f1, f2, f3, f4⟩ := Hx4.out.frozens
        have hp1 : k + 1 ≤ maxLen := by unfold maxLen; omega
        have hp2 : (k + 1) * 8 ≤ 140737488355328 := by omega
        obtain ⟨va, wa, ra, oa, ba, na, sa, ta, ka⟩ := app_own3 (P := Tryz.prog) 85 3 _ _ Tryz.underlying85 Hinf.out rfl Hown4.out.drew Hf4.out.drew Hf4.out.size (.int .i64 v) rfl hp1 hp2;obtain ⟨A9, M9, cap9, rfl⟩ := own_slice oa;have hya := ka _ _ _ (Hy4.out.drew) (by decide);have hxa := ka _ _ _ (Hx4.out.drew) (by decide);have hta := ta _ _ Hat4.out.drew (fun b o h => (Hfr4.out.out b o h).2)
        have hfa : ∀ b o, A4 = some ⟨b, o, none⟩ → b ≠ w3.heap.size ∧ Value.ownBlock (.slice A9 M9 cap9) ≠ some b := fun b o h => by
          refine ⟨(Hfr4.out.out b o h).1, fun e => ?_⟩
          rcases na with h1 | h1
          · exact (Hfr4.out.out b o h).2 (h1 ▸ e)
          · rw [h1] at e
            injection e with e
            have := Hn4.out.out b o h;have e2 : W4.drew.heap.size = W4.heap.size := rfl;omega
        obtain ⟨y0, y1, y2, y3, y4⟩ := (show DB wa w4.heap.size y from hya).cells;obtain ⟨z0, z1, z2, z3, z4⟩ := (show DB wa w3.heap.size x from hxa).cells;obtain ⟨g0, g1, g2, g3, g4⟩ := (show DB wa w3.heap.size x from hxa).frozens;have Hra := hide (show (Builtin.append_ #[85, 85] 85 #[.slice A5 M5 cap5, .slice (some ⟨W4.heap.size, 0, none⟩) 1 1]).run Tryz.prog (W4.alloc (.cells #[.int .i64 v] 3)).drew = .ok (.slice A9 M9 cap9) wa from ra);have ly := Bk.lt Hy4.out;have lx := Bk.lt Hx4.out;have Hoa := hide oa;have Hba := hide ba;have Hxa := hide (show DB wa w3.heap.size x from hxa);have Hta := hide hta;have Hfa := hide (hide hfa);clear ra oa ba na sa ta ka hya hxa hta hfa hp1 hp2;have hdF := Hxa.out.putAll y;have hoF := own_fr Hoa.out (Fr.five w3.heap.size (.string (bs y.rest)) (.int .i64 (y.code : Int)) (.int .i64 (y.size : Int)) (.bool y.miss) (.bool y.full)) (fun g hg h => own_apart Hoa.out Hxa.out (by decide) (by rw [hg]; exact congrArg some h));have htF := at_five Hta.out (fun b o h => (Hfa.out.out b o h).1) (.string (bs y.rest)) (.int .i64 (y.code : Int)) (.int .i64 (y.size : Int)) (.bool y.miss) (.bool y.full);have hfF := Hba.out.trans (own_below (Fr.five w3.heap.size (.string (bs y.rest)) (.int .i64 (y.code : Int)) (.int .i64 (y.size : Int)) (.bool y.miss) (.bool y.full)) Hba.out.size Hs3.out)
        have hoF2 : (((((wa.setCell ⟨w3.heap.size, 0, none⟩ (.string (bs y.rest))).setCell ⟨w3.heap.size, 1, none⟩ (.int .i64 (y.code : Int))).setCell ⟨w3.heap.size, 2, none⟩ (.int .i64 (y.size : Int))).setCell ⟨w3.heap.size, 3, none⟩ (.bool y.miss)).setCell ⟨w3.heap.size, 4, none⟩ (.bool y.full)).ownsRow w.heap.size 3 1 (.slice A9 M9 cap9) (k + 1) (ivs (L ++ [v])) := by rw [ivs_snoc]; exact hoF
        have HdF := hide hdF;have HoF := hide hoF2;have HtF := hide htF;have HfF := hide hfF
        have hpos2 : Hid (∀ x ∈ L ++ [v], 0 ≤ x) := hide (fun x hx => by
          rcases List.mem_append.1 hx with h1 | h1
          · exact hpos.out x h1
          · rw [List.mem_singleton] at h1; omega)
        clear hdF hoF htF hfF hoF2 Hoa Hba Hxa Hta
        go_wp2
        go_region_law ((refine step_runW (by with_reducible rfl) (by rfl) _ _ _ (by rfl) _ _ (by rfl) (by rfl) Hra.out ?_))
        all_goals
          clear y0 y1 y2 y3 y4 z0 z1 z2 z3 z4 g0 g1 g2 g3 g4 c0 c1 c2 c3 c4 x0 x1 x2 x3 x4 f0 f1 f2 f3 f4 Hra
          generalize (((((wa.setCell ⟨w3.heap.size, 0, none⟩ (.string (bs y.rest))).setCell ⟨w3.heap.size, 1, none⟩ (.int .i64 (y.code : Int))).setCell ⟨w3.heap.size, 2, none⟩ (.int .i64 (y.size : Int))).setCell ⟨w3.heap.size, 3, none⟩ (.bool y.miss)).setCell ⟨w3.heap.size, 4, none⟩ (.bool y.full)) = W9 at *
          go_wp2
          go_roundw
          case rel => exact ⟨k + 1, A4, cap4, by omega, by go_num, rfl, by rw [Hstk.out]; exact HtF.out, by rw [Hstk.out]; exact HdF.out, by rw [Hstk.out]; exact HoF.out, hide (fun b o h => Hfa.out.out b o h), by rw [Hstk.out]; exact hpos2, HfF.out⟩
          case measure => simp [intOf] <;> omega
    · have hkn : k = n := by omega
      subst hkn;obtain ⟨D, hD⟩ : ∃ D, nds k t0 D0 = D := ⟨_, rfl⟩;have HD := hide hD;rw [hD] at hx hown hpos hln;obtain ⟨L, t, x⟩ := D;simp only at hx hown hpos hln;obtain ⟨A5, cap5, rfl, hat5⟩ := own_at hown;obtain ⟨c0, c1, c2, c3, c4⟩ := hx.cells;have Hat5 := hide hat5;have Hln2 := hide hln;have Hf := hide hf;have Hen := hide (fun W => fend_any x W);clear hD hat hx hown hfar hf hvt hvd hat5 hln Hv Hst Hln
      by_cases hd : dend x = true
      · rw [endV_0 hd] at Hen
        have Hg : Hid ((if dend (nds k t0 D0).2.2 = true ∧ ∀ v ∈ (nds k t0 D0).1, 0 ≤ v then ((nds k t0 D0).1, 0) else (([], 12) : List Int × Nat)) = (L, 0)) := hide (by rw [HD.out, if_pos ⟨hd, hpos.out⟩]);clear hd
        go_wp2_with fail
        refine (Hen.out _).mono ?_;rintro z w4 ⟨rfl, hb4⟩
        go_wp2
        go_returns
        unfold LMain;rw [Hg.out];exact ⟨.slice A5 k cap5, rfl, ⟨A5, cap5, by rw [Hln2.out], Hat5.out.below hb4⟩, Hf.out.trans (hb4.mono Hf.out.size)⟩
      · rw [endV_1 (by simpa using hd)] at Hen
        have Hg : Hid ((if dend (nds k t0 D0).2.2 = true ∧ ∀ v ∈ (nds k t0 D0).1, 0 ≤ v then ((nds k t0 D0).1, 0) else (([], 12) : List Int × Nat)) = ([], 12)) := hide (by rw [HD.out, if_neg (fun h => hd h.1)]);clear hd
        go_wp2_with fail
        refine (Hen.out _).mono ?_;rintro z w4 ⟨rfl, hb4⟩
        go_wp2
        go_returns
        unfold LMain;rw [Hg.out];exact lres_err 12 (Hf.out.trans (hb4.mono Hf.out.size))
theorem fdecn_any (s : List UInt8) (hs : s.length ≤ 1099511627776) (most : Int) (w : World) :
  Calls Tryz.prog 80 #[.string (bs s), .int .i64 most] w fun x w' => LRes w x w' (decn s most) := by
 obtain ⟨n, r, e, hfr⟩ : ∃ n r e, frR s most = (n, r, e) := ⟨_, _, _, rfl⟩;have hdec := (decn_fr hfr).2.2
 by_cases he : e = 0
 ·subst he
  rw [if_neg (by omega)] at hdec
  by_cases hn : n = 0
  ·rw [if_pos hn] at hdec
   subst hn
   have hf0 := fun W => ffront_any s hs most W
   rw [frV_of hfr] at hf0;have Hf0 := hide hf0;have Hdec := hide hdec;clear hfr hf0 hdec
   generalize bs s = S at *
   generalize bs r = R at *
   go_enter Tryz.func80, Tryz.ntmps80
   go_wp2_with fail
   refine (Hf0.out _).mono ?_;rintro x w1 ⟨rfl, hb1⟩
   go_wp2
   go_returns
   rw [Hdec.out];exact lres_err 0 hb1
  ·rw [if_neg hn] at hdec
   rw [hdec];exact fdecn_main hs hfr hn w
 ·rw [if_pos he] at hdec
  have hf0 := fun W => ffront_any s hs most W
  rw [frV_of hfr] at hf0;have Hf0 := hide hf0;have Hdec := hide hdec
  have hne : ((e : Int) != 0) = true := by rw [bne_iff_ne]; omega
  clear hfr hf0 hdec he
  generalize bs s = S at *
  generalize bs r = R at *
  go_enter Tryz.func80, Tryz.ntmps80
  go_wp2_with fail
  refine (Hf0.out _).mono ?_;rintro x w1 ⟨rfl, hb1⟩
  go_wp2
  go_returns
  rw [Hdec.out];exact lres_err e hb1
theorem own_madeR (w : World) : (w.alloc (.cells #[] 132)).ownsRow w.heap.size 132 2 (.slice (some ⟨w.heap.size, 0, none⟩) 0 0) 0 [] :=
 World.ownsRow_made w #[] 0 (Nat.le_refl _) (by unfold maxLen; omega) rfl
theorem SB.two {w : World} {b : Nat} {s s2 : ByteArray} {e e2 : Int} (h : SB w b s e) : SB ((w.setCell ⟨b, 0, none⟩ (.string s2)).setCell ⟨b, 1, none⟩ (.int .i64 e2)) b s2 e2 := (h.put0 s2).put1 e2
theorem two_bel {w0 w : World} {b : Nat} (hb : Below w0.heap.size w0 w) (h : w0.heap.size ≤ b) (x y : Value) : Below w0.heap.size w0 ((w.setCell ⟨b, 0, none⟩ x).setCell ⟨b, 1, none⟩ y) := (hb.setCell (p := ⟨b, 0, none⟩) h x).setCell (p := ⟨b, 1, none⟩) h y
def RState (data : ByteArray) (c n : Nat) (ws : List ByteArray) (S : ByteArray) (e : Nat) : Prop :=
 (e = 0 ∧ ∃ sk, S = bs sk ∧ readL (toL data) = contR c data.size ws (rtexts (n - ws.length) sk)) ∨ (e ≠ 0 ∧ readL (toL data) = none)
theorem rread12_any (data : ByteArray) (hd : data.size ≤ 1000000000) (w : World) :
  Calls Tryz.prog 83 #[.string data] w fun x w' => RdRes w (readL (toL data)) x w' := by
 obtain ⟨c, S1, e1, n, S2, e2, hn1, hn2, hn4, hs1, hs2, hc1, hcase⟩ := start_cases data
 have h1 := fun W => rdo0_any (s := data) (by omega) 0 1 W
 rw [dv0_of hn1] at h1
 have h2 := fun W => rdo0_any (s := S1) (by omega) e1 4096 W
 rw [dv0_of hn2] at h2;have H1 := hide h1;have H2 := hide h2
 have Hcase : Hid (RState data c n [] S2 e2) := hide (by
  rcases hcase with ⟨h, s2, hS, hr⟩ | h
  ·exact .inl ⟨h, s2, hS, by rw [List.length_nil, Nat.sub_zero]; exact hr⟩
  ·exact .inr h)
 have Hs2 := hide hs2;have Hd := hide hd;have hx0 : SB (w.alloc (.cells #[.string data, .int .i64 0] 91)) w.heap.size data 0 := Bk.new _ _ _;have hb0 := (Below.refl w.heap.size w).alloc (Nat.le_refl _) (.cells #[.string data, .int .i64 0] 91);have Hx0 := hide hx0;have Hb0 := hide hb0;clear h1 h2 hn1 hn2 hcase hs1 hs2 hx0 hb0 hd
 go_enter Tryz.func83, Tryz.ntmps83
 go_wp2_with fail
 refine (H1.out _).mono ?_;rintro x w1 ⟨rfl, hb1⟩;have hx1 := Hx0.out.below hb1;have hx1b := hx1.two (s2 := S1) (e2 := (e1 : Int));have hbw1 := two_bel (Hb0.out.trans (hb1.mono Hb0.out.size)) (Nat.le_refl _) (.string S1) (.int .i64 (e1 : Int));obtain ⟨⟨c0, c1⟩, f0, f1⟩ := hx1.cells;have Hx1 := hide hx1b;have Hbw1 := hide hbw1;clear hx1 hx1b hbw1 hb1 H1 Hx0 Hb0
 go_wp2_with fail
 refine (H2.out _).mono ?_;rintro x w2 ⟨rfl, hb2⟩;have hx2 := Hx1.out.below hb2;have hx2b := hx2.two (s2 := S2) (e2 := (e2 : Int));have hbw2 := two_bel (Hbw1.out.trans (hb2.mono Hbw1.out.size)) (Nat.le_refl _) (.string S2) (.int .i64 (e2 : Int));clear c0 c1 f0 f1;obtain ⟨⟨c0, c1⟩, f0, f1⟩ := hx2.cells;have Hx2 := hide hx2b;have Hbw2 := hide hbw2;clear hx2 hx2b hbw2 hb2 H2 Hx1 Hbw1
 go_upto_region 4 with fail
 generalize ((w2.setCell ⟨w.heap.size, 0, none⟩ (.string S2)).setCell ⟨w.heap.size, 1, none⟩ (.int .i64 (e2 : Int))) = W2 at *
 clear c0 c1 f0 f1;have hx3 := Hx2.out.alloc (.cells #[] 9);have hb3 := Hbw2.out.alloc Hbw2.out.size (.cells #[] 9);have ho3 := own_base (own_made0 9 W2) Hbw2.out.size;have Hx3 := hide hx3;have Hb3 := hide hb3;have Ho3 := hide ho3;clear hx3 hb3 ho3 Hx2 Hbw2
 go_wp2
 go_loopw [9, 10] (fun dv iv wr => ∃ (ws : List ByteArray) (S : ByteArray) (e : Nat), ws.length ≤ n ∧ iv = .int .i64 (ws.length : Nat) ∧ wr.ownsRow w.heap.size 9 1 dv ws.length (svs ws) ∧ SB wr w.heap.size S (e : Int) ∧ S.size ≤ data.size ∧ Hid (RState data c n ws S e) ∧ Below w.heap.size w wr) (fun _ iv _ => (n - intOf iv).toNat)
 case atStart => exact ⟨[], S2, e2, by simp, rfl, Ho3.out, Hx3.out, Hs2.out, Hcase, Hb3.out⟩
 case round =>
  clear Ho3 Hx3 Hcase Hb3 Hs2;obtain ⟨ws, S, e, hk, rfl, hown, hx, hsz, hrs, hf⟩ := hrel;obtain ⟨⟨c0, c1⟩, f0, f1⟩ := hx.cells
  by_cases hlt : ws.length < n ∧ e = 0
  ·obtain ⟨hlt, rfl⟩ := hlt
   obtain ⟨sk, rfl, hrd⟩ : ∃ sk, S = bs sk ∧ readL (toL data) = contR c data.size ws (rtexts (n - ws.length) sk) := by
    rcases hrs.out with h | h
    ·exact h.2
    ·exact absurd rfl h.1
   have hm1 : (bs sk).size ≤ 1099511627776 := by have := Hd.out; omega
   have h3 := fun W => rdo3_any (s := bs sk) hm1 0 128 W
   obtain ⟨t, S', e', htx, hcs⟩ := textR_cases sk 128;have htx' : textR (bs sk) 0 128 = (t, S', e') := htx;rw [dv3_of htx'] at h3
   have hnk : n - ws.length = (n - (ws.length + 1)) + 1 := by omega
   rw [hnk] at hrd
   have hS' : S'.size ≤ data.size ∧ RState data c n (ws ++ [t]) S' e' := by
    rcases hcs with ⟨he, a, u, hra, ht, hu, hul, _⟩ | ⟨he, hra⟩
    ·subst ht; subst hu
     refine ⟨by rw [bs_size] at hsz ⊢; omega, .inl ⟨he, u, rfl, ?_⟩⟩;rw [hrd, contR_go hra, List.length_append, List.length_singleton]
    ·obtain ⟨e9, h9, h8⟩ := textR_nok hra
     have h8' : textR (bs sk) 0 ((128 : Nat) : Int) = (bs [], bs sk, e9) := h8;rw [htx] at h8'
     injection h8' with g1 g2
     injection g2 with g2 g3
     subst g2;exact ⟨hsz, .inr ⟨he, by rw [hrd, contR_no hra]⟩⟩
   obtain ⟨A5, M5, cap5, rfl⟩ := own_slice hown;have H3 := hide h3;have HS := hide hS';have Hown := hide hown;have Hx := hide hx;have Hf := hide hf;clear h3 hS' hown hx hf htx htx' hcs hnk hrd hrs hsz hm1
   go_wp2_with fail
   refine (H3.out _).mono ?_;rintro z w4 ⟨rfl, hb4⟩;have hx4 := (Hx.out.below hb4).alloc (.cells #[.string S', .int .i64 (e' : Int)] 91);have hy4 : SB (w4.alloc (.cells #[.string S', .int .i64 (e' : Int)] 91)) w4.heap.size S' (e' : Int) := Bk.new _ _ _;have hf4 := Hf.out.trans (hb4.mono Hf.out.size);have hf4a := hf4.alloc hf4.size (.cells #[.string S', .int .i64 (e' : Int)] 91);have hown4 := (own_fr Hown.out (Fr.of_below (S := nob) hb4) (fun _ _ f => f)).alloc (.cells #[.string S', .int .i64 (e' : Int)] 91);have Hx4 := hide hx4;have Hy4 := hide hy4;have Hf4 := hide hf4a;have Hown4 := hide hown4;clear hx4 hy4 hf4 hf4a hown4 hb4 H3 Hx Hf Hown c0 c1 f0 f1
   go_upto_region 9 with fail
   generalize w4.alloc (.cells #[.string S', .int .i64 (e' : Int)] 91) = W4 at *
   obtain ⟨⟨y0, y1⟩, _, _⟩ := Hy4.out.cells;obtain ⟨⟨x0, x1⟩, f0, f1⟩ := Hx4.out.cells
   have hp1 : ws.length + 1 ≤ maxLen := by unfold maxLen; omega
   have hp2 : (ws.length + 1) * 16 ≤ 140737488355328 := by omega
   obtain ⟨va, wa, ra, oa, ba, na, sa, ta, ka⟩ := app_own3 (P := Tryz.prog) 22 9 _ _ Tryz.underlying22 strinf rfl Hown4.out.drew Hf4.out.drew Hf4.out.size (.string t) rfl hp1 hp2;obtain ⟨A9, M9, cap9, rfl⟩ := own_slice oa;have hya : SB wa w4.heap.size S' (e' : Int) := ka _ _ _ (Bk.drew Hy4.out) (by decide);have hxa : SB wa w.heap.size (bs sk) ((0 : Nat) : Int) := ka _ _ _ (Bk.drew Hx4.out) (by decide);have hoF := (own_fr oa (only_set (only_set (Fr.refl (only w.heap.size) wa) 0 (.string S')) 1 (.int .i64 (e' : Int))) (fun g hg h => own_apart oa hxa (by decide) (by rw [hg]; exact congrArg some h)))
   have hoF2 : ((wa.setCell ⟨w.heap.size, 0, none⟩ (.string S')).setCell ⟨w.heap.size, 1, none⟩ (.int .i64 (e' : Int))).ownsRow w.heap.size 9 1 (.slice A9 M9 cap9) (ws ++ [t]).length (svs (ws ++ [t])) := by rw [svs_snoc, List.length_append]; exact hoF
   have hxF := hxa.two (s2 := S') (e2 := (e' : Int));have hbF := two_bel ba (Nat.le_refl _) (.string S') (.int .i64 (e' : Int));have Hra := hide (show (Builtin.append_ #[22, 22] 22 #[.slice A5 M5 cap5, .slice (some ⟨W4.heap.size, 0, none⟩) 1 1]).run Tryz.prog (W4.alloc (.cells #[.string t] 9)).drew = .ok (.slice A9 M9 cap9) wa from ra);have ly := Bk.lt Hy4.out;have lx := Bk.lt Hx4.out;obtain ⟨⟨q0, q1⟩, _, _⟩ := hya.cells;obtain ⟨⟨z0, z1⟩, g0, g1⟩ := hxa.cells;have HoF := hide hoF2;have HxF := hide hxF;have HbF := hide hbF
   have hlen : (ws ++ [t]).length = ws.length + 1 := by simp
   have Hlen := hide hlen;clear ra oa ba na sa ta ka hya hxa hoF hoF2 hxF hbF hp1 hp2 hlen
   go_region_law ((refine step_runW (by with_reducible rfl) (by rfl) _ _ _ (by rfl) _ _ (by rfl) (by rfl) Hra.out ?_))
   all_goals
    clear q0 q1 z0 z1 g0 g1 y0 y1 x0 x1 f0 f1 Hra
    generalize ((wa.setCell ⟨w.heap.size, 0, none⟩ (.string S')).setCell ⟨w.heap.size, 1, none⟩ (.int .i64 (e' : Int))) = W9 at *
    go_wp2
    go_roundw
    case rel => exact ⟨ws ++ [t], S', e', by rw [Hlen.out]; omega, by rw [Hlen.out]; go_num, HoF.out, HxF.out, HS.out.1, hide HS.out.2, HbF.out⟩
    case measure => simp [intOf] <;> omega
  ·by_cases he : e = 0
   ·subst he
    have hwn : ws.length = n := by omega
    obtain ⟨sk, rfl, hrd⟩ : ∃ sk, S = bs sk ∧ readL (toL data) = contR c data.size ws (rtexts (n - ws.length) sk) := by
     rcases hrs.out with h | h
     ·exact h.2
     ·exact absurd rfl h.1
    have hnk : n - ws.length = 0 := by omega
    rw [hnk, contR_0] at hrd;have hd9 := Hd.out
    have h3 := fun W => rdo3_any (s := bs sk) (by omega) 0 (data.size : Int) W
    obtain ⟨t, S', e', htx, hcs⟩ := textR_cases sk data.size;rw [dv3_of htx] at h3;obtain ⟨A5, cap5, hv5, _⟩ := own_at hown;subst hv5;have Hown := hide hown;have H3 := hide h3;have Hcs := hide hcs;have Hrd := hide hrd;have Hx := hide hx;have Hf := hide hf;have Hsz := hide (show sk.length ≤ data.size by rw [bs_size] at hsz; exact hsz)
    have hlt2 : ¬ (ws.length : Int) < (n : Int) := by omega
    clear h3 hcs hrd hx hf hown hrs hlt hnk htx hsz hd9
    go_wp2_with fail
    refine (H3.out _).mono ?_;rintro z w4 ⟨rfl, hb4⟩;have hx4 := Hx.out.below hb4;have hx4b := hx4.two (s2 := S') (e2 := (e' : Int));clear c0 c1 f0 f1;obtain ⟨⟨c0, c1⟩, f0, f1⟩ := hx4.cells;have hbF := two_bel (Hf.out.trans (hb4.mono Hf.out.size)) (Nat.le_refl _) (.string S') (.int .i64 (e' : Int));have hownF := own_fr (own_fr Hown.out (Fr.of_below (S := nob) hb4) (fun _ _ f => f)) (only_set (only_set (Fr.refl (only w.heap.size) w4) 0 (.string S')) 1 (.int .i64 (e' : Int))) (fun g hg h => own_apart Hown.out Hx.out (by decide) (by rw [hg]; exact congrArg some h));obtain ⟨AW, cW, hvW, hatF⟩ := own_at hownF
    injection hvW with hv1 hv2 hv3
    subst hv1; subst hv3
    have HbF := hide hbF;have Hx4 := hide hx4b;have HatF := hide hatF;clear hbF hb4 hx4 hx4b hatF Hx Hf Hown hownF hv2 H3
    go_upto_region 11 with fail
    generalize ((w4.setCell ⟨w.heap.size, 0, none⟩ (.string S')).setCell ⟨w.heap.size, 1, none⟩ (.int .i64 (e' : Int))) = W5 at *
    clear c0 c1 f0 f1;obtain ⟨⟨c0, c1⟩, f0, f1⟩ := Hx4.out.cells
    rcases Hcs.out with ⟨he, a, u, hra, rfl, rfl, hul, hal, ham⟩ | ⟨he, hra⟩
    ·subst he
     have hrd := Hrd.out;rw [hra] at hrd;simp only at hrd;have hsz2 := Hsz.out;have hd2 := Hd.out;have HD1 := hide (fun W => fdecn_any a (by omega) 4096 W);have HD2 := hide (fun W => fdecn_any u (by omega) 4096 W);obtain ⟨g1, k1⟩ := decn_good a 4096;obtain ⟨g2, k2⟩ := decn_good u 4096
     generalize decn a 4096 = DA at *
     generalize decn u 4096 = DC at *
     obtain ⟨LA, ea⟩ := DA;obtain ⟨LB, eb⟩ := DC;simp only at g1 k1 g2 k2;have Hrd2 := hide hrd;have G2 := hide g2;clear hrd hra Hcs Hrd hul g1 g2 hal ham hsz2 hd2
     generalize bs a = SA at *
     generalize bs u = SU at *
     go_wp2_with fail
     refine (HD1.out _).mono ?_;rintro x w7 ⟨v7, rfl, ⟨A7, c7, rfl, hat7⟩, hb7⟩;have hx7 := Hx4.out.below hb7;have hbb7 := HbF.out.trans (hb7.mono HbF.out.size);have hatW7 := HatF.out.below hb7;clear c0 c1 f0 f1;obtain ⟨⟨c0, c1⟩, f0, f1⟩ := hx7.cells;have Hat7 := hide hat7;have HatW7 := hide hatW7;have Hbb7 := hide hbb7;clear hx7 hat7 hatW7 hbb7 hb7 HD1 Hx4 HbF HatF
     go_wp2_with fail
     refine (HD2.out _).mono ?_;rintro x w9 ⟨v9, rfl, ⟨B9, c9, rfl, hat9⟩, hb9⟩;simp only at hat9;have hatA := Hat7.out.below hb9;have hatW := HatW7.out.below hb9;have hbb9 := Hbb7.out.trans (hb9.mono Hbb7.out.size);have HatA := hide hatA;have HatB := hide hat9;have HatW := hide hatW;have Hbb9 := hide hbb9;clear hatA hat9 hatW hbb9 hb9 Hat7 HatW7 Hbb7 HD2 c0 c1 f0 f1;have hfin := Hrd2.out;unfold fin at hfin;simp only at hfin
     by_cases c1 : ea ≠ 0 ∨ eb ≠ 0 ∨ LA.length ≠ LB.length
     ·rw [if_pos c1] at hfin
      have Hr := hide hfin
      have q1 : ((ea : Int) != 0) = true ∨ (((ea : Int) != 0) = false ∧ ((eb : Int) != 0) = true) ∨ (((ea : Int) != 0) = false ∧ ((eb : Int) != 0) = false ∧ ((LA.length : Int) != (LB.length : Int)) = true) := by
       by_cases d1 : ea = 0
       ·by_cases d2 : eb = 0
        ·right; right
         refine ⟨by rw [d1]; rfl, by rw [d2]; rfl, by rw [bne_iff_ne]; omega⟩
        ·right; left
         refine ⟨by rw [d1]; rfl, by rw [bne_iff_ne]; omega⟩
       ·left
        rw [bne_iff_ne]; omega
      clear c1 hfin
      rcases q1 with q1 | ⟨q1, q2⟩ | ⟨q1, q2, q3⟩
      all_goals
       go_wp2
       go_returns
       rw [Hr.out];exact rdres_no Hbb9.out
     ·rw [if_neg c1] at hfin
      have d1 : ea = 0 := by omega
      have d2 : eb = 0 := by omega
      have d3 : LA.length = LB.length := by omega
      subst d1; subst d2
      have q3 : ((LA.length : Int) != (LB.length : Int)) = false := by rw [bne_eq_false_iff_eq]; omega
      have q1 : (((0 : Nat) : Int) != 0) = false := rfl;have HU := hide (runfront_any HatA.out LA.length c7 rfl (by omega))
      have hU0 : (unfront LA).2 = 0 → (unfront LA).1.length = LA.length := by
       unfold unfront
       split
       ·intro _
        simp [unfrontA_length]
       ·rename_i h
        intro h2;exact absurd h2 h
      have Hfin := hide hfin;have D3 := hide d3;clear c1 hfin d3 k2
      have hc01 : c = 1 ∨ c ≠ 1 := by omega
      go_upto_if 100 with fail
      go_cut [16] (fun s9 wx => ∃ (I : List Int) (A9 : Option Addr) (cap9 : Nat), s9 = .slice A9 LA.length cap9 ∧ I.length = LA.length ∧ At wx A9 (ivs I) ∧ Below w9.heap.size w9 wx ∧
       Hid (readL (toL data) = if ∃ v ∈ LB, 4096 ≤ v then none else if (expand ws (I.zip (LB.map (· + 1))) []).2 = 0 then some (expand ws (I.zip (LB.map (· + 1))) []).1 else none))
      case first =>
       rcases hc01 with h1 | h1
       ·have g0 : ((c : Int) == 1) = true := by rw [beq_iff_eq]; omega
        have hf2 := Hfin.out;simp only [h1, if_true, true_and] at hf2;clear h1 Hfin hc1;obtain ⟨U, hUe⟩ : ∃ U, unfront LA = U := ⟨_, rfl⟩;rw [hUe] at HU hU0 hf2;clear hUe;obtain ⟨UL, ue⟩ := U;simp only at hU0 hf2;have Hf2 := hide hf2;have HU0 := hide hU0;clear hf2 hU0
        go_wp2_with fail
        refine (HU.out).mono ?_;rintro x w10 ⟨v10, rfl, ⟨A10, c10, rfl, hat10⟩, hb10⟩;simp only at hat10;have Hat10 := hide hat10;clear hat10 HU;simp only [List.length_map]
        by_cases hue : ue = 0
        ·subst hue
         have hl := HU0.out rfl;have hf3 := Hf2.out;simp only [ne_eq, not_true, if_false] at hf3;have Hf3 := hide hf3;rw [hl];clear hf3 Hf2 HU0
         go_wp2
         go_meet
         case rel => exact ⟨UL.map Int.ofNat, A10, c10, rfl, by rw [List.length_map, hl], Hat10.out, hb10, Hf3⟩
        ·have hf3 := Hf2.out
         rw [if_pos hue] at hf3;have Hr := hide hf3;have hbb := Hbb9.out.trans (hb10.mono Hbb9.out.size)
         have q5 : ((ue : Int) != 0) = true := by rw [bne_iff_ne]; omega
         clear hf3 Hf2 HU0 hue
         go_wp2
         go_returns
         rw [Hr.out];exact rdres_no hbb
       ·have g0 : ((c : Int) == 1) = false := by rw [beq_eq_false_iff_ne]; omega
        have hf2 := Hfin.out;simp only [h1, if_false, false_and] at hf2;have Hf2 := hide hf2;clear h1 Hfin hc1 hU0 HU hf2
        go_wp2
        go_meet
        case rel => exact ⟨LA, A7, c7, rfl, rfl, HatA.out, Below.refl _ _, Hf2⟩
      case rest =>
       clear HU hU0 Hfin;obtain ⟨I, A9, cap9, rfl, hIl, hatI, hbI, hfinI⟩ := hcut;have hfin2 := hfinI.out;rw [fin_clamp ws I LB (by rw [hIl]; exact D3.out)] at hfin2;obtain ⟨Z, hZ⟩ : ∃ Z, I.zip (LB.map cl) = Z := ⟨_, rfl⟩
       have hZl : Z.length = LA.length := by rw [← hZ, List.length_zip, List.length_map, ← D3.out, hIl, Nat.min_self]
       rw [hZ] at hfin2;have HF2 := hide hfin2;have HZ := hide hZ;have HatBx := hide (HatB.out.below hbI);have HatWx := hide (HatW.out.below hbI);have HatI := hide hatI;have Hbbx := hide (Hbb9.out.trans (hbI.mono Hbb9.out.size));have HZl := hide hZl;have HIl := hide hIl;have ho0 := hide (own_madeR wc);have hb0 := hide ((Below.refl wc.heap.size wc).alloc (Nat.le_refl _) (.cells #[] 132));clear hfinI hfin2 hZ hatI hbI HatB HatW HatA Hbb9 hZl hIl
       go_wp2
       go_loopw [20, 21] (fun rv iv wr => ∃ k : Nat, k ≤ LA.length ∧ iv = .int .i64 k ∧ wr.ownsRow wc.heap.size 132 2 rv k (pv (Z.take k)) ∧ Below wc.heap.size wc wr) (fun _ iv _ => (LA.length - intOf iv).toNat)
       case atStart => exact ⟨0, by omega, rfl, ho0.out, hb0.out⟩
       case round =>
        clear ho0 hb0;obtain ⟨k, hk, rfl, hown, hf⟩ := hrel;obtain ⟨A4, M4, cap4, rfl⟩ := own_slice hown
        by_cases hlt : k < LA.length
        ·have hkB : k < LB.length := by rw [← D3.out]; exact hlt
         have hkI : k < I.length := by rw [HIl.out]; exact hlt
         have hkZ : k < Z.length := by rw [HZl.out]; exact hlt
         obtain ⟨v, hv⟩ : ∃ v, LB[k] = v := ⟨_, rfl⟩;obtain ⟨y, hy⟩ : ∃ y, I[k] = y := ⟨_, rfl⟩
         have hzk : Z[k] = (y, cl v) := by
          simp only [← HZ.out, List.getElem_zip, List.getElem_map, hy, hv]
         have hv0 := G2.out v (hv ▸ List.getElem_mem _);have hatB := HatBx.out.below hf;have hatI := HatI.out.below hf;obtain ⟨bB, oB, hB, hbB, hcB⟩ := hatB.get k (.int .i64 v) (by rw [← hv]; simp [ivs, iv, hkB]);obtain ⟨bI, oI, hI, hbI, hcI⟩ := hatI.get k (.int .i64 y) (by rw [← hy]; simp [ivs, iv, hkI])
         subst hB; subst hI
         have hcl : cl v = min v 4096 + 1 := rfl
         have hc1 : 1 ≤ cl v := by rw [hcl]; omega
         have hc2 : cl v ≤ 4097 := by rw [hcl]; omega
         obtain ⟨m, hm⟩ : ∃ m, cl v = m := ⟨_, rfl⟩;rw [hm] at hcl hc1 hc2 hzk
         have hp1 : k + 1 ≤ maxLen := by unfold maxLen; omega
         have hp2 : (k + 1) * 16 ≤ 140737488355328 := by omega
         obtain ⟨va, wa, ra, oa, ba, na, sa, ta⟩ := app_ownL (P := Tryz.prog) 129 132 _ 16 2 Tryz.underlying129 repinf rfl (by omega) hown.drew hf.drew hf.size [.int .i64 y, .int .i64 m] rfl (by simp [Value.oneCell']) hp1 hp2;obtain ⟨A9, M9, cap9, rfl⟩ := own_slice oa
         have hrow : pv (Z.take k) ++ [.int .i64 y, .int .i64 m] = pv (Z.take (k + 1)) := by
          rw [List.take_succ_eq_append_getElem hkZ, hzk, pv_snoc];rfl
         rw [hrow] at oa
         have hw : IntKind.i64.wrap (min v 4096 + 1) = m := by rw [← hcl, IntWalk.i64_in _ (by omega)]
         rw [← hw] at ra;have Hra := hide (show (Builtin.append_ #[129, 129] 129 #[.slice A4 M4 cap4, .slice (some ⟨wr.heap.size, 0, none⟩) 1 1]).run Tryz.prog (wr.alloc (.cells #[.int .i64 y, .int .i64 (IntKind.i64.wrap (min v 4096 + 1))] 132)).drew = .ok (.slice A9 M9 cap9) wa from ra);have Hoa := hide oa;have Hba := hide ba;have Hcl := hide hcl
         have hkn : (0 : Int) ≤ (k : Int) := by omega
         have hkm : (k : Int) < (LA.length : Int) := by omega
         have hkm2 : (k : Int) < (LB.length : Int) := by omega
         clear ra oa ba na sa ta hrow hp1 hp2 hv hy hzk hatB hatI hown hf HF2 HZ HatBx HatWx HatI G2 hkB hkI hkZ hm hcl hc1 hc2 hw
         go_upto_region 25 with fail
         go_region_law ((refine step_runW (by with_reducible rfl) (by rfl) _ _ _ (by rfl) _ _ (by rfl) (by rfl) Hra.out ?_))
         all_goals
          go_wp2
          go_roundw
          case rel => exact ⟨k + 1, by omega, by go_num, Hoa.out, Hba.out⟩
          case measure => simp [intOf] <;> omega
        ·have hkn : k = LA.length := by omega
         subst hkn
         have htk : Z.take LA.length = Z := by rw [← HZl.out, List.take_length]
         rw [htk] at hown;obtain ⟨AZ, cZ, hvZ, hatZ⟩ := own_at hown
         injection hvZ with z1 z2 z3
         subst z1; subst z2; subst z3
         have hatW := HatWx.out.below hf;have hbb := Hbbx.out.trans (hf.mono Hbbx.out.size);have HE := hide (rexpand_any hatW hatZ n cap5 LA.length cap4 hwn.symm HZl.out.symm (by omega) (by omega));have hr := HF2.out;obtain ⟨⟨X, xe⟩, hX⟩ : ∃ x, expand ws Z [] = x := ⟨_, rfl⟩;rw [hX] at hr HE;simp only at hr;have Hr := hide hr;have Hbb := hide hbb;clear hX hr hbb hatZ hatW hown hf HF2 HZ HatBx HatWx HatI Hbbx htk
         go_wp2_with fail
         refine (HE.out).mono ?_;rintro x w11 ⟨v11, rfl, hs11, hb11⟩;simp only at hs11;have hbb := Hbb.out.trans (hb11.mono Hbb.out.size)
         by_cases hxe : xe = 0
         ·subst hxe
          have Hr2 : Hid (readL (toL data) = some X) := hide (by rw [Hr.out, if_pos rfl]);have Hs := hide hs11;clear Hr hs11 hb11
          go_wp2
          go_returns
          rw [Hr2.out];exact ⟨v11, rfl, (fun l h => by injection h with h; subst h; exact Hs.out), hbb⟩
         ·have Hr2 : Hid (readL (toL data) = none) := hide (by rw [Hr.out, if_neg hxe])
          have q9 : ((xe : Int) == 0) = false := by rw [beq_eq_false_iff_ne]; omega
          clear Hr hs11 hb11 hxe
          go_wp2
          go_returns
          rw [Hr2.out];exact rdres_no hbb
    ·have hr : readL (toL data) = none := by
      rw [Hrd.out, hra]
     have Hr := hide hr
     have hne : ((e' : Int) != 0) = true := by rw [bne_iff_ne]; omega
     clear hr hra he Hcs Hrd
     go_wp2
     go_returns
     rw [Hr.out];exact rdres_no HbF.out
   ·have hr : readL (toL data) = none := by
     rcases hrs.out with h | h
     ·exact absurd h.1 he
     ·exact h.2
    have h3 := fun W => rdo3_any (s := S) (by have := Hd.out; omega) e (data.size : Int) W
    rw [dv3_of (textR_er (numR_er (s := S) he (data.size : Int)) he)] at h3;have H3 := hide h3;have Hr := hide hr;have Hx := hide hx;have Hf := hide hf
    have hne : ((e : Int) != 0) = true := by rw [bne_iff_ne]; omega
    have hne2 : ((e : Int) == 0) = false := by rw [beq_eq_false_iff_ne]; omega
    clear h3 hr hx hf hown hrs he hlt
    by_cases hl : ws.length < n
    ·have hl2 : (ws.length : Int) < (n : Int) := by omega
     clear hl
     go_wp2_with fail
     refine (H3.out _).mono ?_;rintro z w4 ⟨rfl, hb4⟩;have hx4 := Hx.out.below hb4;clear c0 c1 f0 f1;obtain ⟨⟨c0, c1⟩, f0, f1⟩ := hx4.cells;have hbF := two_bel (Hf.out.trans (hb4.mono Hf.out.size)) (Nat.le_refl _) (.string S) (.int .i64 (e : Int));have HbF := hide hbF;clear hbF hb4 hx4
     go_wp2
     go_returns
     rw [Hr.out];exact rdres_no HbF.out
    ·have hl2 : ¬ (ws.length : Int) < (n : Int) := by omega
     clear hl
     go_wp2_with fail
     refine (H3.out _).mono ?_;rintro z w4 ⟨rfl, hb4⟩;have hx4 := Hx.out.below hb4;clear c0 c1 f0 f1;obtain ⟨⟨c0, c1⟩, f0, f1⟩ := hx4.cells;have hbF := two_bel (Hf.out.trans (hb4.mono Hf.out.size)) (Nat.le_refl _) (.string S) (.int .i64 (e : Int));have HbF := hide hbF;clear hbF hb4 hx4
     go_wp2
     go_returns
     rw [Hr.out];exact rdres_no HbF.out
end Go.Proofs.YtoeeblldgoccoaaGreat
