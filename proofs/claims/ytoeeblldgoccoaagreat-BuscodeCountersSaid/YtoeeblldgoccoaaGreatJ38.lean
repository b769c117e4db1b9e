/-
  Joined texts: Ab, Ss, Ua, St, Sl, Sm, Sn, Pa, Row3.
-/
import Derived.Test.YtoeeblldgoccoaaGreatJ37
import Derived.Test.YtoeeblldgoccoaaGreatJ13
import Derived.Test.YtoeeblldgoccoaaGreatJ25
set_option linter.unusedVariables false
set_option linter.unusedSimpArgs false
namespace Go.Proofs.YtoeeblldgoccoaaGreat
open Go.RowKit Go.Proofs Wv Wv.Vi Wv.Rc Wv.Mo Wv.Ru Wv.Tm Wv.Bc
set_option linter.unusedVariables false
end Go.Proofs.YtoeeblldgoccoaaGreat
/-
  The walks over the references: numbers as bytes, a reader's calls.
-/
namespace Go.Proofs.YtoeeblldgoccoaaGreat
open Go.RowKit Go.Proofs Wv Wv.Vi Wv.Ru
set_option linter.unusedVariables false

def SB (w : World) (b : Nat) (s : ByteArray) (e : Int) : Prop := Bk w b 91 #[.string s, .int .i64 e]
theorem SB.alloc {w : World} {b : Nat} {e : Int} {s : ByteArray} (h : SB w b s e) (o : Obj) : SB (w.alloc o) b s e := Bk.alloc h o
theorem SB.below {w w' : World} {b : Nat} {e : Int} {s : ByteArray} (h : SB w b s e) (hb : Below w.heap.size w w') : SB w' b s e := Bk.below h hb (Bk.lt h)
theorem SB.cells {w : World} {b : Nat} {e : Int} {s : ByteArray} (h : SB w b s e) : (w.cell? ⟨b, 0, none⟩ = some (.string s) ∧ w.cell? ⟨b, 1, none⟩ = some (.int .i64 e)) ∧ w.frozen? ⟨b, 0, none⟩ = false ∧ w.frozen? ⟨b, 1, none⟩ = false := ⟨⟨Bk.cell h 0, Bk.cell h 1⟩, Bk.frozen h 0, Bk.frozen h 1⟩
end Go.Proofs.YtoeeblldgoccoaaGreat
namespace Go.Proofs.YtoeeblldgoccoaaGreat
open Go.RowKit Go.Proofs Wv Wv.Vi Wv.Rc Wv.Mo Wv.Ru
set_option linter.unusedVariables false

end Go.Proofs.YtoeeblldgoccoaaGreat
namespace Go.Proofs.YtoeeblldgoccoaaGreat
open Go.RowKit Go.Proofs Wv Wv.Vi Wv.Ru
set_option linter.unusedVariables false

end Go.Proofs.YtoeeblldgoccoaaGreat
namespace Go.Proofs.YtoeeblldgoccoaaGreat
open Go.RowKit Go.Proofs Wv Wv.Vi Wv.Rc Wv.Mo Wv.Ru
set_option linter.unusedVariables false
end Go.Proofs.YtoeeblldgoccoaaGreat
/-
  The walks over the references: runs of texts, the runs.
-/
namespace Go.Proofs.YtoeeblldgoccoaaGreat
open Go.RowKit Go.Proofs Wv Wv.Vi Wv.Rc Wv.Mo Wv.Ru
set_option linter.unusedVariables false
set_option maxRecDepth 100000 in
set_option maxHeartbeats 2000000 in
theorem rruns_any {w : World} {A : Option Addr} {l : List ByteArray} (ha : At w A (svs l)) (n cap : Nat) (hn : n = l.length) (hm : n ≤ 4096) :
  Calls Tryz.prog 115 #[.slice A n cap] w fun x w' => PRes w (cast2 (runs (dict l) l)) x w' := by
 have Hd := hide (rdict_all (ha.alloc (.cells #[] 132)) n cap hn hm)
 have Ha := hide ha
 have Hn := hide hn
 have ho0 : (w.alloc (.cells #[] 132)).ownsRow w.heap.size 132 2 (.slice (some ⟨w.heap.size, 0, none⟩) 0 0) 0 [] := ⟨by simp, .inr ⟨w.heap.size, 0, #[], rfl, Nat.le_refl _, heap_alloc_new w _, Nat.le_refl _, by unfold maxLen; omega, by simp, by simp⟩⟩
 have hb0 := (Below.refl w.heap.size w).alloc (Nat.le_refl _) (.cells #[] 132)
 have Ho0 := hide ho0
 have Hb0 := hide hb0
 obtain ⟨Dl, hDl⟩ : ∃ Dl, dict l = Dl := ⟨_, rfl⟩
 have Hmem := hide (fun s (hs : s ∈ l) => show s ∈ Dl from hDl ▸ (mem_dict l s).2 hs)
 have hDll := dict_length l
 rw [hDl] at Hd hDll ⊢
 have hD4 : Dl.length ≤ 4096 := by omega
 clear ha hn hDl ho0 hb0 hDll
 go_enter Tryz.func115, Tryz.ntmps115
 go_wp2_with fail
 refine (Hd.out).mono ?_
 rintro x w1 ⟨AD, capD, rfl, hatD, hb1, hfarD⟩
 have Hfar : Hid (∀ b o, AD = some ⟨b, o, none⟩ → (Value.slice (some ⟨w.heap.size, 0, none⟩) 0 0).ownBlock ≠ some b) := hide (fun b o h => by
  have := hfarD b o h
  simp at this
  simp [Value.ownBlock]
  omega)
 have hbb := Hb0.out.trans (hb1.mono (by simp))
 have ho1 := own_fr Ho0.out (Fr.of_below (S := nob) hb1) (fun g hg h => h)
 have HatD := hide hatD
 have Hbb := hide hbb
 have Ho1 := hide ho1
 clear hatD hfarD hb1 hbb ho1 Ho0 Hb0 Hd
 go_wp2
 go_loopw [3, 5] (fun v3 i wr => ∃ k : Nat, k ≤ n ∧ i = .int .i64 k ∧ wr.ownsRow w.heap.size 132 2 v3 (cast2 (runs Dl (l.take k))).length (pv (cast2 (runs Dl (l.take k)))) ∧ Hid (At wr AD (svs Dl)) ∧ Hid (∀ b o, AD = some ⟨b, o, none⟩ → v3.ownBlock ≠ some b) ∧ Below w.heap.size w wr) (fun _ i _ => (n - intOf i).toNat)
 case atStart => exact ⟨0, by omega, rfl, Ho1.out, HatD, Hfar, Hbb.out⟩
 case round =>
  clear Ho1 HatD Hfar Hbb
  obtain ⟨k, hk, rfl, hown, hatD, hfar, hf1⟩ := hrel
  by_cases hlt : k < n
  ·have hkl : k < l.length := by rw [← Hn.out]; exact hlt
   obtain ⟨s, hs⟩ : ∃ s, l[k] = s := ⟨_, rfl⟩
   obtain ⟨bA, oA, hA, hbA, hcA⟩ := (Ha.out.below hf1).get k (.string s) (by rw [svs_get l k hkl, hs])
   subst hA
   have hsm := hide (Hmem.out s (hs ▸ List.getElem_mem _))
   obtain ⟨r1, r2⟩ := runs_take Dl l k hkl
   rw [hs] at r1 r2
   have hrl := runs_length Dl (l.take k)
   rw [List.length_take] at hrl
   have hk0i : (0 : Int) ≤ (k : Int) := by omega
   have hkni : (k : Int) < (n : Int) := by omega
   by_cases hsame : 0 < k ∧ l[k - 1]? = some s
   ·obtain ⟨h0, hsm1⟩ := hsame
    have hprev := (Ha.out.below hf1).get (k - 1) (.string s) (by
     rw [svs, List.getElem?_map, hsm1]
     rfl)
    obtain ⟨bA2, oA2, hA2, _, hcP⟩ := hprev
    injection hA2 with hA2
    injection hA2 with hA2 hA3
    subst hA2; subst hA3
    obtain ⟨xs, c, hx, hc1⟩ := runs_open Dl l (k - 1) (by omega)
    rw [show k - 1 + 1 = k from by omega] at hx
    obtain ⟨ii, hii⟩ : ∃ ii, ix Dl (l[k - 1]'(by omega)) = ii := ⟨_, rfl⟩
    rw [hii] at hx
    have hr1 := r1 h0 hsm1
    rw [hx, bump_snoc] at hr1
    rw [hx] at hown hrl
    have hc2 : cast2 (xs ++ [(ii, c)]) = cast2 xs ++ [((ii : Int), (c : Int))] := by simp [cast2]
    have hc3 : cast2 (xs ++ [(ii, c + 1)]) = cast2 xs ++ [((ii : Int), (c : Int) + 1)] := by simp [cast2]
    rw [hc2] at hown
    have hps := pv_set1 (cast2 xs) ((ii : Int), (c : Int)) ((c : Int) + 1)
    obtain ⟨X, hX⟩ : ∃ X, cast2 xs = X := ⟨_, rfl⟩
    have hXl : X.length = xs.length := by rw [← hX]; simp [cast2]
    rw [hX] at hown hps hc3
    rw [List.length_append, List.length_singleton] at hown
    obtain ⟨g, cap2, hv5, hcap2⟩ := own_formS hown (by omega)
    subst hv5
    have hcb : c ≤ 4096 := by
     have := (runs_bound Dl (l.take k) (ii, c) (by rw [hx]; simp)).2.2
     rw [List.length_take] at this
     simp only at this
     omega
    have hxl : xs.length + 1 ≤ k := by
     rw [List.length_append, List.length_singleton] at hrl
     omega
    have hlen : X.length ≤ 4096 := by omega
    have i1 : ((X.length : Int) + 1) - 1 = (X.length : Int) := by omega
    have heq : (s.toList == s.toList) = true := by simp
    have hd : decide ((0 : Int) < (k : Int)) = true := decide_eq_true (by omega)
    have ik : (k : Int) - 1 = ((k - 1 : Nat) : Int) := by omega
    obtain ⟨kp, hkp⟩ : ∃ kp, k - 1 = kp := ⟨_, rfl⟩
    rw [hkp] at ik hcP
    have hkp1 : (0 : Int) ≤ (kp : Int) := by omega
    have hkp2 : (kp : Int) < (n : Int) := by omega
    have Hr1 := hide hr1
    have Hc3 := hide hc3
    have Hps := hide hps
    have Hown := hide hown
    have Hf1 := hide hf1
    clear r1 r2 hs hx hr1 hc2 hc3 hps hX hXl hown hii hrl hkp hsm1 hf1 Ha
    go_wp2
    go_quiet (fail)
    have hown : (wr.drewN nq).ownsRow w.heap.size 132 2 (.slice (some ⟨g, 0, none⟩) (X.length + 1) cap2) (X.length + 1) (pv (X ++ [((ii : Int), (c : Int))])) := Hown.out
    have hatW := hide (hatD.out.drewN nq)
    have hfW := bdN Hf1.out nq
    generalize wr.drewN nq = W at *
    have hcell := own_cellS hown (X.length * 2 + 1) (iv (c : Int)) (by
     have := (pv_get (X ++ [((ii : Int), (c : Int))]) X.length (by simp)).2
     simpa using this)
    obtain ⟨q1, q2⟩ := hcell
    have hput := own_putS hown (X.length * 2 + 1) (iv ((c : Int) + 1))
    rw [Hps.out] at hput
    have hgb := (hown.lt g rfl).1
    have hfx := hfW.setCell (p := ⟨g, X.length * 2 + 1, none⟩) hgb (iv ((c : Int) + 1))
    unfold iv at q1
    have hputv := hput
    have Hput := hide hput
    have Hfx := hide hfx
    have HatX := hide (hatW.out.keep ((Fr.refl (only g) W).setCell (p := ⟨g, X.length * 2 + 1, none⟩) (.inl rfl) (iv ((c : Int) + 1))) (fun b o hb hs => by
     have hs2 : b = g := hs
     exact hfar.out b o hb (by rw [hs2]; rfl)))
    clear hown hfW hput hputv hfx hatW hatD Hown Hf1 Hps
    go_wp2
    go_roundw
    case rel =>
     refine ⟨k + 1, by omega, by go_num, ?_, HatX, hfar, Hfx.out⟩
     rw [Hr1.out, Hc3.out, List.length_append, List.length_singleton]
     exact Hput.out
    case measure => simp [intOf] <;> omega
   ·have hcase : k = 0 ∨ l[k - 1]? ≠ some s := by
     rcases Nat.eq_zero_or_pos k with h0 | h0
     ·exact .inl h0
     ·exact .inr (fun h => hsame ⟨h0, h⟩)
    have hr2 := r2 hcase
    obtain ⟨ii, hii⟩ : ∃ ii, ix Dl s = ii := ⟨_, rfl⟩
    rw [hii] at hr2
    obtain ⟨R, hR⟩ : ∃ R, runs Dl (l.take k) = R := ⟨_, rfl⟩
    rw [hR] at hr2 hown hrl
    have hc3 : cast2 (R ++ [(ii, 1)]) = cast2 R ++ [((ii : Int), 1)] := by simp [cast2]
    obtain ⟨X, hX⟩ : ∃ X, cast2 R = X := ⟨_, rfl⟩
    have hXl : X.length = R.length := by rw [← hX]; simp [cast2]
    rw [hX] at hown hc3
    have hXk : X.length ≤ 4096 := by omega
    obtain ⟨A4, cap4, hv4, hat4⟩ := own_at hown
    subst hv4
    have hdec : (k = 0 ∧ decide ((0 : Int) < (k : Int)) = false) ∨ (0 < k ∧ decide ((0 : Int) < (k : Int)) = true ∧ ∃ s2 : ByteArray, (s2.toList == s.toList) = false ∧ wr.cell? ⟨bA, oA + (k - 1), none⟩ = some (.string s2)) := by
     rcases Nat.eq_zero_or_pos k with h0 | h0
     ·exact .inl ⟨h0, decide_eq_false (by omega)⟩
     ·right
      have hlt3 : k - 1 < l.length := by omega
      obtain ⟨bA2, oA2, hA2, _, hcP⟩ := (Ha.out.below hf1).get (k - 1) (.string (l[k - 1])) (svs_get l (k - 1) hlt3)
      injection hA2 with hA2
      injection hA2 with hA2 hA3
      subst hA2; subst hA3
      refine ⟨h0, decide_eq_true (by omega), l[k - 1], ?_, hcP⟩
      rw [str_eq, decide_eq_false_iff_not]
      intro e
      refine hsame ⟨h0, ?_⟩
      rw [List.getElem?_eq_getElem hlt3, e]
    have Hr2 := hide hr2
    have Hc3 := hide hc3
    have Hown := hide hown
    have Hf1 := hide hf1
    have Hi := hide (fun W (h : At W AD (svs Dl)) => rindex_any h Dl.length capD rfl (by omega) s)
    rw [hii] at Hi
    clear r1 r2 hs hr2 hc3 hX hown hrl hii hR hat4 hsame hcase hf1 hXl Ha
    have key : ∀ (W : World) (hW : ∃ q, W = wr.drewN q), ∃ v' w2, (Builtin.append_ #[129, 129] 129 #[.slice A4 X.length cap4, .slice (some ⟨W.heap.size, 0, none⟩) 1 1]).run Tryz.prog (W.alloc (.cells #[.int .i64 (ii : Int), .int .i64 1] 132)) = .ok v' w2 ∧ w2.ownsRow w.heap.size 132 2 v' (X ++ [((ii : Int), (1 : Int))]).length (pv (X ++ [((ii : Int), (1 : Int))])) ∧ Below w.heap.size w w2 ∧ At w2 AD (svs Dl) ∧ (∀ b o, AD = some ⟨b, o, none⟩ → v'.ownBlock ≠ some b) := by
     rintro W ⟨q, rfl⟩
     obtain ⟨v', w2, hr, ho, hb, hblk, hsz, hkeep⟩ := app_ownL (P := Tryz.prog) 129 132 _ 16 2 Tryz.underlying129 repinf rfl (by omega) (w := wr.drewN q) (show (wr.drewN q).ownsRow _ _ _ _ _ _ from Hown.out) (bdN Hf1.out q) (bdN Hf1.out q).size [.int .i64 (ii : Int), .int .i64 1] rfl (by simp [Value.oneCell']) (by unfold maxLen; omega) (by omega)
     refine ⟨v', w2, hr, ?_, hb, hkeep _ _ (hatD.out.drewN q) hfar.out, fun b o h hs => ?_⟩
     ·rw [List.length_append, pv_snoc]
      exact ho
     ·rcases hblk with h1 | h1
      ·exact hfar.out b o h (h1 ▸ hs)
      ·have h2 : some b = some ((wr.drewN q).heap.size + 1) := hs.symm.trans h1
       injection h2 with h2
       have h3 : (wr.drewN q).heap.size = wr.heap.size := rfl
       rw [h3] at h2
       obtain ⟨b', o', h4, h5, _⟩ := hatD.out 0 (by simp only [svs, List.length_map]; exact List.length_pos_of_mem hsm.out)
       rw [h] at h4
       injection h4 with h4
       injection h4 with h4
       omega
    have Key := hide key
    clear key hXk
    rcases hdec with ⟨hk0, hd⟩ | ⟨hk0, hd, s2, he2, hcP⟩
    ·have hd2 : decide (0 < k) = false := decide_eq_false (by omega)
     clear hk0
     go_wp2
     go_quiet (fail)
     obtain ⟨v', w2, hrun, ho2, hf2, hat2, hfar2⟩ := Key.out (wr.drewN nq) ⟨nq, rfl⟩
     have hI := Hi.out (wr.drewN nq) (hatD.out.drewN nq)
     have hcW : (wr.drewN nq).cell? ⟨bA, oA + k, none⟩ = some (.string s) := hcA
     generalize wr.drewN nq = W at *
     have HI := hide hI
     have Hrun := hide hrun
     have Ho2 := hide ho2
     have Hf2 := hide hf2
     have Hat2 := hide hat2
     have Hfar2 := hide hfar2
     clear hI hrun ho2 hf2 hat2 hfar2 hcA Key Hi Hown Hf1
     go_wp2_with fail
     refine (HI.out).mono ?_
     rintro x w3 ⟨rfl, rfl⟩
     go_wp2_with (
      at_builtin
      refine wpList_run (by with_reducible rfl) rfl _ _ _ rfl _ _ (by rfl) (by rfl) Hrun.out ?_)
     refine ⟨⟨k + 1, by omega, by go_num, by rw [Hr2.out, Hc3.out]; exact Ho2.out, Hat2, Hfar2, Hf2.out⟩, ?_⟩
     simp [intOf] <;> omega
    ·have ik : (k : Int) - 1 = ((k - 1 : Nat) : Int) := by omega
     obtain ⟨kp, hkp⟩ : ∃ kp, k - 1 = kp := ⟨_, rfl⟩
     rw [hkp] at ik hcP
     have hkp1 : (0 : Int) ≤ (kp : Int) := by omega
     have hkp2 : (kp : Int) < (n : Int) := by omega
     have hd2 : decide (0 < k) = true := decide_eq_true hk0
     clear hkp
     go_wp2
     go_quiet (fail)
     obtain ⟨v', w2, hrun, ho2, hf2, hat2, hfar2⟩ := Key.out (wr.drewN nq) ⟨nq, rfl⟩
     have hI := Hi.out (wr.drewN nq) (hatD.out.drewN nq)
     have hcW : (wr.drewN nq).cell? ⟨bA, oA + k, none⟩ = some (.string s) := hcA
     generalize wr.drewN nq = W at *
     have HI := hide hI
     have Hrun := hide hrun
     have Ho2 := hide ho2
     have Hf2 := hide hf2
     have Hat2 := hide hat2
     have Hfar2 := hide hfar2
     clear hI hrun ho2 hf2 hat2 hfar2 hcA Key Hi Hown Hf1 hcP
     go_wp2_with fail
     refine (HI.out).mono ?_
     rintro x w3 ⟨rfl, rfl⟩
     go_wp2_with (
      at_builtin
      refine wpList_run (by with_reducible rfl) rfl _ _ _ rfl _ _ (by rfl) (by rfl) Hrun.out ?_)
     refine ⟨⟨k + 1, by omega, by go_num, by rw [Hr2.out, Hc3.out]; exact Ho2.out, Hat2, Hfar2, Hf2.out⟩, ?_⟩
     simp [intOf] <;> omega
  ·have hkn : k = n := by omega
   have htk : l.take k = l := List.take_of_length_le (by rw [← Hn.out]; omega)
   rw [htk] at hown
   obtain ⟨A4, cap4, hv4, hat4⟩ := own_at hown
   subst hv4
   have Hat := hide hat4
   clear htk hown hat4
   go_wp2
   go_returns
   exact ⟨A4, cap4, rfl, Hat.out, hf1⟩
end Go.Proofs.YtoeeblldgoccoaaGreat
namespace Go.Proofs.YtoeeblldgoccoaaGreat
open Go.RowKit Go.Proofs Wv Wv.Vi Wv.Rc Wv.Mo Wv.Ru
set_option linter.unusedVariables false
end Go.Proofs.YtoeeblldgoccoaaGreat
/-
  How many bytes the range coder writes at most: no program stands here.
-/
namespace Wv.Rc
open Wv.Vi
def Spd (a b : Nat) (e e' : En) : Prop := e.size * 256 ^ e'.out.length * a ≤ e'.size * 256 ^ e.out.length * b
theorem Spd.refl (e : En) : Spd 1 1 e e := Nat.le_refl _
theorem Spd.trans {a b c d : Nat} {e e' e'' : En} (hs : 0 < e'.size) (h : Spd a b e e') (k : Spd c d e' e'') : Spd (a * c) (b * d) e e'' := by
 unfold Spd at *
 have h1 := Nat.mul_le_mul h k
 have hp : 0 < e'.size * 256 ^ e'.out.length := Nat.mul_pos hs (Nat.pow_pos (by omega))
 refine Nat.le_of_mul_le_mul_left ?_ hp
 calc e'.size * 256 ^ e'.out.length * (e.size * 256 ^ e''.out.length * (a * c))
   = e.size * 256 ^ e'.out.length * a * (e'.size * 256 ^ e''.out.length * c) := by ac_rfl
  _ ≤ e'.size * 256 ^ e.out.length * b * (e''.size * 256 ^ e'.out.length * d) := h1
  _ = e'.size * 256 ^ e'.out.length * (e''.size * 256 ^ e.out.length * (b * d)) := by ac_rfl
theorem spd_shift (e : En) : Spd 1 1 e (eshift e) := by
 unfold Spd
 have h1 : (eshift e).out.length = e.out.length + 1 := eshift_len e
 have h2 : (eshift e).size = e.size * 256 := rfl
 rw [h1, h2, Nat.pow_succ]
 exact Nat.le_of_eq (by ac_rfl)
theorem spd_norm (k : Nat) : ∀ {e : En}, 0 < e.size → Spd 1 1 e (enorm k e) := by
 induction k with
 | zero => intro e _; exact Spd.refl e
 | succ k ih =>
  intro e h
  rw [enorm]
  split
  ·have h2 : 0 < (eshift e).size := by show 0 < e.size * 256; omega
   exact Spd.trans h2 (spd_shift e) (ih h2)
  ·exact Spd.refl e
theorem spd_part {e : En} (h : Val 0 e) {p b A : Nat} (hp1 : 1 ≤ p) (hp2 : p ≤ 2047) (h0 : A ≤ p) (h1 : A + p ≤ 2048) : Spd (A * 8191) (2048 * 8192) e (epart p b e) ∧ 0 < (epart p b e).size := by
  obtain ⟨_, _, _, hl⟩ := epart_val h (b := b) hp1 hp2
  obtain ⟨s1, s2⟩ := val_up h
  unfold Spd
  rw [hl]
  obtain ⟨k, hk⟩ : ∃ k, e.size / 2048 = k := ⟨_, rfl⟩
  have hk1 : 8192 ≤ k := by omega
  have hk2 : e.size ≤ 2048 * k + 2047 := by omega
  have hk3 : 2048 * k ≤ e.size := by omega
  have hsz : A * k ≤ (epart p b e).size := by
    have hA1 : A * k ≤ p * k := Nat.mul_le_mul_right k h0
    have hA2 : A * k + p * k ≤ 2048 * k := by rw [← Nat.add_mul]; exact Nat.mul_le_mul_right k h1
    have hkp : k * p = p * k := Nat.mul_comm k p
    unfold epart
    rw [hk]
    split
    · show A * k ≤ k * p; omega
    · split
      · show A * k ≤ e.size - k * p; omega
      · show A * k ≤ e.size - k * p; omega
  have hm : e.size * 8191 ≤ 2048 * 8192 * k := by omega
  constructor
  · calc e.size * 256 ^ e.out.length * (A * 8191) = (e.size * 8191) * (A * 256 ^ e.out.length) := by ac_rfl
      _ ≤ (2048 * 8192 * k) * (A * 256 ^ e.out.length) := Nat.mul_le_mul_right _ hm
      _ = (A * k) * (256 ^ e.out.length * (2048 * 8192)) := by ac_rfl
      _ ≤ (epart p b e).size * (256 ^ e.out.length * (2048 * 8192)) := Nat.mul_le_mul_right _ hsz
      _ = (epart p b e).size * 256 ^ e.out.length * (2048 * 8192) := by ac_rfl
  · have := (val_up h).1
    have := (epart_val h (b := b) hp1 hp2).1.sz.1
    rcases Nat.eq_zero_or_pos (epart p b e).size with h9 | h9
    · rw [h9] at this; omega
    · exact h9
theorem spd_bit {e : En} (h : Val 0 e) {p b A : Nat} (hp1 : 1 ≤ p) (hp2 : p ≤ 2047) (h0 : A ≤ p) (h1 : A + p ≤ 2048) : Spd (A * 8191) (2048 * 8192) e (ebit p b e) := by
 obtain ⟨k1, k2⟩ := spd_part (b := b) h hp1 hp2 h0 h1
 have := Spd.trans k2 k1 (spd_norm 2 k2)
 rw [Nat.mul_one, Nat.mul_one] at this
 exact this
theorem val_pos {e : En} (h : Val 0 e) : 0 < e.size := by have := (val_up h).1; omega
theorem spd_dir (n v : Nat) : ∀ {e : En}, Val 0 e → Spd ((1024 * 8191) ^ n) ((2048 * 8192) ^ n) e (edir n v e) := by
 induction n with
 | zero => intro e _; exact Spd.refl e
 | succ n ih =>
  intro e h
  have hv := ebit_val h (p := 1024) (b := v / 2 ^ n % 2) (by omega) (by omega)
  have := Spd.trans (val_pos hv) (spd_bit (b := v / 2 ^ n % 2) h (p := 1024) (A := 1024) (by omega) (by omega) (by omega) (by omega)) (ih hv)
  rw [Nat.pow_succ, Nat.pow_succ, Nat.mul_comm ((1024 * 8191) ^ n), Nat.mul_comm ((2048 * 8192) ^ n)]
  exact this
end Wv.Rc
namespace Wv.Mo
open Wv.Vi Wv.Rc
def TIn (A : Nat) (t : List Nat) : Prop := ∀ x ∈ t, A ≤ x ∧ A + x ≤ 2048
def lo (a : Nat) : Nat := a - a / 32
theorem lo_le (a : Nat) : lo a ≤ a := by unfold lo; omega
theorem adapt_lo {a z b : Nat} (h : a ≤ z ∧ a + z ≤ 2048) : lo a ≤ adapt z b ∧ lo a + adapt z b ≤ 2048 := by
 unfold adapt lo
 split <;> omega
theorem spd_tree {A : Nat} (hA : 1 ≤ A) (n : Nat) : ∀ (v m : Nat) {t : List Nat} {e : En}, TOk t → (m + 1) * 2 ^ n ≤ 2 * t.length → Val 0 e → TIn (lo A) t → (∀ j, m ≤ j → j < t.length → A ≤ t.getD j 0 ∧ A + t.getD j 0 ≤ 2048) → 1 ≤ m →
  Spd ((A * 8191) ^ n) ((2048 * 8192) ^ n) e (tenc n v m t e).2 ∧ TIn (lo A) (tenc n v m t e).1 := by
 induction n with
 | zero => intro v m t e _ _ _ h _ _; exact ⟨Spd.refl e, h⟩
 | succ n ih =>
  intro v m t e ht hl he hin hbeh hm
  have hmt := node_lt hl
  obtain ⟨p1, p2⟩ := tok_get ht hmt
  obtain ⟨q1, q2⟩ := hbeh m (Nat.le_refl _) hmt
  have hv := ebit_val he (p := t.getD m 0) (b := v / 2 ^ n % 2) p1 p2
  have hb : v / 2 ^ n % 2 < 2 := Nat.mod_lt _ (by omega)
  have hs := spd_bit (b := v / 2 ^ n % 2) he p1 p2 q1 q2
  obtain ⟨i1, i2⟩ := ih v (2 * m + v / 2 ^ n % 2) (t := t.set m (adapt (t.getD m 0) (v / 2 ^ n % 2))) (e := ebit (t.getD m 0) (v / 2 ^ n % 2) e) (tok_set ht m (adapt_ok ⟨p1, p2⟩)) (by rw [List.length_set]; exact node_step hb hl) hv
   (fun x hx => by
    rcases List.mem_or_eq_of_mem_set hx with h | h
    ·exact hin x h
    ·rw [h]; exact adapt_lo ⟨q1, q2⟩)
   (fun j hj hj2 => by
    rw [List.length_set] at hj2
    have hne : m ≠ j := by omega
    have : (t.set m (adapt (t.getD m 0) (v / 2 ^ n % 2))).getD j 0 = t.getD j 0 := by
     simp [List.getD, List.getElem?_set_ne hne]
    rw [this]
    exact hbeh j (by omega) hj2)
   (by omega)
  refine ⟨?_, i2⟩
  have := Spd.trans (val_pos hv) hs i1
  rw [Nat.pow_succ, Nat.pow_succ, Nat.mul_comm ((A * 8191) ^ n), Nat.mul_comm ((2048 * 8192) ^ n)]
  exact this
theorem spd_num {A v : Nat} {x : List Nat × En} (hA : 1 ≤ A) (ht : TNum x.1) (he : Val 0 x.2) (hin : TIn A x.1) :
  Spd ((A * 8191) ^ 6 * (1024 * 8191) ^ (blen v - 1)) ((2048 * 8192) ^ 6 * (2048 * 8192) ^ (blen v - 1)) x.2 (nenc v x).2 ∧ TIn (lo A) (nenc v x).1 := by
 obtain ⟨ht1, ht2⟩ := ht
 obtain ⟨k1, k2⟩ := spd_tree hA 6 (blen v) 1 (t := x.1) (e := x.2) ht1 (by rw [ht2]; decide) he
  (fun y hy => by have := hin y hy; have := lo_le A; omega)
  (fun j _ hj => by
   have : x.1.getD j 0 = x.1[j] := by simp [List.getD, hj]
   rw [this]; exact hin _ (List.getElem_mem _)) (by omega)
 obtain ⟨_, _, hvv⟩ := tenc_val 6 (blen v) 1 (t := x.1) (e := x.2) ht1 (by rw [ht2]; decide) he
 refine ⟨?_, k2⟩
 unfold nenc
 simp only
 by_cases h2 : 2 ≤ blen v
 ·rw [if_pos h2]
  exact Spd.trans (val_pos hvv) k1 (spd_dir (blen v - 1) v hvv)
 ·rw [if_neg h2]
  have h3 : blen v - 1 = 0 := by omega
  rw [h3, Nat.pow_zero, Nat.mul_one, Nat.mul_one]
  exact k1
theorem Spd.less {a a' b : Nat} {e e' : En} (h : Spd a b e e') (ha : a' ≤ a) : Spd a' b e e' :=
 Nat.le_trans (Nat.mul_le_mul_left _ ha) h
theorem Spd.weak {a b c : Nat} {e e' : En} (h : Spd a b e e') (hb : b ≤ c * a) (ha : 0 < a) : Spd 1 c e e' := by
 unfold Spd at *
 refine Nat.le_of_mul_le_mul_right ?_ ha
 calc e.size * 256 ^ e'.out.length * 1 * a = e.size * 256 ^ e'.out.length * a := by rw [Nat.mul_one]
  _ ≤ e'.size * 256 ^ e.out.length * b := h
  _ ≤ e'.size * 256 ^ e.out.length * (c * a) := Nat.mul_le_mul_left _ hb
  _ = e'.size * 256 ^ e.out.length * c * a := by ac_rfl
def it : Nat → Nat → Nat
 | 0, a => a
 | i + 1, a => it i (lo a)
theorem spd_nums {c B : Nat} (hB : ∀ j, j < B → (2048 * 8192) ^ 6 * (2048 * 8192) ^ j ≤ 2 ^ c * ((772 * 8191) ^ 6 * (1024 * 8191) ^ j)) (l : List Nat) : ∀ {A : Nat} {x : List Nat × En}, TNum x.1 → Val 0 x.2 → TIn A x.1 →
  (∀ v ∈ l, blen v - 1 < B) → (∀ i, i < l.length → 772 ≤ it i A) → Spd 1 (2 ^ (c * l.length)) x.2 (nencs l x).2 := by
 induction l with
 | nil => intro A x _ _ _ _ _; exact Spd.refl _
 | cons v r ih =>
  intro A x ht he hin hv hi
  have hA : 772 ≤ A := hi 0 (by simp)
  obtain ⟨k1, k2⟩ := spd_num (v := v) (by omega) ht he hin
  obtain ⟨v1, v2⟩ := nenc_val (v := v) ht he
  have k3 := ih (A := lo A) (x := nenc v x) v1 v2 k2 (fun y hy => hv y (List.mem_cons_of_mem _ hy)) (fun i hi2 => hi (i + 1) (by simp; omega))
  have k4 : Spd 1 (2 ^ c) x.2 (nenc v x).2 := by
   refine Spd.weak (Spd.less k1 (a' := (772 * 8191) ^ 6 * (1024 * 8191) ^ (blen v - 1)) ?_) (hB _ (hv v List.mem_cons_self)) (Nat.mul_pos (Nat.pow_pos (by omega)) (Nat.pow_pos (by omega)))
   exact Nat.mul_le_mul_right _ (Nat.pow_le_pow_left (Nat.mul_le_mul_right _ hA) 6)
  have := Spd.trans (val_pos v2) k4 k3
  rw [Nat.one_mul, ← Nat.pow_add] at this
  have h2 : c + c * r.length = c * (v :: r).length := by rw [List.length_cons, Nat.mul_add]; omega
  rw [h2] at this
  exact this
theorem tin_0 : TIn 1024 t0 := by
 intro x hx
 have : x = 1024 := List.eq_of_mem_replicate hx
 omega
theorem it_ok : ∀ i, i < 10 → 772 ≤ it i 1024 := by decide
theorem encn_bits {c B : Nat} (hB : ∀ j, j < B → (2048 * 8192) ^ 6 * (2048 * 8192) ^ j ≤ 2 ^ c * ((772 * 8191) ^ 6 * (1024 * 8191) ^ j)) (l : List Nat) (hl : l.length ≤ 10) (hv : ∀ v ∈ l, blen v - 1 < B) : 8 * (encn l).length ≤ 40 + c * l.length := by
 have hk : kof l.length = 0 := by
  rcases kof_spec l.length with h | h | h | h | h | h | h | h | h <;> omega
 have hnl := num_length l.length
 rw [hk] at hnl
 unfold encn
 by_cases h0 : l = []
 ·rw [if_pos h0, List.append_nil, hnl]; omega
 ·rw [if_neg h0, List.length_append, hnl]
  have h1 := spd_nums hB l (A := 1024) (x := (t0, e0)) tnum_0 val_0 tin_0 hv (fun i hi => it_ok i (by omega))
  obtain ⟨_, k2⟩ := nencs_val l (x := (t0, e0)) tnum_0 val_0
  have h2 := (val_up k2).2
  have h3 : (efin (nencs l (t0, e0)).2).length = (nencs l (t0, e0)).2.out.length + 4 := by simp [efin, be_length]
  rw [h3]
  unfold Spd at h1
  have h4 : (e0).size = 4294967295 := rfl
  have h5 : (e0).out.length = 0 := rfl
  simp only at h1
  rw [h4, h5, Nat.pow_zero, Nat.mul_one, Nat.mul_one] at h1
  obtain ⟨o, ho⟩ : ∃ o, (nencs l (t0, e0)).2.out.length = o := ⟨_, rfl⟩
  rw [ho] at h1 ⊢
  have h6 : 256 ^ o ≤ 2 ^ (c * l.length) := by
   have h8 : (nencs l (t0, e0)).2.size * 2 ^ (c * l.length) ≤ 4294967295 * 2 ^ (c * l.length) := Nat.mul_le_mul_right _ (by omega)
   exact Nat.le_of_mul_le_mul_left (Nat.le_trans h1 h8) (by omega)
  have h7 : (256 : Nat) ^ o = 2 ^ (8 * o) := by rw [Nat.pow_mul]
  rw [h7] at h6
  have := (Nat.pow_le_pow_iff_right (by omega : 1 < 2)).1 h6
  omega
theorem cost19 : ∀ j, j < 11 → (2048 * 8192) ^ 6 * (2048 * 8192) ^ j ≤ 2 ^ 19 * ((772 * 8191) ^ 6 * (1024 * 8191) ^ j) := by decide +kernel
theorem cost49 : ∀ j, j < 41 → (2048 * 8192) ^ 6 * (2048 * 8192) ^ j ≤ 2 ^ 49 * ((772 * 8191) ^ 6 * (1024 * 8191) ^ j) := by decide +kernel
theorem blen_lt {v n : Nat} (h : v < 2 ^ n) : blen v ≤ n := by
 unfold blen
 split
 ·omega
 ·rename_i h0
  have := (Nat.log2_lt h0).2 h
  omega
end Wv.Mo
/-
  Slices of short integers, as the arguments of a law.
-/
namespace Wv
open Go Go.RowKit Go.Deep Go.ChangeShapes Go.WideShapes
set_option linter.unusedVariables false
section
variable {H : Type} {enc : TypeId × Value → H} {P : Program} {w : World} {base : Nat} {spare : Nat → Bool} {held : Bool}
theorem u16_wf {n : Int} (h : (Lit.int .u16 n).wf = true) : 0 ≤ n ∧ n < 65536 := by
 simp [Lit.wf, IntKind.min, IntKind.max, IntKind.signed, IntKind.bits] at h
 omega
theorem u16s_open {t e : TypeId} {fuel n cap : Nat} {A : Option Addr} {x : DataW H × List MemPlace} (ht : P.underlying t = some (.slice e)) (c0 : P.cellsOf e = 1) (u0 : P.underlying e = some (.int .u16))
  (h : DataW.trod enc P w base spare held fuel t [.slice A n cap] = some x) :
  ∃ l : List Int, At w A (l.map (fun n => .int .u16 n)) ∧ (∀ n ∈ l, 0 ≤ n ∧ n < 65536) ∧ n = l.length ∧ n ≤ 9223372036854775807 := by
 rcases open_slice1 ht c0 h with ⟨h0, _⟩ | ⟨a, len, c, m, k, V, D, Pl, hcs, hb, hl, hm, hmm, rfl, hx⟩
 ·simp at h0
  obtain ⟨rfl, rfl, rfl⟩ := h0
  exact ⟨[], At.nil _ _, by simp, rfl, by omega⟩
 ·simp at hcs
  obtain ⟨rfl, rfl, rfl⟩ := hcs
  have hlm : n ≤ m := by rw [hmm]; split <;> omega
  have each : ∀ i, i < n → ∃ q : Int, (0 ≤ q ∧ q < 65536) ∧ w.cell? (a.add i) = some (.int .u16 q) := by
   intro i hi
   obtain ⟨h1, h2⟩ := hx i (by omega)
   obtain ⟨q, r, _, wf⟩ := DataW.trod_int u0 h2
   simp at r
   exact ⟨q, u16_wf wf, r ▸ h1⟩
  obtain ⟨q, hq⟩ := choose_lt each
  refine ⟨(List.range n).map q, ?_, ?_, by simp, by unfold maxLen at hm; omega⟩
  ·intro i hi
   have hi' : i < n := by simpa using hi
   have q0 := (hq i hi').2
   obtain ⟨b, off, spot⟩ := a
   have hspot : spot = none := by simpa [Addr.add] using World.cell?_spot (hq 0 (by omega)).2
   subst hspot
   rw [add_plain] at q0
   refine ⟨b, off, rfl, cell_lt' q0, ?_⟩
   simp only [List.getElem_map, List.getElem_range]
   exact q0
  ·intro c hc
   obtain ⟨i, hi, rfl⟩ := List.mem_map.1 hc
   exact (hq i (List.mem_range.1 hi)).1
end
end Wv
