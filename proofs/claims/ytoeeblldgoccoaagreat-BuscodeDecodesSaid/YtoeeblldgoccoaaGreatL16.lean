/-
  Joined texts: Sc, Sd.
-/
import Derived.Test.YtoeeblldgoccoaaGreatL12
set_option linter.unusedVariables false
set_option linter.unusedSimpArgs false
set_option maxRecDepth 100000
set_option maxHeartbeats 8000000
namespace Go.Proofs.YtoeeblldgoccoaaGreat
open Go.RowKit Go.Proofs Wv Wv.Vi Wv.Rc
def REn (w : World) (v : Value) (e : En) : Prop := ∃ A cap, v = .agg #[.slice A e.out.length cap, .int .i64 (e.low : Int), .int .i64 (e.size : Int)] ∧ At w A (e.out.map bv)
theorem REn.below {w w' : World} {v : Value} {e : En} (h : REn w v e) (hb : Below w.heap.size w w') : REn w' v e := by
 obtain ⟨A, cap, hv, ha⟩ := h;exact ⟨A, cap, hv, ha.below hb⟩
theorem flimit_any (p : Int) (h1 : 1 ≤ p) (h2 : p ≤ 2047) (w : World) :
  Calls Tryz.prog 218 #[.int .i64 p] w fun x w' => x = .returned (.int .i64 p) ∧ w = w' := by
 go_enter Tryz.func218, Tryz.ntmps218
 go_wp2
 go_ret
 exact ⟨rfl, rfl⟩
theorem fnewenc_any (w : World) :
  Calls Tryz.prog 110 #[] w fun x w' => ∃ v, x = .returned v ∧ REn w' v e0 ∧ Below w.heap.size w w' := by
 have hb := hide ((Below.refl w.heap.size w).alloc (Nat.le_refl _) (.cells #[.slice none 0 0, .int .i64 0, .int .i64 4294967295] 122))
 go_enter Tryz.func110, Tryz.ntmps110
 go_wp2
 go_returns
 exact ⟨_, rfl, ⟨none, 0, rfl, At.nil _ _⟩, hb.out⟩
theorem bvs_one (l : List UInt8) : ∀ y ∈ l.map bv, y.oneCell' = true := by
 intro y hy;obtain ⟨b, _, rfl⟩ := List.mem_map.1 hy;rfl
theorem fcarried_any {w : World} {A : Option Addr} {o : List UInt8} (ha : At w A (o.map bv)) (n cap : Nat) (hn : n = o.length) (hpos : 0 < o.length) (hm : o.length ≤ 2000000) :
  Calls Tryz.prog 219 #[.slice A n cap] w fun x w' => ∃ A' cap', x = .returned (.slice A' (carry o).length cap') ∧ At w' A' ((carry o).map bv) ∧ Below w.heap.size w w' := by
 have hA : A = none → o.map bv = [] := by
  rintro rfl;obtain ⟨b, p, h, _⟩ := ha 0 (by rw [List.length_map]; exact hpos)
  cases h
 obtain ⟨v', w1, hrun, hown, hbel, _⟩ := run_copy (P := Tryz.prog) 42 5 _ _ Tryz.underlying42 u8inf rfl ha cap n (by rw [List.length_map, hn]) hA (bvs_one o) (by unfold maxLen; omega) (by omega);subst hn;obtain ⟨g, cap', rfl, hcap⟩ := own_form hown hpos;have Hrun := hide hrun;have hob := (hown.lt g rfl).1;have Hown := hide hown;have Hbel := hide hbel;clear hrun ha hA hown hbel
 go_enter Tryz.func219, Tryz.ntmps219
 go_wp2_with (
  at_builtin
  refine wpList_run (by with_reducible rfl) rfl _ _ _ rfl _ _ (by rfl) (by rfl) Hrun.out ?_)
 go_loopw [4] (fun i wr => ∃ j : Nat, j ≤ o.length ∧ i = .int .i64 ((j : Int) - 1) ∧ wr.ownsRow w.heap.size 5 1 (.slice (some ⟨g, 0, none⟩) o.length cap') o.length ((Part o j).map bv) ∧ Below w.heap.size w wr ∧ Hid (carry o = carry (o.take j) ++ List.replicate (o.length - j) 0)) (fun i _ => (intOf i + 1).toNat)
 case atStart => exact ⟨o.length, Nat.le_refl _, rfl, by simpa [Part] using Hown.out, Hbel.out, hide (by simp)⟩
 case round =>
  obtain ⟨j, hj, rfl, hown, hf, hcar⟩ := hrel
  by_cases hlt : 0 < j
  ·obtain ⟨k, rfl⟩ : ∃ k, j = k + 1 := ⟨j - 1, by omega⟩
   have hk : k < o.length := by omega
   obtain ⟨x, hx⟩ : ∃ x, o[k] = x := ⟨_, rfl⟩;have hca := carry_at o k hk hcar.out;rw [hx] at hca;have Hca := hide hca;obtain ⟨c1, c2⟩ := own_cell hown k (.int .u8 (x.toNat : Int)) (by rw [List.getElem?_map, part_get o k hk, hx]; rfl)
   have i1 : ((k + 1 : Nat) : Int) - 1 = (k : Int) := by omega
   have hk2 : (k : Int) < (o.length : Int) := by omega
   have hb := bump_byte x;have hz0 := hide (fun h => zero_byte x h);have hz1 := hide (fun h => some_byte x h);have hyv : bv (x + 1) = .int .u8 ((x + 1).toNat : Int) := rfl;obtain ⟨y, hy⟩ : ∃ y : Nat, (x + 1).toNat = y := ⟨_, rfl⟩;rw [hy] at hb hz0 hz1 hyv;have hps := part_set o k hk (x + 1);have hput := own_put hown k hk (.int .u8 (y : Int));have hcell := (own_cell hput k (.int .u8 (y : Int)) (by rw [List.getElem?_set_self (by rw [List.length_map, part_length o _ (by omega)]; exact hk)])).1;rw [show ((Part o (k + 1)).map bv).set k (.int .u8 (y : Int)) = ((Part o (k + 1)).set k (x + 1)).map bv from by rw [List.map_set, hyv], hps] at hput;have hf2 := hf.setCell (p := ⟨g, k, none⟩) hob (.int .u8 (y : Int));have Hput := hide hput;have Hf2 := hide hf2;have hpz := hide (part_zero o k hk);rw [i1]
   by_cases hx255 : x = 255
   ·have hz := hz0.out hx255
    have Hx := hide hx255;clear hx hcar hca hps hput hf2 hown hf hx255 hyv hy hz0 hz1 Hown Hbel Hrun
    go_wp2
    go_roundw
    case rel =>
     refine ⟨k, by omega, rfl, ?_, Hf2.out, hide (Hca.out.1 Hx.out)⟩;have := Hput.out;rw [Hx.out] at this;rw [← hpz.out];exact this
    case measure => simp [intOf] <;> omega
   ·have hz := hz1.out hx255
    have Hx := hide (Hca.out.2 hx255);clear hx hcar hca hps hput hf2 hown hf hx255 hyv hy hz0 hz1 Hown Hbel Hrun
    go_wp2
    go_returns
    obtain ⟨A', cap2, hv, hat⟩ := own_at Hput.out
    injection hv with h1 h2 h3
    subst h1; subst h3
    refine ⟨_, cap', by rw [carry_length]; rfl, ?_, Hf2.out⟩;rw [Hx.out];exact hat
  ·have hj0 : j = 0 := by omega
   subst hj0;clear Hown Hbel Hrun
   go_wp2
   go_returns
   obtain ⟨A', cap2, hv, hat⟩ := own_at hown
   injection hv with h1 h2 h3
   subst h1; subst h3
   refine ⟨_, cap', by rw [carry_length]; rfl, ?_, hf⟩;rw [hcar.out]
   simpa [Part, carry, inc] using hat
end Go.Proofs.YtoeeblldgoccoaaGreat
namespace Wv
open Go Go.RowKit
theorem at_off {w : World} {A : Option Addr} {vs : List Value} {b : Nat} {T : TypeId} {cs : Array Value} (h : At w A vs) (hk : Bk w b T cs) (hn : ∀ v ∈ vs, v ∉ cs.toList) (k : Nat) (x : Value) : At (w.setCell ⟨b, k, none⟩ x) A vs := by
 intro i hi;obtain ⟨b', o, hA, hb, hc⟩ := h i hi
 have hne : b' ≠ b := by
  rintro rfl;have h2 := hk.cell (o + i);rw [hc] at h2
  exact hn _ (List.getElem_mem hi) (by
   have h3 : cs.toList[o + i]? = some vs[i] := by simpa using h2.symm
   exact List.mem_of_getElem? h3)
 refine ⟨b', o, hA, by simpa using hb, ?_⟩;exact ((Fr.refl (fun j => j = b) w).setCell (p := ⟨b, k, none⟩) (.inl rfl) x).cell (p := ⟨b', _, none⟩) hb hne |>.trans hc
theorem at_only {w w' : World} {A : Option Addr} {vs : List Value} {b : Nat} {T : TypeId} {cs : Array Value} (h : At w A vs) (hk : Bk w b T cs) (hn : ∀ v ∈ vs, v ∉ cs.toList) (hf : Fr (only b) w w') : At w' A vs := by
 intro i hi;obtain ⟨b', o, hA, hb, hc⟩ := h i hi
 have hne : b' ≠ b := by
  rintro rfl;have h2 := hk.cell (o + i);rw [hc] at h2
  exact hn _ (List.getElem_mem hi) (by
   have h3 : cs.toList[o + i]? = some vs[i] := by simpa using h2.symm
   exact List.mem_of_getElem? h3)
 exact ⟨b', o, hA, Nat.lt_of_lt_of_le hb hf.size, (hf.cell (p := ⟨b', _, none⟩) hb hne).trans hc⟩
end Wv
namespace Go.Proofs.YtoeeblldgoccoaaGreat
open Go.RowKit Go.Proofs Wv Wv.Vi Wv.Rc
def RB (w : World) (b : Nat) (A : Option Addr) (cap : Nat) (e : En) : Prop :=
 Bk w b 122 #[.slice A e.out.length cap, .int .i64 (e.low : Int), .int .i64 (e.size : Int)] ∧ At w A (e.out.map bv)
theorem RB.off {w : World} {b : Nat} {A : Option Addr} {cap : Nat} {e : En} (h : RB w b A cap e) (k : Nat) (x : Value) : At (w.setCell ⟨b, k, none⟩ x) A (e.out.map bv) :=
 at_off h.2 h.1 (fun v hv => by
  obtain ⟨y, _, rfl⟩ := List.mem_map.1 hv
  simp [bv]) k x
theorem RB.put1 {w : World} {b : Nat} {A : Option Addr} {cap : Nat} {e : En} (h : RB w b A cap e) (x : Nat) : RB (w.setCell ⟨b, 1, none⟩ (.int .i64 (x : Int))) b A cap ⟨e.out, x, e.size⟩ :=
 ⟨by simpa using h.1.put 1 (.int .i64 (x : Int)), h.off 1 _⟩
theorem RB.put2 {w : World} {b : Nat} {A : Option Addr} {cap : Nat} {e : En} (h : RB w b A cap e) (x : Nat) : RB (w.setCell ⟨b, 2, none⟩ (.int .i64 (x : Int))) b A cap ⟨e.out, e.low, x⟩ :=
 ⟨by simpa using h.1.put 2 (.int .i64 (x : Int)), h.off 2 _⟩
theorem RB.put0 {w : World} {b : Nat} {A A' : Option Addr} {cap cap' : Nat} {e : En} {o : List UInt8} (h : RB w b A cap e) (ha : At w A' (o.map bv)) : RB (w.setCell ⟨b, 0, none⟩ (.slice A' o.length cap')) b A' cap' ⟨o, e.low, e.size⟩ :=
 ⟨by simpa using h.1.put 0 (.slice A' o.length cap'), at_off ha h.1 (fun v hv => by
  obtain ⟨y, _, rfl⟩ := List.mem_map.1 hv
  simp [bv]) 0 _⟩
theorem RB.drewN {w : World} {b : Nat} {A : Option Addr} {cap : Nat} {e : En} (h : RB w b A cap e) (n : Nat) : RB (w.drewN n) b A cap e := h
theorem RB.drew {w : World} {b : Nat} {A : Option Addr} {cap : Nat} {e : En} (h : RB w b A cap e) : RB w.drew b A cap e := h
theorem RB.alloc {w : World} {b : Nat} {A : Option Addr} {cap : Nat} {e : En} (h : RB w b A cap e) (o : Obj) : RB (w.alloc o) b A cap e := ⟨h.1.alloc o, h.2.alloc o⟩
theorem RB.below {w w' : World} {b : Nat} {A : Option Addr} {cap : Nat} {e : En} (h : RB w b A cap e) (hb : Below w.heap.size w w') : RB w' b A cap e := ⟨h.1.below hb h.1.lt, h.2.below hb⟩
def smu (b : Nat) (w : World) : Nat := match w.cell? ⟨b, 2, none⟩ with
 | some (.int _ n) => (16777216 - n).toNat
 | _ => 0
theorem smu_eq {w : World} {b : Nat} {A : Option Addr} {cap : Nat} {e : En} (h : RB w b A cap e) : smu b w = (16777216 - (e.size : Int)).toNat := by
 have := h.1.cell 2
 simp at this
 unfold smu;rw [this]
theorem fbit_any {w : World} {v : Value} {e : En} (h : REn w v e) (hv : Val 0 e) (p bit : Nat) (hp1 : 1 ≤ p) (hp2 : p ≤ 2047) (hb2 : bit < 2) (hl : e.out.length ≤ 1000000) :
    Calls Tryz.prog 177 #[v, .int .i64 (p : Int), .int .i64 (bit : Int)] w fun x w' => ∃ v', x = .returned v' ∧ REn w' v' (ebit p bit e) ∧ Below w.heap.size w w' := by
  obtain ⟨A, cap, rfl, hat⟩ := h;obtain ⟨v1, v2⟩ := val_up hv;obtain ⟨b1, b2⟩ := bound_le e.size p v1 hp1 hp2;have hlow := hv.low;have hpv := (epart_val hv (b := bit) hp1 hp2).1;have hpl := (epart_val hv (b := bit) hp1 hp2).2.2.2;obtain ⟨B, hB⟩ : ∃ B, e.size / 2048 * p = B := ⟨_, rfl⟩;have htop := hv.top;have Hcl := hide (flimit_any (p : Int) (by omega) (by omega));rw [hB] at b1 b2;have HB := hide hB
  have i0 : IntKind.i64.wrap ((e.size : Int) / 2048 * (p : Int)) = (B : Int) := by
    have : (e.size : Int) / 2048 * (p : Int) = (B : Int) := by rw [← HB.out, Int.natCast_mul, Int.natCast_ediv]; rfl
    rw [this, IntWalk.i64_in _ (by omega)]
  have hrb0 : RB ((w.alloc (.cells #[.slice A e.out.length cap, .int .i64 (e.low : Int), .int .i64 (e.size : Int)] 122)).alloc (.cells #[.slice none 0 0, .int .i64 0, .int .i64 0] 122)) w.heap.size A cap e :=
    RB.alloc ⟨Bk.new _ _ _, hat.alloc _⟩ _
  have hbel0 := (((Below.refl w.heap.size w).alloc (Nat.le_refl _) (.cells #[.slice A e.out.length cap, .int .i64 (e.low : Int), .int .i64 (e.size : Int)] 122)).alloc (by simp) (.cells #[.slice none 0 0, .int .i64 0, .int .i64 0] 122));have hres0 := (Bk.new (w.alloc (.cells #[.slice A e.out.length cap, .int .i64 (e.low : Int), .int .i64 (e.size : Int)] 122)) 122 #[.slice none 0 0, .int .i64 0, .int .i64 0]);have Hpv := hide hpv;have Hpl := hide hpl;have Htop := hide htop;have Hrb0 := hide hrb0;have Hbel0 := hide hbel0;have Hres0 := hide hres0;clear hat hB hpv hpl htop hv hrb0 hbel0 hres0
  go_enter Tryz.func177, Tryz.ntmps177
  go_wp2
  obtain ⟨W0, hW0⟩ : ∃ W, ((w.alloc (.cells #[.slice A e.out.length cap, .int .i64 (e.low : Int), .int .i64 (e.size : Int)] 122)).alloc (.cells #[.slice none 0 0, .int .i64 0, .int .i64 0] 122)) = W := ⟨_, rfl⟩;rw [hW0] at Hrb0 Hbel0 Hres0 ⊢;clear hW0;simp only [World.size_alloc] at Hres0;have c1 := Hrb0.out.1.cell 1;have c2 := Hrb0.out.1.cell 2;have f1 := Hrb0.out.1.frozen 1;have f2 := Hrb0.out.1.frozen 2
  simp at c1 c2
  go_quiet ((go_at_call 218; exact q1 (Hcl.out _)))
  clear i0
  go_upto_if 15 with fail
  go_cut [] (fun wx => ∃ A' cap', RB wx w.heap.size A' cap' (epart p bit e) ∧ Bk wx (w.heap.size + 1) 122 #[.slice none 0 0, .int .i64 0, .int .i64 0] ∧ Below w.heap.size w wx)
  case first =>
    have hz : bit = 0 ∨ bit = 1 := by omega
    rcases hz with rfl | rfl
    · have Hz := hide (epart_zero p e)
      rw [HB.out] at Hz
      go_wp2
      go_meet
      case rel =>
        rw [Hz.out];exact ⟨A, cap, ((Hrb0.out).drewN nq).put2 B, (Hres0.out.drewN nq).off (p := ⟨w.heap.size, 2, none⟩) (by simp) _, (bdN Hbel0.out nq).setCell (p := ⟨w.heap.size, 2, none⟩) (Nat.le_refl _) _⟩
    · have i2 : (e.size : Int) - (B : Int) = ((e.size - B : Nat) : Int) := by omega
      obtain ⟨R, hR⟩ : ∃ R, e.size - B = R := ⟨_, rfl⟩;rw [hR] at i2;obtain ⟨L, hL⟩ : ∃ L, e.low + B = L := ⟨_, rfl⟩
      have i1 : ((e.low : Int) + (B : Int)) = (L : Int) := by omega
      have hrb1 := ((Hrb0.out.drewN nq).put1 L).put2 R;have hres1 := ((Hres0.out.drewN nq).off (p := ⟨w.heap.size, 1, none⟩) (by simp) (.int .i64 (L : Int))).off (p := ⟨w.heap.size, 2, none⟩) (by simp) (.int .i64 (R : Int));have hbel1 := ((bdN Hbel0.out nq).setCell (p := ⟨w.heap.size, 1, none⟩) (Nat.le_refl _) (.int .i64 (L : Int))).setCell (p := ⟨w.heap.size, 2, none⟩) (Nat.le_refl _) (.int .i64 (R : Int));have Hrb1 := hide hrb1;have Hres1 := hide hres1;have Hbel1 := hide hbel1
      by_cases hov : 4294967296 ≤ L
      · have Hz := hide (epart_over p e B HB.out (by rw [hL]; exact hov))
        rw [hL, hR] at Hz;obtain ⟨L2, hL2⟩ : ∃ L2, L - 4294967296 = L2 := ⟨_, rfl⟩;rw [hL2] at Hz
        have i3 : (L : Int) - 4294967296 = (L2 : Int) := by omega
        have i5 : IntKind.i64.wrap (L2 : Int) = (L2 : Int) := by rw [IntWalk.i64_in _ (by omega)]
        have hov2 : (4294967296 : Int) ≤ (L : Int) := by omega
        have hpos : 0 < e.out.length := by
          rcases Nat.eq_zero_or_pos e.out.length with h9 | h9
          · have h8 := Htop.out
            have h7 : N e = vl 0 e.out * 4294967296 + e.low := rfl;rw [h7, h9] at h8;simp only [Nat.pow_zero, Nat.mul_one] at h8;omega
          · exact h9
        have Hc := hide (fun W (hat : At W A (e.out.map bv)) => fcarried_any hat e.out.length cap rfl hpos (by omega));clear hL hR hov hpos hrb1 hres1 hbel1 hL2
        go_upto_region 6 with fail
        generalize ((W0.drewN nq).setCell ⟨w.heap.size, 1, none⟩ (.int .i64 (L : Int))).setCell ⟨w.heap.size, 2, none⟩ (.int .i64 (R : Int)) = W1 at *
        have r0 := Hrb1.out.1.cell 0;have r1 := Hrb1.out.1.cell 1
        simp at r0 r1
        clear c1 c2 f1 f2
        go_region_with ((go_at_call 219; refine (Hc.out _ Hrb1.out.2.drew).mono ?_; rintro x w2 ⟨A2, cap2, rfl, hat2, hb2⟩; have hrb2 := Hrb1.out.drew.below hb2; have q0 := hrb2.1.cell 0; have q1 := hrb2.1.cell 1; have p0 := hrb2.1.frozen 0; have p1 := hrb2.1.frozen 1; simp at q0 q1; have Hrb2 := hide hrb2; have Hat2 := hide hat2; have Hb2 := hide hb2; clear hrb2 hat2 hb2))
        all_goals
          go_wp2
          go_meet
          case rel =>
            rw [Hz.out]
            try simp only [i5]
            have hs1 := Hb2.out.size;have hw1 := Hbel1.out.size;have hr1 := Hres1.out.lt
            exact ⟨A2, cap2, RB.put0 (Hrb2.out.put1 L2) (at_off Hat2.out Hrb2.out.1 (fun v hv => by
              obtain ⟨y, _, rfl⟩ := List.mem_map.1 hv
              simp [bv]) 1 _), ((Hres1.out.drew.below Hb2.out hr1).off (p := ⟨w.heap.size, 1, none⟩) (by simp) _).off (p := ⟨w.heap.size, 0, none⟩) (by simp) _,
              (((Hbel1.out.drew).trans (Hb2.out.mono hw1)).setCell (p := ⟨w.heap.size, 1, none⟩) (Nat.le_refl _) _).setCell (p := ⟨w.heap.size, 0, none⟩) (Nat.le_refl _) _⟩
      · have Hz := hide (epart_under p e B HB.out (by rw [hL]; exact hov))
        rw [hL, hR] at Hz
        have hov2 : ¬ (4294967296 : Int) ≤ (L : Int) := by omega
        clear hL hR hov hrb1 hres1 hbel1
        go_wp2
        go_meet
        case rel =>
          rw [Hz.out];exact ⟨A, cap, Hrb1.out, Hres1.out, Hbel1.out⟩
  case rest =>
    obtain ⟨A1, cap1, hrb, hres, hbel⟩ := hcut;have hlen := Hpl.out;clear c1 c2 f1 f2 Hrb0 Hbel0 Hres0
    go_wp2
    go_loopw [] (fun wr => ∃ (k : Nat) (A' : Option Addr) (cap' : Nat) (x : En), RB wr w.heap.size A' cap' x ∧ Val k x ∧ k ≤ 2 ∧ Hid (enorm k x = ebit p bit e) ∧ Bk wr (w.heap.size + 1) 122 #[.slice none 0 0, .int .i64 0, .int .i64 0] ∧ Below w.heap.size w wr ∧ x.out.length ≤ e.out.length + 2 - k) (fun wr => smu w.heap.size wr)
    case atStart => exact ⟨2, A1, cap1, _, hrb, Hpv.out, Nat.le_refl _, hide rfl, hres, hbel, by omega⟩
    case round =>
      clear hrb hres hbel hlen;obtain ⟨k, A', cap', x, hx, hvx, hk, hn, hres, hf, hlx⟩ := hrel;have q0 := hx.1.cell 0;have q1 := hx.1.cell 1;have q2 := hx.1.cell 2
      simp at q0 q1 q2
      have hlow := hvx.low;have hsz := hvx.sz.2
      by_cases hlt : x.size < 16777216
      · obtain ⟨j, rfl⟩ : ∃ j, k = j + 1 := by
          rcases Nat.eq_zero_or_pos k with h9 | h9
          · subst h9
            have := val_up hvx;omega
          · exact ⟨k - 1, by omega⟩
        have hvs := eshift_val hvx hlt
        have hen : enorm (j + 1) x = enorm j (eshift x) := by rw [enorm, if_pos hlt]
        have Hen := hide hen;have Hvs := hide hvs
        have hlt2 : (x.size : Int) < 16777216 := by omega
        have hsz0 : 0 < x.size := by
          have := hvx.sz.1
          rcases Nat.eq_zero_or_pos x.size with h9 | h9
          · rw [h9, Nat.zero_mul] at this; omega
          · exact h9
        obtain ⟨y, hy⟩ : ∃ y, x.low / 16777216 = y := ⟨_, rfl⟩
        have hy8 : y < 256 := by omega
        have i1 : (x.low : Int) / 16777216 = (y : Int) := by omega
        have i2 : IntKind.u8.wrap (y : Int) = (y : Int) := by rw [IntWalk.u8_in _ (by omega)]
        obtain ⟨L, hL⟩ : ∃ L, x.low * 256 % 4294967296 = L := ⟨_, rfl⟩
        have i3 : ((x.low : Int) * 256) % 4294967296 = (L : Int) := by omega
        obtain ⟨R, hR⟩ : ∃ R, x.size * 256 = R := ⟨_, rfl⟩
        have i4 : ((x.size : Int) * 256) = (R : Int) := by omega
        have Hsh : Hid (eshift x = ⟨x.out ++ [UInt8.ofNat y], L, R⟩) := hide (by unfold eshift; rw [hy, hL, hR])
        have hA : A' = none → x.out.map bv = [] := by
          rintro rfl
          rcases hxo : x.out with _ | ⟨c, t⟩
          · rfl
          · obtain ⟨b, p, h, _⟩ := hx.2 0 (by rw [List.length_map, hxo]; simp)
            cases h
        obtain ⟨t1, t2, t3⟩ := copy_push (P := Tryz.prog) 42 5 _ _ Tryz.underlying42 u8inf rfl hx.2 cap' x.out.length (by rw [List.length_map]) hA (bvs_one x.out) (.int .u8 (y : Int)) rfl (by unfold maxLen; omega) (by omega)
        have hrow : x.out.map bv ++ [.int .u8 (y : Int)] = (x.out ++ [UInt8.ofNat y]).map bv := by
          rw [List.map_append]
          simp [bv, Nat.mod_eq_of_lt hy8]
        rw [hrow] at t1 t2 t3
        have hl1 : x.out.length + 1 = (x.out ++ [UInt8.ofNat y]).length := by simp
        rw [hl1] at t1 t2 t3;obtain ⟨v1a, w1a, v1b, w1b, r1a, r1b, o1, b1, k1, s1⟩ := t1;obtain ⟨A1, cap1, rfl, hat1⟩ := own_at o1;have E1a := hide r1a;have E1b := hide r1b;obtain ⟨ka1, kb1⟩ := k1 _ _ _ hx.1;have ls1a := ka1.lt;have ls1b := kb1.lt;have m10 := ka1.cell 0;have m11 := ka1.cell 1;have n10 := kb1.cell 0;have n11 := kb1.cell 1;have f1 := kb1.frozen 0
        simp at m10 m11 n10 n11
        have hrb1 : RB w1b w.heap.size A' cap' x := ⟨kb1, hx.2.below b1⟩;have fin1 := (And.intro (And.intro (RB.put0 (cap' := cap1) hrb1 hat1) (((k1 _ _ _ hres).2).off (p := ⟨w.heap.size, 0, none⟩) (by simp) (.slice A1 (x.out ++ [UInt8.ofNat y]).length cap1))) ((hf.trans (b1.mono hf.size)).setCell (p := ⟨w.heap.size, 0, none⟩) (Nat.le_refl _) (.slice A1 (x.out ++ [UInt8.ofNat y]).length cap1)));rw [← hl1] at fin1;have Fin1 := hide fin1;clear r1a r1b o1 b1 k1 s1 hat1 ka1 kb1 hrb1 fin1;obtain ⟨v2a, w2a, v2b, w2b, r2a, r2b, o2, b2, k2, s2⟩ := t2;obtain ⟨A2, cap2, rfl, hat2⟩ := own_at o2;have E2a := hide r2a;have E2b := hide r2b;obtain ⟨ka2, kb2⟩ := k2 _ _ _ hx.1;have ls2a := ka2.lt;have ls2b := kb2.lt;have m20 := ka2.cell 0;have m21 := ka2.cell 1;have n20 := kb2.cell 0;have n21 := kb2.cell 1;have f2 := kb2.frozen 0
        simp at m20 m21 n20 n21
        have hrb2 : RB w2b w.heap.size A' cap' x := ⟨kb2, hx.2.below b2⟩;have fin2 := (And.intro (And.intro (RB.put0 (cap' := cap2) hrb2 hat2) (((k2 _ _ _ hres).2).off (p := ⟨w.heap.size, 0, none⟩) (by simp) (.slice A2 (x.out ++ [UInt8.ofNat y]).length cap2))) ((hf.trans (b2.mono hf.size)).setCell (p := ⟨w.heap.size, 0, none⟩) (Nat.le_refl _) (.slice A2 (x.out ++ [UInt8.ofNat y]).length cap2)));rw [← hl1] at fin2;have Fin2 := hide fin2;clear r2a r2b o2 b2 k2 s2 hat2 ka2 kb2 hrb2 fin2;obtain ⟨v3a, w3a, v3b, w3b, r3a, r3b, o3, b3, k3, s3⟩ := t3;obtain ⟨A3, cap3, rfl, hat3⟩ := own_at o3;have E3a := hide r3a;have E3b := hide r3b;obtain ⟨ka3, kb3⟩ := k3 _ _ _ hx.1;have ls3a := ka3.lt;have ls3b := kb3.lt;have m30 := ka3.cell 0;have m31 := ka3.cell 1;have n30 := kb3.cell 0;have n31 := kb3.cell 1;have f3 := kb3.frozen 0
        simp at m30 m31 n30 n31
        have hrb3 : RB w3b w.heap.size A' cap' x := ⟨kb3, hx.2.below b3⟩;have fin3 := (And.intro (And.intro (RB.put0 (cap' := cap3) hrb3 hat3) (((k3 _ _ _ hres).2).off (p := ⟨w.heap.size, 0, none⟩) (by simp) (.slice A3 (x.out ++ [UInt8.ofNat y]).length cap3))) ((hf.trans (b3.mono hf.size)).setCell (p := ⟨w.heap.size, 0, none⟩) (Nat.le_refl _) (.slice A3 (x.out ++ [UInt8.ofNat y]).length cap3)));rw [← hl1] at fin3;have Fin3 := hide fin3;clear r3a r3b o3 b3 k3 s3 hat3 ka3 kb3 hrb3 fin3;have hbl := hx.1.lt
        have hbl1 : w.heap.size < wr.heap.size + 1 := by omega
        have HR := hide hR;have Hx := hide hx;have Hl1 := hide hl1;clear hvs hen hvx hx hlt hf hy hL hR hA hrow hres hl1
        go_wp2
        go_cut [] (fun wx => ∃ A2 cap2, RB wx w.heap.size A2 cap2 ⟨x.out ++ [UInt8.ofNat y], x.low, x.size⟩ ∧ Bk wx (w.heap.size + 1) 122 #[.slice none 0 0, .int .i64 0, .int .i64 0] ∧ Below w.heap.size w wx)
        case first =>
          clear Hcl HB Hpv Hpl Htop hn hk hlx Hvs Hen Hsh HR Hx Hl1 hlow hsz hlt2 hsz0 hy8 i3 i4 q2 v1 v2 b1 b2 hp1 hp2 hb2 hl
          go_region_law ((first | (refine step_at (wr.alloc (.cells #[] 5)).drew (by with_reducible rfl) ?_; refine step_run (by rfl) _ _ _ (by rfl) _ _ (by rfl) (by rfl) E1a.out ?_) | (refine step_at (w1a.alloc (.cells #[.int .u8 (y : Int)] 5)) (by with_reducible rfl) ?_; refine step_run (by rfl) _ _ _ (by rfl) _ _ (by rfl) (by rfl) E1b.out ?_) | (refine step_at ((wr.alloc (.cells #[] 5)).alloc (.cells #[.int .u8 (y : Int)] 5)).drew (by with_reducible rfl) ?_; refine step_run (by rfl) _ _ _ (by rfl) _ _ (by rfl) (by rfl) E2a.out ?_) | (refine step_at w2a (by with_reducible rfl) ?_; refine step_run (by rfl) _ _ _ (by rfl) _ _ (by rfl) (by rfl) E2b.out ?_) | (refine step_at ((wr.alloc (.cells #[.int .u8 (y : Int)] 5)).alloc (.cells #[] 5)).drew (by with_reducible rfl) ?_; refine step_run (by rfl) _ _ _ (by rfl) _ _ (by rfl) (by rfl) E3a.out ?_) | (refine step_at w3a (by with_reducible rfl) ?_; refine step_run (by rfl) _ _ _ (by rfl) _ _ (by rfl) (by rfl) E3b.out ?_)))
          all_goals
            go_wp2
            go_meet
            case rel => first | exact ⟨A1, cap1, Fin1.out.1.1, Fin1.out.1.2, Fin1.out.2⟩ | exact ⟨A2, cap2, Fin2.out.1.1, Fin2.out.1.2, Fin2.out.2⟩ | exact ⟨A3, cap3, Fin3.out.1.1, Fin3.out.1.2, Fin3.out.2⟩
        case rest =>
          obtain ⟨A2, cap2, hrb, hres2, hf2⟩ := hcut;have u1 := hrb.1.cell 1;have u2 := hrb.1.cell 2;have t1 := hrb.1.frozen 1;have t2 := hrb.1.frozen 2
          simp at u1 u2
          have hrb2 := (hrb.put1 L).put2 R;have hres3 := (hres2.off (p := ⟨w.heap.size, 1, none⟩) (by simp) (.int .i64 (L : Int))).off (p := ⟨w.heap.size, 2, none⟩) (by simp) (.int .i64 (R : Int));have hf3 := (hf2.setCell (p := ⟨w.heap.size, 1, none⟩) (Nat.le_refl _) (.int .i64 (L : Int))).setCell (p := ⟨w.heap.size, 2, none⟩) (Nat.le_refl _) (.int .i64 (R : Int));have Hrb2 := hide hrb2;have Hres3 := hide hres3;have Hf3 := hide hf3;clear E1a E1b E2a E2b E3a E3b Fin1 Fin2 Fin3 q0 q1 hrb hres2 hf2 hrb2 hres3 hf3
          go_wp2
          go_roundw
          case rel =>
            refine ⟨j, A2, cap2, eshift x, ?_, Hvs.out, by omega, hide (by rw [← Hen.out, hn.out]), Hres3.out, Hf3.out, by rw [eshift_len]; omega⟩;rw [Hsh.out];exact Hrb2.out
          case measure =>
            show smu _ _ < smu _ _
            rw [smu_eq Hrb2.out, smu_eq Hx.out];have := HR.out;simp only;omega
      · have hen : enorm k x = x := by cases k with
          | zero => rfl
          | succ k => rw [enorm, if_neg hlt]
        have Hen := hide hen
        have hlt2 : ¬ (x.size : Int) < 16777216 := by omega
        have Hx := hide hx;have Hf := hide hf;have z0 := hres.cell 0;have z1 := hres.cell 1;have z2 := hres.cell 2;have y0 := hres.frozen 0;have y1 := hres.frozen 1;have y2 := hres.frozen 2
        simp at z0 z1 z2
        have Hres := hide hres;clear hlt hen hx hf hres
        go_wp2
        have hfo : Fr (only (w.heap.size + 1)) wr (((wr.setCell ⟨w.heap.size + 1, 0, none⟩ (.slice A' x.out.length cap')).setCell ⟨w.heap.size + 1, 1, none⟩ (.int .i64 (x.low : Int))).setCell ⟨w.heap.size + 1, 2, none⟩ (.int .i64 (x.size : Int))) :=
          (((Fr.refl (only (w.heap.size + 1)) wr).setCell (p := ⟨w.heap.size + 1, 0, none⟩) (.inl rfl) _).setCell (p := ⟨w.heap.size + 1, 1, none⟩) (.inl rfl) _).setCell (p := ⟨w.heap.size + 1, 2, none⟩) (.inl rfl) _
        have hkF := ((Hres.out.put 0 (.slice A' x.out.length cap')).put 1 (.int .i64 (x.low : Int))).put 2 (.int .i64 (x.size : Int))
        generalize (((wr.setCell ⟨w.heap.size + 1, 0, none⟩ (.slice A' x.out.length cap')).setCell ⟨w.heap.size + 1, 1, none⟩ (.int .i64 (x.low : Int))).setCell ⟨w.heap.size + 1, 2, none⟩ (.int .i64 (x.size : Int))) = WF at *
        have u0 : WF.cell? ⟨w.heap.size + 1, 0, none⟩ = some (.slice A' x.out.length cap') := hkF.cell 0;have u1 : WF.cell? ⟨w.heap.size + 1, 1, none⟩ = some (.int .i64 (x.low : Int)) := hkF.cell 1;have u2 : WF.cell? ⟨w.heap.size + 1, 2, none⟩ = some (.int .i64 (x.size : Int)) := hkF.cell 2;clear z0 z1 z2 y0 y1 y2 q0 q1 q2 hkF;refine bodyPost_ret (by simp [results, Tryz.results177, go_sem, u0, u1, u2]; try rfl) rfl ?_;rw [← hn.out, Hen.out]
        exact ⟨_, rfl, ⟨A', cap', rfl, at_only Hx.out.2 Hres.out (fun v hv => by
          obtain ⟨y, _, rfl⟩ := List.mem_map.1 hv
          simp [bv]) hfo⟩, Hf.out.trans (hfo.toBelow' Hf.out.size (fun j hj e => by have : j = w.heap.size + 1 := e; omega))⟩
end Go.Proofs.YtoeeblldgoccoaaGreat
