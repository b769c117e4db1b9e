/-
  Joined texts: V6, BioPr1, BioPr3, BioPr4, BioPr5.
-/
import Derived.Test.YtoeeblldgoccoaaGreatL04
import Derived.Test.YtoeeblldgoccoaaGreatChecked
import Derived.Test.YtoeeblldgoccoaaGreatL02
import Derived.Test.YtoeeblldgoccoaaGreatL01
import Derived.WalkKit
import Derived.WalkSpells
import Derived.WalkLawsBesides
import Derived.Deep.QuietTactic
import Derived.BigQuiet
import Derived.BigRegion
import Derived.StillTailTactics
import Derived.Laws.EntriesVeiled
set_option linter.unusedVariables false
set_option linter.unusedSimpArgs false
set_option maxRecDepth 100000
set_option maxHeartbeats 8000000
namespace Wv.Ru
open Wv.Vi Wv.Rc Wv.Mo
set_option linter.unusedSectionVars false
def nx (l : List Nat) : Nat := l.foldl (fun a x => if x = a then a + 1 else a) 0
structure RunsOk (I C : List Nat) (len dl : Nat) : Prop where
 size : I.length = C.length
 sum : C.sum = len
 next : nx I = dl
 pos : ∀ c ∈ C, 1 ≤ c
 each : ∀ k (h : k < I.length), I[k] ≤ nx (I.take k)
 apart : ∀ k (h : k + 1 < I.length), I[k] ≠ I[k + 1]
section
variable {α : Type} [DecidableEq α]
end
end Wv.Ru
namespace Go.Proofs.YtoeeblldgoccoaaGreat.Bio
open Go.RowKit Go.Proofs Wv Wv.Bit
def RdAt (w : World) (b : Nat) (s : ByteArray) (x n : Nat) : Prop := Bk w b 184 #[.string s, .int .i64 (x : Int), .int .i64 (n : Int)] ∧ x ≤ n ∧ n ≤ 65536 ∧ n ≤ 8 * s.size
theorem RdAt.c0 {w : World} {b x n : Nat} {s : ByteArray} (h : RdAt w b s x n) : w.cell? ⟨b, 0, none⟩ = some (.string s) := h.1.cell 0
theorem RdAt.c1 {w : World} {b x n : Nat} {s : ByteArray} (h : RdAt w b s x n) : w.cell? ⟨b, 1, none⟩ = some (.int .i64 (x : Int)) := h.1.cell 1
theorem RdAt.c2 {w : World} {b x n : Nat} {s : ByteArray} (h : RdAt w b s x n) : w.cell? ⟨b, 2, none⟩ = some (.int .i64 (n : Int)) := h.1.cell 2
theorem left_any {b x n : Nat} {s : ByteArray} {w : World} (h : RdAt w b s x n) :
  Calls Tryz.prog 131 #[.pointer (some ⟨b, 0, none⟩)] w fun e w' => e = .returned (.int .i64 ((n : Int) - (x : Int))) ∧ ∃ q, w' = w.drewN q := by
 have h1 := h.c1;have h2 := h.c2;obtain ⟨_, h3, h4, h5⟩ := h
 go_enter Tryz.func131, Tryz.ntmps131
 go_wp2
 go_quiet (fail)
 go_wp2
 go_ret
 exact ⟨rfl, _, rfl⟩
theorem take_no {b x n : Nat} {s : ByteArray} {w : World} (h : RdAt w b s x n) (c : Int) (hc : (n : Int) - (x : Int) < c) :
  Calls Tryz.prog 190 #[.pointer (some ⟨b, 0, none⟩), .int .i64 c] w fun e w' => e = .returned (.tuple #[.int .i64 0, .int .i64 12]) ∧ ∃ q, w' = w.drewN q := by
 have H := hide (left_any h)
 go_enter Tryz.func190, Tryz.ntmps190
 go_wp2_with (go_at_call 131; refine (H.out).mono ?_; rintro e w' ⟨rfl, q, rfl⟩)
 go_ret2
 exact ⟨rfl, _, rfl⟩
theorem take_yes {b x n : Nat} {s : ByteArray} {w : World} (h : RdAt w b s x n) (c : Nat) (hc : x + c ≤ n) (h62 : c ≤ 62) :
  Calls Tryz.prog 190 #[.pointer (some ⟨b, 0, none⟩), .int .i64 (c : Int)] w fun e w' => e = .returned (.tuple #[.int .i64 (val (((rbits s n).drop x).take c) : Nat), .int .i64 0]) ∧ RdAt w' b s (x + c) n ∧ Fr (only b) w w' := by
 have H := hide (left_any h)
 have hc2 : ¬ (n : Int) - (x : Int) < (c : Int) := by omega
 have Hr := hide h;clear h
 go_enter Tryz.func190, Tryz.ntmps190
 go_wp2_with (go_at_call 131; refine (H.out).mono ?_; rintro e w' ⟨rfl, q, rfl⟩)
 go_loopw [6, 12] (fun v i wr => ∃ k : Nat, k ≤ c ∧ i = .int .i64 k ∧ v = .int .i64 (val (((rbits s n).drop x).take k) : Nat) ∧ RdAt wr b s (x + k) n ∧ Fr (only b) w wr) (fun _ i _ => (c - intOf i).toNat)
 case atStart => exact ⟨0, by omega, rfl, rfl, Hr.out, (Fr.refl _ _).drewN _⟩
 case round =>
  obtain ⟨k, hk, rfl, rfl, hr, hf⟩ := hrel
  by_cases hlt : k < c
  ·obtain ⟨y, hy⟩ : ∃ y, y = x + k := ⟨_, rfl⟩
   have hr2 := hr;rw [← hy] at hr2;have g0 := hr2.c0;have g1 := hr2.c1;have g2 : wr.frozen? ⟨b, 1, none⟩ = false := hr.1.frozen 1;obtain ⟨hb1, hb2, hb3, hb4⟩ := hr2;have Hy := hide hy
   have j1 : y < n := by omega
   clear hy;have Hv := hide (val_take_succ ((rbits s n).drop x) k (by rw [List.length_drop, rbits_length]; have := Hy.out; omega))
   have hbt := fun h6 => show bt ((rbits s n).drop x) k = (s[y / 8]'h6).toNat / 2 ^ (7 - y % 8) % 2 from by rw [bt_drop, ← Hy.out, bt_rbits s n y j1 h6]
   obtain ⟨z, hz⟩ : ∃ z, y / 8 = z := ⟨_, rfl⟩;obtain ⟨d, hd⟩ : ∃ d, 7 - y % 8 = d := ⟨_, rfl⟩;obtain ⟨m, hm⟩ : ∃ m, y % 8 = m := ⟨_, rfl⟩
   have i3 : IntKind.i64.wrap ((y : Int) / 8) = (z : Int) := by rw [IntWalk.i64_in _ (by omega)]; omega
   have i4 : IntKind.i64.wrap ((y : Int) % 8) = (m : Int) := by rw [IntWalk.i64_in _ (by omega)]; omega
   have i5 : IntKind.i64.wrap (7 - (m : Int)) = (d : Int) := by rw [IntWalk.i64_in _ (by omega)]; omega
   have i6 : z < s.size := by omega
   have i2 : (z : Int) < (s.size : Int) := by omega
   have i7 : d < 8 := by omega
   have i8 : (d : Int) < 8 := by omega
   rw [hz] at hbt;have Hbt := hide (hbt i6);clear hz hd hm hbt
   go_wp2
   go_quiet (fail)
   go_wp2
   go_roundw
   case rel =>
    refine ⟨k + 1, by omega, by go_num, ?_, ?_, (hf.drewN _).setCell (p := ⟨b, 1, none⟩) (.inl rfl) _⟩
    ·rw [Hv.out, Hbt.out]
     exact congrArg _ (take_arith _ _ _ (val_take_lt62 _ _ (by omega)) (UInt8.toNat_lt _))
    ·have := (hb1.drewN nq).put 1 (.int .i64 ((y : Int) + 1))
     have h9 := Hy.out;refine ⟨?_, by omega, hb3, hb4⟩;rw [show x + (k + 1) = y + 1 from by omega];exact this
   case measure => simp [intOf]; omega
  ·have : k = c := by omega
   subst this
   go_wp2
   go_ret2
   exact ⟨rfl, hr, hf⟩
end Go.Proofs.YtoeeblldgoccoaaGreat.Bio
namespace Go.Proofs.YtoeeblldgoccoaaGreat.Bio
open Go.RowKit Go.Proofs Wv
def kv0 : Value := .agg #[.int .i64 0, .int .i64 62, .func (.func 186) #[] #[], .func (.func 187) #[] #[], .func (.func 188) #[] #[], .func (.func 189) #[] #[]]
def kv1 : Value := .agg #[.int .i64 0, .int .i64 0, .func (.func 185) #[] #[], .func (.func 191) #[] #[], .func (.func 192) #[] #[], .func (.func 194) #[] #[]]
def kv2 : Value := .agg #[.int .i64 0, .int .i64 30, .func (.func 185) #[] #[], .func (.func 196) #[] #[], .func (.func 197) #[] #[], .func (.func 198) #[] #[]]
def kv3 : Value := .agg #[.int .i64 0, .int .i64 30, .func (.func 199) #[] #[], .func (.func 200) #[] #[], .func (.func 202) #[] #[], .func (.func 203) #[] #[]]
def kv4 : Value := .agg #[.int .i64 1, .int .i64 4294967296, .func (.func 204) #[] #[], .func (.func 205) #[] #[], .func (.func 207) #[] #[], .func (.func 208) #[] #[]]
def kmap : Array MapEntry := #[⟨.int .i64 0, kv0, 0⟩, ⟨.int .i64 1, kv1, 1⟩, ⟨.int .i64 2, kv2, 2⟩, ⟨.int .i64 3, kv3, 3⟩, ⟨.int .i64 4, kv4, 4⟩]
theorem kinds_any (w : World) :
  Calls Tryz.prog 163 #[] w fun e w' => e = .returned (.map (some w.heap.size)) ∧ w.alloc (.map kmap 5) = w' := by
 have hmm := @run_makeMap Tryz.prog;have p0 := map_put_new (P := Tryz.prog) Tryz.underlying186 Tryz.underlying3 w #[] 0 0 (.agg #[.int .i64 0, .int .i64 62, .func (.func 186) #[] #[], .func (.func 187) #[] #[], .func (.func 188) #[] #[], .func (.func 189) #[] #[]]) rfl;have p1 := map_put_new (P := Tryz.prog) Tryz.underlying186 Tryz.underlying3 w #[⟨.int .i64 0, .agg #[.int .i64 0, .int .i64 62, .func (.func 186) #[] #[], .func (.func 187) #[] #[], .func (.func 188) #[] #[], .func (.func 189) #[] #[]], 0⟩] 1 1 (.agg #[.int .i64 0, .int .i64 0, .func (.func 185) #[] #[], .func (.func 191) #[] #[], .func (.func 192) #[] #[], .func (.func 194) #[] #[]]) rfl;have p2 := map_put_new (P := Tryz.prog) Tryz.underlying186 Tryz.underlying3 w #[⟨.int .i64 0, .agg #[.int .i64 0, .int .i64 62, .func (.func 186) #[] #[], .func (.func 187) #[] #[], .func (.func 188) #[] #[], .func (.func 189) #[] #[]], 0⟩, ⟨.int .i64 1, .agg #[.int .i64 0, .int .i64 0, .func (.func 185) #[] #[], .func (.func 191) #[] #[], .func (.func 192) #[] #[], .func (.func 194) #[] #[]], 1⟩] 2 2 (.agg #[.int .i64 0, .int .i64 30, .func (.func 185) #[] #[], .func (.func 196) #[] #[], .func (.func 197) #[] #[], .func (.func 198) #[] #[]]) rfl;have p3 := map_put_new (P := Tryz.prog) Tryz.underlying186 Tryz.underlying3 w #[⟨.int .i64 0, .agg #[.int .i64 0, .int .i64 62, .func (.func 186) #[] #[], .func (.func 187) #[] #[], .func (.func 188) #[] #[], .func (.func 189) #[] #[]], 0⟩, ⟨.int .i64 1, .agg #[.int .i64 0, .int .i64 0, .func (.func 185) #[] #[], .func (.func 191) #[] #[], .func (.func 192) #[] #[], .func (.func 194) #[] #[]], 1⟩, ⟨.int .i64 2, .agg #[.int .i64 0, .int .i64 30, .func (.func 185) #[] #[], .func (.func 196) #[] #[], .func (.func 197) #[] #[], .func (.func 198) #[] #[]], 2⟩] 3 3 (.agg #[.int .i64 0, .int .i64 30, .func (.func 199) #[] #[], .func (.func 200) #[] #[], .func (.func 202) #[] #[], .func (.func 203) #[] #[]]) rfl;have p4 := map_put_new (P := Tryz.prog) Tryz.underlying186 Tryz.underlying3 w #[⟨.int .i64 0, .agg #[.int .i64 0, .int .i64 62, .func (.func 186) #[] #[], .func (.func 187) #[] #[], .func (.func 188) #[] #[], .func (.func 189) #[] #[]], 0⟩, ⟨.int .i64 1, .agg #[.int .i64 0, .int .i64 0, .func (.func 185) #[] #[], .func (.func 191) #[] #[], .func (.func 192) #[] #[], .func (.func 194) #[] #[]], 1⟩, ⟨.int .i64 2, .agg #[.int .i64 0, .int .i64 30, .func (.func 185) #[] #[], .func (.func 196) #[] #[], .func (.func 197) #[] #[], .func (.func 198) #[] #[]], 2⟩, ⟨.int .i64 3, .agg #[.int .i64 0, .int .i64 30, .func (.func 199) #[] #[], .func (.func 200) #[] #[], .func (.func 202) #[] #[], .func (.func 203) #[] #[]], 3⟩] 4 4 (.agg #[.int .i64 1, .int .i64 4294967296, .func (.func 204) #[] #[], .func (.func 205) #[] #[], .func (.func 207) #[] #[], .func (.func 208) #[] #[]]) rfl
 go_enter Tryz.func163, Tryz.ntmps163
 go_wp2
 go_ret
 exact ⟨rfl, rfl⟩
end Go.Proofs.YtoeeblldgoccoaaGreat.Bio
namespace Go.Proofs.YtoeeblldgoccoaaGreat.Bio
open Go.RowKit Go.Proofs Wv
theorem six {W : World} {g : Nat} {t : TypeId} {c0 c1 c2 c3 c4 c5 : Value} (h : Bk W g t #[c0, c1, c2, c3, c4, c5]) :
  (W.cell? ⟨g, 0, none⟩ = some c0 ∧ W.cell? ⟨g, 1, none⟩ = some c1 ∧ W.cell? ⟨g, 2, none⟩ = some c2 ∧ W.cell? ⟨g, 3, none⟩ = some c3 ∧ W.cell? ⟨g, 4, none⟩ = some c4 ∧ W.cell? ⟨g, 5, none⟩ = some c5) ∧
  (W.frozen? ⟨g, 0, none⟩ = false ∧ W.frozen? ⟨g, 1, none⟩ = false ∧ W.frozen? ⟨g, 2, none⟩ = false ∧ W.frozen? ⟨g, 3, none⟩ = false ∧ W.frozen? ⟨g, 4, none⟩ = false ∧ W.frozen? ⟨g, 5, none⟩ = false) :=
 ⟨⟨h.cell 0, h.cell 1, h.cell 2, h.cell 3, h.cell 4, h.cell 5⟩, h.frozen 0, h.frozen 1, h.frozen 2, h.frozen 3, h.frozen 4, h.frozen 5⟩
theorem kinds_map (w : World) :
  Calls Tryz.prog 163 #[] w fun e w' => e = .returned (.map (some w.heap.size)) ∧ w'.heap[w.heap.size]? = some (.map kmap 5) ∧ Below w.heap.size w w' := by
 refine (kinds_any w).mono ?_;rintro e w' ⟨rfl, rfl⟩;exact ⟨rfl, heap_alloc_new w _, (Below.refl _ _).alloc (Nat.le_refl _) _⟩
theorem find0 (p : Int) (h0 : 0 ≤ p) (h1 : p ≤ 62) (w : World) :
  Calls Tryz.prog 141 #[.int .i64 0, .int .i64 p] w fun e w' => e = .returned (.tuple #[kv0, .bool true]) ∧ Below w.heap.size w w' := by
 have hk := hide kinds_map
 go_enter Tryz.func141, Tryz.ntmps141
 go_wp2_with fail
 refine (hk.out _).mono ?_;rintro e w1 ⟨rfl, hm, hb⟩;have hl := map_get_ok (P := Tryz.prog) Tryz.underlying186 Tryz.underlying3 w1 _ kmap 5 0 0 kv0 hm rfl;unfold kv0 at hl;rw [World.size_alloc] at hl;clear hm;have hs1 := hb.size
 simp at hs1
 have hbb := ((Below.refl w.heap.size w).alloc (Nat.le_refl _) _).trans (hb.mono (by simp));have hz := (((Bk.new w 166 #[.int .i64 0, .int .i64 0, .nilFunc, .nilFunc, .nilFunc, .nilFunc]).below hb (by simp)).alloc (.cells kv0.cells 166));obtain ⟨hz1, hz2⟩ := six hz;simp only [kv0, Value.cells] at hz1 hz2;clear hz hb
 go_wp2
 go_region
 go_wp2
 refine bodyPost_ret (v := .tuple #[kv0, .bool true]) (by simp [results, Tryz.results141, go_sem, kv0, *]) rfl ⟨rfl, ?_⟩
 go_grown
end Go.Proofs.YtoeeblldgoccoaaGreat.Bio
namespace Go.Proofs.YtoeeblldgoccoaaGreat.Bio
open Go.RowKit Go.Proofs Wv
end Go.Proofs.YtoeeblldgoccoaaGreat.Bio
