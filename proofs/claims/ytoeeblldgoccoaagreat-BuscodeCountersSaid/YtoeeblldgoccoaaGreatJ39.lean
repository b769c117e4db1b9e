/-
  Joined texts: Ah, Sh, Si.
-/
import Derived.Test.YtoeeblldgoccoaaGreatJ37
import Derived.Test.YtoeeblldgoccoaaGreatJ24
import Derived.Test.YtoeeblldgoccoaaGreatJ13
set_option linter.unusedVariables false
set_option linter.unusedSimpArgs false
/-
  The walks over the reference of values: planes.
-/
namespace Go.Proofs.YtoeeblldgoccoaaGreat
open Go.RowKit Go.Proofs Wv Wv.Vi Wv.Bc
set_option linter.unusedVariables false
set_option maxRecDepth 100000
def loC (c : UInt8) : UInt8 := UInt8.ofNat (48 + cd c % 2)
def hiC (c : UInt8) : UInt8 := UInt8.ofNat (48 + cd c / 2)
theorem conv_newB (w : World) (c : UInt8) (o : Obj) : (convert 42 9 (.slice (some ⟨w.heap.size, 0, none⟩) 1 1)).run Tryz.prog ((w.alloc (.cells #[.int .u8 (c.toNat : Int)] 5)).alloc o) = .ok (.string ⟨#[c]⟩) ((w.alloc (.cells #[.int .u8 (c.toNat : Int)] 5)).alloc o) :=
 conv_all (P := Tryz.prog) 42 9 5 Tryz.underlying42 Tryz.underlying5 Tryz.underlying9 ((w.alloc (.cells #[.int .u8 (c.toNat : Int)] 5)).alloc o) w.heap.size 1 1 [c] [] ((Bk.new w 5 #[.int .u8 (c.toNat : Int)]).alloc o) rfl
set_option maxHeartbeats 4000000 in
theorem aplanes_any (v : List UInt8) (hv : v.length ≤ 1099511627776) (h : isV v = true) (w : World) :
  Calls Tryz.prog 69 #[.string (bs v)] w fun x w' => x = .returned (.tuple #[.string (bs (v.map loC)), .string (bs (v.map hiC))]) ∧ Below w.heap.size w w' := by
 have Hi := hide (aisv_any v hv w)
 rw [h] at Hi
 obtain ⟨h1, h2, h3⟩ := isV_iff.1 h
 have hsz : (bs v).size = v.length := bs_size v
 have Hget : Hid (∀ (i : Nat) (h : i < v.length) (h2 : i < (bs v).size), (bs v)[i]'h2 = v[i]'h) := hide (fun i h h2 => bs_get v i h h2)
 have Hco := hide (fun c W => acode_any c W)
 obtain ⟨ZF, hZF⟩ : ∃ f : UInt8 → ByteArray, (fun c => (⟨#[c]⟩ : ByteArray)) = f := ⟨_, rfl⟩
 have hZ : ∀ c : UInt8, (⟨#[c]⟩ : ByteArray) = ZF c := fun c => congrFun hZF c
 have hst : ∀ (f : UInt8 → UInt8) i (hi : i < v.length), bs ((v.take (i + 1)).map f) = bs ((v.take i).map f) ++ ZF (f (v[i]'hi)) := fun f i hi => by rw [List.take_succ_eq_append_getElem hi, List.map_append, ← bs_append, ← hZ]; rfl
 have Hst := hide hst
 have hln : ∀ (f : UInt8 → UInt8) i, (bs ((v.take i).map f)).size ≤ 128 := fun f i => by rw [bs_size, List.length_map, List.length_take]; omega
 have Hln := hide hln
 have hz1 : ∀ c, (ZF c).size = 1 := fun c => by rw [← hZ]; rfl
 have Hz1 := hide hz1
 have Hr1 := hide (fun W (c : UInt8) => by have := conv_one (P := Tryz.prog) 42 9 5 Tryz.underlying42 Tryz.underlying5 Tryz.underlying9 W (c.toNat : Int); rw [u8_back, hZ] at this; exact this)
 have Hr2 := hide (fun W (c : UInt8) o => by have := conv_newB W c o; rw [hZ] at this; exact this)
 obtain ⟨N, hn⟩ : ∃ n, v.length = n := ⟨_, rfl⟩
 have Hn := hide hn
 have Hlow : Hid (bs (v.map loC) = bs ((v.take N).map loC)) := hide (by rw [← hn, List.take_length])
 have Hhig : Hid (bs (v.map hiC) = bs ((v.take N).map hiC)) := hide (by rw [← hn, List.take_length])
 have Hz : Hid (∀ f : UInt8 → UInt8, bs ((v.take 0).map f) = ⟨#[]⟩) := hide (fun _ => rfl)
 rw [hn] at hsz h3
 have Hsz := hide hsz
 have H1 := hide h1
 generalize bs (v.map loC) = RL at *
 generalize bs (v.map hiC) = RH at *
 obtain ⟨TT, hTT⟩ : ∃ f : (UInt8 → UInt8) → Nat → ByteArray, (fun g i => bs ((v.take i).map g)) = f := ⟨_, rfl⟩
 have hTi : ∀ g i, bs ((v.take i).map g) = TT g i := fun g i => congrFun (congrFun hTT g) i
 simp only [hTi] at Hst Hln Hlow Hhig Hz
 obtain ⟨S, hS⟩ : ∃ S, bs v = S := ⟨_, rfl⟩
 rw [hS] at hsz Hget Hsz Hi ⊢
 clear h h1 h2 hn hTT hTi hst hln hS hsz hZF hZ hz1
 go_enter Tryz.func69, Tryz.ntmps69
 go_wp2_with fail
 refine (Hi.out).mono ?_
 rintro x w1 ⟨rfl, rfl⟩
 clear Hi
 go_wp2
 go_loopw [4, 5, 6] (fun s4 s5 s6 wr => ∃ i : Nat, i ≤ N ∧ s6 = .int .i64 (i : Int) ∧ s4 = .string (TT loC i) ∧ s5 = .string (TT hiC i) ∧ Hid (Below w.heap.size w wr)) (fun _ _ s6 _ => (N - intOf s6).toNat)
 case atStart => exact ⟨0, Nat.zero_le _, rfl, by rw [Hz.out], by rw [Hz.out], hide (Below.refl _ _)⟩
 case round =>
  obtain ⟨i, hi, rfl, rfl, rfl, hb⟩ := hrel
  by_cases hlt : i < N
  ·have hil : i < v.length := by rw [Hn.out]; exact hlt
   have hiS : i < S.size := by rw [Hsz.out]; exact hlt
   have hg0 := Hget.out i hil
   have hs1 := Hst.out loC i hil
   have hs2 := Hst.out hiC i hil
   have hl1 := Hln.out loC i
   have hl2 := Hln.out hiC i
   have hcd := H1.out (v[i]'hil) (List.getElem_mem _)
   obtain ⟨c, hc⟩ : ∃ c, v[i]'hil = c := ⟨_, rfl⟩
   rw [hc] at hg0 hs1 hs2 hcd
   have hget : ∀ h : i < S.size, (S[i]'h).toNat = c.toNat := fun h => by rw [hg0 h]
   have hlti : (i : Int) < (S.size : Int) := by omega
   have hlti0 : (0 : Int) ≤ (i : Int) := by omega
   have Hc := hide (Hco.out c wr)
   rw [cdI_ok hcd] at Hc
   rw [show loC c = UInt8.ofNat (48 + cd c % 2) from rfl] at hs1
   rw [show hiC c = UInt8.ofNat (48 + cd c / 2) from rfl] at hs2
   obtain ⟨k, hk⟩ : ∃ k, cd c = k := ⟨_, rfl⟩
   rw [hk] at Hc hs1 hs2 hcd
   have Hs1 := hide hs1
   have Hs2 := hide hs2
   have Hbx := hide (fun (x y : Value) => ((hb.out.alloc hb.out.size (.cells #[x] 5)).alloc (by rw [World.size_alloc]; have := hb.out.size; omega) (.cells #[y] 5)).drew)
   have z48 := Hz1.out 48
   have z49 := Hz1.out 49
   have a48 : (convert 42 9 (.slice (some ⟨wr.heap.size, 0, none⟩) 1 1)).run Tryz.prog (wr.alloc (.cells #[.int .u8 48] 5)).drew = .ok (.string (ZF 48)) (wr.alloc (.cells #[.int .u8 48] 5)).drew := Hr1.out wr.drew 48
   have a49 : (convert 42 9 (.slice (some ⟨wr.heap.size, 0, none⟩) 1 1)).run Tryz.prog (wr.alloc (.cells #[.int .u8 49] 5)).drew = .ok (.string (ZF 49)) (wr.alloc (.cells #[.int .u8 49] 5)).drew := Hr1.out wr.drew 49
   have b48 : ∀ y : Int, (convert 42 9 (.slice (some ⟨wr.heap.size, 0, none⟩) 1 1)).run Tryz.prog ((wr.alloc (.cells #[.int .u8 48] 5)).alloc (.cells #[.int .u8 y] 5)).drew = .ok (.string (ZF 48)) ((wr.alloc (.cells #[.int .u8 48] 5)).alloc (.cells #[.int .u8 y] 5)).drew := fun y => Hr2.out wr.drew 48 _
   have b49 : ∀ y : Int, (convert 42 9 (.slice (some ⟨wr.heap.size, 0, none⟩) 1 1)).run Tryz.prog ((wr.alloc (.cells #[.int .u8 49] 5)).alloc (.cells #[.int .u8 y] 5)).drew = .ok (.string (ZF 49)) ((wr.alloc (.cells #[.int .u8 49] 5)).alloc (.cells #[.int .u8 y] 5)).drew := fun y => Hr2.out wr.drew 49 _
   have d48 : ∀ y : Int, (convert 42 9 (.slice (some ⟨wr.heap.size + 1, 0, none⟩) 1 1)).run Tryz.prog ((wr.alloc (.cells #[.int .u8 y] 5)).alloc (.cells #[.int .u8 48] 5)).drew = .ok (.string (ZF 48)) ((wr.alloc (.cells #[.int .u8 y] 5)).alloc (.cells #[.int .u8 48] 5)).drew := fun y => by
    have := Hr1.out (wr.drew.alloc (.cells #[.int .u8 y] 5)) 48
    rw [World.size_alloc] at this
    exact this
   have d49 : ∀ y : Int, (convert 42 9 (.slice (some ⟨wr.heap.size + 1, 0, none⟩) 1 1)).run Tryz.prog ((wr.alloc (.cells #[.int .u8 y] 5)).alloc (.cells #[.int .u8 49] 5)).drew = .ok (.string (ZF 49)) ((wr.alloc (.cells #[.int .u8 y] 5)).alloc (.cells #[.int .u8 49] 5)).drew := fun y => by
    have := Hr1.out (wr.drew.alloc (.cells #[.int .u8 y] 5)) 49
    rw [World.size_alloc] at this
    exact this
   clear hil hg0 hc hk hs1 hs2 Hst Hln Hget Hco H1 Hr1 Hr2 Hz1 hb
   go_wp2_with fail
   refine (Hc.out).mono ?_
   rintro x w1 ⟨rfl, rfl⟩
   clear Hc
   rcases (show k = 0 ∨ k = 1 ∨ k = 2 ∨ k = 3 by omega) with rfl | rfl | rfl | rfl
   all_goals
    go_wp2
    go_region
    all_goals
     go_wp2
     go_roundw
     case rel => exact ⟨i + 1, hlt, by go_num, by rw [Hs1.out]; rfl, by rw [Hs2.out]; rfl, hide (Hbx.out _ _)⟩
     case measure => simp [intOf] <;> omega
  ·have hin : i = N := by omega
   have hend : ¬ (i : Int) < (S.size : Int) := by rw [Hsz.out]; omega
   have Hf1 := hide (show RL = TT loC i by rw [hin]; exact Hlow.out)
   have Hf2 := hide (show RH = TT hiC i by rw [hin]; exact Hhig.out)
   clear hin Hst Hln Hget
   go_wp2
   go_returns
   exact ⟨by rw [Hf1.out, Hf2.out]; rfl, hb.out⟩
end Go.Proofs.YtoeeblldgoccoaaGreat
/-
  The walks over the references: models, a number; the bytes of numbers.
-/
namespace Go.Proofs.YtoeeblldgoccoaaGreat
open Go.RowKit Go.Proofs Wv Wv.Vi Wv.Rc Wv.Mo
set_option linter.unusedVariables false

set_option maxRecDepth 100000 in
set_option maxHeartbeats 2000000 in
theorem fnenc_any {w : World} {v : Value} {e : En} {A : Option Addr} {t : List Nat} (h : REn w v e) (hv : Val 0 e) (ha : At w A (ns t)) (ht : TNum t) (n cap : Nat) (hn : n < 4611686018427387904) (hl : e.out.length ≤ 700000) :
  Calls Tryz.prog 112 #[v, .slice A 64 cap, .int .i64 (n : Int)] w fun x w' => ERT w A (nenc n (t, e)) x w' := by
 have hb62 := blen_le hn
 have Hl := hide (flength_any n (by omega))
 obtain ⟨k, hk⟩ : ∃ k, blen n = k := ⟨_, rfl⟩
 have hne : nenc n (t, e) = ((tenc 6 k 1 t e).1, if 2 ≤ k then edir (k - 1) n (tenc 6 k 1 t e).2 else (tenc 6 k 1 t e).2) := by unfold nenc; rw [hk]
 rw [hk] at Hl hb62
 obtain ⟨k1, k2, k3⟩ := tenc_val 6 k 1 ht.1 (by rw [ht.2]; decide) hv
 have hlen := tenc_len k 6 1 t e
 have Ht := hide (fun W (hr : REn W v e) (ha : At W A (ns t)) => ftenc_any hr hv ha ht k cap (by omega) (by omega))
 generalize tenc 6 k 1 t e = D at *
 obtain ⟨t2, e2⟩ := D
 simp only at hne Ht k3 hlen
 have Hne := hide hne
 have k1l := hide (show t2.length = 64 from k2.trans ht.2)
 obtain ⟨Ae, cape, rfl, hat⟩ := h
 have hbel0 := (((Below.refl w.heap.size w).alloc (Nat.le_refl _) (.cells #[.slice Ae e.out.length cape, .int .i64 (e.low : Int), .int .i64 (e.size : Int)] 122)).alloc (by simp) (.cells #[.slice none 0 0, .int .i64 0, .int .i64 0] 122))
 have hres0 := (Bk.new (w.alloc (.cells #[.slice Ae e.out.length cape, .int .i64 (e.low : Int), .int .i64 (e.size : Int)] 122)) 122 #[.slice none 0 0, .int .i64 0, .int .i64 0])
 simp only [World.size_alloc] at hres0
 have hat0 := (ha.alloc (.cells #[.slice Ae e.out.length cape, .int .i64 (e.low : Int), .int .i64 (e.size : Int)] 122)).alloc (.cells #[.slice none 0 0, .int .i64 0, .int .i64 0] 122)
 have hren0 : REn ((w.alloc (.cells #[.slice Ae e.out.length cape, .int .i64 (e.low : Int), .int .i64 (e.size : Int)] 122)).alloc (.cells #[.slice none 0 0, .int .i64 0, .int .i64 0] 122)) (.agg #[.slice Ae e.out.length cape, .int .i64 (e.low : Int), .int .i64 (e.size : Int)]) e := ⟨Ae, cape, rfl, (hat.alloc _).alloc _⟩
 have Hx := hide (Ht.out _ hren0 hat0)
 have HbA : Hid (∀ b o, A = some ⟨b, o, none⟩ → b < w.heap.size) := hide (fun b o h => by
  obtain ⟨b', o', h1, h2, _⟩ := ha 0 (by rw [ns_len, ht.2]; omega)
  rw [h] at h1
  injection h1 with h1
  injection h1 with h1
  omega)
 have Hbel0 := hide hbel0
 have Hres0 := hide hres0
 have hc0 : ¬ (n : Int) < 0 := by omega
 have hc1 : ¬ (4611686018427387903 : Int) < (n : Int) := by omega
 have hk0 : k < 63 := by omega
 have Hd := hide (fun W vv (hr : REn W vv e2) (h2 : 2 ≤ k) => fdirect_any hr k3 (k - 1) n (by omega) (by omega) (by omega))
 clear hbel0 hres0 hat ha hat0 hren0 Ht hne hk k1 k2 k3 hv hn ht hlen hl hb62
 go_enter Tryz.func112, Tryz.ntmps112
 go_wp2_with fail
 refine (Hl.out _).mono ?_
 rintro x w1 ⟨rfl, rfl⟩
 go_wp2_with fail
 refine (Hx.out).mono ?_
 rintro x w2 ⟨v2, A4, cap4, rfl, ⟨A2, cap2, rfl, hat2⟩, hat4, hb2, hfar⟩
 simp only at hat2 hat4
 have hbel2 := Hbel0.out.trans (hb2.mono Hbel0.out.size)
 have hlt0 := Hres0.out.lt
 have hres2 := Hres0.out.below hb2 hlt0
 have hlt2 := hres2.lt
 have hrb3 : RB (w2.alloc (.cells #[.slice A2 e2.out.length cap2, .int .i64 (e2.low : Int), .int .i64 (e2.size : Int)] 122)) w2.heap.size A2 cap2 e2 := ⟨Bk.new _ _ _, hat2.alloc _⟩
 have hres3 := hres2.alloc (.cells #[.slice A2 e2.out.length cap2, .int .i64 (e2.low : Int), .int .i64 (e2.size : Int)] 122)
 have hbel3 := hbel2.alloc hbel2.size (.cells #[.slice A2 e2.out.length cap2, .int .i64 (e2.low : Int), .int .i64 (e2.size : Int)] 122)
 have hat43 := hat4.alloc (.cells #[.slice A2 e2.out.length cap2, .int .i64 (e2.low : Int), .int .i64 (e2.size : Int)] 122)
 have Hrb3 := hide hrb3
 have Hres3 := hide hres3
 have Hbel3 := hide hbel3
 have Hat43 := hide hat43
 have hw2 : w.heap.size + 2 ≤ w2.heap.size := by
  have := hb2.size
  simp at this
  omega
 simp only [World.size_alloc] at hfar
 have Hfar : Hid (∀ b o, A4 = some ⟨b, o, none⟩ → b ≠ w.heap.size + 1 ∧ b ≠ w2.heap.size) := hide (fun b o h => by
  have h3 : b < w2.heap.size := by
   obtain ⟨b', o', h1, h2, _⟩ := hat4 0 (by rw [ns_len, k1l.out]; omega)
   rw [h] at h1
   injection h1 with h1
   injection h1 with h1
   omega
  rcases hfar b o h with h1 | h1
  ·have := HbA.out b o (h1 ▸ h)
   omega
  ·omega)
 have Hfar2 : Hid (∀ b o, A4 = some ⟨b, o, none⟩ → A4 = A ∨ w.heap.size ≤ b) := hide (fun b o h => (hfar b o h).imp id (fun h => by omega))
 clear hrb3 hres3 hbel3 hfar hat2 hat4 hb2 hbel2 hres2 hlt0 hat43 Hx Hl Hbel0 Hres0
 generalize hW3 : w2.alloc (.cells #[.slice A2 e2.out.length cap2, .int .i64 (e2.low : Int), .int .i64 (e2.size : Int)] 122) = W3 at *
 have HW3 := hide hW3
 clear hW3
 have c0 : W3.cell? ⟨w2.heap.size, 0, none⟩ = some (.slice A2 e2.out.length cap2) := Hrb3.out.1.cell 0
 have c1 : W3.cell? ⟨w2.heap.size, 1, none⟩ = some (.int .i64 (e2.low : Int)) := Hrb3.out.1.cell 1
 have c2 : W3.cell? ⟨w2.heap.size, 2, none⟩ = some (.int .i64 (e2.size : Int)) := Hrb3.out.1.cell 2
 by_cases h2 : 2 ≤ k
 ·have hk2 : (2 : Int) ≤ (k : Int) := by omega
  have Hd2 := hide (Hd.out _ _ Hrb3.out.en h2)
  have H2 := hide h2
  obtain ⟨q, hq⟩ : ∃ q, k - 1 = q := ⟨_, rfl⟩
  have hq0 := hq
  have i1 : (k : Int) - 1 = (q : Int) := by omega
  rw [hq] at Hd2
  obtain ⟨EE, hEE⟩ : ∃ EE, edir q n e2 = EE := ⟨_, rfl⟩
  have Hq : Hid (edir (k - 1) n e2 = EE) := hide (by rw [hq, hEE])
  rw [hEE] at Hd2
  clear hq h2 hq0 hEE
  go_upto_region 6 with fail
  rw [HW3.out]
  go_wp2_with fail
  refine (Hd2.out).mono ?_
  rintro x w5 ⟨v5, rfl, ⟨A5, cap5, rfl, hat5⟩, hb5⟩
  have hrb5 := Hrb3.out.below hb5
  have p0 := hrb5.1.frozen 0
  have p1 := hrb5.1.frozen 1
  have p2 := hrb5.1.frozen 2
  have q0 : w5.cell? ⟨w2.heap.size, 0, none⟩ = some (.slice A2 e2.out.length cap2) := hrb5.1.cell 0
  have q1 : w5.cell? ⟨w2.heap.size, 1, none⟩ = some (.int .i64 (e2.low : Int)) := hrb5.1.cell 1
  have q2 : w5.cell? ⟨w2.heap.size, 2, none⟩ = some (.int .i64 (e2.size : Int)) := hrb5.1.cell 2
  have hrbA := hrb5.putAll (cap' := cap5) hat5
  have hneq : w.heap.size + 1 ≠ w2.heap.size := by omega
  have hresA := (((Hres3.out.below hb5 Hres3.out.lt).off (p := ⟨w2.heap.size, 0, none⟩) hneq (.slice A5 EE.out.length cap5)).off (p := ⟨w2.heap.size, 1, none⟩) hneq (.int .i64 (EE.low : Int))).off (p := ⟨w2.heap.size, 2, none⟩) hneq (.int .i64 (EE.size : Int))
  have hwl : w.heap.size ≤ w2.heap.size := by omega
  have hbA := (((Hbel3.out.trans (hb5.mono Hbel3.out.size)).setCell (p := ⟨w2.heap.size, 0, none⟩) hwl (.slice A5 EE.out.length cap5)).setCell (p := ⟨w2.heap.size, 1, none⟩) hwl (.int .i64 (EE.low : Int))).setCell (p := ⟨w2.heap.size, 2, none⟩) hwl (.int .i64 (EE.size : Int))
  have hatA := (Hat43.out.below hb5).keep ((((Fr.refl (only w2.heap.size) w5).setCell (p := ⟨w2.heap.size, 0, none⟩) (.inl rfl) (.slice A5 EE.out.length cap5)).setCell (p := ⟨w2.heap.size, 1, none⟩) (.inl rfl) (.int .i64 (EE.low : Int))).setCell (p := ⟨w2.heap.size, 2, none⟩) (.inl rfl) (.int .i64 (EE.size : Int))) (fun b o hbo hs => (Hfar.out b o hbo).2 hs)
  have HrbA := hide hrbA
  have HresA := hide hresA
  have HbA2 := hide hbA
  have HatA := hide hatA
  clear hrb5 hrbA hresA hbA hatA hat5 hb5 Hres3 Hbel3 Hat43 c0 c1 c2 Hrb3
  go_upto_region 7 with fail
  generalize (((w5.setCell ⟨w2.heap.size, 0, none⟩ (.slice A5 EE.out.length cap5)).setCell ⟨w2.heap.size, 1, none⟩ (.int .i64 (EE.low : Int))).setCell ⟨w2.heap.size, 2, none⟩ (.int .i64 (EE.size : Int))) = W6 at *
  clear p0 p1 p2 q0 q1 q2
  obtain ⟨WF, hWF, u0, u1, u2, hren, hfr⟩ := res_end HrbA.out HresA.out rfl
  have c0 : W6.cell? ⟨w2.heap.size, 0, none⟩ = some (.slice A5 EE.out.length cap5) := (HrbA.out).1.cell 0
  have c1 : W6.cell? ⟨w2.heap.size, 1, none⟩ = some (.int .i64 (EE.low : Int)) := (HrbA.out).1.cell 1
  have c2 : W6.cell? ⟨w2.heap.size, 2, none⟩ = some (.int .i64 (EE.size : Int)) := (HrbA.out).1.cell 2
  have z0 : W6.cell? ⟨w.heap.size + 1, 0, none⟩ = some (.slice none 0 0) := (HresA.out).cell 0
  have z1 : W6.cell? ⟨w.heap.size + 1, 1, none⟩ = some (.int .i64 0) := (HresA.out).cell 1
  have z2 : W6.cell? ⟨w.heap.size + 1, 2, none⟩ = some (.int .i64 0) := (HresA.out).cell 2
  have y0 := (HresA.out).frozen 0
  have y1 := (HresA.out).frozen 1
  have y2 := (HresA.out).frozen 2
  have hbe := own_below hfr (HbA2.out).size (show w.heap.size ≤ w.heap.size + 1 by omega)
  have Hren := hide hren
  have Hbe := hide ((HbA2.out).trans hbe)
  have HWF := hide hWF
  have HatF := hide ((HatA.out).keep hfr (fun b o hbo hs => (Hfar.out b o hbo).1 hs))
  clear hren hbe hWF hfr
  go_wp2
  rw [HWF.out]
  clear c0 c1 c2 z0 z1 z2 y0 y1 y2
  refine bodyPost_ret (by simp [results, Tryz.results112, go_sem, u0, u1, u2]; try rfl) rfl ?_
  rw [Hne.out]
  exact ⟨_, A4, cap4, rfl, by rw [if_pos H2.out, Hq.out]; exact Hren.out, HatF.out, Hbe.out, Hfar2.out⟩
 ·have hk2 : ¬ (2 : Int) ≤ (k : Int) := by omega
  have H2 := hide h2
  clear h2
  go_upto_region 7 with fail
  rw [HW3.out]
  obtain ⟨WF, hWF, u0, u1, u2, hren, hfr⟩ := res_end Hrb3.out Hres3.out rfl
  have c0 : W3.cell? ⟨w2.heap.size, 0, none⟩ = some (.slice A2 e2.out.length cap2) := (Hrb3.out).1.cell 0
  have c1 : W3.cell? ⟨w2.heap.size, 1, none⟩ = some (.int .i64 (e2.low : Int)) := (Hrb3.out).1.cell 1
  have c2 : W3.cell? ⟨w2.heap.size, 2, none⟩ = some (.int .i64 (e2.size : Int)) := (Hrb3.out).1.cell 2
  have z0 : W3.cell? ⟨w.heap.size + 1, 0, none⟩ = some (.slice none 0 0) := (Hres3.out).cell 0
  have z1 : W3.cell? ⟨w.heap.size + 1, 1, none⟩ = some (.int .i64 0) := (Hres3.out).cell 1
  have z2 : W3.cell? ⟨w.heap.size + 1, 2, none⟩ = some (.int .i64 0) := (Hres3.out).cell 2
  have y0 := (Hres3.out).frozen 0
  have y1 := (Hres3.out).frozen 1
  have y2 := (Hres3.out).frozen 2
  have hbe := own_below hfr (Hbel3.out).size (show w.heap.size ≤ w.heap.size + 1 by omega)
  have Hren := hide hren
  have Hbe := hide ((Hbel3.out).trans hbe)
  have HWF := hide hWF
  have HatF := hide ((Hat43.out).keep hfr (fun b o hbo hs => (Hfar.out b o hbo).1 hs))
  clear hren hbe hWF hfr
  clear Hrb3 Hres3 Hbel3 Hat43
  go_wp2
  rw [HWF.out]
  clear c0 c1 c2 z0 z1 z2 y0 y1 y2
  refine bodyPost_ret (by simp [results, Tryz.results112, go_sem, u0, u1, u2]; try rfl) rfl ?_
  rw [Hne.out]
  exact ⟨_, A4, cap4, rfl, by rw [if_neg H2.out]; exact Hren.out, HatF.out, Hbe.out, Hfar2.out⟩
end Go.Proofs.YtoeeblldgoccoaaGreat
/-
  The walks over the references: models, the bytes of numbers.
-/
namespace Go.Proofs.YtoeeblldgoccoaaGreat
open Go.RowKit Go.Proofs Wv Wv.Vi Wv.Rc Wv.Mo
set_option linter.unusedVariables false

theorem heldE {w W W' : World} {b : Nat} {A : Option Addr} {cap : Nat} {e : En}
  (h : W.cell? ⟨b, 0, none⟩ = some (.slice A e.out.length cap) ∧ W.cell? ⟨b, 1, none⟩ = some (.int .i64 (e.low : Int)) ∧ W.cell? ⟨b, 2, none⟩ = some (.int .i64 (e.size : Int)) ∧ RB W b A cap e ∧ Below w.heap.size w W) (hb : Below W.heap.size W W') :
  W'.cell? ⟨b, 0, none⟩ = some (.slice A e.out.length cap) ∧ W'.cell? ⟨b, 1, none⟩ = some (.int .i64 (e.low : Int)) ∧ W'.cell? ⟨b, 2, none⟩ = some (.int .i64 (e.size : Int)) ∧ RB W' b A cap e ∧ Below w.heap.size w W' := by
 have h2 := h.2.2.2.1.below hb
 exact ⟨h2.1.cell 0, h2.1.cell 1, h2.1.cell 2, h2, h.2.2.2.2.trans (hb.mono h.2.2.2.2.size)⟩
theorem heldE_fin {w W : World} {b : Nat} {A : Option Addr} {cap : Nat} {e : En}
  (h : W.cell? ⟨b, 0, none⟩ = some (.slice A e.out.length cap) ∧ W.cell? ⟨b, 1, none⟩ = some (.int .i64 (e.low : Int)) ∧ W.cell? ⟨b, 2, none⟩ = some (.int .i64 (e.size : Int)) ∧ RB W b A cap e ∧ Below w.heap.size w W) : Below w.heap.size w W := h.2.2.2.2
theorem heldE_rb {w W : World} {b : Nat} {A : Option Addr} {cap : Nat} {e : En}
  (h : W.cell? ⟨b, 0, none⟩ = some (.slice A e.out.length cap) ∧ W.cell? ⟨b, 1, none⟩ = some (.int .i64 (e.low : Int)) ∧ W.cell? ⟨b, 2, none⟩ = some (.int .i64 (e.size : Int)) ∧ RB W b A cap e ∧ Below w.heap.size w W) : RB W b A cap e := h.2.2.2.1
set_option maxRecDepth 100000 in
set_option maxHeartbeats 2000000 in
theorem fencn_any {w : World} {A : Option Addr} {l : List Nat} (ha : At w A (ns l)) (n cap : Nat) (hn : n = l.length) (hl : l.length ≤ 4096) (hv : ∀ v ∈ l, v < 4611686018427387904) :
  Calls Tryz.prog 72 #[.slice A n cap] w fun x w' => x = .returned (.tuple #[.string (bs (encn l)), .int .i64 0]) ∧ Below w.heap.size w w' := by
 have Hne := hide (fnewenc_any w)
 have Hnt := hide (fun W => fnewtree_any W)
 have Hnn := hide (fun (m : Nat) (hm : m ≤ 4096) W => rnumber_any (m : Int) (by omega) (by omega) W)
 have hec := nencs_val l (x := (t0, e0)) tnum_0 val_0
 have hel := nencs_len l (t0, e0) hv
 have Ha := hide ha
 have Hv := hide hv
 have hn4 : (n : Int) ≤ 4096 := by omega
 have Hn := hide hn
 have Hl := hide hl
 clear ha hv hn hl
 go_enter Tryz.func72, Tryz.ntmps72
 go_wp2_with fail
 refine (Hne.out).mono ?_
 rintro x w1 ⟨v1, rfl, ⟨A1, cap1, rfl, hat1⟩, hb1⟩
 go_wp2_with fail
 refine (Hnt.out w1).mono ?_
 rintro x w2 ⟨A2, cap2, rfl, hat2, hb2⟩
 have hbb := hb1.trans (hb2.mono hb1.size)
 have hrb : RB (w2.alloc (.cells #[.slice A1 e0.out.length cap1, .int .i64 (e0.low : Int), .int .i64 (e0.size : Int)] 122)) w2.heap.size A1 cap1 e0 := ⟨Bk.new _ _ _, (hat1.below hb2).alloc _⟩
 have hat3 := hat2.alloc (.cells #[.slice A1 e0.out.length cap1, .int .i64 (e0.low : Int), .int .i64 (e0.size : Int)] 122)
 have hbb3 := hbb.alloc hbb.size (.cells #[.slice A1 e0.out.length cap1, .int .i64 (e0.low : Int), .int .i64 (e0.size : Int)] 122)
 have Hfar : Hid (∀ b o, A2 = some ⟨b, o, none⟩ → b ≠ w2.heap.size) := hide (fun b o h => by
  obtain ⟨b', o', h1, h2, _⟩ := hat2 0 (by rw [ns_len, tnum_0.2]; omega)
  rw [h] at h1
  injection h1 with h1
  injection h1 with h1
  omega)
 have Hrb := hide hrb
 have Hat3 := hide hat3
 have Hbb3 := hide hbb3
 have Hw2 := hide hbb.size
 clear hrb hat3 hbb3 hat1 hat2 hb1 hb2 hbb Hne Hnt
 go_wp2
 go_loopw [5, 6] (fun tv i wr => ∃ (k : Nat) (At' A' : Option Addr) (capt cap' : Nat), k ≤ n ∧ i = .int .i64 k ∧ tv = .slice At' 64 capt ∧ At wr At' (ns (nencs (l.take k) (t0, e0)).1) ∧ Hid (∀ b o, At' = some ⟨b, o, none⟩ → b ≠ w2.heap.size) ∧ RB wr w2.heap.size A' cap' (nencs (l.take k) (t0, e0)).2 ∧ Below w.heap.size w wr) (fun _ i _ => (n - intOf i).toNat)
 case atStart => exact ⟨0, A2, A1, cap2, cap1, by omega, rfl, rfl, Hat3.out, Hfar, Hrb.out, Hbb3.out⟩
 case round =>
  clear Hrb Hat3 Hbb3 Hfar
  obtain ⟨k, At', A', capt, cap', hk, rfl, rfl, hat, hfar, hrb, hf⟩ := hrel
  obtain ⟨kt, ke⟩ := nencs_val (l.take k) (x := (t0, e0)) tnum_0 val_0
  have klen := nencs_len (l.take k) (t0, e0) (fun v hv => Hv.out v (List.mem_of_mem_take hv))
  have ktl : (l.take k).length ≤ 4096 := by have := Hl.out; rw [List.length_take]; omega
  by_cases hlt : k < n
  ·have hkl : k < l.length := by rw [← Hn.out]; exact hlt
   have hstep := nencs_take l k hkl (t0, e0)
   obtain ⟨D, hD⟩ : ∃ D, nencs (l.take k) (t0, e0) = D := ⟨_, rfl⟩
   rw [hD] at hstep hat hrb kt ke klen
   obtain ⟨t, x⟩ := D
   simp only at hat hrb kt ke klen
   obtain ⟨v, hvk⟩ : ∃ v, l.getD k 0 = v := ⟨_, rfl⟩
   have hv62 : v < 4611686018427387904 := by
    have h1 : l.getD k 0 = l[k] := by simp [List.getD, hkl]
    rw [← hvk, h1]
    exact Hv.out _ (List.getElem_mem _)
   have hatl := Ha.out.below hf
   obtain ⟨bA, oA, hA, hbA, hcA⟩ := hatl.get k _ (ns_get l k hkl)
   subst hA
   rw [hvk] at hcA hstep
   have h62 : ¬ (4611686018427387903 : Int) < (v : Int) := by omega
   have hc0 : ¬ (v : Int) < 0 := by omega
   have he0 : (e0 : En).out.length = 0 := rfl
   have Hb := hide (fnenc_any hrb.drew.en ke hat.drew kt v capt hv62 (by rw [he0] at klen; omega))
   have c0 : wr.cell? ⟨w2.heap.size, 0, none⟩ = some (.slice A' x.out.length cap') := hrb.1.cell 0
   have c1 : wr.cell? ⟨w2.heap.size, 1, none⟩ = some (.int .i64 (x.low : Int)) := hrb.1.cell 1
   have c2 : wr.cell? ⟨w2.heap.size, 2, none⟩ = some (.int .i64 (x.size : Int)) := hrb.1.cell 2
   obtain ⟨F, hF⟩ : ∃ F, nenc v (t, x) = F := ⟨_, rfl⟩
   rw [hF] at Hb hstep
   obtain ⟨t9, e9⟩ := F
   have Hstep := hide hstep
   have Hx := hide hrb
   have Hat := hide hat
   have Hf := hide hf
   clear hstep hD hF hvk hv62 hrb hat hf kt ke klen ktl hatl he0 hec hel
   go_wp2
   go_region_with ((go_at_call 112; refine (Hb.out).mono ?_; rintro r w3 ⟨v3, A4, cap4, rfl, ⟨A3, cap3, rfl, hat3⟩, hat4, hb3, hfar3⟩; simp only at hat3 hat4; have hrb3 := Hx.out.drew.below hb3; have p0 := hrb3.1.frozen 0; have p1 := hrb3.1.frozen 1; have p2 := hrb3.1.frozen 2; have q0 : w3.cell? ⟨w2.heap.size, 0, none⟩ = some (.slice A' x.out.length cap') := hrb3.1.cell 0; have q1 : w3.cell? ⟨w2.heap.size, 1, none⟩ = some (.int .i64 (x.low : Int)) := hrb3.1.cell 1; have q2 : w3.cell? ⟨w2.heap.size, 2, none⟩ = some (.int .i64 (x.size : Int)) := hrb3.1.cell 2; have Hrb3 := hide hrb3; have Hat3 := hide hat3; have Hat4 := hide hat4; have Hfar3 := hide hfar3; have Hb3 := hide hb3; clear hrb3 hat3 hat4 hfar3 hb3))
   all_goals
    have hltb : w2.heap.size < wr.heap.size := Hx.out.1.lt
    have hw2 := Hw2.out
    have Hfar4 : Hid (∀ b o, A4 = some ⟨b, o, none⟩ → b ≠ w2.heap.size) := hide (fun b o h => by
     rcases Hfar3.out b o h with h1 | h1
     ·exact hfar.out b o (h1 ▸ h)
     ·have : wr.heap.size ≤ b := h1
      omega)
    have hrbA := Hrb3.out.putAll (cap' := cap3) Hat3.out
    have hfr := (((Fr.refl (only w2.heap.size) w3).setCell (p := ⟨w2.heap.size, 0, none⟩) (.inl rfl) (.slice A3 e9.out.length cap3)).setCell (p := ⟨w2.heap.size, 1, none⟩) (.inl rfl) (.int .i64 (e9.low : Int))).setCell (p := ⟨w2.heap.size, 2, none⟩) (.inl rfl) (.int .i64 (e9.size : Int))
    have hatA := Hat4.out.keep hfr (fun b o hbo hs => Hfar4.out b o hbo hs)
    have hf3 := Hf.out.drew.trans (Hb3.out.mono Hf.out.size)
    have hfA := hf3.trans (own_below hfr hf3.size hw2)
    have HrbA := hide hrbA
    have HatA := hide hatA
    have HfA := hide hfA
    clear hrbA hatA hfA hf3 hfr hltb hw2 p0 p1 p2 q0 q1 q2 c0 c1 c2 hcA Hrb3 Hat3 Hat4 Hb3 Hfar3 Hx Hat Hf Hb
    go_wp2
    go_roundw
    case rel => exact ⟨k + 1, A4, A3, cap4, cap3, by omega, by go_num, rfl, by rw [Hstep.out]; exact HatA.out, Hfar4, by rw [Hstep.out]; exact HrbA.out, HfA.out⟩
    case measure => simp [intOf] <;> omega
  ·have hkn : k = n := by omega
   subst hkn
   have hln := Hn.out
   by_cases hk0 : k = 0
   ·have he : encn l = num 0 := by
     have : l = [] := List.eq_nil_of_length_eq_zero (by omega)
     subst this
     rfl
    have He := hide he
    have Hz := hide (Hnn.out 0 (by omega))
    have g0 : ((k : Int) == 0) = true := by rw [beq_iff_eq]; omega
    have Hf := hide hf
    clear he hrb hat hfar hf kt ke klen ktl hec hel hln hk0 hlt
    go_wp2_with fail
    refine (Hz.out _).mono ?_
    rintro x w9 ⟨rfl, hb9⟩
    have hfin := Hf.out.trans (hb9.mono Hf.out.size)
    go_wp2
    go_returns
    exact ⟨by rw [He.out]; rfl, hfin⟩
   ·have htl : l.take k = l := by rw [hln]; exact List.take_length
    rw [htl] at hrb
    obtain ⟨D, hD⟩ : ∃ D, nencs l (t0, e0) = D := ⟨_, rfl⟩
    have he : encn l = num k ++ efin D.2 := by
     unfold encn
     rw [if_neg (fun h => by rw [h] at hln; simp at hln; omega), hD, ← hln]
    rw [hD] at hrb hec hel
    obtain ⟨t, x⟩ := D
    simp only at hrb hec hel he
    have he0 : (e0 : En).out.length = 0 := rfl
    have hxl : x.out.length ≤ 700000 := by rw [he0] at hel; have := Hl.out; omega
    have hlow := hec.2.low
    have Hfn := hide (fun W (h : RB W w2.heap.size A' cap' x) => ffinish_any h.en hlow (by omega))
    have hnum := Hnn.out k (by have := Hl.out; omega)
    simp only [Int.toNat_natCast] at hnum
    have Hnum := hide hnum
    have g0 : ((k : Int) == 0) = false := by rw [beq_eq_false_iff_ne]; omega
    have hs1 : (bs (num k)).size ≤ 9 := by rw [bs_size]; exact kof9 k
    have hs2 : (bs (efin x)).size ≤ 800000 := by
     rw [bs_size]
     unfold efin
     rw [List.length_append, be_length]
     omega
    have Hcat := hide (show bs (num k) ++ bs (efin x) = bs (encn l) by rw [bs_append, he])
    have H1 : (wr.drew.cell? ⟨w2.heap.size, 0, none⟩ = some (.slice A' x.out.length cap') ∧ wr.drew.cell? ⟨w2.heap.size, 1, none⟩ = some (.int .i64 (x.low : Int)) ∧ wr.drew.cell? ⟨w2.heap.size, 2, none⟩ = some (.int .i64 (x.size : Int)) ∧ RB wr.drew w2.heap.size A' cap' x ∧ Below w.heap.size w wr.drew) := ⟨hrb.1.cell 0, hrb.1.cell 1, hrb.1.cell 2, hrb.drew, hf.drew⟩
    clear he hrb hat hfar hf kt ke klen ktl hec hel hln hk0 hlt htl hD he0 hxl hlow
    generalize bs (num k) = s1 at *
    generalize bs (efin x) = s2 at *
    have hs3 : (9223372036854775807 < s1.size + s2.size) = False := by
     rw [eq_iff_iff, iff_false]
     omega
    clear hs1 hs2 hnum
    go_upto_region 12 with fail
    go_region_held3 (fun W => W.cell? ⟨w2.heap.size, 0, none⟩ = some (.slice A' x.out.length cap') ∧ W.cell? ⟨w2.heap.size, 1, none⟩ = some (.int .i64 (x.low : Int)) ∧ W.cell? ⟨w2.heap.size, 2, none⟩ = some (.int .i64 (x.size : Int)) ∧ RB W w2.heap.size A' cap' x ∧ Below w.heap.size w W) (first | exact H1 | exact heldE (by assumption) (by assumption))
     (first
      | (go_at_call 36; refine (Hnum.out _).mono ?_; rintro e w' ⟨rfl, hb2⟩)
      | (go_at_call 113; refine (Hfn.out _ (heldE_rb (by assumption))).mono ?_; rintro e w' ⟨rfl, hb3⟩))
    have hB := heldE_fin (W := w') (w := w) (by assumption)
    go_wp2
    go_returns
    exact ⟨by rw [Hcat.out]; rfl, hB⟩
end Go.Proofs.YtoeeblldgoccoaaGreat
