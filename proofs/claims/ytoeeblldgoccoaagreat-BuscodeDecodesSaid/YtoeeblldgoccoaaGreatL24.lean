/-
  The walks over runs of texts, eleventh part: the bytes of a list in a coding.
-/
import Derived.Test.YtoeeblldgoccoaaGreatL23
set_option linter.unusedVariables false
set_option linter.unusedSimpArgs false
set_option maxRecDepth 100000
set_option maxHeartbeats 8000000
namespace Go.Proofs.YtoeeblldgoccoaaGreat
open Go.RowKit Go.Proofs Wv Wv.Vi Wv.Rc Wv.Mo Wv.Ru
def frontB (c : Nat) (D : List ByteArray) (k : Nat) : List UInt8 := num c ++ num D.length ++ (D.take k).flatMap text
theorem frontB_len (c : Nat) (D : List ByteArray) (k : Nat) (h : ∀ s ∈ D, s.size ≤ 128) (hl : D.length ≤ 4096) : (frontB c D k).length ≤ 600000 := by
 unfold frontB;have h1 := kof9 c;have h2 := kof9 D.length;have h3 := flat_len (D.take k) (fun s hs => h s (List.mem_of_mem_take hs))
 have h4 : (D.take k).length ≤ 4096 := by rw [List.length_take]; omega
 rw [List.length_append, List.length_append];omega
theorem frontB_succ (c : Nat) (D : List ByteArray) (k : Nat) (h : k < D.length) : frontB c D (k + 1) = frontB c D k ++ text D[k] := by
 unfold frontB;rw [flat_take D k h, List.append_assoc, List.append_assoc, List.append_assoc]
def inx (R : List (Nat × Nat)) : List Int := R.map fun x => (x.1 : Int)
def cnx (R : List (Nat × Nat)) : List Int := R.map fun x => (x.2 : Int) - 1
theorem cast2_len (R : List (Nat × Nat)) : (cast2 R).length = R.length := by simp [cast2]
theorem cast2_get (R : List (Nat × Nat)) (k : Nat) (h : k < R.length) : (cast2 R)[k]'(by rw [cast2_len]; exact h) = ((R[k].1 : Int), (R[k].2 : Int)) := by simp [cast2]
theorem inx_take (R : List (Nat × Nat)) (k : Nat) (h : k < R.length) : inx (R.take (k + 1)) = inx (R.take k) ++ [(R[k].1 : Int)] := by
 unfold inx;rw [List.take_succ_eq_append_getElem h, List.map_append];rfl
theorem cnx_take (R : List (Nat × Nat)) (k : Nat) (h : k < R.length) : cnx (R.take (k + 1)) = cnx (R.take k) ++ [(R[k].2 : Int) - 1] := by
 unfold cnx;rw [List.take_succ_eq_append_getElem h, List.map_append];rfl
theorem ivs_snoc (l : List Int) (x : Int) : ivs (l ++ [x]) = ivs l ++ [.int .i64 x] := by simp [ivs, iv]
theorem ivs_len (l : List Int) : (ivs l).length = l.length := by simp [ivs]
structure Gath (wb w : World) (B : Nat) (v1 v2 : Value) (I C : List Int) : Prop where
 two : TwoSt wb B 3 v1 (ivs I) v2 (ivs C) w
theorem encas_front {w : World} {A : Option Addr} {l : List ByteArray} (c : Nat) (hc : c ≤ 1) (ha : At w A (svs l)) (h128 : ∀ s ∈ l, s.size ≤ 128) (n cap : Nat) (hn : n = l.length) (hm : n ≤ 4096) :
  Calls Tryz.prog 145 #[.int .i64 (c : Int), .slice A n cap] w fun x w' => ERes w (encB c l, 0) x w' := by
 have hL := long_any ha (fun s hs => by have := h128 s hs; omega) n cap hn hm;have hl : longB l = false := decide_eq_false (by rintro ⟨s, h1, h2⟩; have := h128 s h1; omega);rw [hl] at hL;have HL := hide hL;have Hd := hide (dictionary_any ha n cap hn hm);have Ha := hide ha;have Hn := hide hn;obtain ⟨D, hD⟩ : ∃ D, dict l = D := ⟨_, rfl⟩;have hDl := dict_length l;have hD128 := size_dict h128;rw [hD] at hDl hD128
 have hD4 : D.length ≤ 4096 := by omega
 have H1 := fun w => number_any (c : Int) (by omega) (by omega) w
 have H2 := fun w => number_any (D.length : Int) (by omega) (by omega) w
 simp only [Int.toNat_natCast] at H1 H2;have k1 := kof9 c;have k2 := kof9 D.length;rw [← bs_size] at k1 k2
 have hfr0 : bs (num c) ++ bs (num D.length) = bs (frontB c D 0) := by rw [bs_append]; unfold frontB; simp
 rw [hD] at Hd;have HD := hide hD;have HD128 := hide hD128;have Hfr0 := hide hfr0
 generalize bs (num c) = s1 at *
 generalize bs (num D.length) = s2 at *
 have H1 := hide H1;have H2 := hide H2
 have h42 : ¬ (4096 : Int) < (n : Int) := by omega
 have hcc : (((c : Int) != 0) && ((c : Int) != 1)) = false := by
  have : c = 0 ∨ c = 1 := by omega
  rcases this with rfl | rfl <;> rfl
 have hguard : ((c : Int) != 0) = false ∨ (((c : Int) != 0) = true ∧ ((c : Int) != 1) = false) := by
  have : c = 0 ∨ c = 1 := by omega
  rcases this with rfl | rfl
  ·exact .inl rfl
  ·exact .inr ⟨rfl, rfl⟩
 clear ha hn hL hl hD hD128 hfr0 h128 hDl hcc
 go_enter Tryz.func145, Tryz.ntmps145
 go_upto_region 1 with fail
 go_cut [23] (fun s23 wx => s23 = .bool false ∧ w = wx)
 case first =>
  rcases hguard with g0 | ⟨g0, g1⟩
  ·go_wp2
   go_meet
   case rel => exact ⟨rfl, rfl⟩
  ·go_wp2
   go_meet
   case rel => exact ⟨rfl, rfl⟩
 case rest =>
  obtain ⟨rfl, rfl⟩ := hcut;clear hguard
  go_wp2_with fail
  refine (HL.out).mono ?_;rintro x w1 ⟨rfl, rfl⟩
  go_wp2_with fail
  refine (Hd.out).mono ?_;rintro x w1 ⟨v6, rfl, ⟨AD, capD, rfl, hatD⟩, hb1⟩
  go_wp2_with fail
  refine (H1.out _).mono ?_;rintro x w2 ⟨rfl, hb2⟩
  go_wp2_with fail
  refine (H2.out _).mono ?_;rintro x w3 ⟨rfl, hb3⟩;have hb23 := hb2.trans (hb3.mono hb2.size);have hatD3 := hatD.below hb23;have hbw3 := hb1.trans (hb23.mono hb1.size);clear hb1 hb2 hb3 hb23 hatD
  go_wp2
  rw [Hfr0.out]
  go_loopw [7, 9, 41] (fun out _ i wr => ∃ k : Nat, k ≤ D.length ∧ i = .int .i64 k ∧ out = .string (bs (frontB c D k)) ∧ At wr AD (svs D) ∧ Below w.heap.size w wr) (fun _ _ i _ => (D.length - intOf i).toNat)
  case atStart => exact ⟨0, by omega, rfl, rfl, hatD3, hbw3⟩
  case round =>
   clear hatD3 hbw3 HL Hd H1 H2 Hfr0;obtain ⟨k, hk, rfl, rfl, hat, hf⟩ := hrel;have hfl := frontB_len c D k HD128.out hD4;rw [← bs_size] at hfl
   by_cases hlt : k < D.length
   ·obtain ⟨s, hs⟩ : ∃ s, D[k] = s := ⟨_, rfl⟩
    have hs128 := HD128.out s (hs ▸ List.getElem_mem _);obtain ⟨bA, oA, hA, hbA, hcA⟩ := hat.get k (.string s) (by rw [svs_get D k hlt, hs]);subst hA
    have Ht := fun w => text_any s (by omega) w
    have htl := text_len s hs128;rw [← bs_size] at htl
    have hnx : bs (frontB c D k) ++ bs (text s) = bs (frontB c D (k + 1)) := by rw [bs_append, frontB_succ c D k hlt, hs]
    have Hat := hide hat
    generalize bs (frontB c D k) = S1 at *
    generalize bs (text s) = S2 at *
    have Hnx := hide hnx;have Ht := hide Ht;clear hnx hs hat hs128
    go_wp2_with fail
    refine (Ht.out _).mono ?_;rintro x w4 ⟨rfl, hb4⟩;have hat4 := Hat.out.below hb4;have hf4 := hf.trans (hb4.mono hf.size);clear hb4
    go_wp2
    go_roundw
    case rel => exact ⟨k + 1, by omega, by go_num, by rw [Hnx.out], hat4, hf4⟩
    case measure => simp [intOf] <;> omega
   ·have hkD : k = D.length := by omega
    subst hkD;have hatA := Ha.out.below hf;have Hr := runs_any hatA n cap Hn.out hm;obtain ⟨R, hR⟩ : ∃ R, runs (dict l) l = R := ⟨_, rfl⟩;have hRlen := runs_length (dict l) l;have hRb := runs_bound (dict l) l;rw [hR] at Hr hRlen hRb;have HR := hide hR;have HRb := hide hRb
    have hR4 : R.length ≤ 4096 := by rw [← Hn.out] at hRlen; omega
    have Hr := hide Hr;clear hR hRb hRlen;have Hf := hide hf;clear hat hatA hf hlt
    go_wp2_with fail
    refine (Hr.out).mono ?_;rintro x w4 ⟨AR, capR, rfl, hatR, hb4⟩;have hf4 := Hf.out.trans (hb4.mono Hf.out.size);clear hb4;simp only [cast2_len];have Hat := hide hatR;have Hf4 := hide hf4;clear hatR hf4
    go_wp2
    go_loopw [10, 11, 13, 53] (fun v10 v11 _ i wr => ∃ k : Nat, k ≤ R.length ∧ i = .int .i64 k ∧ TwoSt w4 w4.heap.size 3 v10 (ivs (inx (R.take k))) v11 (ivs (cnx (R.take k))) wr) (fun _ _ _ i _ => (R.length - intOf i).toNat)
    case atStart => exact ⟨0, by omega, rfl, ⟨own_nil, own_nil, by simp [Value.ownBlock], Below.refl _ _, Nat.le_refl _⟩⟩
    case round =>
     obtain ⟨q, hq, rfl, htw⟩ := hrel
     by_cases hlt2 : q < R.length
     ·have hI := inx_take R q hlt2
      have hC := cnx_take R q hlt2;obtain ⟨⟨ri, rc⟩, hrq⟩ : ∃ x, R[q] = x := ⟨_, rfl⟩;have hbd := HRb.out R[q] (List.getElem_mem _);have hpk := pv_get (cast2 R) q (by rw [cast2_len]; exact hlt2);rw [cast2_get R q hlt2] at hpk;rw [hrq] at hI hC hbd hpk;simp only at hI hC hbd hpk
      have hlI : (ivs (inx (R.take q))).length ≤ 4096 := by rw [ivs_len]; unfold inx; rw [List.length_map, List.length_take]; omega
      have hlC : (ivs (cnx (R.take q))).length ≤ 4096 := by rw [ivs_len]; unfold cnx; rw [List.length_map, List.length_take]; omega
      have hatq := Hat.out.below htw.bel;obtain ⟨bB, oB, hB, hbB, hcB0⟩ := hatq.get (q * 2) _ hpk.1;obtain ⟨bB', oB', hB', _, hcB1⟩ := hatq.get (q * 2 + 1) _ hpk.2;rw [hB] at hB'
      injection hB' with hB'
      injection hB' with hB1 hB2
      subst hB1; subst hB2; subst hB
      unfold iv at hcB0 hcB1;have hcB1' : wr.cell? ⟨bB, oB + q * 2 + 1, none⟩ = some (.int .i64 (rc : Int)) := hcB1
      have hrc : rc ≤ 4096 := by have := Hn.out; omega
      have i2 : IntKind.i64.wrap ((rc : Int) - 1) = (rc : Int) - 1 := by rw [IntWalk.i64_in _ (by omega)]
      obtain ⟨X, hX⟩ : ∃ X, ivs (inx (R.take q)) = X := ⟨_, rfl⟩;obtain ⟨Y, hY⟩ : ∃ Y, ivs (cnx (R.take q)) = Y := ⟨_, rfl⟩;rw [hX] at htw hlI;rw [hY] at htw hlC;have HI : Hid (ivs (inx (R.take (q + 1))) = X ++ [.int .i64 (ri : Int)]) := hide (by rw [hI, ivs_snoc, hX]);have HC : Hid (ivs (cnx (R.take (q + 1))) = Y ++ [.int .i64 ((rc : Int) - 1)]) := hide (by rw [hC, ivs_snoc, hY]);have hW := htw.alloc (.cells #[.int .i64 (ri : Int), .int .i64 (rc : Int)] 132);have x01 := Bk.new wr 132 #[.int .i64 (ri : Int), .int .i64 (rc : Int)];obtain ⟨t1, t2, t3⟩ := two_both (P := Tryz.prog) 85 3 _ 8 Tryz.underlying85 intinf rfl hW (.int .i64 (ri : Int)) (.int .i64 ((rc : Int) - 1)) (by rfl) (by rfl) (by unfold maxLen; omega) (by omega) (by unfold maxLen; omega) (by omega) _ _ _ x01 (by decide);obtain ⟨t4, t5, t6⟩ := two_both (P := Tryz.prog) 85 3 _ 8 Tryz.underlying85 intinf rfl hW.swap (.int .i64 ((rc : Int) - 1)) (.int .i64 (ri : Int)) (by rfl) (by rfl) (by unfold maxLen; omega) (by omega) (by unfold maxLen; omega) (by omega) _ _ _ x01 (by decide);simp only [World.size_alloc] at t1 t2 t3 t4 t5 t6;clear hI hC hpk hrq hatq hX hY htw hW hbd hcB1;obtain ⟨a1a, w1a, a1b, w1b, e1a, e1b, ts1, ba1, bb1⟩ := t1;have E1a := hide e1a;have E1b := hide e1b;have TS1 := hide ts1;have ca10 : w1a.cell? ⟨wr.heap.size, 0, none⟩ = some (.int .i64 (ri : Int)) := ba1.cell 0;have ca11 : w1a.cell? ⟨wr.heap.size, 1, none⟩ = some (.int .i64 (rc : Int)) := ba1.cell 1;have cb10 : w1b.cell? ⟨wr.heap.size, 0, none⟩ = some (.int .i64 (ri : Int)) := bb1.cell 0;have cb11 : w1b.cell? ⟨wr.heap.size, 1, none⟩ = some (.int .i64 (rc : Int)) := bb1.cell 1;clear e1a e1b ts1 ba1 bb1;obtain ⟨a2a, w2a, a2b, w2b, e2a, e2b, ts2, ba2, bb2⟩ := t2;have E2a := hide e2a;have E2b := hide e2b;have TS2 := hide ts2;have ca20 : w2a.cell? ⟨wr.heap.size, 0, none⟩ = some (.int .i64 (ri : Int)) := ba2.cell 0;have ca21 : w2a.cell? ⟨wr.heap.size, 1, none⟩ = some (.int .i64 (rc : Int)) := ba2.cell 1;have cb20 : w2b.cell? ⟨wr.heap.size, 0, none⟩ = some (.int .i64 (ri : Int)) := bb2.cell 0;have cb21 : w2b.cell? ⟨wr.heap.size, 1, none⟩ = some (.int .i64 (rc : Int)) := bb2.cell 1;clear e2a e2b ts2 ba2 bb2;obtain ⟨a3a, w3a, a3b, w3b, e3a, e3b, ts3, ba3, bb3⟩ := t3;have E3a := hide e3a;have E3b := hide e3b;have TS3 := hide ts3;have ca30 : w3a.cell? ⟨wr.heap.size, 0, none⟩ = some (.int .i64 (ri : Int)) := ba3.cell 0;have ca31 : w3a.cell? ⟨wr.heap.size, 1, none⟩ = some (.int .i64 (rc : Int)) := ba3.cell 1;have cb30 : w3b.cell? ⟨wr.heap.size, 0, none⟩ = some (.int .i64 (ri : Int)) := bb3.cell 0;have cb31 : w3b.cell? ⟨wr.heap.size, 1, none⟩ = some (.int .i64 (rc : Int)) := bb3.cell 1;clear e3a e3b ts3 ba3 bb3;obtain ⟨a4a, w4a, a4b, w4b, e4a, e4b, ts4, ba4, bb4⟩ := t4;have E4a := hide e4a;have E4b := hide e4b;have TS4 := hide ts4;have ca40 : w4a.cell? ⟨wr.heap.size, 0, none⟩ = some (.int .i64 (ri : Int)) := ba4.cell 0;have ca41 : w4a.cell? ⟨wr.heap.size, 1, none⟩ = some (.int .i64 (rc : Int)) := ba4.cell 1;have cb40 : w4b.cell? ⟨wr.heap.size, 0, none⟩ = some (.int .i64 (ri : Int)) := bb4.cell 0;have cb41 : w4b.cell? ⟨wr.heap.size, 1, none⟩ = some (.int .i64 (rc : Int)) := bb4.cell 1;clear e4a e4b ts4 ba4 bb4;obtain ⟨a5a, w5a, a5b, w5b, e5a, e5b, ts5, ba5, bb5⟩ := t5;have E5a := hide e5a;have E5b := hide e5b;have TS5 := hide ts5;have ca50 : w5a.cell? ⟨wr.heap.size, 0, none⟩ = some (.int .i64 (ri : Int)) := ba5.cell 0;have ca51 : w5a.cell? ⟨wr.heap.size, 1, none⟩ = some (.int .i64 (rc : Int)) := ba5.cell 1;have cb50 : w5b.cell? ⟨wr.heap.size, 0, none⟩ = some (.int .i64 (ri : Int)) := bb5.cell 0;have cb51 : w5b.cell? ⟨wr.heap.size, 1, none⟩ = some (.int .i64 (rc : Int)) := bb5.cell 1;clear e5a e5b ts5 ba5 bb5;obtain ⟨a6a, w6a, a6b, w6b, e6a, e6b, ts6, ba6, bb6⟩ := t6;have E6a := hide e6a;have E6b := hide e6b;have TS6 := hide ts6;have ca60 : w6a.cell? ⟨wr.heap.size, 0, none⟩ = some (.int .i64 (ri : Int)) := ba6.cell 0;have ca61 : w6a.cell? ⟨wr.heap.size, 1, none⟩ = some (.int .i64 (rc : Int)) := ba6.cell 1;have cb60 : w6b.cell? ⟨wr.heap.size, 0, none⟩ = some (.int .i64 (ri : Int)) := bb6.cell 0;have cb61 : w6b.cell? ⟨wr.heap.size, 1, none⟩ = some (.int .i64 (rc : Int)) := bb6.cell 1;clear e6a e6b ts6 ba6 bb6;have x0 : (wr.alloc (.cells #[.int .i64 (ri : Int), .int .i64 (rc : Int)] 132)).cell? ⟨wr.heap.size, 0, none⟩ = some (.int .i64 (ri : Int)) := x01.cell 0;have x1 : (wr.alloc (.cells #[.int .i64 (ri : Int), .int .i64 (rc : Int)] 132)).cell? ⟨wr.heap.size, 1, none⟩ = some (.int .i64 (rc : Int)) := x01.cell 1;have n0 := World.new_ne _ _ x0;have n1 := World.new_ne _ _ x1
      go_upto_region 16 with fail
      go_region_held3 (fun W => W.cell? ⟨wr.heap.size, 0, none⟩ = some (.int .i64 (ri : Int)) ∧ W.cell? ⟨wr.heap.size, 1, none⟩ = some (.int .i64 (rc : Int))) (first | go_keep)
       ((first | refine step_runW (by with_reducible rfl) (by rfl) _ _ _ (by rfl) _ _ (by rfl) (by rfl) E1a.out ?_ | refine step_runW (by with_reducible rfl) (by rfl) _ _ _ (by rfl) _ _ (by rfl) (by rfl) E1b.out ?_ | refine step_runW (by with_reducible rfl) (by rfl) _ _ _ (by rfl) _ _ (by rfl) (by rfl) E2a.out ?_ | refine step_runW (by with_reducible rfl) (by rfl) _ _ _ (by rfl) _ _ (by rfl) (by rfl) E2b.out ?_ | refine step_runW (by with_reducible rfl) (by rfl) _ _ _ (by rfl) _ _ (by rfl) (by rfl) E3a.out ?_ | refine step_runW (by with_reducible rfl) (by rfl) _ _ _ (by rfl) _ _ (by rfl) (by rfl) E3b.out ?_ | refine step_runW (by with_reducible rfl) (by rfl) _ _ _ (by rfl) _ _ (by rfl) (by rfl) E4a.out ?_ | refine step_runW (by with_reducible rfl) (by rfl) _ _ _ (by rfl) _ _ (by rfl) (by rfl) E4b.out ?_ | refine step_runW (by with_reducible rfl) (by rfl) _ _ _ (by rfl) _ _ (by rfl) (by rfl) E5a.out ?_ | refine step_runW (by with_reducible rfl) (by rfl) _ _ _ (by rfl) _ _ (by rfl) (by rfl) E5b.out ?_ | refine step_runW (by with_reducible rfl) (by rfl) _ _ _ (by rfl) _ _ (by rfl) (by rfl) E6a.out ?_ | refine step_runW (by with_reducible rfl) (by rfl) _ _ _ (by rfl) _ _ (by rfl) (by rfl) E6b.out ?_))
      all_goals
       go_wp2
       go_roundw
       case rel =>
        refine ⟨q + 1, by omega, by go_num, ?_⟩;rw [HI.out, HC.out]
        first | exact TS1.out | exact TS2.out | exact TS3.out | exact TS4.out.swap | exact TS5.out.swap | exact TS6.out.swap
       case measure => simp [intOf] <;> omega
     ·have hqR : q = R.length := by omega
      subst hqR;rw [List.take_length] at htw
      have hI : inx R = (idxs l).map Int.ofNat := by
       unfold inx idxs;rw [HR.out, List.map_map];rfl
      have hC : cnx R = (cnts l).map Int.ofNat := by
       unfold cnx cnts;rw [HR.out, List.map_map];refine List.map_congr_left fun x hx => ?_;have := (HRb.out x hx).2.1
       show (x.2 : Int) - 1 = ((x.2 - 1 : Nat) : Int)
       omega
      have hl1 : (ivs (inx R)).length = R.length := by rw [ivs_len]; simp [inx]
      have hl2 : (ivs (cnx R)).length = R.length := by rw [ivs_len]; simp [cnx]
      obtain ⟨A1, c1, rfl, hat1⟩ := own_at htw.own1;obtain ⟨A2, c2, rfl, hat2⟩ := own_at htw.own2
      have hll : l.length ≤ 4096 := by rw [← Hn.out]; exact hm
      have hnI : (idxs l).length = R.length := by rw [idxs_length, HR.out]
      have hnC : (cnts l).length = R.length := by rw [cnts_length, HR.out]
      have hnA : (codeA c l).length = R.length := by rw [codeA_length, HR.out]
      rw [hI] at hat1;rw [hC] at hat2;have hbel := Hf4.out.trans (htw.bel.mono Hf4.out.size);have Hat1 := hide hat1;have Hat2 := hide hat2;have Hbel := hide hbel
      have hfront : front ((idxs l).map Int.ofNat) = (frontA r0 (idxs l), 0) := by
       unfold front
       rw [if_pos (chkn_ok (by rw [List.length_map, hnI]; exact hR4) (fun n hn => by
        obtain ⟨m, hm, rfl⟩ := List.mem_map.1 hn;have := idxs_lt l hll m hm
        exact ⟨by simp, by simp; omega⟩)), map_toNat_ofNat]
      have HF := hide (pfront_any hat1 R.length c1 (by rw [List.length_map, hnI]) (by omega));rw [hfront] at HF;have HlA := hide (codeA_lt c l hll);have HlC := hide (cnts_lt l hll);have hel1 := encn_len (codeA c l) (fun v hv => by have := codeA_lt c l hll v hv; omega);have hel2 := encn_len (cnts l) (fun v hv => by have := cnts_lt l hll v hv; omega);rw [hnA] at hel1;rw [hnC] at hel2;have hfl := frontB_len c D D.length HD128.out hD4;have heA : encA c l = encn (codeA c l) := rfl
      have htx : (text (bs (encn (codeA c l)))).length ≤ 600000 := by
       unfold text;rw [List.length_append, toL_bs];have := kof9 (bs (encn (codeA c l))).size;omega
      have Hcat : Hid (bs (frontB c D D.length) ++ bs (text (bs (encn (codeA c l)))) ++ bs (encn (cnts l)) = bs (encB c l)) := hide (by
       rw [bs_append, bs_append];unfold frontB encB text
       rw [List.take_length, HD.out, heA, toL_bs, bs_size])
      have HnA := hide hnA;have HnC := hide hnC
      have hes : (bs (encn (codeA c l))).size ≤ 1099511627776 := by rw [bs_size]; omega
      have Ht := fun w => text_any (bs (encn (codeA c l))) hes w
      have hc01 : c = 0 ∨ c = 1 := by omega
      have H0 : Hid (c = 0 → codeA c l = idxs l) := hide (fun h => by subst h; rfl);have H1 : Hid (c = 1 → codeA c l = frontA r0 (idxs l)) := hide (fun h => by subst h; rfl);rw [← bs_size] at hfl hel2 htx
      generalize bs (frontB c D D.length) = S1 at *
      generalize bs (text (bs (encn (codeA c l)))) = S2 at *
      have Ht := hide Ht;clear hlt2 hq htw hat1 hat2 hbel hI hC hnI hnC hnA hfront heA hel1 hes;rw [hl1, hl2]
      go_upto_if 70 with fail
      go_cut [10] (fun s10 wx => ∃ A cap, s10 = .slice A R.length cap ∧ At wx A (ivs ((codeA c l).map Int.ofNat)) ∧ Below wr.heap.size wr wx)
      case first =>
       rcases hc01 with hc0 | hc0
       ·have g0 : ¬ ((c : Int) = 1) := by omega
        have H0' := hide (H0.out hc0);clear H0 H1 hc0
        go_wp2
        go_meet
        case rel => exact ⟨A1, c1, rfl, by rw [H0'.out]; exact Hat1.out, Below.refl _ _⟩
       ·have g0 : ((c : Int) == 1) = true := by rw [beq_iff_eq]; omega
        have H1' := hide (H1.out hc0);have Hfl : Hid ((frontA r0 (idxs l)).length = R.length) := hide (by rw [← H1'.out, HnA.out]);clear H0 H1 hc0 hc
        go_wp2_with fail
        refine (HF.out).mono ?_;rintro x w5 ⟨v5, rfl, ⟨A5, cap5, rfl, hat5⟩, hb5⟩
        go_wp2
        go_meet
        case rel => exact ⟨A5, cap5, by rw [Hfl.out], by rw [H1'.out]; exact hat5, hb5⟩
      case rest =>
       obtain ⟨A5, cap5, rfl, hat5, hb5⟩ := hcut;clear HF H0 H1 hc01;have HE1 := hide (encodenums_any hat5 R.length cap5 HnA.out.symm (by rw [HnA.out]; exact hR4) (fun v hv => by have := HlA.out v hv; omega));have hbx := Hbel.out.trans (hb5.mono Hbel.out.size);have hat2x := Hat2.out.below hb5;clear hat5 hb5
       go_wp2_with fail
       refine (HE1.out).mono ?_;rintro x w6 ⟨rfl, hb6⟩;have HE2 := hide (encodenums_any (hat2x.below hb6) R.length c2 HnC.out.symm (by rw [HnC.out]; exact hR4) (fun v hv => by have := HlC.out v hv; omega));have hbx6 := hbx.trans (hb6.mono hbx.size);clear hat2x hb6 hbx
       go_wp2_with fail
       refine (HE2.out).mono ?_;rintro x w7 ⟨rfl, hb7⟩;have hbx7 := hbx6.trans (hb7.mono hbx6.size)
       generalize bs (encn (codeA c l)) = S3 at *
       generalize bs (encn (cnts l)) = S4 at *
       clear hb7 hbx6
       go_wp2_with fail
       refine (Ht.out _).mono ?_;rintro x w8 ⟨rfl, hb8⟩;have hbx8 := hbx7.trans (hb8.mono hbx7.size);clear hb8 hbx7
       go_wp2
       go_returns
       exact ⟨by rw [Hcat.out]; rfl, hbx8⟩
end Go.Proofs.YtoeeblldgoccoaaGreat
