/-
  Joined texts: Nh, Ni, Nj.
-/
import Derived.Test.YtgllednilkfpgaaGreatJ37
import Derived.Test.YtgllednilkfpgaaGreatJ34
import Derived.Test.YtgllednilkfpgaaGreatJ13
import Derived.Test.YtgllednilkfpgaaGreatJ15
set_option linter.unusedVariables false
set_option linter.unusedSimpArgs false
/-
  The walks over the reference of times: the bytes of times in a coding.
-/
namespace Go.Proofs.YtgllednilkfpgaaGreat
open Go.RowKit Go.Proofs Wv Wv.Vi Wv.Rc Wv.Mo Wv.Ru Wv.Tm
set_option linter.unusedVariables false

theorem nnums_any {w : World} {A : Option Addr} {G : List Int} (ha : At w A (ivs G)) (n cap : Nat) (hn : n = G.length) (hl : G.length ≤ 4096) (hG : ∀ g ∈ G, 0 ≤ g ∧ g ≤ 1099511627776) :
    Calls Tryz.prog 51 #[.slice A n cap] w fun x w' => x = .returned (.tuple #[.string (bs (numsI G)), .int .i64 0]) ∧ Below w.heap.size w w' := by
  rw [← map_toNat_id hG] at ha
  exact fencn_any ha n cap (by rw [List.length_map]; exact hn) (by rw [List.length_map]; exact hl) (fun v hv => by
    obtain ⟨g, hg, rfl⟩ := List.mem_map.1 hv
    have := hG g hg
    omega)
theorem gaps_len4 {l : List Int} (h : validT l = true) : (gapsT l).length ≤ 4096 := by
  obtain ⟨_, _, v3⟩ := validT_iff.1 h
  unfold gapsT; rw [gp_length]; exact v3
/-- What the second coding of the reference reads at last. -/
def N1S (w : World) (R : Nat) (st f s n : Int) (W : World) : Prop :=
  W.cell? ⟨R, 0, none⟩ = some (.int .i64 st) ∧ W.cell? ⟨R, 1, none⟩ = some (.int .i64 f) ∧ W.cell? ⟨R, 2, none⟩ = some (.int .i64 s) ∧ W.cell? ⟨R, 3, none⟩ = some (.int .i64 n) ∧ Below w.heap.size w W
theorem N1S.below {w W W' : World} {R : Nat} {st f s n : Int} (h : N1S w R st f s n W) (hb : Below W.heap.size W W') : N1S w R st f s n W' := by
  obtain ⟨h1, h2, h3, h4, h8⟩ := h
  have k : ∀ {p : Addr} {v : Value}, W.cell? p = some v → W'.cell? p = some v := fun {p v} h => (hb.cell (World.block_lt_of_cell? W p h)).trans h
  exact ⟨k h1, k h2, k h3, k h4, h8.trans (hb.mono h8.size)⟩
theorem N1S.bel {w W : World} {R : Nat} {st f s n : Int} (h : N1S w R st f s n W) : Below w.heap.size w W := h.2.2.2.2
set_option maxRecDepth 100000 in
set_option maxHeartbeats 2000000 in
theorem ncas0 {w : World} {A : Option Addr} {l : List Int} (ha : At w A (ivs l)) (n cap : Nat) (hn : n = l.length) (hn4 : n ≤ 9223372036854775807) (hv : validT l = true) :
    Calls Tryz.prog 27 #[.int .i64 0, .slice A n cap] w fun x w' => ERes w (cod0 l, 0) x w' := by
  have Hval := hide (nvalid_any ha n cap hn hn4)
  rw [hv] at Hval
  have HN := hide (fun W => rnumber_any 0 (by omega) (by omega) W)
  have Hga := hide (fun W (h : Below w.heap.size w W) => ngaps_any (ha.below h) n cap hn hv)
  have Hnu := hide (fun W A2 c2 (h : At W A2 (ivs (gapsT l))) => nnums_any h _ c2 rfl (gaps_len4 hv) (gapsT_in hv))
  have hcod : bs (cod0 l) = bs (num (0 : Int).toNat) ++ bs (numsI (gapsT l)) := by rw [bs_append]; rfl
  have hnl := numsI_len hv
  have hz1 : (bs (num (0 : Int).toNat)).size ≤ 9 := by rw [bs_size, num_length]; have := kof_le (0 : Int).toNat; omega
  have hz2 : (bs (numsI (gapsT l))).size ≤ 600000 := by rw [bs_size]; exact hnl
  obtain ⟨C, hC⟩ : ∃ C, cod0 l = C := ⟨_, rfl⟩
  rw [hC] at hcod ⊢
  have Hcod := hide hcod
  generalize bs (num (0 : Int).toNat) = S0 at *
  generalize bs (numsI (gapsT l)) = S1 at *
  generalize gapsT l = G at *
  have hsz := nosum (a := S0.size) (b := S1.size) (by omega)
  clear ha hn hv hcod hnl hC
  go_enter Tryz.func27, Tryz.ntmps27
  go_wp2_with fail
  refine (Hval.out).mono ?_
  rintro x w1 ⟨rfl, q, hw1⟩
  have Hb1 := hide (show Below w.heap.size w w1 by rw [hw1]; exact bdN (Below.refl _ _) q)
  clear hw1 Hval
  go_wp2_with fail
  refine (HN.out _).mono ?_
  rintro x w2 ⟨rfl, hb2⟩
  have Hb2 := hide (Hb1.out.trans (hb2.mono Hb1.out.size))
  clear hb2 HN Hb1
  go_wp2_with fail
  refine (Hga.out _ Hb2.out).mono ?_
  rintro x w3 ⟨vg, rfl, hvg, hb3⟩
  obtain ⟨Ag, capg, hvg2, hatg⟩ := ires_open hvg
  subst hvg2
  have Hb3 := hide (Hb2.out.trans (hb3.mono Hb2.out.size))
  have Hatg := hide hatg
  clear hb3 hatg hvg Hb2 Hga
  go_wp2_with fail
  refine (Hnu.out _ _ _ Hatg.out).mono ?_
  rintro x w4 ⟨rfl, hb4⟩
  have Hb4 := hide (Hb3.out.trans (hb4.mono Hb3.out.size))
  clear hb4 Hb3 Hnu Hatg
  go_wp2
  go_ret2
  exact ⟨by rw [Hcod.out]; rfl, Hb4.out⟩
set_option maxRecDepth 100000 in
set_option maxHeartbeats 4000000 in
theorem ncas1 {w : World} {A : Option Addr} {l : List Int} (ha : At w A (ivs l)) (n cap : Nat) (hn : n = l.length) (hn4 : n ≤ 9223372036854775807) (hv : validT l = true) (h2 : 2 ≤ l.length) :
    Calls Tryz.prog 27 #[.int .i64 1, .slice A n cap] w fun x w' => ERes w (cod1 l, 0) x w' := by
  have Hval := hide (nvalid_any ha n cap hn hn4)
  rw [hv] at Hval
  obtain ⟨v1, v2, v3⟩ := validT_iff.1 hv
  have hvc := detect_vclk hv h2
  obtain ⟨hin, _⟩ := vclk_iff.1 hvc
  have hex : excT (detect l) l = some (missL (detect l) l, furL (detect l) l) := by unfold excT; rw [if_pos ⟨hvc, hv⟩]
  have hmv := missL_valid hin l
  have hfv := furL_valid (c := detect l) hv
  have Hde := hide (fun W (h : Below w.heap.size w W) => ndetect_any (ha.below h) n cap hn hn4)
  have Hex : Hid (∀ W, Below w.heap.size w W → Calls Tryz.prog 15 #[CV (detect l), .slice A n cap] W fun x w' => ∃ v1 v2, x = .returned (.tuple #[v1, v2, .int .i64 0]) ∧ IRes w' v1 (missL (detect l) l) ∧ IRes w' v2 (furL (detect l) l) ∧ Below W.heap.size W w') := hide (fun W hW => by
    have := nexc_any (detect l) (ha.below hW) n cap hn hn4
    rw [hex] at this
    exact this)
  have hcod : bs (cod1 l) = bs (num (1 : Int).toNat) ++ bs (num (detect l).st.toNat) ++ bs (num (detect l).f.toNat) ++ bs (num (detect l).s.toNat) ++ bs (num (detect l).n.toNat) ++ bs (text (bs (numsI (gapsT (missL (detect l) l))))) ++ bs (numsI (gapsT (furL (detect l) l))) := by
    simp only [bs_append]; rfl
  obtain ⟨C, hC⟩ : ∃ C, cod1 l = C := ⟨_, rfl⟩
  rw [hC] at hcod ⊢
  have Hcod := hide hcod
  clear hcod hC
  generalize missL (detect l) l = m at *
  generalize furL (detect l) l = x at *
  generalize detect l = c at *
  obtain ⟨_, m2, m3⟩ := validT_iff.1 hmv
  obtain ⟨_, x2, x3⟩ := validT_iff.1 hfv
  have hzm := numsI_len hmv
  have hzx := numsI_len hfv
  have N1 := hide (fun W => rnumber_any 1 (by omega) (by omega) W)
  obtain ⟨d1, d2, d3, d4, d5, d6, d7, d8⟩ := hin
  have N2 := hide (fun W => rnumber_any c.st (by omega) (by omega) W)
  have N3 := hide (fun W => rnumber_any c.f (by omega) (by omega) W)
  have N4 := hide (fun W => rnumber_any c.s (by omega) (by omega) W)
  have N5 := hide (fun W => rnumber_any c.n (by omega) (by omega) W)
  have T1 := hide (fun W => rtext_any (bs (numsI (gapsT m))) (by rw [bs_size]; omega) W)
  have z9 : ∀ k, (bs (num k)).size ≤ 9 := fun k => by rw [bs_size, num_length]; have := kof_le k; omega
  have y1 := z9 (1 : Int).toNat
  have y2 := z9 c.st.toNat
  have y3 := z9 c.f.toNat
  have y4 := z9 c.s.toNat
  have y5 := z9 c.n.toNat
  have y6 : (bs (text (bs (numsI (gapsT m))))).size ≤ 700000 := by
    rw [bs_size]
    unfold text
    rw [List.length_append, num_length, bs_size, toL_bs]
    have := kof_le (numsI (gapsT m)).length
    omega
  have y7 : (bs (numsI (gapsT x))).size ≤ 600000 := by rw [bs_size]; exact hzx
  have G1 : Hid (∀ W A2 c2, At W A2 (ivs m) → Calls Tryz.prog 52 #[.slice A2 m.length c2] W fun x w' => ∃ v, x = .returned v ∧ IRes w' v (gapsT m) ∧ Below W.heap.size W w') := hide (fun W A2 c2 h => ngaps_any h m.length c2 rfl hmv)
  have G2 : Hid (∀ W A2 c2, At W A2 (ivs x) → Calls Tryz.prog 52 #[.slice A2 x.length c2] W fun y w' => ∃ v, y = .returned v ∧ IRes w' v (gapsT x) ∧ Below W.heap.size W w') := hide (fun W A2 c2 h => ngaps_any h x.length c2 rfl hfv)
  have U1 := hide (fun W A2 c2 (h : At W A2 (ivs (gapsT m))) => nnums_any h _ c2 rfl (gaps_len4 hmv) (gapsT_in hmv))
  have U2 := hide (fun W A2 c2 (h : At W A2 (ivs (gapsT x))) => nnums_any h _ c2 rfl (gaps_len4 hfv) (gapsT_in hfv))
  generalize bs (num (1 : Int).toNat) = S1 at *
  generalize bs (num c.st.toNat) = S2 at *
  generalize bs (num c.f.toNat) = S3 at *
  generalize bs (num c.s.toNat) = S4 at *
  generalize bs (num c.n.toNat) = S5 at *
  generalize bs (text (bs (numsI (gapsT m)))) = S6 at *
  generalize bs (numsI (gapsT x)) = S7 at *
  generalize bs (numsI (gapsT m)) = SM at *
  generalize gapsT m = GM at *
  generalize gapsT x = GX at *
  have e1 := nosum (a := S1.size) (b := S2.size) (by omega)
  have e2 := nosum (a := S1.size + S2.size) (b := S3.size) (by omega)
  have e3 := nosum (a := S1.size + S2.size + S3.size) (b := S4.size) (by omega)
  have e4 := nosum (a := S1.size + S2.size + S3.size + S4.size) (b := S5.size) (by omega)
  have e5 := nosum (a := S1.size + S2.size + S3.size + S4.size + S5.size) (b := S6.size) (by omega)
  have e6 := nosum (a := S1.size + S2.size + S3.size + S4.size + S5.size + S6.size) (b := S7.size) (by omega)
  have hn2 : ¬ (n : Int) < 2 := by omega
  clear v1 v2 v3 hvc hex hmv hfv m2 m3 x2 x3 hzm hzx d1 d2 d3 d4 d5 d6 d7 d8 z9 ha hn hv h2
  obtain ⟨st, f, s, cn⟩ := c
  unfold CV at Hde Hex
  simp only at Hde Hex N2 N3 N4 N5
  go_enter Tryz.func27, Tryz.ntmps27
  go_wp2_with fail
  refine (Hval.out).mono ?_
  rintro q w1 ⟨rfl, k, hw1⟩
  have Hb1 := hide (show Below w.heap.size w w1 by rw [hw1]; exact bdN (Below.refl _ _) k)
  clear hw1 Hval
  go_wp2_with fail
  refine (N1.out _).mono ?_
  rintro q w2 ⟨rfl, hb2⟩
  have Hb2 := hide (Hb1.out.trans (hb2.mono Hb1.out.size))
  clear hb2 N1 Hb1
  go_wp2_with fail
  refine (Hde.out _ Hb2.out).mono ?_
  rintro q w3 ⟨rfl, hb3⟩
  have Hba := hide ((Hb2.out.trans (hb3.mono Hb2.out.size)).alloc (Hb2.out.trans (hb3.mono Hb2.out.size)).size (.cells #[.int .i64 st, .int .i64 f, .int .i64 s, .int .i64 cn] 24))
  have Hkc := hide (Bk.new w3 24 #[.int .i64 st, .int .i64 f, .int .i64 s, .int .i64 cn])
  clear hb3 Hb2 Hde
  go_upto_region 12 with fail
  obtain ⟨R, hR⟩ : ∃ R, w3.heap.size = R := ⟨_, rfl⟩
  obtain ⟨W2, hW2⟩ : ∃ W, w3.alloc (.cells #[.int .i64 st, .int .i64 f, .int .i64 s, .int .i64 cn] 24) = W := ⟨_, rfl⟩
  rw [hR] at Hkc ⊢
  rw [hW2] at Hba Hkc ⊢
  clear hR hW2
  have c0 := Hkc.out.cell 0
  have c1 := Hkc.out.cell 1
  have c2 := Hkc.out.cell 2
  have c3 := Hkc.out.cell 3
  simp at c0 c1 c2 c3
  go_wp2_with fail
  refine (Hex.out _ Hba.out).mono ?_
  rintro q w4 ⟨v1, v2, rfl, hr1, hr2, hb4⟩
  obtain ⟨A4, cap4, hv1, hat4⟩ := ires_open hr1
  obtain ⟨A5, cap5, hv2, hat5⟩ := ires_open hr2
  subst hv1; subst hv2
  have Hk4 := hide (Hkc.out.below hb4 Hkc.out.lt)
  have Hb4 := hide (Hba.out.trans (hb4.mono Hba.out.size))
  have Hat4 := hide hat4
  have Hat5 := hide hat5
  clear c0 c1 c2 c3 hr1 hr2 hb4 hat4 hat5 Hba Hkc Hex
  go_wp2_with fail
  refine (G1.out _ _ _ Hat4.out).mono ?_
  rintro q w5 ⟨v, rfl, hr, hb⟩
  obtain ⟨A6, cap6, hv, hat6⟩ := ires_open hr
  subst hv
  have Hk5 := hide (Hk4.out.below hb Hk4.out.lt)
  have Hb5 := hide (Hb4.out.trans (hb.mono Hb4.out.size))
  have Hx5 := hide (Hat5.out.below hb)
  have Hat6 := hide hat6
  clear hr hb hat6 Hk4 Hb4 Hat5 Hat4 G1
  go_wp2_with fail
  refine (U1.out _ _ _ Hat6.out).mono ?_
  rintro q w6 ⟨rfl, hb⟩
  have Hk6 := hide (Hk5.out.below hb Hk5.out.lt)
  have Hb6 := hide (Hb5.out.trans (hb.mono Hb5.out.size))
  have Hx6 := hide (Hx5.out.below hb)
  clear hb Hk5 Hb5 Hx5 Hat6 U1
  go_wp2_with fail
  refine (G2.out _ _ _ Hx6.out).mono ?_
  rintro q w7 ⟨v, rfl, hr, hb⟩
  obtain ⟨A7, cap7, hv, hat7⟩ := ires_open hr
  subst hv
  have Hk7 := hide (Hk6.out.below hb Hk6.out.lt)
  have Hb7 := hide (Hb6.out.trans (hb.mono Hb6.out.size))
  have Hat7 := hide hat7
  clear hr hb hat7 Hk6 Hb6 Hx6 G2
  go_wp2_with fail
  refine (U2.out _ _ _ Hat7.out).mono ?_
  rintro q w8 ⟨rfl, hb⟩
  have hk8 := Hk7.out.below hb Hk7.out.lt
  have H2 : N1S w R st f s cn w8.drew := ⟨hk8.cell 0, hk8.cell 1, hk8.cell 2, hk8.cell 3, (Hb7.out.trans (hb.mono Hb7.out.size)).drew⟩
  clear hk8 hb Hk7 Hb7 Hat7 U2
  unfold N1S at H2
  have Keep := hide (fun W W' (h1 : N1S w R st f s cn W) (h2 : Below W.heap.size W W') => h1.below h2)
  unfold N1S at Keep
  go_wp2
  go_region_held3 (fun W => W.cell? ⟨R, 0, none⟩ = some (.int .i64 st) ∧ W.cell? ⟨R, 1, none⟩ = some (.int .i64 f) ∧ W.cell? ⟨R, 2, none⟩ = some (.int .i64 s) ∧ W.cell? ⟨R, 3, none⟩ = some (.int .i64 cn) ∧ Below w.heap.size w W) (first | exact H2 | assumption | exact Keep.out _ _ (by assumption) (by assumption))
    (first
      | (go_at_call 50; (first | with_reducible refine (N2.out _).mono ?_ | with_reducible refine (N3.out _).mono ?_ | with_reducible refine (N4.out _).mono ?_ | with_reducible refine (N5.out _).mono ?_); rintro q wn ⟨rfl, hbn⟩)
      | (go_at_call 53; with_reducible refine (T1.out _).mono ?_; rintro q wt ⟨rfl, hbt⟩))
  all_goals
    go_wp2
    go_ret2
    exact ⟨by rw [Hcod.out]; rfl, N1S.bel (w := w) (R := R) (st := st) (f := f) (s := s) (n := cn) (by assumption)⟩
end Go.Proofs.YtgllednilkfpgaaGreat
/-
  The walks over the reference of times: the third coding, all codings, the shortest.
-/
namespace Go.Proofs.YtgllednilkfpgaaGreat
open Go.RowKit Go.Proofs Wv Wv.Vi Wv.Rc Wv.Mo Wv.Ru Wv.Tm
set_option linter.unusedVariables false

set_option maxRecDepth 100000 in
set_option maxHeartbeats 2000000 in
theorem ncas2 {w : World} {A : Option Addr} {l : List Int} (ha : At w A (ivs l)) (n cap : Nat) (hn : n = l.length) (hn4 : n ≤ 9223372036854775807) (hv : validT l = true) :
    Calls Tryz.prog 27 #[.int .i64 2, .slice A n cap] w fun x w' => ERes w (cod2 l, 0) x w' := by
  obtain ⟨he0, hel⟩ := cod2_enc hv
  have Hval := hide (nvalid_any ha n cap hn hn4)
  rw [hv] at Hval
  have hgl := gaps_len4 hv
  have hg := gapsT_in hv
  have Hga := hide (fun W (h : Below w.heap.size w W) => ngaps_any (ha.below h) n cap hn hv)
  have HN := hide (fun W => rnumber_any 2 (by omega) (by omega) W)
  have hcod : bs (cod2 l) = bs (num (2 : Int).toNat) ++ bs (enc (txts (gapsT l))).1 := by rw [bs_append]; rfl
  obtain ⟨C, hC⟩ : ∃ C, cod2 l = C := ⟨_, rfl⟩
  rw [hC] at hcod ⊢
  have htx : ∀ s ∈ txts (gapsT l), s.size ≤ 9223372036854775807 := fun s hs => by have := txts_size _ s hs; omega
  generalize gapsT l = G at *
  have hz1 : (bs (num (2 : Int).toNat)).size ≤ 9 := by rw [bs_size, num_length]; have := kof_le (2 : Int).toNat; omega
  have hz2 : (bs (enc (txts G)).1).size ≤ 2000000 := by rw [bs_size]; exact hel
  generalize bs (num (2 : Int).toNat) = S0 at *
  obtain ⟨SE, hSE⟩ : ∃ S, bs (enc (txts G)).1 = S := ⟨_, rfl⟩
  rw [hSE] at hz2 hcod
  have Hcod := hide hcod
  have Hen : Hid (∀ (W : World) (A2 : Option Addr) (c2 : Nat), At W A2 (svs (txts G)) → Calls Tryz.prog 54 #[.slice A2 (txts G).length c2] W fun x w' => x = .returned (.tuple #[.string SE, .int .i64 0]) ∧ Below W.heap.size W w') := hide (fun W A2 c2 h2 => (rencode_any h2 htx (txts G).length c2 rfl (by rw [txts_length]; omega)).mono fun x w' ⟨h1, h2⟩ => ⟨by rw [h1, hSE, he0]; rfl, h2⟩)
  have Hg := hide hg
  have hGl := txts_length G
  have HGl := hide hGl
  obtain ⟨N, hN⟩ : ∃ N, G.length = N := ⟨_, rfl⟩
  have HN1 := hide hN
  rw [hN] at hgl
  have hsz := nosum (a := S0.size) (b := SE.size) (by omega)
  clear hn hv hel hcod ha hg htx hGl he0 hSE hC
  have hNl : Hid (∀ k, k < N → ∃ g : Nat, G[k]? = some (g : Int) ∧ g ≤ 1099511627776 ∧ txts (G.take (k + 1)) = txts (G.take k) ++ [bs (num g)]) := hide (fun k hk => by
    have hk2 : k < G.length := by omega
    have := Hg.out G[k] (List.getElem_mem _)
    refine ⟨G[k].toNat, ?_, by omega, txts_take hk2⟩
    rw [List.getElem?_eq_getElem hk2, Int.toNat_of_nonneg this.1])
  go_enter Tryz.func27, Tryz.ntmps27
  go_wp2_with fail
  refine (Hval.out).mono ?_
  rintro x w1 ⟨rfl, q, hw1⟩
  have Hb1 := hide (show Below w.heap.size w w1 by rw [hw1]; exact bdN (Below.refl _ _) q)
  clear hw1 Hval
  go_wp2_with fail
  refine (HN.out _).mono ?_
  rintro x w2 ⟨rfl, hb2⟩
  have Hb2 := hide (Hb1.out.trans (hb2.mono Hb1.out.size))
  have Ho := hide (own_made0 9 w2)
  have Hk := hide (Bk.new w2 9 #[])
  have Hb2a := hide (Hb2.out.alloc Hb2.out.size (.cells #[] 9))
  have Hbl := hide ((Below.refl w2.heap.size w2).alloc (Nat.le_refl _) (.cells #[] 9))
  clear hb2 HN Hb1
  go_wp2_with fail
  refine (Hga.out _ Hb2a.out).mono ?_
  rintro x w3 ⟨vg, rfl, hvg, hb3⟩
  obtain ⟨Ag, capg, hvg2, hatg⟩ := ires_open hvg
  subst hvg2
  rw [hN]
  have Hat := hide hatg
  have Ho3 := hide (own_fr Ho.out (Fr.of_below (S := nob) hb3) (fun g hg h => h))
  have hk3 := Hk.out.below hb3 Hk.out.lt
  have Hb3 := hide (Hbl.out.trans (hb3.mono Hbl.out.size))
  have Hfar : Hid (∀ b o, Ag = some ⟨b, o, none⟩ → 0 < N → b < w3.heap.size ∧ b ≠ w2.heap.size) := hide (fun b o h h0 => by
    obtain ⟨b', o', hA, hb', hc⟩ := hatg 0 (by simp [ivs]; omega)
    rw [h] at hA
    injection hA with hA
    injection hA with hA1 hA2
    subst hA1; subst hA2
    refine ⟨hb', fun e => ?_⟩
    have h3 := hk3.cell (o + 0)
    rw [← e] at h3
    rw [h3] at hc
    simp [ivs] at hc)
  have Hfar2 : Hid (∀ b o, Ag = some ⟨b, o, none⟩ → 0 < N → b < w3.heap.size ∧ (Value.slice (some ⟨w2.heap.size, 0, none⟩) 0 0).ownBlock ≠ some b) := hide (fun b o h h0 => ⟨(Hfar.out b o h h0).1, fun e => (Hfar.out b o h h0).2 (by
    have e2 : w2.heap.size = b := by simpa [Value.ownBlock] using e
    exact e2.symm)⟩)
  clear hatg hvg hb3 Hga hN Ho Hk Hb2a Hbl hk3 Hfar
  go_wp2
  go_loopw [17, 19] (fun s17 s19 wr => ∃ k : Nat, k ≤ N ∧ s19 = .int .i64 (k : Int) ∧ Hid (wr.ownsRow w2.heap.size 9 1 s17 (txts (G.take k)).length (svs (txts (G.take k)))) ∧ Hid (At wr Ag (ivs G)) ∧ Hid (∀ b o, Ag = some ⟨b, o, none⟩ → 0 < N → b < wr.heap.size ∧ s17.ownBlock ≠ some b) ∧ Hid (Below w2.heap.size w2 wr)) (fun _ s19 _ => (N - intOf s19).toNat)
  case atStart => exact ⟨0, Nat.zero_le _, rfl, Ho3, Hat, Hfar2, Hb3⟩
  case round =>
    clear Ho3 Hat Hfar2 Hb3
    obtain ⟨k, hk, rfl, hown, hat, hfar, hbr⟩ := hrel
    by_cases hlt : k < N
    · obtain ⟨g, hgk, hg1, hts⟩ := hNl.out k hlt
      have hget : (ivs G)[k]? = some (.int .i64 (g : Int)) := by unfold ivs; rw [List.getElem?_map, hgk]; rfl
      obtain ⟨b', o', hA, hb', hc⟩ := hat.out.get k _ hget
      subst hA
      have hlti : (k : Int) < (N : Int) := by omega
      have hlti0 : (0 : Int) ≤ (k : Int) := by omega
      have Hnu := hide (fun W => rnumber_any (g : Int) (by omega) (by omega) W)
      rw [Int.toNat_natCast] at Hnu
      have Hts := hide hts
      have Hlk : Hid ((txts (G.take k)).length ≤ 4096) := hide (by rw [txts_length, List.length_take, HN1.out]; omega)
      clear hgk hts hget hb'
      go_wp2_with fail
      refine (Hnu.out _).mono ?_
      rintro x w4 ⟨rfl, hb4⟩
      have hown4 := own_fr hown.out (Fr.of_below (S := nob) hb4) (fun g hg h => h)
      have hbw4 := hbr.out.trans (hb4.mono hbr.out.size)
      have hat4 := hat.out.below hb4
      have hlk := Hlk.out
      obtain ⟨v', w5, hrun, hown1, hf1, hblk, hfr, hkeep⟩ := app_fr (P := Tryz.prog) 64 9 _ _ Tryz.underlying64 strinf rfl hown4 hbw4 hbw4.size (.string (bs (num g))) rfl (by unfold maxLen; omega) (by omega)
      have Hrun := hide hrun
      have Hown1 : Hid (w5.ownsRow w2.heap.size 9 1 v' (txts (G.take (k + 1))).length (svs (txts (G.take (k + 1))))) := hide (by
        rw [Hts.out, List.length_append, svs_snoc2]
        exact hown1)
      have Hf1 := hide hf1
      have Hat1 := hide (hkeep _ _ hat4 (fun b o h => (hfar.out b o h (by omega)).2))
      have hsz5 : w4.heap.size + 1 ≤ w5.heap.size := by
        have h1 := hfr.size
        rw [World.size_alloc] at h1
        exact h1
      have hsz4 := hb4.size
      have Hfar1 : Hid (∀ b o, some (⟨b', o', none⟩ : Addr) = some ⟨b, o, none⟩ → 0 < N → b < w5.heap.size ∧ v'.ownBlock ≠ some b) := hide (fun b o h h0 => by
        obtain ⟨h1, h2⟩ := hfar.out b o h h0
        refine ⟨by omega, ?_⟩
        rcases hblk with h3 | h3
        · rw [h3]; exact h2
        · rw [h3]
          intro e
          injection e with e
          omega)
      clear hrun hown1 hf1 hown hbr hown4 hbw4 hb4 hlk hat4 hblk hfr hkeep hsz5 hsz4 hat hfar
      generalize bs (num g) = SN at *
      go_wp2_with (
        at_builtin
        refine wpList_run (by with_reducible rfl) rfl _ _ _ rfl _ _ (by rfl) (by rfl) Hrun.out ?_)
      refine ⟨⟨k + 1, hlt, by go_num, Hown1, Hat1, Hfar1, Hf1⟩, ?_⟩
      simp [intOf] <;> omega
    · have hkN : k = N := by omega
      subst hkN
      have htk : G.take k = G := List.take_of_length_le (by rw [HN1.out]; exact Nat.le_refl _)
      have hown5 := hown.out
      rw [htk] at hown5
      obtain ⟨A9, cap9, hv9, hat9⟩ := own_at hown5
      subst hv9
      have He := hide (Hen.out _ _ cap9 hat9)
      have Hbw := hide (Hb2.out.trans (hbr.out.mono Hb2.out.size))
      clear htk hown hown5 hat9 Hen hbr hNl Hg hat hfar
      go_wp2_with fail
      refine (He.out).mono ?_
      rintro x w6 ⟨rfl, hb6⟩
      have Hb6 := hide (Hbw.out.trans (hb6.mono Hbw.out.size))
      clear hb6 He Hbw
      go_wp2
      go_ret2
      exact ⟨by rw [Hcod.out]; rfl, Hb6.out⟩
set_option maxRecDepth 100000 in
set_option maxHeartbeats 2000000 in
theorem nencas_any {w : World} {A : Option Addr} {l : List Int} (c : Int) (ha : At w A (ivs l)) (n cap : Nat) (hn : n = l.length) (hn4 : n ≤ 9223372036854775807) :
    Calls Tryz.prog 27 #[.int .i64 c, .slice A n cap] w fun x w' => ERes w (encAsT c l) x w' := by
  have he : encAsT c l = if c < 0 ∨ 2 < c ∨ (c = 1 ∧ l.length < 2) then ([], 1) else if validT l = true then (codT c.toNat l, 0) else ([], 2) := rfl
  by_cases hc : c < 0 ∨ 2 < c ∨ (c = 1 ∧ l.length < 2)
  · rw [if_pos hc] at he
    rw [he]
    clear he
    rcases hc with h | h | ⟨h, h2⟩
    · clear ha hn
      go_enter Tryz.func27, Tryz.ntmps27
      go_wp2
      go_ret2
      exact eres_err 1 (Below.refl _ _)
    · have h0 : ¬ c < 0 := by omega
      clear ha hn
      go_enter Tryz.func27, Tryz.ntmps27
      go_wp2
      go_ret2
      exact eres_err 1 (Below.refl _ _)
    · subst h
      have hn2 : (n : Int) < 2 := by omega
      clear ha hn
      go_enter Tryz.func27, Tryz.ntmps27
      go_wp2
      go_ret2
      exact eres_err 1 (Below.refl _ _)
  · rw [if_neg hc] at he
    have h0 : ¬ c < 0 := by omega
    have h2 : ¬ 2 < c := by omega
    cases hv : validT l with
    | false =>
      have Hval := hide (nvalid_any ha n cap hn hn4)
      rw [hv, if_neg (by simp)] at he
      rw [he]
      rw [hv] at Hval
      by_cases h1 : c = 1
      · have hn2 : ¬ (n : Int) < 2 := by omega
        subst h1
        clear ha hn hc hv he
        go_enter Tryz.func27, Tryz.ntmps27
        go_wp2_with fail
        refine (Hval.out).mono ?_
        rintro x w1 ⟨rfl, q, rfl⟩
        have Hb := hide (bdN (Below.refl w.heap.size w) q)
        go_wp2
        go_ret2
        exact eres_err 2 Hb.out
      · have h1b := neq_dec c 1 h1
        clear ha hn hc hv he h1
        go_enter Tryz.func27, Tryz.ntmps27
        go_wp2_with fail
        refine (Hval.out).mono ?_
        rintro x w1 ⟨rfl, q, rfl⟩
        have Hb := hide (bdN (Below.refl w.heap.size w) q)
        go_wp2
        go_ret2
        exact eres_err 2 Hb.out
    | true =>
      rw [hv, if_pos rfl] at he
      rw [he]
      have hc3 : c = 0 ∨ c = 1 ∨ c = 2 := by omega
      rcases hc3 with rfl | rfl | rfl
      · exact ncas0 ha n cap hn hn4 hv
      · exact ncas1 ha n cap hn hn4 hv (by omega)
      · exact ncas2 ha n cap hn hn4 hv
end Go.Proofs.YtgllednilkfpgaaGreat
/-
  The walks over the reference of times: the shortest bytes.
-/
namespace Go.Proofs.YtgllednilkfpgaaGreat
open Go.RowKit Go.Proofs Wv Wv.Vi Wv.Rc Wv.Mo Wv.Ru Wv.Tm
set_option linter.unusedVariables false

def stpN (r : List UInt8 × Nat) (b : List UInt8) : List UInt8 := if r.2 = 0 ∧ r.1.length < b.length then r.1 else b
def bstN (l : List Int) (i : Nat) : List UInt8 := if i = 1 then (encAsT 0 l).1 else if i = 2 then stpN (encAsT 1 l) (encAsT 0 l).1 else stpN (encAsT 2 l) (stpN (encAsT 1 l) (encAsT 0 l).1)
theorem bst_enc (l : List Int) : encT l = (bstN l 3, (encAsT 0 l).2) := by
  show encT l = (stpN (encAsT 2 l) (stpN (encAsT 1 l) (encAsT 0 l).1), (encAsT 0 l).2)
  unfold encT encAsT stpN mnT
  cases hv : validT l with
  | false =>
    by_cases h : l.length < 2 <;> simp [h]
  | true =>
    by_cases h : l.length < 2
    · simp [h, codT]
    · simp [h, codT]
set_option maxRecDepth 100000 in
set_option maxHeartbeats 2000000 in
theorem nencode_any {w : World} {A : Option Addr} {l : List Int} (ha : At w A (ivs l)) (n cap : Nat) (hn : n = l.length) (hn4 : n ≤ 9223372036854775807) :
    Calls Tryz.prog 28 #[.slice A n cap] w fun x w' => ERes w (encT l) x w' := by
  have H0 := hide (nencas_any 0 ha n cap hn hn4)
  have H1 := hide (fun W (h : Below w.heap.size w W) => nencas_any 1 (ha.below h) n cap hn hn4)
  have H2 := hide (fun W (h : Below w.heap.size w W) => nencas_any 2 (ha.below h) n cap hn hn4)
  rw [bst_enc]
  have b1 : bstN l 1 = (encAsT 0 l).1 := rfl
  have b2 : bstN l 2 = stpN (encAsT 1 l) (bstN l 1) := rfl
  have b3 : bstN l 3 = stpN (encAsT 2 l) (bstN l 2) := rfl
  obtain ⟨bt, hbt⟩ : ∃ b, bstN l = b := ⟨_, rfl⟩
  rw [hbt] at b1 b2 b3 ⊢
  clear ha hn hbt
  generalize encAsT 0 l = r0 at *
  generalize encAsT 1 l = r1 at *
  generalize encAsT 2 l = r2 at *
  obtain ⟨C0, f0⟩ := r0
  obtain ⟨C1, f1⟩ := r1
  obtain ⟨C2, f2⟩ := r2
  unfold ERes at H0 H1 H2
  simp only at b1 H0 H1 H2 ⊢
  have B1 := hide b1
  have B2 := hide b2
  have B3 := hide b3
  clear b1 b2 b3
  go_enter Tryz.func28, Tryz.ntmps28
  go_wp2_with fail
  refine (H0.out).mono ?_
  rintro x w1 ⟨rfl, hb1⟩
  have Hb1 := hide hb1
  clear hb1 H0
  go_wp2
  go_loopw [4, 6] (fun s4 s6 wr => ∃ i : Nat, 1 ≤ i ∧ i ≤ 3 ∧ s4 = .string (bs (bt i)) ∧ s6 = .int .i64 (i : Int) ∧ Hid (Below w.heap.size w wr)) (fun _ s6 _ => (3 - intOf s6).toNat)
  case atStart => exact ⟨1, by omega, by omega, by rw [B1.out], rfl, Hb1⟩
  case round =>
    clear Hb1
    obtain ⟨i, hi1, hi3, rfl, rfl, hb⟩ := hrel
    have hi : i = 1 ∨ i = 2 ∨ i = 3 := by omega
    rcases hi with rfl | rfl | rfl
    · have Hc := hide (H1.out _ hb.out)
      have hz1 : (bs C1).size = C1.length := bs_size _
      have hz2 : (bs (bt 1)).size = (bt 1).length := bs_size _
      have hb2 := B2.out
      unfold stpN at hb2
      simp only at hb2
      rcases Nat.eq_zero_or_pos f1 with hf | hf
      · by_cases hs : C1.length < (bt 1).length
        · rw [if_pos ⟨hf, hs⟩] at hb2
          have Hb2 : Hid (bs C1 = bs (bt 2)) := hide (by rw [hb2])
          have hsi : (C1.length : Int) < ((bt 1).length : Int) := by omega
          have hfi : ((f1 : Int) == 0) = true := by simp; omega
          clear hb2 hs hf H1 H2 B1 B2 B3
          generalize bs C1 = SC at *
          generalize bs (bt 1) = S1 at *
          generalize C1.length = c1 at *
          generalize (bt 1).length = t1 at *
          go_wp2_with fail
          refine (Hc.out).mono ?_
          rintro x w2 ⟨rfl, hb2⟩
          have Hbw := hide (hb.out.trans (hb2.mono hb.out.size))
          clear hb2 hb Hc
          go_wp2
          refine ⟨⟨2, by omega, by omega, by rw [Hb2.out], rfl, Hbw⟩, ?_⟩
          simp [intOf]
        · rw [if_neg (fun h => hs h.2)] at hb2
          have Hb2 : Hid (bs (bt 1) = bs (bt 2)) := hide (by rw [hb2])
          have hsi : ¬ (C1.length : Int) < ((bt 1).length : Int) := by omega
          have hfi : ((f1 : Int) == 0) = true := by simp; omega
          clear hb2 hs hf H1 H2 B1 B2 B3
          generalize bs C1 = SC at *
          generalize bs (bt 1) = S1 at *
          generalize C1.length = c1 at *
          generalize (bt 1).length = t1 at *
          go_wp2_with fail
          refine (Hc.out).mono ?_
          rintro x w2 ⟨rfl, hb2⟩
          have Hbw := hide (hb.out.trans (hb2.mono hb.out.size))
          clear hb2 hb Hc
          go_wp2
          refine ⟨⟨2, by omega, by omega, by rw [Hb2.out], rfl, Hbw⟩, ?_⟩
          simp [intOf]
      · rw [if_neg (fun h => by omega)] at hb2
        have Hb2 : Hid (bs (bt 1) = bs (bt 2)) := hide (by rw [hb2])
        have hfi : ((f1 : Int) == 0) = false := by rw [beq_eq_false_iff_ne]; omega
        clear hb2 hf H1 H2 B1 B2 B3
        generalize bs C1 = SC at *
        generalize bs (bt 1) = S1 at *
        generalize C1.length = c1 at *
        generalize (bt 1).length = t1 at *
        go_wp2_with fail
        refine (Hc.out).mono ?_
        rintro x w2 ⟨rfl, hb2⟩
        have Hbw := hide (hb.out.trans (hb2.mono hb.out.size))
        clear hb2 hb Hc
        go_wp2
        refine ⟨⟨2, by omega, by omega, by rw [Hb2.out], rfl, Hbw⟩, ?_⟩
        simp [intOf]
    · have Hc := hide (H2.out _ hb.out)
      have hz1 : (bs C2).size = C2.length := bs_size _
      have hz2 : (bs (bt 2)).size = (bt 2).length := bs_size _
      have hb2 := B3.out
      unfold stpN at hb2
      simp only at hb2
      rcases Nat.eq_zero_or_pos f2 with hf | hf
      · by_cases hs : C2.length < (bt 2).length
        · rw [if_pos ⟨hf, hs⟩] at hb2
          have Hb2 : Hid (bs C2 = bs (bt 3)) := hide (by rw [hb2])
          have hsi : (C2.length : Int) < ((bt 2).length : Int) := by omega
          have hfi : ((f2 : Int) == 0) = true := by simp; omega
          clear hb2 hs hf H1 H2 B1 B2 B3
          generalize bs C2 = SC at *
          generalize bs (bt 2) = S1 at *
          generalize C2.length = c1 at *
          generalize (bt 2).length = t1 at *
          go_wp2_with fail
          refine (Hc.out).mono ?_
          rintro x w2 ⟨rfl, hb2⟩
          have Hbw := hide (hb.out.trans (hb2.mono hb.out.size))
          clear hb2 hb Hc
          go_wp2
          refine ⟨⟨3, by omega, by omega, by rw [Hb2.out], rfl, Hbw⟩, ?_⟩
          simp [intOf]
        · rw [if_neg (fun h => hs h.2)] at hb2
          have Hb2 : Hid (bs (bt 2) = bs (bt 3)) := hide (by rw [hb2])
          have hsi : ¬ (C2.length : Int) < ((bt 2).length : Int) := by omega
          have hfi : ((f2 : Int) == 0) = true := by simp; omega
          clear hb2 hs hf H1 H2 B1 B2 B3
          generalize bs C2 = SC at *
          generalize bs (bt 2) = S1 at *
          generalize C2.length = c1 at *
          generalize (bt 2).length = t1 at *
          go_wp2_with fail
          refine (Hc.out).mono ?_
          rintro x w2 ⟨rfl, hb2⟩
          have Hbw := hide (hb.out.trans (hb2.mono hb.out.size))
          clear hb2 hb Hc
          go_wp2
          refine ⟨⟨3, by omega, by omega, by rw [Hb2.out], rfl, Hbw⟩, ?_⟩
          simp [intOf]
      · rw [if_neg (fun h => by omega)] at hb2
        have Hb2 : Hid (bs (bt 2) = bs (bt 3)) := hide (by rw [hb2])
        have hfi : ((f2 : Int) == 0) = false := by rw [beq_eq_false_iff_ne]; omega
        clear hb2 hf H1 H2 B1 B2 B3
        generalize bs C2 = SC at *
        generalize bs (bt 2) = S1 at *
        generalize C2.length = c1 at *
        generalize (bt 2).length = t1 at *
        go_wp2_with fail
        refine (Hc.out).mono ?_
        rintro x w2 ⟨rfl, hb2⟩
        have Hbw := hide (hb.out.trans (hb2.mono hb.out.size))
        clear hb2 hb Hc
        go_wp2
        refine ⟨⟨3, by omega, by omega, by rw [Hb2.out], rfl, Hbw⟩, ?_⟩
        simp [intOf]
    · clear H1 H2 B1 B2 B3
      go_wp2
      go_ret2
      exact ⟨rfl, hb.out⟩
end Go.Proofs.YtgllednilkfpgaaGreat
