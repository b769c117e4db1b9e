/-
  Joined texts: Ie, If, Ig, Ih, Is.
-/
import Derived.Test.YtgllednilkfpgaaGreatJ33
import Derived.Test.YtgllednilkfpgaaGreatJ31
import Derived.Laws.EntriesVeiled
import Derived.Sort.OwnSortedInts
set_option linter.unusedVariables false
set_option linter.unusedSimpArgs false
/-
  The walks over times: the codings as functions, the first and the third of them.
-/
namespace Go.Proofs.YtgllednilkfpgaaGreat
open Go.RowKit Go.Proofs Wv Wv.Vi Wv.Rc Wv.Mo Wv.Ru Wv.Tm
set_option linter.unusedVariables false

def pA (r : Nat) : Value := .pointer (some ⟨r, 0, none⟩)
def fN : Value := .func (.func 80) #[] #[]
def fC0 (r : Nat) : Value := .func (.func 82) #[] #[.pointer (some ⟨r + 1, 0, none⟩), .pointer (some ⟨r, 0, none⟩)]
def fC1 (r : Nat) : Value := .func (.func 85) #[] #[.pointer (some ⟨r, 0, none⟩), .pointer (some ⟨r + 1, 0, none⟩)]
def fC2 (r : Nat) : Value := .func (.func 87) #[] #[.pointer (some ⟨r, 0, none⟩)]
theorem ires_open {w : World} {v : Value} {l : List Int} (h : IRes w v l) : ∃ A cap, v = .slice A l.length cap ∧ At w A (ivs l) := h
/-- What the codings as functions look at. -/
structure CdSt (W : World) (r : Nat) (A : Option Addr) (n cap : Nat) (l : List Int) : Prop where
  c1 : W.cell? ⟨r, 0, none⟩ = some (.slice A n cap)
  c2 : W.cell? ⟨r + 1, 0, none⟩ = some (.func (.func 80) #[] #[])
  at_ : At W A (ivs l)
theorem CdSt.below {W W' : World} {r : Nat} {A : Option Addr} {n cap : Nat} {l : List Int} (h : CdSt W r A n cap l) (hb : Below W.heap.size W W') : CdSt W' r A n cap l :=
  ⟨(hb.cell (World.block_lt_of_cell? W _ h.c1)).trans h.c1, (hb.cell (World.block_lt_of_cell? W _ h.c2)).trans h.c2, h.at_.below hb⟩
set_option maxRecDepth 10000 in
theorem tcodings_any {w : World} {A : Option Addr} {l : List Int} (ha : At w A (ivs l)) (n cap : Nat) :
    Calls Tryz.prog 49 #[.slice A n cap] w fun x w' => x = .returned (.slice (some ⟨w.heap.size + 1 + 1, 0, none⟩) 3 3) ∧ w'.cell? ⟨w.heap.size + 1 + 1, 0, none⟩ = some (fC0 w.heap.size) ∧ w'.cell? ⟨w.heap.size + 1 + 1, 1, none⟩ = some (fC1 w.heap.size) ∧ w'.cell? ⟨w.heap.size + 1 + 1, 2, none⟩ = some (fC2 w.heap.size) ∧ CdSt w' w.heap.size A n cap l ∧ Below w.heap.size w w' := by
  have Ha := hide ha
  clear ha
  go_enter Tryz.func49, Tryz.ntmps49
  go_wp2
  go_ret
  have hk1 := ((Bk.new w 22 #[.slice A n cap]).alloc (.cells #[.func (.func 80) #[] #[]] 105))
  have hk2 := Bk.new (w.alloc (.cells #[.slice A n cap] 22)) 105 #[.func (.func 80) #[] #[]]
  have hk3 := Bk.new ((w.alloc (.cells #[.slice A n cap] 22)).alloc (.cells #[.func (.func 80) #[] #[]] 105)) 70 #[fC0 w.heap.size, fC1 w.heap.size, fC2 w.heap.size]
  rw [World.size_alloc] at hk2
  rw [World.size_alloc, World.size_alloc] at hk3
  have hb := (((Below.refl w.heap.size w).alloc (Nat.le_refl _) (.cells #[.slice A n cap] 22)).alloc (by simp) (.cells #[.func (.func 80) #[] #[]] 105)).alloc (by simp; omega) (.cells #[fC0 w.heap.size, fC1 w.heap.size, fC2 w.heap.size] 70)
  exact ⟨rfl, hk3.cell 0, hk3.cell 1, hk3.cell 2, ⟨(hk1.alloc _).cell 0, (hk2.alloc _).cell 0, Ha.out.below hb⟩, hb⟩
theorem map_toNat_id {G : List Int} (h : ∀ g ∈ G, 0 ≤ g ∧ g ≤ 1099511627776) : (G.map Int.toNat).map Int.ofNat = G := by
  rw [List.map_map]
  conv => rhs; rw [← List.map_id G]
  exact List.map_congr_left (fun g hg => Int.toNat_of_nonneg (h g hg).1)
set_option maxRecDepth 10000 in
theorem tnums_any {w : World} {A : Option Addr} {G : List Int} (ha : At w A (ivs G)) (n cap : Nat) (hn : n = G.length) (hl : G.length ≤ 4096) (hG : ∀ g ∈ G, 0 ≤ g ∧ g ≤ 1099511627776) :
    Calls Tryz.prog 80 #[.slice A n cap] w fun x w' => x = .returned (.string (bs (numsI G))) ∧ Below w.heap.size w w' := by
  rw [← map_toNat_id hG] at ha
  have He := hide (encodenums_any ha n cap (by rw [List.length_map]; exact hn) (by rw [List.length_map]; exact hl) (fun v hv => by
    obtain ⟨g, hg, rfl⟩ := List.mem_map.1 hv
    have := hG g hg
    omega))
  have hs : encn (G.map Int.toNat) = numsI G := rfl
  rw [hs] at He
  clear ha hn hl hG hs
  generalize bs (numsI G) = S at *
  go_enter Tryz.func80, Tryz.ntmps80
  go_wp2_with fail
  refine (He.out).mono ?_
  rintro x w1 ⟨rfl, hb⟩
  go_wp2
  go_ret
  exact ⟨rfl, hb⟩
theorem cds_bel {w W : World} {r : Nat} {A : Option Addr} {n cap : Nat} {l : List Int} (h : W.cell? ⟨r, 0, none⟩ = some (.slice A n cap) ∧ W.cell? ⟨r + 1, 0, none⟩ = some (.func (.func 80) #[] #[]) ∧ CdSt W r A n cap l ∧ Below w.heap.size w W) : Below w.heap.size w W := h.2.2.2
set_option maxRecDepth 100000 in
set_option maxHeartbeats 2000000 in
theorem tcod0_any {w : World} {r : Nat} {A : Option Addr} {n cap : Nat} {l : List Int} (h : CdSt w r A n cap l) (hn : n = l.length) (hv : validT l = true) :
    Calls Tryz.prog 82 #[.pointer (some ⟨r + 1, 0, none⟩), .pointer (some ⟨r, 0, none⟩)] w fun x w' => x = .returned (.string (bs (cod0 l))) ∧ Below w.heap.size w w' := by
  have Hn0 := hide (fun W => number_any 0 (by omega) (by omega) W)
  have hnl := numsI_len hv
  obtain ⟨_, _, v3⟩ := validT_iff.1 hv
  have Hga : Hid (∀ W, (W.cell? ⟨r, 0, none⟩ = some (.slice A n cap) ∧ W.cell? ⟨r + 1, 0, none⟩ = some (.func (.func 80) #[] #[]) ∧ CdSt W r A n cap l ∧ Below w.heap.size w W) → Calls Tryz.prog 84 #[.slice A n cap] W fun x w' => ∃ v, x = .returned v ∧ IRes w' v (gapsT l) ∧ Below W.heap.size W w') := hide (fun W hW => tgaps_any hW.2.2.1.at_ n cap hn hv)
  have Hnu : Hid (∀ W A2 c2, At W A2 (ivs (gapsT l)) → Calls Tryz.prog 80 #[.slice A2 (gapsT l).length c2] W fun x w' => x = .returned (.string (bs (numsI (gapsT l)))) ∧ Below W.heap.size W w') := hide (fun W A2 c2 h2 => tnums_any h2 _ c2 rfl (by unfold gapsT; rw [gp_length]; exact v3) (gapsT_in hv))
  have hcod : bs (cod0 l) = bs (num (0 : Int).toNat) ++ bs (numsI (gapsT l)) := by rw [bs_append]; rfl
  rw [hcod]
  have hz1 : (bs (num (0 : Int).toNat)).size ≤ 9 := by rw [bs_size, num_length]; have := kof_le (0 : Int).toNat; omega
  have hz2 : (bs (numsI (gapsT l))).size ≤ 600000 := by rw [bs_size]; exact hnl
  generalize bs (num (0 : Int).toNat) = S0 at *
  generalize bs (numsI (gapsT l)) = S1 at *
  generalize gapsT l = G at *
  have hsz : (9223372036854775807 < S0.size + S1.size) = False := by
    rw [eq_iff_iff, iff_false]; omega
  have H1 : CdSt w.drew r A n cap l := h.below ((Below.refl _ _).drew)
  have H2 : w.drew.cell? ⟨r, 0, none⟩ = some (.slice A n cap) ∧ w.drew.cell? ⟨r + 1, 0, none⟩ = some (.func (.func 80) #[] #[]) ∧ CdSt w.drew r A n cap l ∧ Below w.heap.size w w.drew := ⟨H1.c1, H1.c2, H1, (Below.refl _ _).drew⟩
  have keep : ∀ (W W' : World), (W.cell? ⟨r, 0, none⟩ = some (.slice A n cap) ∧ W.cell? ⟨r + 1, 0, none⟩ = some (.func (.func 80) #[] #[]) ∧ CdSt W r A n cap l ∧ Below w.heap.size w W) → Below W.heap.size W W' → (W'.cell? ⟨r, 0, none⟩ = some (.slice A n cap) ∧ W'.cell? ⟨r + 1, 0, none⟩ = some (.func (.func 80) #[] #[]) ∧ CdSt W' r A n cap l ∧ Below w.heap.size w W') := fun W W' h1 h2 => ⟨(h1.2.2.1.below h2).c1, (h1.2.2.1.below h2).c2, h1.2.2.1.below h2, h1.2.2.2.trans (h2.mono h1.2.2.2.size)⟩
  have Keep := hide keep
  clear hn hv v3 hnl hcod h H1 keep
  go_enter Tryz.func82, Tryz.ntmps82
  go_wp2
  go_region_held3 (fun W => W.cell? ⟨r, 0, none⟩ = some (.slice A n cap) ∧ W.cell? ⟨r + 1, 0, none⟩ = some (.func (.func 80) #[] #[]) ∧ CdSt W r A n cap l ∧ Below w.heap.size w W) (first | exact H2 | assumption | exact Keep.out _ _ (by assumption) (by assumption))
    (first
      | (go_at_call 83; with_reducible refine (Hn0.out _).mono ?_; rintro q wn ⟨rfl, hbn⟩)
      | (go_at_call 84; with_reducible refine (Hga.out _ (by assumption)).mono ?_; rintro q wg ⟨vg, rfl, hvg, hbg⟩; obtain ⟨Ag, capg, hvg2, hatg⟩ := ires_open hvg; subst hvg2)
      | (go_at_call 80; with_reducible refine (Hnu.out _ _ _ (by first | exact hatg | exact hatg.below hbn)).mono ?_; rintro q wu ⟨rfl, hbu⟩))
  all_goals
    go_wp2
    go_ret
    exact ⟨rfl, cds_bel (r := r) (A := A) (n := n) (cap := cap) (l := l) (by assumption)⟩
theorem txts_take {G : List Int} {k : Nat} (h : k < G.length) : txts (G.take (k + 1)) = txts (G.take k) ++ [bs (num G[k].toNat)] := by
  unfold txts
  rw [List.take_succ_eq_append_getElem h, List.map_append]
  rfl
theorem svs_snoc2 (l : List ByteArray) (s : ByteArray) : svs (l ++ [s]) = svs l ++ [.string s] := by simp [svs, sv]
set_option maxRecDepth 100000 in
set_option maxHeartbeats 2000000 in
theorem tcod2_any {w : World} {r : Nat} {A : Option Addr} {n cap : Nat} {l : List Int} (h : CdSt w r A n cap l) (hn : n = l.length) (hv : validT l = true) :
    Calls Tryz.prog 87 #[.pointer (some ⟨r, 0, none⟩)] w fun x w' => x = .returned (.string (bs (cod2 l))) ∧ Below w.heap.size w w' := by
  obtain ⟨he0, hel⟩ := cod2_enc hv
  obtain ⟨_, _, v3⟩ := validT_iff.1 hv
  have hgl : (gapsT l).length ≤ 4096 := by unfold gapsT; rw [gp_length]; exact v3
  have hg := gapsT_in hv
  have Hga := hide (tgaps_any h.at_ n cap hn hv)
  have Hn2 := hide (fun W => number_any 2 (by omega) (by omega) W)
  have hcod : bs (cod2 l) = bs (num (2 : Int).toNat) ++ bs (enc (txts (gapsT l))).1 := by rw [bs_append]; rfl
  rw [hcod]
  have c1 := h.c1
  have htx : ∀ s ∈ txts (gapsT l), s.size ≤ 9223372036854775807 := fun s hs => by have := txts_size _ s hs; omega
  generalize gapsT l = G at *
  have hz1 : (bs (num (2 : Int).toNat)).size ≤ 9 := by rw [bs_size, num_length]; have := kof_le (2 : Int).toNat; omega
  have hz2 : (bs (enc (txts G)).1).size ≤ 2000000 := by rw [bs_size]; exact hel
  generalize bs (num (2 : Int).toNat) = S0 at *
  obtain ⟨SE, hSE⟩ : ∃ S, bs (enc (txts G)).1 = S := ⟨_, rfl⟩
  rw [hSE] at hz2 ⊢
  have Hen : Hid (∀ (W : World) (A2 : Option Addr) (c2 : Nat), At W A2 (svs (txts G)) → Calls Tryz.prog 88 #[.slice A2 (txts G).length c2] W fun x w' => x = .returned (.tuple #[.string SE, .int .i64 0]) ∧ Below W.heap.size W w') := hide (fun W A2 c2 h2 => (encode_any h2 htx (txts G).length c2 rfl (by rw [txts_length]; omega)).mono fun x w' ⟨h1, h2⟩ => ⟨by rw [h1, hSE, he0]; rfl, h2⟩)
  have Hg := hide hg
  have hGl := txts_length G
  have HGl := hide hGl
  obtain ⟨N, hN⟩ : ∃ N, G.length = N := ⟨_, rfl⟩
  have HN := hide hN
  rw [hN] at hgl
  clear hn hv v3 hel hcod h hg htx hGl he0 hSE
  have hNl : Hid (∀ k, k < N → ∃ g : Nat, G[k]? = some (g : Int) ∧ g ≤ 1099511627776 ∧ txts (G.take (k + 1)) = txts (G.take k) ++ [bs (num g)]) := hide (fun k hk => by
    have hk2 : k < G.length := by omega
    have := Hg.out G[k] (List.getElem_mem _)
    refine ⟨G[k].toNat, ?_, by omega, txts_take hk2⟩
    rw [List.getElem?_eq_getElem hk2, Int.toNat_of_nonneg this.1])
  go_enter Tryz.func87, Tryz.ntmps87
  go_wp2_with fail
  refine (Hga.out).mono ?_
  rintro x w1 ⟨v, rfl, hvg, hb1⟩
  obtain ⟨Ag, capg, hvg2, hatg⟩ := ires_open hvg
  subst hvg2
  rw [hN]
  have Hat := hide hatg
  have Hb1 := hide hb1
  clear hatg hvg hb1 c1 Hga hN
  go_wp2
  go_loopw [2, 10] (fun s2 s10 wr => ∃ k : Nat, k ≤ N ∧ s10 = .int .i64 (k : Int) ∧ Hid (wr.ownsRow w1.heap.size 9 1 s2 (txts (G.take k)).length (svs (txts (G.take k)))) ∧ Hid (Below w1.heap.size w1 wr)) (fun _ s10 _ => (N - intOf s10).toNat)
  case atStart => exact ⟨0, Nat.zero_le _, rfl, hide own_nil, hide (Below.refl _ _)⟩
  case round =>
    obtain ⟨k, hk, rfl, hown, hbr⟩ := hrel
    by_cases hlt : k < N
    · obtain ⟨g, hgk, hg1, hts⟩ := hNl.out k hlt
      have hget : (ivs G)[k]? = some (.int .i64 (g : Int)) := by unfold ivs; rw [List.getElem?_map, hgk]; rfl
      obtain ⟨b', o', hA, hb', hc⟩ := (Hat.out.below hbr.out).get k _ hget
      subst hA
      have hlti : (k : Int) < (N : Int) := by omega
      have Hnu := hide (fun W => number_any (g : Int) (by omega) (by omega) W)
      rw [Int.toNat_natCast] at Hnu
      have Hts := hide hts
      have Hlk : Hid ((txts (G.take k)).length ≤ 4096) := hide (by rw [txts_length, List.length_take, HN.out]; omega)
      clear hgk hts hget hb'
      go_wp2_with fail
      refine (Hnu.out _).mono ?_
      rintro x w3 ⟨rfl, hb3⟩
      have hown3 := own_fr hown.out (Fr.of_below (S := nob) hb3) (fun g hg h => h)
      have hb4 := hbr.out.trans (hb3.mono hbr.out.size)
      have hlk := Hlk.out
      obtain ⟨v', w4, hrun, hown1, hf1, _⟩ := app_own (P := Tryz.prog) 64 9 _ _ Tryz.underlying64 strinf rfl hown3 hb4 hb4.size (.string (bs (num g))) rfl (by unfold maxLen; omega) (by omega)
      have Hrun := hide hrun
      have Hown1 : Hid (w4.ownsRow w1.heap.size 9 1 v' (txts (G.take (k + 1))).length (svs (txts (G.take (k + 1))))) := hide (by
        rw [Hts.out, List.length_append, svs_snoc2]
        exact hown1)
      have Hf1 := hide hf1
      clear hrun hown1 hf1 hown hbr hown3 hb4 hb3 hlk
      generalize bs (num g) = SN at *
      go_wp2_with (
        at_builtin
        refine wpList_run (by with_reducible rfl) rfl _ _ _ rfl _ _ (by rfl) (by rfl) Hrun.out ?_)
      refine ⟨⟨k + 1, hlt, by go_num, Hown1, Hf1⟩, ?_⟩
      simp [intOf] <;> omega
    · have hkN : k = N := by omega
      subst hkN
      obtain ⟨W5, rfl⟩ : ∃ W, W = wr := ⟨_, rfl⟩
      have htk : G.take k = G := List.take_of_length_le (by rw [HN.out]; exact Nat.le_refl _)
      have hown5 := hown.out
      rw [htk] at hown5
      obtain ⟨A9, cap9, hv9, hat9⟩ := own_at hown5
      subst hv9
      have He := hide (Hen.out _ _ cap9 hat9)
      have Hbw := hide (Hb1.out.trans (hbr.out.mono Hb1.out.size))
      clear htk hown hown5 hat9 Hen hbr Hb1 Hat hNl Hg
      go_wp2_with fail
      refine (He.out).mono ?_
      rintro x w6 ⟨rfl, hb6⟩
      have Hb6 := hide (Hbw.out.trans (hb6.mono Hbw.out.size))
      clear hb6
      go_wp2_with fail
      refine (Hn2.out _).mono ?_
      rintro x w7 ⟨rfl, hb7⟩
      have Hb7 := hide (Hb6.out.trans (hb7.mono Hb6.out.size))
      clear hb7
      go_wp2
      go_ret
      exact ⟨rfl, Hb7.out⟩
end Go.Proofs.YtgllednilkfpgaaGreat
/-
  The walks over times: the second coding.
-/
namespace Go.Proofs.YtgllednilkfpgaaGreat
open Go.RowKit Go.Proofs Wv Wv.Vi Wv.Rc Wv.Mo Wv.Ru Wv.Tm
set_option linter.unusedVariables false

/-- What the second coding reads at last. -/
def C1S (w : World) (R r : Nat) (st f s n : Int) (A4 : Option Addr) (m : List Int) (A5 : Option Addr) (x : List Int) (W : World) : Prop :=
  W.cell? ⟨R, 0, none⟩ = some (.int .i64 st) ∧ W.cell? ⟨R, 1, none⟩ = some (.int .i64 f) ∧ W.cell? ⟨R, 2, none⟩ = some (.int .i64 s) ∧ W.cell? ⟨R, 3, none⟩ = some (.int .i64 n) ∧ W.cell? ⟨r + 1, 0, none⟩ = some (.func (.func 80) #[] #[]) ∧ At W A4 (ivs m) ∧ At W A5 (ivs x) ∧ Below w.heap.size w W
theorem C1S.below {w W W' : World} {R r : Nat} {st f s n : Int} {A4 A5 : Option Addr} {m x : List Int} (h : C1S w R r st f s n A4 m A5 x W) (hb : Below W.heap.size W W') : C1S w R r st f s n A4 m A5 x W' := by
  obtain ⟨h1, h2, h3, h4, h5, h6, h7, h8⟩ := h
  have k : ∀ {p : Addr} {v : Value}, W.cell? p = some v → W'.cell? p = some v := fun {p v} h => (hb.cell (World.block_lt_of_cell? W p h)).trans h
  exact ⟨k h1, k h2, k h3, k h4, k h5, h6.below hb, h7.below hb, h8.trans (hb.mono h8.size)⟩
theorem C1S.bel {w W : World} {R r : Nat} {st f s n : Int} {A4 A5 : Option Addr} {m x : List Int} (h : C1S w R r st f s n A4 m A5 x W) : Below w.heap.size w W := h.2.2.2.2.2.2.2
theorem C1S.a4 {w W : World} {R r : Nat} {st f s n : Int} {A4 A5 : Option Addr} {m x : List Int} (h : C1S w R r st f s n A4 m A5 x W) : At W A4 (ivs m) := h.2.2.2.2.2.1
theorem C1S.a5 {w W : World} {R r : Nat} {st f s n : Int} {A4 A5 : Option Addr} {m x : List Int} (h : C1S w R r st f s n A4 m A5 x W) : At W A5 (ivs x) := h.2.2.2.2.2.2.1
theorem nosum {a b : Nat} (h : a + b ≤ 9000000) : (9223372036854775807 < a + b) = False := by
  rw [eq_iff_iff, iff_false]; omega
set_option maxRecDepth 100000 in
set_option maxHeartbeats 4000000 in
theorem tcod1_any {w : World} {r : Nat} {A : Option Addr} {n cap : Nat} {l : List Int} (h : CdSt w r A n cap l) (hn : n = l.length) (hv : validT l = true) (h2 : 2 ≤ l.length) :
    Calls Tryz.prog 85 #[.pointer (some ⟨r, 0, none⟩), .pointer (some ⟨r + 1, 0, none⟩)] w fun x w' => x = .returned (.string (bs (cod1 l))) ∧ Below w.heap.size w w' := by
  obtain ⟨v1, v2, v3⟩ := validT_iff.1 hv
  have hvc := detect_vclk hv h2
  obtain ⟨hin, _⟩ := vclk_iff.1 hvc
  have hex : excT (detect l) l = some (missL (detect l) l, furL (detect l) l) := by unfold excT; rw [if_pos ⟨hvc, hv⟩]
  have hmv := missL_valid hin l
  have hfv := furL_valid (c := detect l) hv
  have Hde := hide (tdetect_any h.at_ n cap hn (by omega))
  have Hex : Hid (∀ W, CdSt W r A n cap l → Calls Tryz.prog 14 #[CV (detect l), .slice A n cap] W fun x w' => ∃ v1 v2, x = .returned (.tuple #[v1, v2, .int .i64 0]) ∧ IRes w' v1 (missL (detect l) l) ∧ IRes w' v2 (furL (detect l) l) ∧ Below W.heap.size W w') := hide (fun W hW => by
    have := texc_any (detect l) hW.at_ n cap hn (by omega)
    rw [hex] at this
    exact this)
  have hcod : bs (cod1 l) = bs (num (1 : Int).toNat) ++ bs (num (detect l).st.toNat) ++ bs (num (detect l).f.toNat) ++ bs (num (detect l).s.toNat) ++ bs (num (detect l).n.toNat) ++ bs (text (bs (numsI (gapsT (missL (detect l) l))))) ++ bs (numsI (gapsT (furL (detect l) l))) := by
    simp only [bs_append]; rfl
  rw [hcod]
  generalize missL (detect l) l = m at *
  generalize furL (detect l) l = x at *
  generalize detect l = c at *
  obtain ⟨_, m2, m3⟩ := validT_iff.1 hmv
  obtain ⟨_, x2, x3⟩ := validT_iff.1 hfv
  have hzm := numsI_len hmv
  have hzx := numsI_len hfv
  have N1 := hide (fun W => number_any 1 (by omega) (by omega) W)
  obtain ⟨d1, d2, d3, d4, d5, d6, d7, d8⟩ := hin
  have N2 := hide (fun W => number_any c.st (by omega) (by omega) W)
  have N3 := hide (fun W => number_any c.f (by omega) (by omega) W)
  have N4 := hide (fun W => number_any c.s (by omega) (by omega) W)
  have N5 := hide (fun W => number_any c.n (by omega) (by omega) W)
  have T1 := hide (fun W => text_any (bs (numsI (gapsT m))) (by rw [bs_size]; omega) W)
  have z9 : ∀ k, (bs (num k)).size ≤ 9 := fun k => by rw [bs_size, num_length]; have := kof_le k; omega
  have y1 := z9 (1 : Int).toNat
  have y2 := z9 c.st.toNat
  have y3 := z9 c.f.toNat
  have y4 := z9 c.s.toNat
  have y5 := z9 c.n.toNat
  have y6 : (bs (text (bs (numsI (gapsT m))))).size ≤ 700000 := by
    rw [bs_size]
    unfold text
    rw [List.length_append, num_length, bs_size, toL_bs]
    have := kof_le (numsI (gapsT m)).length
    omega
  have y7 : (bs (numsI (gapsT x))).size ≤ 600000 := by rw [bs_size]; exact hzx
  have G1 : Hid (∀ W A2 c2, At W A2 (ivs m) → Calls Tryz.prog 84 #[.slice A2 m.length c2] W fun x w' => ∃ v, x = .returned v ∧ IRes w' v (gapsT m) ∧ Below W.heap.size W w') := hide (fun W A2 c2 h => tgaps_any h m.length c2 rfl hmv)
  have G2 : Hid (∀ W A2 c2, At W A2 (ivs x) → Calls Tryz.prog 84 #[.slice A2 x.length c2] W fun y w' => ∃ v, y = .returned v ∧ IRes w' v (gapsT x) ∧ Below W.heap.size W w') := hide (fun W A2 c2 h => tgaps_any h x.length c2 rfl hfv)
  have U1 : Hid (∀ W A2 c2, At W A2 (ivs (gapsT m)) → Calls Tryz.prog 80 #[.slice A2 (gapsT m).length c2] W fun x w' => x = .returned (.string (bs (numsI (gapsT m)))) ∧ Below W.heap.size W w') := hide (fun W A2 c2 h2 => tnums_any h2 _ c2 rfl (by unfold gapsT; rw [gp_length]; exact m3) (gapsT_in hmv))
  have U2 : Hid (∀ W A2 c2, At W A2 (ivs (gapsT x)) → Calls Tryz.prog 80 #[.slice A2 (gapsT x).length c2] W fun y w' => y = .returned (.string (bs (numsI (gapsT x)))) ∧ Below W.heap.size W w') := hide (fun W A2 c2 h2 => tnums_any h2 _ c2 rfl (by unfold gapsT; rw [gp_length]; exact x3) (gapsT_in hfv))
  generalize bs (num (1 : Int).toNat) = S1 at *
  generalize bs (num c.st.toNat) = S2 at *
  generalize bs (num c.f.toNat) = S3 at *
  generalize bs (num c.s.toNat) = S4 at *
  generalize bs (num c.n.toNat) = S5 at *
  generalize bs (text (bs (numsI (gapsT m)))) = S6 at *
  generalize bs (numsI (gapsT x)) = S7 at *
  generalize bs (numsI (gapsT m)) = SM at *
  generalize gapsT m = GM at *
  generalize gapsT x = GX at *
  have Hcd := hide h
  have k1 := h.c1
  have k2 := h.c2
  have e1 := nosum (a := S1.size) (b := S2.size) (by omega)
  have e2 := nosum (a := S1.size + S2.size) (b := S3.size) (by omega)
  have e3 := nosum (a := S1.size + S2.size + S3.size) (b := S4.size) (by omega)
  have e4 := nosum (a := S1.size + S2.size + S3.size + S4.size) (b := S5.size) (by omega)
  have e5 := nosum (a := S1.size + S2.size + S3.size + S4.size + S5.size) (b := S6.size) (by omega)
  have e6 := nosum (a := S1.size + S2.size + S3.size + S4.size + S5.size + S6.size) (b := S7.size) (by omega)
  clear v1 v2 v3 hvc hex hmv hfv hcod m2 m3 x2 x3 hzm hzx d1 d2 d3 d4 d5 d6 d7 d8 z9 h hn hv h2
  obtain ⟨st, f, s, cn⟩ := c
  unfold CV at Hde Hex
  simp only at Hde Hex N2 N3 N4 N5
  go_enter Tryz.func85, Tryz.ntmps85
  go_wp2_with fail
  refine (Hde.out).mono ?_
  rintro q w1 ⟨rfl, hb1⟩
  have hcd1 := Hcd.out.below hb1
  have hba := hb1.alloc hb1.size (.cells #[.int .i64 st, .int .i64 f, .int .i64 s, .int .i64 cn] 24)
  have hcd2 := hcd1.below ((Below.refl _ _).alloc (Nat.le_refl _) (.cells #[.int .i64 st, .int .i64 f, .int .i64 s, .int .i64 cn] 24))
  have hkc := Bk.new w1 24 #[.int .i64 st, .int .i64 f, .int .i64 s, .int .i64 cn]
  have Hcd2 := hide hcd2
  have Hba := hide hba
  have Hkc := hide hkc
  clear hb1 hcd1 hba hcd2 hkc k1 k2 Hcd Hde
  go_upto_region 2 with fail
  obtain ⟨R, hR⟩ : ∃ R, w1.heap.size = R := ⟨_, rfl⟩
  obtain ⟨W2, hW2⟩ : ∃ W, w1.alloc (.cells #[.int .i64 st, .int .i64 f, .int .i64 s, .int .i64 cn] 24) = W := ⟨_, rfl⟩
  rw [hR] at Hkc ⊢
  rw [hW2] at Hcd2 Hba Hkc ⊢
  clear hR hW2
  have k1 := Hcd2.out.c1
  have k2 := Hcd2.out.c2
  have c0 := Hkc.out.cell 0
  have c1 := Hkc.out.cell 1
  have c2 := Hkc.out.cell 2
  have c3 := Hkc.out.cell 3
  simp at c0 c1 c2 c3
  go_wp2_with fail
  refine (Hex.out _ Hcd2.out).mono ?_
  rintro q w3 ⟨v1, v2, rfl, hr1, hr2, hb3⟩
  obtain ⟨A4, cap4, hv1, hat4⟩ := ires_open hr1
  obtain ⟨A5, cap5, hv2, hat5⟩ := ires_open hr2
  subst hv1; subst hv2
  have hkc3 := Hkc.out.below hb3 Hkc.out.lt
  have hcd3 := Hcd2.out.below hb3
  have H1 : C1S w R r st f s cn A4 m A5 x w3.drew := ⟨hkc3.cell 0, hkc3.cell 1, hkc3.cell 2, hkc3.cell 3, hcd3.c2, hat4, hat5, (Hba.out.trans (hb3.mono Hba.out.size)).drew⟩
  clear k1 k2 c0 c1 c2 c3 hr1 hr2 hb3 hat4 hat5 hkc3 hcd3 Hcd2 Hba Hkc Hex
  have H2 := H1
  unfold C1S at H2
  clear H1
  have Keep := hide (fun W W' (h1 : C1S w R r st f s cn A4 m A5 x W) (h2 : Below W.heap.size W W') => h1.below h2)
  unfold C1S at Keep
  have K1 : Hid (∀ W, (W.cell? ⟨R, 0, none⟩ = some (.int .i64 st) ∧ W.cell? ⟨R, 1, none⟩ = some (.int .i64 f) ∧ W.cell? ⟨R, 2, none⟩ = some (.int .i64 s) ∧ W.cell? ⟨R, 3, none⟩ = some (.int .i64 cn) ∧ W.cell? ⟨r + 1, 0, none⟩ = some (.func (.func 80) #[] #[]) ∧ At W A4 (ivs m) ∧ At W A5 (ivs x) ∧ Below w.heap.size w W) → Calls Tryz.prog 84 #[.slice A4 m.length cap4] W fun x w' => ∃ v, x = .returned v ∧ IRes w' v GM ∧ Below W.heap.size W w') := hide (fun W hW => G1.out W A4 cap4 hW.2.2.2.2.2.1)
  have K2 : Hid (∀ W, (W.cell? ⟨R, 0, none⟩ = some (.int .i64 st) ∧ W.cell? ⟨R, 1, none⟩ = some (.int .i64 f) ∧ W.cell? ⟨R, 2, none⟩ = some (.int .i64 s) ∧ W.cell? ⟨R, 3, none⟩ = some (.int .i64 cn) ∧ W.cell? ⟨r + 1, 0, none⟩ = some (.func (.func 80) #[] #[]) ∧ At W A4 (ivs m) ∧ At W A5 (ivs x) ∧ Below w.heap.size w W) → Calls Tryz.prog 84 #[.slice A5 x.length cap5] W fun x w' => ∃ v, x = .returned v ∧ IRes w' v GX ∧ Below W.heap.size W w') := hide (fun W hW => G2.out W A5 cap5 hW.2.2.2.2.2.2.1)
  clear G1 G2
  go_wp2
  go_region_held3 (fun W => W.cell? ⟨R, 0, none⟩ = some (.int .i64 st) ∧ W.cell? ⟨R, 1, none⟩ = some (.int .i64 f) ∧ W.cell? ⟨R, 2, none⟩ = some (.int .i64 s) ∧ W.cell? ⟨R, 3, none⟩ = some (.int .i64 cn) ∧ W.cell? ⟨r + 1, 0, none⟩ = some (.func (.func 80) #[] #[]) ∧ At W A4 (ivs m) ∧ At W A5 (ivs x) ∧ Below w.heap.size w W) (first | exact H2 | assumption | exact Keep.out _ _ (by assumption) (by assumption))
    (first
      | (go_at_call 83; (first | with_reducible refine (N1.out _).mono ?_ | with_reducible refine (N2.out _).mono ?_ | with_reducible refine (N3.out _).mono ?_ | with_reducible refine (N4.out _).mono ?_ | with_reducible refine (N5.out _).mono ?_); rintro q wn ⟨rfl, hbn⟩)
      | (go_at_call 84; (first | with_reducible refine (K1.out _ (by assumption)).mono ?_ | with_reducible refine (K2.out _ (by assumption)).mono ?_); rintro q wg ⟨vg, rfl, hvg, hbg⟩; obtain ⟨Ag, capg, hvg2, hatg⟩ := ires_open hvg; subst hvg2)
      | (go_at_call 80; (first | with_reducible refine (U1.out _ _ _ hatg).mono ?_ | with_reducible refine (U2.out _ _ _ hatg).mono ?_); rintro q wu ⟨rfl, hbu⟩)
      | (go_at_call 86; with_reducible refine (T1.out _).mono ?_; rintro q wt ⟨rfl, hbt⟩))
  all_goals
    go_wp2
    go_ret
    exact ⟨rfl, C1S.bel (w := w) (R := R) (r := r) (st := st) (f := f) (s := s) (n := cn) (A4 := A4) (m := m) (A5 := A5) (x := x) (by assumption)⟩
end Go.Proofs.YtgllednilkfpgaaGreat
/-
  The walks over times: the bytes of times, in a coding and in the shortest.
-/
namespace Go.Proofs.YtgllednilkfpgaaGreat
open Go.RowKit Go.Proofs Wv Wv.Vi Wv.Rc Wv.Mo Wv.Ru Wv.Tm
set_option linter.unusedVariables false

theorem neq_dec (a b : Int) (h : a ≠ b) : (a == b) = false := by rw [beq_eq_false_iff_ne]; exact h
set_option maxRecDepth 100000 in
set_option maxHeartbeats 2000000 in
theorem tencas_any {w : World} {A : Option Addr} {l : List Int} (c : Int) (ha : At w A (ivs l)) (n cap : Nat) (hn : n = l.length) (hn4 : n ≤ 9223372036854775807) :
    Calls Tryz.prog 26 #[.int .i64 c, .slice A n cap] w fun x w' => ERes w (encAsT c l) x w' := by
  have Hval := hide (tvalid_any ha n cap hn hn4)
  have he : encAsT c l = if c < 0 ∨ 2 < c ∨ (c = 1 ∧ l.length < 2) then ([], 1) else if validT l = true then (codT c.toNat l, 0) else ([], 2) := rfl
  by_cases hc : c < 0 ∨ 2 < c ∨ (c = 1 ∧ l.length < 2)
  · rw [if_pos hc] at he
    rw [he]
    clear Hval he
    rcases hc with h | h | ⟨h, h2⟩
    · clear ha hn
      go_enter Tryz.func26, Tryz.ntmps26
      go_wp2
      go_ret2
      exact eres_err 1 (Below.refl _ _)
    · have h0 : ¬ c < 0 := by omega
      clear ha hn
      go_enter Tryz.func26, Tryz.ntmps26
      go_wp2
      go_ret2
      exact eres_err 1 (Below.refl _ _)
    · subst h
      have hn2 : (n : Int) < 2 := by omega
      clear ha hn
      go_enter Tryz.func26, Tryz.ntmps26
      go_wp2
      go_ret2
      exact eres_err 1 (Below.refl _ _)
  · rw [if_neg hc] at he
    have h0 : ¬ c < 0 := by omega
    have h2 : ¬ 2 < c := by omega
    cases hv : validT l with
    | false =>
      rw [hv, if_neg (by simp)] at he
      rw [he]
      rw [hv] at Hval
      by_cases h1 : c = 1
      · have hn2 : ¬ (n : Int) < 2 := by omega
        subst h1
        clear ha hn hc hv he
        go_enter Tryz.func26, Tryz.ntmps26
        go_wp2_with fail
        refine (Hval.out).mono ?_
        rintro x w1 ⟨rfl, rfl⟩
        go_wp2
        go_ret2
        exact eres_err 2 (Below.refl _ _)
      · have h1b := neq_dec c 1 h1
        clear ha hn hc hv he h1
        go_enter Tryz.func26, Tryz.ntmps26
        go_wp2_with fail
        refine (Hval.out).mono ?_
        rintro x w1 ⟨rfl, rfl⟩
        go_wp2
        go_ret2
        exact eres_err 2 (Below.refl _ _)
    | true =>
      rw [hv, if_pos rfl] at he
      rw [he]
      rw [hv] at Hval
      have Hco := hide (tcodings_any ha n cap)
      have hc3 : c = 0 ∨ c = 1 ∨ c = 2 := by omega
      have Hnn := hide hn
      rcases hc3 with rfl | rfl | rfl
      · have hcd : codT (0 : Int).toNat l = cod0 l := rfl
        rw [hcd]
        have Hc0 := hide (fun W r (h : CdSt W r A n cap l) => tcod0_any h hn hv)
        clear ha hn hc hv he h0 h2 hcd
        generalize cod0 l = C at *
        go_enter Tryz.func26, Tryz.ntmps26
        go_wp2_with fail
        refine (Hval.out).mono ?_
        rintro x w1 ⟨rfl, rfl⟩
        go_wp2_with fail
        refine (Hco.out).mono ?_
        rintro x w1 ⟨rfl, k0, k1, k2, hcd, hb⟩
        unfold fC0 at k0
        unfold fC1 at k1
        unfold fC2 at k2
        have Hc := hide (Hc0.out _ _ hcd)
        have Hb := hide hb
        clear hcd hb Hc0 Hco
        go_wp2_with fail
        refine (Hc.out).mono ?_
        rintro x w2 ⟨rfl, hb2⟩
        go_wp2
        go_ret2
        exact ⟨rfl, Hb.out.trans (hb2.mono Hb.out.size)⟩
      · have hl2 : 2 ≤ l.length := by omega
        have hn2 : ¬ (n : Int) < 2 := by omega
        have hcd : codT (1 : Int).toNat l = cod1 l := rfl
        rw [hcd]
        have Hc0 := hide (fun W r (h : CdSt W r A n cap l) => tcod1_any h hn hv hl2)
        clear ha hn hc hv he h0 h2 hcd hl2
        generalize cod1 l = C at *
        go_enter Tryz.func26, Tryz.ntmps26
        go_wp2_with fail
        refine (Hval.out).mono ?_
        rintro x w1 ⟨rfl, rfl⟩
        go_wp2_with fail
        refine (Hco.out).mono ?_
        rintro x w1 ⟨rfl, k0, k1, k2, hcd, hb⟩
        unfold fC0 at k0
        unfold fC1 at k1
        unfold fC2 at k2
        have Hc := hide (Hc0.out _ _ hcd)
        have Hb := hide hb
        clear hcd hb Hc0 Hco
        go_wp2_with fail
        refine (Hc.out).mono ?_
        rintro x w2 ⟨rfl, hb2⟩
        go_wp2
        go_ret2
        exact ⟨rfl, Hb.out.trans (hb2.mono Hb.out.size)⟩
      · have hcd : codT (2 : Int).toNat l = cod2 l := rfl
        rw [hcd]
        have Hc0 := hide (fun W r (h : CdSt W r A n cap l) => tcod2_any h hn hv)
        clear ha hn hc hv he h0 h2 hcd
        generalize cod2 l = C at *
        go_enter Tryz.func26, Tryz.ntmps26
        go_wp2_with fail
        refine (Hval.out).mono ?_
        rintro x w1 ⟨rfl, rfl⟩
        go_wp2_with fail
        refine (Hco.out).mono ?_
        rintro x w1 ⟨rfl, k0, k1, k2, hcd, hb⟩
        unfold fC0 at k0
        unfold fC1 at k1
        unfold fC2 at k2
        have Hc := hide (Hc0.out _ _ hcd)
        have Hb := hide hb
        clear hcd hb Hc0 Hco
        go_wp2_with fail
        refine (Hc.out).mono ?_
        rintro x w2 ⟨rfl, hb2⟩
        go_wp2
        go_ret2
        exact ⟨rfl, Hb.out.trans (hb2.mono Hb.out.size)⟩
end Go.Proofs.YtgllednilkfpgaaGreat
/-
  The walks over times: the shortest bytes of times.
-/
namespace Go.Proofs.YtgllednilkfpgaaGreat
open Go.RowKit Go.Proofs Wv Wv.Vi Wv.Rc Wv.Mo Wv.Ru Wv.Tm
set_option linter.unusedVariables false

/-- The best of the codings so far. -/
def outT (l : List Int) (i : Nat) : List UInt8 :=
  if i = 0 then [] else if i = 1 then cod0 l else if i = 2 then (if l.length < 2 then cod0 l else mnT (cod0 l) (cod1 l)) else (if l.length < 2 then mnT (cod0 l) (cod2 l) else mnT (mnT (cod0 l) (cod1 l)) (cod2 l))
/-- What the choice looks at. -/
def EnS (w : World) (A : Option Addr) (n cap : Nat) (l : List Int) (W : World) : Prop :=
  W.cell? ⟨w.heap.size + 1 + 1, 0, none⟩ = some (fC0 w.heap.size) ∧ W.cell? ⟨w.heap.size + 1 + 1, 1, none⟩ = some (fC1 w.heap.size) ∧ W.cell? ⟨w.heap.size + 1 + 1, 2, none⟩ = some (fC2 w.heap.size) ∧ CdSt W w.heap.size A n cap l ∧ Below w.heap.size w W
theorem EnS.below {w W W' : World} {A : Option Addr} {n cap : Nat} {l : List Int} (h : EnS w A n cap l W) (hb : Below W.heap.size W W') : EnS w A n cap l W' := by
  obtain ⟨h1, h2, h3, h4, h5⟩ := h
  have k : ∀ {p : Addr} {v : Value}, W.cell? p = some v → W'.cell? p = some v := fun {p v} h => (hb.cell (World.block_lt_of_cell? W p h)).trans h
  exact ⟨k h1, k h2, k h3, h4.below hb, h5.trans (hb.mono h5.size)⟩
set_option maxRecDepth 100000 in
set_option maxHeartbeats 2000000 in
theorem tencode_any {w : World} {A : Option Addr} {l : List Int} (ha : At w A (ivs l)) (n cap : Nat) (hn : n = l.length) (hn4 : n ≤ 9223372036854775807) :
    Calls Tryz.prog 25 #[.slice A n cap] w fun x w' => ERes w (encT l) x w' := by
  have Hval := hide (tvalid_any ha n cap hn hn4)
  have he : encT l = if validT l = true then (if l.length < 2 then mnT (cod0 l) (cod2 l) else mnT (mnT (cod0 l) (cod1 l)) (cod2 l), 0) else ([], 2) := rfl
  cases hv : validT l with
  | false =>
    rw [hv, if_neg (by simp)] at he
    rw [he]
    rw [hv] at Hval
    clear ha hn hv he
    go_enter Tryz.func25, Tryz.ntmps25
    go_wp2_with fail
    refine (Hval.out).mono ?_
    rintro x w1 ⟨rfl, rfl⟩
    go_wp2
    go_ret2
    exact eres_err 2 (Below.refl _ _)
  | true =>
    rw [hv, if_pos rfl] at he
    have he3 : encT l = (outT l 3, 0) := he
    rw [he3]
    rw [hv] at Hval
    have Hco := hide (tcodings_any ha n cap)
    have Hc0 := hide (fun W r (h : CdSt W r A n cap l) => tcod0_any h hn hv)
    have Hc2 := hide (fun W r (h : CdSt W r A n cap l) => tcod2_any h hn hv)
    have Hc1 := hide (fun (h2 : 2 ≤ l.length) W r (h : CdSt W r A n cap l) => tcod1_any h hn hv h2)
    have o1 : outT l 1 = cod0 l := rfl
    have o2 : outT l 2 = if l.length < 2 then outT l 1 else mnT (outT l 1) (cod1 l) := rfl
    have o3 : outT l 3 = mnT (outT l 2) (cod2 l) := by
      have e3 : outT l 3 = if l.length < 2 then mnT (cod0 l) (cod2 l) else mnT (mnT (cod0 l) (cod1 l)) (cod2 l) := rfl
      have e2 : outT l 2 = if l.length < 2 then cod0 l else mnT (cod0 l) (cod1 l) := rfl
      rw [e3, e2]
      split <;> rfl
    have o0 : bs (outT l 0) = (⟨#[]⟩ : ByteArray) := rfl
    rw [← hn] at o2 Hc1
    obtain ⟨ot, hot⟩ : ∃ o, outT l = o := ⟨_, rfl⟩
    rw [hot] at o0 o1 o2 o3 ⊢
    rw [← o1] at Hc0
    have Ho0 := hide o0
    have Ho2 := hide o2
    have Ho3 := hide o3
    clear ha hn hv he he3 o0 o1 o2 o3 hot
    generalize cod1 l = C1 at *
    generalize cod2 l = C2 at *
    go_enter Tryz.func25, Tryz.ntmps25
    go_wp2_with fail
    refine (Hval.out).mono ?_
    rintro x w1 ⟨rfl, rfl⟩
    go_wp2_with fail
    refine (Hco.out).mono ?_
    rintro x w1 ⟨rfl, k0, k1, k2, hcd, hb⟩
    have Hst := hide (show EnS w A n cap l w1 from ⟨k0, k1, k2, hcd, hb⟩)
    clear k0 k1 k2 hcd hb Hco Hval
    go_wp2
    go_loopw [4, 14] (fun s4 s14 wr => ∃ i : Nat, i ≤ 3 ∧ s14 = .int .i64 (i : Int) ∧ s4 = .string (bs (ot i)) ∧ Hid (EnS w A n cap l wr)) (fun _ s14 _ => (3 - intOf s14).toNat)
    case atStart => exact ⟨0, by omega, rfl, by rw [Ho0.out], Hst⟩
    case round =>
      obtain ⟨i, hi, rfl, rfl, hst⟩ := hrel
      obtain ⟨k0, k1, k2, hcd, hbw⟩ := hst.out
      unfold fC0 at k0
      unfold fC1 at k1
      unfold fC2 at k2
      have hi4 : i = 0 ∨ i = 1 ∨ i = 2 ∨ i = 3 := by omega
      rcases hi4 with rfl | rfl | rfl | rfl
      · have Hc := hide (Hc0.out _ _ hcd)
        clear k1 k2 hcd hbw Hst Hc1 Hc2
        go_wp2_with fail
        refine (Hc.out).mono ?_
        rintro x w2 ⟨rfl, hb2⟩
        have Hst2 := hide (hst.out.below hb2)
        clear hb2 hst
        go_wp2
        refine ⟨⟨1, by omega, rfl, rfl, Hst2⟩, ?_⟩
        simp [intOf]
      · by_cases hn2 : n < 2
        · have hn2i : (n : Int) < 2 := by omega
          have ho := Ho2.out
          rw [if_pos hn2] at ho
          have Ho := hide ho
          clear k0 k2 hcd hbw Hst Hc1 Hc2 ho
          go_wp2
          refine ⟨⟨2, by omega, rfl, by rw [Ho.out], hst⟩, ?_⟩
          simp [intOf]
        · have hn2i : ¬ (n : Int) < 2 := by omega
          have ho := Ho2.out
          rw [if_neg hn2] at ho
          have Hc := hide (Hc1.out (by omega) _ _ hcd)
          have hz1 : (bs C1).size = C1.length := bs_size _
          have hz2 : (bs (ot 1)).size = (ot 1).length := bs_size _
          by_cases hs : C1.length < (ot 1).length
          · have ho2 : bs C1 = bs (ot 2) := by rw [ho]; unfold mnT; rw [if_pos hs]
            have Ho := hide ho2
            have hsi : (C1.length : Int) < ((ot 1).length : Int) := by omega
            clear k0 k2 hcd hbw Hst Hc2 Hc1 Hc0 Ho2 Ho3 ho ho2 hs
            generalize bs C1 = SC at *
            generalize bs (ot 1) = S1 at *
            generalize C1.length = c1 at *
            generalize (ot 1).length = t1 at *
            go_wp2_with fail
            refine (Hc.out).mono ?_
            rintro x w2 ⟨rfl, hb2⟩
            have Hst2 := hide (hst.out.below hb2)
            clear hb2 hst
            go_wp2
            refine ⟨⟨2, by omega, rfl, by rw [Ho.out], Hst2⟩, ?_⟩
            simp [intOf]
          · have ho2 : bs (ot 1) = bs (ot 2) := by rw [ho]; unfold mnT; rw [if_neg hs]
            have Ho := hide ho2
            have hsi : ¬ (C1.length : Int) < ((ot 1).length : Int) := by omega
            clear k0 k2 hcd hbw Hst Hc2 Hc1 Hc0 Ho2 Ho3 ho ho2 hs
            generalize bs C1 = SC at *
            generalize bs (ot 1) = S1 at *
            generalize C1.length = c1 at *
            generalize (ot 1).length = t1 at *
            go_wp2_with fail
            refine (Hc.out).mono ?_
            rintro x w2 ⟨rfl, hb2⟩
            have Hst2 := hide (hst.out.below hb2)
            clear hb2 hst
            go_wp2
            refine ⟨⟨2, by omega, rfl, by rw [Ho.out], Hst2⟩, ?_⟩
            simp [intOf]
      · have ho := Ho3.out
        have Hc := hide (Hc2.out _ _ hcd)
        have hz1 : (bs C2).size = C2.length := bs_size _
        have hz2 : (bs (ot 2)).size = (ot 2).length := bs_size _
        by_cases hs : C2.length < (ot 2).length
        · have ho2 : bs C2 = bs (ot 3) := by rw [ho]; unfold mnT; rw [if_pos hs]
          have Ho := hide ho2
          have hsi : (C2.length : Int) < ((ot 2).length : Int) := by omega
          clear k0 k1 hcd hbw Hst Hc2 Hc1 Hc0 Ho2 Ho3 ho ho2 hs
          generalize bs C2 = SC at *
          generalize bs (ot 2) = S1 at *
          generalize C2.length = c1 at *
          generalize (ot 2).length = t1 at *
          go_wp2_with fail
          refine (Hc.out).mono ?_
          rintro x w2 ⟨rfl, hb2⟩
          have Hst2 := hide (hst.out.below hb2)
          clear hb2 hst
          go_wp2
          refine ⟨⟨3, by omega, rfl, by rw [Ho.out], Hst2⟩, ?_⟩
          simp [intOf]
        · have ho2 : bs (ot 2) = bs (ot 3) := by rw [ho]; unfold mnT; rw [if_neg hs]
          have Ho := hide ho2
          have hsi : ¬ (C2.length : Int) < ((ot 2).length : Int) := by omega
          clear k0 k1 hcd hbw Hst Hc2 Hc1 Hc0 Ho2 Ho3 ho ho2 hs
          generalize bs C2 = SC at *
          generalize bs (ot 2) = S1 at *
          generalize C2.length = c1 at *
          generalize (ot 2).length = t1 at *
          go_wp2_with fail
          refine (Hc.out).mono ?_
          rintro x w2 ⟨rfl, hb2⟩
          have Hst2 := hide (hst.out.below hb2)
          clear hb2 hst
          go_wp2
          refine ⟨⟨3, by omega, rfl, by rw [Ho.out], Hst2⟩, ?_⟩
          simp [intOf]
      · have Hb := hide hbw
        clear k0 k1 k2 hcd hbw Hst Hc2 Hc1 Hc0 Ho2 Ho3
        go_wp2
        go_ret2
        exact ⟨rfl, Hb.out⟩
end Go.Proofs.YtgllednilkfpgaaGreat
/-
  The walks over times: sorting.
-/
namespace Go.Proofs.YtgllednilkfpgaaGreat
open Go.RowKit Go.Proofs Wv Wv.Vi Wv.Rc Wv.Mo Wv.Ru Wv.Tm
set_option linter.unusedVariables false
theorem srt_length (l : List Int) : (srt l).length = l.length := (srt_perm l).length_eq
theorem tsort_any {w wb : World} {B n : Nat} {v : Value} {l : List Int} (h : w.ownsRow B 3 1 v n (ivs l)) (hn : n = l.length) (hl : l.length ≤ 100000) (hb : Below B wb w) :
    Calls Tryz.prog 30 #[v] w fun x w' => x = .returned (.tuple #[]) ∧ IRes w' v (srt l) ∧ Below B wb w' := by
  rcases h.2 with ⟨hv, h0⟩ | ⟨g, cap, cur, hv, hBg, hg, hnc, hcm, hsz, htk⟩
  · subst hv
    have hl0 : l = [] := List.eq_nil_of_length_eq_zero (by omega)
    subst hl0
    refine (Tryz.slices_Sort_int_none none 0 w).mono fun x w' ⟨h1, h2⟩ => ?_
    subst h2
    have hs : srt [] = [] := List.eq_nil_of_length_eq_zero (by rw [srt_length]; rfl)
    rw [hs]
    exact ⟨h1, IRes.nil _, hb⟩
  · subst hv
    subst hn
    have ht : cur.toList.take l.length = l.map (Value.int .i64) := by
      rw [Nat.mul_one] at htk
      exact htk
    refine (Tryz.slices_Sort_int g 0 cap l w (holds_of_blockI hg ht) (Array.getElem?_eq_some_iff.1 hg).1 (by omega)).mono fun x w' ⟨h1, k, os, h2⟩ => ?_
    subst h2
    have hs : (l.mergeSort fun x y => decide (x ≤ y)) = srt l := rfl
    rw [hs]
    have ho := ownsRow_sortedI (n := k) (os := os) (ts := srt l) (srt_length l) hBg hg hnc hcm hsz
    refine ⟨h1, ?_, hb.grown (grownBy_sortedI _) (by have := (Array.getElem?_eq_some_iff.1 hg).1; omega) (fun j hj => by injection hj with hj; omega)⟩
    obtain ⟨A, cap', hv', hat⟩ := own_at ho
    exact ⟨A, cap', by rw [srt_length]; exact hv', hat⟩
end Go.Proofs.YtgllednilkfpgaaGreat
