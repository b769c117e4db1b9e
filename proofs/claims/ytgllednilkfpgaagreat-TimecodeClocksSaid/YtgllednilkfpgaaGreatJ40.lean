/-
  Joined texts: Nl, Nm.
-/
import Derived.Test.YtgllednilkfpgaaGreatJ39
import Derived.Test.YtgllednilkfpgaaGreatJ35
import Derived.Test.YtgllednilkfpgaaGreatJ22
import Derived.Test.YtgllednilkfpgaaGreatJ38
set_option linter.unusedVariables false
set_option linter.unusedSimpArgs false
/-
  The walks over the reference of times: the times with some bytes.
-/
namespace Go.Proofs.YtgllednilkfpgaaGreat
open Go.RowKit Go.Proofs Wv Wv.Vi Wv.Rc Wv.Mo Wv.Ru Wv.Tm
set_option linter.unusedVariables false

/-- The numbers of texts, without a limit. -/
def numsN : List ByteArray → Option (List Int)
  | [] => some []
  | s :: r => match rd (toL s) with
    | some (n, z) => if z = s.size then (numsN r).map ((n : Int) :: ·) else none
    | none => none
theorem numsN_cons (s : ByteArray) (r : List ByteArray) : numsN (s :: r) = match rd (toL s) with
    | some (n, z) => if z = s.size then (numsN r).map ((n : Int) :: ·) else none
    | none => none := rfl
theorem numsN_len {L : List ByteArray} : ∀ {G : List Int}, numsN L = some G → G.length = L.length ∧ ∀ g ∈ G, 0 ≤ g := by
  induction L with
  | nil => intro G h; injection h with h; subst h; exact ⟨rfl, fun g hg => by cases hg⟩
  | cons s r ih =>
    intro G h
    rw [numsN_cons] at h
    match hr : rd (toL s), h with
    | none, h => cases h
    | some (n, z), h =>
      simp only at h
      split at h
      · match hq : numsN r, h with
        | none, h => cases h
        | some G', h =>
          injection h with h
          subst h
          obtain ⟨i1, i2⟩ := ih hq
          refine ⟨by simp [i1], fun g hg => ?_⟩
          rcases List.mem_cons.1 hg with rfl | hg
          · exact Int.natCast_nonneg n
          · exact i2 g hg
      · cases h
theorem jn_bad {G : List Int} : ∀ {last : Int} {g : Int}, g ∈ G → 1099511627776 < g → jn last G = none := by
  induction G with
  | nil => intro _ _ h _; cases h
  | cons a r ih =>
    intro last g hg hb
    show (if _ then none else _) = none
    rcases List.mem_cons.1 hg with rfl | hg
    · rw [if_pos (by omega)]
    · split
      · rfl
      · rw [ih hg hb]; rfl
/-- Without the limit no other list gives times. -/
theorem numsN_T (L : List ByteArray) : (numsT L = numsN L) ∨ (numsT L = none ∧ ∀ G, numsN L = some G → ∀ last, jn last G = none) := by
  induction L with
  | nil => exact .inl rfl
  | cons s r ih =>
    rw [numsT_cons, numsN_cons]
    unfold rnum
    match hr : rd (toL s) with
    | none => exact .inl rfl
    | some (n, z) =>
      simp only
      obtain ⟨_, _, hz, _⟩ := rd_le hr
      rw [toL_length] at hz
      by_cases hn : 1099511627776 < n
      · rw [if_pos hn]
        refine .inr ⟨rfl, fun G hG last => ?_⟩
        split at hG
        · match hq : numsN r, hG with
          | none, hG => cases hG
          | some G', hG =>
            injection hG with hG
            subst hG
            exact jn_bad List.mem_cons_self (by omega)
        · cases hG
      · rw [if_neg hn]
        by_cases hzs : z = s.size
        · rw [if_pos hzs]
          have hd : (toL s).drop z = [] := List.drop_eq_nil_of_le (by rw [toL_length]; omega)
          rw [hd]
          simp only
          rcases ih with h | ⟨h1, h2⟩
          · rw [h]; exact .inl rfl
          · rw [h1]
            refine .inr ⟨rfl, fun G hG last => ?_⟩
            match hq : numsN r, hG with
            | none, hG => cases hG
            | some G', hG =>
              injection hG with hG
              subst hG
              show (if _ then none else _) = none
              split
              · rfl
              · rw [h2 G' hq]; rfl
        · rw [if_neg hzs]
          have hd : ∃ c t, (toL s).drop z = c :: t := by
            cases h : (toL s).drop z with
            | nil => have := List.drop_eq_nil_iff.1 h; rw [toL_length] at this; omega
            | cons c t => exact ⟨c, t, rfl⟩
          obtain ⟨c, t, hd⟩ := hd
          rw [hd]
          exact .inl rfl
theorem jnL_jn {X : List Int} (h : X.length ≤ 4096) : jnL X = jn (-1) X := by
  unfold jnL
  cases hj : jn (-1) X with
  | none => rfl
  | some l => simp only; rw [if_pos (by rw [(jn_tv (by omega) hj).2.2]; exact h)]
theorem numsN_jn {L : List ByteArray} (h : L.length ≤ 4096) : (match numsT L with | none => none | some g => jnL g) = (match numsN L with | none => none | some g => jn (-1) g) := by
  rcases numsN_T L with h1 | ⟨h1, h2⟩
  · rw [h1]
    match hq : numsN L with
    | none => rfl
    | some g => simp only; exact jnL_jn (by rw [(numsN_len hq).1]; exact h)
  · rw [h1]
    match hq : numsN L with
    | none => rfl
    | some g => simp only; rw [h2 g hq]
set_option maxRecDepth 100000 in
set_option maxHeartbeats 4000000 in
theorem nread_any (data : ByteArray) (hd : data.size ≤ 1000000000) (w : World) :
    Calls Tryz.prog 21 #[.string data] w fun x w' => JRes w (readT (toL data)) x w' := by
  have H1 := rread_any (s := data) (by omega) w
  match hrd : rd (toL data) with
  | none =>
    have hr : readT (toL data) = none := by unfold readT rnum; rw [hrd]
    rw [hr]
    rw [rk_none hrd] at H1
    have H1' := hide H1
    clear hrd hr H1
    go_enter Tryz.func21, Tryz.ntmps21
    go_wp2_with fail
    refine (H1'.out).mono ?_
    rintro x w1 ⟨rfl, hb1⟩
    go_wp2
    go_ret2
    exact jres_none rfl hb1
  | some (c, z) =>
    obtain ⟨hc63, hz1, hzl, hz9⟩ := rd_le hrd
    rw [toL_length] at hzl
    rw [rk_some hrd] at H1
    have hrl : ((toL data).drop z).length ≤ 1000000000 := by rw [List.length_drop, toL_length]; omega
    have hex := ext_drop data z
    have hrd2 : readT (toL data) = if 2 < c then none else if c = 0 then (if (decn ((toL data).drop z) 4096).2 ≠ 0 then none else jnL (decn ((toL data).drop z) 4096).1) else if c = 1 then readC ((toL data).drop z) else if (dec ((toL data).drop z) 4096).2 ≠ 0 then none else match numsT (dec ((toL data).drop z) 4096).1 with | none => none | some g => jnL g := by
      unfold readT rnum
      rw [hrd]
      simp only
      by_cases h : 2 < c
      · rw [if_pos h, if_pos h]
      · rw [if_neg h, if_neg h]
        all_goals rfl
    obtain ⟨r, hr⟩ : ∃ r, (toL data).drop z = r := ⟨_, rfl⟩
    rw [hr] at hrd2 hex hrl
    have hz0 : ((z : Int) == 0) = false := by rw [beq_eq_false_iff_ne]; omega
    have Hrd := hide hrd2
    have H1' := hide H1
    have hzi : (z : Int) ≤ (data.size : Int) := by omega
    have hzi0 : (0 : Int) ≤ (z : Int) := by omega
    clear hrd hr hrd2 H1 hc63 hz9
    rcases (show c = 0 ∨ c = 1 ∨ c = 2 ∨ 2 < c by omega) with rfl | rfl | rfl | hc
    · have hrd2 := Hrd.out
      rw [if_neg (by decide), if_pos rfl] at hrd2
      rw [hrd2]
      have Hx := hide (fun W => fdecn_any r (by omega) 4096 W)
      obtain ⟨hpos, hxl⟩ := decn_good r 4096
      obtain ⟨⟨X, eX⟩, hX⟩ : ∃ r', decn r 4096 = r' := ⟨_, rfl⟩
      rw [hX] at Hx hxl hpos ⊢
      simp only at hxl hpos ⊢
      have hj := jnL_jn hxl
      have Hpos := hide hpos
      have Hxl := hide hxl
      obtain ⟨R, hR⟩ : ∃ R, (if eX ≠ 0 then none else jnL X) = R := ⟨_, rfl⟩
      rw [hR]
      rw [hj] at hR
      have HR := hide hR
      clear hrd2 Hrd hX hxl hR hj hpos
      go_enter Tryz.func21, Tryz.ntmps21
      go_wp2_with fail
      refine (H1'.out).mono ?_
      rintro x w1 ⟨rfl, hb1⟩
      have Hb1 := hide (hb1.alloc hb1.size (.cells #[] 3))
      clear hb1
      go_wp2_with fail
      refine (Hx.out _).mono ?_
      rintro x w4 hl4
      obtain ⟨Ax, cx, rfl, hax, hb4⟩ := lres_open hl4
      have Hb4 := hide (Hb1.out.trans (hb4.mono Hb1.out.size))
      have Hax := hide (show At w4 Ax (ivs X) from hax)
      clear hl4 hax hb4 Hb1 Hx
      simp only
      by_cases he : eX = 0
      · subst he
        have hr0 := HR.out
        rw [if_neg (by simp)] at hr0
        have hxl := Hxl.out
        have HJ := hide (nsums_any Hax.out X.length cx rfl (by omega) Hpos.out)
        rw [hr0] at HJ
        clear hxl hr0
        go_wp2_with fail
        refine (HJ.out).mono ?_
        rintro x w5 ⟨vm, okm, rfl, hokm, hm, hb5⟩
        have Hokm := hide hokm
        have Hm := hide hm
        clear hokm hm
        go_wp2
        go_ret2
        exact ⟨_, _, rfl, Hokm.out, Hm.out, Hb4.out.trans (hb5.mono Hb4.out.size)⟩
      · have Hr0 : Hid (R = none) := hide (by rw [← HR.out, if_pos he])
        have hne : ((eX : Int) != 0) = true := by rw [bne_iff_ne]; omega
        clear he HR
        go_wp2
        go_ret2
        exact jres_none Hr0.out Hb4.out
    · have hrd2 := Hrd.out
      rw [if_neg (by decide), if_neg (by decide), if_pos rfl] at hrd2
      rw [hrd2]
      have Hx := hide (fun W => nclocked_any r hrl W)
      clear hrd2 Hrd
      go_enter Tryz.func21, Tryz.ntmps21
      go_wp2_with fail
      refine (H1'.out).mono ?_
      rintro x w1 ⟨rfl, hb1⟩
      have Hb1 := hide (hb1.alloc hb1.size (.cells #[] 3))
      clear hb1
      go_wp2_with fail
      refine (Hx.out _).mono ?_
      rintro x w3 ⟨v, ok, rfl, hok, hres, hb3⟩
      have Hok := hide hok
      have Hres := hide hres
      have Hb3 := hide (Hb1.out.trans (hb3.mono Hb1.out.size))
      clear hok hres hb3
      go_wp2
      go_ret2
      exact ⟨_, _, rfl, Hok.out, Hres.out, Hb3.out⟩
    · have hrd2 := Hrd.out
      rw [if_neg (by decide), if_neg (by decide), if_neg (by decide)] at hrd2
      rw [hrd2]
      have Hx := hide (fun W => rdecode12_any (bs r) (by rw [bs_size]; exact hrl) 4096 W)
      rw [toL_bs] at Hx
      have hgood := fun h => dec_texts (r := r) h
      obtain ⟨⟨L, eL⟩, hL⟩ : ∃ r', dec r 4096 = r' := ⟨_, rfl⟩
      rw [hL] at Hx hgood ⊢
      simp only at hgood ⊢
      have Hgood := hide hgood
      obtain ⟨R, hR⟩ : ∃ R, (if eL ≠ 0 then none else match numsT L with | none => none | some g => jnL g) = R := ⟨_, rfl⟩
      rw [hR]
      have HR0 := hide hR
      clear hrd2 Hrd hL hgood hR
      go_enter Tryz.func21, Tryz.ntmps21
      go_wp2_with fail
      refine (H1'.out).mono ?_
      rintro x w1 ⟨rfl, hb1⟩
      have Hb1 := hide (hb1.alloc hb1.size (.cells #[] 3))
      have Hown1 := hide (own_low (base' := w.heap.size) (own_made0 3 w1) hb1.size)
      have Hbk1 := hide (show Bk (w1.alloc (.cells #[] 3)) w1.heap.size 3 #[] from Bk.new _ _ _)
      clear hb1
      go_wp2_with fail
      refine (Hx.out _).mono ?_
      rintro x w4 hl4
      obtain ⟨Ax, cx, rfl, hax, hb4⟩ := tres_open hl4
      have Hb4 := hide (Hb1.out.trans (hb4.mono Hb1.out.size))
      have Hax := hide (show At w4 Ax (svs L) from hax)
      have Hown4 := hide (own_fr Hown1.out (Fr.of_below (S := nob) hb4) (fun _ _ f => f))
      have hbk4 := Bk.below Hbk1.out hb4 (by simp)
      have Hap4 : Hid (L ≠ [] → ∀ b o, Ax = some ⟨b, o, none⟩ → (Value.slice (some ⟨w1.heap.size, 0, none⟩) 0 0).ownBlock ≠ some b) := hide (fun hne b o hA h => by
        have h0 : 0 < (svs L).length := by
          cases L with
          | nil => exact absurd rfl hne
          | cons a l => simp [svs]
        obtain ⟨b', o', hA', hb', hc'⟩ := hax 0 h0
        rw [hA] at hA'
        injection hA' with h1
        injection h1 with h1 h2
        subst h1; subst h2
        have h3 : w1.heap.size = b := by simpa [Value.ownBlock] using h
        subst h3
        have h4 := hbk4.cell (o + 0)
        rw [hc'] at h4
        simp at h4)
      clear hl4 hax hb4 Hb1 Hx Hown1 Hbk1 hbk4
      simp only
      by_cases he : eL = 0
      · have heb : ((eL : Int) != 0) = false := by rw [he]; rfl
        obtain ⟨hL4, hL8⟩ := Hgood.out he
        have hR := HR0.out
        rw [if_neg (by simp [he]), numsN_jn hL4] at hR
        have HL8 := hide hL8
        obtain ⟨N, hN⟩ : ∃ N, L.length = N := ⟨_, rfl⟩
        rw [hN] at hL4
        have HN := hide hN
        have HR : Hid (R = match numsN L with | none => none | some g => jn (-1) g) := hide hR.symm
        clear hL8 Hgood hR HR0 he
        go_upto_region 19 with fail
        rw [hN]
        clear hN
        go_wp2
        go_loopw [7, 12] (fun s7 s12 wr => ∃ (i : Nat) (G : List Int), i ≤ N ∧ s12 = .int .i64 (i : Int) ∧ Hid (numsN L = (numsN (L.drop i)).map (G ++ ·)) ∧ Hid (G.length = i) ∧ Hid (wr.ownsRow w.heap.size 3 1 s7 G.length (ivs G)) ∧ Hid (Below w.heap.size w wr) ∧ Hid (At wr Ax (svs L)) ∧ Hid (L ≠ [] → ∀ b o, Ax = some ⟨b, o, none⟩ → s7.ownBlock ≠ some b)) (fun _ s12 _ => (N - intOf s12).toNat)
        case atStart => exact ⟨0, [], Nat.zero_le _, rfl, hide (by simp), hide rfl, Hown4, Hb4, Hax, Hap4⟩
        case round =>
          clear Hown4 Hb4 Hax Hap4
          obtain ⟨i, G, hi, rfl, hnm, hGi, hown, hbr, hax, hap⟩ := hrel
          by_cases hlt : i < N
          · have hil : i < L.length := by rw [HN.out]; exact hlt
            have hLne : L ≠ [] := fun h => by rw [h] at hil; exact absurd hil (Nat.not_lt_zero _)
            have Hap2 := hide (hap.out hLne)
            have hdr : L.drop i = L[i] :: L.drop (i + 1) := List.drop_eq_getElem_cons hil
            have hget : (svs L)[i]? = some (.string L[i]) := svs_get L i hil
            have hsz := HL8.out L[i] (List.getElem_mem _)
            obtain ⟨s, hs⟩ : ∃ s, L[i] = s := ⟨_, rfl⟩
            rw [hs] at hdr hget hsz
            obtain ⟨b', o', hA, hb', hc⟩ := (hax.out).get i _ hget
            have hnm2 := hnm.out
            rw [hdr, numsN_cons] at hnm2
            have hlti : (i : Int) < (N : Int) := by omega
            have hlti0 : (0 : Int) ≤ (i : Int) := by omega
            have HA := hide hA
            have H2 := rread_any (s := s) (by omega) wr
            have hway : (∃ n q : Nat, rk s = .tuple #[.int .i64 (n : Int), .int .i64 (q : Int)] ∧ ((((q : Int) == 0) = true ∧ R = none) ∨ (((q : Int) == 0) = false ∧ ((q : Int) != (s.size : Int)) = true ∧ R = none) ∨ (((q : Int) == 0) = false ∧ ((q : Int) != (s.size : Int)) = false ∧ numsN L = (numsN (L.drop (i + 1))).map ((G ++ [(n : Int)]) ++ ·)))) := by
              match h1 : rd (toL s) with
              | none =>
                rw [h1] at hnm2
                exact ⟨0, 0, rk_none h1, .inl ⟨rfl, by rw [HR.out, hnm2]; rfl⟩⟩
              | some (n, q) =>
                rw [h1] at hnm2
                obtain ⟨_, hq1, _, _⟩ := rd_le h1
                have hq0 : ((q : Int) == 0) = false := by rw [beq_eq_false_iff_ne]; omega
                refine ⟨n, q, rk_some h1, .inr ?_⟩
                by_cases hqs : q = s.size
                · simp only at hnm2
                  rw [if_pos hqs] at hnm2
                  right
                  refine ⟨hq0, by rw [hqs]; exact bne_self_eq_false _, ?_⟩
                  rw [hnm2, Option.map_map]
                  congr 1
                  funext y
                  simp
                · simp only at hnm2
                  rw [if_neg hqs] at hnm2
                  left
                  exact ⟨hq0, by rw [bne_iff_ne]; omega, by rw [HR.out, hnm2]; rfl⟩
            obtain ⟨n, q, hrk, hcase⟩ := hway
            rw [hrk] at H2
            have H2' := hide H2
            have Hcase := hide hcase
            subst hA
            clear hil hLne hdr hget hs hnm2 hnm H2 hrk hcase hap
            go_wp2_with fail
            refine (H2'.out).mono ?_
            rintro x w5 ⟨rfl, hb5⟩
            have hc5 : w5.cell? ⟨b', o' + i, none⟩ = some (.string s) := (hb5.cell (p := ⟨b', o' + i, none⟩) hb').trans hc
            have Hbr5 := hide (hbr.out.trans (hb5.mono hbr.out.size))
            have Hown5 := hide (own_fr hown.out (Fr.of_below (S := nob) hb5) (fun _ _ f => f))
            have Hax5 := hide (hax.out.below hb5)
            clear hb5 hc hb' hbr hown hax H2'
            rcases Hcase.out with ⟨hq0, hRn⟩ | ⟨hq0, hq1, hRn⟩ | ⟨hq0, hq1, hnx⟩
            · have Hr := hide hRn
              clear hRn Hcase
              go_wp2
              go_ret2
              exact jres_none Hr.out Hbr5.out
            · have Hr := hide hRn
              clear hRn Hcase
              go_wp2
              go_ret2
              exact jres_none Hr.out Hbr5.out
            · have Hnx := hide hnx
              have hGl := hGi.out
              obtain ⟨v', w7, hrun, hown1, hf1, hob, _, hkeep⟩ := app_own2 (P := Tryz.prog) 22 3 _ _ Tryz.underlying22 intinf rfl Hown5.out Hbr5.out Hbr5.out.size (.int .i64 (n : Int)) rfl (by unfold maxLen; omega) (by omega)
              have Hrun := hide hrun
              have Hown7 : Hid (w7.ownsRow w.heap.size 3 1 v' (G ++ [(n : Int)]).length (ivs (G ++ [(n : Int)]))) := hide (by rw [ivs_snoc1, List.length_append]; exact hown1)
              have Hf7 := hide hf1
              have Hax7 := hide (hkeep _ _ Hax5.out Hap2.out)
              have Hap7 : Hid (L ≠ [] → ∀ b o, (some (⟨b', o', none⟩ : Addr)) = some ⟨b, o, none⟩ → v'.ownBlock ≠ some b) := hide (fun _ b o hA h => by
                rcases hob with h1 | h1
                · exact Hap2.out b o hA (h1 ▸ h)
                · rw [h1] at h
                  injection h with h
                  injection hA with hA
                  injection hA with hA _
                  have := World.block_lt_of_cell? _ _ hc5
                  simp only at this
                  omega)
              have HGl : Hid ((G ++ [(n : Int)]).length = i + 1) := hide (by rw [List.length_append, hGl]; rfl)
              obtain ⟨A5, M5, cap5, hv5⟩ := own_slice Hown5.out
              subst hv5
              clear hnx Hcase hGl hrun hown1 hf1 hob hkeep Hown5 Hbr5 Hax5 Hap2 hGi
              go_wp2_with (
                at_builtin
                refine wpList_run (by with_reducible rfl) rfl _ _ _ rfl _ _ (by rfl) (by rfl) Hrun.out ?_)
              refine ⟨⟨i + 1, G ++ [(n : Int)], hlt, by go_num, Hnx, HGl, Hown7, Hf7, Hax7, Hap7⟩, ?_⟩
              simp [intOf] <;> omega
          · have hiN : i = N := by omega
            subst hiN
            have hnm2 := hnm.out
            rw [List.drop_eq_nil_of_le (by rw [HN.out]; exact Nat.le_refl _)] at hnm2
            have hnm3 : numsN L = some G := by rw [hnm2]; simp [numsN]
            have hr2 : R = jn (-1) G := by rw [HR.out, hnm3]
            obtain ⟨A9, cap9, hv9, hat9⟩ := own_at hown.out
            subst hv9
            have hGl := hGi.out
            have HJ := hide (nsums_any hat9 G.length cap9 rfl (by omega) (numsN_len hnm3).2)
            have Hb5 := hide hbr.out
            rw [← hr2] at HJ
            clear hnm hnm2 hnm3 hr2 hat9 hown hbr hGi HR hax hap hGl
            go_wp2_with fail
            refine (HJ.out).mono ?_
            rintro x w5 ⟨vm, okm, rfl, hokm, hm, hb5⟩
            have Hokm := hide hokm
            have Hm := hide hm
            clear hokm hm
            go_wp2
            go_ret2
            exact ⟨_, _, rfl, Hokm.out, Hm.out, Hb5.out.trans (hb5.mono Hb5.out.size)⟩
      · have Hr0 : Hid (R = none) := hide (by rw [← HR0.out, if_pos he])
        have hne : ((eL : Int) != 0) = true := by rw [bne_iff_ne]; omega
        clear he HR0
        go_wp2
        go_ret2
        exact jres_none Hr0.out Hb4.out
    · have hrd2 := Hrd.out
      rw [if_pos hc] at hrd2
      rw [hrd2]
      have h0 : ((c : Int) == 0) = false := by rw [beq_eq_false_iff_ne]; omega
      have h1 : ((c : Int) == 1) = false := by rw [beq_eq_false_iff_ne]; omega
      have h2 : ((c : Int) == 2) = false := by rw [beq_eq_false_iff_ne]; omega
      clear hrd2 Hrd hc
      go_enter Tryz.func21, Tryz.ntmps21
      go_wp2_with fail
      refine (H1'.out).mono ?_
      rintro x w1 ⟨rfl, hb1⟩
      have Hb1 := hide (hb1.alloc hb1.size (.cells #[] 3))
      clear hb1
      go_wp2
      go_ret2
      exact jres_none rfl Hb1.out
end Go.Proofs.YtgllednilkfpgaaGreat
/-
  The walks over the reference of times: the times with some bytes, if they are the bytes of the times.
-/
namespace Go.Proofs.YtgllednilkfpgaaGreat
open Go.RowKit Go.Proofs Wv Wv.Vi Wv.Rc Wv.Mo Wv.Ru Wv.Tm
set_option linter.unusedVariables false
set_option maxRecDepth 100000 in
set_option maxHeartbeats 1000000 in
theorem ndecode_any {w : World} (data : ByteArray) (hd : data.size ≤ 1000000000) (most : Int) :
    Calls Tryz.prog 24 #[.string data, .int .i64 most] w fun x w' => LRes w x w' (decT (toL data) most) := by
  have H1 := hide (nread_any data hd w)
  unfold decT
  match hr : readT (toL data) with
  | none =>
    rw [hr] at H1
    simp only
    clear hr hd
    go_enter Tryz.func24, Tryz.ntmps24
    go_wp2_with fail
    refine (H1.out).mono ?_
    rintro x w1 ⟨v, ok, rfl, hok, hs, hb⟩
    have hok2 : ok = false := hok
    subst hok2
    clear hs hok
    go_wp2
    go_returns
    exact lres_err 12 hb
  | some l =>
    rw [hr] at H1
    simp only
    have g2 := readT_len hr
    have H2 := hide (fun W A cap (h : At W A (ivs l)) => nencode_any h l.length cap rfl (by omega))
    obtain ⟨⟨X, xe⟩, hX⟩ : ∃ x, encT l = x := ⟨_, rfl⟩
    rw [hX] at H2 ⊢
    simp only
    clear hr hd hX
    by_cases hbad : xe ≠ 0 ∨ X ≠ toL data
    · rw [if_pos hbad]
      have q : ((xe : Int) != 0) = true ∨ (((xe : Int) != 0) = false ∧ (((bs X).toList != data.toList) = true ∧ ((bs X).toList == data.toList) = false)) := by
        by_cases hx : xe = 0
        · right
          have hne : X ≠ toL data := hbad.resolve_left (fun h => h hx)
          have h3 : ((bs X).toList == data.toList) = false := by
            rw [str_eq, decide_eq_false_iff_not]
            intro h
            exact hne (by rw [← h, toL_bs])
          refine ⟨by rw [hx]; rfl, by rw [bne, h3]; rfl, h3⟩
        · left; rw [bne_iff_ne]; omega
      clear hbad
      rcases q with q | ⟨q, q2, q3⟩
      all_goals
        go_enter Tryz.func24, Tryz.ntmps24
        go_wp2_with fail
        refine (H1.out).mono ?_
        rintro x w1 ⟨v, ok, rfl, hok, hs, hb⟩
        have hok2 : ok = true := hok
        subst hok2
        obtain ⟨A, cap, rfl, hat⟩ := hs l rfl
        have H3 := hide (H2.out _ _ cap hat)
        clear hs hat hok
        go_wp2_with fail
        refine (H3.out).mono ?_
        rintro x w2 ⟨rfl, hb2⟩
        have hbb := hb.trans (hb2.mono hb.size)
        go_wp2
        go_returns
        exact lres_err 12 hbb
    · rw [if_neg hbad]
      have hx : xe = 0 := by omega
      have hXd : X = toL data := by
        rcases Classical.em (X = toL data) with h | h
        · exact h
        · exact absurd (.inr h) hbad
      subst hx; subst hXd
      have q2 : ((bs (toL data)).toList != data.toList) = false := by rw [bs_toL, bne_self_eq_false]
      have q3 : ((bs (toL data)).toList == data.toList) = true := by rw [bs_toL, beq_self_eq_true]
      clear hbad
      by_cases hm : most < (l.length : Int)
      · rw [if_pos hm]
        go_enter Tryz.func24, Tryz.ntmps24
        go_wp2_with fail
        refine (H1.out).mono ?_
        rintro x w1 ⟨v, ok, rfl, hok, hs, hb⟩
        have hok2 : ok = true := hok
        subst hok2
        obtain ⟨A, cap, rfl, hat⟩ := hs l rfl
        have H3 := hide (H2.out _ _ cap hat)
        clear hs hat hok
        go_wp2_with fail
        refine (H3.out).mono ?_
        rintro x w2 ⟨rfl, hb2⟩
        have hbb := hb.trans (hb2.mono hb.size)
        go_wp2
        go_returns
        exact lres_err 2 hbb
      · rw [if_neg hm]
        go_enter Tryz.func24, Tryz.ntmps24
        go_wp2_with fail
        refine (H1.out).mono ?_
        rintro x w1 ⟨v, ok, rfl, hok, hs, hb⟩
        have hok2 : ok = true := hok
        subst hok2
        obtain ⟨A, cap, rfl, hat⟩ := hs l rfl
        have H3 := hide (H2.out _ _ cap hat)
        have Hat := hide hat
        clear hs hat hok
        go_wp2_with fail
        refine (H3.out).mono ?_
        rintro x w2 ⟨rfl, hb2⟩
        have hbb := hb.trans (hb2.mono hb.size)
        have hat2 := Hat.out.below hb2
        go_wp2
        go_returns
        exact ⟨_, rfl, ⟨A, cap, rfl, hat2⟩, hbb⟩
end Go.Proofs.YtgllednilkfpgaaGreat
