/-
  The laws of the bit strings: codes that are written are read again: the walk.
-/
import Derived.Test.YtfahcmiignnnkaaLaw7
import Derived.Deep.RegionHeld3
namespace Go.Proofs.Ytfahcmiignnnkaa
open Go.RowKit Go.Proofs Wv Wv.Bit
set_option linter.unusedVariables false

set_option maxRecDepth 8000 in
set_option maxHeartbeats 3000000 in
theorem inverts_any {A : Option Addr} {l : List Cd} {w : World} (h : CodesAt w A l) (hk : ∀ c ∈ l, CdOk c) (n cap : Nat) (hn : n = l.length) (hm : n ≤ 9223372036854775807) :
    Calls Try.prog 7 #[.slice A n cap] w fun e w' => e = .returned (.bool true) ∧ Below w.heap.size w w' := by
  have Ha := hide awake_any
  have Hl := hide hn
  have hnl : n ≤ l.length := by omega
  have Hf := hide (few_any (A := A) n cap 30)
  clear hn
  by_cases hc : n ≤ 30
  case neg =>
    have hd : decide (n ≤ 30) = false := decide_eq_false hc
    rw [hd] at Hf
    clear hd
    go_enter Try.func7, Try.ntmps7
    go_wp2_with fail
    refine (Ha.out _).mono ?_
    rintro e w1 ⟨rfl, hb1⟩
    go_wp2_with fail
    refine (Hf.out _).mono ?_
    rintro e w2 ⟨rfl, rfl⟩
    go_wp2
    go_ret
    exact ⟨rfl, hb1⟩
  case pos =>
  have hd : decide (n ≤ 30) = true := decide_eq_true hc
  rw [hd] at Hf
  clear hd
  obtain ⟨i0, hi, hz0, hz1, hz2⟩ := info_parts codeinf
  go_enter Try.func7, Try.ntmps7
  go_wp2_with fail
  refine (Ha.out _).mono ?_
  rintro e w1 ⟨rfl, hb1⟩
  go_wp2_with fail
  refine (Hf.out _).mono ?_
  rintro e w2 ⟨rfl, rfl⟩
  have Hn := hide (newwriter_any w1)
  go_wp2_with fail
  refine (Hn.out).mono ?_
  rintro e w2 ⟨rfl, hw2, hb2⟩
  have hf2 := hb1.trans (hb2.mono hb1.size)
  have hI : ISt w.heap.size w2 w1.heap.size (.slice none 0 0) (.slice none 0 0) [] := ⟨⟨hw2, by simp [Value.ownBlock], hb1.size⟩, ⟨rfl, .inl ⟨rfl, rfl⟩⟩, by simp, by simp [catb]⟩
  have hlo := hb1.size
  have hc2 := h.below hf2
  clear hw2 hb2 hb1
  go_wp2
  go_loopw [4, 27] (fun sv i wr => ∃ (k : Nat) (dv : Value) (D : List Cd), k ≤ n ∧ i = .int .i64 k ∧ D.length ≤ k ∧ ISt w.heap.size wr w1.heap.size dv sv D ∧ Below w.heap.size w wr ∧ CodesAt wr A l) (fun _ i _ => (n - intOf i).toNat)
  case atStart => exact ⟨0, _, [], by omega, rfl, by simp, hI, hf2, hc2⟩
  case round =>
    clear hI hf2 hc2
    obtain ⟨k, dv, D, hkn, rfl, hDk, hI, hf, hco⟩ := hrel
    by_cases hlt : k < n
    · obtain ⟨b, o, rfl, hbw, c0, c1, c2⟩ := hco k (by omega)
      obtain ⟨c, hcd⟩ : ∃ c, l[k] = c := ⟨_, rfl⟩
      rw [hcd] at c0 c1 c2
      have hcok := hk c (hcd ▸ List.getElem_mem _)
      obtain ⟨_, _, hv1, hv2⟩ := hcok
      have Hcok := hide (hk c (hcd ▸ List.getElem_mem _))
      clear hcd
      have hIa := hI.alloc (.cells #[.int .i64 c.k, .int .i64 c.p, .int .i64 c.v] 42)
      have hfa := hf.alloc hf.size (.cells #[.int .i64 c.k, .int .i64 c.p, .int .i64 c.v] 42)
      have hbk := Bk.new wr 42 #[.int .i64 c.k, .int .i64 c.p, .int .i64 c.v]
      have H1 := hide (wlen_any hIa.wst.at_)
      have Hp := wput_any hIa.wst.at_ hIa.len c.k c.p c.v hv1 hv2
      have Hz := hide (psize_any c.k c.p c.v hv1 hv2)
      have hlen := hI.len
      obtain ⟨L, hL⟩ : ∃ L, catb D = L := ⟨_, rfl⟩
      have HL := hide hL
      obtain ⟨z, hz⟩ : ∃ z, csz c.k c.p c.v = z := ⟨_, rfl⟩
      have HZ := hide hz
      rw [hL] at H1 Hp hlen
      rw [hz] at Hz
      have HI := hide hIa
      have hrl : Hid (∀ g, u4.ownBlock = some g → g < wr.heap.size) := hide (fun g hg => (hI.row.lt g hg).2)
      clear hL hz hI hIa
      go_wp2_with fail
      refine (H1.out).mono ?_
      rintro e w3 ⟨rfl, rfl⟩
      rcases putm_cases L c with ⟨hpm, hok, hfit, hcz⟩ | ⟨hpm, hcz⟩ | ⟨hpm, hcz⟩
      · rw [show (⟨c.k, c.p, c.v⟩ : Cd) = c from rfl, hpm] at Hp
        have Hp2 := hide Hp
        clear Hp hpm
        go_wp2_with fail
        refine (Hp2.out).mono ?_
        rintro e w4 ⟨rfl, dv', hw4, hf4, ho4⟩
        have row4 := row_foot HI.out.wst HI.out.row hf4
        have ws4 := HI.out.wst.put hfa.size hw4 ho4
        have hf5 := hfa.trans (HI.out.wst.frame hfa.size hf4)
        have hbk4 := hbk.fr hf4 (fun e => by
          rcases e with e | e
          · exact Bk.apart HI.out.wst.at_.1 hbk (by decide) e.symm
          · exact own_apart HI.out.wst.at_.2 hbk (by decide) e)
        have d0 := hbk4.cell 0
        have d1 := hbk4.cell 1
        have d2 := hbk4.cell 2
        simp at d0 d1 d2
        have hp1 : D.length + 1 ≤ maxLen := by unfold maxLen; omega
        have hp2 : (D.length + 1) * 24 ≤ 140737488355328 := by omega
        have hsz5 := hf5.size
        have Row4 := hide row4
        have Ws4 := hide ws4
        have Hbk4 := hide hbk4
        have Hf5 := hide hf5
        have Hok := hide hok
        clear row4 ws4 hbk4 hf5 hok hf4 hw4 ho4 hbk hfa hf hco c0 c1 c2
        go_wp2_with (
          at_builtin
          refine wpList_append_own_at _ rfl (.tmp 39) (.tmp 41) _ rfl w.heap.size 42 i0 (.agg #[.int .i64 0, .int .i64 0, .int .i64 0]) 3 24 Try.underlying47 hi hz0 hz1 hz2 rfl (by omega) u4 D.length (cds D) (by rfl) (Row4.out.alloc _) ⟨w4.heap.size, 0, none⟩ 1 1 (cd3 c) (by rfl) rfl (news_three _ _ _ _ _) (by simp [cd3, Value.oneCell']) hp1 hp2 (Nat.le_trans hsz5 (by simp)) ?_
          intro v' w5 hown5 hg5 _ hat
          have Hown5 := hide hown5
          have Hg5 := hide hg5
          clear hown5 hg5 hat)
        have hrow5 : w5.ownsRow w.heap.size 42 3 v' (D ++ [c]).length (cds (D ++ [c])) := by
          rw [cds_snoc, List.length_append]
          exact Hown5.out
        have hws5 := wst_grown (Ws4.out.alloc _) (Row4.out.alloc _) Hg5.out
        rw [← HL.out, ← catb_snoc] at hws5
        have hall5 : ∀ d ∈ D ++ [c], d.ok = true ∧ CdOk d := by
          intro d hd
          rcases List.mem_append.1 hd with hd | hd
          · exact HI.out.all d hd
          · simp at hd
            subst hd
            exact ⟨Hok.out, Hcok.out⟩
        have hlen5 : (catb (D ++ [c])).length ≤ 65536 := by
          rw [catb_snoc, List.length_append, HL.out]; exact hfit
        have hI5 : ISt w.heap.size w5 w1.heap.size dv' v' (D ++ [c]) := ⟨hws5, hrow5, hall5, hlen5⟩
        have hf6 : Below w.heap.size w w5 := (Hf5.out.alloc hsz5 (.cells #[.int .i64 c.k, .int .i64 c.p, .int .i64 c.v] 42)).grown Hg5.out (Nat.le_trans hsz5 (by simp)) (fun j hj => (Row4.out.lt j hj).1)
        have hbk5 := (Hbk4.out.alloc (.cells #[.int .i64 c.k, .int .i64 c.p, .int .i64 c.v] 42)).grown Hg5.out (fun e => by
          have := hrl.out _ e.symm
          omega)
        have hS : w5.drew.cell? ⟨wr.heap.size, 0, none⟩ = some (.int .i64 c.k) ∧ w5.drew.cell? ⟨wr.heap.size, 1, none⟩ = some (.int .i64 c.p) ∧ w5.drew.cell? ⟨wr.heap.size, 2, none⟩ = some (.int .i64 c.v) ∧ wr.heap.size < w5.drew.heap.size ∧ w.heap.size ≤ w5.drew.heap.size ∧ Below w.heap.size w w5.drew ∧ ISt w.heap.size w5.drew w1.heap.size dv' v' (D ++ [c]) :=
          ⟨hbk5.cell 0, hbk5.cell 1, hbk5.cell 2, hbk5.lt, hf6.size, hf6.drew, ⟨hws5.drewN 1, hrow5, hall5, hlen5⟩⟩
        obtain ⟨a', ha'⟩ : ∃ a', (catb (D ++ [c])).length = a' := ⟨_, rfl⟩
        have haz : a' = L.length + z := by rw [← ha', catb_snoc, List.length_append, HL.out, ← HZ.out, hcz]
        have Hlen : Hid (∀ W, ISt w.heap.size W w1.heap.size dv' v' (D ++ [c]) → Calls Try.prog 18 #[.pointer (some ⟨w1.heap.size, 0, none⟩)] W fun e w' => e = .returned (.int .i64 (a' : Nat)) ∧ W = w') := hide (fun W hW => by
          have := wlen_any hW.wst.at_
          rw [ha'] at this
          exact this)
        have i1 : IntKind.i64.wrap ((L.length : Int) + (z : Int)) = (a' : Int) := by rw [IntWalk.i64_in _ (by omega)]; omega
        clear hrow5 hws5 hall5 hlen5 hI5 hbk5 d0 d1 d2 Ws4 Row4 Hown5 Hg5 Hf5 Hbk4 HI haz ha' Hcok Hok hcz
        go_region_held3 (fun W => W.cell? ⟨wr.heap.size, 0, none⟩ = some (.int .i64 c.k) ∧ W.cell? ⟨wr.heap.size, 1, none⟩ = some (.int .i64 c.p) ∧ W.cell? ⟨wr.heap.size, 2, none⟩ = some (.int .i64 c.v) ∧ wr.heap.size < W.heap.size ∧ w.heap.size ≤ W.heap.size ∧ Below w.heap.size w W ∧ ISt w.heap.size W w1.heap.size dv' v' (D ++ [c])) (first | exact hS | assumption | exact held3w (by assumption) (by assumption))
          (first
            | (go_at_call 18; refine (Hlen.out _ (held3w_st (by assumption))).mono ?_; rintro e w' ⟨rfl, rfl⟩)
            | (go_at_call 22; refine (Hz.out _).mono ?_; rintro e w' ⟨rfl, hb9⟩))
        have hB := held3w_below (W := w') (w := w) (by assumption)
        have hI9 := held3w_st (W := w') (by assumption)
        have hc9 := h.below hB
        have hDl : (D ++ [c]).length ≤ k + 1 := by rw [List.length_append]; simp; omega
        go_wp2
        go_roundw
        case rel => exact ⟨k + 1, dv', D ++ [c], by omega, by go_num, hDl, hI9, hB, hc9⟩
        case measure => simp [intOf]; omega
      · rw [show (⟨c.k, c.p, c.v⟩ : Cd) = c from rfl, hpm] at Hp
        have Hp2 := hide Hp
        have hz8 : z ≤ 8192 := by
          rw [← HZ.out]
          unfold csz
          split
          · rename_i hv; exact cbits_len hv
          · omega
        rw [HZ.out] at hcz
        have hcz2 : ¬ (L.length : Int) + (z : Int) ≤ 65536 := by omega
        clear Hp hpm hcz
        go_wp2_with fail
        refine (Hp2.out).mono ?_
        rintro e w4 ⟨rfl, dv', hw4, hf4, ho4⟩
        have row4 := row_foot HI.out.wst HI.out.row hf4
        have ws4 := HI.out.wst.put hfa.size hw4 ho4
        have hf5 := hfa.trans (HI.out.wst.frame hfa.size hf4)
        have hbk4 := hbk.fr hf4 (fun e => by
          rcases e with e | e
          · exact Bk.apart HI.out.wst.at_.1 hbk (by decide) e.symm
          · exact own_apart HI.out.wst.at_.2 hbk (by decide) e)
        have d0 := hbk4.cell 0
        have d1 := hbk4.cell 1
        have d2 := hbk4.cell 2
        simp at d0 d1 d2
        have H5 := hide (wlen_any hw4)
        have HI4 : Hid (ISt w.heap.size w4 w1.heap.size dv' u4 D) := hide ⟨by rw [HL.out]; exact ws4, row4, HI.out.all, HI.out.len⟩
        clear row4 ws4 hbk4 hf4 hw4 ho4 hbk hfa hf hco c0 c1 c2
        go_wp2_with fail
        refine (H5.out).mono ?_
        rintro e w5 ⟨rfl, rfl⟩
        go_wp2_with fail
        refine (Hz.out _).mono ?_
        rintro e w5 ⟨rfl, hb5⟩
        have hf6 := hf5.trans (hb5.mono hf5.size)
        have hI6 := HI4.out.below hb5
        have hc6 := h.below hf6
        clear d0 d1 d2 HI4 HI
        go_wp2
        go_roundw
        case rel => exact ⟨k + 1, dv', D, by omega, by go_num, by omega, hI6, hf6, hc6⟩
        case measure => simp [intOf]; omega
      · rw [show (⟨c.k, c.p, c.v⟩ : Cd) = c from rfl, hpm] at Hp
        have Hp2 := hide Hp
        rw [HZ.out] at hcz
        rw [hcz] at Hz
        clear Hp hpm hcz
        go_wp2_with fail
        refine (Hp2.out).mono ?_
        rintro e w4 ⟨rfl, dv', hw4, hf4, ho4⟩
        have row4 := row_foot HI.out.wst HI.out.row hf4
        have ws4 := HI.out.wst.put hfa.size hw4 ho4
        have hf5 := hfa.trans (HI.out.wst.frame hfa.size hf4)
        have hbk4 := hbk.fr hf4 (fun e => by
          rcases e with e | e
          · exact Bk.apart HI.out.wst.at_.1 hbk (by decide) e.symm
          · exact own_apart HI.out.wst.at_.2 hbk (by decide) e)
        have d0 := hbk4.cell 0
        have d1 := hbk4.cell 1
        have d2 := hbk4.cell 2
        simp at d0 d1 d2
        have H5 := hide (wlen_any hw4)
        have HI4 : Hid (ISt w.heap.size w4 w1.heap.size dv' u4 D) := hide ⟨by rw [HL.out]; exact ws4, row4, HI.out.all, HI.out.len⟩
        clear row4 ws4 hbk4 hf4 hw4 ho4 hbk hfa hf hco c0 c1 c2
        go_wp2_with fail
        refine (H5.out).mono ?_
        rintro e w5 ⟨rfl, rfl⟩
        go_wp2_with fail
        refine (Hz.out _).mono ?_
        rintro e w5 ⟨rfl, hb5⟩
        have hf6 := hf5.trans (hb5.mono hf5.size)
        have hI6 := HI4.out.below hb5
        have hc6 := h.below hf6
        clear d0 d1 d2 HI4 HI
        go_wp2
        go_roundw
        case rel => exact ⟨k + 1, dv', D, by omega, by go_num, by omega, hI6, hf6, hc6⟩
        case measure => simp [intOf]; omega
    · have HI := hide hI
      obtain ⟨L, hL⟩ : ∃ L, catb D = L := ⟨_, rfl⟩
      have HL := hide hL
      have hlen := hI.len
      have hw := hI.wst.at_
      obtain ⟨A2, cap2, hsv, hcD⟩ := codes_of_own hI.row
      rw [hL] at hlen hw
      subst hsv
      have hws : WSt w.heap.size wr w1.heap.size dv L := hL ▸ hI.wst
      have Hb := hide (wbytes_any hw hlen)
      obtain ⟨hn1, hn2⟩ := nrd_bstr L hlen
      have Hn1 := hide hn1
      have Hn2 := hide hn2
      have hwsb : WrAt wr w1.heap.size dv L := hw
      clear hL hn1 hn2 hw hI hco
      go_wp2_with fail
      refine (Hb.out).mono ?_
      rintro e w4 ⟨rfl, hb4⟩
      have hf4 := hf.trans (hb4.mono hf.size)
      have hws4 := hws.below hb4
      have hcD4 := hcD.below hb4
      have Hr := hide (newreader_some (bstr L) w4 L.length Hn1.out)
      clear hws hcD hb4 hwsb
      go_wp2_with fail
      refine (Hr.out).mono ?_
      rintro e w5 ⟨rfl, hr5, hb5⟩
      have hws5 := hws4.below hb5
      have H6 := hide (left_any hr5)
      have H7 := hide (wlen_any hws5.at_)
      go_wp2_with fail
      refine (H6.out).mono ?_
      rintro e w6 ⟨rfl, q, rfl⟩
      have H7' := hide (wlen_any (hws5.drewN q).at_)
      go_wp2_with fail
      refine (H7'.out).mono ?_
      rintro e w6 ⟨rfl, rfl⟩
      have hr6 : RdAt (w5.drewN q) w4.heap.size (bstr L) 0 L.length := hr5
      have hb6 := bdN hb5 q
      have hDn : (D.length : Int) ≤ 9223372036854775807 := by omega
      have hst : Hid (L.drop 0 = catb (D.drop 0)) := hide HL.out.symm
      clear hr5 hb5 hws5 H6 H7 H7'
      go_wp2
      go_loopw [97] (fun i wr => ∃ j x : Nat, j ≤ D.length ∧ i = .int .i64 j ∧ RdAt wr w4.heap.size (bstr L) x L.length ∧ Hid (L.drop x = catb (D.drop j)) ∧ Below w4.heap.size w4 wr) (fun i _ => (D.length - intOf i).toNat)
      case atStart => exact ⟨0, 0, by omega, rfl, hr6, hst, hb6⟩
      case round =>
        clear hr6 hst hb6
        obtain ⟨j, x, hjD, rfl, hrx, hd, hbx⟩ := hrel
        have hcx := hcD4.below hbx
        have hwx := hws4.below hbx
        by_cases hlj : j < D.length
        · obtain ⟨gb, go, rfl, hgl, c0, c1, c2⟩ := hcx j hlj
          obtain ⟨c, hcd⟩ : ∃ c, D[j] = c := ⟨_, rfl⟩
          rw [hcd] at c0 c1 c2
          have hcok := (HI.out.all c (hcd ▸ List.getElem_mem _)).1
          have Hg := getm_next D j hlj (by rw [hcd]; exact hcok) c.v (by rw [hcd]; exact Int.le_refl _) L x hd.out
          rw [hcd] at Hg
          have hra := hrx.alloc (.cells #[.int .i64 c.k, .int .i64 c.p, .int .i64 c.v] 42)
          have hv0 : ((c.v.toNat : Nat) : Int) = c.v := Int.toNat_of_nonneg (vld_cases hcok).1
          have Hp := get_any hra c.k c.p c.v
          rw [Hn2.out, Hg, hv0] at Hp
          have Hp2 := hide Hp
          have hbk := Bk.new wr 42 #[.int .i64 c.k, .int .i64 c.p, .int .i64 c.v]
          have hba := hbx.alloc hbx.size (.cells #[.int .i64 c.k, .int .i64 c.p, .int .i64 c.v] 42)
          have hrl := hrx.1.lt
          clear Hg Hp hcok hcd hv0
          go_wp2_with fail
          refine (Hp2.out).mono ?_
          rintro e w6 ⟨y, rfl, hr6, hf6, hd6⟩
          have hbk6 := hbk.fr hf6 (fun e => by
            have : wr.heap.size = w4.heap.size := e
            omega)
          have d2 := hbk6.cell 2
          simp at d2
          have hb6 := hba.trans (only_below hf6 hba.size (Nat.le_refl _))
          have Hd6 := hide hd6
          clear hd6 c0 c1 c2 hbk hbk6
          go_wp2
          go_roundw
          case rel => exact ⟨j + 1, y, by omega, by go_num, hr6, hide Hd6.out.symm, hb6⟩
          case measure => simp [intOf]; omega
        · have hje : j = D.length := by omega
          have hdx := hd.out
          rw [hje, catb_end] at hdx
          have hl := congrArg List.length hdx
          have hx1 := hrx.2.1
          simp at hl
          have hle : (L.length : Int) - (x : Int) = 0 := by omega
          have hfx := hf4.trans (hbx.mono hf4.size)
          have He := encode_any hcx (fun d hd => (HI.out.all d hd).2) D.length cap2 rfl (by omega)
          have hen : encR D = (bstr L, 0) := by
            have := encm_all D [] (fun d hd => (HI.out.all d hd).1) (by rw [HL.out]; simpa using hlen)
            unfold encR
            rw [this, HL.out]
            rfl
          rw [hen] at He
          have He2 := hide He
          clear hdx hje hl hen He
          go_wp2_with fail
          refine (He2.out).mono ?_
          rintro e w7 ⟨rfl, hb7⟩
          have hr7 := hrx.below hb7
          have hw7 := hwx.below hb7
          have hf7 := hfx.trans (hb7.mono hfx.size)
          have H6 := left_any hr7
          rw [hle] at H6
          have H7 := hide H6
          clear H6 hle hrx hwx hcx
          go_wp2_with fail
          refine (H7.out).mono ?_
          rintro e w8 ⟨rfl, q2, rfl⟩
          have H8 := hide (wbytes_any (hw7.drewN q2).at_ hlen)
          have hf8 := bdN hf7 q2
          go_wp2_with fail
          refine (H8.out).mono ?_
          rintro e w9 ⟨rfl, hb9⟩
          have hf9 := hf8.trans (hb9.mono hf8.size)
          have hbs : ((bstr L).toList == pack (L ++ [true])) = true := by
            rw [beq_iff_eq]
            exact ByteArray.toList_mk _
          go_wp2
          go_ret
          exact ⟨rfl, hf9⟩
end Go.Proofs.Ytfahcmiignnnkaa
