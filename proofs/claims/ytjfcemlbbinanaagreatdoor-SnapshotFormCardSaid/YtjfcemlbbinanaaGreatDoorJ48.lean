/-
  The laws of snapshots: the forms.
-/
import Derived.Test.YtjfcemlbbinanaaGreatDoorJ45
set_option linter.unusedVariables false
set_option linter.unusedSimpArgs false
namespace Go.Proofs.YtjfcemlbbinanaaGreatDoor
open Go.RowKit Go.Proofs Wv Wv.Vi Wv.Bc Wv.Sn Wv.Dc Wv.Fm
set_option linter.unusedVariables false
set_option maxRecDepth 100000 in
set_option maxHeartbeats 8000000 in
theorem lform_any {A : Option Addr} {st : List (Int × Int)} {w : World} (ha : At w A (pv st)) (hst : ∀ c ∈ st, I64 c.1 ∧ I64 c.2) (n cap : Nat) (hn : n = st.length) (hn4 : n ≤ 9223372036854775807)
  {B : Option Addr} {vs : List ByteArray} (hv : At w B (tvs vs)) (hsv : ∀ s ∈ vs, s.size ≤ 9223372036854775807) (m cap2 : Nat) (hm : m = vs.length) (hm4 : m ≤ 9223372036854775807) (ht : Tab w) :
  Calls Tryz.prog 8 #[.slice A n cap, .slice B m cap2] w fun x w' => x = .returned (.bool true) ∧ Below w.heap.size w w' := by
 have Haw := hide (snawake_any w ht)
 by_cases hg1 : (70 : Int) < (n : Int)
 ·clear ha hst hn hn4 hv hsv hm hm4 ht
  go_enter Tryz.func8, Tryz.ntmps8
  go_wp2_with fail
  refine (Haw.out).mono ?_
  rintro x w1 ⟨rfl, hb1⟩
  go_wp2
  go_returns
  exact ⟨rfl, hb1⟩
 ·have HSh := hide (fun W (hb : Below w.heap.size w W) => rshort_any (hv.below hb) m cap2 hm hm4 70 150)
  cases hsh : shB vs 70 150 with
  | false =>
   rw [hsh] at HSh
   clear ha hst hn hn4 hv hsv hm hm4 ht hsh
   go_enter Tryz.func8, Tryz.ntmps8
   go_wp2_with fail
   refine (Haw.out).mono ?_
   rintro x w1 ⟨rfl, hb1⟩
   have Hb1 := hide hb1
   clear hb1 Haw
   go_wp2_with fail
   refine (HSh.out _ Hb1.out).mono ?_
   rintro x w2 ⟨rfl, rfl⟩
   clear HSh
   go_wp2
   go_returns
   exact ⟨rfl, Hb1.out⟩
  | true =>
   rw [hsh] at HSh
   obtain ⟨hs150, hm70⟩ := shB_true hsh
   have hsz : ∀ s ∈ vs, s.size ≤ 1099511627776 := fun s h => by have := hs150 s h; omega
   have HV0 := hide (fun W (hb : Below w.heap.size w W) => nvalid_any (ha.below hb) (hv.below hb) (ht.below hb) hsz n cap m cap2 hn hm hn4 hm4)
   have HV := hide (fun W (hb : Below w.heap.size w W) => svalid_any (ha.below hb) (hv.below hb) (ht.below hb) hsz n cap m cap2 hn hm hn4 hm4)
   have HE := hide (fun W (hb : Below w.heap.size w W) => sencode_any (ha.below hb) (hv.below hb) (ht.below hb) hsz n cap m cap2 hn hm hn4 hm4)
   have HS := hide (fun W (hb : Below w.heap.size w W) => nstored_any (ha.below hb) n cap hn hn4)
   have HI := hide (fun W (hb : Below w.heap.size w W) => sinit_any (ha.below hb) n cap hn hn4)
   have hil : (initS st).length ≤ 9223372036854775807 := by
    unfold initS
    split
    ·simp
    ·rw [List.length_map]; omega
   have HQ := hide (fun (W : World) (B C : Option Addr) (cap2 cap3 : Nat) (hB : At W B (tvs (initS st))) (hC : At W C (tvs (initS st))) => rsame_any hB hC (initS st).length cap2 (initS st).length cap3 rfl rfl hil hil)
   rw [decide_eq_true (show initS st = initS st from rfl)] at HQ
   cases hty : tysB st with
   | false =>
    have hok : vasB validS st vs = false := by unfold vasB; rw [hty]; rfl
    have hi0 : initS st = [] := by unfold initS; rw [if_pos hty]
    rw [hok] at HV0 HV
    rw [snE_no hok] at HE
    rw [hty] at HS
    rw [hi0] at HI HQ
    simp only at HE
    rw [show bs ([] : List UInt8) = ⟨#[]⟩ from rfl] at HE
    clear ha hst hn hn4 hv hsv hm hm4 ht hsh hs150 hsz hil hok hi0 hty
    go_enter Tryz.func8, Tryz.ntmps8
    go_wp2_with fail
    refine (Haw.out).mono ?_
    rintro x w1 ⟨rfl, hb1⟩
    have Hb1 := hide hb1
    clear hb1 Haw
    go_wp2_with fail
    refine (HSh.out _ Hb1.out).mono ?_
    rintro x w2 ⟨rfl, rfl⟩
    clear HSh
    go_wp2_with fail
    refine (HV0.out _ Hb1.out).mono ?_
    rintro x w2 ⟨rfl, hb2⟩
    have Hb2 := hide (Hb1.out.trans (hb2.mono Hb1.out.size))
    clear hb2 HV0
    go_wp2_with fail
    refine (HE.out _ Hb2.out).mono ?_
    rintro x w3 ⟨rfl, hb3⟩
    have Hb3 := hide (Hb2.out.trans (hb3.mono Hb2.out.size))
    clear hb3 HE
    go_wp2_with fail
    refine (HV.out _ Hb3.out).mono ?_
    rintro x w4 ⟨rfl, hb4⟩
    have Hb4 := hide (Hb3.out.trans (hb4.mono Hb3.out.size))
    clear hb4 HV
    go_wp2_with fail
    refine (HS.out _ Hb4.out).mono ?_
    rintro x w5 ⟨rfl, hb5⟩
    have Hb5 := hide (Hb4.out.trans (hb5.mono Hb4.out.size))
    clear hb5 HS
    go_wp2_with fail
    refine (HI.out _ Hb5.out).mono ?_
    rintro x w6 ⟨v, rfl, ⟨A6, c6, rfl, hat6⟩, hb6⟩
    have Hb6 := hide (Hb5.out.trans (hb6.mono Hb5.out.size))
    have HQ2 := hide (HQ.out w6 A6 none c6 0 hat6 (At.nil _ _))
    clear hb6 HI HQ hat6
    go_wp2_with fail
    refine (HQ2.out).mono ?_
    rintro x w7 ⟨rfl, hb7⟩
    have Hb7 := hide (Hb6.out.trans (hb7.mono Hb6.out.size))
    clear hb7 HQ2
    go_wp2
    go_returns
    exact ⟨rfl, Hb7.out⟩
   | true =>
    rw [hty] at HS
    have HR : Hid (initS st = st.map (fun s => bs (initV s))) := hide (by unfold initS; rw [if_neg (by simp [hty])])
    have Hinit := hide (fun a b W => vinit_any a b W)
    obtain ⟨hall, h64⟩ := tysB_iff.1 hty
    have Hall := hide hall
    have hn64 : n ≤ 64 := by omega
    have Ha := hide ha
    have Hv := hide hv
    have Hn := hide hn
    have Hm := hide hm
    have hne : (vasB validS st vs != vasB validS st vs) = false := bne_self_eq_false _
    obtain ⟨b, hb0⟩ : ∃ b, vasB validS st vs = b := ⟨_, rfl⟩
    have Hok := hide hb0
    rw [hb0] at HV0 HV hne
    have hE0 : ∃ d e, snE validS st vs = (d, e) := ⟨_, _, rfl⟩
    obtain ⟨d, e, hE⟩ := hE0
    have HEv := hide hE
    rw [hE] at HE
    simp only at HE
    obtain ⟨DS, hDS⟩ : ∃ s, bs d = s := ⟨_, rfl⟩
    have HDS := hide hDS
    rw [hDS] at HE
    clear ha hst hn hn4 hv hsv hm hm4 ht hsh hs150 hsz hty hb0 hall h64 hE hDS
    go_enter Tryz.func8, Tryz.ntmps8
    go_wp2_with fail
    refine (Haw.out).mono ?_
    rintro x w1 ⟨rfl, hb1⟩
    have Hb1 := hide hb1
    clear hb1 Haw
    go_wp2_with fail
    refine (HSh.out _ Hb1.out).mono ?_
    rintro x w2 ⟨rfl, rfl⟩
    clear HSh
    go_wp2_with fail
    refine (HV0.out _ Hb1.out).mono ?_
    rintro x w2 ⟨rfl, hb2⟩
    have Hb2 := hide (Hb1.out.trans (hb2.mono Hb1.out.size))
    clear hb2 HV0
    go_wp2_with fail
    refine (HE.out _ Hb2.out).mono ?_
    rintro x w3 ⟨rfl, hb3⟩
    have Hb3 := hide (Hb2.out.trans (hb3.mono Hb2.out.size))
    clear hb3 HE
    go_wp2_with fail
    refine (HV.out _ Hb3.out).mono ?_
    rintro x w4 ⟨rfl, hb4⟩
    have Hb4 := hide (Hb3.out.trans (hb4.mono Hb3.out.size))
    clear hb4 HV
    go_wp2_with fail
    refine (HS.out _ Hb4.out).mono ?_
    rintro x w5 ⟨rfl, hb5⟩
    have Hb5 := hide (Hb4.out.trans (hb5.mono Hb4.out.size))
    clear hb5 HS
    go_wp2
    go_loopw [8, 44] (fun s8 s44 wr => ∃ k : Nat, k ≤ n ∧ s44 = .int .i64 (k : Int) ∧ Hid (wr.ownsRow w.heap.size 9 1 s8 k (tvs ((st.take k).map (fun s => bs (initV s))))) ∧ Hid (Below w.heap.size w wr)) (fun _ s44 _ => (n - intOf s44).toNat)
    case atStart => exact ⟨0, Nat.zero_le _, rfl, hide own_nil, Hb5⟩
    case round =>
     clear Hb5 Hb4 Hb3 Hb2 Hb1
     obtain ⟨k, hk, rfl, hown, hb⟩ := hrel
     obtain ⟨A5, cap5, hv5, hat5⟩ := own_at hown.out
     subst hv5
     by_cases hlt : k < n
     ·have hkl : k < st.length := by rw [← Hn.out]; exact hlt
      obtain ⟨bA, oA, rfl, c0, c1⟩ := at_type (Ha.out.below hb.out) k hkl
      have htk : st.take (k + 1) = st.take k ++ [st[k]] := List.take_succ_eq_append_getElem hkl
      have hts := Hall.out st[k] (List.getElem_mem _)
      obtain ⟨⟨a, c⟩, hs⟩ : ∃ x, st[k] = x := ⟨_, rfl⟩
      rw [hs] at c0 c1 htk hts
      simp only at c0 c1
      have Hva := hide (Hinit.out a c)
      rw [hts, if_pos rfl] at Hva
      have Hb := hide (hb.out.alloc hb.out.size (.cells #[.int .i64 a, .int .i64 c] 44))
      have Hown := hide (own_fr hown.out (Fr.of_below (S := nob) ((Below.refl wr.heap.size wr).alloc (Nat.le_refl _) (.cells #[.int .i64 a, .int .i64 c] 44))) (fun _ _ f => f))
      have Hsn := hide (show tvs ((st.take (k + 1)).map (fun s => bs (initV s))) = tvs ((st.take k).map (fun s => bs (initV s))) ++ [.string (bs (initV (a, c)))] by rw [htk, List.map_append, ← tvs_snoc]; rfl)
      have hk0 : (0 : Int) ≤ (k : Int) := by omega
      have hltI : (k : Int) < (n : Int) := by omega
      generalize bs (initV (a, c)) = X at *
      clear htk hts hs hkl hb hown hat5 HI HQ
      go_wp2_with fail
      refine (Hva.out _).mono ?_
      rintro x w2 ⟨rfl, hb2⟩
      have hown1 := own_fr Hown.out (Fr.of_below (S := nob) hb2) (fun _ _ f => f)
      have hbx := Hb.out.trans (hb2.mono Hb.out.size)
      obtain ⟨v', w4, hrun, hown4, hf4, _⟩ := app_own (P := Tryz.prog) 23 9 _ _ Tryz.underlying23 tstrinf rfl (w := w2) hown1 hbx hbx.size (.string X) rfl (by unfold maxLen; omega) (by omega)
      have Hrun := hide hrun
      have Hown4 := hide hown4
      rw [← Hsn.out] at Hown4
      have Hf4 := hide hf4
      clear hb2 hrun hown4 hf4 hown1 hbx Hsn Hown Hb
      go_wp2_with (
       at_builtin
       refine wpList_run (by with_reducible rfl) rfl _ _ _ rfl _ _ (by rfl) (by rfl) Hrun.out ?_)
      refine ⟨⟨k + 1, hlt, by go_num, Hown4, Hf4⟩, ?_⟩
      simp [intOf] <;> omega
     ·have hkn : k = n := by omega
      subst hkn
      have hl : (initS st).length = k := by rw [HR.out, List.length_map, ← Hn.out]
      have Hat5 := hide (show At wr A5 (tvs (initS st)) by
       have h := hat5
       rw [List.take_of_length_le (by rw [Hn.out]; exact Nat.le_refl _), ← HR.out] at h
       exact h)
      have Hl := hide hl
      clear hown hat5 hl hil HR Hinit
      go_wp2_with fail
      refine (HI.out _ hb.out).mono ?_
      rintro x w6 ⟨v, rfl, ⟨A6, c6, rfl, hat6⟩, hb6⟩
      have Hb6 := hide (hb.out.trans (hb6.mono hb.out.size))
      have HQ2 := hide (HQ.out w6 A6 A5 c6 cap5 hat6 (Hat5.out.below hb6))
      rw [Hl.out] at HQ2 ⊢
      clear hb6 HI HQ hat6 Hat5
      go_wp2_with fail
      refine (HQ2.out).mono ?_
      rintro x w7 ⟨rfl, hb7⟩
      have Hb7 := hide (Hb6.out.trans (hb7.mono Hb6.out.size))
      clear hb7 HQ2 hb Hb6
      cases b with
      | false =>
       have h1 := snE_no Hok.out
       rw [HEv.out] at h1
       injection h1 with h1 h2
       subst h2
       have hds := HDS.out
       rw [h1, show bs ([] : List UInt8) = ⟨#[]⟩ from rfl] at hds
       subst hds
       clear h1
       go_wp2
       go_returns
       exact ⟨rfl, Hb7.out⟩
      | true =>
       have hvb2 : tysB st = true ∧ vasL validS st vs = true := by
        have : (tysB st && vasL validS st vs) = true := Hok.out
        rwa [Bool.and_eq_true] at this
       obtain ⟨hty, hvl⟩ := hvb2
       have hvlen := vasL_len hvl
       have HallV := hide (fun j h h2 => vasL_all validS hvl j h h2)
       have Hlen := hide (fun j => textS_len hvl j)
       have Hvs := hide hvlen
       have hmk : m = k := by have := Hm.out; have := Hn.out; omega
       subst hmk
       clear hty hvl hvlen
       go_wp2
       go_loopw [11, 72] (fun s11 s72 wr => ∃ j : Nat, j ≤ m ∧ s72 = .int .i64 (j : Int) ∧ s11 = .string (bs (textS (st.take j) (vs.take j))) ∧ Hid (Below w.heap.size w wr)) (fun _ s72 _ => (m - intOf s72).toNat)
       case atStart => exact ⟨0, Nat.zero_le _, rfl, by rw [List.take_zero, List.take_zero]; rfl, Hb7⟩
       case round =>
        clear Hb7
        obtain ⟨j, hj, rfl, rfl, hb⟩ := hrel
        by_cases hlt2 : j < m
        ·have hjl : j < st.length := by rw [← Hn.out]; exact hlt2
         have hjv : j < vs.length := by rw [Hvs.out]; exact hjl
         obtain ⟨bA, oA, rfl, c0, c1⟩ := at_type (Ha.out.below hb.out) j hjl
         obtain ⟨bB, oB, rfl, hlB, d0⟩ := at_text (Hv.out.below hb.out) j hjv
         have hsn := textS_snoc st vs j hjl hjv
         have hva := HallV.out j hjl hjv
         have hl1 := (Hlen.out j).1
         obtain ⟨hl2, hl3⟩ := wrV_len hva
         obtain ⟨⟨a, c⟩, hs⟩ : ∃ x, st[j] = x := ⟨_, rfl⟩
         rw [hs] at c0 c1 hsn hva hl2
         simp only at c0 c1
         generalize vs[j] = v at *
         have htyk : tyB (a, c) = true := by unfold vaB at hva; rw [Bool.and_eq_true] at hva; exact hva.1
         have hkind : a = 0 ∨ a = 1 ∨ a = 2 ∨ a = 3 := by rcases tyB_kind htyk with h | ⟨h | h | h, _⟩ <;> simp at h <;> omega
         have Hb := hide (hb.out.alloc hb.out.size (.cells #[.int .i64 a, .int .i64 c] 44))
         have hj0 : (0 : Int) ≤ (j : Int) := by omega
         have hltI : (j : Int) < (m : Int) := by omega
         have hsn2 : bs (textS (st.take (j + 1)) (vs.take (j + 1))) = bs (textS (st.take j) (vs.take j)) ++ bs (wrV (a, c) (toL v)) := by rw [hsn, bs_append]
         have hTR : (bs (textS (st.take j) (vs.take j))).size + (bs (wrV (a, c) (toL v))).size ≤ 9223372036854775807 := by rw [bs_size, bs_size]; omega
         have Hsn := hide hsn2
         have Hva := hide hva
         have Hvl := hide hl3
         clear hsn hva hl1 hl2 hl3 hs hsn2 htyk hjl hjv hb
         obtain ⟨T, hT⟩ : ∃ T, bs (textS (st.take j) (vs.take j)) = T := ⟨_, rfl⟩
         rw [hT] at Hsn hTR ⊢
         clear hT
         rcases hkind with rfl | rfl | rfl | rfl
         ·have hv4 : ∀ x ∈ toL v, cd x < 4 := by
           have hv := Hva.out
           unfold vaB kvB at hv
           rw [Bool.and_eq_true] at hv
           have h2 : vld c (toL v) = true := hv.2
           unfold vld at h2
           rw [Bool.and_eq_true] at h2
           exact (isV_iff.1 h2.1).1
          have HB := hide (fun W => rbits_any (toL v) (by have := Hvl.out; omega) hv4 W)
          rw [bs_toL] at HB
          have hwr : wrV (0, c) (toL v) = Bit.pack (lowB (toL v)) ++ Bit.pack (higB (toL v)) := by unfold wrV; rw [if_pos rfl]
          rw [hwr] at Hsn hTR
          clear hv4 hwr Hva
          generalize bs (Bit.pack (lowB (toL v)) ++ Bit.pack (higB (toL v))) = R at *
          go_wp2_with fail
          refine (HB.out _).mono ?_
          rintro x w8 ⟨rfl, hb8⟩
          have Hb8 := hide (Hb.out.trans (hb8.mono Hb.out.size))
          clear hb8
          go_wp2
          refine ⟨⟨j + 1, hlt2, by go_num, by rw [Hsn.out], Hb8⟩, ?_⟩
          simp [intOf] <;> omega
         ·have HB := hide (fun W => text_any v (by have := Hvl.out; rw [toL_length] at this; omega) W)
          have hwr : wrV (1, c) (toL v) = Wv.Ru.text v := by unfold wrV Wv.Ru.text; rw [if_neg (by simp), if_neg (by simp)]; rfl
          rw [hwr] at Hsn hTR
          clear hwr Hva
          generalize bs (Wv.Ru.text v) = R at *
          go_wp2_with fail
          refine (HB.out _).mono ?_
          rintro x w8 ⟨rfl, hb8⟩
          have Hb8 := hide (Hb.out.trans (hb8.mono Hb.out.size))
          clear hb8
          go_wp2
          refine ⟨⟨j + 1, hlt2, by go_num, by rw [Hsn.out], Hb8⟩, ?_⟩
          simp [intOf] <;> omega
         ·have HB := hide (fun W => text_any v (by have := Hvl.out; rw [toL_length] at this; omega) W)
          have hwr : wrV (2, c) (toL v) = Wv.Ru.text v := by unfold wrV Wv.Ru.text; rw [if_neg (by simp), if_neg (by simp)]; rfl
          rw [hwr] at Hsn hTR
          clear hwr Hva
          generalize bs (Wv.Ru.text v) = R at *
          go_wp2_with fail
          refine (HB.out _).mono ?_
          rintro x w8 ⟨rfl, hb8⟩
          have Hb8 := hide (Hb.out.trans (hb8.mono Hb.out.size))
          clear hb8
          go_wp2
          refine ⟨⟨j + 1, hlt2, by go_num, by rw [Hsn.out], Hb8⟩, ?_⟩
          simp [intOf] <;> omega
         ·have hwr : bs (wrV (3, c) (toL v)) = ⟨#[]⟩ := by unfold wrV; rw [if_neg (by simp), if_pos rfl]; rfl
          rw [hwr] at Hsn
          have Hsn3 : Hid (bs (textS (st.take (j + 1)) (vs.take (j + 1))) = T) := hide (by
           rw [Hsn.out]
           apply ByteArray.ext
           rw [ByteArray.data_append]
           simp)
          clear hwr Hva hTR Hsn
          go_wp2
          refine ⟨⟨j + 1, hlt2, by go_num, by rw [Hsn3.out], Hb⟩, ?_⟩
          simp [intOf] <;> omega
        ·have hjm : j = m := by omega
         subst hjm
         have e1 : st.take j = st := List.take_of_length_le (by rw [← Hn.out]; exact Nat.le_refl _)
         have e2 : vs.take j = vs := List.take_of_length_le (by rw [Hvs.out, ← Hn.out]; exact Nat.le_refl _)
         have hl := (Hlen.out j).2
         rw [e1, e2]
         have hem := bs_emp (textS st vs)
         have hXv := HEv.out
         by_cases ht0 : textS st vs = []
         ·rw [snE_nil Hok.out ht0] at hXv
          injection hXv with h1 h2
          subst h2
          have hds := HDS.out
          rw [← h1, show bs ([] : List UInt8) = ⟨#[]⟩ from rfl] at hds
          subst hds
          rw [ht0, show bs ([] : List UInt8) = ⟨#[]⟩ from rfl]
          clear h1 hl ht0 e1 e2 hem HDS
          go_wp2
          go_returns
          exact ⟨rfl, hb.out⟩
         ·rw [decide_eq_false ht0] at hem
          have HW := hide (fun W => wrap_any 4 (by decide) (textS st vs) (by have := Hn.out; omega) W)
          unfold frV at HW
          have hws := wrapS_some (k := 4) (c := textS st vs)
          have hsz : (bs (textS st vs)).size = (textS st vs).length := bs_size _
          cases hw : wrapS 4 (textS st vs) with
          | none =>
           rw [hw] at hws HW
           have hbig : (4096 : Int) < ((bs (textS st vs)).size : Int) := by
            have := of_decide_eq_false hws.symm
            omega
           rw [snE_none Hok.out ht0 hw] at hXv
           injection hXv with h1 h2
           subst h2
           have hds := HDS.out
           rw [← h1, show bs ([] : List UInt8) = ⟨#[]⟩ from rfl] at hds
           subst hds
           rw [show optV none = .tuple #[.string ⟨#[]⟩, .int .i64 9] from rfl] at HW
           generalize bs (textS st vs) = S at *
           clear h1 hl ht0 e1 e2 HDS hws hw hsz
           go_wp2_with fail
           refine (HW.out _).mono ?_
           rintro x w8 ⟨rfl, hb8⟩
           have Hb8 := hide (hb.out.trans (hb8.mono hb.out.size))
           clear hb8
           go_wp2
           go_returns
           exact ⟨rfl, Hb8.out⟩
          | some d2 =>
           rw [hw] at hws HW
           have hbig : ¬ (4096 : Int) < ((bs (textS st vs)).size : Int) := by
            have := of_decide_eq_true hws.symm
            omega
           rw [snE_some Hok.out ht0 hw] at hXv
           injection hXv with h1 h2
           subst h2
           rw [show optV (some d2) = .tuple #[.string (bs d2), .int .i64 0] from rfl, h1, HDS.out] at HW
           have heq : (DS.toList == DS.toList) = true := beq_self_eq_true _
           generalize bs (textS st vs) = S at *
           clear h1 hl ht0 e1 e2 HDS hws hw hsz
           go_wp2_with fail
           refine (HW.out _).mono ?_
           rintro x w8 ⟨rfl, hb8⟩
           have Hb8 := hide (hb.out.trans (hb8.mono hb.out.size))
           clear hb8
           go_wp2
           go_returns
           exact ⟨rfl, Hb8.out⟩
end Go.Proofs.YtjfcemlbbinanaaGreatDoor
