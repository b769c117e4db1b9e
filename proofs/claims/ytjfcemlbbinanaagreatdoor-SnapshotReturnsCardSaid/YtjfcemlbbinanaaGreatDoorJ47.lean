/-
  The laws of snapshots: the values come back.
-/
import Derived.Test.YtjfcemlbbinanaaGreatDoorJ45
set_option linter.unusedVariables false
set_option linter.unusedSimpArgs false
namespace Go.Proofs.YtjfcemlbbinanaaGreatDoor
open Go.RowKit Go.Proofs Wv Wv.Vi Wv.Bc Wv.Sn Wv.Dc Wv.Fm
set_option linter.unusedVariables false
theorem snO_get {st : List (Int × Int)} {vs : List ByteArray} {d : List UInt8} (h : snE validS st vs = (d, 0)) (k : Nat) (hk : k < vs.length) : snO validS st d (k : Int) = (vs[k], 0) := by
 have hD := snD_E h
 have hv := (snD_ok hD).2
 obtain ⟨_, hl, _⟩ := vas_sizes hv
 have hty : tysB st = true := by
  have : (tysB st && vasL validS st vs) = true := hv
  rw [Bool.and_eq_true] at this
  exact this.1
 unfold snO
 rw [if_neg (by rw [hty]; decide), if_neg (by omega), hD, if_neg (by simp)]
 simp [List.getD, hk]
set_option maxRecDepth 100000 in
set_option maxHeartbeats 8000000 in
theorem lreturns_any {A : Option Addr} {st : List (Int × Int)} {w : World} (ha : At w A (pv st)) (hst : ∀ c ∈ st, I64 c.1 ∧ I64 c.2) (n cap : Nat) (hn : n = st.length) (hn4 : n ≤ 9223372036854775807)
  {B : Option Addr} {vs : List ByteArray} (hv : At w B (tvs vs)) (hsv : ∀ s ∈ vs, s.size ≤ 9223372036854775807) (m cap2 : Nat) (hm : m = vs.length) (hm4 : m ≤ 9223372036854775807) (ht : Tab w) :
  Calls Tryz.prog 3 #[.slice A n cap, .slice B m cap2] w fun x w' => x = .returned (.bool true) ∧ Below w.heap.size w w' := by
 have Haw := hide (snawake_any w ht)
 by_cases hg1 : (70 : Int) < (n : Int)
 ·clear ha hst hn hn4 hv hsv hm hm4 ht
  go_enter Tryz.func3, Tryz.ntmps3
  go_wp2_with fail
  refine (Haw.out).mono ?_
  rintro x w1 ⟨rfl, hb1⟩
  go_wp2
  go_returns
  exact ⟨rfl, hb1⟩
 ·by_cases hg2 : (70 : Int) < (m : Int)
  ·clear ha hst hn hv hsv hm ht
   go_enter Tryz.func3, Tryz.ntmps3
   go_wp2_with fail
   refine (Haw.out).mono ?_
   rintro x w1 ⟨rfl, hb1⟩
   go_wp2
   go_returns
   exact ⟨rfl, hb1⟩
  ·have Hv := hide (fun W (hb : Below w.heap.size w W) => hv.below hb)
   have Hm := hide hm
   have HE := hide (fun (hsz : ∀ s ∈ vs, s.size ≤ 1099511627776) W (hb : Below w.heap.size w W) => sencode_any (ha.below hb) (hv.below hb) (ht.below hb) hsz n cap m cap2 hn hm hn4 hm4)
   have HV := hide (fun (hsz : ∀ s ∈ vs, s.size ≤ 1099511627776) W (hb : Below w.heap.size w W) => svalid_any (ha.below hb) (hv.below hb) (ht.below hb) hsz n cap m cap2 hn hm hn4 hm4)
   have HD := hide (fun (d : List UInt8) (hd : d.length ≤ 1000000000) W (hb : Below w.heap.size w W) => sdecode_any (ha.below hb) d hd (ht.below hb) n cap hn hn4)
   have HO := hide (fun (d : List UInt8) (hd : d.length ≤ 1000000000) (k : Nat) W (hb : Below w.heap.size w W) => sone_any (ha.below hb) d hd (ht.below hb) (k : Int) n cap hn hn4)
   clear ha hst hn hv hsv hm ht
   go_enter Tryz.func3, Tryz.ntmps3
   go_wp2_with fail
   refine (Haw.out).mono ?_
   rintro x w1 ⟨rfl, hb1⟩
   have Hb1 := hide hb1
   clear hb1 Haw
   go_wp2
   go_loopw [27] (fun s27 wr => ∃ k : Nat, k ≤ m ∧ s27 = .int .i64 (k : Int) ∧ Hid (∀ s ∈ vs.take k, (s.size : Int) ≤ 150) ∧ wr = w1) (fun s27 _ => (m - intOf s27).toNat)
   case atStart => exact ⟨0, Nat.zero_le _, rfl, hide (by simp), rfl⟩
   case round =>
    obtain ⟨k, hk, rfl, hall, rfl⟩ := hrel
    by_cases hlt : k < m
    ·have hkv : k < vs.length := by rw [← Hm.out]; exact hlt
     obtain ⟨bB, oB, rfl, _, c0⟩ := at_text (Hv.out _ Hb1.out) k hkv
     have htk : vs.take (k + 1) = vs.take k ++ [vs[k]] := List.take_succ_eq_append_getElem hkv
     have hk0 : (0 : Int) ≤ (k : Int) := by omega
     have hltI : (k : Int) < (m : Int) := by omega
     generalize vs[k] = V at *
     by_cases hg : (150 : Int) < (V.size : Int)
     ·clear htk hkv hall HE HV HD HO
      go_wp2
      go_returns
      exact ⟨rfl, Hb1.out⟩
     ·have Hall : Hid (∀ s ∈ vs.take (k + 1), (s.size : Int) ≤ 150) := hide (by
       rw [htk]
       intro s hs
       rcases List.mem_append.1 hs with h | h
       ·exact hall.out s h
       ·rw [List.mem_singleton.1 h]; omega)
      clear htk hkv hall HE HV HD HO
      go_wp2
      refine ⟨⟨k + 1, hlt, by go_num, Hall, (by first | trivial | rfl)⟩, ?_⟩
      simp [intOf] <;> omega
    ·have hkn : k = m := by omega
     subst hkn
     have hsz : ∀ s ∈ vs, s.size ≤ 1099511627776 := by
      have h := hall.out
      rw [List.take_of_length_le (by rw [Hm.out]; exact Nat.le_refl _)] at h
      intro s hs
      have := h s hs
      omega
     have HE := hide (HE.out hsz)
     have HV := hide (HV.out hsz)
     clear hall hsz
     obtain ⟨⟨d, e⟩, hE⟩ : ∃ E, snE validS st vs = E := ⟨_, rfl⟩
     have herr := snE_err (dv := validS) (st := st) (vs := vs)
     rw [hE] at HE herr
     simp only at HE
     by_cases he : e = 0
     ·subst he
      have hdl := snE_dlen hE
      have hD := snD_E hE
      have HD := hide (HD.out d hdl)
      have HO := hide (fun k (hk : k < vs.length) W hb => (snO_get hE k hk) ▸ HO.out d hdl k W hb)
      rw [hD] at HD
      simp only at HO
      generalize bs d = S at *
      clear herr hE hdl hD HV
      go_wp2_with fail
      refine (HE.out _ Hb1.out).mono ?_
      rintro x w2 ⟨rfl, hb2⟩
      have Hb2 := hide (Hb1.out.trans (hb2.mono Hb1.out.size))
      clear hb2 HE
      go_wp2_with fail
      refine (HD.out _ Hb2.out).mono ?_
      rintro x w3 ⟨v, rfl, ⟨A3, cap3, rfl, hat⟩, hb3⟩
      have Hb3 := hide (Hb2.out.trans (hb3.mono Hb2.out.size))
      have Hat := hide (fun W (hb : Below w3.heap.size w3 W) => hat.below hb)
      clear hb3 hat HD
      rw [← Hm.out]
      go_wp2
      go_loopw [80] (fun s80 wr => ∃ j : Nat, j ≤ k ∧ s80 = .int .i64 (j : Int) ∧ Hid (Below w3.heap.size w3 wr)) (fun s80 _ => (k - intOf s80).toNat)
      case atStart => exact ⟨0, Nat.zero_le _, rfl, hide (Below.refl _ _)⟩
      case round =>
       obtain ⟨j, hj, rfl, hbr⟩ := hrel
       by_cases hlt2 : j < k
       ·have hjv : j < vs.length := by rw [← Hm.out]; exact hlt2
        have Hbw := hide (Hb3.out.trans (hbr.out.mono Hb3.out.size))
        have HOj := hide (HO.out j hjv wr Hbw.out)
        have hj0 : (0 : Int) ≤ (j : Int) := by omega
        have hltI : (j : Int) < (k : Int) := by omega
        have Hc := hide (fun W (h : Below wr.heap.size wr W) => (⟨at_text (Hv.out _ (Hbw.out.trans (h.mono Hbw.out.size))) j hjv, at_text (Hat.out _ (hbr.out.trans (h.mono hbr.out.size))) j hjv⟩ : (∃ b o, B = some ⟨b, o, none⟩ ∧ b < W.heap.size ∧ W.cell? ⟨b, o + j, none⟩ = some (.string vs[j])) ∧ (∃ b o, A3 = some ⟨b, o, none⟩ ∧ b < W.heap.size ∧ W.cell? ⟨b, o + j, none⟩ = some (.string vs[j]))))
        generalize vs[j] = V at *
        clear hjv HO
        go_wp2_with fail
        refine (HOj.out).mono ?_
        rintro x w4 ⟨rfl, hb4⟩
        obtain ⟨⟨bB, oB, rfl, _, c0⟩, ⟨bA, oA, rfl, _, c1⟩⟩ := Hc.out w4 hb4
        have Hb4 := hide (hbr.out.trans (hb4.mono hbr.out.size))
        have hne : (V.toList != V.toList) = false := bne_self_eq_false _
        clear hb4 Hc HOj
        go_wp2
        go_quiet (fail)
        go_wp2
        refine ⟨⟨j + 1, hlt2, by go_num, by first | exact Hb4 | exact hide ⟨Hb4.out.1, Hb4.out.2, Hb4.out.3, Hb4.out.4, Hb4.out.5⟩⟩, ?_⟩
        simp [intOf] <;> omega
       ·have hjk : j = k := by omega
        subst hjk
        go_wp2
        go_returns
        exact ⟨rfl, Hb3.out.trans (hbr.out.mono Hb3.out.size)⟩
     ·rcases herr he with ⟨hv, h2⟩ | ⟨hv, h2⟩
      all_goals
       injection h2 with h2 h3
       subst h2 h3
       rw [show bs ([] : List UInt8) = ⟨#[]⟩ from rfl] at HE
       rw [hv] at HV
       clear hE herr he hv HD HO
       go_wp2_with fail
       refine (HE.out _ Hb1.out).mono ?_
       rintro x w2 ⟨rfl, hb2⟩
       have Hb2 := hide (Hb1.out.trans (hb2.mono Hb1.out.size))
       clear hb2 HE
       go_wp2_with fail
       refine (HV.out _ Hb2.out).mono ?_
       rintro x w3 ⟨rfl, hb3⟩
       have Hb3 := hide (Hb2.out.trans (hb3.mono Hb2.out.size))
       clear hb3 HV
       go_wp2
       go_returns
       exact ⟨rfl, Hb3.out⟩
end Go.Proofs.YtjfcemlbbinanaaGreatDoor
