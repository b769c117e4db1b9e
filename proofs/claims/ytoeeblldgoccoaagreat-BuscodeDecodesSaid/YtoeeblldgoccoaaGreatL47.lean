/-
  The walks over lists of values: Encode.
-/
import Derived.Test.YtoeeblldgoccoaaGreatL46
set_option linter.unusedVariables false
set_option linter.unusedSimpArgs false
set_option maxRecDepth 100000
set_option maxHeartbeats 8000000
namespace Go.Proofs.YtoeeblldgoccoaaGreat
open Go.RowKit Go.Proofs Wv Wv.Vi Wv.Rc Wv.Mo Wv.Ru Wv.Tm Wv.Bc
theorem bstB_len {W : Int} {l : List ByteArray} (h : validB W l = true) : ∀ i, (bstB W l i).length ≤ 4000009 := by
 intro i
 rcases bstB_cases W l i with h1 | ⟨c, s, _, h2, h3⟩
 ·rw [h1]; exact Nat.zero_le _
 ·rw [h3, List.length_append]
  have h4 := codB_len (c := c) h;rw [h2] at h4;have h5 := num_sz c;rw [bs_size] at h5;have h6 : s.length ≤ 4000000 := h4;omega
theorem bencode_any {w : World} {A : Option Addr} {l : List ByteArray} (ha : At w A (svs l)) (hsz : ∀ s ∈ l, s.size ≤ 1099511627776) (n cap : Nat) (hn : n = l.length) (hm : n ≤ 9223372036854775807) (W : Int) :
  Calls Tryz.prog 19 #[.int .i64 W, .slice A n cap] w fun x w' => ERes w (encB' W l) x w' := by
 have hv := validB_any ha hsz n cap hn hm W;have he : bs ([] : List UInt8) = ⟨#[]⟩ := rfl;unfold encB'
 cases hvl : validB W l with
 | false =>
  rw [if_pos rfl];rw [hvl] at hv;have HV := hide hv;clear ha hsz hn hv hvl
  go_enter Tryz.func19, Tryz.ntmps19
  go_wp2_with fail
  refine (HV.out).mono ?_;rintro x w1 ⟨rfl, hb1⟩
  go_wp2
  go_returns
  exact ⟨rfl, hb1⟩
 | true =>
  rw [if_neg (by simp)];rw [hvl] at hv;have HV := hide hv;have Ha := hide ha
  have Henc := hide (fun (i : Nat) (hi : i < 4) W2 (h : At W2 A (svs l)) => (by
   have := bencas_any h hsz n cap hn hm (i : Int) W;unfold encAsB at this;rw [if_neg (by omega), hvl, if_neg (by simp), Int.toNat_natCast] at this
   exact this : Calls Tryz.prog 17 #[.int .i64 (i : Int), .int .i64 W, .slice A n cap] W2 fun x w' => ERes W2 (wrO i (codB i W l)) x w'))
  have Hlen := hide (bstB_len hvl)
  have hst : ∀ i, bstB W l (i + 1) = match codB i W l with | none => bstB W l i | some s => if bstB W l i = [] ∨ (num i ++ s).length < (bstB W l i).length then num i ++ s else bstB W l i := fun i => rfl
  have Hst := hide hst;have H0 : Hid (bs (bstB W l 0) = ⟨#[]⟩) := hide rfl;have Hlc := hide (fun i => codB_len (c := i) hvl);obtain ⟨BT, hBT⟩ : ∃ f, bstB W l = f := ⟨_, rfl⟩;obtain ⟨CB, hCB⟩ : ∃ f : Nat → Option (List UInt8), (fun i => codB i W l) = f := ⟨_, rfl⟩
  have hCi : ∀ i, codB i W l = CB i := fun i => congrFun hCB i
  simp only [hBT, hCi] at Henc Hlen Hst H0 Hlc ⊢;clear ha hsz hn hv hvl hst hBT hCB hCi he
  go_enter Tryz.func19, Tryz.ntmps19
  go_wp2_with fail
  refine (HV.out).mono ?_;rintro x w1 ⟨rfl, hb1⟩;have Hb1 := hide hb1;clear hb1 HV
  go_wp2
  go_loopw [6, 14] (fun s6 s14 wr => ∃ i : Nat, i ≤ 4 ∧ s14 = .int .i64 (i : Int) ∧ s6 = .string (bs (BT i)) ∧ Hid (Below w.heap.size w wr)) (fun _ s14 _ => (4 - intOf s14).toNat)
  case atStart => exact ⟨0, by omega, rfl, by rw [H0.out], Hb1⟩
  case round =>
   clear Hb1;obtain ⟨i, hi, rfl, rfl, hb⟩ := hrel
   by_cases hlt : i < 4
   ·have hk := Henc.out i hlt wr (Ha.out.below hb.out)
    have hs1 := Hst.out i;have hl1 := Hlen.out i;have hem := bs_emp (BT i);have hls := Hlc.out i
    have h0i : (0 : Int) ≤ (i : Int) := by omega
    have h4i : (i : Int) < 4 := by omega
    cases ho : CB i with
    | none =>
     rw [ho] at hk hs1;unfold wrO at hk;simp only at hk hs1;have K := hide hk;have HB : Hid (BT (i + 1) = BT i) := hide hs1;clear hk hs1 hem hls ho Henc Hst Hlen Hlc H0 hl1;unfold ERes at K
     go_wp2_with fail
     refine (K.out).mono ?_;rintro x w3 ⟨rfl, hb3⟩;have Hb3 := hide (hb.out.trans (hb3.mono hb.out.size));clear K hb3 hb
     go_wp2
     refine ⟨⟨i + 1, by omega, by go_num, by rw [HB.out], Hb3⟩, ?_⟩
     simp [intOf] <;> omega
    | some s =>
     rw [ho] at hk hs1 hls;unfold wrO at hk;simp only [Option.getD_some] at hk hs1 hls;unfold ERes at hk;simp only at hk;have hzs : (bs (num i ++ s)).size = (num i ++ s).length := bs_size _;have hzb : (bs (BT i)).size = (BT i).length := bs_size _;have K := hide hk;have HS := hide hs1
     by_cases he0 : BT i = []
     ·rw [decide_eq_true he0] at hem
      have HB : Hid (bs (BT (i + 1)) = bs (num i ++ s)) := hide (by rw [HS.out, if_pos (.inl he0)]);clear hk hs1 hls ho Henc Hst Hlen Hlc H0 hl1 hzs hzb HS he0
      generalize bs (BT i) = SB at *
      generalize bs (num i ++ s) = S at *
      go_wp2_with fail
      refine (K.out).mono ?_;rintro x w3 ⟨rfl, hb3⟩;have Hb3 := hide (hb.out.trans (hb3.mono hb.out.size));clear K hb3 hb
      go_wp2
      refine ⟨⟨i + 1, by omega, by go_num, by rw [HB.out], Hb3⟩, ?_⟩
      simp [intOf] <;> omega
     ·rw [decide_eq_false he0] at hem
      by_cases hll : (num i ++ s).length < (BT i).length
      ·have HB : Hid (bs (BT (i + 1)) = bs (num i ++ s)) := hide (by rw [HS.out, if_pos (.inr hll)])
       have hcmp : ((bs (num i ++ s)).size : Int) < ((bs (BT i)).size : Int) := by rw [hzs, hzb]; omega
       clear hk hs1 hls ho Henc Hst Hlen Hlc H0 hl1 hzs hzb HS he0 hll
       generalize bs (BT i) = SB at *
       generalize bs (num i ++ s) = S at *
       go_wp2_with fail
       refine (K.out).mono ?_;rintro x w3 ⟨rfl, hb3⟩;have Hb3 := hide (hb.out.trans (hb3.mono hb.out.size));clear K hb3 hb
       go_wp2
       refine ⟨⟨i + 1, by omega, by go_num, by rw [HB.out], Hb3⟩, ?_⟩
       simp [intOf] <;> omega
      ·have HB : Hid (bs (BT (i + 1)) = bs (BT i)) := hide (by rw [HS.out, if_neg (by rintro (h | h); exact he0 h; exact hll h)])
       have hcmp : ¬ ((bs (num i ++ s)).size : Int) < ((bs (BT i)).size : Int) := by rw [hzs, hzb]; omega
       clear hk hs1 hls ho Henc Hst Hlen Hlc H0 hl1 hzs hzb HS he0 hll
       generalize bs (BT i) = SB at *
       generalize bs (num i ++ s) = S at *
       go_wp2_with fail
       refine (K.out).mono ?_;rintro x w3 ⟨rfl, hb3⟩;have Hb3 := hide (hb.out.trans (hb3.mono hb.out.size));clear K hb3 hb
       go_wp2
       refine ⟨⟨i + 1, by omega, by go_num, by rw [HB.out], Hb3⟩, ?_⟩
       simp [intOf] <;> omega
   ·have hi4 : i = 4 := by omega
    subst hi4;clear Henc Hst Hlen Hlc H0
    go_wp2
    go_returns
    exact ⟨rfl, hb.out⟩
end Go.Proofs.YtoeeblldgoccoaaGreat
