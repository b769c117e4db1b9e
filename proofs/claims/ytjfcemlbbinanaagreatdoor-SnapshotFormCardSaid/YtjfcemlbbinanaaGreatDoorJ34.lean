/-
  The walks over the compression: a text is read.
-/
import Derived.Test.YtjfcemlbbinanaaGreatDoorJ33
set_option linter.unusedVariables false
set_option linter.unusedSimpArgs false
namespace Wv.Lz
open Wv.Rc
theorem rdP_len : ∀ (f n : Nat) (o : List UInt8) (m : Ms) (d : De) (s : List UInt8), o.length ≤ n → rdP f n o m d = some s → s.length ≤ n := by
 intro f
 induction f with
 | zero => intro n o m d s h hs; injection hs with hs; rw [← hs]; exact h
 | succ f ih =>
  intro n o m d s h hs
  rw [rdP] at hs
  split at hs
  ·split at hs
   ·exact ih n _ _ _ s (by rw [List.length_append, List.length_singleton]; omega) hs
   ·split at hs
    ·cases hs
    ·rename_i hb
     refine ih n _ _ _ s ?_ hs
     have key : ∀ (d k : Nat) (o : List UInt8), (copyN d k o).length = o.length + k := by
      intro d k
      induction k with
      | zero => intro o; rfl
      | succ k ih => intro o; show (copyN d k (o ++ _)).length = _; rw [ih, List.length_append, List.length_singleton]; omega
     rw [key]
     unfold badL at hb
     simp only [Bool.or_eq_true, decide_eq_true_iff, not_or] at hb
     omega
  ·injection hs with hs; rw [← hs]; exact h
end Wv.Lz
namespace Go.Proofs.YtjfcemlbbinanaaGreatDoor
open Go.RowKit Go.Proofs Wv Wv.Vi Wv.Rc Wv.Mo Wv.Ru Wv.Lz
set_option linter.unusedVariables false
theorem bs_neS (a b : List UInt8) : (((bs a).toList != (bs b).toList) = !decide (a = b)) ∧ (((bs a).toList == (bs b).toList) = decide (a = b)) := by
 have h2 : ((bs a).toList == (bs b).toList) = decide (a = b) := by
  rw [Bool.eq_iff_iff, beq_iff_eq, decide_eq_true_iff, ByteArray.toList_eq, ByteArray.toList_eq]
  exact Iff.rfl
 exact ⟨by rw [bne, h2], h2⟩
def lzV (x : List UInt8 × Nat) : Value := .tuple #[.string (bs x.1), .int .i64 (x.2 : Int)]
set_option maxRecDepth 100000 in
set_option maxHeartbeats 4000000 in
theorem lzdecode_any (data : List UInt8) (hd : data.length ≤ 1000000000) (most : Int) (w : World) :
  Calls Tryz.prog 68 #[.string (bs data), .int .i64 most] w fun x w' => x = .returned (lzV (lzD data most)) ∧ Below w.heap.size w w' := by
 have Hv := hide (vnew_any (bs data) w)
 have hsz : (bs data).size ≤ 1099511627776 := by rw [bs_size]; omega
 have Hn := hide (fun (W : World) (b : Nat) (h : RV W b (bs data) 0) => vnum_any h hsz 4096)
 have he : bs ([] : List UInt8) = ⟨#[]⟩ := rfl
 have hD : lzD data most = match rnum data 4096 with
  | none => ([], 12)
  | some (n, r) => if most < (n : Int) then ([], 2) else match lzR r n with
   | none => ([], 12)
   | some s => if lzE s = some data then (s, 0) else ([], 12) := rfl
 obtain ⟨RD, hRD⟩ : ∃ R, lzD data most = R := ⟨_, rfl⟩
 rw [hRD] at hD ⊢
 cases hr : rnum data 4096 with
 | none =>
  rw [hr] at hD
  simp only at hD
  subst hD
  obtain ⟨e, he1, he2⟩ := xnumR_nok hr
  rw [show ((4096 : Nat) : Int) = 4096 from rfl] at he2
  rw [he2] at Hn
  have hne : ((e : Int) != 0) = true := by rw [bne_iff_ne]; omega
  have hRV : lzV ([], 12) = .tuple #[.string ⟨#[]⟩, .int .i64 12] := rfl
  rw [hRV]
  generalize bs data = S at *
  clear hr hRD he he2 hd hRV
  go_enter Tryz.func68, Tryz.ntmps68
  go_wp2_with fail
  refine (Hv.out).mono ?_
  rintro x w1 ⟨rfl, h1, hb1⟩
  go_wp2_with fail
  refine (Hn.out _ _ h1).mono ?_
  rintro x w2 ⟨rfl, h2, hf2⟩
  have Her := hide (verr_any h2)
  have hb2 := xonly_below hb1 (Nat.le_refl _) hf2
  go_wp2_with fail
  refine (Her.out).mono ?_
  rintro x w3 ⟨rfl, rfl⟩
  go_wp2
  go_returns
  exact ⟨rfl, hb2⟩
 | some q =>
  obtain ⟨n, r⟩ := q
  rw [hr] at hD
  simp only at hD
  obtain ⟨k1, k2, k3⟩ := xnumR_some hr
  rw [show ((4096 : Nat) : Int) = 4096 from rfl] at k1
  rw [k1] at Hn
  simp only at Hn
  by_cases hmo : most < (n : Int)
  ·rw [if_pos hmo] at hD
   subst hD
   have hRV : lzV ([], 2) = .tuple #[.string ⟨#[]⟩, .int .i64 2] := rfl
   rw [hRV]
   generalize bs data = S at *
   generalize bs r = RS at *
   clear hr hRD k1 hd hRV
   go_enter Tryz.func68, Tryz.ntmps68
   go_wp2_with fail
   refine (Hv.out).mono ?_
   rintro x w1 ⟨rfl, h1, hb1⟩
   go_wp2_with fail
   refine (Hn.out _ _ h1).mono ?_
   rintro x w2 ⟨rfl, h2, hf2⟩
   have Her := hide (verr_any h2)
   have hb2 := xonly_below hb1 (Nat.le_refl _) hf2
   go_wp2_with fail
   refine (Her.out).mono ?_
   rintro x w3 ⟨rfl, rfl⟩
   go_wp2
   go_returns
   exact ⟨rfl, hb2⟩
  ·rw [if_neg hmo] at hD
   have hrs : (bs r).size = r.length := bs_size r
   have htk : takeR (bs r) 0 (r.length : Int) = (bs r, bs [], 0) := by
    rw [xtakeR_some (Nat.le_refl _), List.take_length, List.drop_length]
   have Hle := hide (fun (W : World) (b : Nat) (h : RV W b (bs r) 0) => vleft_any h (by rw [hrs]; omega))
   have Hta := hide (fun (W : World) (b : Nat) (h : RV W b (bs r) 0) => vtake_any h (by rw [hrs]; omega) (r.length : Int))
   rw [htk] at Hta
   rw [hrs] at Hle
   simp only at Hta
   have Hrd := hide (fun W => lzread_any r n k2 W)
   have hrl : r.length ≤ 1000000000 := by omega
   generalize hRS : bs r = RS at *
   cases hR : lzR r n with
   | none =>
    rw [hR] at hD Hrd
    simp only at hD
    subst hD
    have hRV : lzV ([], 12) = .tuple #[.string ⟨#[]⟩, .int .i64 12] := rfl
    have hop : optB none = .tuple #[.string ⟨#[]⟩, .bool false] := rfl
    rw [hop] at Hrd
    rw [hRV]
    generalize bs data = S at *
    generalize bs ([] : List UInt8) = E0 at *
    clear hr hRD k1 hd hRV hrs htk hRS hR hop
    go_enter Tryz.func68, Tryz.ntmps68
    go_wp2_with fail
    refine (Hv.out).mono ?_
    rintro x w1 ⟨rfl, h1, hb1⟩
    go_wp2_with fail
    refine (Hn.out _ _ h1).mono ?_
    rintro x w2 ⟨rfl, h2, hf2⟩
    have Her := hide (verr_any h2)
    have hb2 := xonly_below hb1 (Nat.le_refl _) hf2
    go_wp2_with fail
    refine (Her.out).mono ?_
    rintro x w3 ⟨rfl, rfl⟩
    go_wp2_with fail
    refine (Hle.out _ _ h2).mono ?_
    rintro x w3 ⟨rfl, rfl⟩
    go_wp2_with fail
    refine (Hta.out _ _ h2).mono ?_
    rintro x w3 ⟨rfl, h3, hf3⟩
    have hb3 := xonly_below hb2 (Nat.le_refl _) hf3
    clear h1 h2 h3 hf2 hf3 hb1 hb2
    go_wp2_with fail
    refine (Hrd.out _).mono ?_
    rintro x w4 ⟨rfl, hb4⟩
    have hb := hide (hb3.trans (hb4.mono hb3.size))
    clear hb3 hb4
    go_wp2
    go_returns
    exact ⟨rfl, hb.out⟩
   | some s =>
    rw [hR] at hD Hrd
    simp only at hD
    have hop : optB (some s) = .tuple #[.string (bs s), .bool true] := rfl
    rw [hop] at Hrd
    have hsl : s.length ≤ 1000000000 := by
     have := rdP_len n n [] m0 (d0 r) s (Nat.zero_le _) hR
     omega
    have Hen := hide (fun W => lzencode_any s hsl W)
    cases hE : lzE s with
    | none =>
     rw [hE, if_neg (by simp)] at hD
     subst hD
     have hov : optV none = .tuple #[.string ⟨#[]⟩, .int .i64 9] := rfl
     rw [hE, hov] at Hen
     have hRV : lzV ([], 12) = .tuple #[.string ⟨#[]⟩, .int .i64 12] := rfl
     rw [hRV]
     generalize bs data = S at *
     generalize bs s = SS at *
     generalize bs ([] : List UInt8) = E0 at *
     clear hr hRD k1 hd hRV hrs htk hRS hR hop hE hov hsl
     go_enter Tryz.func68, Tryz.ntmps68
     go_wp2_with fail
     refine (Hv.out).mono ?_
     rintro x w1 ⟨rfl, h1, hb1⟩
     go_wp2_with fail
     refine (Hn.out _ _ h1).mono ?_
     rintro x w2 ⟨rfl, h2, hf2⟩
     have Her := hide (verr_any h2)
     have hb2 := xonly_below hb1 (Nat.le_refl _) hf2
     go_wp2_with fail
     refine (Her.out).mono ?_
     rintro x w3 ⟨rfl, rfl⟩
     go_wp2_with fail
     refine (Hle.out _ _ h2).mono ?_
     rintro x w3 ⟨rfl, rfl⟩
     go_wp2_with fail
     refine (Hta.out _ _ h2).mono ?_
     rintro x w3 ⟨rfl, h3, hf3⟩
     have hb3 := xonly_below hb2 (Nat.le_refl _) hf3
     clear h1 h2 h3 hf2 hf3 hb1 hb2
     go_wp2_with fail
     refine (Hrd.out _).mono ?_
     rintro x w4 ⟨rfl, hb4⟩
     have hb := hb3.trans (hb4.mono hb3.size)
     clear hb3 hb4
     go_wp2_with fail
     refine (Hen.out _).mono ?_
     rintro x w5 ⟨rfl, hb5⟩
     have hbb := hide (hb.trans (hb5.mono hb.size))
     clear hb hb5
     go_wp2
     go_returns
     exact ⟨rfl, hbb.out⟩
    | some t =>
     have hov : optV (some t) = .tuple #[.string (bs t), .int .i64 0] := rfl
     rw [hE, hov] at Hen
     rw [hE] at hD
     obtain ⟨q1, q2⟩ := bs_neS t data
     have hRD2 : lzV RD = if t = data then .tuple #[.string (bs s), .int .i64 0] else .tuple #[.string ⟨#[]⟩, .int .i64 12] := by
      rw [hD]
      by_cases h : t = data
      ·rw [if_pos (by rw [h]), if_pos h]; rfl
      ·rw [if_neg (by simpa using h), if_neg h]; rfl
     rw [hRD2]
     by_cases htd : t = data
     ·rw [if_pos htd]
      rw [decide_eq_true htd] at q1 q2
      generalize bs data = S at *
      generalize bs s = SS at *
      generalize bs t = TT at *
      generalize bs ([] : List UInt8) = E0 at *
      clear hr hRD k1 hd hrs htk hRS hR hop hE hov hsl hRD2 hD htd
      go_enter Tryz.func68, Tryz.ntmps68
      go_wp2_with fail
      refine (Hv.out).mono ?_
      rintro x w1 ⟨rfl, h1, hb1⟩
      go_wp2_with fail
      refine (Hn.out _ _ h1).mono ?_
      rintro x w2 ⟨rfl, h2, hf2⟩
      have Her := hide (verr_any h2)
      have hb2 := xonly_below hb1 (Nat.le_refl _) hf2
      go_wp2_with fail
      refine (Her.out).mono ?_
      rintro x w3 ⟨rfl, rfl⟩
      go_wp2_with fail
      refine (Hle.out _ _ h2).mono ?_
      rintro x w3 ⟨rfl, rfl⟩
      go_wp2_with fail
      refine (Hta.out _ _ h2).mono ?_
      rintro x w3 ⟨rfl, h3, hf3⟩
      have hb3 := xonly_below hb2 (Nat.le_refl _) hf3
      clear h1 h2 h3 hf2 hf3 hb1 hb2
      go_wp2_with fail
      refine (Hrd.out _).mono ?_
      rintro x w4 ⟨rfl, hb4⟩
      have hb := hb3.trans (hb4.mono hb3.size)
      clear hb3 hb4
      go_wp2_with fail
      refine (Hen.out _).mono ?_
      rintro x w5 ⟨rfl, hb5⟩
      have hbb := hide (hb.trans (hb5.mono hb.size))
      clear hb hb5
      go_wp2
      go_returns
      exact ⟨rfl, hbb.out⟩
     ·rw [if_neg htd]
      rw [decide_eq_false htd] at q1 q2
      generalize bs data = S at *
      generalize bs s = SS at *
      generalize bs t = TT at *
      generalize bs ([] : List UInt8) = E0 at *
      clear hr hRD k1 hd hrs htk hRS hR hop hE hov hsl hRD2 hD htd
      go_enter Tryz.func68, Tryz.ntmps68
      go_wp2_with fail
      refine (Hv.out).mono ?_
      rintro x w1 ⟨rfl, h1, hb1⟩
      go_wp2_with fail
      refine (Hn.out _ _ h1).mono ?_
      rintro x w2 ⟨rfl, h2, hf2⟩
      have Her := hide (verr_any h2)
      have hb2 := xonly_below hb1 (Nat.le_refl _) hf2
      go_wp2_with fail
      refine (Her.out).mono ?_
      rintro x w3 ⟨rfl, rfl⟩
      go_wp2_with fail
      refine (Hle.out _ _ h2).mono ?_
      rintro x w3 ⟨rfl, rfl⟩
      go_wp2_with fail
      refine (Hta.out _ _ h2).mono ?_
      rintro x w3 ⟨rfl, h3, hf3⟩
      have hb3 := xonly_below hb2 (Nat.le_refl _) hf3
      clear h1 h2 h3 hf2 hf3 hb1 hb2
      go_wp2_with fail
      refine (Hrd.out _).mono ?_
      rintro x w4 ⟨rfl, hb4⟩
      have hb := hb3.trans (hb4.mono hb3.size)
      clear hb3 hb4
      go_wp2_with fail
      refine (Hen.out _).mono ?_
      rintro x w5 ⟨rfl, hb5⟩
      have hbb := hide (hb.trans (hb5.mono hb.size))
      clear hb hb5
      go_wp2
      go_returns
      exact ⟨rfl, hbb.out⟩
end Go.Proofs.YtjfcemlbbinanaaGreatDoor
