/-
  The walks over the models: a byte.
-/
import Derived.Test.YtjfcemlbbinanaaGreatDoorJ25
set_option linter.unusedVariables false
set_option linter.unusedSimpArgs false
namespace Go.Proofs.YtjfcemlbbinanaaGreatDoor
open Go.RowKit Go.Proofs Wv Wv.Vi Wv.Rc Wv.Mo Wv.Lz
set_option linter.unusedVariables false
theorem BtA.drew {w : World} {b g : Nat} {ts : List Nat} {c : UInt8} (h : BtA w b g ts c) : BtA w.drew b g ts c := ⟨h.st, h.nd⟩
theorem BtA.foot {w : World} {b g eb : Nat} {dv : Value} {ts : List Nat} {c : UInt8} {e : En} (h : BtA w b g ts c) (he : EnAt w eb dv e) : ¬ foot eb dv b ∧ ¬ foot eb dv g := by
 refine ⟨fun hs => ?_, en_nodes he h.nd⟩
 rcases hs with hs | hs
 ·exact Bk.apart h.st he.1 (by decide) hs
 ·exact own_apart he.2 h.st (by decide) hs
theorem flat8 {ts : List (List Nat)} (h : ∀ t ∈ ts, TOk t ∧ t.length = 256) (hl : ts.length = 8) : ts.flatten.length = 2048 := by
 rw [flat_len (fun t ht => (h t ht).2), hl]
def bfoot (b g eb : Nat) (dv : Value) : Nat → Prop := fun k => k = b ∨ efoot g eb dv k
set_option maxHeartbeats 2000000 in
set_option maxRecDepth 100000 in
theorem gbenc_any {w : World} {b g eb : Nat} {dv : Value} {ts : List (List Nat)} {c0 : UInt8} {e : En} (h : BtA w b g ts.flatten c0) (ht : ∀ t ∈ ts, TOk t ∧ t.length = 256) (hl8 : ts.length = 8) (he : EnAt w eb dv e) (hv : Val 0 e) (c : UInt8) (hl : e.out.length ≤ 800000) :
  Calls Tryz.prog 60 #[.pointer (some ⟨b, 0, none⟩), .pointer (some ⟨eb, 0, none⟩), .int .u8 (c.toNat : Int)] w fun x w' => x = .returned (.tuple #[]) ∧ BtA w' b g (ts.set (c0.toNat / 32) (tenc 8 c.toNat 1 (ts.getD (c0.toNat / 32) []) e).1).flatten c ∧ ∃ dv', EnAt w' eb dv' (tenc 8 c.toNat 1 (ts.getD (c0.toNat / 32) []) e).2 ∧ Fr (bfoot b g eb dv) w w' ∧ OwnNew w dv dv' := by
 have hk8 := last_lt c0
 have hf := h.foot he
 have hl2 := flat8 ht hl8
 have hc0 := h.st.cell 16
 rw [bcs_last] at hc0
 obtain ⟨k, hk⟩ : ∃ k, c0.toNat / 32 = k := ⟨_, rfl⟩
 rw [hk] at hk8 ⊢
 have i1 : (c0.toNat : Int) / 32 = (k : Int) := by omega
 have hwr : IntKind.i64.wrap ((c.toNat : Nat) : Int) = ((c.toNat : Nat) : Int) := IntWalk.i64_in _ (by have := c.toNat_lt; omega)
 have hk2 : 2 * k = k * 2 := Nat.mul_comm _ _
 have He := hide (fun (W : World) (hW : BtA W b g ts.flatten c0) (heW : EnAt W eb dv e) => gtenc_any (hW.tree hk8) (by omega) (by rw [hl2]; omega) (by rw [hl2]; omega) (flat_tok (fun t h => (ht t h).1)) heW (hW.foot heW).1 hv c.toNat (by have := c.toNat_lt; omega) hl)
 rw [← hwr, hk2] at He
 clear hwr
 have hlen : ∀ t ∈ ts, t.length = 256 := fun t h => (ht t h).2
 obtain ⟨p1, p2⟩ := flat_part (L := 256) hlen (j := k) (by omega)
 obtain ⟨q1, q2⟩ := tencF_eq 8 (256 * k) c.toNat 1 256 (t := ts.flatten) (e := e) (by rw [hl2]; omega) (by decide)
 rw [p1] at q1 q2
 rw [p2 _ q2] at q1
 have Hq := hide q1
 have hk8i : (k : Int) < 8 := by omega
 have hk0i : (0 : Int) ≤ (k : Int) := by omega
 have hcl := c.toNat_lt
 obtain ⟨m, hm⟩ : ∃ m, c.toNat = m := ⟨_, rfl⟩
 have hput := bcs_put g c0 c
 rw [hm] at He Hq hcl hput ⊢
 obtain ⟨m0, hm0⟩ : ∃ m, c0.toNat = m := ⟨_, rfl⟩
 rw [hm0] at hc0 i1
 have Hput := hide hput
 have H := hide h
 have HE := hide he
 have hbl := h.st.lt
 have hbn : ¬ efoot g eb dv b := fun hs => by
  rcases hs with hs | hs
  ·exact Bk.apart h.st h.nd (by decide) hs
  ·exact hf.1 hs
 have hbe := hf.1
 clear p1 p2 q1 q2 hlen hm hm0 hput h he hv ht hl hl2 hk hf
 go_enter Tryz.func60, Tryz.ntmps60
 go_wp2
 go_region_with ((go_at_call 59; refine (He.out _ H.out.drew HE.out.drew).mono ?_; rintro r w1 ⟨rfl, hT1, dv1, he1, hf1, ho1⟩))
 all_goals
  have hst1 := H.out.st.drew.fr hf1 hbn
  have f16 := hst1.frozen 16
  have c16 := hst1.cell 16
  rw [bcs_last] at c16
  have hbd := foot_later (w1 := w1) hbe ho1 hbl
  go_wp2
  go_end0
  have h2 := hst1.put 16 (.int .u8 (m : Int))
  rw [Hput.out] at h2
  have hT := hT1.nd
  have hE := he1.offG (m := 16) (x := .int .u8 (m : Int)) hbd
  rw [Hq.out] at hT hE
  have hbg := Bk.apart hst1 hT (by decide)
  exact ⟨rfl, ⟨h2, hT.off (p := ⟨b, 16, none⟩) (Ne.symm hbg) _⟩, dv1, hE, ((Fr.refl (bfoot b g eb dv) w).drew.trans (hf1.mono (fun k hk => .inr hk))).setCell (p := ⟨b, 16, none⟩) (.inl (.inl rfl)) _, ho1⟩
set_option maxHeartbeats 2000000 in
set_option maxRecDepth 100000 in
theorem gbdec_any {w : World} {b g eb : Nat} {ts : List (List Nat)} {c0 : UInt8} {d : De} (h : BtA w b g ts.flatten c0) (ht : ∀ t ∈ ts, TOk t ∧ t.length = 256) (hl8 : ts.length = 8) (he : DAt w eb d) (hv : DV 0 d) :
  Calls Tryz.prog 132 #[.pointer (some ⟨b, 0, none⟩), .pointer (some ⟨eb, 0, none⟩)] w fun x w' => x = .returned (.int .u8 (((UInt8.ofNat ((tdec 8 1 (ts.getD (c0.toNat / 32) []) d).1 - 256)).toNat : Nat) : Int)) ∧ BtA w' b g (ts.set (c0.toNat / 32) (tdec 8 1 (ts.getD (c0.toNat / 32) []) d).2.1).flatten (UInt8.ofNat ((tdec 8 1 (ts.getD (c0.toNat / 32) []) d).1 - 256)) ∧ DAt w' eb (tdec 8 1 (ts.getD (c0.toNat / 32) []) d).2.2 ∧ Fr (fun k => k = b ∨ dfoot g eb k) w w' := by
 have hk8 := last_lt c0
 have hl2 := flat8 ht hl8
 have hc0 := h.st.cell 16
 rw [bcs_last] at hc0
 obtain ⟨k, hk⟩ : ∃ k, c0.toNat / 32 = k := ⟨_, rfl⟩
 rw [hk] at hk8 ⊢
 have i1 : (c0.toNat : Int) / 32 = (k : Int) := by omega
 have hbe : b ≠ eb := Bk.apart h.st he (by decide)
 have hbg : b ≠ g := Bk.apart h.st h.nd (by decide)
 have hk2 : 2 * k = k * 2 := Nat.mul_comm _ _
 have htk := flat_tok (fun t h => (ht t h).1)
 have He := hide (fun (W : World) (hW : BtA W b g ts.flatten c0) (heW : DAt W eb d) => gtdec_any (hW.tree hk8) (by omega) (by rw [hl2]; omega) (by rw [hl2]; omega) htk heW hbe hv)
 rw [hk2] at He
 have hlen : ∀ t ∈ ts, t.length = 256 := fun t h => (ht t h).2
 obtain ⟨p1, p2⟩ := flat_part (L := 256) hlen (j := k) (by omega)
 obtain ⟨q1, q2⟩ := tdecF_eq 8 (256 * k) 1 256 (t := ts.flatten) (d := d) (by rw [hl2]; omega) (by decide)
 obtain ⟨_, _, _, r1, r2⟩ := tdecF_v 8 (256 * k) 1 256 ts.flatten d htk (by rw [hl2]; omega) (by decide) hv
 rw [p1] at q1 q2
 rw [p2 _ q2] at q1
 rw [q1] at He r1 r2
 simp only at He r1 r2
 have e8 : (2 : Nat) ^ 8 = 256 := by decide
 rw [e8] at He r1 r2
 have hk8i : (k : Int) < 8 := by omega
 have hk0i : (0 : Int) ≤ (k : Int) := by omega
 obtain ⟨z, hz⟩ : ∃ z, (tdec 8 1 (ts.getD k []) d).1 - 256 = z := ⟨_, rfl⟩
 have hz8 : z < 256 := by omega
 rw [hz] at He ⊢
 have hzt : (UInt8.ofNat z).toNat = z := by rw [UInt8.toNat_ofNat']; omega
 have hput := bcs_put g c0 (UInt8.ofNat z)
 rw [hzt] at hput ⊢
 obtain ⟨m0, hm0⟩ : ∃ m, c0.toNat = m := ⟨_, rfl⟩
 rw [hm0] at hc0 i1
 have hw8 : IntKind.u8.wrap (z : Int) = (z : Int) := by rw [IntKind.wrap_u8]; omega
 have Hzt := hide hzt
 have Hput := hide hput
 have H := hide h
 have HE := hide he
 have hbl := h.st.lt
 have hbn : ¬ dfoot g eb b := fun hs => by
  rcases hs with hs | hs
  ·exact hbg hs
  ·exact hbe hs
 have f16 := h.st.frozen 16
 clear p1 p2 q1 q2 r1 r2 hlen hz hm0 hput h he hv ht hl2 hk htk hzt hk2 e8
 go_enter Tryz.func132, Tryz.ntmps132
 go_wp2
 go_region_with ((go_at_call 131; refine (He.out _ H.out.drew HE.out.drew).mono ?_; rintro r w1 ⟨rfl, hT1, he1, hf1⟩; have f16b := (H.out.st.drew.fr hf1 hbn).frozen 16; have c16b := (H.out.st.drew.fr hf1 hbn).cell 16; rw [bcs_last] at c16b))
 all_goals
  have hst1 := H.out.st.drew.fr hf1 hbn
  have h2 := hst1.put 16 (.int .u8 (z : Int))
  rw [Hput.out] at h2
  have c16 := h2.cell 16
  rw [bcs_last, Hzt.out] at c16
  have hT := hT1.nd.off (p := ⟨b, 16, none⟩) (Ne.symm hbg) (.int .u8 (z : Int))
  have hE := he1.offG (m := 16) (x := .int .u8 (z : Int)) hbe
  have hF : Fr (fun k => k = b ∨ dfoot g eb k) w (w1.setCell ⟨b, 16, none⟩ (.int .u8 (z : Int))) := ((Fr.refl (fun k => k = b ∨ dfoot g eb k) w).drew.trans (hf1.mono (fun k hk => .inr hk))).setCell (p := ⟨b, 16, none⟩) (.inl (.inl rfl)) _
  have H2 := hide h2
  clear h2 hst1 hT1 he1 hf1
  generalize w1.setCell ⟨b, 16, none⟩ (.int .u8 (z : Int)) = W2 at *
  go_wp2
  go_ret
  exact ⟨rfl, ⟨H2.out, hT⟩, hE, hF⟩
end Go.Proofs.YtjfcemlbbinanaaGreatDoor
