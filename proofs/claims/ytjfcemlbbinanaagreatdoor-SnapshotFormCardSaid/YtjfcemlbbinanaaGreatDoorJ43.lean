/-
  The walks over snapshots: Decode.
-/
import Derived.Test.YtjfcemlbbinanaaGreatDoorJ38
import Derived.Test.YtjfcemlbbinanaaGreatDoorJ42
set_option linter.unusedVariables false
set_option linter.unusedSimpArgs false
namespace Wv.Sn
open Go Go.RowKit Wv Wv.Bc Wv.Dc Wv.Fm
theorem snD_no {st : List (Int × Int)} {d : List UInt8} (h : tysB st = false) : snD validS st d = ([], 1) := by unfold snD; rw [if_pos h]
theorem snD_T {st : List (Int × Int)} {d : List UInt8} (h : tysB st = true) (h2 : snT d = none) : snD validS st d = ([], 12) := by unfold snD; rw [if_neg (by simp [h]), h2]
theorem snD_V {st : List (Int × Int)} {d T : List UInt8} (h : tysB st = true) (h2 : snT d = some T) : snD validS st d = match rdVs st T with
  | none => ([], 12)
  | some (vs, r) => if r = [] ∧ vasB validS st vs = true then (vs, 0) else ([], 12) := by
 unfold snD
 rw [if_neg (by simp [h]), h2]
 rfl
theorem fparse_cl {data c : List UInt8} {k n : Nat} (h : fparse data = some (k, c, n)) : c.length ≤ 1000000000 := by
 have h1 := (fparse_ok h).1
 have h2 := wrapS_some (k := k) (c := c)
 rw [h1] at h2
 have := of_decide_eq_true h2.symm
 omega
theorem snT_nil : snT [] = some [] := by unfold snT; rw [if_pos rfl]
theorem snT_no {d : List UInt8} (h : d ≠ []) (h2 : fparse d = none) : snT d = none := by unfold snT; rw [if_neg h, h2]
theorem snT_some {d c : List UInt8} {k n : Nat} (h : d ≠ []) (h2 : fparse d = some (k, c, n)) : snT d = if n = d.length ∧ k = 4 ∧ c ≠ [] then some c else none := by unfold snT; rw [if_neg h, h2]
end Wv.Sn
namespace Go.Proofs.YtjfcemlbbinanaaGreatDoor
open Go.RowKit Go.Proofs Wv Wv.Vi Wv.Bc Wv.Sn Wv.Dc Wv.Fm
set_option linter.unusedVariables false
theorem run_codec1 (F G : Value) (w : World) : (Instr.field 55 (.agg #[F, G]) 1).run Tryz.prog w = .ok G w := by
 kernel_rfl
theorem vnewE (s : ByteArray) (w : World) : Calls Tryz.prog 31 #[.string s] w fun e w' => ∃ b, e = .returned (.pointer (some ⟨b, 0, none⟩)) ∧ RV w' b s 0 ∧ w.heap.size ≤ b ∧ Below w.heap.size w w' :=
 (vnew_any s w).mono fun e w' h => ⟨_, h.1, h.2.1, Nat.le_refl _, h.2.2⟩
def RdS (st : List (Int × Int)) (T : List UInt8) (k : Nat) (acc : List ByteArray) (t : ByteArray) (e : Nat) : Prop := (e = 0 → rdVs (st.take k) T = some (acc, toL t)) ∧ (e ≠ 0 → rdVs (st.take k) T = none)
theorem rd_step {st : List (Int × Int)} {T : List UInt8} {k : Nat} {acc : List ByteArray} {t v t' : ByteArray} {e e' : Nat} (hk : k < st.length) (hO : RdO st[k] t e v t' e') (h : RdS st T k acc t e) : RdS st T (k + 1) (acc ++ [v]) t' e' := by
 have hs := rdVs_snoc st k hk T
 obtain ⟨o1, o2, _, _⟩ := hO
 by_cases he : e = 0
 ·rw [h.1 he] at hs
  simp only at hs
  have o3 := o2 he
  cases hr : rdV st[k] (toL t) with
  | none =>
   rw [hr] at hs o3
   simp only at hs o3
   exact ⟨fun h => absurd h o3, fun _ => hs⟩
  | some p =>
   obtain ⟨x, r⟩ := p
   rw [hr] at hs o3
   simp only at hs o3
   obtain ⟨q1, q2, q3⟩ := o3
   rw [q1, q2]
   exact ⟨fun _ => hs, fun h => absurd q3 h⟩
 ·rw [h.2 he] at hs
  exact ⟨fun h => absurd h (o1 he), fun _ => hs⟩
def DcR (w : World) (r : List ByteArray × Nat) (x : Ending) (w' : World) : Prop := ∃ v, x = .returned (.tuple #[v, .int .i64 (r.2 : Int)]) ∧ TvR w' v r.1 ∧ Below w.heap.size w w'
theorem dcr_err {w w' : World} (e : Nat) (hb : Below w.heap.size w w') : DcR w ([], e) (.returned (.tuple #[.slice none 0 0, .int .i64 (e : Int)])) w' := ⟨_, rfl, TvR.nil _, hb⟩
set_option maxRecDepth 100000 in
set_option maxHeartbeats 16000000 in
theorem sdecode_any {w : World} {A : Option Addr} {st : List (Int × Int)} (ha : At w A (pv st)) (data : List UInt8) (hd : data.length ≤ 1000000000) (ht : Tab w) (n cap : Nat) (hn : n = st.length) (hn4 : n ≤ 9223372036854775807) :
  Calls Tryz.prog 13 #[.slice A n cap, .string (bs data)] w fun x w' => DcR w (snD validS st data) x w' := by
 have Hty := hide (stypes_any ha n cap hn hn4)
 cases hty : tysB st with
 | false =>
  rw [hty] at Hty
  rw [snD_no hty]
  clear ha hn hty ht hd
  generalize bs data = S at *
  go_enter Tryz.func13, Tryz.ntmps13
  go_wp2_with fail
  refine (Hty.out).mono ?_
  rintro x w1 ⟨rfl, hb1⟩
  go_wp2
  go_returns
  exact dcr_err 1 hb1
 | true =>
  rw [hty] at Hty
  obtain ⟨hall, h64⟩ := tysB_iff.1 hty
  have hn64 : n ≤ 64 := by omega
  have Hall := hide hall
  have Hn := hide hn
  have Ha := hide ha
  have Ht := hide ht
  have HV := hide (fun (W : World) (A B : Option Addr) (vs : List ByteArray) h1 h2 h3 h4 cap m cap2 h5 h6 => svalid_any (w := W) (A := A) (B := B) (st := st) (vs := vs) h1 h2 h3 h4 n cap m cap2 hn h5 hn4 h6)
  have Hsn := hide (fun h => snD_T (d := data) hty h)
  have HsV := hide (fun T h => snD_V (d := data) (T := T) hty h)
  have hrf : ∀ F G W, (Instr.field 55 (.agg #[F, G]) 1).run Tryz.prog W = .ok G W := fun F G W => run_codec1 F G W
  have hem := bs_emp data
  have HU := hide (fun W => unwrap_any data hd W)
  have hds : (bs data).size = data.length := bs_size data
  generalize hX : snD validS st data = X
  rw [hX] at Hsn HsV
  clear ha hn hty hall h64 ht hX
  by_cases hd0 : data = []
  ·have hT : snT data = some [] := by rw [hd0]; exact snT_nil
   rw [decide_eq_true hd0] at hem
   obtain ⟨T, hTe⟩ : ∃ T : List UInt8, [] = T := ⟨_, rfl⟩
   rw [hTe] at hT
   have HTl : Hid (T.length ≤ 1000000000) := hide (by rw [← hTe]; exact Nat.zero_le _)
   have HbT : Hid (bs T = ⟨#[]⟩) := hide (by rw [← hTe]; rfl)
   have HsT := hide (HsV.out T hT)
   have HNw := hide (fun W => vnewE ⟨#[]⟩ W)
   clear hTe hd0 hd HU hds hT HsV Hsn
   generalize bs data = S at *
   go_enter Tryz.func13, Tryz.ntmps13
   go_wp2_with fail
   refine (Hty.out).mono ?_
   rintro x w1 ⟨rfl, hb1⟩
   have Hb0 := hide hb1
   clear hb1
   go_wp2_with fail
   refine (HNw.out _).mono ?_
   rintro x w2 ⟨b, rfl, hr2, hwb, hb2⟩
   have Hb2 := hide (Hb0.out.trans (hb2.mono Hb0.out.size))
   have hwb2 : w.heap.size ≤ b := Nat.le_trans Hb0.out.size hwb
   have hr2' : RV w2 b (bs T) 0 := by rw [← HbT.out] at hr2; exact hr2
   have Hr2 := hide hr2'
   clear hb2 hwb hr2 hr2' Hb0 HNw
   go_wp2
   go_loopw [11, 49] (fun s11 s49 wr => ∃ (k : Nat) (acc : List ByteArray) (t : ByteArray) (e : Nat), k ≤ n ∧ s49 = .int .i64 (k : Int) ∧ acc.length = k ∧ Hid (wr.ownsRow w.heap.size 9 1 s11 k (tvs acc)) ∧ Hid (RV wr b t e) ∧ Hid (t.size ≤ 1000000000) ∧ Hid (RdS st T k acc t e) ∧ Hid (∀ s ∈ acc, s.size ≤ 2000000000) ∧ Hid (Below w.heap.size w wr)) (fun _ s49 _ => (n - intOf s49).toNat)
   case atStart => exact ⟨0, [], bs T, 0, Nat.zero_le _, rfl, rfl, hide own_nil, Hr2, hide (by rw [bs_size]; exact HTl.out), hide ⟨fun _ => by rw [List.take_zero]; rfl, fun h => absurd rfl h⟩, hide (fun s h => by cases h), Hb2⟩
   case round =>
    clear Hb2 Hr2
    obtain ⟨k, acc, t, e, hk, rfl, hacl, hown, hr, hts, hrd, hac, hb⟩ := hrel
    obtain ⟨A5, M5, cap5, rfl⟩ := own_slice hown.out
    by_cases hlt : k < n
    ·have hkl : k < st.length := by rw [← Hn.out]; exact hlt
     obtain ⟨bA, oA, rfl, c0, c1⟩ := at_type (Ha.out.below hb.out) k hkl
     have hts2 := Hall.out st[k] (List.getElem_mem _)
     have Hst := hide (fun (v t' : ByteArray) (e' : Nat) (hO : RdO st[k] t e v t' e') => rd_step hkl hO hrd.out)
     obtain ⟨⟨a, c⟩, hs⟩ : ∃ x, st[k] = x := ⟨_, rfl⟩
     rw [hs] at c0 c1 hts2 Hst
     simp only at c0 c1
     have hkind : a = 0 ∨ a = 1 ∨ a = 2 ∨ a = 3 := by rcases tyB_kind hts2 with h | ⟨h | h | h, _⟩ <;> simp at h <;> omega
     have hba := (Below.refl wr.heap.size wr).alloc (Nat.le_refl _) (.cells #[.int .i64 a, .int .i64 c] 44)
     have Hr := hide (hr.out.below hba (Bk.lt hr.out))
     have Hown := hide (own_fr hown.out (Fr.of_below (S := nob) hba) (fun _ _ f => f))
     have Hb := hide (hb.out.alloc hb.out.size (.cells #[.int .i64 a, .int .i64 c] 44))
     have Htyk := hide hts2
     have hk0 : (0 : Int) ≤ (k : Int) := by omega
     have hltI : (k : Int) < (n : Int) := by omega
     have hts3 := hts.out
     clear hts2 hs hkl hb hown hr hba hrd hts
     rcases hkind with rfl | rfl | rfl | rfl
     ·obtain ⟨w1', w2'⟩ := tyB_bits Htyk.out rfl
      simp only at w1' w2'
      obtain ⟨N, rfl⟩ : ∃ N : Nat, c = (N : Int) := ⟨c.toNat, by omega⟩
      have HC := hide (fun W => codec0_any N (by omega) W)
      have hO := rdO_bits (n := N) (by omega) (by omega) t e
      have HE := hide (fun W b1 b3 h k1 k3 => cd2_any N (by omega) (by omega) (w := W) (b := b) (b1 := b1) (b3 := b3) (s := t) (e := e) h (by omega) k1 k3)
      obtain ⟨V, hV⟩ : ∃ V, (bs (bitsT (toL (takeR t e ((N + 7) / 8 : Nat)).1) (toL (takeR (takeR t e ((N + 7) / 8 : Nat)).2.1 (takeR t e ((N + 7) / 8 : Nat)).2.2 ((N + 7) / 8 : Nat)).1) N)) = V := ⟨_, rfl⟩
      obtain ⟨R2, hR2⟩ : ∃ R, (takeR (takeR t e ((N + 7) / 8 : Nat)).2.1 (takeR t e ((N + 7) / 8 : Nat)).2.2 ((N + 7) / 8 : Nat)) = R := ⟨_, rfl⟩
      rw [hV, hR2] at hO HE
      obtain ⟨r1, t', e'⟩ := R2
      simp only at hO HE
      clear hV hR2 w1' w2' Htyk
      have Hst2 := hide (Hst.out _ _ _ hO)
      have hvs := hO.2.2.2
      have hts4 := hO.2.2.1
      clear hO Hst
      go_wp2_with fail
      refine (HC.out _).mono ?_
      rintro x w3 ⟨b1, b3, rfl, k1, k3, hb3⟩
      have Hk1 := hide k1
      have Hk3 := hide k3
      clear k1 k3
      have Hr3 := hide (show RV w3 b t e from Hr.out.below hb3 (Bk.lt Hr.out))
      have Hown3 := hide (own_fr Hown.out (Fr.of_below (S := nob) hb3) (fun _ _ f => f))
      have Hb3 := hide (Hb.out.trans (hb3.mono Hb.out.size))
      clear hb3 Hr Hown Hb HC
      go_wp2_with fail
      refine (HE.out _ b1 b3 Hr3.out Hk1.out Hk3.out).mono ?_
      rintro x w4 ⟨rfl, hr4, hf4⟩
      have hap := own_apart Hown3.out Hr3.out (by decide)
      have hown4 := own_fr Hown3.out hf4 (fun g hg h => hap (by rw [hg, show g = b from h]))
      have hb4 := bel_only Hb3.out Hb3.out.size hwb2 hf4
      obtain ⟨v', w5, hrun, hown5, hf5, hbk5⟩ := app_own (P := Tryz.prog) 23 9 _ _ Tryz.underlying23 tstrinf rfl (w := w4) hown4 hb4 hb4.size (.string V) rfl (by unfold maxLen; omega) (by omega)
      have Hr5 := hide (show RV w5 b t' e' from hbk5 _ _ _ hr4 (by decide))
      have Hrun := hide hrun
      have Hown5 := hide hown5
      rw [← tvs_snoc] at Hown5
      have Hf5 := hide hf5
      have Hac := hide (show ∀ s ∈ acc ++ [V], s.size ≤ 2000000000 from fun s hs => by
       rcases List.mem_append.1 hs with h | h
       ·exact hac.out s h
       ·rw [List.mem_singleton.1 h]; omega)
      clear hr4 hf4 hap hown4 hb4 hrun hown5 hf5 hbk5 Hr3 Hown3 Hb3 HE hac
      go_wp2_with (
       at_builtin
       refine wpList_run (by with_reducible rfl) rfl _ _ _ rfl _ _ (by rfl) (by rfl) Hrun.out ?_)
      refine ⟨⟨k + 1, acc ++ [V], t', e', hlt, by go_num, by rw [List.length_append, hacl]; rfl, Hown5, Hr5, hide (by omega), Hst2, Hac, Hf5⟩, ?_⟩
      simp [intOf] <;> omega
     ·have HC := hide (fun W => codec1_any c W)
      have hO := rdO_text (a := 1) (c := c) (by omega) t e
      have HE := hide (fun W (h : RV W b t e) => cd5_any h (by omega))
      obtain ⟨R2, hR2⟩ : ∃ R, textR t e 4096 = R := ⟨_, rfl⟩
      rw [hR2] at hO HE
      obtain ⟨V, t', e'⟩ := R2
      simp only at hO HE
      clear hR2 Htyk
      have Hst2 := hide (Hst.out _ _ _ hO)
      have hvs := hO.2.2.2
      have hts4 := hO.2.2.1
      clear hO Hst
      go_wp2_with fail
      refine (HC.out _).mono ?_
      rintro x w3 ⟨rfl, hb3⟩
      have Hr3 := hide (show RV w3 b t e from Hr.out.below hb3 (Bk.lt Hr.out))
      have Hown3 := hide (own_fr Hown.out (Fr.of_below (S := nob) hb3) (fun _ _ f => f))
      have Hb3 := hide (Hb.out.trans (hb3.mono Hb.out.size))
      clear hb3 Hr Hown Hb HC
      go_wp2_with fail
      refine (HE.out _ Hr3.out).mono ?_
      rintro x w4 ⟨rfl, hr4, hf4⟩
      have hap := own_apart Hown3.out Hr3.out (by decide)
      have hown4 := own_fr Hown3.out hf4 (fun g hg h => hap (by rw [hg, show g = b from h]))
      have hb4 := bel_only Hb3.out Hb3.out.size hwb2 hf4
      obtain ⟨v', w5, hrun, hown5, hf5, hbk5⟩ := app_own (P := Tryz.prog) 23 9 _ _ Tryz.underlying23 tstrinf rfl (w := w4) hown4 hb4 hb4.size (.string V) rfl (by unfold maxLen; omega) (by omega)
      have Hr5 := hide (show RV w5 b t' e' from hbk5 _ _ _ hr4 (by decide))
      have Hrun := hide hrun
      have Hown5 := hide hown5
      rw [← tvs_snoc] at Hown5
      have Hf5 := hide hf5
      have Hac := hide (show ∀ s ∈ acc ++ [V], s.size ≤ 2000000000 from fun s hs => by
       rcases List.mem_append.1 hs with h | h
       ·exact hac.out s h
       ·rw [List.mem_singleton.1 h]; omega)
      clear hr4 hf4 hap hown4 hb4 hrun hown5 hf5 hbk5 Hr3 Hown3 Hb3 HE hac
      go_wp2_with (
       at_builtin
       refine wpList_run (by with_reducible rfl) rfl _ _ _ rfl _ _ (by rfl) (by rfl) Hrun.out ?_)
      refine ⟨⟨k + 1, acc ++ [V], t', e', hlt, by go_num, by rw [List.length_append, hacl]; rfl, Hown5, Hr5, hide (by omega), Hst2, Hac, Hf5⟩, ?_⟩
      simp [intOf] <;> omega
     ·have HC := hide (fun W => codec2_any c W)
      have hO := rdO_text (a := 2) (c := c) (by omega) t e
      have HE := hide (fun W (h : RV W b t e) => cd5_any h (by omega))
      obtain ⟨R2, hR2⟩ : ∃ R, textR t e 4096 = R := ⟨_, rfl⟩
      rw [hR2] at hO HE
      obtain ⟨V, t', e'⟩ := R2
      simp only at hO HE
      clear hR2 Htyk
      have Hst2 := hide (Hst.out _ _ _ hO)
      have hvs := hO.2.2.2
      have hts4 := hO.2.2.1
      clear hO Hst
      go_wp2_with fail
      refine (HC.out _).mono ?_
      rintro x w3 ⟨rfl, hb3⟩
      have Hr3 := hide (show RV w3 b t e from Hr.out.below hb3 (Bk.lt Hr.out))
      have Hown3 := hide (own_fr Hown.out (Fr.of_below (S := nob) hb3) (fun _ _ f => f))
      have Hb3 := hide (Hb.out.trans (hb3.mono Hb.out.size))
      clear hb3 Hr Hown Hb HC
      go_wp2_with fail
      refine (HE.out _ Hr3.out).mono ?_
      rintro x w4 ⟨rfl, hr4, hf4⟩
      have hap := own_apart Hown3.out Hr3.out (by decide)
      have hown4 := own_fr Hown3.out hf4 (fun g hg h => hap (by rw [hg, show g = b from h]))
      have hb4 := bel_only Hb3.out Hb3.out.size hwb2 hf4
      obtain ⟨v', w5, hrun, hown5, hf5, hbk5⟩ := app_own (P := Tryz.prog) 23 9 _ _ Tryz.underlying23 tstrinf rfl (w := w4) hown4 hb4 hb4.size (.string V) rfl (by unfold maxLen; omega) (by omega)
      have Hr5 := hide (show RV w5 b t' e' from hbk5 _ _ _ hr4 (by decide))
      have Hrun := hide hrun
      have Hown5 := hide hown5
      rw [← tvs_snoc] at Hown5
      have Hf5 := hide hf5
      have Hac := hide (show ∀ s ∈ acc ++ [V], s.size ≤ 2000000000 from fun s hs => by
       rcases List.mem_append.1 hs with h | h
       ·exact hac.out s h
       ·rw [List.mem_singleton.1 h]; omega)
      clear hr4 hf4 hap hown4 hb4 hrun hown5 hf5 hbk5 Hr3 Hown3 Hb3 HE hac
      go_wp2_with (
       at_builtin
       refine wpList_run (by with_reducible rfl) rfl _ _ _ rfl _ _ (by rfl) (by rfl) Hrun.out ?_)
      refine ⟨⟨k + 1, acc ++ [V], t', e', hlt, by go_num, by rw [List.length_append, hacl]; rfl, Hown5, Hr5, hide (by omega), Hst2, Hac, Hf5⟩, ?_⟩
      simp [intOf] <;> omega
     ·have HC := hide (fun W => codec3_any c W)
      have hO := rdO_event (c := c) t e
      have HE := hide (fun W (h : RV W b t e) => ((cd4_any b W).mono fun x W' h2 => (show x = .returned (.string ⟨#[]⟩) ∧ RV W' b t e ∧ Fr (only b) W W' from ⟨h2.1, h2.2 ▸ h, h2.2 ▸ Fr.refl _ _⟩)))
      obtain ⟨V, hV⟩ : ∃ V, (⟨#[]⟩ : ByteArray) = V := ⟨_, rfl⟩
      rw [hV] at hO HE
      clear hV Htyk
      obtain ⟨t', ht'⟩ : ∃ x, t = x := ⟨_, rfl⟩
      obtain ⟨e', he'⟩ : ∃ x, e = x := ⟨_, rfl⟩
      have Hst2 := hide (Hst.out _ _ _ hO)
      have hvs := hO.2.2.2
      have hts4 := hO.2.2.1
      clear hO Hst
      subst ht'
      subst he'
      go_wp2_with fail
      refine (HC.out _).mono ?_
      rintro x w3 ⟨rfl, hb3⟩
      have Hr3 := hide (show RV w3 b t e from Hr.out.below hb3 (Bk.lt Hr.out))
      have Hown3 := hide (own_fr Hown.out (Fr.of_below (S := nob) hb3) (fun _ _ f => f))
      have Hb3 := hide (Hb.out.trans (hb3.mono Hb.out.size))
      clear hb3 Hr Hown Hb HC
      go_wp2_with fail
      refine (HE.out _ Hr3.out).mono ?_
      rintro x w4 ⟨rfl, hr4, hf4⟩
      have hap := own_apart Hown3.out Hr3.out (by decide)
      have hown4 := own_fr Hown3.out hf4 (fun g hg h => hap (by rw [hg, show g = b from h]))
      have hb4 := bel_only Hb3.out Hb3.out.size hwb2 hf4
      obtain ⟨v', w5, hrun, hown5, hf5, hbk5⟩ := app_own (P := Tryz.prog) 23 9 _ _ Tryz.underlying23 tstrinf rfl (w := w4) hown4 hb4 hb4.size (.string V) rfl (by unfold maxLen; omega) (by omega)
      have Hr5 := hide (show RV w5 b t e from hbk5 _ _ _ hr4 (by decide))
      have Hrun := hide hrun
      have Hown5 := hide hown5
      rw [← tvs_snoc] at Hown5
      have Hf5 := hide hf5
      have Hac := hide (show ∀ s ∈ acc ++ [V], s.size ≤ 2000000000 from fun s hs => by
       rcases List.mem_append.1 hs with h | h
       ·exact hac.out s h
       ·rw [List.mem_singleton.1 h]; omega)
      clear hr4 hf4 hap hown4 hb4 hrun hown5 hf5 hbk5 Hr3 Hown3 Hb3 HE hac
      go_wp2_with (
       at_builtin
       refine wpList_run (by with_reducible rfl) rfl _ _ _ rfl _ _ (by rfl) (by rfl) Hrun.out ?_)
      refine ⟨⟨k + 1, acc ++ [V], t, e, hlt, by go_num, by rw [List.length_append, hacl]; rfl, Hown5, Hr5, hide (by omega), Hst2, Hac, Hf5⟩, ?_⟩
      simp [intOf] <;> omega
    ·have hkn : k = n := by omega
     subst hkn
     have e1 : st.take k = st := List.take_of_length_le (by rw [Hn.out]; exact Nat.le_refl _)
     have hrd2 := hrd.out
     unfold RdS at hrd2
     rw [e1] at hrd2
     have Hend := hide (vend_any hr.out)
     obtain ⟨A6, cap6, hv5, _⟩ := own_at hown.out
     injection hv5 with h1 h2 h3
     have h2' := h2.symm
     subst h2'
     clear h1 h3
     by_cases he : endR t e = 0
     ·have he2 : e = 0 ∧ t.size = 0 := by
       unfold endR at he
       split at he
       ·omega
       ·rename_i h; exact ⟨he, by omega⟩
      have hx := HsT.out
      rw [hrd2.1 he2.1] at hx
      have htn : toL t = [] := List.eq_nil_of_length_eq_zero (by rw [toL_length]; exact he2.2)
      rw [htn] at hx
      simp only at hx
      rw [he] at Hend
      have Hx := hide hx
      have Hacl := hide hacl
      clear hx htn hrd2 e1 hrd he he2 hts hacl
      go_wp2_with fail
      refine (Hend.out).mono ?_
      rintro x w3 ⟨rfl, hf3⟩
      have hb3 := bel_only hb.out hb.out.size hwb2 hf3
      have hap := own_apart hown.out hr.out (by decide)
      have hown3 := own_fr hown.out hf3 (fun g hg h => hap (by rw [hg, show g = b from h]))
      obtain ⟨A7, cap7, hv6, hat6⟩ := own_at hown3
      injection hv6 with h1 _ h3
      subst h1
      have HVa := hide (HV.out w3 _ _ acc (Ha.out.below hb3) hat6 (Ht.out.below hb3) (fun s hs => by have := hac.out s hs; omega) cap k cap5 Hacl.out.symm (by omega))
      have Hb3 := hide hb3
      have Hat6 := hide hat6
      clear hf3 hb3 hap hown3 hat6 hown hr hb Hend HV h3 hac
      cases hvb : vasB validS st acc with
      | true =>
       have hx := Hx.out
       rw [if_pos ⟨trivial, hvb⟩] at hx
       have HX := hide hx
       rw [hvb] at HVa
       clear hx hvb Hx
       go_wp2_with fail
       refine (HVa.out).mono ?_
       rintro x w4 ⟨rfl, hb4⟩
       have HR : Hid (DcR w X (.returned (.tuple #[.slice A5 k cap5, .int .i64 0])) w4) := hide (by
        rw [HX.out]
        exact ⟨_, rfl, ⟨_, _, by rw [Hacl.out], Hat6.out.below hb4⟩, Hb3.out.trans (hb4.mono Hb3.out.size)⟩)
       clear hb4 HX Hat6
       go_wp2
       go_returns
       exact HR.out
      | false =>
       have hx := Hx.out
       rw [if_neg (by simp [hvb])] at hx
       have HX := hide hx
       rw [hvb] at HVa
       clear hx hvb Hx
       go_wp2_with fail
       refine (HVa.out).mono ?_
       rintro x w4 ⟨rfl, hb4⟩
       have HR : Hid (DcR w X (.returned (.tuple #[.slice none 0 0, .int .i64 12])) w4) := hide (by
        rw [HX.out]
        exact dcr_err 12 (Hb3.out.trans (hb4.mono Hb3.out.size)))
       clear hb4 HX Hat6
       go_wp2
       go_returns
       exact HR.out
     ·have hX12 : X = ([], 12) := by
       have hx := HsT.out
       by_cases he0 : e = 0
       ·have hs0 : t.size ≠ 0 := fun h => he (by unfold endR; rw [if_neg (by omega)]; exact he0)
        rw [hrd2.1 he0] at hx
        simp only at hx
        rw [if_neg (fun h => hs0 (by have := congrArg List.length h.1; rw [toL_length] at this; exact this))] at hx
        exact hx
       ·rw [hrd2.2 he0] at hx
        exact hx
      have hne : ((endR t e : Int) != 0) = true := by rw [bne_iff_ne]; omega
      have HX := hide hX12
      generalize endR t e = E at *
      clear hrd2 e1 hrd he hts hX12
      go_wp2_with fail
      refine (Hend.out).mono ?_
      rintro x w3 ⟨rfl, hf3⟩
      have hb3 := bel_only hb.out hb.out.size hwb2 hf3
      have HR : Hid (DcR w X (.returned (.tuple #[.slice none 0 0, .int .i64 12])) w3) := hide (by
       rw [HX.out]
       exact dcr_err 12 hb3)
      clear hb3 hf3 HX hown hr hb Hend HV hac
      go_wp2
      go_returns
      exact HR.out
  ·rw [decide_eq_false hd0] at hem
   cases hf : fparse data with
   | none =>
    have hu : uwV data = .tuple #[.agg #[.int .i64 0, .string ⟨#[]⟩], .int .i64 0, .int .i64 12] := by unfold uwV; rw [hf]
    rw [hu] at HU
    have HX := hide (Hsn.out (snT_no hd0 hf))
    clear hu hf hd0 hds Hsn HsV HV
    generalize bs data = S at *
    go_enter Tryz.func13, Tryz.ntmps13
    go_wp2_with fail
    refine (Hty.out).mono ?_
    rintro x w1 ⟨rfl, hb1⟩
    have Hb0 := hide hb1
    clear hb1
    go_wp2_with fail
    refine (HU.out _).mono ?_
    rintro x w2 ⟨rfl, hb2⟩
    have hb3 := Hb0.out.trans (hb2.mono Hb0.out.size)
    have Hb3 := hide (hb3.alloc hb3.size (.cells #[.int .i64 0, .string ⟨#[]⟩] 50))
    clear hb2 hb3
    go_wp2
    go_returns
    rw [HX.out]
    exact dcr_err 12 Hb3.out
   | some p =>
    obtain ⟨kk, c, q⟩ := p
    have hu : uwV data = .tuple #[.agg #[.int .i64 (kk : Int), .string (bs c)], .int .i64 (q : Int), .int .i64 0] := by unfold uwV; rw [hf]; rfl
    rw [hu] at HU
    have hsT := snT_some hd0 hf
    have hcl := fparse_cl hf
    have hemc := bs_emp c
    by_cases hg : q = data.length ∧ kk = 4 ∧ c ≠ []
    ·rw [if_pos hg] at hsT
     obtain ⟨g1, g2, g3⟩ := hg
     rw [decide_eq_false g3] at hemc
     have hq : ((q : Int) != (data.length : Int)) = false := by rw [g1]; exact bne_self_eq_false _
     subst g2
     have HTl := hide hcl
     have HbT : Hid (bs c = bs c) := hide rfl
     have HsT := hide (HsV.out c hsT)
     have HNw := hide (fun W => vnewE (bs c) W)
     clear hu hf hd0 hsT hcl g1 g3 Hsn HsV
     obtain ⟨dl, hdl⟩ : ∃ x, data.length = x := ⟨_, rfl⟩
     rw [hdl] at hq hds
     clear hdl hd
     generalize bs data = S at *
     obtain ⟨SC, hSC⟩ : ∃ s, bs c = s := ⟨_, rfl⟩
     have HbT : Hid (bs c = SC) := hide hSC
     rw [hSC] at HNw hemc HU
     clear hSC
     go_enter Tryz.func13, Tryz.ntmps13
     go_wp2_with fail
     refine (Hty.out).mono ?_
     rintro x w1 ⟨rfl, hb1⟩
     have Hb0' := hide hb1
     clear hb1
     go_wp2_with fail
     refine (HU.out _).mono ?_
     rintro x w1b ⟨rfl, hb2⟩
     have hb3 := Hb0'.out.trans (hb2.mono Hb0'.out.size)
     have Hb0 := hide (hb3.alloc hb3.size (.cells #[.int .i64 4, .string SC] 50))
     clear hb2 hb3 Hb0'
     generalize hTT : c = T at *
     clear hTT
     go_wp2_with fail
     refine (HNw.out _).mono ?_
     rintro x w2 ⟨b, rfl, hr2, hwb, hb2⟩
     have Hb2 := hide (Hb0.out.trans (hb2.mono Hb0.out.size))
     have hwb2 : w.heap.size ≤ b := Nat.le_trans Hb0.out.size hwb
     have hr2' : RV w2 b (bs T) 0 := by rw [← HbT.out] at hr2; exact hr2
     have Hr2 := hide hr2'
     clear hb2 hwb hr2 hr2' Hb0 HNw
     go_wp2
     go_loopw [11, 49] (fun s11 s49 wr => ∃ (k : Nat) (acc : List ByteArray) (t : ByteArray) (e : Nat), k ≤ n ∧ s49 = .int .i64 (k : Int) ∧ acc.length = k ∧ Hid (wr.ownsRow w.heap.size 9 1 s11 k (tvs acc)) ∧ Hid (RV wr b t e) ∧ Hid (t.size ≤ 1000000000) ∧ Hid (RdS st T k acc t e) ∧ Hid (∀ s ∈ acc, s.size ≤ 2000000000) ∧ Hid (Below w.heap.size w wr)) (fun _ s49 _ => (n - intOf s49).toNat)
     case atStart => exact ⟨0, [], bs T, 0, Nat.zero_le _, rfl, rfl, hide own_nil, Hr2, hide (by rw [bs_size]; exact HTl.out), hide ⟨fun _ => by rw [List.take_zero]; rfl, fun h => absurd rfl h⟩, hide (fun s h => by cases h), Hb2⟩
     case round =>
      clear Hb2 Hr2
      obtain ⟨k, acc, t, e, hk, rfl, hacl, hown, hr, hts, hrd, hac, hb⟩ := hrel
      obtain ⟨A5, M5, cap5, rfl⟩ := own_slice hown.out
      by_cases hlt : k < n
      ·have hkl : k < st.length := by rw [← Hn.out]; exact hlt
       obtain ⟨bA, oA, rfl, c0, c1⟩ := at_type (Ha.out.below hb.out) k hkl
       have hts2 := Hall.out st[k] (List.getElem_mem _)
       have Hst := hide (fun (v t' : ByteArray) (e' : Nat) (hO : RdO st[k] t e v t' e') => rd_step hkl hO hrd.out)
       obtain ⟨⟨a, c⟩, hs⟩ : ∃ x, st[k] = x := ⟨_, rfl⟩
       rw [hs] at c0 c1 hts2 Hst
       simp only at c0 c1
       have hkind : a = 0 ∨ a = 1 ∨ a = 2 ∨ a = 3 := by rcases tyB_kind hts2 with h | ⟨h | h | h, _⟩ <;> simp at h <;> omega
       have hba := (Below.refl wr.heap.size wr).alloc (Nat.le_refl _) (.cells #[.int .i64 a, .int .i64 c] 44)
       have Hr := hide (hr.out.below hba (Bk.lt hr.out))
       have Hown := hide (own_fr hown.out (Fr.of_below (S := nob) hba) (fun _ _ f => f))
       have Hb := hide (hb.out.alloc hb.out.size (.cells #[.int .i64 a, .int .i64 c] 44))
       have Htyk := hide hts2
       have hk0 : (0 : Int) ≤ (k : Int) := by omega
       have hltI : (k : Int) < (n : Int) := by omega
       have hts3 := hts.out
       clear hts2 hs hkl hb hown hr hba hrd hts
       rcases hkind with rfl | rfl | rfl | rfl
       ·obtain ⟨w1', w2'⟩ := tyB_bits Htyk.out rfl
        simp only at w1' w2'
        obtain ⟨N, rfl⟩ : ∃ N : Nat, c = (N : Int) := ⟨c.toNat, by omega⟩
        have HC := hide (fun W => codec0_any N (by omega) W)
        have hO := rdO_bits (n := N) (by omega) (by omega) t e
        have HE := hide (fun W b1 b3 h k1 k3 => cd2_any N (by omega) (by omega) (w := W) (b := b) (b1 := b1) (b3 := b3) (s := t) (e := e) h (by omega) k1 k3)
        obtain ⟨V, hV⟩ : ∃ V, (bs (bitsT (toL (takeR t e ((N + 7) / 8 : Nat)).1) (toL (takeR (takeR t e ((N + 7) / 8 : Nat)).2.1 (takeR t e ((N + 7) / 8 : Nat)).2.2 ((N + 7) / 8 : Nat)).1) N)) = V := ⟨_, rfl⟩
        obtain ⟨R2, hR2⟩ : ∃ R, (takeR (takeR t e ((N + 7) / 8 : Nat)).2.1 (takeR t e ((N + 7) / 8 : Nat)).2.2 ((N + 7) / 8 : Nat)) = R := ⟨_, rfl⟩
        rw [hV, hR2] at hO HE
        obtain ⟨r1, t', e'⟩ := R2
        simp only at hO HE
        clear hV hR2 w1' w2' Htyk
        have Hst2 := hide (Hst.out _ _ _ hO)
        have hvs := hO.2.2.2
        have hts4 := hO.2.2.1
        clear hO Hst
        go_wp2_with fail
        refine (HC.out _).mono ?_
        rintro x w3 ⟨b1, b3, rfl, k1, k3, hb3⟩
        have Hk1 := hide k1
        have Hk3 := hide k3
        clear k1 k3
        have Hr3 := hide (show RV w3 b t e from Hr.out.below hb3 (Bk.lt Hr.out))
        have Hown3 := hide (own_fr Hown.out (Fr.of_below (S := nob) hb3) (fun _ _ f => f))
        have Hb3 := hide (Hb.out.trans (hb3.mono Hb.out.size))
        clear hb3 Hr Hown Hb HC
        go_wp2_with fail
        refine (HE.out _ b1 b3 Hr3.out Hk1.out Hk3.out).mono ?_
        rintro x w4 ⟨rfl, hr4, hf4⟩
        have hap := own_apart Hown3.out Hr3.out (by decide)
        have hown4 := own_fr Hown3.out hf4 (fun g hg h => hap (by rw [hg, show g = b from h]))
        have hb4 := bel_only Hb3.out Hb3.out.size hwb2 hf4
        obtain ⟨v', w5, hrun, hown5, hf5, hbk5⟩ := app_own (P := Tryz.prog) 23 9 _ _ Tryz.underlying23 tstrinf rfl (w := w4) hown4 hb4 hb4.size (.string V) rfl (by unfold maxLen; omega) (by omega)
        have Hr5 := hide (show RV w5 b t' e' from hbk5 _ _ _ hr4 (by decide))
        have Hrun := hide hrun
        have Hown5 := hide hown5
        rw [← tvs_snoc] at Hown5
        have Hf5 := hide hf5
        have Hac := hide (show ∀ s ∈ acc ++ [V], s.size ≤ 2000000000 from fun s hs => by
         rcases List.mem_append.1 hs with h | h
         ·exact hac.out s h
         ·rw [List.mem_singleton.1 h]; omega)
        clear hr4 hf4 hap hown4 hb4 hrun hown5 hf5 hbk5 Hr3 Hown3 Hb3 HE hac
        go_wp2_with (
         at_builtin
         refine wpList_run (by with_reducible rfl) rfl _ _ _ rfl _ _ (by rfl) (by rfl) Hrun.out ?_)
        refine ⟨⟨k + 1, acc ++ [V], t', e', hlt, by go_num, by rw [List.length_append, hacl]; rfl, Hown5, Hr5, hide (by omega), Hst2, Hac, Hf5⟩, ?_⟩
        simp [intOf] <;> omega
       ·have HC := hide (fun W => codec1_any c W)
        have hO := rdO_text (a := 1) (c := c) (by omega) t e
        have HE := hide (fun W (h : RV W b t e) => cd5_any h (by omega))
        obtain ⟨R2, hR2⟩ : ∃ R, textR t e 4096 = R := ⟨_, rfl⟩
        rw [hR2] at hO HE
        obtain ⟨V, t', e'⟩ := R2
        simp only at hO HE
        clear hR2 Htyk
        have Hst2 := hide (Hst.out _ _ _ hO)
        have hvs := hO.2.2.2
        have hts4 := hO.2.2.1
        clear hO Hst
        go_wp2_with fail
        refine (HC.out _).mono ?_
        rintro x w3 ⟨rfl, hb3⟩
        have Hr3 := hide (show RV w3 b t e from Hr.out.below hb3 (Bk.lt Hr.out))
        have Hown3 := hide (own_fr Hown.out (Fr.of_below (S := nob) hb3) (fun _ _ f => f))
        have Hb3 := hide (Hb.out.trans (hb3.mono Hb.out.size))
        clear hb3 Hr Hown Hb HC
        go_wp2_with fail
        refine (HE.out _ Hr3.out).mono ?_
        rintro x w4 ⟨rfl, hr4, hf4⟩
        have hap := own_apart Hown3.out Hr3.out (by decide)
        have hown4 := own_fr Hown3.out hf4 (fun g hg h => hap (by rw [hg, show g = b from h]))
        have hb4 := bel_only Hb3.out Hb3.out.size hwb2 hf4
        obtain ⟨v', w5, hrun, hown5, hf5, hbk5⟩ := app_own (P := Tryz.prog) 23 9 _ _ Tryz.underlying23 tstrinf rfl (w := w4) hown4 hb4 hb4.size (.string V) rfl (by unfold maxLen; omega) (by omega)
        have Hr5 := hide (show RV w5 b t' e' from hbk5 _ _ _ hr4 (by decide))
        have Hrun := hide hrun
        have Hown5 := hide hown5
        rw [← tvs_snoc] at Hown5
        have Hf5 := hide hf5
        have Hac := hide (show ∀ s ∈ acc ++ [V], s.size ≤ 2000000000 from fun s hs => by
         rcases List.mem_append.1 hs with h | h
         ·exact hac.out s h
         ·rw [List.mem_singleton.1 h]; omega)
        clear hr4 hf4 hap hown4 hb4 hrun hown5 hf5 hbk5 Hr3 Hown3 Hb3 HE hac
        go_wp2_with (
         at_builtin
         refine wpList_run (by with_reducible rfl) rfl _ _ _ rfl _ _ (by rfl) (by rfl) Hrun.out ?_)
        refine ⟨⟨k + 1, acc ++ [V], t', e', hlt, by go_num, by rw [List.length_append, hacl]; rfl, Hown5, Hr5, hide (by omega), Hst2, Hac, Hf5⟩, ?_⟩
        simp [intOf] <;> omega
       ·have HC := hide (fun W => codec2_any c W)
        have hO := rdO_text (a := 2) (c := c) (by omega) t e
        have HE := hide (fun W (h : RV W b t e) => cd5_any h (by omega))
        obtain ⟨R2, hR2⟩ : ∃ R, textR t e 4096 = R := ⟨_, rfl⟩
        rw [hR2] at hO HE
        obtain ⟨V, t', e'⟩ := R2
        simp only at hO HE
        clear hR2 Htyk
        have Hst2 := hide (Hst.out _ _ _ hO)
        have hvs := hO.2.2.2
        have hts4 := hO.2.2.1
        clear hO Hst
        go_wp2_with fail
        refine (HC.out _).mono ?_
        rintro x w3 ⟨rfl, hb3⟩
        have Hr3 := hide (show RV w3 b t e from Hr.out.below hb3 (Bk.lt Hr.out))
        have Hown3 := hide (own_fr Hown.out (Fr.of_below (S := nob) hb3) (fun _ _ f => f))
        have Hb3 := hide (Hb.out.trans (hb3.mono Hb.out.size))
        clear hb3 Hr Hown Hb HC
        go_wp2_with fail
        refine (HE.out _ Hr3.out).mono ?_
        rintro x w4 ⟨rfl, hr4, hf4⟩
        have hap := own_apart Hown3.out Hr3.out (by decide)
        have hown4 := own_fr Hown3.out hf4 (fun g hg h => hap (by rw [hg, show g = b from h]))
        have hb4 := bel_only Hb3.out Hb3.out.size hwb2 hf4
        obtain ⟨v', w5, hrun, hown5, hf5, hbk5⟩ := app_own (P := Tryz.prog) 23 9 _ _ Tryz.underlying23 tstrinf rfl (w := w4) hown4 hb4 hb4.size (.string V) rfl (by unfold maxLen; omega) (by omega)
        have Hr5 := hide (show RV w5 b t' e' from hbk5 _ _ _ hr4 (by decide))
        have Hrun := hide hrun
        have Hown5 := hide hown5
        rw [← tvs_snoc] at Hown5
        have Hf5 := hide hf5
        have Hac := hide (show ∀ s ∈ acc ++ [V], s.size ≤ 2000000000 from fun s hs => by
         rcases List.mem_append.1 hs with h | h
         ·exact hac.out s h
         ·rw [List.mem_singleton.1 h]; omega)
        clear hr4 hf4 hap hown4 hb4 hrun hown5 hf5 hbk5 Hr3 Hown3 Hb3 HE hac
        go_wp2_with (
         at_builtin
         refine wpList_run (by with_reducible rfl) rfl _ _ _ rfl _ _ (by rfl) (by rfl) Hrun.out ?_)
        refine ⟨⟨k + 1, acc ++ [V], t', e', hlt, by go_num, by rw [List.length_append, hacl]; rfl, Hown5, Hr5, hide (by omega), Hst2, Hac, Hf5⟩, ?_⟩
        simp [intOf] <;> omega
       ·have HC := hide (fun W => codec3_any c W)
        have hO := rdO_event (c := c) t e
        have HE := hide (fun W (h : RV W b t e) => ((cd4_any b W).mono fun x W' h2 => (show x = .returned (.string ⟨#[]⟩) ∧ RV W' b t e ∧ Fr (only b) W W' from ⟨h2.1, h2.2 ▸ h, h2.2 ▸ Fr.refl _ _⟩)))
        obtain ⟨V, hV⟩ : ∃ V, (⟨#[]⟩ : ByteArray) = V := ⟨_, rfl⟩
        rw [hV] at hO HE
        clear hV Htyk
        obtain ⟨t', ht'⟩ : ∃ x, t = x := ⟨_, rfl⟩
        obtain ⟨e', he'⟩ : ∃ x, e = x := ⟨_, rfl⟩
        have Hst2 := hide (Hst.out _ _ _ hO)
        have hvs := hO.2.2.2
        have hts4 := hO.2.2.1
        clear hO Hst
        subst ht'
        subst he'
        go_wp2_with fail
        refine (HC.out _).mono ?_
        rintro x w3 ⟨rfl, hb3⟩
        have Hr3 := hide (show RV w3 b t e from Hr.out.below hb3 (Bk.lt Hr.out))
        have Hown3 := hide (own_fr Hown.out (Fr.of_below (S := nob) hb3) (fun _ _ f => f))
        have Hb3 := hide (Hb.out.trans (hb3.mono Hb.out.size))
        clear hb3 Hr Hown Hb HC
        go_wp2_with fail
        refine (HE.out _ Hr3.out).mono ?_
        rintro x w4 ⟨rfl, hr4, hf4⟩
        have hap := own_apart Hown3.out Hr3.out (by decide)
        have hown4 := own_fr Hown3.out hf4 (fun g hg h => hap (by rw [hg, show g = b from h]))
        have hb4 := bel_only Hb3.out Hb3.out.size hwb2 hf4
        obtain ⟨v', w5, hrun, hown5, hf5, hbk5⟩ := app_own (P := Tryz.prog) 23 9 _ _ Tryz.underlying23 tstrinf rfl (w := w4) hown4 hb4 hb4.size (.string V) rfl (by unfold maxLen; omega) (by omega)
        have Hr5 := hide (show RV w5 b t e from hbk5 _ _ _ hr4 (by decide))
        have Hrun := hide hrun
        have Hown5 := hide hown5
        rw [← tvs_snoc] at Hown5
        have Hf5 := hide hf5
        have Hac := hide (show ∀ s ∈ acc ++ [V], s.size ≤ 2000000000 from fun s hs => by
         rcases List.mem_append.1 hs with h | h
         ·exact hac.out s h
         ·rw [List.mem_singleton.1 h]; omega)
        clear hr4 hf4 hap hown4 hb4 hrun hown5 hf5 hbk5 Hr3 Hown3 Hb3 HE hac
        go_wp2_with (
         at_builtin
         refine wpList_run (by with_reducible rfl) rfl _ _ _ rfl _ _ (by rfl) (by rfl) Hrun.out ?_)
        refine ⟨⟨k + 1, acc ++ [V], t, e, hlt, by go_num, by rw [List.length_append, hacl]; rfl, Hown5, Hr5, hide (by omega), Hst2, Hac, Hf5⟩, ?_⟩
        simp [intOf] <;> omega
      ·have hkn : k = n := by omega
       subst hkn
       have e1 : st.take k = st := List.take_of_length_le (by rw [Hn.out]; exact Nat.le_refl _)
       have hrd2 := hrd.out
       unfold RdS at hrd2
       rw [e1] at hrd2
       have Hend := hide (vend_any hr.out)
       obtain ⟨A6, cap6, hv5, _⟩ := own_at hown.out
       injection hv5 with h1 h2 h3
       have h2' := h2.symm
       subst h2'
       clear h1 h3
       by_cases he : endR t e = 0
       ·have he2 : e = 0 ∧ t.size = 0 := by
         unfold endR at he
         split at he
         ·omega
         ·rename_i h; exact ⟨he, by omega⟩
        have hx := HsT.out
        rw [hrd2.1 he2.1] at hx
        have htn : toL t = [] := List.eq_nil_of_length_eq_zero (by rw [toL_length]; exact he2.2)
        rw [htn] at hx
        simp only at hx
        rw [he] at Hend
        have Hx := hide hx
        have Hacl := hide hacl
        clear hx htn hrd2 e1 hrd he he2 hts hacl
        go_wp2_with fail
        refine (Hend.out).mono ?_
        rintro x w3 ⟨rfl, hf3⟩
        have hb3 := bel_only hb.out hb.out.size hwb2 hf3
        have hap := own_apart hown.out hr.out (by decide)
        have hown3 := own_fr hown.out hf3 (fun g hg h => hap (by rw [hg, show g = b from h]))
        obtain ⟨A7, cap7, hv6, hat6⟩ := own_at hown3
        injection hv6 with h1 _ h3
        subst h1
        have HVa := hide (HV.out w3 _ _ acc (Ha.out.below hb3) hat6 (Ht.out.below hb3) (fun s hs => by have := hac.out s hs; omega) cap k cap5 Hacl.out.symm (by omega))
        have Hb3 := hide hb3
        have Hat6 := hide hat6
        clear hf3 hb3 hap hown3 hat6 hown hr hb Hend HV h3 hac
        cases hvb : vasB validS st acc with
        | true =>
         have hx := Hx.out
         rw [if_pos ⟨trivial, hvb⟩] at hx
         have HX := hide hx
         rw [hvb] at HVa
         clear hx hvb Hx
         go_wp2_with fail
         refine (HVa.out).mono ?_
         rintro x w4 ⟨rfl, hb4⟩
         have HR : Hid (DcR w X (.returned (.tuple #[.slice A5 k cap5, .int .i64 0])) w4) := hide (by
          rw [HX.out]
          exact ⟨_, rfl, ⟨_, _, by rw [Hacl.out], Hat6.out.below hb4⟩, Hb3.out.trans (hb4.mono Hb3.out.size)⟩)
         clear hb4 HX Hat6
         go_wp2
         go_returns
         exact HR.out
        | false =>
         have hx := Hx.out
         rw [if_neg (by simp [hvb])] at hx
         have HX := hide hx
         rw [hvb] at HVa
         clear hx hvb Hx
         go_wp2_with fail
         refine (HVa.out).mono ?_
         rintro x w4 ⟨rfl, hb4⟩
         have HR : Hid (DcR w X (.returned (.tuple #[.slice none 0 0, .int .i64 12])) w4) := hide (by
          rw [HX.out]
          exact dcr_err 12 (Hb3.out.trans (hb4.mono Hb3.out.size)))
         clear hb4 HX Hat6
         go_wp2
         go_returns
         exact HR.out
       ·have hX12 : X = ([], 12) := by
         have hx := HsT.out
         by_cases he0 : e = 0
         ·have hs0 : t.size ≠ 0 := fun h => he (by unfold endR; rw [if_neg (by omega)]; exact he0)
          rw [hrd2.1 he0] at hx
          simp only at hx
          rw [if_neg (fun h => hs0 (by have := congrArg List.length h.1; rw [toL_length] at this; exact this))] at hx
          exact hx
         ·rw [hrd2.2 he0] at hx
          exact hx
        have hne : ((endR t e : Int) != 0) = true := by rw [bne_iff_ne]; omega
        have HX := hide hX12
        generalize endR t e = E at *
        clear hrd2 e1 hrd he hts hX12
        go_wp2_with fail
        refine (Hend.out).mono ?_
        rintro x w3 ⟨rfl, hf3⟩
        have hb3 := bel_only hb.out hb.out.size hwb2 hf3
        have HR : Hid (DcR w X (.returned (.tuple #[.slice none 0 0, .int .i64 12])) w3) := hide (by
         rw [HX.out]
         exact dcr_err 12 hb3)
        clear hb3 hf3 HX hown hr hb Hend HV hac
        go_wp2
        go_returns
        exact HR.out
    ·rw [if_neg hg] at hsT
     have HX := hide (Hsn.out hsT)
     have hcase : q ≠ data.length ∨ (q = data.length ∧ kk ≠ 4) ∨ (q = data.length ∧ kk = 4 ∧ c = []) := by
      by_cases h1 : q = data.length
      ·by_cases h2 : kk = 4
       ·by_cases h3 : c = []
        ·exact .inr (.inr ⟨h1, h2, h3⟩)
        ·exact absurd ⟨h1, h2, h3⟩ hg
       ·exact .inr (.inl ⟨h1, h2⟩)
      ·exact .inl h1
     clear hu hf hd0 hg hsT hcl Hsn HsV HV
     obtain ⟨dl, hdl⟩ : ∃ x, data.length = x := ⟨_, rfl⟩
     rw [hdl] at hcase hds
     clear hdl hd
     generalize bs data = S at *
     rcases hcase with g1 | ⟨g1, g2⟩ | ⟨g1, g2, g3⟩
     ·have hq : ((q : Int) != (dl : Int)) = true := by rw [bne_iff_ne]; omega
      clear g1 hemc
      generalize bs c = SC at *
      go_enter Tryz.func13, Tryz.ntmps13
      go_wp2_with fail
      refine (Hty.out).mono ?_
      rintro x w1 ⟨rfl, hb1⟩
      have Hb0 := hide hb1
      clear hb1
      go_wp2_with fail
      refine (HU.out _).mono ?_
      rintro x w2 ⟨rfl, hb2⟩
      have hb3 := Hb0.out.trans (hb2.mono Hb0.out.size)
      have Hb3 := hide (hb3.alloc hb3.size (.cells #[.int .i64 (kk : Int), .string SC] 50))
      clear hb2 hb3
      go_wp2
      go_returns
      rw [HX.out]
      exact dcr_err 12 Hb3.out
     ·have hq : ((q : Int) != (dl : Int)) = false := by rw [g1]; exact bne_self_eq_false _
      have hk4 : ((kk : Int) != 4) = true := by rw [bne_iff_ne]; omega
      clear g1 g2 hemc
      generalize bs c = SC at *
      go_enter Tryz.func13, Tryz.ntmps13
      go_wp2_with fail
      refine (Hty.out).mono ?_
      rintro x w1 ⟨rfl, hb1⟩
      have Hb0 := hide hb1
      clear hb1
      go_wp2_with fail
      refine (HU.out _).mono ?_
      rintro x w2 ⟨rfl, hb2⟩
      have hb3 := Hb0.out.trans (hb2.mono Hb0.out.size)
      have Hb3 := hide (hb3.alloc hb3.size (.cells #[.int .i64 (kk : Int), .string SC] 50))
      clear hb2 hb3
      go_wp2
      go_returns
      rw [HX.out]
      exact dcr_err 12 Hb3.out
     ·have hq : ((q : Int) != (dl : Int)) = false := by rw [g1]; exact bne_self_eq_false _
      subst g2
      rw [decide_eq_true g3] at hemc
      clear g1 g3
      generalize bs c = SC at *
      go_enter Tryz.func13, Tryz.ntmps13
      go_wp2_with fail
      refine (Hty.out).mono ?_
      rintro x w1 ⟨rfl, hb1⟩
      have Hb0 := hide hb1
      clear hb1
      go_wp2_with fail
      refine (HU.out _).mono ?_
      rintro x w2 ⟨rfl, hb2⟩
      have hb3 := Hb0.out.trans (hb2.mono Hb0.out.size)
      have Hb3 := hide (hb3.alloc hb3.size (.cells #[.int .i64 4, .string SC] 50))
      clear hb2 hb3
      go_wp2
      go_returns
      rw [HX.out]
      exact dcr_err 12 Hb3.out
end Go.Proofs.YtjfcemlbbinanaaGreatDoor
