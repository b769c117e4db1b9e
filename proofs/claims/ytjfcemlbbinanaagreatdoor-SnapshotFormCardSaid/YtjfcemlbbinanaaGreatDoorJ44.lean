/-
  Joined texts: Xh, Xp, Xq.
-/
import Derived.Test.YtjfcemlbbinanaaGreatDoorJ43
import Derived.Test.YtjfcemlbbinanaaGreatDoorJ36
set_option linter.unusedVariables false
set_option linter.unusedSimpArgs false
/-
  The walks over snapshots: One.
-/
namespace Go.Proofs.YtjfcemlbbinanaaGreatDoor
open Go.RowKit Go.Proofs Wv Wv.Vi Wv.Bc Wv.Sn Wv.Dc Wv.Fm
set_option linter.unusedVariables false
theorem snD_len {st : List (Int × Int)} {data : List UInt8} (h : (snD validS st data).2 = 0) : (snD validS st data).1.length = st.length := by
 unfold snD at h ⊢
 split at h
 ·cases h
 ·rename_i h1
  rw [if_neg h1]
  cases hT : snT data with
  | none => rw [hT] at h; cases h
  | some T =>
   rw [hT] at h
   simp only at h ⊢
   cases hr : rdVs st T with
   | none => rw [hr] at h; cases h
   | some p =>
    obtain ⟨vs, r⟩ := p
    rw [hr] at h
    simp only at h ⊢
    by_cases h2 : r = [] ∧ vasB validS st vs = true
    ·rw [if_pos h2]
     exact rdVs_len hr
    ·rw [if_neg h2] at h
     cases h
set_option maxRecDepth 100000 in
set_option maxHeartbeats 4000000 in
theorem sone_any {w : World} {A : Option Addr} {st : List (Int × Int)} (ha : At w A (pv st)) (data : List UInt8) (hd : data.length ≤ 1000000000) (ht : Tab w) (i : Int) (n cap : Nat) (hn : n = st.length) (hn4 : n ≤ 9223372036854775807) :
  Calls Tryz.prog 14 #[.slice A n cap, .string (bs data), .int .i64 i] w fun x w' => x = .returned (.tuple #[.string (snO validS st data i).1, .int .i64 ((snO validS st data i).2 : Int)]) ∧ Below w.heap.size w w' := by
 have Hty := hide (stypes_any ha n cap hn hn4)
 have HD := hide (fun W (hb : Below w.heap.size w W) => sdecode_any (ha.below hb) data hd (ht.below hb) n cap hn hn4)
 have hO : snO validS st data i = if tysB st = false then (bs [], 1) else if i < 0 ∨ (n : Int) ≤ i then (bs [], 2) else
  if (snD validS st data).2 ≠ 0 then (bs [], (snD validS st data).2) else ((snD validS st data).1.getD i.toNat default, 0) := by rw [hn]; rfl
 have hL := fun h => snD_len (st := st) (data := data) h
 rw [← hn] at hL
 generalize snD validS st data = D at *
 obtain ⟨l, e⟩ := D
 simp only at hO hL
 generalize snO validS st data i = X at *
 clear ha hn ht hd
 generalize bs data = S at *
 cases hty : tysB st with
 | false =>
  rw [hty] at Hty
  rw [if_pos hty] at hO
  have HO := hide hO
  clear hty hO
  go_enter Tryz.func14, Tryz.ntmps14
  go_wp2_with fail
  refine (Hty.out).mono ?_
  rintro x w1 ⟨rfl, hb1⟩
  go_wp2
  go_returns
  exact ⟨by rw [HO.out]; rfl, hb1⟩
 | true =>
  rw [hty] at Hty
  rw [if_neg (by simp [hty])] at hO
  clear hty
  by_cases h1 : i < 0
  ·rw [if_pos (.inl h1)] at hO
   have HO := hide hO
   clear hO
   go_enter Tryz.func14, Tryz.ntmps14
   go_wp2_with fail
   refine (Hty.out).mono ?_
   rintro x w1 ⟨rfl, hb1⟩
   go_wp2
   go_returns
   exact ⟨by rw [HO.out]; rfl, hb1⟩
  ·by_cases h2 : (n : Int) ≤ i
   ·rw [if_pos (.inr h2)] at hO
    have HO := hide hO
    clear hO
    go_enter Tryz.func14, Tryz.ntmps14
    go_wp2_with fail
    refine (Hty.out).mono ?_
    rintro x w1 ⟨rfl, hb1⟩
    go_wp2
    go_returns
    exact ⟨by rw [HO.out]; rfl, hb1⟩
   ·rw [if_neg (fun h => h.elim h1 h2)] at hO
    by_cases he : e = 0
    ·rw [if_neg (by simp [he])] at hO
     have hl := hL he
     have e0 : ((e : Int) != 0) = false := by rw [he]; rfl
     obtain ⟨k, rfl⟩ : ∃ k : Nat, i = (k : Int) := ⟨i.toNat, by omega⟩
     rw [Int.toNat_natCast] at hO
     have hkl : k < l.length := by omega
     have hget : l.getD k default = l[k] := by simp [List.getD, hkl]
     rw [hget] at hO
     have HO := hide hO
     have hkn : (k : Int) < (n : Int) := by omega
     have hk0 : (0 : Int) ≤ (k : Int) := by omega
     have Hl := hide hl
     have Hkl := hide hkl
     clear hO hget hL hl he
     go_enter Tryz.func14, Tryz.ntmps14
     go_wp2_with fail
     refine (Hty.out).mono ?_
     rintro x w1 ⟨rfl, hb1⟩
     have Hb1 := hide hb1
     clear hb1
     go_wp2_with fail
     refine (HD.out _ Hb1.out).mono ?_
     rintro x w2 ⟨v, rfl, ⟨A2, cap2, rfl, hat⟩, hb2⟩
     obtain ⟨bB, oB, rfl, _, d0⟩ := at_text hat k hkl
     rw [Hl.out]
     have Hb2 := hide (Hb1.out.trans (hb2.mono Hb1.out.size))
     generalize l[k] = V at *
     clear hb2 hat hkl
     go_wp2
     go_returns
     exact ⟨by rw [HO.out]; rfl, Hb2.out⟩
    ·rw [if_pos he] at hO
     have e0 : ((e : Int) != 0) = true := by rw [bne_iff_ne]; omega
     have HO := hide hO
     clear hO hL he
     go_enter Tryz.func14, Tryz.ntmps14
     go_wp2_with fail
     refine (Hty.out).mono ?_
     rintro x w1 ⟨rfl, hb1⟩
     have Hb1 := hide hb1
     clear hb1
     go_wp2_with fail
     refine (HD.out _ Hb1.out).mono ?_
     rintro x w2 ⟨v, rfl, ⟨A2, cap2, rfl, hat⟩, hb2⟩
     have Hb2 := hide (Hb1.out.trans (hb2.mono Hb1.out.size))
     clear hb2 hat
     go_wp2
     go_returns
     exact ⟨by rw [HO.out]; rfl, Hb2.out⟩
end Go.Proofs.YtjfcemlbbinanaaGreatDoor
/-
  The laws of snapshots: the chapter's example; tables.
-/
namespace Wv.Sn
open Wv.Vi Wv.Ru Wv.Bc Wv.Fm Wv.Lz Wv.Dc
theorem aw_val : vasB validS [(0, 2)] [bs [49, 120]] = true := by
 unfold vasB vasL vaB kvB
 rw [if_pos rfl, toL_bs]
 decide
theorem aw_text : textS [(0, 2)] [bs [49, 120]] = [128, 64] := by decide
theorem wrapS_len {k : Nat} {c w : List UInt8} (h : wrapS k c = some w) : w.length ≤ 5000 := by
 unfold wrapS at h
 cases ht : lzE c with
 | none => rw [ht] at h; cases h
 | some t =>
  rw [ht] at h
  injection h with h
  have hc := lzE_some ht
  rw [← h, wrapT_len]
  have h1 : (bodyT c t).length ≤ 4096 := by unfold bodyT; split <;> omega
  have h2 := num_length (bodyT c t).length
  have h3 := kof_le (bodyT c t).length
  omega
theorem aw_law : ∃ d, snE validS [(0, 2)] [bs [49, 120]] = (d, 0) ∧ fparse d = some (4, [128, 64], d.length) ∧ snO validS [(0, 2)] d 0 = (bs [49, 120], 0) ∧ d.length ≤ 1000000000 := by
 have hw := wrapS_some (k := 4) (c := [128, 64])
 rw [decide_eq_true (by decide)] at hw
 cases h : wrapS 4 [128, 64] with
 | none => rw [h] at hw; cases hw
 | some d =>
  have hE : snE validS [(0, 2)] [bs [49, 120]] = (d, 0) := by
   unfold snE
   rw [if_neg (by rw [aw_val]; decide), aw_text, if_neg (by decide), h]
  have hf := fparse_wrap (by decide) h []
  rw [List.append_nil] at hf
  refine ⟨d, hE, hf, ?_, ?_⟩
  ·unfold snO
   rw [if_neg (by decide), if_neg (by decide), snD_E hE]
   rfl
  ·have := wrapS_len h
   omega
theorem snE_dlen {st : List (Int × Int)} {vs : List ByteArray} {d : List UInt8} (h : snE validS st vs = (d, 0)) : d.length ≤ 1000000000 := by
 rcases (snE_val h).2 with ⟨_, h1⟩ | ⟨_, h1⟩
 ·rw [h1]; decide
 ·have := wrapS_len h1
  omega
end Wv.Sn
namespace Go.Proofs.YtjfcemlbbinanaaGreatDoor
open Go.RowKit Go.Proofs Wv Wv.Vi Wv.Bc Wv.Sn Wv.Dc Wv.Fm
set_option linter.unusedVariables false
set_option maxRecDepth 100000 in
set_option maxHeartbeats 4000000 in
theorem snawake_any (w : World) (ht : Tab w) : Calls Tryz.prog 10 #[] w fun x w' => x = .returned (.bool true) ∧ Below w.heap.size w w' := by
 obtain ⟨d, hE, hf, hO, hd⟩ := aw_law
 have hs1 : At (w.alloc (.cells #[.int .i64 0, .int .i64 2] 44)) (some ⟨w.heap.size, 0, none⟩) (pv [(0, 2)]) := (Bk.new w 44 #[.int .i64 0, .int .i64 2]).at_
 obtain ⟨W1, hW1⟩ : ∃ W, w.alloc (.cells #[.int .i64 0, .int .i64 2] 44) = W := ⟨_, rfl⟩
 have hb1 : Below w.heap.size w W1 := by rw [← hW1]; exact (Below.refl w.heap.size w).alloc (Nat.le_refl _) _
 have hs2 : At (W1.alloc (.cells #[.string ⟨#[49, 120]⟩] 9)) (some ⟨W1.heap.size, 0, none⟩) (tvs [bs [49, 120]]) := (Bk.new W1 9 #[.string ⟨#[49, 120]⟩]).at_
 rw [hW1] at hs1
 have hb2 : Below w.heap.size w (W1.alloc (.cells #[.string ⟨#[49, 120]⟩] 9)) := hb1.alloc hb1.size _
 have hb3 : Below W1.heap.size W1 (W1.alloc (.cells #[.string ⟨#[49, 120]⟩] 9)) := (Below.refl _ _).alloc (Nat.le_refl _) _
 have HE := hide (sencode_any (hs1.below hb3) hs2 (ht.below hb2) (fun s hs => by
  rw [List.mem_singleton.1 hs, bs_size]; decide) 1 1 1 1 rfl rfl (by decide) (by decide))
 rw [hE] at HE
 have HU := hide (fun W => unwrap_any d hd W)
 have hu : uwV d = .tuple #[.agg #[.int .i64 4, .string (bs [128, 64])], .int .i64 (d.length : Int), .int .i64 0] := by unfold uwV; rw [hf]; rfl
 rw [hu] at HU
 have HO := hide (fun W (hb : Below W1.heap.size W1 W) (ht : Tab W) => sone_any (hs1.below hb) d hd ht 0 1 1 rfl (by decide))
 rw [hO] at HO
 have hsz : (bs d).size = d.length := bs_size d
 rw [← hsz] at HU
 have Hb1 := hide hb1
 have Hb3 := hide hb3
 have Ht := hide (fun W (hb : Below w.heap.size w W) => ht.below hb)
 simp only at HE HU HO
 rw [show bs [128, 64] = ⟨#[128, 64]⟩ from rfl] at HU
 rw [show bs [49, 120] = ⟨#[49, 120]⟩ from rfl] at HO
 generalize bs d = S at *
 clear hs1 hs2 hb1 hb2 hb3 hE hf hO hd hu hsz ht
 go_enter Tryz.func10, Tryz.ntmps10
 go_wp2_with fail
 refine (HE.out).mono ?_
 rintro x w2 ⟨rfl, hb2⟩
 have Hb2 := hide (Hb3.out.trans (hb2.mono Hb3.out.size))
 clear hb2 HE Hb3
 go_wp2_with fail
 refine (HU.out _).mono ?_
 rintro x w3 ⟨rfl, hb3⟩
 have Hb4 := hide (Hb2.out.trans (hb3.mono Hb2.out.size))
 have Hal := hide (Hb4.out.alloc Hb4.out.size (.cells #[.int .i64 4, .string ⟨#[128, 64]⟩] 50))
 have Hk := hide (Bk.new w3 50 #[.int .i64 4, .string ⟨#[128, 64]⟩])
 have Hal2 := hide (Hb1.out.trans (Hal.out.mono Hb1.out.size))
 have HO2 := hide (HO.out _ Hal.out (Ht.out _ Hal2.out))
 clear hb3 HU HO
 go_wp2_with fail
 refine (HO2.out).mono ?_
 rintro x w4 ⟨rfl, hb4⟩
 have Hk4 := Hk.out.below hb4 Hk.out.lt
 have z0 : w4.cell? ⟨w3.heap.size, 0, none⟩ = some (.int .i64 4) := Hk4.cell 0
 have z1 : w4.cell? ⟨w3.heap.size, 1, none⟩ = some (.string ⟨#[128, 64]⟩) := Hk4.cell 1
 clear Hk4
 have Hb5 := hide (Hal2.out.trans (hb4.mono Hal2.out.size))
 clear hb4 HO2
 go_wp2
 go_returns
 exact ⟨rfl, Hb5.out⟩
end Go.Proofs.YtjfcemlbbinanaaGreatDoor
/-
  The laws of snapshots: what is accepted is the bytes of the values; one value.
-/
namespace Go.Proofs.YtjfcemlbbinanaaGreatDoor
open Go.RowKit Go.Proofs Wv Wv.Vi Wv.Bc Wv.Sn Wv.Dc Wv.Fm
set_option linter.unusedVariables false
theorem vas_sizes {st : List (Int × Int)} {vs : List ByteArray} (h : vasB validS st vs = true) : (∀ s ∈ vs, s.size ≤ 1099511627776) ∧ vs.length = st.length ∧ st.length ≤ 64 := by
 have h2 : tysB st = true ∧ vasL validS st vs = true := by
  have : (tysB st && vasL validS st vs) = true := h
  rwa [Bool.and_eq_true] at this
 have hl := vasL_len h2.2
 refine ⟨fun s hs => ?_, hl, (tysB_iff.1 h2.1).2⟩
 obtain ⟨k, hk, rfl⟩ := List.getElem_of_mem hs
 have := (wrV_len (vasL_all validS h2.2 k (by omega) hk)).2
 rw [toL_length] at this
 omega
set_option maxRecDepth 100000 in
set_option maxHeartbeats 4000000 in
theorem lstrict_any {A : Option Addr} {st : List (Int × Int)} {w : World} (ha : At w A (pv st)) (hst : ∀ c ∈ st, I64 c.1 ∧ I64 c.2) (n cap : Nat) (hn : n = st.length) (hn4 : n ≤ 9223372036854775807) (data : ByteArray) (hd : data.size ≤ 9223372036854775807) (ht : Tab w) :
  Calls Tryz.prog 4 #[.slice A n cap, .string data] w fun x w' => x = .returned (.bool true) ∧ Below w.heap.size w w' := by
 have Haw := hide (snawake_any w ht)
 by_cases hg1 : (70 : Int) < (n : Int)
 ·clear ha hst hn hn4 hd ht
  go_enter Tryz.func4, Tryz.ntmps4
  go_wp2_with fail
  refine (Haw.out).mono ?_
  rintro x w1 ⟨rfl, hb1⟩
  go_wp2
  go_returns
  exact ⟨rfl, hb1⟩
 ·by_cases hg2 : (800 : Int) < (data.size : Int)
  ·clear ha hst hn hd ht
   go_enter Tryz.func4, Tryz.ntmps4
   go_wp2_with fail
   refine (Haw.out).mono ?_
   rintro x w1 ⟨rfl, hb1⟩
   go_wp2
   go_returns
   exact ⟨rfl, hb1⟩
  ·have HD := hide (fun W (hb : Below w.heap.size w W) => sdecode_any (ha.below hb) (toL data) (by rw [toL_length]; omega) (ht.below hb) n cap hn hn4)
   have HS := hide (fun W (hb : Below w.heap.size w W) => nstored_any (ha.below hb) n cap hn hn4)
   have hok := fun vs => snD_ok (dv := validS) (st := st) (vs := vs) (data := toL data)
   have herr := snD_err (dv := validS) (st := st) (data := toL data)
   rw [bs_toL] at HD
   obtain ⟨⟨l, e⟩, hD⟩ : ∃ D, snD validS st (toL data) = D := ⟨_, rfl⟩
   rw [hD] at HD herr hok
   by_cases he : e = 0
   ·subst he
    obtain ⟨hE, hv⟩ := hok l rfl
    obtain ⟨hsz, hll, h64⟩ := vas_sizes hv
    have HE := hide (fun (W W2 : World) (hb : Below w.heap.size w W) B cap2 (hB : At W B (tvs l)) => sencode_any (ha.below hb) hB (ht.below hb) hsz n cap l.length cap2 hn rfl hn4 (by omega))
    have HV := hide (fun (W : World) (hb : Below w.heap.size w W) B cap2 (hB : At W B (tvs l)) => svalid_any (ha.below hb) hB (ht.below hb) hsz n cap l.length cap2 hn rfl hn4 (by omega))
    rw [hE, bs_toL] at HE
    rw [hv] at HV
    simp only at HE
    have Hll := hide hll
    clear ha hst hn hd ht hok herr hD hE hv hsz hll h64 HS
    go_enter Tryz.func4, Tryz.ntmps4
    go_wp2_with fail
    refine (Haw.out).mono ?_
    rintro x w1 ⟨rfl, hb1⟩
    have Hb1 := hide hb1
    clear hb1 Haw
    go_wp2_with fail
    refine (HD.out _ Hb1.out).mono ?_
    rintro x w2 ⟨v, rfl, ⟨A2, cap2, rfl, hat⟩, hb2⟩
    have Hb2 := hide (Hb1.out.trans (hb2.mono Hb1.out.size))
    have Hat := hide hat
    have HE2 := hide (HE.out w2 w2 Hb2.out _ cap2 hat)
    clear hb2 hat HD HE
    go_wp2_with fail
    refine (HE2.out).mono ?_
    rintro x w3 ⟨rfl, hb3⟩
    have Hb3 := hide (Hb2.out.trans (hb3.mono Hb2.out.size))
    have HV2 := hide (HV.out w3 Hb3.out _ cap2 (Hat.out.below hb3))
    clear hb3 HV
    go_wp2_with fail
    refine (HV2.out).mono ?_
    rintro x w4 ⟨rfl, hb4⟩
    have Hb4 := hide (Hb3.out.trans (hb4.mono Hb3.out.size))
    clear hb4
    go_wp2
    go_returns
    exact ⟨rfl, Hb4.out⟩
   ·have hc := herr he
    have hc2 : l = [] ∧ ((tysB st = false ∧ e = 1) ∨ (tysB st = true ∧ e = 12)) := by
     rcases hc with ⟨h1, h2⟩ | ⟨h1, h2⟩
     ·injection h2 with h2 h3; exact ⟨h2, .inl ⟨h1, h3⟩⟩
     ·injection h2 with h2 h3; exact ⟨h2, .inr ⟨h1, h3⟩⟩
    obtain ⟨rfl, hc3⟩ := hc2
    clear hok herr hD hc he
    rcases hc3 with ⟨hty, rfl⟩ | ⟨hty, rfl⟩
    all_goals
     rw [hty] at HS
     clear ha hst hn hd ht hty
     go_enter Tryz.func4, Tryz.ntmps4
     go_wp2_with fail
     refine (Haw.out).mono ?_
     rintro x w1 ⟨rfl, hb1⟩
     have Hb1 := hide hb1
     clear hb1 Haw
     go_wp2_with fail
     refine (HD.out _ Hb1.out).mono ?_
     rintro x w2 ⟨v, rfl, ⟨A2, cap2, rfl, hat⟩, hb2⟩
     have Hb2 := hide (Hb1.out.trans (hb2.mono Hb1.out.size))
     clear hb2 hat HD
     go_wp2_with fail
     refine (HS.out _ Hb2.out).mono ?_
     rintro x w3 ⟨rfl, hb3⟩
     have Hb3 := hide (Hb2.out.trans (hb3.mono Hb2.out.size))
     clear hb3 HS
     go_wp2
     go_returns
     exact ⟨rfl, Hb3.out⟩
end Go.Proofs.YtjfcemlbbinanaaGreatDoor
