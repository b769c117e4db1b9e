/-
  The walks over the reference of the bit strings, fifth part: bytes of bits.
-/
import Derived.Test.YtfahcmiignnnkaaRef4
import Derived.Test.YtfahcmiignnnkaaBase3
import Derived.Test.YtfahcmiignnnkaaBits5
import Derived.Test.YtfahcmiignnnkaaCodes
import Derived.BigRegion
namespace Go.Proofs.Ytfahcmiignnnkaa
open Go.RowKit Go.Proofs Wv Wv.Bit

theorem txt_one (b : List Bool) : txt b ++ ⟨#[49]⟩ = txt (b ++ [true]) := by rw [txt_append]; rfl
theorem txt_zero (b : List Bool) : txt b ++ ⟨#[48]⟩ = txt (b ++ [false]) := by rw [txt_append]; rfl

set_option maxHeartbeats 1000000 in
theorem refbytes_any (l : List Bool) (w : World) (hl : l.length ≤ 65536) :
    Calls Try.prog 35 #[.string (txt l)] w fun e w' => e = .returned (.string (bstr l)) ∧ Below w.heap.size w w' := by
  have h1 := txt_one l
  have hs : (txt l).size ≤ 65536 := by rw [txt_size]; exact hl
  go_enter Try.func35, Try.ntmps35
  go_wp2
  go_loop [0] (fun s => ∃ r : Nat, r < 8 ∧ r ≤ (7 - l.length % 8) ∧ s = .string (txt (l ++ [true] ++ List.replicate r false))) (fun s => (match s with | .string t => 80000 - t.size | _ => 0))
  case atStart => exact ⟨0, by omega, by omega, by simp⟩
  case round =>
    obtain ⟨r, hr, hr7, rfl⟩ := hrel
    obtain ⟨T, hT⟩ : ∃ T, l ++ [true] ++ List.replicate r false = T := ⟨_, rfl⟩
    have hTl : T.length = l.length + 1 + r := by rw [← hT]; simp; omega
    have hts := txt_size T
    rw [hT]
    by_cases h8 : T.length % 8 = 0
    · have hfin : pack T = pack (l ++ [true]) := by rw [← hT]; exact pack_fill _ _ (by simp; omega) hr
      have Hfin := hide hfin
      have e8 : ¬ (0 : Int) < ((txt T).size : Int) % 8 := by rw [hts]; omega
      have e9 : ((txt T).size : Int) / 8 = ((T.length / 8 : Nat) : Int) := by rw [hts]; omega
      obtain ⟨M, hM⟩ : ∃ M, T.length / 8 = M := ⟨_, rfl⟩
      rw [hM] at e9
      have hmk := mk_row (P := Try.prog) 61 5 _ _ Try.underlying61 u8info rfl ((M : Nat) : Int) M rfl (by omega) (by omega)
      rw [bc_replicate] at hmk
      have hsz1 : (txt T).size ≤ T.length := by omega
      have hsz2 : T.length ≤ (txt T).size := by omega
      have hb0 : List.replicate M 0 = Bit.part T 0 := by rw [part_zero, hM]
      rw [hb0] at hmk
      have Hget := hide (txt_get T)
      have Hh8 := hide h8
      clear hb0 hT hts h8 h1 hs hfin
      go_wp2
      go_loopw [4] (fun i wr => ∃ k : Nat, k ≤ T.length ∧ i = .int .i64 k ∧ Bk wr w.heap.size 5 (bc (Bit.part T k)) ∧ Below w.heap.size w wr) (fun i _ => (T.length - intOf i).toNat)
      case atStart => exact ⟨0, by omega, rfl, Bk.new _ _ _, (Below.refl _ _).alloc (Nat.le_refl _) _⟩
      case round =>
        obtain ⟨k, hk, rfl, hb, hf⟩ := hrel
        by_cases hlt : k < T.length
        · have hz : k / 8 < (Bit.part T k).length := by have := Hh8.out; rw [part_length]; omega
          have hcl := hb.cell (k / 8)
          rw [bc_get _ _ hz, part_get] at hcl
          have hfk := hb.frozen (k / 8)
          have hx := partAt_lt T k
          have hx2 : (UInt8.ofNat (Bit.partAt T k)).toNat = Bit.partAt T k := by simp [Nat.mod_eq_of_lt (show Bit.partAt T k < 256 by omega)]
          rw [hx2] at hcl
          have i6 : k < (txt T).size := by omega
          have hg := Hget.out k i6
          have hb1 := bt_le T k
          have Hsucc := hide (part_succ T k hlt Hh8.out)
          have hzM : k / 8 < M := by have := part_length T k; omega
          obtain ⟨z, hz2⟩ : ∃ z, k / 8 = z := ⟨_, rfl⟩
          rw [hz2] at hcl hfk hzM hz Hsucc
          obtain ⟨x, hx3⟩ : ∃ x, Bit.partAt T k = x := ⟨_, rfl⟩
          rw [hx3] at hcl hx Hsucc
          have i3 : IntKind.i64.wrap ((k : Int) / 8) = (z : Int) := by rw [IntWalk.i64_in _ (by omega)]; omega
          have i4 : (z : Int) < (M : Int) := by omega
          have i5 : (k : Int) < ((txt T).size : Int) := by omega
          have Hb := hide hb
          have HM := hide hM
          clear hz2 hx3 hx2 hb hM
          go_wp2
          go_region
          rw [show ((2 * (x : Int) + (48 + (bt T k : Int)) - 48) % 256) = ((2 * x + bt T k : Nat) : Int) from by omega]
          have hb2 := Hb.out.put z (.int .u8 ((2 * x + bt T k : Nat) : Int))
          rw [bc_set _ _ _ (by omega) (by omega), Int.toNat_natCast, ← Hsucc.out] at hb2
          go_wp2
          go_roundw
          case rel => exact ⟨k + 1, by omega, by go_num, hb2.drew, (hf.setCell (p := ⟨w.heap.size, z, none⟩) (Nat.le_refl _) _).drew⟩
          case measure => simp [intOf]; omega
        · have hkT : k = T.length := by omega
          have hp := part_all T Hh8.out
          rw [hkT, hp, Hfin.out] at hb
          have hln : M = (pack (l ++ [true])).length := by rw [← Hfin.out, ← hp, part_length, hM]
          have hcv := conv_all (P := Try.prog) 61 9 5 Try.underlying61 Try.underlying5 Try.underlying9 wr w.heap.size M M (pack (l ++ [true])) [] (by rw [List.append_nil]; exact hb) hln
          clear hkT hp hb hln hM
          go_wp2
          go_ret
          exact ⟨rfl, hf⟩
    · have e8 : (0 : Int) < ((txt T).size : Int) % 8 := by rw [hts]; omega
      have h0 := hide (txt_zero T)
      have hT2 := hide (show T ++ [false] = l ++ [true] ++ List.replicate (r + 1) false from by rw [← hT, List.append_assoc, ← List.replicate_succ'])
      have hs9 : (txt T).size ≤ 65545 := by rw [hts]; omega
      have hr2 : r + 1 ≤ 7 - l.length % 8 := by omega
      have hr3 : r + 1 < 8 := by omega
      have hmm := hide (show 80000 - (txt (T ++ [false])).size < 80000 - (txt T).size from by rw [txt_size, txt_size, List.length_append, List.length_singleton]; omega)
      clear hT hts h8 hTl h1
      go_wp2
      go_round
      case rel => exact ⟨r + 1, hr3, hr2, by rw [h0.out, hT2.out]⟩
      case measure => rw [h0.out]; exact hmm.out

/-- What 'Encode' of the reference returns: bytes and an error. -/
def encRr (l : List Cd) : ByteArray × Nat := if (encm l []).1 = 0 then (bstr (encm l []).2, 0) else (⟨#[]⟩, (encm l []).1)

set_option maxHeartbeats 1000000 in
theorem refencode_any {A : Option Addr} {l : List Cd} {w : World} (h : CodesAt w A l) (hk : ∀ c ∈ l, CdOk c) (n cap : Nat) (hn : n = l.length) (hm : n ≤ 9223372036854775807) :
    Calls Try.prog 25 #[.slice A n cap] w fun e w' => e = .returned (.tuple #[.string (encRr l).1, .int .i64 ((encRr l).2 : Nat)]) ∧ Below w.heap.size w w' := by
  have hnl : n ≤ l.length := by omega
  have hln : l.length ≤ n := by omega
  clear hn
  have he0 : (⟨#[]⟩ : ByteArray) = txt [] := rfl
  go_enter Try.func25, Try.ntmps25
  go_wp2
  go_loopw [4, 5] (fun s i wr => ∃ (k : Nat) (L : List Bool), k ≤ n ∧ i = .int .i64 k ∧ s = .string (txt L) ∧ L.length ≤ 65536 ∧ Hid (encm (l.drop k) L = encm l []) ∧ Below w.heap.size w wr ∧ CodesAt wr A l) (fun _ i _ => (n - intOf i).toNat)
  case atStart => exact ⟨0, [], by omega, rfl, rfl, by simp, hide rfl, Below.refl _ _, h⟩
  case round =>
    obtain ⟨k, L, hkn, rfl, rfl, hL, hE, hf, hc⟩ := hrel
    clear he0
    by_cases hlt : k < n
    · obtain ⟨b, o, rfl, hbw, c0, c1, c2⟩ := hc k (by omega)
      obtain ⟨c, hcd⟩ : ∃ c, l[k] = c := ⟨_, rfl⟩
      rw [hcd] at c0 c1 c2
      obtain ⟨_, ⟨_, hp2⟩, hv1, hv2⟩ := hk c (hcd ▸ List.getElem_mem _)
      have hE2 := hE.out
      rw [encm_take l k (by omega), hcd] at hE2
      have HE2 := hide hE2
      have Hp := hide (refput_any L c wr hp2 hv2 hL)
      clear hcd hE2
      go_wp2_with fail
      refine (Hp.out).mono ?_
      rintro e w2 ⟨rfl, hb2⟩
      have hf3 := hf.trans (hb2.mono hf.size)
      by_cases he : (putm L c).2 = 0
      · have HE3 := HE2.out
        rw [if_pos he] at HE3
        have HE4 := hide HE3
        have hL2 := putm_len L c hL
        have he2 : ((((putm L c).2 : Nat) : Int) != 0) = false := by rw [he]; rfl
        clear HE3 he
        go_wp2
        go_roundw
        case rel => exact ⟨k + 1, (putm L c).1, by omega, by go_num, rfl, hL2, HE4, hf3, h.below hf3⟩
        case measure => simp [intOf]; omega
      · have HE3 := HE2.out
        rw [if_neg he] at HE3
        have HE4 := hide (show encRr l = (⟨#[]⟩, (putm L c).2) from by rw [encRr, ← HE3]; simp only; rw [if_neg he])
        have he2 : ((((putm L c).2 : Nat) : Int) != 0) = true := by rw [bne_iff_ne]; omega
        clear HE3 he
        go_wp2
        go_ret2
        exact ⟨ret_str2 (by rw [HE4.out]) (by rw [HE4.out]), hf3⟩
    · have hkl : k = l.length := by omega
      have hE2 := hE.out
      rw [hkl, encm_end] at hE2
      have HE4 := hide (show encRr l = (bstr L, 0) from by rw [encRr, ← hE2]; rfl)
      have Hb := hide (refbytes_any L wr hL)
      clear hE2 hkl
      go_wp2_with fail
      refine (Hb.out).mono ?_
      rintro e w2 ⟨rfl, hb2⟩
      go_wp2
      go_ret2
      exact ⟨ret_str2 (by rw [HE4.out]) (by rw [HE4.out]; rfl), hf.trans (hb2.mono hf.size)⟩
end Go.Proofs.Ytfahcmiignnnkaa
