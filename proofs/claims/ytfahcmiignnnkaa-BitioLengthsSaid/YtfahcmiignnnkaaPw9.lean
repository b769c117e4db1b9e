/-
  The walks over the bit strings of the program: Encode.
-/
import Derived.Test.YtfahcmiignnnkaaPw8
import Derived.Test.YtfahcmiignnnkaaCodes
namespace Go.Proofs.Ytfahcmiignnnkaa
open Go.RowKit Go.Proofs Wv Wv.Bit

theorem ret_si {s t : ByteArray} {k : IntKind} {a b : Int} (h : s = t) (h2 : a = b) : Ending.returned (.tuple #[.string s, .int k a]) = .returned (.tuple #[.string t, .int k b]) := by rw [h, h2]
/-- What 'Encode' returns: bytes and an error. -/
def encR (l : List Cd) : ByteArray × Nat := if (encm l []).1 = 0 then (bstr (encm l []).2, 0) else (⟨#[]⟩, (encm l []).1)

set_option maxHeartbeats 1000000 in
theorem encode_any {A : Option Addr} {l : List Cd} {w : World} (h : CodesAt w A l) (hk : ∀ c ∈ l, CdOk c) (n cap : Nat) (hn : n = l.length) (hm : n ≤ 9223372036854775807) :
    Calls Try.prog 24 #[.slice A n cap] w fun e w' => e = .returned (.tuple #[.string (encR l).1, .int .i64 ((encR l).2 : Nat)]) ∧ Below w.heap.size w w' := by
  have Hn := hide newwriter_any
  have hnl : n ≤ l.length := by omega
  have hln : l.length ≤ n := by omega
  have Hl := hide hn
  clear hn
  go_enter Try.func24, Try.ntmps24
  go_wp2_with fail
  refine (Hn.out _).mono ?_
  rintro e w1 ⟨rfl, hw1, hb1⟩
  go_wp2
  go_loopw [11] (fun i wr => ∃ (k : Nat) (dr : Value) (L : List Bool), k ≤ n ∧ i = .int .i64 k ∧ WrAt wr w.heap.size dr L ∧ L.length ≤ 65536 ∧ Hid (encm (l.drop k) L = encm l []) ∧ Below w.heap.size w wr ∧ (∀ g, dr.ownBlock = some g → w.heap.size ≤ g) ∧ CodesAt wr A l) (fun i _ => (n - intOf i).toNat)
  case atStart => exact ⟨0, _, [], by omega, rfl, hw1, by simp, hide rfl, hb1, by simp [Value.ownBlock], h.below hb1⟩
  case round =>
    obtain ⟨k, dr, L, hkn, rfl, hw, hL, hE, hf, hown, hc⟩ := hrel
    by_cases hlt : k < n
    · obtain ⟨b, o, rfl, hbw, c0, c1, c2⟩ := hc k (by omega)
      obtain ⟨c, hcd⟩ : ∃ c, l[k] = c := ⟨_, rfl⟩
      rw [hcd] at c0 c1 c2
      obtain ⟨_, _, hv1, hv2⟩ := hk c (hcd ▸ List.getElem_mem _)
      have hE2 := hE.out
      rw [encm_take l k (by omega), hcd] at hE2
      have HE2 := hide hE2
      clear hcd hE2
      have Hp := hide (fun o => wput_any (hw.alloc o) hL c.k c.p c.v hv1 hv2)
      have hbl := hw.1.lt
      go_wp2_with fail
      refine (Hp.out _).mono ?_
      rintro e w2 ⟨rfl, d2, hw2, hf2, ho2⟩
      have hf3 : Below w.heap.size w w2 := by
        have h1 := hf2.toBelow' (B := w.heap.size) (Nat.le_trans hf.size (by simp)) (fun j hj hs => by
          rcases hs with hs | hs
          · omega
          · have := hown j hs; omega)
        exact (hf.alloc hf.size _).trans h1
      have hown2 : ∀ g, d2.ownBlock = some g → w.heap.size ≤ g := fun g hg => by
        rcases ho2 with h1 | h1
        · exact hown g (h1 ▸ hg)
        · exact Nat.le_trans (Nat.le_trans hf.size (by simp)) (h1 g hg)
      by_cases he : (putm L c).2 = 0
      · have HE3 := HE2.out
        rw [if_pos he] at HE3
        have HE4 := hide HE3
        have hL2 := putm_len L c hL
        have he2 : ((((putm L c).2 : Nat) : Int) != 0) = false := by rw [he]; rfl
        clear HE3 he
        go_wp2
        go_roundw
        case rel => exact ⟨k + 1, d2, (putm L c).1, by omega, by go_num, hw2, hL2, HE4, hf3, hown2, h.below hf3⟩
        case measure => simp [intOf]; omega
      · have HE3 := HE2.out
        rw [if_neg he] at HE3
        have HE4 := hide (show encR l = (⟨#[]⟩, (putm L c).2) from by rw [encR, ← HE3]; simp only; rw [if_neg he])
        have he2 : ((((putm L c).2 : Nat) : Int) != 0) = true := by rw [bne_iff_ne]; omega
        clear HE3 he
        go_wp2
        go_ret2
        exact ⟨ret_si (by rw [HE4.out]) (by rw [HE4.out]), hf3⟩
    · have hkl : k = l.length := by omega
      have hE2 := hE.out
      rw [hkl, encm_end] at hE2
      have HE4 := hide (show encR l = (bstr L, 0) from by rw [encR, ← hE2]; rfl)
      have Hb := hide (wbytes_any hw hL)
      clear hE2 hkl
      go_wp2_with fail
      refine (Hb.out).mono ?_
      rintro e w2 ⟨rfl, hb2⟩
      go_wp2
      go_ret2
      exact ⟨ret_si (by rw [HE4.out]; rfl) (by rw [HE4.out]; rfl), hf.trans (hb2.mono hf.size)⟩
end Go.Proofs.Ytfahcmiignnnkaa
