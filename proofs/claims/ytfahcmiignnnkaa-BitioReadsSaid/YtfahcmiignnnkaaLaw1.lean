/-
  The laws of the bit strings: a reader agrees with the definitions.
-/
import Derived.Test.YtfahcmiignnnkaaLaw0
import Derived.Test.YtfahcmiignnnkaaRef4
namespace Go.Proofs.Ytfahcmiignnnkaa
open Go.RowKit Go.Proofs Wv Wv.Bit

theorem txt_len (l : List Bool) : ((txt l).size : Int) = (l.length : Int) := by rw [txt_size]
set_option maxHeartbeats 2000000 in
theorem reads_any {A : Option Addr} {l : List Cd} {w : World} (s : ByteArray) (hs : s.size ≤ 9223372036854775807) (h : CodesAt w A l) (hk : ∀ c ∈ l, CdOk c) (n cap : Nat) (hn : n = l.length) (hm : n ≤ 9223372036854775807) :
    Calls Try.prog 3 #[.string s, .slice A n cap] w fun e w' => e = .returned (.bool true) ∧ Below w.heap.size w w' := by
  have Ha := hide awake_any
  have Hl := hide hn
  have hnl : n ≤ l.length := by omega
  clear hn
  by_cases hbig : 2000 < s.size ∨ 30 < n
  · go_enter Try.func3, Try.ntmps3
    go_wp2_with fail
    refine (Ha.out _).mono ?_
    rintro e w1 ⟨rfl, hb1⟩
    by_cases hc : 2000 < s.size
    · go_wp2
      go_ret
      exact ⟨rfl, hb1⟩
    · go_wp2
      go_ret
      exact ⟨rfl, hb1⟩
  · have c1 : s.size ≤ 2000 := by omega
    have c2 : n ≤ 30 := by omega
    clear hbig
    go_enter Try.func3, Try.ntmps3
    go_wp2_with fail
    refine (Ha.out _).mono ?_
    rintro e w1 ⟨rfl, hb1⟩
    cases hr : nrd s with
    | none =>
      have H1 := hide (newreader_none s w1 hs (by omega) hr)
      have Hr := hide hr
      clear hr
      go_wp2_with fail
      refine (H1.out).mono ?_
      rintro e w2 ⟨rfl, hb2⟩
      have hf2 := hb1.trans (hb2.mono hb1.size)
      have H2 := hide (refread_none s w2 Hr.out hs)
      go_wp2_with fail
      refine (H2.out).mono ?_
      rintro e w3 ⟨⟨t, rfl⟩, hb3⟩
      have hf3 := hf2.trans (hb3.mono hf2.size)
      have hc3 := h.below hf3
      clear hb1 hb2 hb3 hf2
      go_wp2
      go_loopw [61] (fun i wr => wr = w3 ∧ i = .int .i64 0) (fun _ _ => 0)
      case atStart => exact ⟨rfl, rfl⟩
      case round =>
        obtain ⟨rfl, rfl⟩ := hrel
        by_cases hlt : 0 < n
        · obtain ⟨b, o, rfl, hbw, c0, c1, c2⟩ := hc3 0 (by omega)
          simp only [Nat.zero_mul, Nat.add_zero] at c0 c1 c2
          go_wp2
          go_ret
          exact ⟨rfl, hf3.alloc hf3.size _⟩
        · go_wp2
          go_ret
          exact ⟨rfl, hf3⟩
    | some nn =>
      have H1 := hide (newreader_some s w1 nn hr)
      have Hr := hide hr
      clear hr
      go_wp2_with fail
      refine (H1.out).mono ?_
      rintro e w2 ⟨rfl, hrd, hb2⟩
      have hf2 := hb1.trans (hb2.mono hb1.size)
      have H2 := hide (refread_some s w2 nn Hr.out)
      go_wp2_with fail
      refine (H2.out).mono ?_
      rintro e w3 ⟨rfl, hb3⟩
      have hrd3 := hrd.below hb3
      have hf3 := hf2.trans (hb3.mono hf2.size)
      have hc3 := h.below hf3
      have hlo := hb1.size
      have hlo := hb1.size
      have hn0 := (nrd_le Hr.out).1
      have hst : Hid (txt (rbits s nn) = txt ((rbits s nn).drop 0)) := hide rfl
      obtain ⟨t0, ht0⟩ : ∃ t0, txt (rbits s nn) = t0 := ⟨_, rfl⟩
      rw [ht0] at hst
      clear hb2 hb3 hf2 hb1
      go_wp2
      go_loopw [7, 61] (fun bs i wr => ∃ (k x : Nat) (t : ByteArray), k ≤ n ∧ i = .int .i64 k ∧ bs = .string t ∧ Hid (t = txt ((rbits s nn).drop x)) ∧ RdAt wr w1.heap.size s x nn ∧ Below w.heap.size w wr ∧ CodesAt wr A l) (fun _ i _ => (n - intOf i).toNat)
      case atStart => exact ⟨0, 0, t0, by omega, rfl, rfl, hst, hrd3, hf3, hc3⟩
      case round =>
        clear hst ht0 hrd3 hf3 hc3 hrd
        obtain ⟨k, x, t, hkn, rfl, rfl, ht, hrx, hf, hc⟩ := hrel
        by_cases hlt : k < n
        · obtain ⟨b, o, rfl, hbw, c0, c1, c2⟩ := hc k (by omega)
          obtain ⟨c, hcd⟩ : ∃ c, l[k] = c := ⟨_, rfl⟩
          rw [hcd] at c0 c1 c2
          clear hcd
          have hbl := hrx.1.lt
          obtain ⟨g, hg⟩ : ∃ g, getm c.k c.p c.v ((rbits s nn).drop x) = g := ⟨_, rfl⟩
          have Hp := hide (get_any (hrx.alloc (.cells #[.int .i64 c.k, .int .i64 c.p, .int .i64 c.v] 31)) c.k c.p c.v)
          have Hq := hide (fun W : World => refget_any ((rbits s nn).drop x) c.k c.p c.v W (by rw [List.length_drop, rbits_length]; omega))
          have hbk := Bk.new wr 31 #[.int .i64 c.k, .int .i64 c.p, .int .i64 c.v]
          rw [hg] at Hp Hq
          rw [← ht.out] at Hq
          clear hg
          go_wp2_with fail
          refine (Hp.out).mono ?_
          rintro e w4 ⟨y, rfl, hr4, hf4, hd⟩
          have Hd := hide hd
          clear hd
          have hbk4 := hbk.fr hf4 (fun e => by
            have : wr.heap.size = w1.heap.size := e
            omega)
          have d0 := hbk4.cell 0
          have d1 := hbk4.cell 1
          have d2 := hbk4.cell 2
          simp at d0 d1 d2
          have hf5 : Below w.heap.size w w4 := by
            have h1 := hf4.toBelow' (B := w.heap.size) (Nat.le_trans hf.size (by simp)) (fun j hj hs => by
              have : j = w1.heap.size := hs
              omega)
            exact (hf.alloc hf.size _).trans h1
          have hc5 := h.below hf5
          clear hbk hbk4 hf4 c0 c1 c2
          go_wp2_with fail
          refine (Hq.out _).mono ?_
          rintro e w5 ⟨rfl, q, rfl⟩
          have hr5 : RdAt (w4.drewN q) w1.heap.size s y nn := hr4
          have H8 := hide (left_any hr5)
          have hlen : ((txt g.1).size : Int) = (nn : Int) - (y : Int) := by
            rw [txt_size, Hd.out, List.length_drop, rbits_length]
            have := hr4.2.1
            omega
          go_wp2_with fail
          refine (H8.out).mono ?_
          rintro e w6 ⟨rfl, q2, rfl⟩
          go_wp2
          exact ⟨⟨k + 1, y, _, by omega, by go_num, rfl, hide (by rw [Hd.out]), hr4, bdN hf5 _, hc5⟩, by simp [intOf]; omega⟩
        · go_wp2
          go_ret
          exact ⟨rfl, hf⟩
end Go.Proofs.Ytfahcmiignnnkaa
