/-
  Joined texts: LH, LQ, LR, LS, LT.
-/
import Derived.Test.YtjfcemlbbinanaaGreatDoorJ12
set_option linter.unusedVariables false
set_option linter.unusedSimpArgs false
/-
  The walks over the sums of bytes.
-/
namespace Go.Proofs.YtjfcemlbbinanaaGreatDoor
open Go.RowKit Go.Proofs Wv Wv.Vi Wv.Fm
set_option linter.unusedVariables false
theorem csh_even {y : Nat} (h : y % 2 = 0) : csh y = y / 2 := by unfold csh; rw [if_neg (by omega), Nat.xor_zero]
theorem csh_odd {y : Nat} (h : y % 2 = 1) : csh y = (y / 2) ^^^ 3988292384 := by unfold csh; rw [if_pos h]
theorem bs_getC (l : List UInt8) (i : Nat) (h : i < l.length) (h2 : i < (bs l).size) : (bs l)[i]'h2 = l[i]'h := by simp [bs]; rfl
theorem xor_ones32 (b : Nat) (hb : b < 2 ^ 32) : (2 ^ 32 - 1) ^^^ b = 2 ^ 32 - 1 - b := by
 apply Nat.eq_of_testBit_eq
 intro i
 rw [Nat.testBit_xor, Nat.testBit_two_pow_sub_one, show 2 ^ 32 - 1 - b = 2 ^ 32 - (b + 1) by omega, Nat.testBit_two_pow_sub_succ hb]
 by_cases hi : i < 32
 ·simp [hi]
 ·have : b.testBit i = false := Nat.testBit_lt_two_pow (Nat.lt_of_lt_of_le hb (Nat.pow_le_pow_right (by decide) (by omega)))
  simp [hi, this]
theorem compl32 (y : Nat) (h : y < 4294967296) : bits .xor .u32 IntKind.u32.max (y : Int) = 4294967295 - (y : Int) := by
 have h1 := u32_xor_nat 4294967295 y (by omega) h
 have h2 := xor_ones32 y (by omega)
 have e : (2 : Nat) ^ 32 - 1 = 4294967295 := by decide
 rw [e] at h2
 rw [h2] at h1
 have h3 : ((4294967295 - y : Nat) : Int) = 4294967295 - (y : Int) := by omega
 rw [h3] at h1
 exact h1
set_option maxHeartbeats 1000000 in
theorem crcshift_any (r : Nat) (hr : r < 4294967296) (w : World) :
  Calls Tryz.prog 129 #[.int .u32 (r : Int)] w fun x w' => x = .returned (.int .u32 (cshN 8 r : Nat)) ∧ w = w' := by
 have a0 : bits .and .u32 0 3988292384 = 0 := by decide
 have a1 : bits .and .u32 4294967295 3988292384 = 3988292384 := by decide
 have n1 : IntKind.u32.wrap (-1) = 4294967295 := by decide
 go_enter Tryz.func129, Tryz.ntmps129
 go_wp2
 go_loopw [0, 3] (fun s0 s3 wr => ∃ (k y : Nat), k ≤ 8 ∧ s3 = .int .i64 (k : Int) ∧ s0 = .int .u32 (y : Int) ∧ Hid (cshN k r = y) ∧ y < 4294967296 ∧ wr = w) (fun _ s3 _ => (8 - intOf s3).toNat)
 case atStart => exact ⟨0, r, by omega, rfl, rfl, hide rfl, hr, rfl⟩
 case round =>
  obtain ⟨k, y, hk, rfl, rfl, hy, hyl, rfl⟩ := hrel
  by_cases hlt : k < 8
  ·have hlti : (k : Int) < 8 := by omega
   have h1 : bits .and .u32 (y : Int) 1 = ((y % 2 : Nat) : Int) := by
    have := u32_and_nat y 1 hyl (by omega)
    rw [Nat.and_one_is_mod] at this
    exact this
   obtain ⟨z, hz⟩ : ∃ z, csh y = z := ⟨_, rfl⟩
   have hzl : z < 4294967296 := by
    have := csh_lt (r := y) (by omega)
    omega
   have hnx : Hid (cshN (k + 1) r = z) := hide (by show csh (cshN k r) = z; rw [hy.out, hz])
   have hd : (y : Int) / 2 = ((y / 2 : Nat) : Int) := by omega
   have hp : y % 2 = 0 ∨ y % 2 = 1 := by omega
   rcases hp with hp | hp
   ·rw [hp] at h1
    have h1 : bits .and .u32 (y : Int) 1 = 0 := h1
    have h5 : bits .xor .u32 ((y / 2 : Nat) : Int) 0 = (z : Int) := by
     have := u32_xor_nat (y / 2) 0 (by omega) (by omega)
     rw [Nat.xor_zero, ← csh_even hp, hz] at this
     rw [← csh_even hp, hz] at *
     exact this
    have h6 : (y : Int) / 2 = (z : Int) := by rw [hd, ← csh_even hp, hz]
    have h7 : bits .xor .u32 (z : Int) 0 = (z : Int) := by
     have := u32_xor_nat z 0 (by omega) (by omega)
     rw [Nat.xor_zero] at this
     exact this
    clear hz hd h5 hp hy
    go_wp2
    refine ⟨⟨k + 1, z, hlt, by go_num, by congr 1, hnx, hzl, by first | rfl | trivial⟩, ?_⟩
    simp [intOf] <;> omega
   ·rw [hp] at h1
    have h1 : bits .and .u32 (y : Int) 1 = 1 := h1
    obtain ⟨q, hq⟩ : ∃ q, y / 2 = q := ⟨_, rfl⟩
    have h6 : (y : Int) / 2 = (q : Int) := by omega
    have h7 : bits .xor .u32 (q : Int) 3988292384 = (z : Int) := by
     have := u32_xor_nat q 3988292384 (by omega) (by omega)
     rw [← hz, csh_odd hp, hq]
     exact this
    clear hz hd hp hy hq
    go_wp2
    refine ⟨⟨k + 1, z, hlt, by go_num, by congr 1, hnx, hzl, by first | rfl | trivial⟩, ?_⟩
    simp [intOf] <;> omega
  ·have hk8 : k = 8 := by omega
   subst hk8
   rw [← hy.out]
   go_wp2
   go_ret
   exact ⟨rfl, rfl⟩
set_option maxHeartbeats 1000000 in
theorem crcupd_any (s : List UInt8) (hs : s.length ≤ 1099511627776) (w : World) :
  Calls Tryz.prog 103 #[.int .u32 0, .string (bs s)] w fun x w' => x = .returned (.int .u32 (crcN s : Nat)) ∧ w = w' := by
 have hsz : (bs s).size = s.length := bs_size s
 have Hget : Hid (∀ (i : Nat) (h : i < s.length) (h2 : i < (bs s).size), (bs s)[i]'h2 = s[i]'h) := hide (fun i h h2 => bs_getC s i h h2)
 obtain ⟨n, hn⟩ : ∃ n, s.length = n := ⟨_, rfl⟩
 obtain ⟨S, hS⟩ : ∃ S, bs s = S := ⟨_, rfl⟩
 rw [hS] at hsz Hget ⊢
 rw [hn] at hsz hs
 have Hn := hide hn
 have Hsz := hide hsz
 have Hsh := hide (fun r (h : r < 4294967296) W => crcshift_any r h W)
 have n1 : bits .xor .u32 IntKind.u32.max 0 = 4294967295 := by decide
 clear hn hS hsz
 go_enter Tryz.func103, Tryz.ntmps103
 go_wp2
 go_loopw [5, 11] (fun s5 s11 wr => ∃ (i y : Nat), i ≤ n ∧ s11 = .int .i64 (i : Int) ∧ s5 = .int .u32 (y : Int) ∧ Hid (crg 4294967295 (s.take i) = y) ∧ y < 4294967296 ∧ wr = w) (fun _ s11 _ => (n - intOf s11).toNat)
 case atStart => exact ⟨0, 4294967295, Nat.zero_le _, rfl, by first | rfl | (simp; done), hide rfl, by omega, rfl⟩
 case round =>
  obtain ⟨i, y, hi, rfl, rfl, hy, hyl, rfl⟩ := hrel
  by_cases hlt : i < n
  ·have hil : i < s.length := by rw [Hn.out]; exact hlt
   have hiS : i < S.size := by rw [Hsz.out]; exact hlt
   have hg0 := Hget.out i hil
   have htk : s.take (i + 1) = s.take i ++ [s[i]] := List.take_succ_eq_append_getElem hil
   obtain ⟨c, hc⟩ : ∃ c, s[i] = c := ⟨_, rfl⟩
   rw [hc] at hg0 htk
   have hget : ∀ h : i < S.size, (S[i]'h).toNat = c.toNat := fun h => by rw [hg0 h]
   have hlti : (i : Int) < (S.size : Int) := by omega
   have hlti0 : (0 : Int) ≤ (i : Int) := by omega
   have hc8 := c.toNat_lt
   obtain ⟨a, ha⟩ : ∃ a, c.toNat = a := ⟨_, rfl⟩
   rw [ha] at hget hc8
   have hx := u32_xor_nat y a hyl (by omega)
   have hxl : y ^^^ a < 2 ^ 32 := Nat.xor_lt_two_pow (by omega) (by omega)
   obtain ⟨b, hb⟩ : ∃ b, y ^^^ a = b := ⟨_, rfl⟩
   rw [hb] at hx hxl
   have K := hide (Hsh.out b (by omega) wr)
   obtain ⟨z, hz⟩ : ∃ z, cshN 8 b = z := ⟨_, rfl⟩
   have hzl : z < 4294967296 := by
    have := cshN_lt hxl 8
    omega
   have hnx : Hid (crg 4294967295 (s.take (i + 1)) = z) := hide (by rw [htk, crg_snoc, hy.out, ha, hb, hz])
   rw [hz] at K
   have hxl2 : b < 4294967296 := by omega
   clear hil hg0 htk hc ha hb hz hxl hy
   go_wp2_with fail
   refine (K.out).mono ?_
   rintro x w1 ⟨rfl, rfl⟩
   go_wp2
   refine ⟨⟨i + 1, z, hlt, by go_num, by congr 1, hnx, hzl, by first | rfl | trivial⟩, ?_⟩
   simp [intOf] <;> omega
  ·have hin : i = n := by omega
   subst hin
   have hend : ¬ (i : Int) < (S.size : Int) := by rw [Hsz.out]; omega
   have hfin : Hid (((crcN s : Nat) : Int) = 4294967295 - (y : Int)) := hide (by
    have h1 := hy.out
    rw [List.take_of_length_le (by rw [Hn.out]; exact Nat.le_refl _)] at h1
    unfold crcN
    rw [h1]
    omega)
   have hwr := compl32 y hyl
   clear hy Hget
   go_wp2
   go_ret
   exact ⟨ret_of (by rw [hfin.out, ← hwr]; try rfl), rfl⟩
theorem crcsum_any (s : List UInt8) (hs : s.length ≤ 1099511627776) (w : World) :
  Calls Tryz.prog 63 #[.string (bs s)] w fun x w' => x = .returned (.int .u32 (crcN s : Nat)) ∧ w = w' := by
 have H := hide (crcupd_any s hs w)
 generalize bs s = S at *
 go_enter Tryz.func63, Tryz.ntmps63
 go_wp2_with fail
 refine (H.out).mono ?_
 rintro x w1 ⟨rfl, rfl⟩
 go_wp2
 go_ret
 exact ⟨rfl, rfl⟩
end Go.Proofs.YtjfcemlbbinanaaGreatDoor
/-
  The walks over the search of earlier occurrences: how many bytes are equal.
-/
namespace Go.Proofs.YtjfcemlbbinanaaGreatDoor
open Go.RowKit Go.Proofs Wv Wv.Vi Wv.Lz
set_option linter.unusedVariables false
theorem bs_getN (s : List UInt8) (i : Nat) (h : i < s.length) (h2 : i < (bs s).size) : ((bs s)[i]'h2).toNat = (s.getD i 0).toNat := by
 rw [bs_getC s i h h2]
 simp [List.getD, h]
set_option maxRecDepth 100000 in
set_option maxHeartbeats 2000000 in
theorem mcommon_any (s : List UInt8) (hs : s.length ≤ 1000000) (i j m : Nat) (hi : i + m ≤ s.length) (hj : j + m ≤ s.length) (w : World) :
    Calls Tryz.prog 166 #[.string (bs s), .int .i64 (i : Int), .int .i64 (j : Int), .int .i64 (m : Int)] w fun x w' => x = .returned (.int .i64 (com s i j m : Nat)) ∧ Below w.heap.size w w' := by
  have hsz : (bs s).size = s.length := bs_size s
  have Hg := hide (bs_getN s)
  obtain ⟨n, hn⟩ : ∃ n, s.length = n := ⟨_, rfl⟩
  obtain ⟨S, hS⟩ : ∃ S, bs s = S := ⟨_, rfl⟩
  obtain ⟨R, hR⟩ : ∃ R, com s i j m = R := ⟨_, rfl⟩
  have h0 : Hid (comA s i j 0 (m - 0) = R) := hide (by rw [Nat.sub_zero]; exact hR)
  have hRm : R ≤ m := by rw [← hR]; exact com_le s i j m
  have hst := hide (fun k (h : k < m) => (by obtain ⟨q, hq⟩ : ∃ q, m - k = q + 1 := ⟨m - k - 1, by omega⟩
                                             rw [hq, comA_step, show q = m - (k + 1) by omega] : comA s i j k (m - k) = if s.getD (i + k) 0 = s.getD (j + k) 0 then comA s i j (k + 1) (m - (k + 1)) else k))
  rw [hS] at hsz Hg ⊢
  rw [hn] at hsz hs hi hj Hg
  rw [hR]
  have Hsz := hide hsz
  clear hn hS hsz hR
  go_enter Tryz.func166, Tryz.ntmps166
  go_wp2
  go_loopw [11] (fun s11 wr => ∃ k : Nat, k ≤ m ∧ s11 = .int .i64 (k : Int) ∧ Hid (comA s i j k (m - k) = R) ∧ Hid (Below w.heap.size w wr)) (fun s11 _ => (m - intOf s11).toNat)
  case atStart => exact ⟨0, Nat.zero_le _, rfl, h0, hide (Below.refl _ _)⟩
  case round =>
    clear h0
    obtain ⟨k, hk, rfl, hc, hb⟩ := hrel
    by_cases hlt : k < m
    · have hiS : i + k < S.size := by rw [Hsz.out]; omega
      have hjS : j + k < S.size := by rw [Hsz.out]; omega
      have hga := Hg.out (i + k) (by omega)
      have hgb := Hg.out (j + k) (by omega)
      have hs1 := hst.out k hlt
      obtain ⟨a, ha⟩ : ∃ a, s.getD (i + k) 0 = a := ⟨_, rfl⟩
      obtain ⟨b, hb'⟩ : ∃ b, s.getD (j + k) 0 = b := ⟨_, rfl⟩
      rw [ha] at hga hs1
      rw [hb'] at hgb hs1
      have hiI : (i : Int) + (k : Int) < (S.size : Int) := by omega
      have hjI : (j : Int) + (k : Int) < (S.size : Int) := by omega
      have hi0 : (0 : Int) ≤ (i : Int) + (k : Int) := by omega
      have hj0 : (0 : Int) ≤ (j : Int) + (k : Int) := by omega
      have hlti : (k : Int) < (m : Int) := by omega
      have hc1 := hide (hc.out)
      rw [hs1] at hc1
      clear ha hb' hs1 hc Hg hst
      by_cases e : a = b
      · rw [if_pos e] at hc1
        subst e
        have e1 : ((a.toNat : Int) != (a.toNat : Int)) = false := by simp
        go_wp2
        go_quiet (fail)
        go_wp2
        refine ⟨⟨k + 1, hlt, by go_num, hc1, hide (bdN hb.out _)⟩, ?_⟩
        simp [intOf] <;> omega
      · rw [if_neg e] at hc1
        have e1 : ((a.toNat : Int) != (b.toNat : Int)) = true := by
          rw [bne_iff_ne]
          intro h
          exact e (UInt8.toNat_inj.1 (by omega))
        go_wp2
        go_quiet (fail)
        go_wp2
        go_returns
        rw [← hc1.out]
        exact ⟨rfl, bdN hb.out _⟩
    · have hkm : k = m := by omega
      subst hkm
      have hfin := hc.out
      rw [Nat.sub_self, comA_zero] at hfin
      have Hfin := hide hfin
      clear hfin hc
      go_wp2
      go_returns
      rw [← Hfin.out]
      exact ⟨by first | rfl | (congr 2; omega), hb.out⟩
def cpC (o : List (Nat × Nat)) : List Value := o.flatMap (fun c => [.int .i64 (c.1 : Int), .int .i64 (c.2 : Int)])
structure MtSt (w : World) (B ib wb bb mb db ob : Nat) (s : List UInt8) (i most b : Nat) (ov : Value) (o : List (Nat × Nat)) : Prop where
 i : Bk w ib 3 #[.int .i64 (i : Int)]
 win : Bk w wb 3 #[.int .i64 4096]
 best : Bk w bb 3 #[.int .i64 (b : Int)]
 most : Bk w mb 3 #[.int .i64 (most : Int)]
 data : Bk w db 9 #[.string (bs s)]
 out : Bk w ob 160 #[ov]
 row : w.ownsRow B 163 2 ov o.length (cpC o)
 n1 : ib ≠ bb
 n2 : wb ≠ bb
 n3 : mb ≠ bb
 nb : B ≤ bb
 no : B ≤ ob
theorem cpinf : (Tryz.prog.info? 163).map (fun i => (i.zero, i.size, i.bytes)) = some (some (.agg #[.int .i64 0, .int .i64 0]), 2, 16) := by kernel_rfl
theorem cpC_snoc (o : List (Nat × Nat)) (c : Nat × Nat) : cpC (o ++ [c]) = cpC o ++ [.int .i64 (c.1 : Int), .int .i64 (c.2 : Int)] := by simp [cpC]
end Go.Proofs.YtjfcemlbbinanaaGreatDoor
/-
  The walks over the search of earlier occurrences: one earlier position.
-/
namespace Wv
open Go Go.RowKit
theorem app_ownB {P : Program} (t e : TypeId) (z : Value) (bytes size : Nat) (ht : P.underlying t = some (.slice e)) (hinfo : (P.info? e).map (fun i => (i.zero, i.size, i.bytes)) = some (some z, size, bytes)) (hz1 : z.cells.size = size) (hs0 : 0 < size) {w wb : World} {B : Nat} {v : Value} {n : Nat} {xs : List Value} (h : w.ownsRow B e size v n xs) (hf : Below B wb w) (hB : B ≤ w.heap.size) (ys : List Value) (hys : ys.length = size) (h1 : ∀ y ∈ ys, y.oneCell' = true) (h63 : n + 1 ≤ maxLen) (hbytes : (n + 1) * bytes ≤ 140737488355328) :
    ∃ v' w', (Builtin.append_ #[t, t] t #[v, .slice (some ⟨w.heap.size, 0, none⟩) 1 1]).run P (w.alloc (.cells ys.toArray e)) = .ok v' w' ∧ w'.ownsRow B e size v' (n + 1) (xs ++ ys) ∧ Below B wb w' ∧ (∀ xb T cs, Bk w xb T cs → e ≠ T → Bk w' xb T cs) ∧ w.heap.size ≤ w'.heap.size := by
  obtain ⟨i, hi, hz, hs, hby⟩ := info_parts hinfo
  obtain ⟨v', w', hr, h2, h3, _, h5⟩ := run_append_own_at (P := P) (w.alloc (.cells ys.toArray e)) B t t e i z size bytes ht hi hz hs hby hz1 hs0 v n xs (h.alloc _) ⟨w.heap.size, 0, none⟩ 1 1 ys (by omega) (fun j u hu => by
      have hb := (Bk.new w e ys.toArray).cell j
      rw [Go.WideShapes.add_plain, Nat.zero_add, hb]
      simpa using hu) h1 h63 hbytes (Nat.le_trans hB (by simp))
  refine ⟨v', w', hr, h2, (hf.alloc hB _).grown h3 (Nat.le_trans hB (by simp)) (fun k hk => (h.lt k hk).1), fun xb T cs hk hT => (hk.alloc _).grown h3 (fun e => own_apart h hk hT e.symm), ?_⟩
  have := h3.size
  simp at this
  omega
end Wv
namespace Go.Proofs.YtjfcemlbbinanaaGreatDoor
open Go.RowKit Go.Proofs Wv Wv.Vi Wv.Lz
set_option linter.unusedVariables false
section
variable {w : World} {B ib wb bb mb db ob : Nat} {s : List UInt8} {i most b : Nat} {ov : Value} {o : List (Nat × Nat)}
theorem MtSt.below {w' : World} (h : MtSt w B ib wb bb mb db ob s i most b ov o) (hb : Below w.heap.size w w') : MtSt w' B ib wb bb mb db ob s i most b ov o :=
 ⟨h.i.below hb h.i.lt, h.win.below hb h.win.lt, h.best.below hb h.best.lt, h.most.below hb h.most.lt, h.data.below hb h.data.lt, h.out.below hb h.out.lt, own_fr h.row (Fr.of_below (S := nob) hb) (fun _ _ f => f), h.n1, h.n2, h.n3, h.nb, h.no⟩
theorem MtSt.setBest (h : MtSt w B ib wb bb mb db ob s i most b ov o) (n : Nat) : MtSt (w.setCell ⟨bb, 0, none⟩ (.int .i64 (n : Int))) B ib wb bb mb db ob s i most n ov o :=
 ⟨h.i.off (p := ⟨bb, 0, none⟩) h.n1 _, h.win.off (p := ⟨bb, 0, none⟩) h.n2 _, h.best.put 0 _, h.most.off (p := ⟨bb, 0, none⟩) h.n3 _, h.data.off (p := ⟨bb, 0, none⟩) (Bk.apart h.data h.best (by decide)) _, h.out.off (p := ⟨bb, 0, none⟩) (Bk.apart h.out h.best (by decide)) _,
  own_off h.row (p := ⟨bb, 0, none⟩) (own_apart h.row h.best (by decide)) _, h.n1, h.n2, h.n3, h.nb, h.no⟩
theorem MtSt.grow {w' : World} {ov' : Value} {o' : List (Nat × Nat)} (h : MtSt w B ib wb bb mb db ob s i most b ov o) (hk : ∀ xb T cs, Bk w xb T cs → 163 ≠ T → Bk w' xb T cs) (hr : w'.ownsRow B 163 2 ov' o'.length (cpC o')) : MtSt (w'.setCell ⟨ob, 0, none⟩ ov') B ib wb bb mb db ob s i most b ov' o' := by
 have ho := hk _ _ _ h.out (by decide)
 have hi := hk _ _ _ h.i (by decide)
 have hw := hk _ _ _ h.win (by decide)
 have hb := hk _ _ _ h.best (by decide)
 have hm := hk _ _ _ h.most (by decide)
 have hd := hk _ _ _ h.data (by decide)
 exact ⟨hi.off (p := ⟨ob, 0, none⟩) (Bk.apart hi ho (by decide)) _, hw.off (p := ⟨ob, 0, none⟩) (Bk.apart hw ho (by decide)) _, hb.off (p := ⟨ob, 0, none⟩) (Bk.apart hb ho (by decide)) _, hm.off (p := ⟨ob, 0, none⟩) (Bk.apart hm ho (by decide)) _, hd.off (p := ⟨ob, 0, none⟩) (Bk.apart hd ho (by decide)) _, ho.put 0 _,
  own_off hr (p := ⟨ob, 0, none⟩) (own_apart hr ho (by decide)) _, h.n1, h.n2, h.n3, h.nb, h.no⟩
theorem MtSt.cells (h : MtSt w B ib wb bb mb db ob s i most b ov o) : w.cell? ⟨ib, 0, none⟩ = some (.int .i64 (i : Int)) ∧ w.cell? ⟨wb, 0, none⟩ = some (.int .i64 4096) ∧ w.cell? ⟨bb, 0, none⟩ = some (.int .i64 (b : Int)) ∧ w.cell? ⟨mb, 0, none⟩ = some (.int .i64 (most : Int)) ∧ w.cell? ⟨db, 0, none⟩ = some (.string (bs s)) ∧ w.cell? ⟨ob, 0, none⟩ = some ov ∧ w.frozen? ⟨bb, 0, none⟩ = false ∧ w.frozen? ⟨ob, 0, none⟩ = false :=
 ⟨h.i.cell 0, h.win.cell 0, h.best.cell 0, h.most.cell 0, h.data.cell 0, h.out.cell 0, h.best.frozen 0, h.out.frozen 0⟩
def MtR (w : World) (B ib wb bb mb db ob : Nat) (s : List UInt8) (i most p b : Nat) (ov : Value) (o : List (Nat × Nat)) (x : Ending) (w' : World) : Prop :=
 ∃ b' ov' o', MtSt w' B ib wb bb mb db ob s i most b' ov' o' ∧ Below B w w' ∧ ((ystep s i most p b o = none ∧ x = .returned (.bool false) ∧ b' = b ∧ o' = o) ∨ (ystep s i most p b o = some (b', o') ∧ x = .returned (.bool true)))
set_option maxRecDepth 100000 in
set_option maxHeartbeats 2000000 in
theorem mbetter1_any (h : MtSt w B ib wb bb mb db ob s i most b ov o) (hB : B ≤ w.heap.size) (hs : s.length ≤ 4096) {p : Nat} (hp : p < i) (hi : i + most ≤ s.length) (ho : o.length ≤ 4096) :
  Calls Tryz.prog 165 #[.int .i64 (p : Int), .pointer (some ⟨ib, 0, none⟩), .pointer (some ⟨wb, 0, none⟩), .pointer (some ⟨bb, 0, none⟩), .pointer (some ⟨mb, 0, none⟩), .pointer (some ⟨db, 0, none⟩), .pointer (some ⟨ob, 0, none⟩)] w fun x w' => MtR w B ib wb bb mb db ob s i most p b ov o x w' := by
 have hw := Below.refl B w
 obtain ⟨c1, c2, c3, c4, c5, c6, c7, c8⟩ := h.cells
 have H := hide h
 by_cases h1 : 4096 < i - p
 ·have hy : ystep s i most p b o = none := by unfold ystep; rw [if_pos (.inl h1)]
  have hR : Hid (∀ w', Below w.heap.size w w' → MtR w B ib wb bb mb db ob s i most p b ov o (.returned (.bool false)) w') := hide (fun w' hb => ⟨b, ov, o, H.out.below hb, hw.trans (hb.mono hB), .inl ⟨hy, rfl, rfl, rfl⟩⟩)
  have h1i : (4096 : Int) < (i : Int) - (p : Int) := by omega
  clear hy h1 h H hw hB ho c5 c6 c7 c8
  go_enter Tryz.func165, Tryz.ntmps165
  go_wp2
  go_returns
  exact hR.out _ (Below.refl _ _)
 ·by_cases h2 : most ≤ b
  ·have hy : ystep s i most p b o = none := by unfold ystep; rw [if_pos (.inr h2)]
   have hR : Hid (∀ w', Below w.heap.size w w' → MtR w B ib wb bb mb db ob s i most p b ov o (.returned (.bool false)) w') := hide (fun w' hb => ⟨b, ov, o, H.out.below hb, hw.trans (hb.mono hB), .inl ⟨hy, rfl, rfl, rfl⟩⟩)
   have h1i : ¬ (4096 : Int) < (i : Int) - (p : Int) := by omega
   have h2i : (most : Int) ≤ (b : Int) := by omega
   clear hy h1 h2 h H hw hB ho c5 c6 c7 c8
   go_enter Tryz.func165, Tryz.ntmps165
   go_wp2
   go_returns
   exact hR.out _ (Below.refl _ _)
  ·have h1i : ¬ (4096 : Int) < (i : Int) - (p : Int) := by omega
   have h2i : ¬ (most : Int) ≤ (b : Int) := by omega
   have hsz : (bs s).size = s.length := bs_size s
   have hpS : p + b < (bs s).size := by omega
   have hiS : i + b < (bs s).size := by omega
   have hga := bs_getN s (p + b) (by omega) hpS
   have hgb := bs_getN s (i + b) (by omega) hiS
   have hpI : (p : Int) + (b : Int) < ((bs s).size : Int) := by omega
   have hiI : (i : Int) + (b : Int) < ((bs s).size : Int) := by omega
   have hp0 : (0 : Int) ≤ (p : Int) + (b : Int) := by omega
   have hi0 : (0 : Int) ≤ (i : Int) + (b : Int) := by omega
   have Hc := hide (fun W => mcommon_any s (by omega) p i most (by omega) hi W)
   have hlt1 : ¬ (4096 < i - p ∨ most ≤ b) := by omega
   have hcm := com_le s p i most
   by_cases h3 : s.getD (p + b) 0 = s.getD (i + b) 0
   ·have hy : ystep s i most p b o = if b < com s p i most then some (com s p i most, o ++ [(com s p i most, i - p)]) else some (b, o) := by
     unfold ystep; rw [if_neg hlt1, if_neg (by simpa using h3)]
    have hge : (bs s)[p + b] = (bs s)[i + b] := UInt8.toNat_inj.1 (by rw [hga, hgb, h3])
    obtain ⟨n, hn⟩ : ∃ n, com s p i most = n := ⟨_, rfl⟩
    rw [hn] at hy Hc hcm
    clear hga hgb h3 hn hlt1 h1 h2
    by_cases h4 : b < n
    ·rw [if_pos h4] at hy
     have h4i : (b : Int) < (n : Int) := by omega
     have hK : Hid (∀ n w', Below w.heap.size (w.drewN n) w' → MtSt w' B ib wb bb mb db ob s i most b ov o) := hide (fun n w' hb => H.out.below ((bdN (Below.refl _ _) n).trans hb))
     have hR : Hid (∀ w' ov', MtSt w' B ib wb bb mb db ob s i most n ov' (o ++ [(n, i - p)]) → Below B w w' → MtR w B ib wb bb mb db ob s i most p b ov o (.returned (.bool true)) w') := hide (fun w' ov' hm hb => ⟨n, ov', _, hm, hb, .inr ⟨hy, rfl⟩⟩)
     have hol : o.length + 1 = (o ++ [(n, i - p)]).length := by simp
     have hoc : cpC (o ++ [(n, i - p)]) = cpC o ++ [.int .i64 (n : Int), .int .i64 ((i : Int) - (p : Int))] := by
      rw [cpC_snoc]
      simp only
      rw [show ((i - p : Nat) : Int) = (i : Int) - (p : Int) by omega]
     have Hol := hide hol
     have Hoc := hide hoc
     have HB := hide hB
     generalize bs s = S at *
     clear hy h hw h4 hsz hol hoc
     go_enter Tryz.func165, Tryz.ntmps165
     go_wp2
     go_quiet (fail)
     go_wp2_with fail
     refine (Hc.out _).mono ?_
     rintro x w1 ⟨rfl, hb1⟩
     have hb2 : Below w.heap.size w w1 := (bdN (Below.refl w.heap.size w) nq).trans hb1
     have M1 := hK.out _ _ hb1
     obtain ⟨e1, e2, e3, e4, e5, e6, e7, e8⟩ := M1.cells
     have M2 := M1.setBest n
     have hbW : Below B w (w1.setCell ⟨bb, 0, none⟩ (.int .i64 (n : Int))) := (hb2.mono HB.out).setCell (p := ⟨bb, 0, none⟩) M1.nb _
     have hBW : B ≤ (w1.setCell ⟨bb, 0, none⟩ (.int .i64 (n : Int))).heap.size := Nat.le_trans HB.out hbW.size
     obtain ⟨g1, g2, g3, g4, g5, g6, g7, g8⟩ := M2.cells
     obtain ⟨v', w2, hr, hrow, hbel, hkeep, hsz2⟩ := app_ownB (P := Tryz.prog) 160 163 _ _ 2 Tryz.underlying160 cpinf rfl (by omega) M2.row hbW hBW [.int .i64 (n : Int), .int .i64 ((i : Int) - (p : Int))] rfl (by simp [Value.oneCell']) (by unfold maxLen; omega) (by omega)
     rw [Hol.out, ← Hoc.out] at hrow
     obtain ⟨A', M', cap', rfl⟩ := own_slice hrow
     have M3 := M2.grow hkeep hrow
     have ho2 := hkeep _ _ _ M2.out (by decide)
     have k6 := ho2.cell 0
     have k8 := ho2.frozen 0
     have HR3 := hide (hR.out _ _ M3 (hbel.setCell (p := ⟨ob, 0, none⟩) M1.no _))
     have Hrun := hide hr
     generalize hW2 : w1.setCell ⟨bb, 0, none⟩ (.int .i64 (n : Int)) = W2 at *
     clear e5 e6 M1 M2 M3 hbW hBW hkeep ho2 hrow hr hbel hR hK hb2
     go_wp2_with (at_builtin; refine wpList_run (by with_reducible rfl) rfl _ _ _ rfl _ _ (by rfl) (by rfl) Hrun.out ?_)
     go_returns
     exact HR3.out
    ·rw [if_neg h4] at hy
     have hR : Hid (∀ w', Below w.heap.size w w' → MtR w B ib wb bb mb db ob s i most p b ov o (.returned (.bool true)) w') := hide (fun w' hb => ⟨b, ov, o, H.out.below hb, hw.trans (hb.mono hB), .inr ⟨hy, rfl⟩⟩)
     have h4i : ¬ (b : Int) < (n : Int) := by omega
     have hK : Hid (∀ n w', Below w.heap.size (w.drewN n) w' → MtSt w' B ib wb bb mb db ob s i most b ov o) := hide (fun n w' hb => H.out.below ((bdN (Below.refl _ _) n).trans hb))
     generalize bs s = S at *
     clear hy h hw hB ho h4 hsz
     go_enter Tryz.func165, Tryz.ntmps165
     go_wp2
     go_quiet (fail)
     go_wp2_with fail
     refine (Hc.out _).mono ?_
     rintro x w1 ⟨rfl, hb1⟩
     have hb2 : Below w.heap.size w w1 := (bdN (Below.refl w.heap.size w) nq).trans hb1
     obtain ⟨e1, e2, e3, e4, e5, e6, e7, e8⟩ := (hK.out _ _ hb1).cells
     clear e5 e6 e7 e8
     go_wp2
     go_returns
     exact hR.out _ hb2
   ·have hy : ystep s i most p b o = some (b, o) := by unfold ystep; rw [if_neg hlt1, if_pos h3]
    have hR : Hid (∀ w', Below w.heap.size w w' → MtR w B ib wb bb mb db ob s i most p b ov o (.returned (.bool true)) w') := hide (fun w' hb => ⟨b, ov, o, H.out.below hb, hw.trans (hb.mono hB), .inr ⟨hy, rfl⟩⟩)
    have hge : ((((bs s)[p + b]).toNat : Int) != (((bs s)[i + b]).toNat : Int)) = true := by
     rw [bne_iff_ne]
     intro e
     exact h3 (UInt8.toNat_inj.1 (by rw [← hga, ← hgb]; omega))
    generalize bs s = S at *
    clear hga hgb h3 hlt1 h1 h2 hy h H hw hB ho hsz
    go_enter Tryz.func165, Tryz.ntmps165
    go_wp2
    go_quiet (fail)
    go_wp2
    go_returns
    exact hR.out _ (bdN (Below.refl _ _) _)
end
end Go.Proofs.YtjfcemlbbinanaaGreatDoor
/-
  The walks over the search of earlier occurrences: all positions.
-/
namespace Go.Proofs.YtjfcemlbbinanaaGreatDoor
open Go.RowKit Go.Proofs Wv Wv.Vi Wv.Lz
set_option linter.unusedVariables false
def yldV (ib wb bb mb db ob : Nat) : Value := .func (.func 165) #[] #[.pointer (some ⟨ib, 0, none⟩), .pointer (some ⟨wb, 0, none⟩), .pointer (some ⟨bb, 0, none⟩), .pointer (some ⟨mb, 0, none⟩), .pointer (some ⟨db, 0, none⟩), .pointer (some ⟨ob, 0, none⟩)]
theorem ystep_len {s : List UInt8} {i most p b : Nat} {o : List (Nat × Nat)} {y : Nat × List (Nat × Nat)} (h : ystep s i most p b o = some y) : y.2.length ≤ o.length + 1 := by
 unfold ystep at h
 split at h
 ·cases h
 ·split at h
  ·injection h with h; rw [← h]; simp
  ·split at h
   ·injection h with h; rw [← h]; simp
   ·injection h with h; rw [← h]; simp
section
variable {w : World} {B ib wb bb mb db ob : Nat} {s : List UInt8} {i most b : Nat} {ov : Value} {o : List (Nat × Nat)}
set_option maxRecDepth 100000 in
set_option maxHeartbeats 2000000 in
theorem mcand1_any (h : MtSt w B ib wb bb mb db ob s i most b ov o) (hB : B ≤ w.heap.size) (hs : s.length ≤ 4096) (hi : i + most ≤ s.length) (ho : o.length = 0) {cb : Nat} (hc : w.cell? ⟨cb, 0, none⟩ = some (.int .i64 (i : Int))) :
  Calls Tryz.prog 151 #[yldV ib wb bb mb db ob, .pointer (some ⟨cb, 0, none⟩)] w fun x w' => x = .returned (.tuple #[]) ∧ ∃ b' ov', MtSt w' B ib wb bb mb db ob s i most b' ov' (btr s i most i b o) ∧ Below B w w' := by
 obtain ⟨R, hR⟩ : ∃ R, btr s i most i b o = R := ⟨_, rfl⟩
 have h0 := hide hR
 rw [hR]
 have H := hide h
 have Hst := hide (fun (W : World) (p b : Nat) (ov : Value) (o : List (Nat × Nat)) (hM : MtSt W B ib wb bb mb db ob s i most b ov o) (hBW : B ≤ W.heap.size) (hp : p < i) (ho : o.length ≤ 4096) => mbetter1_any hM hBW hs hp hi ho)
 have Hbs := hide (fun p b o => btr_step s i most p b o)
 have hb0 := hide (Below.refl B w)
 have hi4 : i ≤ 4096 := by omega
 have hil := hide (show o.length + i ≤ i by omega)
 clear hR h ho
 unfold yldV
 go_enter Tryz.func151, Tryz.ntmps151
 go_wp2
 go_loopw [3] (fun s3 wr => ∃ (p b : Nat) (ov : Value) (o : List (Nat × Nat)), p ≤ i ∧ s3 = .int .i64 ((p : Int) - 1) ∧ Hid (MtSt wr B ib wb bb mb db ob s i most b ov o) ∧ Hid (btr s i most p b o = R) ∧ Hid (Below B w wr) ∧ Hid (o.length + p ≤ i)) (fun s3 _ => (intOf s3 + 1).toNat)
 case atStart => exact ⟨i, b, ov, o, Nat.le_refl _, rfl, H, h0, hb0, hil⟩
 case round =>
  clear H h0 hb0 hil hc
  obtain ⟨p, b, ov, o, hp, rfl, hM, hR, hb, hol⟩ := hrel
  by_cases hlt : 0 < p
  ·obtain ⟨q, rfl⟩ : ∃ q, p = q + 1 := ⟨p - 1, by omega⟩
   have i1 : ((q + 1 : Nat) : Int) - 1 = (q : Int) := by omega
   rw [i1]
   have hBw : B ≤ wr.heap.size := Nat.le_trans hB hb.out.size
   have Hq := hide (Hst.out wr q b ov o hM.out hBw (by omega) (by have := hol.out; omega))
   have hq0 : (0 : Int) ≤ (q : Int) := by omega
   have hR2 := hR.out
   rw [Hbs.out] at hR2
   have HR2 := hide hR2
   clear hR hR2 hM
   go_wp2_with fail
   refine (Hq.out).mono ?_
   rintro x w1 ⟨b', ov', o', hM', hb', hcase⟩
   have hbb := hide (hb.out.trans hb')
   have HM' := hide hM'
   rcases hcase with ⟨hy, rfl, rfl, rfl⟩ | ⟨hy, rfl⟩
   ·have hRo := HR2.out
    rw [hy] at hRo
    have HRo := hide hRo
    clear hy hRo HR2 hM' hb'
    go_wp2
    first | go_end0 | go_returns
    rw [← HRo.out]
    exact ⟨rfl, _, _, HM'.out, hbb.out⟩
   ·have hRo := HR2.out
    rw [hy] at hRo
    have HRo := hide hRo
    have hyl := ystep_len hy
    have Hyl := hide (show o'.length + q ≤ i by have := hol.out; simp only at hyl; omega)
    clear hy hRo HR2 hM' hb' hyl
    go_wp2
    refine ⟨⟨q, b', ov', o', by omega, rfl, HM', HRo, hbb, Hyl⟩, ?_⟩
    simp [intOf] <;> omega
  ·have hp0 : p = 0 := by omega
   subst hp0
   have hRo : Hid (o = R) := hR
   clear hR
   go_wp2
   first | go_end0 | go_returns
   rw [← hRo.out]
   exact ⟨rfl, _, _, hM.out, hb.out⟩
end
end Go.Proofs.YtjfcemlbbinanaaGreatDoor
/-
  The walks over the search of earlier occurrences: the occurrences at a position.
-/
namespace Go.Proofs.YtjfcemlbbinanaaGreatDoor
open Go.RowKit Go.Proofs Wv Wv.Vi Wv.Lz
set_option linter.unusedVariables false
def mtW (w : World) (s : List UInt8) (i : Nat) (m : Int) : World := ((((((w.alloc (.cells #[.string (bs s)] 9)).alloc (.cells #[.int .i64 (i : Int)] 3)).alloc (.cells #[.int .i64 4096] 3)).alloc (.cells #[.int .i64 m] 3)).alloc (.cells #[.slice none 0 0] 160)).alloc (.cells #[.int .i64 1] 3))
theorem Bk.newN (w : World) (t : TypeId) (cs : Array Value) {n : Nat} (h : w.heap.size = n) : Bk (w.alloc (.cells cs t)) n t cs := h ▸ Bk.new w t cs
theorem mt_start (w : World) (s : List UInt8) (i m : Nat) : MtSt (mtW w s i m) w.heap.size (w.heap.size + 1) (w.heap.size + 1 + 1) (w.heap.size + 1 + 1 + 1 + 1 + 1) (w.heap.size + 1 + 1 + 1) w.heap.size (w.heap.size + 1 + 1 + 1 + 1) s i m 1 (.slice none 0 0) [] ∧ Below w.heap.size w (mtW w s i m) := by
 have hb : Below w.heap.size w (mtW w s i m) := ((((((Below.refl w.heap.size w).alloc (Nat.le_refl _) _).alloc (by simp) _).alloc (by simp; omega) _).alloc (by simp; omega) _).alloc (by simp; omega) _).alloc (by simp; omega) _
 refine ⟨⟨?_, ?_, ?_, ?_, ?_, ?_, own_nil, by omega, by omega, by omega, by omega, by omega⟩, hb⟩
 ·exact ((((Bk.newN _ _ _ (by simp)).alloc _).alloc _).alloc _).alloc _
 ·exact (((Bk.newN _ _ _ (by simp)).alloc _).alloc _).alloc _
 ·exact Bk.newN _ _ _ (by simp)
 ·exact ((Bk.newN _ _ _ (by simp)).alloc _).alloc _
 ·exact (((((Bk.new _ _ _).alloc _).alloc _).alloc _).alloc _).alloc _
 ·exact (Bk.newN _ _ _ (by simp)).alloc _
set_option maxRecDepth 100000 in
set_option maxHeartbeats 2000000 in
theorem mbetter_any (s : List UInt8) (hs : s.length ≤ 4096) (i : Nat) (hi : i ≤ s.length) {w : World} {cb : Nat} (hc : w.cell? ⟨cb, 0, none⟩ = some (.int .i64 (i : Int))) (hcb : cb < w.heap.size) :
  Calls Tryz.prog 150 #[.string (bs s), .int .i64 (i : Int), .int .i64 4096, .int .i64 273, .func (.func 151) #[] #[.pointer (some ⟨cb, 0, none⟩)]] w fun x w' => ∃ ov, x = .returned ov ∧ w'.ownsRow w.heap.size 163 2 ov (cand s i).length (cpC (cand s i)) ∧ Below w.heap.size w w' := by
 have hsz : (bs s).size = s.length := bs_size s
 have hmost : mostAt s i = min 273 (s.length - i) := rfl
 have hR : cand s i = btr s i (mostAt s i) i 1 [] := rfl
 rw [hR]
 obtain ⟨m, hm⟩ : ∃ m, mostAt s i = m := ⟨_, rfl⟩
 rw [hm] at hmost ⊢
 have him : i + m ≤ s.length := by omega
 have Hc := hide (fun (W : World) (B ib wb bb mb db ob : Nat) (ov : Value) (h : MtSt W B ib wb bb mb db ob s i m 1 ov []) (hB : B ≤ W.heap.size) (hc : W.cell? ⟨cb, 0, none⟩ = some (.int .i64 (i : Int))) => mcand1_any h hB hs him rfl hc)
 obtain ⟨hM, hbM⟩ := mt_start w s i m
 have Hq := hide (Hc.out _ _ _ _ _ _ _ _ _ hM hbM.size ((hbM.cell (p := ⟨cb, 0, none⟩) hcb).trans hc))
 unfold yldV mtW at Hq
 have HbM := hide hbM
 generalize btr s i m i 1 [] = R at *
 have Hhs := hide hs
 by_cases h273 : 273 ≤ s.length - i
 ·have hm2 : m = 273 := by omega
  have hmin : min (273 : Int) ((s.length : Int) - (i : Int)) = 273 := by omega
  have h273i : (273 : Int) ≤ (s.length : Int) - (i : Int) := by omega
  subst hm2
  clear hmost hR hm hM hbM Hc him
  go_enter Tryz.func150, Tryz.ntmps150
  go_wp2_with fail
  refine (Hq.out).mono ?_
  rintro x w1 ⟨rfl, b', ov', hM', hb'⟩
  have c6 := hM'.out.cell 0
  obtain ⟨A', M', cap', rfl⟩ := own_slice hM'.row
  simp at c6
  have HF := hide (⟨hM'.row, HbM.out.trans hb'⟩ : w1.ownsRow w.heap.size 163 2 (.slice A' M' cap') R.length (cpC R) ∧ Below w.heap.size w w1)
  clear hM' hb' Hq HbM
  go_wp2
  go_returns
  exact ⟨_, rfl, HF.out⟩
 ·have h273i : ¬ (273 : Int) ≤ (s.length : Int) - (i : Int) := by omega
  have hmin : min (273 : Int) ((s.length : Int) - (i : Int)) = (s.length : Int) - (i : Int) := by omega
  have hm2 : ((s.length : Int) - (i : Int)) = (m : Int) := by omega
  rw [← hm2] at Hq
  have Hm2 := hide hm2
  clear hmost hR hm hM hbM Hc him hm2
  go_enter Tryz.func150, Tryz.ntmps150
  go_wp2_with fail
  refine (Hq.out).mono ?_
  rintro x w1 ⟨rfl, b', ov', hM', hb'⟩
  have c6 := hM'.out.cell 0
  obtain ⟨A', M', cap', rfl⟩ := own_slice hM'.row
  simp at c6
  have hbm := HbM.out
  unfold mtW at hbm
  rw [← Hm2.out] at hbm
  have HF := hide (⟨hM'.row, hbm.trans hb'⟩ : w1.ownsRow w.heap.size 163 2 (.slice A' M' cap') R.length (cpC R) ∧ Below w.heap.size w w1)
  clear hM' hb' Hq HbM hbm
  go_wp2
  go_returns
  exact ⟨_, rfl, HF.out⟩
set_option maxRecDepth 100000 in
set_option maxHeartbeats 2000000 in
theorem mvalid_any (w : World) : Calls Tryz.prog 149 #[.int .i64 4096, .int .i64 273] w fun x w' => x = .returned (.bool true) ∧ w = w' := by
 go_enter Tryz.func149, Tryz.ntmps149
 go_wp2
 go_returns
 exact ⟨rfl, rfl⟩
set_option maxRecDepth 100000 in
set_option maxHeartbeats 2000000 in
theorem mcands_any (s : List UInt8) (hs : s.length ≤ 4096) (i : Nat) (hi : i ≤ s.length) (w : World) :
  Calls Tryz.prog 122 #[.string (bs s), .int .i64 (i : Int), .int .i64 4096, .int .i64 273] w fun x w' => ∃ ov, x = .returned ov ∧ w'.ownsRow w.heap.size 163 2 ov (cand s i).length (cpC (cand s i)) ∧ Below w.heap.size w w' := by
 have Hv := hide (fun W => mvalid_any W)
 have hsz : (bs s).size = s.length := bs_size s
 have hsi : ¬ (4096 : Int) < ((bs s).size : Int) := by omega
 have hii : ¬ ((bs s).size : Int) < (i : Int) := by omega
 have hb0 := (Below.refl w.heap.size w).alloc (Nat.le_refl _) (.cells #[.int .i64 (i : Int)] 3)
 have Hb := hide (mbetter_any s hs i hi (w := w.alloc (.cells #[.int .i64 (i : Int)] 3)) (cb := w.heap.size) ((Bk.new w 3 #[.int .i64 (i : Int)]).cell 0) (by simp))
 generalize cand s i = R at *
 have HF : Hid (∀ (w' : World) ov, w'.ownsRow (w.alloc (.cells #[.int .i64 (i : Int)] 3)).heap.size 163 2 ov R.length (cpC R) → Below (w.alloc (.cells #[.int .i64 (i : Int)] 3)).heap.size (w.alloc (.cells #[.int .i64 (i : Int)] 3)) w' → w'.ownsRow w.heap.size 163 2 ov R.length (cpC R) ∧ Below w.heap.size w w') :=
  hide (fun w' ov h1 h2 => ⟨own_base h1 (by simp), hb0.trans (h2.mono (by simp))⟩)
 generalize bs s = S at *
 clear hb0 hsz hs hi
 go_enter Tryz.func122, Tryz.ntmps122
 go_wp2_with fail
 refine (Hv.out _).mono ?_
 rintro x w1 ⟨rfl, rfl⟩
 go_wp2_with fail
 refine (Hb.out).mono ?_
 rintro x w1 ⟨ov, rfl, h1, h2⟩
 have HG := hide (HF.out _ _ h1 h2)
 obtain ⟨A', M', cap', rfl⟩ := own_slice h1
 clear h1 h2 HF Hb Hv
 go_wp2
 go_returns
 exact ⟨_, rfl, HG.out⟩
end Go.Proofs.YtjfcemlbbinanaaGreatDoor
