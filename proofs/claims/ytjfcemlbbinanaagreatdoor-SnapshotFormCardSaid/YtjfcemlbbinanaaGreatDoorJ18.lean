/-
  Joined texts: Ec, Ed, Ee, Ej, Me, Mf.
-/
import Derived.Test.YtjfcemlbbinanaaGreatDoorJ17
import Derived.Test.YtjfcemlbbinanaaGreatDoorJ16
import Derived.Test.YtjfcemlbbinanaaGreatDoorJ12
set_option linter.unusedVariables false
set_option linter.unusedSimpArgs false
/-
  The walks over decimal numbers: zeros at both ends.
-/
namespace Go.Proofs.YtjfcemlbbinanaaGreatDoor
open Go.RowKit Go.Proofs Wv Wv.Dc
set_option linter.unusedVariables false

def DR (w : World) (v : Value) (d : List UInt8) : Prop := ∃ A cap, v = .slice A d.length cap ∧ At w A (d.map bv) ∧ d.length ≤ cap ∧ cap ≤ maxLen
theorem DR.nil (w : World) : DR w (.slice none 0 0) [] := ⟨none, 0, rfl, At.nil _ _, Nat.le_refl _, Nat.zero_le _⟩
theorem trimL_cons (c : UInt8) (t : List UInt8) : trimL (c :: t) = if c = 48 then trimL t else c :: t := by
 unfold trimL
 rw [List.dropWhile_cons]
 by_cases h : c = 48
 ·subst h; rfl
 ·rw [if_neg h, if_neg (by simpa using h)]
set_option maxHeartbeats 1000000 in
theorem tlb_any {w : World} {A : Option Addr} {d : List UInt8} (h : At w A (d.map bv)) (n cap : Nat) (hn : n = d.length) (hc : n ≤ cap) (hm : cap ≤ maxLen) :
  Calls Tryz.prog 172 #[.slice A n cap, .int .u8 48] w fun x w' => ∃ v, x = .returned v ∧ DR w' v (trimL d) ∧ Below w.heap.size w w' := by
 have Hat := hide h
 have hm2 : cap ≤ 9223372036854775807 := by unfold maxLen at hm; omega
 have Hn := hide hn
 have Hm := hide hm
 clear h hn hm
 go_enter Tryz.func172, Tryz.ntmps172
 go_wp2
 go_loopw [0] (fun v wr => ∃ (k m cap' : Nat) (A' : Option Addr), k ≤ d.length ∧ m = d.length - k ∧ v = .slice A' m cap' ∧ At wr A' ((d.drop k).map bv) ∧ m ≤ cap' ∧ cap' ≤ 9223372036854775807 ∧ Hid (cap' ≤ maxLen) ∧ Hid (trimL (d.drop k) = trimL d) ∧ Below w.heap.size w wr) (fun v _ => match v with | .slice _ m _ => m | _ => 0)
 case atStart => exact ⟨0, n, cap, A, by omega, by rw [← Hn.out, Nat.sub_zero], rfl, Hat.out, hc, hm2, Hm, hide rfl, Below.refl _ _⟩
 case round =>
  obtain ⟨k, m, cap', A', hk, hmk, rfl, hat, hc', hm', hmx, htr, hf⟩ := hrel
  by_cases h0 : 0 < m
  ·have hlt : k < d.length := by omega
   have hd : d.drop k = d[k] :: d.drop (k + 1) := List.drop_eq_getElem_cons hlt
   obtain ⟨c, hcc⟩ : ∃ c, d[k] = c := ⟨_, rfl⟩
   rw [hcc] at hd
   have hat0 := hat
   rw [hd] at hat
   obtain ⟨b, o, hA, hb, hcell⟩ := hat.get 0 (bv c) rfl
   subst hA
   have hcell' : wr.cell? ⟨b, o, none⟩ = some (.int .u8 (c.toNat : Int)) := hcell
   have hsh := at_shift hat 1
   have htc := trimL_cons c (d.drop (k + 1))
   have hto := htr.out
   rw [hd] at hto
   rw [htc] at hto
   by_cases h48 : c = 48
   ·rw [if_pos h48] at hto
    subst h48
    have Hto := hide hto
    have Hsh := hide hsh
    have Hf := hide hf
    clear hto hsh hf hat hat0 hd hcc htc htr hcell
    have Hmk := hide hmk
    have Hm1 := hide (show m - 1 = d.length - (k + 1) by omega)
    clear hmk
    by_cases hc1 : cap' = 1
    ·have hm9 : m = 1 := by omega
     go_wp2
     refine ⟨⟨k + 1, 0, 0, some ⟨b, o, none⟩, by omega, by have := Hm1.out; omega, rfl, ?_, Nat.le_refl _, by omega, hide (Nat.zero_le _), Hto, Hf.out⟩, by show 0 < m; omega⟩
     have : d.drop (k + 1) = [] := List.drop_eq_nil_of_le (by have := Hmk.out; omega)
     rw [this]
     exact At.nil _ _
    ·go_wp2
     refine ⟨⟨k + 1, m - 1, cap' - 1, some ⟨b, o + 1, none⟩, by omega, Hm1.out, by first | rw [if_neg hc1] | rfl, ?_, by omega, by omega, hide (by have := hmx.out; omega), Hto, Hf.out⟩, by first | (rw [if_neg hc1]; show m - 1 < m; omega) | (show m - 1 < m; omega)⟩
     have := Hsh.out
     rw [List.map_cons, List.drop_one, List.tail_cons] at this
     exact this
   ·rw [if_neg h48] at hto
    have hne : ((c.toNat : Int) == 48) = false := by
     rw [beq_eq_false_iff_ne]
     intro e
     exact h48 (UInt8.toNat_inj.1 (by rw [show (48 : UInt8).toNat = 48 from rfl]; omega))
    have Hto := hide hto
    have Hat0 := hide hat0
    have Hd := hide hd
    have Hmk := hide hmk
    have hm0 : ((m : Int) == 0) = false := by rw [beq_eq_false_iff_ne]; omega
    clear hto hat hat0 hd hcc htc htr hcell hsh h48 hmk
    go_wp2
    go_returns
    rw [← Hto.out, ← Hd.out]
    exact ⟨.slice (some ⟨b, o, none⟩) m cap', rfl, ⟨_, cap', by rw [List.length_drop, ← Hmk.out], Hat0.out, by rw [List.length_drop, ← Hmk.out]; exact hc', hmx.out⟩, hf⟩
  ·have hm0 : m = 0 := by omega
   have hdn : d.drop k = [] := List.drop_eq_nil_of_le (by omega)
   have hto := htr.out
   rw [hdn] at hto
   have ht : trimL ([] : List UInt8) = [] := rfl
   rw [ht] at hto
   have Hto := hide hto
   clear htr hdn hto ht hat hmk
   subst hm0
   go_wp2
   go_returns
   rw [← Hto.out]
   exact ⟨_, rfl, DR.nil _, hf⟩
set_option maxHeartbeats 1000000 in
theorem trimleft_any {w : World} {A : Option Addr} {d : List UInt8} (h : At w A (d.map bv)) (n cap : Nat) (hn : n = d.length) (hc : n ≤ cap) (hm : cap ≤ maxLen) :
  Calls Tryz.prog 161 #[.slice A n cap, .string ⟨#[48]⟩] w fun x w' => ∃ v, x = .returned v ∧ DR w' v (trimL d) ∧ Below w.heap.size w w' := by
 have H := hide (tlb_any h n cap hn hc hm)
 by_cases h0 : n = 0
 ·subst h0
  have hd : d = [] := List.eq_nil_of_length_eq_zero hn.symm
  subst hd
  clear h hn H hm
  go_enter Tryz.func161, Tryz.ntmps161
  go_wp2
  go_returns
  exact ⟨_, rfl, DR.nil _, Below.refl _ _⟩
 ·have hn0 : ((n : Int) == 0) = false := by rw [beq_eq_false_iff_ne]; omega
  have hg0 : ((⟨#[48]⟩ : ByteArray)[0]'Nat.zero_lt_one) = 48 := rfl
  clear h hn hm h0 hc
  go_enter Tryz.func161, Tryz.ntmps161
  go_wp2_with (go_at_call 172; refine (H.out).mono ?_; rintro x w1 ⟨v, rfl, hd, hb⟩)
  go_returns
  exact ⟨_, rfl, hd, hb⟩
theorem trimR_snoc (d : List UInt8) (c : UInt8) : trimR (d ++ [c]) = if c = 48 then trimR d else d ++ [c] := by
 unfold trimR
 rw [List.reverse_append, List.reverse_singleton, List.singleton_append, trimL_cons]
 split
 ·rfl
 ·rw [List.reverse_cons, List.reverse_reverse]
set_option maxHeartbeats 1000000 in
theorem trb_any {w : World} {A : Option Addr} {d : List UInt8} (h : At w A (d.map bv)) (n cap : Nat) (hn : n = d.length) (hc : n ≤ cap) (hm : cap ≤ maxLen) :
  Calls Tryz.prog 176 #[.slice A n cap, .int .u8 48] w fun x w' => x = .returned (.slice A (trimR d).length cap) ∧ Below w.heap.size w w' := by
 have Hat := hide h
 have hm2 : cap ≤ 9223372036854775807 := by unfold maxLen at hm; omega
 have Hn := hide hn
 clear h hn hm
 go_enter Tryz.func176, Tryz.ntmps176
 go_wp2
 go_loopw [0] (fun v wr => ∃ k : Nat, k ≤ n ∧ v = .slice A k cap ∧ Hid (trimR (d.take k) = trimR d) ∧ Below w.heap.size w wr) (fun v _ => match v with | .slice _ m _ => m | _ => 0)
 case atStart => exact ⟨n, Nat.le_refl _, rfl, hide (by rw [Hn.out, List.take_length]), Below.refl _ _⟩
 case round =>
  obtain ⟨k, hk, rfl, htr, hf⟩ := hrel
  by_cases h0 : 0 < k
  ·obtain ⟨j, rfl⟩ : ∃ j, k = j + 1 := ⟨k - 1, by omega⟩
   have hj : j < d.length := by rw [← Hn.out]; omega
   have hd : d.take (j + 1) = d.take j ++ [d[j]] := List.take_succ_eq_append_getElem hj
   obtain ⟨c, hcc⟩ : ∃ c, d[j] = c := ⟨_, rfl⟩
   rw [hcc] at hd
   have hto := htr.out
   rw [hd, trimR_snoc] at hto
   obtain ⟨b, o, hA, hb, hcell⟩ := (Hat.out.below hf).get j (bv c) (by rw [List.getElem?_map, List.getElem?_eq_getElem hj, hcc]; rfl)
   have hcell' : wr.cell? ⟨b, o + j, none⟩ = some (.int .u8 (c.toNat : Int)) := hcell
   subst hA
   by_cases h48 : c = 48
   ·rw [if_pos h48] at hto
    subst h48
    have Hto := hide hto
    clear hto hd hcc htr hcell hj
    go_wp2
    refine ⟨⟨j, by omega, rfl, Hto, hf⟩, by show j < j + 1; omega⟩
   ·rw [if_neg h48] at hto
    have hne : ((c.toNat : Int) == 48) = false := by
     rw [beq_eq_false_iff_ne]
     intro e
     exact h48 (UInt8.toNat_inj.1 (by rw [show (48 : UInt8).toNat = 48 from rfl]; omega))
    have hlen : (trimR d).length = j + 1 := by
     rw [← hto, List.length_append, List.length_take]
     simp
     omega
    have Hlen := hide hlen
    clear hto hd hcc htr hcell hj h48 hlen
    go_wp2
    go_returns
    exact ⟨by rw [Hlen.out] <;> rfl, hf⟩
  ·have hk0 : k = 0 := by omega
   subst hk0
   have hlen : (trimR d).length = 0 := by rw [← htr.out]; rfl
   have Hlen := hide hlen
   clear htr hlen
   go_wp2
   go_returns
   exact ⟨by rw [Hlen.out] <;> rfl, hf⟩
set_option maxHeartbeats 1000000 in
theorem trimright_any {w : World} {A : Option Addr} {d : List UInt8} (h : At w A (d.map bv)) (n cap : Nat) (hn : n = d.length) (hc : n ≤ cap) (hm : cap ≤ maxLen) :
  Calls Tryz.prog 162 #[.slice A n cap, .string ⟨#[48]⟩] w fun x w' => x = .returned (.slice A (trimR d).length cap) ∧ Below w.heap.size w w' := by
 have H := hide (trb_any h n cap hn hc hm)
 by_cases h0 : n = 0
 ·subst h0
  have hd : d = [] := List.eq_nil_of_length_eq_zero hn.symm
  subst hd
  have ht : (trimR ([] : List UInt8)).length = 0 := rfl
  rw [ht]
  clear h hn H hm ht
  go_enter Tryz.func162, Tryz.ntmps162
  go_wp2
  go_returns
  exact ⟨rfl, Below.refl _ _⟩
 ·have hn0 : ((n : Int) == 0) = false := by rw [beq_eq_false_iff_ne]; omega
  have hg0 : ((⟨#[48]⟩ : ByteArray)[0]'Nat.zero_lt_one) = 48 := rfl
  clear h hn hm h0 hc
  go_enter Tryz.func162, Tryz.ntmps162
  go_wp2_with (go_at_call 176; refine (H.out).mono ?_; rintro x w1 ⟨rfl, hb⟩)
  go_returns
  exact ⟨rfl, hb⟩
theorem nres_end {w0 w : World} {r : Nat} (hr : Bk w r 148 #[.bool false, .slice none 0 0, .int .i64 0]) (hb : Below w0.heap.size w0 w) (h0 : w0.heap.size ≤ r) {L : List UInt8} {A : Option Addr} (ha : At w A (L.map bv)) (b : Bool) (v : Value) (e : Int) :
  ∃ W, (((w.setCell ⟨r, 0, none⟩ (.bool b)).setCell ⟨r, 1, none⟩ v).setCell ⟨r, 2, none⟩ (.int .i64 e)) = W ∧ W.cell? ⟨r, 0, none⟩ = some (.bool b) ∧ W.cell? ⟨r, 1, none⟩ = some v ∧ W.cell? ⟨r, 2, none⟩ = some (.int .i64 e) ∧ At W A (L.map bv) ∧ Below w0.heap.size w0 W := by
 have hf : Fr (only r) w (((w.setCell ⟨r, 0, none⟩ (.bool b)).setCell ⟨r, 1, none⟩ v).setCell ⟨r, 2, none⟩ (.int .i64 e)) := only_setE (only_setE (only_setE (Fr.refl _ _) 0 _) 1 _) 2 _
 have hk := ((hr.put 0 (.bool b)).put 1 v).put 2 (.int .i64 e)
 exact ⟨_, rfl, hk.cell 0, hk.cell 1, hk.cell 2, at_only ha hr (fun x hx => by
  obtain ⟨q, _, rfl⟩ := List.mem_map.1 hx
  simp [bv]) hf, hb.trans (own_below hf hb.size h0)⟩
set_option maxHeartbeats 1000000 in
theorem ptrim_any {w : World} {v : Value} {n : Num} (h : NV w v n) (hs : Sz n) :
  Calls Tryz.prog 144 #[v] w fun x w' => ∃ v', x = .returned v' ∧ NV w' v' (trimN n) ∧ Below w.heap.size w w' := by
 obtain ⟨A, cap, rfl, hat, hc, hm⟩ := h
 obtain ⟨b, d, e⟩ := n
 obtain ⟨s1, s2, s3⟩ := hs
 simp only at *
 have hr0 := Bk.new (w.alloc (.cells #[.bool b, .slice A d.length cap, .int .i64 e] 148)) 148 #[.bool false, .slice none 0 0, .int .i64 0]
 rw [World.size_alloc] at hr0
 have hx0 : Bk ((w.alloc (.cells #[.bool b, .slice A d.length cap, .int .i64 e] 148)).alloc (.cells #[.bool false, .slice none 0 0, .int .i64 0] 148)) w.heap.size 148 #[.bool b, .slice A d.length cap, .int .i64 e] := Bk.alloc (Bk.new _ _ _) _
 have hb0 := two_below w (.cells #[.bool b, .slice A d.length cap, .int .i64 e] 148) (.cells #[.bool false, .slice none 0 0, .int .i64 0] 148)
 have hat0 := (hat.alloc (.cells #[.bool b, .slice A d.length cap, .int .i64 e] 148)).alloc (.cells #[.bool false, .slice none 0 0, .int .i64 0] 148)
 have H1 := hide (trimleft_any hat0 d.length cap rfl hc hm)
 have Hx0 := hide hx0
 have Hr0 := hide hr0
 have Hb0 := hide hb0
 clear hat hat0 hx0 hr0 hb0
 go_enter Tryz.func144, Tryz.ntmps144
 go_wp2_with fail
 refine (H1.out).mono ?_
 rintro x w1 ⟨v1, rfl, ⟨A1, cap1, rfl, hat1, hc1, hm1⟩, hb1⟩
 obtain ⟨T, hT⟩ : ∃ T, trimL d = T := ⟨_, rfl⟩
 have htl : T.length ≤ d.length := by rw [← hT]; exact trimL_len d
 have htn : trimN ⟨b, d, e⟩ = if trimR T = [] then zeroN else ⟨b, trimR T, e + ((T.length - (trimR T).length : Nat) : Int)⟩ := by unfold trimN; simp only [hT]
 rw [hT] at hat1 hc1
 obtain ⟨R, hR⟩ : ∃ R, trimR T = R := ⟨_, rfl⟩
 have hrl : R.length ≤ T.length := by rw [← hR]; exact trimR_len T
 have hrt : T.take R.length = R := by
  obtain ⟨k, hk⟩ := trimR_pre T
  rw [hR] at hk
  have : T.take R.length = (R ++ List.replicate k 48).take R.length := by rw [← hk]
  rw [this, List.take_left]
 have hx1 := Bk.below Hx0.out hb1 (Bk.lt Hx0.out)
 have hr1 := Bk.below Hr0.out hb1 (Bk.lt Hr0.out)
 have hbw1 := Hb0.out.trans (hb1.mono Hb0.out.size)
 have hno : ∀ v ∈ T.map bv, v ∉ (#[.bool b, .slice A d.length cap, .int .i64 e] : Array Value).toList := fun v hv => by
  obtain ⟨y, _, rfl⟩ := List.mem_map.1 hv
  simp [bv]
 have hat2 := at_off hat1 hx1 hno 1 (.slice A1 T.length cap1)
 have hx2 := hx1.put 1 (.slice A1 T.length cap1)
 have hr2 := hr1.off (p := ⟨w.heap.size, 1, none⟩) (by simp) (.slice A1 T.length cap1)
 have hbw2 := hbw1.setCell (p := ⟨w.heap.size, 1, none⟩) (Nat.le_refl _) (.slice A1 T.length cap1)
 have c1 := hx1.cell 1
 have f1 := hx1.frozen 1
 simp at c1
 have h2 := trimright_any hat2 T.length cap1 rfl hc1 hm1
 rw [hR] at h2
 rw [hT]
 have H2 := hide h2
 have Hx2 := hide hx2
 have Hr2 := hide hr2
 have Hbw2 := hide hbw2
 have Hat2 := hide hat2
 rw [hR] at htn
 have Htn := hide htn
 have Hrt := hide hrt
 clear hx1 hr1 hbw1 hno hat2 hx2 hr2 hbw2 hb1 hat1 H1 Hx0 Hr0 Hb0 htn hrt hT hR h2
 go_wp2_with fail
 refine (H2.out).mono ?_
 rintro x w2 ⟨rfl, hb2⟩
 have hx3 := Bk.below Hx2.out hb2 (Bk.lt Hx2.out)
 have hr3 := Bk.below Hr2.out hb2 (Bk.lt Hr2.out)
 have hat3 := Hat2.out.below hb2
 have hbw3 := Hbw2.out.trans (hb2.mono Hbw2.out.size)
 clear c1 f1
 have e1 : ((T.length - R.length : Nat) : Int) = (T.length : Int) - (R.length : Int) := by omega
 obtain ⟨E, hE⟩ : ∃ E, e + ((T.length : Int) - (R.length : Int)) = E := ⟨_, rfl⟩
 have hno : ∀ (L : List UInt8) (x : Bool) (y : Value) (z : Int), y = .slice A1 T.length cap1 ∨ y = .slice none 0 0 → ∀ v ∈ L.map bv, v ∉ (#[.bool x, y, .int .i64 z] : Array Value).toList := fun L x y z hy v hv => by
  obtain ⟨q, _, rfl⟩ := List.mem_map.1 hv
  rcases hy with rfl | rfl <;> simp [bv]
 have hx3' : Bk w2 w.heap.size 148 #[.bool b, .slice A1 T.length cap1, .int .i64 e] := by simpa using hx3
 have hx4 : Bk (w2.setCell ⟨w.heap.size, 2, none⟩ (.int .i64 E)) w.heap.size 148 #[.bool b, .slice A1 T.length cap1, .int .i64 E] := by simpa using hx3'.put 2 (.int .i64 E)
 have hat4 := at_off hat3 hx3' (hno _ _ _ _ (.inl rfl)) 2 (.int .i64 E)
 have hat5 := at_off hat4 hx4 (hno _ _ _ _ (.inl rfl)) 1 (.slice A1 R.length R.length)
 have hr4 := (hr3.off (p := ⟨w.heap.size, 2, none⟩) (by simp) (.int .i64 E)).off (p := ⟨w.heap.size, 1, none⟩) (by simp) (.slice A1 R.length R.length)
 have hbw4 := (hbw3.setCell (p := ⟨w.heap.size, 2, none⟩) (Nat.le_refl _) (.int .i64 E)).setCell (p := ⟨w.heap.size, 1, none⟩) (Nat.le_refl _) (.slice A1 R.length R.length)
 have c0 := hx3'.cell 0
 have c1 := hx3'.cell 1
 have c2 := hx3'.cell 2
 have f1 := hx3'.frozen 1
 have f2 := hx3'.frozen 2
 have r0 := hr3.cell 0
 have r1 := hr3.cell 1
 have r2 := hr3.cell 2
 have g0 := hr3.frozen 0
 have g1 := hr3.frozen 1
 have g2 := hr3.frozen 2
 simp at c0 c1 c2 r0 r1 r2
 have hz := hide hno
 have hat6 := at_front hat5 R.length
 rw [← List.map_take, Hrt.out] at hat6
 have Hat5 := hide hat6
 have Hr4 := hide hr4
 have Hbw4 := hide hbw4
 have hEs : -4000000 ≤ E ∧ E ≤ 4000000 := by omega
 have HE := hide hE
 have He1 := hide e1
 clear e1
 have hcap : R.length ≤ cap1 := by omega
 clear hx3 hx3' hx4 hat3 hat4 hat5 hat6 hr3 hr4 hbw3 hbw4 hb2 Hx2 Hr2 Hbw2 Hat2 H2 hno
 by_cases hR0 : R = []
 ·have hl : R.length = 0 := by rw [hR0]; rfl
  have ht := Htn.out
  rw [if_pos hR0] at ht
  have Ht := hide ht
  obtain ⟨WF, hWF, u0, u1, u2, hatF, hbF⟩ := nres_end Hr4.out Hbw4.out (by omega) Hat5.out false (.slice none 0 0) 0
  have HWF := hide hWF
  have HbF := hide hbF
  have hl2 : ((R.length : Int) == 0) = true := by rw [beq_iff_eq]; omega
  clear ht Htn hWF hatF hbF Hr4 Hbw4 Hat5 hR0 HE He1 hz Hrt hl
  go_wp2
  rw [HWF.out]
  refine bodyPost_ret (by simp [results, Tryz.results144, go_sem, u0, u1, u2]; try rfl) rfl ?_
  rw [Ht.out]
  exact ⟨_, rfl, ⟨none, 0, rfl, At.nil _ _, Nat.le_refl _, Nat.zero_le _⟩, HbF.out⟩
 ·have hl : ((R.length : Int) == 0) = false := by
   rw [beq_eq_false_iff_ne]
   intro h
   exact hR0 (List.eq_nil_of_length_eq_zero (by omega))
  have ht := Htn.out
  rw [if_neg hR0] at ht
  have Ht := hide ht
  obtain ⟨WF, hWF, u0, u1, u2, hatF, hbF⟩ := nres_end Hr4.out Hbw4.out (by omega) Hat5.out b (.slice A1 R.length R.length) E
  have HWF := hide hWF
  have HatF := hide hatF
  have HbF := hide hbF
  clear ht hR0 Htn hWF hatF hbF Hr4 Hbw4 Hat5
  go_wp2
  rw [HWF.out]
  refine bodyPost_ret (by simp [results, Tryz.results144, go_sem, u0, u1, u2]; try rfl) rfl ?_
  rw [Ht.out]
  exact ⟨_, rfl, ⟨A1, R.length, by rw [He1.out, HE.out], HatF.out, Nat.le_refl _, Nat.le_trans hcap hm1⟩, HbF.out⟩
end Go.Proofs.YtjfcemlbbinanaaGreatDoor
/-
  The walks over decimal numbers: the closures of a scan.
-/
namespace Go.Proofs.YtjfcemlbbinanaaGreatDoor
open Go.RowKit Go.Proofs Wv Wv.Dc
set_option linter.unusedVariables false

def hitB (S L : List UInt8) (k : Nat) : Bool := match L[k]? with
 | some c => S.contains c
 | none => false
def hitK (S L : List UInt8) (k : Nat) : Nat := if hitB S L k then k + 1 else k
theorem byte_at (s : ByteArray) (k : Nat) (h : k < s.size) : (toL s)[k]? = some (s[k]'h) := by
 have hl : k < (toL s).length := h
 rw [List.getElem?_eq_getElem hl]
 simp only [toL, Array.getElem_toList]
 rfl
theorem byte_no (s : ByteArray) (k : Nat) (h : ¬ k < s.size) : (toL s)[k]? = none := List.getElem?_eq_none (by rw [toL_length]; omega)
set_option maxHeartbeats 2000000 in
theorem one_any {w : World} {ba bb k : Nat} {s : ByteArray} {S : List UInt8} (ha : Bk w ba 3 #[.int .i64 (k : Int)]) (hb : Bk w bb 9 #[.string s]) (hk : k ≤ s.size) (hs : s.size ≤ 64) (hS : S.length ≤ 2) :
  Calls Tryz.prog 142 #[.string (bs S), .pointer (some ⟨ba, 0, none⟩), .pointer (some ⟨bb, 0, none⟩)] w fun x w' => x = .returned (.bool (hitB S (toL s) k)) ∧ Bk w' ba 3 #[.int .i64 (hitK S (toL s) k : Int)] ∧ Bk w' bb 9 #[.string s] ∧ Fr (only ba) w w' := by
 have Ha := hide ha
 have Hb := hide hb
 have hsz : (bs S).size = S.length := rfl
 by_cases hlt : k < s.size
 ·have hat := byte_at s k hlt
  obtain ⟨c, hc⟩ : ∃ c, s[k] = c := ⟨_, rfl⟩
  rw [hc] at hat
  have hhit : hitB S (toL s) k = S.contains c := by unfold hitB; rw [hat]
  have hcn : ((s[k]'hlt).toNat : Int) = (c.toNat : Int) := by rw [hc]
  have Hget := hide (show ∀ (i : Nat) (h : i < (bs S).size) (h2 : i < S.length), ((bs S)[i]'h) = S[i] from fun i h h2 => rfl)
  have Hhit := hide hhit
  have Hk0 := hide (show S.contains c = false → hitK S (toL s) k = k from fun h => by unfold hitK; rw [hhit, h]; rfl)
  have Hk1 := hide (show S.contains c = true → hitK S (toL s) k = k + 1 from fun h => by unfold hitK; rw [hhit, h]; rfl)
  obtain ⟨C, hC⟩ : ∃ C, c.toNat = C := ⟨_, rfl⟩
  rw [hC] at hcn
  have HC := hide hC
  generalize bs S = B at *
  obtain ⟨L, hL⟩ : ∃ L, S.length = L := ⟨_, rfl⟩
  have HL := hide hL
  rw [hL] at hsz hS
  have Hsz := hide hsz
  have hBs : B.size ≤ 2 := by omega
  clear ha hb hhit hsz hL hat hc hC
  go_enter Tryz.func142, Tryz.ntmps142
  go_wp2
  go_loopw [8] (fun iv wr => ∃ i : Nat, i ≤ B.size ∧ iv = .int .i64 i ∧ Bk wr ba 3 #[.int .i64 (k : Int)] ∧ Bk wr bb 9 #[.string s] ∧ Hid (∀ j, j < i → S[j]? ≠ some c) ∧ Fr (only ba) w wr) (fun iv _ => (B.size - intOf iv).toNat)
  case atStart => exact ⟨0, by omega, rfl, Ha.out, Hb.out, hide (fun j h => by omega), Fr.refl _ _⟩
  case round =>
   obtain ⟨i, hi, rfl, ha1, hb1, hno, hf⟩ := hrel
   have c0 := ha1.cell 0
   have c1 := hb1.cell 0
   have f0 := ha1.frozen 0
   simp at c0 c1
   by_cases hil : i < B.size
   ·have hiS : i < S.length := by rw [HL.out]; have := Hsz.out; omega
    obtain ⟨d, hd⟩ : ∃ d, S[i] = d := ⟨_, rfl⟩
    obtain ⟨D, hD⟩ : ∃ D, d.toNat = D := ⟨_, rfl⟩
    have hdn : ((B[i]'hil).toNat : Int) = (D : Int) := by rw [Hget.out i hil hiS, hd, hD]
    by_cases hcd : c = d
    ·have hcon : S.contains c = true := by
      rw [List.contains_iff_mem, hcd, ← hd]
      exact List.getElem_mem _
     have heq : ((C : Int) == (D : Int)) = true := by rw [beq_iff_eq, ← HC.out, ← hD, hcd]
     have hh := Hhit.out
     rw [hcon] at hh
     have Hh := hide hh
     have hkk := Hk1.out hcon
     have Hkk := hide hkk
     clear hcon hh hkk Hhit Hk0 Hk1 hno Hget hd hD hcd HC HL Hsz
     go_wp2
     go_quiet (fail)
     go_wp2
     go_returns
     rw [Hh.out, Hkk.out]
     refine ⟨rfl, ?_, (hb1.drewN nq).off (p := ⟨ba, 0, none⟩) ?_ _, only_setE (hf.drewN nq) 0 _⟩
     ·simpa using (ha1.drewN nq).put 0 (.int .i64 ((k + 1 : Nat) : Int))
     ·exact fun e => (hb1.apart ha1 (by decide)) e
    ·have hne : ((C : Int) == (D : Int)) = false := by
      rw [beq_eq_false_iff_ne, ← HC.out, ← hD]
      intro e
      exact hcd (UInt8.toNat_inj.1 (by omega))
     have hno2 : Hid (∀ j, j < i + 1 → S[j]? ≠ some c) := hide (fun j h => by
      rcases Nat.lt_or_ge j i with h1 | h1
      ·exact hno.out j h1
      ·have : j = i := by omega
       subst this
       rw [List.getElem?_eq_getElem hiS, hd]
       intro e
       injection e with e
       exact hcd e.symm)
     clear Hhit Hk0 Hk1 hno Hget hd hD hcd HC HL Hsz
     go_wp2
     go_quiet (fail)
     go_wp2
     refine ⟨⟨i + 1, by omega, by go_num, ha1.drewN nq, hb1.drewN nq, hno2, hf.drewN nq⟩, ?_⟩
     simp [intOf] <;> omega
   ·have hcon : S.contains c = false := by
     rw [Bool.eq_false_iff]
     intro h
     rw [List.contains_iff_mem] at h
     obtain ⟨j, hj, he⟩ := List.getElem_of_mem h
     exact hno.out j (by have := HL.out; have := Hsz.out; omega) (by rw [List.getElem?_eq_getElem hj, he])
    have hh := Hhit.out
    rw [hcon] at hh
    have Hh := hide hh
    have hkk := Hk0.out hcon
    have Hkk := hide hkk
    clear hcon hh hkk Hhit Hk0 Hk1 hno Hget HC HL Hsz
    go_wp2
    go_returns
    rw [Hh.out, Hkk.out]
    exact ⟨rfl, ha1, hb1, hf⟩
 ·have hhit : hitB S (toL s) k = false := by unfold hitB; rw [byte_no s k hlt]
  have hk2 : k = s.size := by omega
  have Hhit := hide hhit
  have Hkk := hide (show hitK S (toL s) k = k by unfold hitK; rw [hhit]; rfl)
  generalize bs S = B at *
  obtain ⟨L, hL⟩ : ∃ L, S.length = L := ⟨_, rfl⟩
  rw [hL] at hsz hS
  have Hsz := hide hsz
  have hBs : B.size ≤ 2 := by omega
  clear ha hb hhit hsz hL
  go_enter Tryz.func142, Tryz.ntmps142
  go_wp2
  go_loopw [8] (fun iv wr => ∃ i : Nat, i ≤ B.size ∧ iv = .int .i64 i ∧ Bk wr ba 3 #[.int .i64 (k : Int)] ∧ Bk wr bb 9 #[.string s] ∧ Fr (only ba) w wr) (fun iv _ => (B.size - intOf iv).toNat)
  case atStart => exact ⟨0, by omega, rfl, Ha.out, Hb.out, Fr.refl _ _⟩
  case round =>
   obtain ⟨i, hi, rfl, ha1, hb1, hf⟩ := hrel
   have c0 := ha1.cell 0
   have c1 := hb1.cell 0
   simp at c0 c1
   by_cases hil : i < B.size
   ·go_wp2
    go_quiet (fail)
    go_wp2
    refine ⟨⟨i + 1, by omega, by go_num, ha1.drewN nq, hb1.drewN nq, hf.drewN nq⟩, ?_⟩
    simp [intOf] <;> omega
   ·go_wp2
    go_returns
    rw [Hhit.out, Hkk.out]
    exact ⟨rfl, by first | exact ha1 | (rw [hk2] at ha1; exact ha1), hb1, hf⟩
end Go.Proofs.YtjfcemlbbinanaaGreatDoor
/-
  The walks over decimal numbers: the closure of a scan that takes digits.
-/
namespace Go.Proofs.YtjfcemlbbinanaaGreatDoor
open Go.RowKit Go.Proofs Wv Wv.Dc
set_option linter.unusedVariables false

theorem dfr_pre (L : List UInt8) : dfr L = L.take (dfr L).length := by
 have h := (List.takeWhile_prefix isD (l := L))
 exact (List.prefix_iff_eq_take.1 h)
theorem dfr_get (L : List UInt8) (j : Nat) (h : j < (dfr L).length) : ∃ c, L[j]? = some c ∧ isD c = true := by
 obtain ⟨c, hc⟩ : ∃ c, (dfr L)[j] = c := ⟨_, rfl⟩
 have hd : isD c = true := hc ▸ dfr_all L _ (List.getElem_mem _)
 have h1 : (dfr L)[j]? = some c := by rw [List.getElem?_eq_getElem h, hc]
 have h2 : (L.take (dfr L).length)[j]? = some c := by rw [← dfr_pre L]; exact h1
 rw [List.getElem?_take, if_pos h] at h2
 exact ⟨c, h2, hd⟩
theorem dfr_stop (L : List UInt8) : ∀ c, L[(dfr L).length]? = some c → isD c = false := by
 unfold dfr
 induction L with
 | nil => intro c h; simp at h
 | cons a t ih =>
  intro c h
  rw [List.takeWhile_cons] at h
  split at h
  ·rw [List.length_cons, List.getElem?_cons_succ] at h
   exact ih c h
  ·rename_i ha
   simp at h
   subst h
   simpa using ha
def amu (b n : Nat) (w : World) : Nat := match w.cell? ⟨b, 0, none⟩ with
 | some (.int _ k) => (n - k).toNat
 | _ => 0
theorem amu_eq {w : World} {b n k : Nat} (h : Bk w b 3 #[.int .i64 (k : Int)]) : amu b n w = ((n : Int) - (k : Int)).toNat := by
 have := h.cell 0
 simp at this
 unfold amu
 rw [this]
theorem ext_mid (s : ByteArray) (a b : Nat) : s.extract a b = bs (((toL s).drop a).take (b - a)) := by
 apply ByteArray.ext
 apply Array.toList_inj.1
 simp only [bs, toL, ByteArray.data_extract, Array.toList_extract, List.extract_eq_take_drop]
set_option maxHeartbeats 2000000 in
theorem dig_any {w : World} {ba bb k : Nat} {s : ByteArray} (ha : Bk w ba 3 #[.int .i64 (k : Int)]) (hb : Bk w bb 9 #[.string s]) (hk : k ≤ s.size) (hs : s.size ≤ 64) :
  Calls Tryz.prog 143 #[.pointer (some ⟨ba, 0, none⟩), .pointer (some ⟨bb, 0, none⟩)] w fun x w' => x = .returned (.string (bs (dfr ((toL s).drop k)))) ∧ Bk w' ba 3 #[.int .i64 ((k + (dfr ((toL s).drop k)).length : Nat) : Int)] ∧ Bk w' bb 9 #[.string s] ∧ Fr (only ba) w w' := by
 have Ha := hide ha
 have Hb := hide hb
 have hpre := dfr_pre ((toL s).drop k)
 have Hget := hide (dfr_get ((toL s).drop k))
 have Hstop := hide (dfr_stop ((toL s).drop k))
 obtain ⟨D, hD⟩ : ∃ D, dfr ((toL s).drop k) = D := ⟨_, rfl⟩
 rw [hD] at hpre Hget Hstop ⊢
 obtain ⟨m, hm⟩ : ∃ m, k + D.length = m := ⟨_, rfl⟩
 have hdl : D.length ≤ s.size - k := by
  have := dfr_len ((toL s).drop k)
  rw [hD, List.length_drop, toL_length] at this
  exact this
 have hms : m ≤ s.size := by omega
 have hex : s.extract k m = bs D := by
  rw [ext_mid, show m - k = D.length by omega, ← hpre]
 have Hex := hide hex
 have Hm := hide hm
 rw [hm]
 have hkm : k ≤ m := by omega
 have Hat : Hid (∀ j, k ≤ j → j < m → ∃ (h : j < s.size), isD (s[j]'h) = true) := hide (fun j h1 h2 => by
  obtain ⟨c, hc1, hc2⟩ := Hget.out (j - k) (by omega)
  have hj : j < s.size := by omega
  refine ⟨hj, ?_⟩
  rw [List.getElem?_drop, show k + (j - k) = j by omega, byte_at s j hj] at hc1
  injection hc1 with hc1
  rw [hc1]
  exact hc2)
 have Hend : Hid (∀ (h : m < s.size), isD (s[m]'h) = false) := hide (fun h => by
  refine Hstop.out _ ?_
  rw [List.getElem?_drop, show k + D.length = m from hm]
  exact byte_at s m h)
 clear ha hb hpre Hget Hstop hD hdl hex hm
 have c00 := Ha.out.cell 0
 simp at c00
 go_enter Tryz.func143, Tryz.ntmps143
 go_wp2
 go_loopw [] (fun wr => ∃ j : Nat, k ≤ j ∧ j ≤ m ∧ Bk wr ba 3 #[.int .i64 (j : Int)] ∧ Bk wr bb 9 #[.string s] ∧ Fr (only ba) w wr) (fun wr => amu ba m wr)
 case atStart => exact ⟨k, Nat.le_refl _, hkm, Ha.out, Hb.out, Fr.refl _ _⟩
 case round =>
  obtain ⟨j, hj1, hj2, ha1, hb1, hf⟩ := hrel
  have c0 := ha1.cell 0
  have c1 := hb1.cell 0
  have f0 := ha1.frozen 0
  simp at c0 c1
  by_cases hlt : j < m
  ·obtain ⟨hjs, hdg⟩ := Hat.out j hj1 hlt
   obtain ⟨C, hC⟩ : ∃ C, (s[j]'hjs).toNat = C := ⟨_, rfl⟩
   have hC2 : 48 ≤ C ∧ C ≤ 57 := by
    unfold isD at hdg
    simp at hdg
    omega
   obtain ⟨q1, q2⟩ := hC2
   have hne := hb1.apart ha1 (by decide)
   have hput := ha1.put 0 (.int .i64 ((j + 1 : Nat) : Int))
   have Hput := hide (show Bk (wr.setCell ⟨ba, 0, none⟩ (.int .i64 ((j + 1 : Nat) : Int))) ba 3 #[.int .i64 ((j + 1 : Nat) : Int)] by simpa using hput)
   have Hb1 := hide (hb1.off (p := ⟨ba, 0, none⟩) hne (.int .i64 ((j + 1 : Nat) : Int)))
   have Hf := hide (only_setE hf 0 (.int .i64 ((j + 1 : Nat) : Int)))
   have Hmu := hide (amu_eq (n := m) ha1)
   clear hdg hput hb1 hf ha1 hne Hat Hend
   go_wp2
   have e1 : (j : Int) + 1 = ((j + 1 : Nat) : Int) := by omega
   rw [e1]
   refine ⟨⟨j + 1, by omega, by omega, Hput.out, Hb1.out, Hf.out⟩, ?_⟩
   rw [amu_eq Hput.out, Hmu.out]
   omega
  ·have hjm : j = m := by omega
   subst hjm
   have Ha1 := hide ha1
   have Hb1 := hide hb1
   have Hf := hide hf
   have hjk : (k : Int) ≤ (j : Int) := by omega
   by_cases hjs : j < s.size
   ·have hdg := Hend.out hjs
    obtain ⟨C, hC⟩ : ∃ C, (s[j]'hjs).toNat = C := ⟨_, rfl⟩
    have hC2 : C < 48 ∨ 57 < C := by
     unfold isD at hdg
     simp at hdg
     omega
    clear hdg ha1 hb1 hf Hat Hend
    rcases hC2 with q1 | q1
    all_goals
     go_wp2
     go_returns
     exact ⟨ret_strE Hex.out, Ha1.out, Hb1.out, Hf.out⟩
   ·have hjz : ¬ (j : Int) < (s.size : Int) := by omega
    clear ha1 hb1 hf Hat Hend
    go_wp2
    go_returns
    exact ⟨ret_strE Hex.out, Ha1.out, Hb1.out, Hf.out⟩
end Go.Proofs.YtjfcemlbbinanaaGreatDoor
/-
  The walks over decimal numbers: the text of a number, second part.
-/
namespace Go.Proofs.YtjfcemlbbinanaaGreatDoor
open Go.RowKit Go.Proofs Wv Wv.Dc
set_option linter.unusedVariables false

theorem ret_te {s t : ByteArray} {a b : Int} (h : s = t) (h2 : a = b) : Ending.returned (.tuple #[.string s, .int .i64 a]) = .returned (.tuple #[.string t, .int .i64 b]) := by rw [h, h2]
set_option maxRecDepth 100000 in
set_option maxHeartbeats 2000000 in
theorem ptext_any {w : World} {v : Value} {n : Num} (h : NV w v n) (hs : Sz n) (ht : Tab w) :
  Calls Tryz.prog 116 #[v] w fun x w' => x = .returned (.tuple #[.string (bs (ctext n).1), .int .i64 ((ctext n).2 : Int)]) ∧ Below w.heap.size w w' := by
 obtain ⟨A, cap, rfl, hat, hc, hm⟩ := h
 obtain ⟨b, d, e⟩ := n
 obtain ⟨s1, s2, s3⟩ := hs
 simp only at *
 have hct : ctext ⟨b, d, e⟩ = if d = [] then ([48], 0) else if 17 < d.length ∨ e + d.length - 1 < -400 ∨ 400 < e + d.length - 1 then ([], 9)
  else ((if b then [45] else []) ++ d.take 1 ++ (if 1 < d.length then 46 :: d.drop 1 else []) ++ 101 :: decZ (e + d.length - 1), 0) := rfl
 have hb0 := (Below.refl w.heap.size w).alloc (Nat.le_refl _) (.cells #[.bool b, .slice A d.length cap, .int .i64 e] 148)
 have hx0 : Bk (w.alloc (.cells #[.bool b, .slice A d.length cap, .int .i64 e] 148)) w.heap.size 148 #[.bool b, .slice A d.length cap, .int .i64 e] := Bk.new _ _ _
 have Hb0 := hide hb0
 have Hx0 := hide hx0
 have Hat := hide hat
 have Ht := hide ht
 have Hf := hide (fun W => pfirst_raw b A d.length cap e s1 s2 s3 W)
 clear hb0 hx0 hat ht
 by_cases h0 : d = []
 ·subst h0
  have Hct := hide (hct.trans (if_pos rfl))
  clear hct Hf
  go_enter Tryz.func116, Tryz.ntmps116
  go_wp2
  go_returns
  exact ⟨by rw [Hct.out] <;> rfl, Hb0.out⟩
 ·rw [if_neg h0] at hct
  have hl0 : ((d.length : Int) == 0) = false := by
   rw [beq_eq_false_iff_ne]
   intro h
   exact h0 (List.eq_nil_of_length_eq_zero (by omega))
  have hlp : 0 < d.length := List.length_pos_iff.2 h0
  obtain ⟨L, hL⟩ : ∃ L, d.length = L := ⟨_, rfl⟩
  obtain ⟨F, hF⟩ : ∃ F, e + (L : Int) - 1 = F := ⟨_, rfl⟩
  rw [hL] at hct Hf Hx0 Hb0 hc hl0 hlp s3 ⊢
  rw [hF] at hct Hf
  by_cases h17 : 17 < L
  ·rw [if_pos (.inl h17)] at hct
   have Hct := hide hct
   have h17i : (17 : Int) < (L : Int) := by omega
   clear hct Hf h17 hF
   go_enter Tryz.func116, Tryz.ntmps116
   go_wp2
   go_returns
   exact ⟨by rw [Hct.out] <;> rfl, Hb0.out⟩
  ·have h17i : ¬ (17 : Int) < (L : Int) := by omega
   by_cases hlo : F < -400
   ·rw [if_pos (.inr (.inl hlo))] at hct
    have Hct := hide hct
    clear hct h17 hF
    go_enter Tryz.func116, Tryz.ntmps116
    go_wp2_with fail
    refine (Hf.out _).mono ?_
    rintro r w1 ⟨rfl, hb1⟩
    have hbw := Hb0.out.trans (hb1.mono Hb0.out.size)
    go_wp2
    go_returns
    exact ⟨by rw [Hct.out] <;> rfl, hbw⟩
   ·by_cases hhi : 400 < F
    ·rw [if_pos (.inr (.inr hhi))] at hct
     have Hct := hide hct
     clear hct h17 hF
     go_enter Tryz.func116, Tryz.ntmps116
     go_wp2_with fail
     refine (Hf.out _).mono ?_
     rintro r w1 ⟨rfl, hb1⟩
     have hx1 := Bk.below Hx0.out hb1 (Bk.lt Hx0.out)
     have hbw1 := Hb0.out.trans (hb1.mono Hb0.out.size)
     have c0 := hx1.cell 0
     have c1 := hx1.cell 1
     have c2 := hx1.cell 2
     simp at c0 c1 c2
     have Hbw1 := hide hbw1
     clear hx1 hbw1 hb1
     go_wp2_with fail
     refine (Hf.out _).mono ?_
     rintro r w2 ⟨rfl, hb2⟩
     have hbw := Hbw1.out.trans (hb2.mono Hbw1.out.size)
     go_wp2
     go_returns
     exact ⟨by rw [Hct.out] <;> rfl, hbw⟩
    ·rw [if_neg (by omega)] at hct
     have Hct := hide hct
     have HL := hide hL
     clear hct h17 hF
     go_enter Tryz.func116, Tryz.ntmps116
     go_wp2_with fail
     refine (Hf.out _).mono ?_
     rintro r w1 ⟨rfl, hb1⟩
     have hx1 := Bk.below Hx0.out hb1 (Bk.lt Hx0.out)
     have hbw1 := Hb0.out.trans (hb1.mono Hb0.out.size)
     have c0 := hx1.cell 0
     have c1 := hx1.cell 1
     have c2 := hx1.cell 2
     simp at c0 c1 c2
     have Hx1 := hide hx1
     have Hbw1 := hide hbw1
     clear hx1 hbw1 hb1
     go_wp2_with fail
     refine (Hf.out _).mono ?_
     rintro r w2 ⟨rfl, hb2⟩
     have hx2 := Bk.below Hx1.out hb2 (Bk.lt Hx1.out)
     have hbw2 := Hbw1.out.trans (hb2.mono Hbw1.out.size)
     clear c0 c1 c2
     have c0 := hx2.cell 0
     have c1 := hx2.cell 1
     have c2 := hx2.cell 2
     simp at c0 c1 c2
     have hat2 := Hat.out.below hbw2
     have l1 : (d.take 1).length = 1 := by rw [List.length_take, HL.out]; omega
     have hcv1 : (convert 74 9 (.slice A 1 cap)).run Tryz.prog w2 = .ok (.string (bs (d.take 1))) w2 := by
      have := conv_at (P := Tryz.prog) 74 9 5 Tryz.underlying74 Tryz.underlying5 Tryz.underlying9 (w := w2) (A := A) (l := d.take 1) (by rw [List.map_take]; exact at_front hat2 1) cap
      rw [l1] at this
      exact this
     have Hit := hide (fun W (h : Below w.heap.size w W) => pitoa_any (Ht.out.below h) F (by omega) (by omega))
     have hzl : (decZ F).length ≤ 4 := by
      unfold decZ
      split
      ·have := decN_len (n := (-F).toNat) (k := 3) (by omega) (by omega)
       rw [List.length_cons]; omega
      ·have := decN_len (n := F.toNat) (k := 3) (by omega) (by omega)
       omega
     have z1 : (bs (d.take 1)).size ≤ 1 := by rw [bs_size, l1]; exact Nat.le_refl _
     have z3 : (bs (decZ F)).size ≤ 4 := by rw [bs_size]; exact hzl
     have Hx2 := hide hx2
     have Hbw2 := hide hbw2
     by_cases hL1 : L = 1
     ·have hct2 := Hct.out
      rw [if_neg (show ¬ 1 < L by omega), List.append_nil] at hct2
      have Hcat : Hid ((if b then (⟨#[45]⟩ : ByteArray) ++ bs (d.take 1) else bs (d.take 1)) ++ (⟨#[101]⟩ : ByteArray) ++ bs (decZ F) = bs (ctext ⟨b, d, e⟩).1) := hide (by
       rw [hct2]
       have e1 : (⟨#[101]⟩ : ByteArray) = bs [101] := rfl
       have e2 : (⟨#[45]⟩ : ByteArray) = bs [45] := rfl
       rw [e1, e2]
       cases b
       ·simp [bs_append]
       ·simp [bs_append])
      have H0 : Hid ((ctext ⟨b, d, e⟩).2 = 0) := hide (by rw [hct2])
      subst hL1
      generalize bs (d.take 1) = S1 at *
      generalize bs (decZ F) = S3 at *
      clear hct2 Hct hx2 hbw2 hat2 l1 hzl Hx1 Hbw1 Hx0 Hb0 Hat hb2
      cases b
      all_goals
       go_wp2_with fail
       refine (Hf.out _).mono ?_
       rintro r w3 ⟨rfl, hb3⟩
       have hbw3 := Hbw2.out.trans (hb3.mono Hbw2.out.size)
       go_wp2_with fail
       refine (Hit.out _ hbw3).mono ?_
       rintro r w4 ⟨rfl, hb4⟩
       have hbw4 := hbw3.trans (hb4.mono hbw3.size)
       clear hbw3 hb3 hb4 c0 c1 c2
       go_wp2
       go_returns
       exact ⟨ret_te (by have := Hcat.out; simpa using this) (by rw [H0.out]; rfl), hbw4⟩
     ·have hL2 : 1 < L := by omega
      have hL2i : (1 : Int) < (L : Int) := by omega
      have hct2 := Hct.out
      rw [if_pos hL2] at hct2
      obtain ⟨bA, oA, hA, _, _⟩ := hat2 0 (by rw [List.length_map, HL.out]; omega)
      subst hA
      have l2 : (d.drop 1).length = L - 1 := by rw [List.length_drop, HL.out]
      have hcv2 : (convert 74 9 (.slice (some ⟨bA, oA + 1, none⟩) (L - 1) (cap - 1))).run Tryz.prog w2 = .ok (.string (bs (d.drop 1))) w2 := by
       have := conv_at (P := Tryz.prog) 74 9 5 Tryz.underlying74 Tryz.underlying5 Tryz.underlying9 (w := w2) (A := some ⟨bA, oA + 1, none⟩) (l := d.drop 1) (by rw [List.map_drop]; exact at_shift hat2 1) (cap - 1)
       rw [l2] at this
       exact this
      have hc1 : ¬ cap = 1 := by omega
      have z2 : (bs (d.drop 1)).size ≤ 17 := by rw [bs_size, l2]; omega
      have Hcat : Hid ((if b then (⟨#[45]⟩ : ByteArray) ++ (bs (d.take 1) ++ ((⟨#[46]⟩ : ByteArray) ++ bs (d.drop 1))) else bs (d.take 1) ++ ((⟨#[46]⟩ : ByteArray) ++ bs (d.drop 1))) ++ (⟨#[101]⟩ : ByteArray) ++ bs (decZ F) = bs (ctext ⟨b, d, e⟩).1) := hide (by
       rw [hct2]
       have e1 : (⟨#[101]⟩ : ByteArray) = bs [101] := rfl
       have e2 : (⟨#[45]⟩ : ByteArray) = bs [45] := rfl
       have e3 : (⟨#[46]⟩ : ByteArray) = bs [46] := rfl
       rw [e1, e2, e3]
       cases b
       ·simp [bs_append]
       ·simp [bs_append])
      have H0 : Hid ((ctext ⟨b, d, e⟩).2 = 0) := hide (by rw [hct2])
      generalize bs (d.take 1) = S1 at *
      generalize bs (d.drop 1) = S2 at *
      generalize bs (decZ F) = S3 at *
      clear hct2 Hct hx2 hbw2 hat2 l1 l2 hzl Hx1 Hbw1 Hx0 Hb0 Hat hb2 hL1
      cases b
      all_goals
       go_wp2_with fail
       refine (Hf.out _).mono ?_
       rintro r w3 ⟨rfl, hb3⟩
       have hbw3 := Hbw2.out.trans (hb3.mono Hbw2.out.size)
       go_wp2_with fail
       refine (Hit.out _ hbw3).mono ?_
       rintro r w4 ⟨rfl, hb4⟩
       have hbw4 := hbw3.trans (hb4.mono hbw3.size)
       clear hbw3 hb3 hb4 c0 c1 c2
       go_wp2
       go_returns
       exact ⟨ret_te (by have := Hcat.out; simpa using this) (by rw [H0.out]; rfl), hbw4⟩
end Go.Proofs.YtjfcemlbbinanaaGreatDoor
/-
  The walks over the models, fifth part: a number.
-/
namespace Go.Proofs.YtjfcemlbbinanaaGreatDoor
open Go.RowKit Go.Proofs Wv Wv.Vi Wv.Rc Wv.Mo
set_option linter.unusedVariables false

theorem blen_half (n : Nat) (h : 0 < n) : blen n = blen (n / 2) + 1 := by
 unfold blen
 rw [if_neg (by omega)]
 by_cases h1 : n / 2 = 0
 ·rw [if_pos h1, Nat.log2_def, if_neg (by omega)]
 ·rw [if_neg h1, Nat.log2_def, if_pos (by omega)]
theorem bitLen_eq (x : Nat) (h : x < 2 ^ 64) : Go.Lib.bitLen x = blen x := by
  have key : ∀ f y, y < 2 ^ f → Go.Lib.bitLenAux f y = blen y := by
    intro f
    induction f with
    | zero => intro y hy; have : y = 0 := by simpa using hy
              subst this; rfl
    | succ f ih =>
      intro y hy
      unfold Go.Lib.bitLenAux
      split
      · rename_i h0; subst h0; rfl
      · rename_i h0
        rw [ih (y / 2) (by rw [Nat.pow_succ] at hy; omega), blen_half y (by omega)]
        omega
  exact key _ x h
theorem blen_any (v : Nat) (h : v ≤ 9223372036854775807) (w : World) :
  Calls Tryz.prog 101 #[.int .u64 (v : Int)] w fun x w' => x = .returned (.int .i64 (blen v : Nat)) ∧ w = w' := by
 refine (Tryz.bits_Len (v : Int) w (by omega) (by omega)).mono ?_
 rintro x w' ⟨rfl, hw⟩
 exact ⟨ret_int (by rw [Int.toNat_natCast, bitLen_eq _ (by omega)]), hw.symm⟩
set_option maxHeartbeats 1000000 in
theorem nenc_any {w : World} {b g eb : Nat} {dv : Value} {t : List Nat} {e : En} (h : NAt w b g t) (ht : TNum t) (he : EnAt w eb dv e) (hv : Val 0 e) (v : Nat) (hv62 : v < 4611686018427387904) (hl : e.out.length ≤ 800000) :
  Calls Tryz.prog 61 #[.pointer (some ⟨b, 0, none⟩), .pointer (some ⟨eb, 0, none⟩), .int .i64 (v : Int)] w fun x w' => x = .returned (.tuple #[]) ∧ NAt w' b g (nenc v (t, e)).1 ∧ ∃ dv', EnAt w' eb dv' (nenc v (t, e)).2 ∧ Fr (efoot g eb dv) w w' ∧ OwnNew w dv dv' := by
 have hb := blen_le hv62
 have Hl := hide (blen_any v (by omega))
 obtain ⟨n, hn⟩ : ∃ n, blen v = n := ⟨_, rfl⟩
 have hne : nenc v (t, e) = ((tenc 6 n 1 t e).1, if 2 ≤ n then edir (n - 1) v (tenc 6 n 1 t e).2 else (tenc 6 n 1 t e).2) := by unfold nenc; rw [hn]
 rw [hn] at Hl hb
 obtain ⟨k1, k2, k3⟩ := tenc_val 6 n 1 ht.1 (by rw [ht.2]; decide) hv
 have Ht := hide (tenc_any h ht he hv n (by omega) hl)
 have hlen : (tenc 6 n 1 t e).2.out.length ≤ e.out.length + 12 := by
  have key : ∀ (j m : Nat) (t : List Nat) (e : En), (tenc j n m t e).2.out.length ≤ e.out.length + 2 * j := by
   intro j
   induction j with
   | zero => intro m t e; exact Nat.le_refl _
   | succ j ih =>
    intro m t e
    rw [tenc]
    have h1 := ih (2 * m + n / 2 ^ j % 2) (t.set m (adapt (t.getD m 0) (n / 2 ^ j % 2))) (ebit (t.getD m 0) (n / 2 ^ j % 2) e)
    have h2 := ebit_len (t.getD m 0) (n / 2 ^ j % 2) e
    omega
  have := key 6 1 t e
  omega
 have hapart := h.foot he
 generalize tenc 6 n 1 t e = D at *
 obtain ⟨t2, e2⟩ := D
 simp only at hne Ht k3 hlen
 have Hne := hide hne
 have h62 : ¬ (4611686018427387903 : Int) < (v : Int) := by omega
 have hc0 : ¬ (v : Int) < 0 := by omega
 clear hne hn k1 k2 h he ht hv hapart
 by_cases h2 : 2 ≤ n
 ·rw [if_pos h2] at Hne
  have hn2 : (2 : Int) ≤ (n : Int) := by omega
  have i1 : (n : Int) - 1 = ((n - 1 : Nat) : Int) := by omega
  obtain ⟨q, hq⟩ : ∃ q, n - 1 = q := ⟨_, rfl⟩
  rw [hq] at i1 Hne
  have hq62 : q ≤ 62 := by omega
  clear hq
  go_enter Tryz.func61, Tryz.ntmps61
  go_wp2_with fail
  refine (Hl.out _).mono ?_
  rintro x w1 ⟨rfl, rfl⟩
  go_wp2_with fail
  refine (Ht.out).mono ?_
  rintro x w1 ⟨rfl, hn1, dv1, he1, hf1, ho1⟩
  have Hd := hide (edirect_any he1 k3 q v hq62 (by omega) (by omega))
  have hs := hf1.size
  have hap := hn1.foot he1
  go_wp2_with fail
  refine (Hd.out).mono ?_
  rintro x w2 ⟨rfl, dv2, he2, hf2, ho2⟩
  go_wp2
  go_end0
  rw [Hne.out]
  exact ⟨rfl, hn1.fr hf2 hap.1 hap.2, dv2, he2, efr_foot hf1 hf2 ho1, ho1.trans ho2 hs⟩
 ·rw [if_neg h2] at Hne
  have hn2 : ¬ (2 : Int) ≤ (n : Int) := by omega
  clear h2
  go_enter Tryz.func61, Tryz.ntmps61
  go_wp2_with fail
  refine (Hl.out _).mono ?_
  rintro x w1 ⟨rfl, rfl⟩
  go_wp2_with fail
  refine (Ht.out).mono ?_
  rintro x w1 ⟨rfl, hn1, dv1, he1, hf1, ho1⟩
  go_wp2
  go_end0
  rw [Hne.out]
  exact ⟨rfl, hn1, dv1, he1, hf1, ho1⟩
theorem or_pow (n x : Nat) (hn : n ≤ 61) (hx : x < 2 ^ n) : bits .or .i64 (IntKind.i64.wrap (2 ^ n)) (x : Int) = ((2 ^ n + x : Nat) : Int) := by
 have h1 : (2 : Nat) ^ n ≤ 2 ^ 61 := Nat.pow_le_pow_right (by omega) hn
 have e : ((2 : Int) ^ n) = ((2 ^ n : Nat) : Int) := by rw [Int.natCast_pow]; rfl
 rw [e, IntWalk.i64_in _ (by omega), or_i64w _ _ (by omega) (by omega), nat_join n _ _ (by rw [Nat.mod_self]) hx]
theorem nval_small {n : Nat} (d : De) (h : n < 2) : nval n d = n := by unfold nval; rw [if_pos h]
theorem nval_none (d : De) : nval 63 d = -1 := rfl
theorem nval_big {n : Nat} (d : De) (h : ¬ n < 2) (h2 : n ≠ 63) : nval n d = ((2 ^ (n - 1) + (ddir (n - 1) 0 d).1 : Nat) : Int) := by unfold nval; rw [if_neg h, if_neg h2]
theorem ndec_eq (t : List Nat) (d : De) (n : Nat) (t2 : List Nat) (d2 : De) (h : tdec 6 1 t d = (n + 64, t2, d2)) :
  ndec t d = (nval n d2, t2, if n < 2 then d2 else if n = 63 then d2 else (ddir (n - 1) 0 d2).2) := by
 unfold ndec
 rw [h]
 simp only [Nat.add_sub_cancel]
set_option maxHeartbeats 1000000 in
theorem ndec_any {w : World} {b g eb : Nat} {t : List Nat} {d : De} (h : NAt w b g t) (ht : TNum t) (he : DAt w eb d) (hv : DV 0 d) :
  Calls Tryz.prog 133 #[.pointer (some ⟨b, 0, none⟩), .pointer (some ⟨eb, 0, none⟩)] w fun x w' => x = .returned (.int .i64 (ndec t d).1) ∧ NAt w' b g (ndec t d).2.1 ∧ DAt w' eb (ndec t d).2.2 ∧ Fr (dfoot g eb) w w' := by
 have Ht := tdec_any h ht he hv
 obtain ⟨k1, k2, k3, k4, k5⟩ := tdec_v 6 1 t d ht.1 (by rw [ht.2]; decide) hv
 have heq := ndec_eq t d
 generalize tdec 6 1 t d = D at *
 obtain ⟨m, t2, d2⟩ := D
 simp only at Ht k3 k4 k5
 obtain ⟨n, rfl⟩ : ∃ n, m = n + 64 := ⟨m - 64, by omega⟩
 have heq := heq n t2 d2 rfl
 rw [Nat.add_sub_cancel] at Ht
 have Ht := hide Ht
 have Heq := hide heq
 have hn64 : n < 64 := by omega
 clear k1 k2 k4 k5 heq h ht he hv
 by_cases h2 : n < 2
 ·have e1 := Heq.out
  rw [if_pos h2, nval_small d2 h2] at e1
  have E := hide e1
  have hz : n = 0 ∨ n = 1 := by omega
  clear e1 h2
  rcases hz with rfl | rfl
  all_goals
   go_enter Tryz.func133, Tryz.ntmps133
   go_wp2_with fail
   refine (Ht.out).mono ?_
   rintro x w1 ⟨rfl, hn1, hd1, hf1⟩
   go_wp2
   go_ret
   rw [E.out]
   exact ⟨rfl, hn1, hd1, hf1⟩
 ·have hb0 : ((n : Int) == 0) = false := by rw [beq_eq_false_iff_ne]; omega
  have hb1 : ((n : Int) == 1) = false := by rw [beq_eq_false_iff_ne]; omega
  by_cases h63 : n = 63
  ·have e1 := Heq.out
   rw [if_neg h2, if_pos h63] at e1
   subst h63
   rw [nval_none] at e1
   have E := hide e1
   clear e1 h2
   go_enter Tryz.func133, Tryz.ntmps133
   go_wp2_with fail
   refine (Ht.out).mono ?_
   rintro x w1 ⟨rfl, hn1, hd1, hf1⟩
   go_wp2
   go_ret
   rw [E.out]
   exact ⟨rfl, hn1, hd1, hf1⟩
  ·have hb63 : ((n : Int) == 63) = false := by rw [beq_eq_false_iff_ne]; omega
   have e1 := Heq.out
   rw [if_neg h2, if_neg h63, nval_big d2 h2 h63] at e1
   have E := hide e1
   obtain ⟨q, hq⟩ : ∃ q, n - 1 = q := ⟨_, rfl⟩
   rw [hq] at E
   have hq61 : q ≤ 61 := by omega
   have i1 : (n : Int) - 1 = (q : Int) := by omega
   have i2 : IntKind.i64.wrap (q : Int) = (q : Int) := by rw [IntWalk.i64_in _ (by omega)]
   have hq0 : 0 ≤ (q : Int) := by omega
   have hx := (ddir_v q 0 d2 k3).2
   rw [Nat.zero_add, Nat.one_mul] at hx
   have hor := or_pow q (ddir q 0 d2).1 hq61 hx
   have Hor := hide hor
   clear e1 h2 h63 hq hx hor
   go_enter Tryz.func133, Tryz.ntmps133
   go_wp2_with fail
   refine (Ht.out).mono ?_
   rintro x w1 ⟨rfl, hn1, hd1, hf1⟩
   have Hd := hide (fun W (hW : DAt W eb d2) => ddirect_any hW k3 q (by omega))
   have hap := hn1.onl hd1
   go_wp2
   go_region_with ((go_at_call 154; refine (Hd.out _ hd1.drew).mono ?_; rintro x w2 ⟨rfl, hd2, hf2⟩))
   all_goals
    go_wp2
    go_ret
    rw [E.out]
    exact ⟨ret_int Hor.out, hn1.drew.fr hf2 hap.1 hap.2, hd2, hf1.drew.trans' hf2 (fun i hi e => .inr e)⟩
end Go.Proofs.YtjfcemlbbinanaaGreatDoor
/-
  The walks over the models, sixth part: lists of numbers as bytes.
-/
namespace Go.Proofs.YtjfcemlbbinanaaGreatDoor
open Go.RowKit Go.Proofs Wv Wv.Vi Wv.Rc Wv.Mo
set_option linter.unusedVariables false

theorem tenc_len (n : Nat) (j : Nat) : ∀ (m : Nat) (t : List Nat) (e : En), (tenc j n m t e).2.out.length ≤ e.out.length + 2 * j := by
 induction j with
 | zero => intro m t e; exact Nat.le_refl _
 | succ j ih =>
  intro m t e
  rw [tenc]
  have h1 := ih (2 * m + n / 2 ^ j % 2) (t.set m (adapt (t.getD m 0) (n / 2 ^ j % 2))) (ebit (t.getD m 0) (n / 2 ^ j % 2) e)
  have h2 := ebit_len (t.getD m 0) (n / 2 ^ j % 2) e
  omega
theorem nenc_len (v : Nat) (hv : v < 4611686018427387904) (x : List Nat × En) : (nenc v x).2.out.length ≤ x.2.out.length + 134 := by
 have hb := blen_le hv
 have h1 := tenc_len (blen v) 6 1 x.1 x.2
 unfold nenc
 simp only
 split
 ·have := edir_len (blen v - 1) v (tenc 6 (blen v) 1 x.1 x.2).2
  omega
 ·omega
def ivs (l : List Int) : List Value := l.map iv
end Go.Proofs.YtjfcemlbbinanaaGreatDoor
