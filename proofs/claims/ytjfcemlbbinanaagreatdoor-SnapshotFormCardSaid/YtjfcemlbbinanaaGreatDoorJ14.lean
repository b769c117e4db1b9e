/-
  The walks over values: the planes of a value.
-/
import Derived.Test.YtjfcemlbbinanaaGreatDoorJ12
set_option linter.unusedVariables false
set_option linter.unusedSimpArgs false
namespace Wv.Sn
open Go Go.RowKit Wv Wv.Bc
def chB (b : Bool) : UInt8 := if b then 49 else 48
def pch (p : Nat) (c : UInt8) : UInt8 := chB (if p = 0 then decide (cd c % 2 = 1) else decide (2 ≤ cd c))
theorem pch0 (v : List UInt8) : v.map (pch 0) = (lowB v).map chB := by unfold lowB; rw [List.map_map]; rfl
theorem pch1 (v : List UInt8) : v.map (pch 1) = (higB v).map chB := by unfold higB; rw [List.map_map]; rfl
end Wv.Sn
namespace Go.Proofs.YtjfcemlbbinanaaGreatDoor
open Go.RowKit Go.Proofs Wv Wv.Vi Wv.Bc Wv.Sn
set_option linter.unusedVariables false
set_option maxRecDepth 10000 in
set_option maxHeartbeats 2000000 in
theorem pl1_any (p : Nat) (hp : p = 0 ∨ p = 1) (c : UInt8) (hc : cd c < 4) {w : World} {q : Nat} (hq : Bk w q 3 #[.int .i64 (p : Int)]) :
  Calls Tryz.prog 72 #[.int .u8 (c.toNat : Int), .pointer (some ⟨q, 0, none⟩)] w fun x w' => x = .returned (.int .u8 ((pch p c).toNat : Int)) ∧ ∃ n, w' = w.drewN n := by
 have HC := hide (fun W => code_any c W)
 have c0 : w.cell? ⟨q, 0, none⟩ = some (.int .i64 (p : Int)) := hq.cell 0
 have hI : cdI c = (cd c : Int) := by unfold cdI; rw [if_pos hc]
 have hP : pch p c = chB (if p = 0 then decide (cd c % 2 = 1) else decide (2 ≤ cd c)) := rfl
 clear hq
 rw [hI] at HC
 rw [hP]
 clear hI hP
 generalize cd c = k at *
 generalize (c.toNat : Int) = C at *
 have hk : k = 0 ∨ k = 1 ∨ k = 2 ∨ k = 3 := by omega
 clear hc
 rcases hp with rfl | rfl <;> rcases hk with rfl | rfl | rfl | rfl
 all_goals
  go_enter Tryz.func72, Tryz.ntmps72
  go_wp2
  go_region_with ((go_at_call 73; with_reducible refine (HC.out _).mono ?_; rintro r w9 ⟨rfl, rfl⟩))
  all_goals
   go_wp2
   go_returns
   exact ⟨rfl, 1, rfl⟩
set_option maxRecDepth 10000 in
set_option maxHeartbeats 2000000 in
theorem eachp_any (p : Nat) (hp : p = 0 ∨ p = 1) (v : List UInt8) (hv : v.length ≤ 1099511627776) (h4 : ∀ c ∈ v, cd c < 4) {w : World} {q : Nat} (hq : Bk w q 3 #[.int .i64 (p : Int)]) :
  Calls Tryz.prog 71 #[.string (bs v), .func (.func 72) #[] #[.pointer (some ⟨q, 0, none⟩)]] w fun x w' => x = .returned (.string (bs (v.map (pch p)))) ∧ Below w.heap.size w w' := by
 have hcv := run_bytes_of_string (P := Tryz.prog) w 9 74 5 (bs v) Tryz.underlying9 Tryz.underlying74 Tryz.underlying5
 have hsz : (bs v).size = v.length := bs_size v
 have hby := ByR.new w.drew 5 (bs v) (grownCap w (bs v).size 0 5) ((bytesRow (bs v) (grownCap w (bs v).size 0 5)).size, (bytesRow (bs v) (grownCap w (bs v).size 0 5)).size + 1) (by unfold bytesRow; simp)
 have hb0 := hide (((Below.refl w.heap.size w).drew).alloc (Nat.le_refl _) (.cells (bytesRow (bs v) (grownCap w (bs v).size 0 5)) 5 ((bytesRow (bs v) (grownCap w (bs v).size 0 5)).size, (bytesRow (bs v) (grownCap w (bs v).size 0 5)).size + 1)))
 have hdl : (bs v).data.toList = v := rfl
 rw [hdl] at hby
 have Hby := hide (show ByR _ w.heap.size 5 v from hby)
 have Hin := hide (fun c W hc hW => pl1_any p hp c hc (w := W) (q := q) hW)
 have Hq := hide hq
 have H4 := hide h4
 clear hq h4
 obtain ⟨n, hn⟩ : ∃ n, v.length = n := ⟨_, rfl⟩
 obtain ⟨cap, hcap⟩ : ∃ c, grownCap w (bs v).size 0 5 = c := ⟨_, rfl⟩
 rw [hcap] at hcv hb0 Hby
 have hnc : n ≤ cap := by
  have := grownCap_ge w (bs v).size 0 5
  rw [hcap] at this
  omega
 generalize w.drew.alloc (.cells (bytesRow (bs v) cap) 5 ((bytesRow (bs v) cap).size, (bytesRow (bs v) cap).size + 1)) = W0 at *
 rw [hsz, hn] at hcv
 rw [hn] at hv
 have Hn := hide hn
 obtain ⟨S, hS⟩ : ∃ S, bs v = S := ⟨_, rfl⟩
 rw [hS] at hcv ⊢
 clear hsz hby hdl hcap hn hS
 go_enter Tryz.func71, Tryz.ntmps71
 go_wp2
 go_loopw [12] (fun s12 wr => ∃ i : Nat, i ≤ n ∧ s12 = .int .i64 (i : Int) ∧ Hid (ByR wr w.heap.size 5 ((v.take i).map (pch p) ++ v.drop i)) ∧ Hid (Below w.heap.size w wr)) (fun s12 _ => (n - intOf s12).toNat)
 case atStart => exact ⟨0, Nat.zero_le _, rfl, Hby, hb0⟩
 case round =>
  clear Hby hb0 hcv
  obtain ⟨i, hi, rfl, hby, hb⟩ := hrel
  by_cases hlt : i < n
  ·have hil : i < v.length := by rw [Hn.out]; exact hlt
   have htk : v.take (i + 1) = v.take i ++ [v[i]] := List.take_succ_eq_append_getElem hil
   have hdr : v.drop i = v[i] :: v.drop (i + 1) := List.drop_eq_getElem_cons hil
   have hml : ((v.take i).map (pch p)).length = i := by rw [List.length_map, List.length_take]; omega
   obtain ⟨c, hc⟩ : ∃ c, v[i] = c := ⟨_, rfl⟩
   rw [hc] at htk hdr
   have hil2 : i < ((v.take i).map (pch p) ++ v.drop i).length := by rw [List.length_append, hml, List.length_drop]; omega
   obtain ⟨h1, h2⟩ := hby.out.cell i hil2
   have hgi : ((v.take i).map (pch p) ++ v.drop i)[i] = c := by
    rw [List.getElem_append_right (by omega)]
    simp only [hml, Nat.sub_self]
    rw [List.getElem_drop]
    simpa using hc
   rw [hgi] at h1
   have h1' : wr.cell? ⟨w.heap.size, i, none⟩ = some (.int .u8 (c.toNat : Int)) := h1
   have hset : ((v.take i).map (pch p) ++ v.drop i).set i (pch p c) = (v.take (i + 1)).map (pch p) ++ v.drop (i + 1) := by
    rw [List.set_append_right _ _ (by omega), hml, Nat.sub_self, hdr, List.set_cons_zero, htk, List.map_append]
    simp
   have Hput : Hid (∀ m, ByR ((wr.drewN m).setCell ⟨w.heap.size, i, none⟩ (bv (pch p c))) w.heap.size 5 ((v.take (i + 1)).map (pch p) ++ v.drop (i + 1))) := hide (fun m => by
    rw [← hset]
    exact ByR.put (w := wr.drewN m) hby.out i hil2 (pch p c))
   have Hi := hide (Hin.out c wr (H4.out c (by rw [← hc]; exact List.getElem_mem _)) (Hq.out.below hb.out Hq.out.lt))
   have Hbs : Hid (∀ m, Below w.heap.size w ((wr.drewN m).setCell ⟨w.heap.size, i, none⟩ (bv (pch p c)))) := hide (fun m => Below.setCell (p := ⟨w.heap.size, i, none⟩) (show Below w.heap.size w (wr.drewN m) from ⟨hb.out.os, hb.out.tape, hb.out.output, hb.out.size, hb.out.block⟩) (Nat.le_refl _) (bv (pch p c)))
   have hlti : (i : Int) < (n : Int) := by omega
   have hlti0 : (0 : Int) ≤ (i : Int) := by omega
   clear hil htk hdr hml hc hil2 h1 hgi hset hby hb
   unfold bv at Hput Hbs
   go_wp2_with fail
   refine (Hi.out).mono ?_
   rintro x w1 ⟨rfl, m, rfl⟩
   go_wp2
   refine ⟨⟨i + 1, hlt, by go_num, hide (Hput.out m), hide (Hbs.out m)⟩, ?_⟩
   simp [intOf] <;> omega
  ·have hin : i = n := by omega
   subst hin
   have htk : v.take i = v := List.take_of_length_le (by rw [Hn.out]; exact Nat.le_refl _)
   have hdr : v.drop i = [] := List.drop_eq_nil_of_le (by rw [Hn.out]; exact Nat.le_refl _)
   have hby2 := hby.out
   rw [htk, hdr, List.append_nil] at hby2
   have hml : (v.map (pch p)).length = i := by rw [List.length_map, Hn.out]
   have hcb := run_convert_bytes_back (P := Tryz.prog) wr 74 9 5 ⟨w.heap.size, 0, none⟩ cap (v.map (pch p)) Tryz.underlying74 Tryz.underlying5 Tryz.underlying9 (fun j hj => by
    have := (hby2.cell j hj).1
    rw [Go.WideShapes.add_plain, Nat.zero_add]
    exact this)
   rw [hml] at hcb
   have hbsv : (⟨(v.map (pch p)).toArray⟩ : ByteArray) = bs (v.map (pch p)) := rfl
   rw [hbsv] at hcb
   obtain ⟨SR, hSR⟩ : ∃ s, bs (v.map (pch p)) = s := ⟨_, rfl⟩
   rw [hSR] at hcb
   have HSR := hide hSR
   clear htk hdr hby2 hml hby hbsv hSR
   go_wp2
   go_returns
   exact ⟨by rw [HSR.out]; rfl, hb.out⟩
set_option maxRecDepth 10000 in
theorem pla_any (p : Nat) (hp : p = 0 ∨ p = 1) (v : List UInt8) (hv : v.length ≤ 1099511627776) (h4 : ∀ c ∈ v, cd c < 4) {w : World} {q : Nat} (hq : Bk w q 9 #[.string (bs v)]) :
  Calls Tryz.prog 70 #[.int .i64 (p : Int), .pointer (some ⟨q, 0, none⟩)] w fun x w' => x = .returned (.string (bs (v.map (pch p)))) ∧ Below w.heap.size w w' := by
 have He := hide (eachp_any p hp v hv h4 (Bk.new w 3 #[.int .i64 (p : Int)]))
 have Hb := hide ((Below.refl w.heap.size w).alloc (Nat.le_refl _) (.cells #[.int .i64 (p : Int)] 3))
 have c0 : w.cell? ⟨q, 0, none⟩ = some (.string (bs v)) := hq.cell 0
 have c1 := hide (hq.alloc (.cells #[.int .i64 (p : Int)] 3))
 have c2 : (w.alloc (.cells #[.int .i64 (p : Int)] 3)).cell? ⟨q, 0, none⟩ = some (.string (bs v)) := c1.out.cell 0
 clear hq hv h4
 generalize bs (v.map (pch p)) = R at *
 generalize bs v = S at *
 go_enter Tryz.func70, Tryz.ntmps70
 go_wp2_with fail
 refine (He.out).mono ?_
 rintro x w1 ⟨rfl, hb1⟩
 have Hb1 := hide (Hb.out.trans (hb1.mono Hb.out.size))
 clear hb1
 go_wp2
 go_returns
 exact ⟨rfl, Hb1.out⟩
set_option maxRecDepth 10000 in
set_option maxHeartbeats 1000000 in
theorem planes_any (v : List UInt8) (hv : v.length ≤ 1099511627776) (w : World) :
  Calls Tryz.prog 41 #[.string (bs v)] w fun x w' => x = .returned (.tuple #[.string (bs (if isV v = true then (lowB v).map chB else [])), .string (bs (if isV v = true then (higB v).map chB else []))]) ∧ Below w.heap.size w w' := by
 have Hi := hide (fun W => is_any v hv W)
 have hk0 := hide (Bk.new w 9 #[.string (bs v)])
 have Hb := hide ((Below.refl w.heap.size w).alloc (Nat.le_refl _) (.cells #[.string (bs v)] 9))
 cases hi : isV v with
 | false =>
  rw [hi] at Hi
  simp only [Bool.false_eq_true, if_false]
  rw [show bs ([] : List UInt8) = ⟨#[]⟩ from rfl]
  clear hi hk0 hv
  generalize bs v = S at *
  go_enter Tryz.func41, Tryz.ntmps41
  go_wp2_with fail
  refine (Hi.out _).mono ?_
  rintro x w1 ⟨rfl, hb1⟩
  have Hb1 := hide (Hb.out.trans (hb1.mono Hb.out.size))
  clear hb1
  go_wp2
  go_returns
  exact ⟨rfl, Hb1.out⟩
 | true =>
  rw [hi] at Hi
  simp only [if_true]
  have h4 : ∀ c ∈ v, cd c < 4 := (isV_iff.1 hi).1
  have H0 := hide (fun W (hW : Bk W w.heap.size 9 #[.string (bs v)]) => pla_any 0 (.inl rfl) v hv h4 hW)
  have H1 := hide (fun W (hW : Bk W w.heap.size 9 #[.string (bs v)]) => pla_any 1 (.inr rfl) v hv h4 hW)
  rw [pch0] at H0
  rw [pch1] at H1
  clear hi hv h4
  generalize bs ((lowB v).map chB) = R0 at *
  generalize bs ((higB v).map chB) = R1 at *
  generalize bs v = S at *
  go_enter Tryz.func41, Tryz.ntmps41
  go_wp2_with fail
  refine (Hi.out _).mono ?_
  rintro x w1 ⟨rfl, hb1⟩
  have Hk1 := hide (hk0.out.below hb1 hk0.out.lt)
  have Hb1 := hide (Hb.out.trans (hb1.mono Hb.out.size))
  clear hb1
  go_wp2_with fail
  refine (H0.out _ Hk1.out).mono ?_
  rintro x w2 ⟨rfl, hb2⟩
  have Hk2 := hide (Hk1.out.below hb2 Hk1.out.lt)
  have Hb2 := hide (Hb1.out.trans (hb2.mono Hb1.out.size))
  clear hb2
  go_wp2_with fail
  refine (H1.out _ Hk2.out).mono ?_
  rintro x w3 ⟨rfl, hb3⟩
  have Hb3 := hide (Hb2.out.trans (hb3.mono Hb2.out.size))
  clear hb3
  go_wp2
  go_returns
  exact ⟨rfl, Hb3.out⟩
end Go.Proofs.YtjfcemlbbinanaaGreatDoor
