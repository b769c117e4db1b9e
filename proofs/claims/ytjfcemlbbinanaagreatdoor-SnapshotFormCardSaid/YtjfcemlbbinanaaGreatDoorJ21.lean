/-
  Joined texts: X5, X6, X7, X8, X9, En, Eo, Xf.
-/
import Derived.Test.YtjfcemlbbinanaaGreatDoorJ15
import Derived.Test.YtjfcemlbbinanaaGreatDoorJ20
import Derived.Test.YtjfcemlbbinanaaGreatDoorJ19
set_option linter.unusedVariables false
set_option linter.unusedSimpArgs false
/-
  The walks over snapshots: bits as bytes.
-/
namespace Wv.Sn
open Go Go.RowKit Wv Wv.Bc
def pdA (A : List Bool) (i : Nat) : List Bool := A.take i ++ List.replicate (A.length - i) false
theorem pdA_len (A : List Bool) (i : Nat) (h : i ≤ A.length) : (pdA A i).length = A.length := by
 unfold pdA
 rw [List.length_append, List.length_take, List.length_replicate]; omega
theorem pdA_end (A : List Bool) : pdA A A.length = A := by
 unfold pdA
 rw [List.take_length, Nat.sub_self, List.replicate_zero, List.append_nil]
theorem pdA_get (A : List Bool) (i k : Nat) (h : i ≤ A.length) : (pdA A i).getD k false = if k < i then A.getD k false else false := by
 unfold pdA
 simp only [List.getD]
 by_cases hk : k < i
 ·rw [if_pos hk, List.getElem?_append_left (by rw [List.length_take]; omega), List.getElem?_take, if_pos hk]
 ·rw [if_neg hk, List.getElem?_append_right (by rw [List.length_take]; omega), List.length_take, List.getElem?_replicate]
  split <;> rfl
theorem pack_bit (l : List Bool) (j r : Nat) (hj : j < (Bit.pack l).length) (hr : r < 8) : ((Bit.pack l)[j]).toNat.testBit (7 - r) = l.getD (8 * j + r) false := by
 have h := rbit_bs_pack l (8 * j + r) (by omega)
 unfold Bit.rbit at h
 rw [show (8 * j + r) / 8 = j from by omega, show (8 * j + r) % 8 = r from by omega] at h
 have e : (bs (Bit.pack l)).data.toList = Bit.pack l := rfl
 rw [e] at h
 rw [← h]
 simp only [List.getD, List.getElem?_eq_getElem hj]
 rfl
theorem or_test (x s k : Nat) (b : Bool) : (x ||| b.toNat * 2 ^ s).testBit k = (x.testBit k || (b && decide (k = s))) := by
 rw [Nat.testBit_or]
 congr 1
 cases b
 ·simp
 ·rw [show true.toNat = 1 from rfl, Nat.one_mul, Nat.testBit_two_pow]
  simp [eq_comm]
theorem pk_new (A : List Bool) (i : Nat) (hi : i < A.length) (h1 : i / 8 < (Bit.pack (pdA A i)).length) (h2 : i / 8 < (Bit.pack (pdA A (i + 1))).length) :
  ((Bit.pack (pdA A (i + 1)))[i / 8]).toNat = ((Bit.pack (pdA A i))[i / 8]).toNat ||| (A[i]).toNat * 2 ^ (7 - i % 8) := by
 apply Nat.eq_of_testBit_eq
 intro k
 rw [or_test]
 rcases Nat.lt_or_ge k 8 with hk | hk
 ·have e1 := pack_bit (pdA A (i + 1)) (i / 8) (7 - k) h2 (by omega)
  have e2 := pack_bit (pdA A i) (i / 8) (7 - k) h1 (by omega)
  rw [show 7 - (7 - k) = k from by omega] at e1 e2
  rw [e1, e2, pdA_get _ _ _ (by omega), pdA_get _ _ _ (by omega)]
  by_cases hki : k = 7 - i % 8
  ·have e : 8 * (i / 8) + (7 - k) = i := by omega
   rw [e, if_pos (by omega), if_neg (by omega), decide_eq_true hki]
   simp only [List.getD, List.getElem?_eq_getElem hi]
   simp
  ·rw [decide_eq_false hki]
   by_cases hlt : 8 * (i / 8) + (7 - k) < i
   ·rw [if_pos (by omega), if_pos hlt]; simp
   ·rw [if_neg (by omega), if_neg hlt]; simp
 ·have l1 := UInt8.toNat_lt (Bit.pack (pdA A (i + 1)))[i / 8]
  have l2 := UInt8.toNat_lt (Bit.pack (pdA A i))[i / 8]
  have h4 : 256 ≤ 2 ^ k := Nat.le_trans (by decide) (Nat.pow_le_pow_right (show 0 < 2 by omega) hk)
  rw [Nat.testBit_lt_two_pow (by omega), Nat.testBit_lt_two_pow (by omega), decide_eq_false (by omega)]
  simp
theorem pk_old (A : List Bool) (i j : Nat) (hi : i < A.length) (hj : j ≠ i / 8) (h1 : j < (Bit.pack (pdA A i)).length) (h2 : j < (Bit.pack (pdA A (i + 1))).length) : (Bit.pack (pdA A (i + 1)))[j] = (Bit.pack (pdA A i))[j] := by
 apply byteB
 intro k hk
 have e1 := pack_bit (pdA A (i + 1)) j (7 - k) h2 (by omega)
 have e2 := pack_bit (pdA A i) j (7 - k) h1 (by omega)
 rw [show 7 - (7 - k) = k from by omega] at e1 e2
 rw [e1, e2, pdA_get _ _ _ (by omega), pdA_get _ _ _ (by omega)]
 by_cases hlt : 8 * j + (7 - k) < i
 ·rw [if_pos (by omega), if_pos hlt]
 ·rw [if_neg (by omega), if_neg hlt]
theorem pk_set (A : List Bool) (i : Nat) (hi : i < A.length) (h1 : i / 8 < (Bit.pack (pdA A i)).length) (x : UInt8) (hx : x.toNat = ((Bit.pack (pdA A i))[i / 8]).toNat ||| (A[i]).toNat * 2 ^ (7 - i % 8)) :
  (Bit.pack (pdA A i)).set (i / 8) x = Bit.pack (pdA A (i + 1)) := by
 have l1 := Bit.pack_length (pdA A i)
 have l2 := Bit.pack_length (pdA A (i + 1))
 rw [pdA_len _ _ (by omega)] at l1 l2
 apply List.ext_getElem
 ·rw [List.length_set]; omega
 ·intro j a1 a2
  rw [List.getElem_set]
  by_cases hj : i / 8 = j
  ·subst hj
   rw [if_pos rfl]
   apply UInt8.toNat_inj.1
   rw [hx, pk_new A i hi h1 a2]
  ·rw [if_neg hj, pk_old A i j hi (fun h => hj h.symm) (by rw [List.length_set] at a1; exact a1) a2]
theorem pack_zero (n : Nat) : Bit.pack (List.replicate n false) = List.replicate ((n + 7) / 8) 0 := by
 apply List.ext_getElem
 ·rw [Bit.pack_length, List.length_replicate, List.length_replicate]
 ·intro j h1 h2
  rw [List.getElem_replicate]
  apply byteB
  intro k hk
  have e1 := pack_bit (List.replicate n false) j (7 - k) h1 (by omega)
  rw [show 7 - (7 - k) = k from by omega] at e1
  rw [e1]
  simp only [List.getD, List.getElem?_replicate]
  split <;> simp
end Wv.Sn
/-
  The walks over snapshots: pack.
-/
namespace Wv.Sn
open Go Go.RowKit Wv Wv.Bc
theorem or_new (old : UInt8) (b : Bool) (d : Nat) (hd : d < 8) : ∃ x : UInt8, x.toNat = old.toNat ||| b.toNat * 2 ^ d ∧ Go.bits .or .u8 (old.toNat : Int) ((b.toNat * 2 ^ d : Nat) : Int) = (x.toNat : Int) := by
 have h1 : (2 : Nat) ^ d ≤ 2 ^ 7 := Nat.pow_le_pow_right (by omega) (by omega)
 have h2 : b.toNat * 2 ^ d < 2 ^ 8 := by cases b <;> simp <;> omega
 have h3 : old.toNat ||| b.toNat * 2 ^ d < 2 ^ 8 := Nat.or_lt_two_pow (UInt8.toNat_lt old) h2
 have h4 : (UInt8.ofNat (old.toNat ||| b.toNat * 2 ^ d)).toNat = old.toNat ||| b.toNat * 2 ^ d := by
  show (old.toNat ||| b.toNat * 2 ^ d) % 2 ^ 8 = _
  exact Nat.mod_eq_of_lt h3
 refine ⟨_, h4, ?_⟩
 rw [h4, Go.u8_or_nat _ _ (UInt8.toNat_lt old) (by omega)]
theorem pow_u8 {d : Nat} (hd : d < 8) : (2 : Int) ^ d % 256 = ((true.toNat * 2 ^ d : Nat) : Int) := by
 have h1 : (2 : Nat) ^ d ≤ 2 ^ 7 := Nat.pow_le_pow_right (by omega) (by omega)
 have h2 : ((2 ^ d : Nat) : Int) = (2 : Int) ^ d := by push_cast; rfl
 rw [← h2, show true.toNat = 1 from rfl, Nat.one_mul]
 clear h2
 generalize 2 ^ d = q at *
 omega
end Wv.Sn
namespace Go.Proofs.YtjfcemlbbinanaaGreatDoor
open Go.RowKit Go.Proofs Wv Wv.Vi Wv.Bc Wv.Sn
set_option linter.unusedVariables false
set_option maxRecDepth 10000 in
set_option maxHeartbeats 4000000 in
theorem spack_any (A : List Bool) (hA : A.length ≤ 1099511627776) (w : World) :
  Calls Tryz.prog 42 #[.string (bs (A.map chB))] w fun x w' => x = .returned (.string (bs (Bit.pack A))) ∧ Below w.heap.size w w' := by
 have hsa : (bs (A.map chB)).size = A.length := by rw [bs_size, List.length_map]
 have Hga : Hid (∀ (i : Nat) (h : i < A.length) (h2 : i < (bs (A.map chB)).size), (bs (A.map chB))[i]'h2 = chB (A[i]'h)) := hide (fun i h h2 => by rw [bs_get _ i (by rw [List.length_map]; exact h) h2, List.getElem_map])
 obtain ⟨n, hn⟩ : ∃ n, A.length = n := ⟨_, rfl⟩
 obtain ⟨M, hM⟩ : ∃ M, (n + 7) / 8 = M := ⟨_, rfl⟩
 have hMn : M ≤ n + 7 := by omega
 have hmk := mk_row (P := Tryz.prog) 74 5 (.int .u8 0) 1 Tryz.underlying74 (by kernel_rfl) rfl (((n : Int) + 7) / 8) M (by omega) (by omega) (by omega) w
 have hpl : ∀ i, i ≤ n → (Bit.pack (pdA A i)).length = M := fun i hi => by rw [Bit.pack_length, pdA_len A i (by omega), hn, hM]
 have hst : (Array.replicate M (.int .u8 0 : Value)) = ((Bit.pack (pdA A 0)).map bv).toArray := by
  unfold pdA
  rw [List.take_zero, List.nil_append, Nat.sub_zero, hn, pack_zero, hM, List.map_replicate]
  rfl
 have hk0 := Bk.new w 5 (Array.replicate M (.int .u8 0))
 have hb0 := hide ((Below.refl w.heap.size w).alloc (Nat.le_refl _) (.cells (Array.replicate M (.int .u8 0)) 5))
 generalize w.alloc (.cells (Array.replicate M (.int .u8 0)) 5) = W0 at *
 rw [hst] at hk0
 have Hk0 := hide hk0
 have Hpl := hide hpl
 have Hset := hide (fun i (h1 : i < A.length) => pk_set A i h1)
 have Hend : Hid (Bit.pack (pdA A n) = Bit.pack A) := hide (by rw [← hn, pdA_end])
 have Hn := hide hn
 rw [hn] at hsa
 obtain ⟨SA, hSA⟩ : ∃ s, bs (A.map chB) = s := ⟨_, rfl⟩
 rw [hSA] at hsa Hga ⊢
 have hnn : n ≤ 1099511627776 := by omega
 have HM := hide hM
 clear hst hk0 hpl hn hSA hA hM
 go_enter Tryz.func42, Tryz.ntmps42
 go_wp2
 go_loopw [12] (fun s12 wr => ∃ i : Nat, i ≤ n ∧ s12 = .int .i64 (i : Int) ∧ Hid (Bk wr w.heap.size 5 ((Bit.pack (pdA A i)).map bv).toArray) ∧ Hid (Below w.heap.size w wr)) (fun s12 _ => (n - intOf s12).toNat)
 case atStart => exact ⟨0, Nat.zero_le _, rfl, Hk0, hb0⟩
 case round =>
  clear Hk0 hb0 hmk
  obtain ⟨i, hi, rfl, hbk, hb⟩ := hrel
  by_cases hlt : i < n
  ·have hia : i < A.length := by rw [Hn.out]; exact hlt
   have hiA : i < SA.size := by omega
   have hga := Hga.out i hia hiA
   have hgA : ((SA[i]'hiA).toNat : Int) = ((chB A[i]).toNat : Int) := by rw [hga]
   have hln := Hpl.out i hi
   obtain ⟨z, hz⟩ : ∃ z, i / 8 = z := ⟨_, rfl⟩
   obtain ⟨m, hm⟩ : ∃ m, i % 8 = m := ⟨_, rfl⟩
   obtain ⟨d, hd⟩ : ∃ d, 7 - m = d := ⟨_, rfl⟩
   have hMv := HM.out
   have hzM : z < M := by omega
   have i3 : IntKind.i64.wrap ((i : Int) / 8) = (z : Int) := by rw [IntWalk.i64_in _ (by omega)]; omega
   have i4 : IntKind.i64.wrap ((i : Int) % 8) = (m : Int) := by rw [IntWalk.i64_in _ (by omega)]; omega
   have i5 : IntKind.i64.wrap (7 - (m : Int)) = (d : Int) := by rw [IntWalk.i64_in _ (by omega)]; omega
   have hcell := hbk.out.cell z
   have hfroz := hbk.out.frozen z
   obtain ⟨old, hold⟩ : ∃ o, (Bit.pack (pdA A i))[z]'(by omega) = o := ⟨_, rfl⟩
   rw [List.getElem?_toArray, List.getElem?_map, List.getElem?_eq_getElem (by omega), hold] at hcell
   have hcell2 : wr.cell? ⟨w.heap.size, z, none⟩ = some (.int .u8 (old.toNat : Int)) := hcell
   have Hnew : Hid (∀ x : UInt8, x.toNat = old.toNat ||| (A[i]).toNat * 2 ^ d → Bk (wr.setCell ⟨w.heap.size, z, none⟩ (.int .u8 (x.toNat : Int))) w.heap.size 5 ((Bit.pack (pdA A (i + 1))).map bv).toArray) := hide (fun x hx => by
    have hp := hbk.out.put z (bv x)
    rw [List.setIfInBounds_toArray, ← List.map_set] at hp
    have := Hset.out i hia (by omega) x (by simp only [hz]; rw [hold, hm, hd]; exact hx)
    rw [hz] at this
    rw [this] at hp
    exact hp)
   have Hbs : Hid (∀ v, Below w.heap.size w (wr.setCell ⟨w.heap.size, z, none⟩ v)) := hide (fun v => hb.out.setCell (p := ⟨w.heap.size, z, none⟩) (Nat.le_refl _) v)
   have hi0 : (0 : Int) ≤ (i : Int) := by omega
   have hlti : (i : Int) < (n : Int) := by omega
   have hsA : (i : Int) < (SA.size : Int) := by omega
   have z0 : (0 : Int) ≤ (z : Int) := by omega
   have z1 : (z : Int) < (M : Int) := by omega
   have d8 : d < 8 := by omega
   have ho := UInt8.toNat_lt old
   have Hd : Hid (7 - i % 8 = d) := hide (by omega)
   obtain ⟨x, hx1, hx2⟩ := or_new old A[i] d d8
   have Hx := hide hx2
   have HN := hide (Hnew.out x hx1)
   clear hx1 hx2 Hnew
   clear hcell hga hln hold hz hm hd hbk hb Hset Hend Hga
   generalize A[i] = X at *
   clear hia HM hMv
   cases X
   all_goals
    (try rw [show ((chB false).toNat : Int) = 48 from rfl] at hgA)
    (try rw [show ((chB true).toNat : Int) = 49 from rfl] at hgA)
    go_wp2
    go_region
    clear i3 i4 i5 hcell2 hfroz
    go_wp2
    go_roundw
    case rel =>
     (try rw [show (false.toNat * 2 ^ d : Nat) = 0 from by simp] at Hx)
     (try rw [← pow_u8 d8] at Hx)
     (try rw [Hd.out])
     (try rw [show (((0 : Nat) : Int)) = 0 from rfl] at Hx)
     rw [Hx.out]
     exact ⟨i + 1, hlt, by go_num, hide (HN.out.drew), hide ((Hbs.out _).drew)⟩
    case measure => simp [intOf] <;> omega
  ·have hin : i = n := by omega
   subst hin
   have hbk2 := hbk.out
   rw [Hend.out] at hbk2
   have hln : (Bit.pack A).length = M := by rw [← Hend.out]; exact Hpl.out i (Nat.le_refl _)
   have hcb := run_convert_bytes_back (P := Tryz.prog) wr 74 9 5 ⟨w.heap.size, 0, none⟩ M (Bit.pack A) Tryz.underlying74 Tryz.underlying5 Tryz.underlying9 (fun j hj => by
    rw [Go.WideShapes.add_plain, Nat.zero_add, hbk2.cell j, List.getElem?_toArray, List.getElem?_map, List.getElem?_eq_getElem hj]
    rfl)
   rw [hln] at hcb
   have hbsv : (⟨(Bit.pack A).toArray⟩ : ByteArray) = bs (Bit.pack A) := rfl
   rw [hbsv] at hcb
   obtain ⟨SR, hSR⟩ : ∃ s, bs (Bit.pack A) = s := ⟨_, rfl⟩
   rw [hSR] at hcb
   have HSR := hide hSR
   clear hbk2 hln hbsv hSR hbk Hset Hend Hga
   go_wp2
   go_returns
   exact ⟨by rw [HSR.out]; rfl, hb.out⟩
end Go.Proofs.YtjfcemlbbinanaaGreatDoor
/-
  The walks over snapshots: unpack.
-/
namespace Wv.Sn
open Go Go.RowKit Wv Wv.Bc
def upV (d : List UInt8) (n : Nat) : List Bool × Bool := if zeroB d n = false then ([], false) else (Bit.rbits (bs d) (min n (8 * d.length)), decide (n ≤ 8 * d.length))
def upA (d : List UInt8) (i : Nat) : List UInt8 := (Bit.rbits (bs d) i).map chB ++ List.replicate (8 * d.length - i) 0
theorem upA_len (d : List UInt8) (i : Nat) (h : i ≤ 8 * d.length) : (upA d i).length = 8 * d.length := by
 unfold upA
 rw [List.length_append, List.length_map, Bit.rbits_length, List.length_replicate]; omega
theorem rbits_succ (s : ByteArray) (i : Nat) : Bit.rbits s (i + 1) = Bit.rbits s i ++ [Bit.rbit s i] := by
 unfold Bit.rbits
 rw [List.range_succ, List.map_append]; rfl
theorem upA_set (d : List UInt8) (i : Nat) (h : i < 8 * d.length) : (upA d i).set i (chB (Bit.rbit (bs d) i)) = upA d (i + 1) := by
 unfold upA
 rw [rbits_succ, List.map_append, List.set_append_right _ _ (by rw [List.length_map, Bit.rbits_length]; exact Nat.le_refl _), List.length_map, Bit.rbits_length, Nat.sub_self,
  show 8 * d.length - i = (8 * d.length - (i + 1)) + 1 by omega, List.replicate_succ, List.set_cons_zero]
 simp
theorem upA_end (d : List UInt8) : upA d (8 * d.length) = (Bit.rbits (bs d) (8 * d.length)).map chB := by
 unfold upA
 rw [Nat.sub_self, List.replicate_zero, List.append_nil]
theorem chB_nat (b : Bool) : (chB b).toNat = 48 + b.toNat := by cases b <;> rfl
theorem up_take (d : List UInt8) (m : Nat) (h : m ≤ 8 * d.length) : (Bit.rbits (bs d) (8 * d.length)).take m = Bit.rbits (bs d) m := by
 unfold Bit.rbits
 rw [← List.map_take, List.take_range, Nat.min_eq_left h]
theorem up_arith (x e : Nat) (hx : x < 256) (b : Bool) (hb : b.toNat = x / 2 ^ e % 2) : (48 + Go.bits .and .u8 ((x : Int) / 2 ^ e) 1) % 256 = ((chB b).toNat : Int) := by
 have h1 : (x : Int) / 2 ^ e = ((x / 2 ^ e : Nat) : Int) := by push_cast; rfl
 have h2 : x / 2 ^ e < 256 := Nat.lt_of_le_of_lt (Nat.div_le_self _ _) hx
 rw [h1, Bit.and1_u8 _ h2, ← hb, chB_nat]
 have : b.toNat ≤ 1 := by cases b <;> simp
 omega
end Wv.Sn
namespace Go.Proofs.YtjfcemlbbinanaaGreatDoor
open Go.RowKit Go.Proofs Wv Wv.Vi Wv.Bc Wv.Sn
set_option linter.unusedVariables false
set_option maxRecDepth 100000 in
set_option maxHeartbeats 4000000 in
theorem sunpack_any (d : List UInt8) (n : Nat) (hd : d.length ≤ 1000000) (hn : n ≤ 1000000) (w : World) :
  Calls Tryz.prog 44 #[.string (bs d), .int .i64 (n : Int)] w fun x w' => x = .returned (.tuple #[.string (bs ((upV d n).1.map chB)), .bool (upV d n).2]) ∧ Below w.heap.size w w' := by
 have hsa : (bs d).size = d.length := bs_size d
 have Hga : Hid (∀ (i : Nat) (h : i < d.length) (h2 : i < (bs d).size), (bs d)[i]'h2 = d[i]'h) := hide (fun i h h2 => bs_get _ i h h2)
 obtain ⟨D, hD⟩ : ∃ D, d.length = D := ⟨_, rfl⟩
 obtain ⟨L, hL⟩ : ∃ L, 8 * D = L := ⟨_, rfl⟩
 obtain ⟨m, hm⟩ : ∃ m, min n L = m := ⟨_, rfl⟩
 have hmk := mk_row (P := Tryz.prog) 74 5 (.int .u8 0) 1 Tryz.underlying74 (by kernel_rfl) rfl (8 * (D : Int)) L (by omega) (by omega) (by omega) w
 have hpl : ∀ i, i ≤ L → (upA d i).length = L := fun i hi => by rw [upA_len d i (by omega)]; omega
 have hst : (Array.replicate L (.int .u8 0 : Value)) = ((upA d 0).map bv).toArray := by
  have : upA d 0 = List.replicate L 0 := by
   unfold upA
   rw [show Bit.rbits (bs d) 0 = [] from rfl, List.map_nil, List.nil_append, Nat.sub_zero, hD, hL]
  rw [this, List.map_replicate]
  simp [bv]
 have hk0 := Bk.new w 5 (Array.replicate L (.int .u8 0))
 have hb0 := hide ((Below.refl w.heap.size w).alloc (Nat.le_refl _) (.cells (Array.replicate L (.int .u8 0)) 5))
 generalize w.alloc (.cells (Array.replicate L (.int .u8 0)) 5) = W0 at *
 rw [hst] at hk0
 have Hk0 := hide hk0
 have Hpl := hide hpl
 have Hset := hide (fun i (h1 : i < 8 * d.length) => upA_set d i h1)
 have Hend : Hid (upA d L = (Bit.rbits (bs d) L).map chB) := hide (by rw [← hL, ← hD, upA_end])
 have Hrb := hide (fun i (h : i / 8 < (bs d).size) => Bit.rbit_nat (bs d) i h)
 have hV : upV d n = if zeroB d n = false then ([], false) else (Bit.rbits (bs d) m, decide (n ≤ L)) := by
  unfold upV
  rw [hD, hL, hm]
 have Hzo := hide (zeroB_iff (d := d) (n := n))
 have Htk := hide (fun h => up_take d m h)
 rw [hD, hL] at Htk
 rw [hD, hL] at Hzo
 have HD := hide hD
 have HV := hide hV
 rw [hD] at hsa
 obtain ⟨SA, hSA⟩ : ∃ s, bs d = s := ⟨_, rfl⟩
 rw [hSA] at hsa Hga Hend Hrb HV Hzo Htk Hset ⊢
 have hD2 : D ≤ 1000000 := by omega
 have hLm : L ≤ 8000000 := by omega
 have HL := hide hL
 have Hm := hide hm
 clear hst hk0 hpl hSA hD hL hV hd hm
 go_enter Tryz.func44, Tryz.ntmps44
 go_wp2
 go_loopw [16] (fun s16 wr => ∃ i : Nat, i ≤ L ∧ s16 = .int .i64 (i : Int) ∧ Hid (Bk wr w.heap.size 5 ((upA d i).map bv).toArray) ∧ Hid (Below w.heap.size w wr)) (fun s16 _ => (L - intOf s16).toNat)
 case atStart => exact ⟨0, Nat.zero_le _, rfl, Hk0, hb0⟩
 case round =>
  clear Hk0 hb0 hmk
  obtain ⟨i, hi, rfl, hbk, hb⟩ := hrel
  by_cases hlt : i < L
  ·have hLv := HL.out
   have hiA : i / 8 < SA.size := by omega
   have hib := Hrb.out i hiA
   have hln := Hpl.out i hi
   obtain ⟨z, hz⟩ : ∃ z, i / 8 = z := ⟨_, rfl⟩
   obtain ⟨m8, hm8⟩ : ∃ m, i % 8 = m := ⟨_, rfl⟩
   have hzD : z < SA.size := by omega
   simp only [hz] at hib
   have hfroz := hbk.out.frozen i
   have hp := hbk.out.put i (bv (chB (Bit.rbit SA i)))
   rw [List.setIfInBounds_toArray, ← List.map_set, Hset.out i (by rw [HD.out]; omega)] at hp
   have hcell := hbk.out.cell i
   rw [List.getElem?_toArray, List.getElem?_map, List.getElem?_eq_getElem (by omega)] at hcell
   obtain ⟨old, hold⟩ : ∃ o, (Option.map bv (some ((upA d i)[i]'(by omega)))) = some o := ⟨_, rfl⟩
   rw [hold] at hcell
   obtain ⟨x, hx⟩ : ∃ x, (SA[z]'hzD).toNat = x := ⟨_, rfl⟩
   have hxl : x < 256 := by rw [← hx]; exact UInt8.toNat_lt _
   rw [hx, hm8] at hib
   have hgx : ((SA[z]'hzD).toNat : Int) = (x : Int) := by rw [hx]
   obtain ⟨e, he⟩ : ∃ e, 7 - m8 = e := ⟨_, rfl⟩
   rw [he] at hib
   have i3 : IntKind.i64.wrap ((i : Int) / 8) = (z : Int) := by rw [IntWalk.i64_in _ (by omega)]; omega
   have i4 : IntKind.i64.wrap ((i : Int) % 8) = (m8 : Int) := by rw [IntWalk.i64_in _ (by omega)]; omega
   have i5 : IntKind.i64.wrap (7 - (m8 : Int)) = (e : Int) := by rw [IntWalk.i64_in _ (by omega)]; omega
   have Hd : Hid (7 - i % 8 = e) := hide (by omega)
   have e8 : e < 8 := by omega
   obtain ⟨b, hbb⟩ : ∃ b, Bit.rbit SA i = b := ⟨_, rfl⟩
   rw [hbb] at hp hib
   have HN := hide hp
   have Hib := hide hib
   have Hbs := hide (hb.out.setCell (p := ⟨w.heap.size, i, none⟩) (Nat.le_refl _) (bv (chB b)))
   have hi0 : (0 : Int) ≤ (i : Int) := by omega
   have hlti : (i : Int) < (L : Int) := by omega
   have z0 : (0 : Int) ≤ (z : Int) := by omega
   have z1 : (z : Int) < (D : Int) := by omega
   clear hib hp hln hold hx hz hm8 he hbb hbk hb hiA hLv
   go_wp2
   rw [Hd.out, up_arith x e hxl b Hib.out]
   refine ⟨⟨i + 1, hlt, by go_num, HN, Hbs⟩, ?_⟩
   simp [intOf] <;> omega
  ·have hin : i = L := by omega
   subst hin
   have hbk2 := hbk.out
   rw [Hend.out] at hbk2
   have hmv := Hm.out
   rcases Nat.lt_or_ge m i with hmi | hmi
   ·obtain ⟨q, rfl⟩ : ∃ q, i = m + q := ⟨i - m, by omega⟩
    have hq0 : 0 < q := by omega
    have hq0i : (0 : Int) < (q : Int) := by omega
    have hmn : min (n : Int) ((m : Int) + (q : Int)) = (m : Int) := by omega
    have hmq : m ≤ n := by omega
    have hqn : Hid (n = m) := hide (by omega)
    have Hcell : Hid (∀ j, j < m + q → wr.cell? ⟨w.heap.size, j, none⟩ = some (.int .u8 ((chB (Bit.rbit SA j)).toNat : Int))) := hide (fun j h => by
     rw [hbk2.cell j, List.getElem?_toArray, List.getElem?_map, List.getElem?_map, List.getElem?_eq_getElem (by rw [Bit.rbits_length]; exact h)]
     simp [Bit.rbits, bv])
    have Hb2 := hide hb.out
    have Hmq := hide hmq
    clear hmv hbk hb hbk2 hlt hi hmq Hset Hend Hpl Hga Hrb Hm HL
    generalize wr = W1 at *
    go_wp2
    go_loopw [40] (fun s40 W => ∃ j : Nat, j ≤ q ∧ s40 = .int .i64 (j : Int) ∧ Hid (∀ k, k < j → Bit.rbit SA (m + k) = false) ∧ W = W1) (fun s40 _ => (q - intOf s40).toNat)
    case atStart => exact ⟨0, Nat.zero_le _, rfl, hide (fun k h => by omega), rfl⟩
    case round =>
     obtain ⟨j, hj, rfl, hz, rfl⟩ := hrel
     by_cases hjq : j < q
     ·have hc := Hcell.out (m + j) (by omega)
      have hj0 : (0 : Int) ≤ (j : Int) := by omega
      have hjq2 : (j : Int) < (q : Int) := by omega
      cases hbj : Bit.rbit SA (m + j) with
      | true =>
       have hV0 : upV d n = ([], false) := by
        have hn0 := hqn.out
        have : zeroB d n = false := by
         cases hzb : zeroB d n with
         | false => rfl
         | true => have := Hzo.out.1 hzb (m + j) (by omega) (by omega); rw [hbj] at this; cases this
        rw [HV.out, if_pos this]
       have HV0 := hide hV0
       rw [hbj, show ((chB true).toNat : Int) = 49 from rfl] at hc
       clear hV0 hbj HV Hzo Hcell hz
       go_wp2
       go_returns
       exact ⟨by rw [HV0.out]; rfl, Hb2.out⟩
      | false =>
       rw [hbj, show ((chB false).toNat : Int) = 48 from rfl] at hc
       have hz2 : Hid (∀ k, k < j + 1 → Bit.rbit SA (m + k) = false) := hide (fun k hk => by
        rcases Nat.lt_or_ge k j with h | h
        ·exact hz.out k h
        ·rw [show k = j by omega]; exact hbj)
       clear hbj hz
       go_wp2
       refine ⟨⟨j + 1, hjq, by go_num, hz2, (by first | trivial | rfl)⟩, ?_⟩
       simp [intOf] <;> omega
     ·have hjq2 : j = q := by omega
      subst hjq2
      have hV1 : upV d n = (Bit.rbits SA m, decide (n ≤ m + j)) := by
       have : zeroB d n = true := Hzo.out.2 (fun k h1 h2 => by
        have := hz.out (k - m) (by omega)
        rwa [show m + (k - m) = k by have := Hmq.out; omega] at this)
       rw [HV.out, if_neg (by rw [this]; decide)]
      have HV1 := hide hV1
      have hcb := run_convert_bytes_back (P := Tryz.prog) wr 74 9 5 ⟨w.heap.size, 0, none⟩ (m + j) ((Bit.rbits SA m).map chB) Tryz.underlying74 Tryz.underlying5 Tryz.underlying9 (fun k hk => by
       rw [List.length_map, Bit.rbits_length] at hk
       rw [Go.WideShapes.add_plain, Nat.zero_add, Hcell.out k (by omega)]
       simp [Bit.rbits])
      rw [List.length_map, Bit.rbits_length] at hcb
      have hbsv : (⟨((Bit.rbits SA m).map chB).toArray⟩ : ByteArray) = bs ((Bit.rbits SA m).map chB) := rfl
      rw [hbsv] at hcb
      obtain ⟨SR, hSR⟩ : ∃ s, bs ((Bit.rbits SA m).map chB) = s := ⟨_, rfl⟩
      rw [hSR] at hcb
      have HSR := hide hSR
      clear hbsv hSR Hcell HV Hzo hV1
      go_wp2
      go_returns
      exact ⟨by rw [HV1.out, ← HSR.out]; simp <;> omega, Hb2.out⟩
   ·have hmi2 : m = i := by omega
    subst hmi2
    have hmn : min (n : Int) (m : Int) = (m : Int) := by omega
    have hmq : m ≤ n := by omega
    have Hcell : Hid (∀ j, j < m → wr.cell? ⟨w.heap.size, j, none⟩ = some (.int .u8 ((chB (Bit.rbit SA j)).toNat : Int))) := hide (fun j h => by
     rw [hbk2.cell j, List.getElem?_toArray, List.getElem?_map, List.getElem?_map, List.getElem?_eq_getElem (by rw [Bit.rbits_length]; exact h)]
     simp [Bit.rbits, bv])
    have Hb2 := hide hb.out
    have Hmq := hide hmq
    clear hmv hbk hb hbk2 hlt hi hmq Hset Hend Hpl Hga Hrb Hm HL hmi
    generalize wr = W1 at *
    go_wp2
    go_loopw [40] (fun s40 W => s40 = .int .i64 0 ∧ W = W1) (fun s40 _ => 0)
    case atStart => exact ⟨rfl, rfl⟩
    case round =>
     obtain ⟨rfl, rfl⟩ := hrel
     have hV1 : upV d n = (Bit.rbits SA m, decide (n ≤ m)) := by
      have : zeroB d n = true := Hzo.out.2 (fun k h1 h2 => by
       have := Hmq.out
       omega)
      rw [HV.out, if_neg (by rw [this]; decide)]
     have HV1 := hide hV1
     have hcb := run_convert_bytes_back (P := Tryz.prog) wr 74 9 5 ⟨w.heap.size, 0, none⟩ (m) ((Bit.rbits SA m).map chB) Tryz.underlying74 Tryz.underlying5 Tryz.underlying9 (fun k hk => by
      rw [List.length_map, Bit.rbits_length] at hk
      rw [Go.WideShapes.add_plain, Nat.zero_add, Hcell.out k (by omega)]
      simp [Bit.rbits])
     rw [List.length_map, Bit.rbits_length] at hcb
     have hbsv : (⟨((Bit.rbits SA m).map chB).toArray⟩ : ByteArray) = bs ((Bit.rbits SA m).map chB) := rfl
     rw [hbsv] at hcb
     obtain ⟨SR, hSR⟩ : ∃ s, bs ((Bit.rbits SA m).map chB) = s := ⟨_, rfl⟩
     rw [hSR] at hcb
     have HSR := hide hSR
     clear hbsv hSR Hcell HV Hzo hV1
     go_wp2
     go_returns
     exact ⟨by rw [HV1.out, ← HSR.out]; simp <;> omega, Hb2.out⟩
end Go.Proofs.YtjfcemlbbinanaaGreatDoor
/-
  The walks over snapshots: how a value of bits is written and read.
-/
namespace Wv.Sn
open Go Go.RowKit Wv Wv.Bc
def bitsT (a b : List UInt8) (n : Nat) : List UInt8 := if (upV a n).2 = false ∨ (upV b n).2 = false ∨ (fromP (upV a n).1 (upV b n).1).2 ≠ 0 then [] else (fromP (upV a n).1 (upV b n).1).1
theorem upV_len (d : List UInt8) (n : Nat) : (upV d n).1.length ≤ n := by
 unfold upV
 split
 ·exact Nat.zero_le _
 ·rw [Bit.rbits_length]; exact Nat.min_le_left _ _
end Wv.Sn
namespace Go.Proofs.YtjfcemlbbinanaaGreatDoor
open Go.RowKit Go.Proofs Wv Wv.Vi Wv.Bc Wv.Sn
set_option linter.unusedVariables false
set_option maxRecDepth 100000 in
set_option maxHeartbeats 1000000 in
theorem cd1_any (v : List UInt8) (hv : isV v = true) (w : World) :
  Calls Tryz.prog 40 #[.string (bs v)] w fun x w' => x = .returned (.string (bs (Bit.pack (lowB v) ++ Bit.pack (higB v)))) ∧ Below w.heap.size w w' := by
 have hl := (isV_iff.1 hv).2.2
 have Hp := hide (planes_any v (by omega) w)
 rw [if_pos hv, if_pos hv] at Hp
 have H0 := hide (fun W => spack_any (lowB v) (by unfold lowB; rw [List.length_map]; omega) W)
 have H1 := hide (fun W => spack_any (higB v) (by unfold higB; rw [List.length_map]; omega) W)
 rw [← bs_append]
 have hPQ : (bs (Bit.pack (lowB v))).size + (bs (Bit.pack (higB v))).size ≤ 9223372036854775807 := by
  rw [bs_size, bs_size, Bit.pack_length, Bit.pack_length]
  unfold lowB higB
  rw [List.length_map, List.length_map]
  omega
 clear hl hv
 generalize bs ((lowB v).map chB) = A at *
 generalize bs ((higB v).map chB) = B at *
 generalize bs (Bit.pack (lowB v)) = P at *
 generalize bs (Bit.pack (higB v)) = Q at *
 generalize bs v = S at *
 go_enter Tryz.func40, Tryz.ntmps40
 go_wp2_with fail
 refine (Hp.out).mono ?_
 rintro x w1 ⟨rfl, hb1⟩
 go_wp2_with fail
 refine (H0.out _).mono ?_
 rintro x w2 ⟨rfl, hb2⟩
 have Hb2 := hide (hb1.trans (hb2.mono hb1.size))
 clear hb1 hb2
 go_wp2_with fail
 refine (H1.out _).mono ?_
 rintro x w3 ⟨rfl, hb3⟩
 have Hb3 := hide (Hb2.out.trans (hb3.mono Hb2.out.size))
 clear hb3
 go_wp2
 (with_reducible show bodyPost _ _ _ _ _ _)
 refine bodyPost_ret (v := .string (P ++ Q)) (by simp [results, Tryz.results40, go_sem]; try rfl) rfl ?_
 exact ⟨rfl, Hb3.out⟩
theorem cd3_any (s : ByteArray) (w : World) : Calls Tryz.prog 47 #[.string s] w fun x w' => x = .returned (.string ⟨#[]⟩) ∧ w = w' := by
 go_enter Tryz.func47, Tryz.ntmps47
 go_wp2
 (first | go_returns | go_ret)
 exact ⟨rfl, rfl⟩
theorem cd4_any (b : Nat) (w : World) : Calls Tryz.prog 48 #[.pointer (some ⟨b, 0, none⟩)] w fun x w' => x = .returned (.string ⟨#[]⟩) ∧ w = w' := by
 go_enter Tryz.func48, Tryz.ntmps48
 go_wp2
 (with_reducible show bodyPost _ _ _ _ _ _)
 refine bodyPost_ret (v := .string ⟨#[]⟩) (by simp [results, Tryz.results48, go_sem]; try rfl) rfl ?_
 exact ⟨rfl, rfl⟩
theorem cd5_any {w : World} {b e : Nat} {s : ByteArray} (h : RV w b s e) (hm : s.size ≤ 1099511627776) :
  Calls Tryz.prog 49 #[.pointer (some ⟨b, 0, none⟩)] w fun x w' => x = .returned (.string (textR s e 4096).1) ∧ RV w' b (textR s e 4096).2.1 (textR s e 4096).2.2 ∧ Fr (only b) w w' := by
 have H := hide (vtext_any h hm 4096)
 clear h hm
 generalize textR s e 4096 = R at *
 obtain ⟨r1, r2, r3⟩ := R
 go_enter Tryz.func49, Tryz.ntmps49
 go_wp2_with fail
 refine (H.out).mono ?_
 rintro x w1 ⟨rfl, hr, hf⟩
 have Hr := hide hr
 have Hf := hide hf
 clear hr hf
 go_wp2
 (first | go_returns | go_ret)
 exact ⟨rfl, Hr.out, Hf.out⟩
theorem takeR_len (s : ByteArray) (e Z : Nat) : (takeR s e (Z : Nat)).1.size ≤ Z ∧ (takeR s e (Z : Nat)).2.1.size ≤ s.size := by
 unfold takeR
 split
 ·rw [if_neg (by omega)]
  split
  ·exact ⟨Nat.zero_le _, Nat.le_refl _⟩
  ·constructor
   ·show (bs _).size ≤ _
    rw [bs_size, List.length_take]
    have : ((Z : Nat) : Int).toNat = Z := by omega
    omega
   ·show (bs _).size ≤ _
    rw [bs_size, List.length_drop, toL_length]
    omega
 ·exact ⟨Nat.zero_le _, Nat.le_refl _⟩
set_option maxRecDepth 100000 in
set_option maxHeartbeats 4000000 in
theorem cd2_any (n : Nat) (h1 : 1 ≤ n) (h2 : n ≤ 128) {w : World} {b b1 b3 e : Nat} {s : ByteArray} (hr : RV w b s e) (hm : s.size ≤ 1099511627776)
  (k1 : Bk w b1 44 #[.int .i64 0, .int .i64 (n : Int)]) (k3 : Bk w b3 3 #[.int .i64 (((n + 7) / 8 : Nat) : Int)]) :
  Calls Tryz.prog 43 #[.pointer (some ⟨b, 0, none⟩), .pointer (some ⟨b3, 0, none⟩), .pointer (some ⟨b1, 0, none⟩)] w fun x w' =>
   x = .returned (.string (bs (bitsT (toL (takeR s e ((n + 7) / 8 : Nat)).1) (toL (takeR (takeR s e ((n + 7) / 8 : Nat)).2.1 (takeR s e ((n + 7) / 8 : Nat)).2.2 ((n + 7) / 8 : Nat)).1) n))) ∧
   RV w' b (takeR (takeR s e ((n + 7) / 8 : Nat)).2.1 (takeR s e ((n + 7) / 8 : Nat)).2.2 ((n + 7) / 8 : Nat)).2.1 (takeR (takeR s e ((n + 7) / 8 : Nat)).2.1 (takeR s e ((n + 7) / 8 : Nat)).2.2 ((n + 7) / 8 : Nat)).2.2 ∧ Fr (only b) w w' := by
 obtain ⟨Z, hZ⟩ : ∃ Z, (n + 7) / 8 = Z := ⟨_, rfl⟩
 rw [hZ] at k3 ⊢
 have n1 : b ≠ b1 := Bk.apart hr k1 (by decide)
 have n3 : b ≠ b3 := Bk.apart hr k3 (by decide)
 have hZl : Z ≤ 16 := by omega
 obtain ⟨l1, l2⟩ := takeR_len s e Z
 have HT1 := hide (fun W (h : RV W b s e) => vtake_any h hm (Z : Int))
 obtain ⟨⟨a1, s1, e1⟩, hR1⟩ : ∃ x, takeR s e (Z : Nat) = x := ⟨_, rfl⟩
 rw [hR1] at HT1 l1 l2 ⊢
 simp only at HT1 l1 l2 ⊢
 have hm1 : s1.size ≤ 1099511627776 := by omega
 obtain ⟨l3, l4⟩ := takeR_len s1 e1 Z
 have HT2 := hide (fun W (h : RV W b s1 e1) => vtake_any h hm1 (Z : Int))
 obtain ⟨⟨a2, s2, e2⟩, hR2⟩ : ∃ x, takeR s1 e1 (Z : Nat) = x := ⟨_, rfl⟩
 rw [hR2] at HT2 l3 l4 ⊢
 simp only at HT2 l3 l4 ⊢
 have HU1 := hide (fun W => sunpack_any (toL a1) n (by rw [toL_length]; omega) (by omega) W)
 have HU2 := hide (fun W => sunpack_any (toL a2) n (by rw [toL_length]; omega) (by omega) W)
 rw [bs_toL] at HU1 HU2
 have u1 := upV_len (toL a1) n
 have u2 := upV_len (toL a2) n
 have HF := hide (fun W => fromp_any (upV (toL a1) n).1 (upV (toL a2) n).1 (by omega) (by omega) W)
 unfold bitsT
 obtain ⟨⟨A1, o1⟩, hA⟩ : ∃ x, upV (toL a1) n = x := ⟨_, rfl⟩
 obtain ⟨⟨A2, o2⟩, hB⟩ : ∃ x, upV (toL a2) n = x := ⟨_, rfl⟩
 rw [hA, hB]
 rw [hA] at HU1 HF
 rw [hB] at HU2 HF
 simp only at HU1 HU2 HF ⊢
 obtain ⟨⟨V, er⟩, hV⟩ : ∃ x, fromP A1 A2 = x := ⟨_, rfl⟩
 rw [hV] at HF ⊢
 simp only at HF ⊢
 generalize bs (A1.map chB) = T1 at *
 generalize bs (A2.map chB) = T2 at *
 have HK1 : Hid (Bk w b1 44 #[.int .i64 0, .int .i64 (n : Int)] ∧ Bk w b3 3 #[.int .i64 (Z : Int)] ∧ RV w b s e) := hide ⟨k1, k3, hr⟩
 have HS : Hid (∀ W W' s e, Bk W b1 44 #[.int .i64 0, .int .i64 (n : Int)] ∧ Bk W b3 3 #[.int .i64 (Z : Int)] → Fr (only b) W W' → RV W' b s e → (Bk W' b1 44 #[.int .i64 0, .int .i64 (n : Int)] ∧ Bk W' b3 3 #[.int .i64 (Z : Int)] ∧ RV W' b s e)) := hide (fun W W' s e h hf hr => ⟨Bk.fr h.1 hf (fun h => n1 h.symm), Bk.fr h.2 hf (fun h => n3 h.symm), hr⟩)
 have HB : Hid (∀ W W' s e, (Bk W b1 44 #[.int .i64 0, .int .i64 (n : Int)] ∧ Bk W b3 3 #[.int .i64 (Z : Int)] ∧ RV W b s e) → Below W.heap.size W W' → (Bk W' b1 44 #[.int .i64 0, .int .i64 (n : Int)] ∧ Bk W' b3 3 #[.int .i64 (Z : Int)] ∧ RV W' b s e)) := hide (fun W W' s e h hb => ⟨Bk.below h.1 hb h.1.lt, Bk.below h.2.1 hb h.2.1.lt, Bk.below h.2.2 hb (Bk.lt h.2.2)⟩)
 have HC : Hid (∀ W s e, (Bk W b1 44 #[.int .i64 0, .int .i64 (n : Int)] ∧ Bk W b3 3 #[.int .i64 (Z : Int)] ∧ RV W b s e) → (W.cell? ⟨b3, 0, none⟩ = some (.int .i64 (Z : Int)) ∧ W.cell? ⟨b1, 1, none⟩ = some (.int .i64 (n : Int)))) := hide (fun W s e h => ⟨h.2.1.cell 0, h.1.cell 1⟩)
 have Hf0 : Hid (Fr (only b) w w) := hide (Fr.refl _ _)
 have hc0 : w.drew.cell? ⟨b3, 0, none⟩ = some (.int .i64 (Z : Int)) ∧ w.drew.cell? ⟨b1, 1, none⟩ = some (.int .i64 (n : Int)) := HC.out w.drew s e HK1.out
 have HK1d : Hid (Bk w.drew b1 44 #[.int .i64 0, .int .i64 (n : Int)] ∧ Bk w.drew b3 3 #[.int .i64 (Z : Int)] ∧ RV w.drew b s e) := hide HK1.out
 clear hr k1 k3 hm hm1 hZ h1 h2 u1 u2 l1 l2 l3 l4 hR1 hR2 hA hB hV hZl n1 n3 HK1
 go_enter Tryz.func43, Tryz.ntmps43
 go_wp2
 go_region_held3 (fun W => W.cell? ⟨b3, 0, none⟩ = some (.int .i64 (Z : Int)) ∧ W.cell? ⟨b1, 1, none⟩ = some (.int .i64 (n : Int))) (first | with_reducible assumption) (first
  | (go_at_call 45; with_reducible refine (HT1.out _ HK1d.out.2.2).mono ?_; rintro r w1 ⟨rfl, hr1, hf1⟩; have hk1 := HS.out _ _ _ _ ⟨HK1d.out.1, HK1d.out.2.1⟩ hf1 hr1; have hc1 := HC.out _ _ _ hk1; have HK2 := hide hk1; have Hf1 := hide hf1; clear hr1 hf1 hk1)
  | (go_at_call 44; with_reducible refine (HU1.out _).mono ?_; rintro r w2 ⟨rfl, hb2⟩; have hk2 := HB.out _ _ _ _ HK2.out hb2; have hc2 := HC.out _ _ _ hk2; have HK3 := hide hk2; have Hf2 := hide (Hf1.out.below hb2); clear hb2 hk2))
 clear hc0 hc1 Hf0 HK1d HK2 Hf1 HT1 HU1
 have HK3d : Hid (Bk w2.drew b1 44 #[.int .i64 0, .int .i64 (n : Int)] ∧ Bk w2.drew b3 3 #[.int .i64 (Z : Int)] ∧ RV w2.drew b s1 e1) := hide HK3.out
 have hc2d : w2.drew.cell? ⟨b3, 0, none⟩ = some (.int .i64 (Z : Int)) ∧ w2.drew.cell? ⟨b1, 1, none⟩ = some (.int .i64 (n : Int)) := hc2
 have Hf2d := hide (Hf2.out.drew)
 clear hc2 HK3 Hf2
 go_wp2
 go_region_held3 (fun W => W.cell? ⟨b3, 0, none⟩ = some (.int .i64 (Z : Int)) ∧ W.cell? ⟨b1, 1, none⟩ = some (.int .i64 (n : Int))) (first | with_reducible assumption) (first
  | (go_at_call 45; with_reducible refine (HT2.out _ HK3d.out.2.2).mono ?_; rintro r w3 ⟨rfl, hr3, hf3⟩; have hk3 := HS.out _ _ _ _ ⟨HK3d.out.1, HK3d.out.2.1⟩ hf3 hr3; have hc3 := HC.out _ _ _ hk3; have HK4 := hide hk3; have Hf3 := hide (Hf2d.out.trans hf3); clear hr3 hf3 hk3)
  | (go_at_call 44; with_reducible refine (HU2.out _).mono ?_; rintro r w4 ⟨rfl, hb4⟩; have hk4 := HB.out _ _ _ _ HK4.out hb4; have hc4 := HC.out _ _ _ hk4; have HK5 := hide hk4; have Hf4 := hide (Hf3.out.below hb4); clear hb4 hk4))
 clear hc2d hc3 HK3d HK4 Hf3 HT2 HU2 HS Hf2d
 go_wp2_with fail
 refine (HF.out _).mono ?_
 rintro r w5 ⟨rfl, hb5⟩
 have HK6 := hide (HB.out _ _ _ _ HK5.out hb5).2.2
 have Hf5 := hide (Hf4.out.below hb5)
 clear hb5 hc4 HK5 Hf4 HB HC HF
 by_cases h0 : er = 0
 ·have e0 : ((er : Int) != 0) = false := by rw [h0]; rfl
  have H0 := hide h0
  clear h0
  cases o1 <;> cases o2
  case true.true =>
   go_wp2
   all_goals
    (with_reducible show bodyPost _ _ _ _ _ _)
    refine bodyPost_ret (v := .string (bs V)) (by simp [results, Tryz.results43, go_sem]; try rfl) rfl ?_
    exact ⟨by first | rfl | rw [if_neg (by simp [H0.out])], HK6.out, (Fr.refl (only b) w).drew.trans Hf5.out⟩
  all_goals
   go_wp2
   (first | go_returns | go_ret)
   exact ⟨by simp [bs], HK6.out, (Fr.refl (only b) w).drew.trans Hf5.out⟩
 ·have e0 : ((er : Int) != 0) = true := by rw [bne_iff_ne]; omega
  cases o1 <;> cases o2
  all_goals
   go_wp2
   (first | go_returns | go_ret)
   exact ⟨by simp [h0, bs], HK6.out, (Fr.refl (only b) w).drew.trans Hf5.out⟩
end Go.Proofs.YtjfcemlbbinanaaGreatDoor
/-
  The walks over snapshots: the codec of a type.
-/
namespace Go.Proofs.YtjfcemlbbinanaaGreatDoor
open Go.RowKit Go.Proofs Wv Wv.Vi Wv.Bc Wv.Sn
set_option linter.unusedVariables false
theorem al_size (w : World) (o : Obj) : (w.alloc o).heap.size = w.heap.size + 1 := by simp
theorem three_new (w : World) (t1 t2 t3 : TypeId) (c1 c2 c3 : Array Value) :
  Bk (((w.alloc (.cells c1 t1)).alloc (.cells c2 t2)).alloc (.cells c3 t3)) w.heap.size t1 c1 ∧ Bk (((w.alloc (.cells c1 t1)).alloc (.cells c2 t2)).alloc (.cells c3 t3)) (w.heap.size + 1) t2 c2 ∧ Bk (((w.alloc (.cells c1 t1)).alloc (.cells c2 t2)).alloc (.cells c3 t3)) (w.heap.size + 1 + 1) t3 c3 ∧
  Below w.heap.size w (((w.alloc (.cells c1 t1)).alloc (.cells c2 t2)).alloc (.cells c3 t3)) := by
 have h1 := ((Bk.new w t1 c1).alloc (.cells c2 t2)).alloc (.cells c3 t3)
 have h2 := (Bk.new (w.alloc (.cells c1 t1)) t2 c2).alloc (.cells c3 t3)
 have h3 := Bk.new ((w.alloc (.cells c1 t1)).alloc (.cells c2 t2)) t3 c3
 rw [al_size] at h2
 rw [al_size, al_size] at h3
 exact ⟨h1, h2, h3, (((Below.refl _ _).alloc (Nat.le_refl _) _).alloc (by simp) _).alloc (by simp; omega) _⟩
theorem two_new (w : World) (t1 t2 : TypeId) (c1 c2 : Array Value) :
  Bk ((w.alloc (.cells c1 t1)).alloc (.cells c2 t2)) w.heap.size t1 c1 ∧ Bk ((w.alloc (.cells c1 t1)).alloc (.cells c2 t2)) (w.heap.size + 1) t2 c2 ∧
  Below w.heap.size w ((w.alloc (.cells c1 t1)).alloc (.cells c2 t2)) := by
 have h1 := (Bk.new w t1 c1).alloc (.cells c2 t2)
 have h2 := Bk.new (w.alloc (.cells c1 t1)) t2 c2
 rw [al_size] at h2
 exact ⟨h1, h2, ((Below.refl _ _).alloc (Nat.le_refl _) _).alloc (by simp) _⟩
set_option maxRecDepth 100000 in
set_option maxHeartbeats 1000000 in
theorem codec0_any (n : Nat) (h2 : n ≤ 128) (w : World) :
  Calls Tryz.prog 28 #[.agg #[.int .i64 0, .int .i64 (n : Int)]] w fun x w' => ∃ b1 b3, x = .returned (.agg #[.func (.func 40) #[] #[], .func (.func 43) #[] #[.pointer (some ⟨b3, 0, none⟩), .pointer (some ⟨b1, 0, none⟩)]]) ∧
   Bk w' b1 44 #[.int .i64 0, .int .i64 (n : Int)] ∧ Bk w' b3 3 #[.int .i64 (((n + 7) / 8 : Nat) : Int)] ∧ Below w.heap.size w w' := by
 obtain ⟨k1, k2, k3, hb⟩ := three_new w 44 55 3 #[.int .i64 0, .int .i64 (n : Int)] #[.nilFunc, .nilFunc] #[.int .i64 (((n : Int) + 7) / 8)]
 have c0 := k2.cell 0
 have c1 := k2.cell 1
 have f0 := k2.frozen 0
 have f1 := k2.frozen 1
 simp at c0 c1
 obtain ⟨W, hW⟩ : ∃ W, (((w.alloc (.cells #[.int .i64 0, .int .i64 (n : Int)] 44)).alloc (.cells #[.nilFunc, .nilFunc] 55)).alloc (.cells #[.int .i64 (((n : Int) + 7) / 8)] 3)) = W := ⟨_, rfl⟩
 rw [hW] at k1 k2 k3 hb c0 c1 f0 f1
 have hp := (k2.put 0 (.func (.func 40) #[] #[])).put 1 (.func (.func 43) #[] #[.pointer (some ⟨w.heap.size + 1 + 1, 0, none⟩), .pointer (some ⟨w.heap.size, 0, none⟩)])
 have z0 := hp.cell 0
 have z1 := hp.cell 1
 simp at z0 z1
 have K1 := hide ((k1.off (p := ⟨w.heap.size + 1, 0, none⟩) (by simp) (.func (.func 40) #[] #[])).off (p := ⟨w.heap.size + 1, 1, none⟩) (by simp) (.func (.func 43) #[] #[.pointer (some ⟨w.heap.size + 1 + 1, 0, none⟩), .pointer (some ⟨w.heap.size, 0, none⟩)]))
 have K3 := hide ((k3.off (p := ⟨w.heap.size + 1, 0, none⟩) (by simp) (.func (.func 40) #[] #[])).off (p := ⟨w.heap.size + 1, 1, none⟩) (by simp) (.func (.func 43) #[] #[.pointer (some ⟨w.heap.size + 1 + 1, 0, none⟩), .pointer (some ⟨w.heap.size, 0, none⟩)]))
 have HB := hide ((hb.setCell (p := ⟨w.heap.size + 1, 0, none⟩) (by simp) (.func (.func 40) #[] #[])).setCell (p := ⟨w.heap.size + 1, 1, none⟩) (by simp) (.func (.func 43) #[] #[.pointer (some ⟨w.heap.size + 1 + 1, 0, none⟩), .pointer (some ⟨w.heap.size, 0, none⟩)]))
 have e3 : (((n + 7) / 8 : Nat) : Int) = ((n : Int) + 7) / 8 := by omega
 rw [e3]
 clear hp k1 k2 k3 hb e3
 go_enter Tryz.func28, Tryz.ntmps28
 go_wp2_with ((with_reducible show bodyPost _ _ _ _ _ _); refine bodyPost_ret (v := .agg #[.func (.func 40) #[] #[], .func (.func 43) #[] #[.pointer (some ⟨w.heap.size + 1 + 1, 0, none⟩), .pointer (some ⟨w.heap.size, 0, none⟩)]]) (by simp [results, Tryz.results28, go_sem, z0, z1]; try rfl) rfl ?_; exact ⟨_, _, rfl, K1.out, K3.out, HB.out⟩)
set_option maxRecDepth 100000 in
set_option maxHeartbeats 1000000 in
theorem codec3_any (n : Int) (w : World) :
  Calls Tryz.prog 28 #[.agg #[.int .i64 3, .int .i64 n]] w fun x w' => x = .returned (.agg #[(.func (.func 47) #[] #[]), (.func (.func 48) #[] #[])]) ∧ Below w.heap.size w w' := by
 obtain ⟨k1, k2, hb⟩ := two_new w 44 55 #[.int .i64 3, .int .i64 n] #[(.func (.func 47) #[] #[]), (.func (.func 48) #[] #[])]
 have z0 := k2.cell 0
 have z1 := k2.cell 1
 simp at z0 z1
 have HB := hide hb
 clear k1 k2 hb
 go_enter Tryz.func28, Tryz.ntmps28
 go_wp2_with ((with_reducible show bodyPost _ _ _ _ _ _); refine bodyPost_ret (v := .agg #[(.func (.func 47) #[] #[]), (.func (.func 48) #[] #[])]) (by simp [results, Tryz.results28, go_sem, z0, z1]; try rfl) rfl ?_; exact ⟨rfl, HB.out⟩)
set_option maxRecDepth 100000 in
set_option maxHeartbeats 1000000 in
theorem codec1_any (n : Int) (w : World) :
  Calls Tryz.prog 28 #[.agg #[.int .i64 1, .int .i64 n]] w fun x w' => x = .returned (.agg #[(.func (.func 25) #[] #[]), (.func (.func 49) #[] #[])]) ∧ Below w.heap.size w w' := by
 obtain ⟨k1, k2, hb⟩ := two_new w 44 55 #[.int .i64 1, .int .i64 n] #[(.func (.func 25) #[] #[]), (.func (.func 49) #[] #[])]
 have z0 := k2.cell 0
 have z1 := k2.cell 1
 simp at z0 z1
 have HB := hide hb
 clear k1 k2 hb
 go_enter Tryz.func28, Tryz.ntmps28
 go_wp2_with ((with_reducible show bodyPost _ _ _ _ _ _); refine bodyPost_ret (v := .agg #[(.func (.func 25) #[] #[]), (.func (.func 49) #[] #[])]) (by simp [results, Tryz.results28, go_sem, z0, z1]; try rfl) rfl ?_; exact ⟨rfl, HB.out⟩)
set_option maxRecDepth 100000 in
set_option maxHeartbeats 1000000 in
theorem codec2_any (n : Int) (w : World) :
  Calls Tryz.prog 28 #[.agg #[.int .i64 2, .int .i64 n]] w fun x w' => x = .returned (.agg #[(.func (.func 25) #[] #[]), (.func (.func 49) #[] #[])]) ∧ Below w.heap.size w w' := by
 obtain ⟨k1, k2, hb⟩ := two_new w 44 55 #[.int .i64 2, .int .i64 n] #[(.func (.func 25) #[] #[]), (.func (.func 49) #[] #[])]
 have z0 := k2.cell 0
 have z1 := k2.cell 1
 simp at z0 z1
 have HB := hide hb
 clear k1 k2 hb
 go_enter Tryz.func28, Tryz.ntmps28
 go_wp2_with ((with_reducible show bodyPost _ _ _ _ _ _); refine bodyPost_ret (v := .agg #[(.func (.func 25) #[] #[]), (.func (.func 49) #[] #[])]) (by simp [results, Tryz.results28, go_sem, z0, z1]; try rfl) rfl ?_; exact ⟨rfl, HB.out⟩)
end Go.Proofs.YtjfcemlbbinanaaGreatDoor
/-
  The walks over decimal numbers: the number of a canonical text; whether a text is one; its canonical text.
-/
namespace Go.Proofs.YtjfcemlbbinanaaGreatDoor
open Go.RowKit Go.Proofs Wv Wv.Dc
set_option linter.unusedVariables false

theorem seq_eq {a b : ByteArray} : (a.toList == b.toList) = decide (a = b) := by
 rw [Bool.eq_iff_iff, beq_iff_eq, decide_eq_true_iff, ByteArray.toList_eq, ByteArray.toList_eq]
 constructor
 ·intro h
  apply ByteArray.ext
  apply Array.toList_inj.1
  exact h
 ·intro h; rw [h]
theorem canN_def (s : List UInt8) : canN s = match (scn cl1 s).map trimN with
  | none => none
  | some n => if ctext n = (s, 0) then some n else none := by
 unfold canN
 match scn cl1 s with
 | none => rfl
 | some m => rfl
set_option maxRecDepth 100000 in
set_option maxHeartbeats 2000000 in
theorem pcanon_any (s : ByteArray) {w : World} (ht : Tab w) :
  Calls Tryz.prog 113 #[.string s] w fun x w' => PRes w w' (canN (toL s)) x := by
 have Hs := hide (fun W => pscan_any s W)
 have Ht := hide ht
 have hd := canN_def (toL s)
 obtain ⟨R, hR⟩ : ∃ R, canN (toL s) = R := ⟨_, rfl⟩
 rw [hR] at hd ⊢
 have hb0 := (Below.refl w.heap.size w).alloc (Nat.le_refl _) (.cells #[.bool false, .slice none 0 0, .int .i64 0] 148)
 have hk0 := Bk.new w 148 #[.bool false, .slice none 0 0, .int .i64 0]
 have Hb0 := hide hb0
 have Hk0 := hide hk0
 clear ht hR hb0 hk0
 cases ho : (scn cl1 (toL s)).map trimN with
 | none =>
  rw [ho] at Hs hd
  simp only at hd
  subst hd
  clear ho
  go_enter Tryz.func113, Tryz.ntmps113
  go_wp2_with fail
  refine ((Hs.out _).mono ?_)
  rintro x w1 ⟨v, b, rfl, hb, ⟨b0, A0, l0, k0, e0, rfl⟩, rfl⟩
  have hk1 := Hk0.out.below hb Hk0.out.lt
  have r0 := hk1.cell 0
  have r1 := hk1.cell 1
  have r2 := hk1.cell 2
  have g0 := hk1.frozen 0
  have g1 := hk1.frozen 1
  have g2 := hk1.frozen 2
  have hlt := hk1.lt
  simp at r0 r1 r2
  have Hb1 := hide (Hb0.out.trans (hb.mono Hb0.out.size))
  obtain ⟨WF, hWF, u0, u1, u2, hatF, hbF⟩ := nres_end hk1 Hb1.out (Nat.le_refl _) (L := []) (At.nil _ none) false (.slice none 0 0) 0
  have HWF := hide hWF
  have hal := (Below.refl WF.heap.size WF).alloc (Nat.le_refl _) (.cells #[.bool b0, .slice A0 l0 k0, .int .i64 e0] 148)
  have v0 := keep_cell u0 hal
  have v1 := keep_cell u1 hal
  have v2 := keep_cell u2 hal
  have HbF := hide (hbF.trans (hal.mono hbF.size))
  obtain ⟨WG, hWG⟩ : ∃ WG, WF.alloc (.cells #[.bool b0, .slice A0 l0 k0, .int .i64 e0] 148) = WG := ⟨_, rfl⟩
  rw [hWG] at v0 v1 v2 HbF
  have HWG := hide hWG
  clear hb hk1 hWF hatF hbF hal u0 u1 u2 hWG
  go_wp2
  rw [HWF.out, HWG.out]
  refine bodyPost_ret (by simp [results, Tryz.results113, go_sem, v0, v1, v2]; try rfl) rfl ?_
  exact ⟨_, _, rfl, HbF.out, ⟨_, _, _, _, _, rfl⟩, rfl⟩
 | some n =>
  rw [ho] at Hs hd
  simp only at hd
  clear ho
  go_enter Tryz.func113, Tryz.ntmps113
  go_wp2_with fail
  refine ((Hs.out _).mono ?_)
  rintro x w1 ⟨v, b, rfl, hb, _, rfl, hn, hz⟩
  have hk1 := Hk0.out.below hb Hk0.out.lt
  have hb1 := Hb0.out.trans (hb.mono Hb0.out.size)
  obtain ⟨A, cap, rfl, hat, hc1, hc2⟩ := hn
  obtain ⟨bn, dn, en⟩ := n
  simp only at hat hc1 hc2
  have hW2 := hb1.alloc hb1.size (.cells #[.bool bn, .slice A dn.length cap, .int .i64 en] 148)
  have hnv : NV (w1.alloc (.cells #[.bool bn, .slice A dn.length cap, .int .i64 en] 148)) (.agg #[.bool bn, .slice A dn.length cap, .int .i64 en]) ⟨bn, dn, en⟩ := ⟨A, cap, rfl, hat.alloc _, hc1, hc2⟩
  have Htx := hide (ptext_any hnv hz (Ht.out.below hW2))
  have hk2 := hk1.alloc (.cells #[.bool bn, .slice A dn.length cap, .int .i64 en] 148)
  have hx2 := Bk.new w1 148 #[.bool bn, .slice A dn.length cap, .int .i64 en]
  have hlt := hk1.lt
  have Hk2 := hide hk2
  have Hx2 := hide hx2
  have HW2 := hide hW2
  have Hat := hide hat
  have Hc1 := hide hc1
  have Hc2 := hide hc2
  have Hz := hide hz
  have Hd := hide hd
  clear hb hk1 hb1 hat hc1 hc2 hW2 hnv hk2 hx2 hz hd
  go_wp2_with fail
  refine (Htx.out).mono ?_
  rintro x w3 ⟨rfl, hb3⟩
  have hk3 := Hk2.out.below hb3 Hk2.out.lt
  have hx3 := Hx2.out.below hb3 Hx2.out.lt
  have hb4 := HW2.out.trans (hb3.mono HW2.out.size)
  have n0 := hx3.cell 0
  have n1 := hx3.cell 1
  have n2 := hx3.cell 2
  have r0 := hk3.cell 0
  have r1 := hk3.cell 1
  have r2 := hk3.cell 2
  have g0 := hk3.frozen 0
  have g1 := hk3.frozen 1
  have g2 := hk3.frozen 2
  simp at n0 n1 n2 r0 r1 r2
  have hat3 := (Hat.out.alloc (.cells #[.bool bn, .slice A dn.length cap, .int .i64 en] 148)).below hb3
  obtain ⟨WF, hWF, u0, u1, u2, hatF, hbF⟩ := nres_end hk3 hb4 (Nat.le_refl _) hat3 bn (.slice A dn.length cap) en
  have HWF := hide hWF
  have HatF := hide hatF
  have HbF := hide hbF
  obtain ⟨T, e, hT⟩ : ∃ T e, ctext ⟨bn, dn, en⟩ = (T, e) := ⟨_, _, rfl⟩
  have hd := Hd.out
  rw [hT] at hd
  rw [hT]
  have Hseq := hide (@seq_eq (bs T) s)
  clear hb3 hk3 hx3 hb4 hWF hatF hbF hat3 Hd Htx Hat Hk2 Hx2 HW2 Hs hT
  have hbe : Hid (PRes w WF R (.returned (.tuple #[.agg #[.bool bn, .slice A dn.length cap, .int .i64 en], .bool (decide ((T, e) = (toL s, 0)))]))) := hide (by
   refine ⟨_, _, rfl, HbF.out, ⟨_, _, _, _, _, rfl⟩, ?_⟩
   by_cases hq : (T, e) = (toL s, 0)
   ·rw [hd, if_pos hq]
    exact ⟨by simpa using hq, ⟨A, cap, rfl, HatF.out, Hc1.out, Hc2.out⟩, Hz.out⟩
   ·rw [hd, if_neg hq]
    simpa using hq)
  by_cases he : e = 0
  ·subst he
   clear hd
   go_wp2
   rw [HWF.out]
   refine bodyPost_ret (by simp [results, Tryz.results113, go_sem, u0, u1, u2]; try rfl) rfl ?_
   have hq : ((bs T).toList == s.toList) = decide ((T, 0) = (toL s, 0)) := by
    rw [Hseq.out, Bool.eq_iff_iff, decide_eq_true_iff, decide_eq_true_iff, Prod.mk.injEq]
    constructor
    ·intro h; exact ⟨by rw [← h]; rfl, rfl⟩
    ·intro h; rw [h.1]; rfl
   rw [hq]
   exact hbe.out
  ·have hne : ((e : Int) == 0) = false := by rw [beq_eq_false_iff_ne]; omega
   have hq2 : decide ((T, e) = (toL s, 0)) = false := by
    rw [decide_eq_false_iff_not, Prod.mk.injEq]
    exact fun h => he h.2
   rw [hq2] at hbe
   clear hd hq2
   go_wp2
   rw [HWF.out]
   refine bodyPost_ret (by simp [results, Tryz.results113, go_sem, u0, u1, u2]; try rfl) rfl ?_
   exact hbe.out
end Go.Proofs.YtjfcemlbbinanaaGreatDoor
/-
  The walks over decimal numbers: whether a text is canonical, its canonical text, its sign, the negative number, comparing.
-/
namespace Go.Proofs.YtjfcemlbbinanaaGreatDoor
open Go.RowKit Go.Proofs Wv Wv.Dc
set_option linter.unusedVariables false

def CRes (w w' : World) (o : Option Num) (x : Ending) : Prop := ∃ b0 A l c e, x = .returned (.tuple #[.agg #[.bool b0, .slice A l c, .int .i64 e], .bool o.isSome]) ∧ Below w.heap.size w w' ∧ ∀ n, o = some n → NV w' (.agg #[.bool b0, .slice A l c, .int .i64 e]) n
theorem cres {w w' : World} {o : Option Num} {x : Ending} (h : PRes w w' o x) : CRes w w' o x := by
 obtain ⟨v, b, rfl, hb, ⟨b0, A, l, c, e, rfl⟩, hm⟩ := h
 match o, hm with
 | none, hm => subst hm; exact ⟨b0, A, l, c, e, rfl, hb, fun n h => by cases h⟩
 | some m, hm =>
  obtain ⟨rfl, h2, h3⟩ := hm
  exact ⟨b0, A, l, c, e, rfl, hb, fun n h => by injection h with h; subst h; exact h2⟩
theorem pcan (s : ByteArray) {w : World} (ht : Tab w) : Calls Tryz.prog 113 #[.string s] w fun x w' => CRes w w' (canN (toL s)) x := (pcanon_any s ht).mono fun x w' h => cres h
set_option maxHeartbeats 1000000 in
theorem pvalid_any (s : ByteArray) {w : World} (ht : Tab w) :
  Calls Tryz.prog 83 #[.string s] w fun x w' => x = .returned (.bool (validS (toL s))) ∧ Below w.heap.size w w' := by
 have Hc := hide (pcan s ht)
 have hv : (canN (toL s)).isSome = validS (toL s) := rfl
 clear ht
 generalize canN (toL s) = o at *
 have Hv := hide hv
 clear hv
 go_enter Tryz.func83, Tryz.ntmps83
 go_wp2_with fail
 refine (Hc.out).mono ?_
 rintro x w1 ⟨b0, A, l, c, e, rfl, hb, _⟩
 have Hb := hide (hb.alloc hb.size (.cells #[.bool b0, .slice A l c, .int .i64 e] 148))
 clear hb
 go_wp2
 go_returns
 exact ⟨ret_boolE Hv.out, Hb.out⟩
end Go.Proofs.YtjfcemlbbinanaaGreatDoor
/-
  What a reader gives for the value of a type. No walk stands here.
-/
namespace Wv.Sn
open Go Go.RowKit Wv Wv.Bc Wv.Vi Wv.Ru
theorem bitsT_eq (a b : List UInt8) (n : Nat) (hn : 1 ≤ n) : bitsT a b n = match unp a n, unp b n with
 | some x, some y => valB x y
 | _, _ => [] := by
 have key : ∀ d : List UInt8, (unp d n = none ∧ (upV d n).2 = false) ∨ (∃ x, unp d n = some x ∧ x.length = n ∧ upV d n = (x, true)) := by
  intro d
  by_cases hz : zeroB d n = true
  ·have e1 : upV d n = (Bit.rbits (bs d) (min n (8 * d.length)), decide (n ≤ 8 * d.length)) := by
    unfold upV
    rw [if_neg (by simp [hz])]
   by_cases hl : n ≤ 8 * d.length
   ·right
    refine ⟨Bit.rbits (bs d) n, ?_, by rw [Bit.rbits_length], ?_⟩
    ·unfold unp
     rw [if_pos ⟨hl, hz⟩]
    ·rw [e1, Nat.min_eq_left hl, decide_eq_true hl]
   ·left
    refine ⟨?_, ?_⟩
    ·unfold unp
     rw [if_neg (fun h => hl h.1)]
    ·rw [e1]
     exact decide_eq_false hl
  ·left
   have hz2 : zeroB d n = false := by cases h : zeroB d n with
    | false => rfl
    | true => exact absurd h hz
   refine ⟨?_, ?_⟩
   ·unfold unp
    rw [if_neg (fun h => hz h.2)]
   ·unfold upV
    rw [if_pos hz2]
 unfold bitsT
 rcases key a with ⟨h1, h2⟩ | ⟨x, h1, h2, h3⟩
 ·rw [h1, if_pos (.inl h2)]
 ·rcases key b with ⟨k1, k2⟩ | ⟨y, k1, k2, k3⟩
  ·rw [h1, k1, if_pos (.inr (.inl k2))]
  ·rw [h1, k1, h3, k3]
   have hx : x ≠ [] := by intro h; rw [h] at h2; simp at h2; omega
   have hy : y ≠ [] := by intro h; rw [h] at k2; simp at k2; omega
   have hf : fromP x y = (valB x y, 0) := by
    unfold fromP
    rw [if_neg (fun h => h.elim hx hy), if_neg (by omega)]
   simp only [hf]
   simp
theorem bitsT_len (a b : List UInt8) (n : Nat) : (bitsT a b n).length ≤ n := by
 unfold bitsT
 split
 ·exact Nat.zero_le _
 ·have h1 := upV_len a n
  unfold fromP
  split
  ·exact Nat.zero_le _
  ·split
   ·exact Nat.zero_le _
   ·unfold valB
    rw [List.length_zipWith]
    omega
theorem rdVs_snoc : ∀ (st : List (Int × Int)) (k : Nat) (h : k < st.length) (t : List UInt8), rdVs (st.take (k + 1)) t = match rdVs (st.take k) t with
  | none => none
  | some (vs, r) => match rdV st[k] r with
   | none => none
   | some (v, r') => some (vs ++ [bs v], r')
 | s :: st, 0, _, t => by
  show rdVs (s :: st.take 0) t = _
  rw [List.take_zero]
  show rdVs [s] t = match rdVs [] t with
   | none => none
   | some (vs, r) => match rdV s r with
    | none => none
    | some (v, r') => some (vs ++ [bs v], r')
  unfold rdVs
  simp only
  cases h : rdV s t with
  | none => rfl
  | some p =>
   obtain ⟨v, r'⟩ := p
   simp only [rdVs]
   rfl
 | s :: st, k + 1, h, t => by
  have hk : k < st.length := by simpa using h
  show rdVs (s :: st.take (k + 1)) t = match rdVs (s :: st.take k) t with
   | none => none
   | some (vs, r) => match rdV (st[k]'hk) r with
    | none => none
    | some (v, r') => some (vs ++ [bs v], r')
  unfold rdVs
  cases h1 : rdV s t with
  | none => rfl
  | some p =>
   obtain ⟨v, r1⟩ := p
   simp only
   rw [rdVs_snoc st k hk r1]
   cases h2 : rdVs (st.take k) r1 with
   | none => rfl
   | some q =>
    obtain ⟨vs, r2⟩ := q
    simp only
    cases h3 : rdV (st[k]'hk) r2 with
    | none => rfl
    | some z =>
     obtain ⟨v3, r3⟩ := z
     rfl
end Wv.Sn
namespace Go.Proofs.YtjfcemlbbinanaaGreatDoor
open Go.RowKit Go.Proofs Wv Wv.Vi Wv.Bc Wv.Sn Wv.Dc
set_option linter.unusedVariables false
def RdO (s : Int × Int) (t : ByteArray) (e : Nat) (v t' : ByteArray) (e' : Nat) : Prop :=
 (e ≠ 0 → e' ≠ 0) ∧ (e = 0 → match rdV s (toL t) with
  | none => e' ≠ 0
  | some (x, r) => v = bs x ∧ t' = bs r ∧ e' = 0) ∧ t'.size ≤ t.size ∧ v.size ≤ 128 + t.size
theorem rdO_event {c : Int} (t : ByteArray) (e : Nat) : RdO (3, c) t e ⟨#[]⟩ t e := by
 refine ⟨fun h => h, fun h => ?_, Nat.le_refl _, Nat.zero_le _⟩
 have : rdV (3, c) (toL t) = some ([], toL t) := by unfold rdV; rw [if_neg (by simp), if_pos rfl]
 rw [this]
 exact ⟨rfl, rfl, h⟩
theorem textR_errN {s : ByteArray} {e : Nat} (he : e ≠ 0) : textR s e 4096 = (bs [], s, e) := xtextR_err he 4096
theorem rdO_text {a c : Int} (ha : a = 1 ∨ a = 2) (t : ByteArray) (e : Nat) : RdO (a, c) t e (textR t e 4096).1 (textR t e 4096).2.1 (textR t e 4096).2.2 := by
 have hr : rdV (a, c) (toL t) = Wv.Ru.rtext (toL t) 4096 := by
  unfold rdV
  rw [if_neg (by simp; omega), if_neg (by simp; omega)]
 by_cases he : e = 0
 ·subst he
  cases h : Wv.Ru.rtext (toL t) 4096 with
  | none =>
   obtain ⟨e2, h2, h3⟩ := xtextR_nok (most := 4096) h
   rw [bs_toL] at h3
   have h3' : textR t 0 4096 = (bs [], t, e2) := h3
   rw [h3']
   refine ⟨fun h => absurd rfl h, fun _ => ?_, Nat.le_refl _, Nat.zero_le _⟩
   rw [hr, h]
   exact h2
  | some p =>
   obtain ⟨x, r⟩ := p
   obtain ⟨h3, l1, l2, _⟩ := xtextR_some (most := 4096) h
   rw [bs_toL] at h3
   have h3' : textR t 0 4096 = (bs x, bs r, 0) := h3
   rw [h3']
   rw [toL_length] at l1 l2
   refine ⟨fun h => absurd rfl h, fun _ => ?_, by rw [bs_size]; exact l2, by rw [bs_size]; omega⟩
   rw [hr, h]
   exact ⟨rfl, rfl, rfl⟩
 ·rw [textR_errN he]
  exact ⟨fun h => h, fun h => absurd h he, Nat.le_refl _, Nat.zero_le _⟩
theorem rdO_bits {n : Nat} (h1 : 1 ≤ n) (h2 : n ≤ 128) (t : ByteArray) (e : Nat) : RdO (0, (n : Int)) t e
  (bs (bitsT (toL (takeR t e ((n + 7) / 8 : Nat)).1) (toL (takeR (takeR t e ((n + 7) / 8 : Nat)).2.1 (takeR t e ((n + 7) / 8 : Nat)).2.2 ((n + 7) / 8 : Nat)).1) n))
  (takeR (takeR t e ((n + 7) / 8 : Nat)).2.1 (takeR t e ((n + 7) / 8 : Nat)).2.2 ((n + 7) / 8 : Nat)).2.1 (takeR (takeR t e ((n + 7) / 8 : Nat)).2.1 (takeR t e ((n + 7) / 8 : Nat)).2.2 ((n + 7) / 8 : Nat)).2.2 := by
 obtain ⟨Z, hZ⟩ : ∃ Z, (n + 7) / 8 = Z := ⟨_, rfl⟩
 rw [hZ]
 have hw : wid (0, (n : Int)) = Z := by
  unfold wid
  show ((n : Int).toNat + 7) / 8 = Z
  rw [Int.toNat_natCast]; exact hZ
 have hsz : (bs (bitsT (toL (takeR t e (Z : Nat)).1) (toL (takeR (takeR t e (Z : Nat)).2.1 (takeR t e (Z : Nat)).2.2 (Z : Nat)).1) n)).size ≤ 128 + t.size := by
  rw [bs_size]
  have := bitsT_len (toL (takeR t e (Z : Nat)).1) (toL (takeR (takeR t e (Z : Nat)).2.1 (takeR t e (Z : Nat)).2.2 (Z : Nat)).1) n
  omega
 have hs2 : (takeR (takeR t e (Z : Nat)).2.1 (takeR t e (Z : Nat)).2.2 (Z : Nat)).2.1.size ≤ t.size := by
  have a1 := (takeR_len t e Z).2
  have a2 := (takeR_len (takeR t e (Z : Nat)).2.1 (takeR t e (Z : Nat)).2.2 Z).2
  omega
 refine ⟨fun he => ?_, fun he => ?_, hs2, hsz⟩
 ·rw [xtakeR_err he, xtakeR_err he]; exact he
 ·subst he
  have hbt : t = bs (toL t) := (bs_toL t).symm
  obtain ⟨x, hx⟩ : ∃ x, toL t = x := ⟨_, rfl⟩
  rw [hx] at hbt
  subst hbt
  rw [toL_bs]
  have hrd : rdV (0, (n : Int)) x = if x.length < 2 * Z then none else some (bitV (0, (n : Int)) x, x.drop (2 * Z)) := by
   unfold rdV
   rw [if_pos rfl, hw]
  rw [hrd]
  by_cases hl : x.length < 2 * Z
  ·rw [if_pos hl]
   simp only
   by_cases hl2 : x.length < Z
   ·rw [xtakeR_no hl2, xtakeR_err (by simp)]; simp
   ·rw [xtakeR_some (by omega), xtakeR_no (by rw [List.length_drop]; omega)]; simp
  ·rw [if_neg hl, xtakeR_some (by omega), xtakeR_some (by rw [List.length_drop]; omega)]
   refine ⟨?_, ?_, rfl⟩
   ·rw [toL_bs, toL_bs, bitsT_eq _ _ _ h1]
    unfold bitV
    rw [hw]
    show _ = bs (match unp (x.take Z) (n : Int).toNat, unp ((x.drop Z).take Z) (n : Int).toNat with
     | some a, some b => valB a b
     | _, _ => [])
    rw [Int.toNat_natCast]
   ·show bs ((x.drop Z).drop Z) = bs (x.drop (2 * Z))
    rw [List.drop_drop, show Z + Z = 2 * Z by omega]
end Go.Proofs.YtjfcemlbbinanaaGreatDoor
