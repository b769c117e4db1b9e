/-
  The walks over frames: any bytes are read.
-/
import Derived.Test.YtjfcemlbbinanaaGreatDoorJ41
set_option linter.unusedVariables false
set_option linter.unusedSimpArgs false
namespace Go.Proofs.YtjfcemlbbinanaaGreatDoor
open Go.RowKit Go.Proofs Wv Wv.Vi Wv.Rc Wv.Mo Wv.Ru Wv.Lz Wv.Fm
set_option linter.unusedVariables false
theorem fparse_cons (a b : UInt8) (r : List UInt8) : fparse (a :: b :: r) = if a ≠ 165 ∨ 32 ≤ b.toNat then none else match rtext r 4096 with
  | none => none
  | some (body, r2) => if r2.length < 4 then none else if openB ((a :: b :: r).take ((a :: b :: r).length - (r2.length - 4))) = false then none else
   match conT b.toNat body with
   | none => none
   | some c => if wrapS (b.toNat % 16) c = some ((a :: b :: r).take ((a :: b :: r).length - (r2.length - 4))) then some (b.toNat % 16, c, (a :: b :: r).length - (r2.length - 4)) else none := rfl
theorem parse_any (data : List UInt8) (hd : data.length ≤ 1000000000) (w : World) :
  Calls Tryz.prog 39 #[.string (bs data)] w fun x w' => x = .returned (paV data) ∧ Below w.heap.size w w' := by
 match data, hd with
 | [], hd =>
  rw [paV_no rfl]
  exact parse_head [] hd (.inl (by decide)) w
 | [a], hd =>
  rw [paV_no rfl]
  exact parse_head [a] hd (.inl (by simp)) w
 | a :: b :: r, hd =>
  have hf := fparse_cons a b r
  by_cases h165 : a = 165
  ·by_cases h32 : 32 ≤ b.toNat
   ·rw [if_pos (.inr h32)] at hf
    rw [paV_no hf]
    exact parse_head _ hd (.inr (.inr ⟨by simp, by rw [h165]; rfl, h32⟩)) w
   ·rw [if_neg (by rintro (h | h); exact h h165; exact h32 h)] at hf
    have hS : (bs (a :: b :: r)).size ≤ 1000000000 := by rw [bs_size]; exact hd
    have hS2 : 2 ≤ (bs (a :: b :: r)).size := by rw [bs_size]; simp
    have hg0 : ∀ h : 0 < (bs (a :: b :: r)).size, ((bs (a :: b :: r))[0]'h).toNat = 165 := fun h => by rw [bs_getN _ 0 (by simp) h, h165]; rfl
    have hg1 : ∀ h : 1 < (bs (a :: b :: r)).size, ((bs (a :: b :: r))[1]'h).toNat = b.toNat := fun h => by rw [bs_getN _ 1 (by simp) h]; rfl
    have hex : (bs (a :: b :: r)).extract 2 (bs (a :: b :: r)).size = bs r := ext_drop (bs (a :: b :: r)) 2
    have hl : (a :: b :: r).length = r.length + 2 := rfl
    have hRS : (bs r).size ≤ 1000000000 := by rw [bs_size]; omega
    cases ht : rtext r 4096 with
    | none =>
     rw [ht] at hf
     simp only at hf
     rw [paV_no hf]
     obtain ⟨e, he1, he2⟩ := xtextR_nok ht
     exact parse_err hS hS2 hg0 hg1 (by omega) hex hRS (show textR (bs r) 0 4096 = (bs [], bs r, e) from he2) hRS (xtakeR_err he1 4) he1
    | some q =>
     obtain ⟨body, r2⟩ := q
     rw [ht] at hf
     simp only at hf
     obtain ⟨k1, k2, k3, k4⟩ := xtextR_some ht
     have k1' : textR (bs r) 0 4096 = (bs body, bs r2, 0) := k1
     have hts : (bs r2).size ≤ 1000000000 := by rw [bs_size]; omega
     by_cases hr4 : r2.length < 4
     ·rw [if_pos hr4] at hf
      rw [paV_no hf]
      exact parse_err hS hS2 hg0 hg1 (by omega) hex hRS k1' hts (show takeR (bs r2) 0 4 = (bs [], bs r2, 12) from xtakeR_no (n := 4) hr4) (by decide)
     ·rw [if_neg hr4] at hf
      have htk : takeR (bs r2) 0 4 = (bs (r2.take 4), bs (r2.drop 4), 0) := xtakeR_some (n := 4) (by omega)
      obtain ⟨z, hz⟩ : ∃ z, (a :: b :: r).length - (r2.length - 4) = z := ⟨_, rfl⟩
      rw [hz] at hf
      have hzs : z + (bs (r2.drop 4)).size = (bs (a :: b :: r)).size := by rw [bs_size, bs_size, List.length_drop]; omega
      have hF : (bs (a :: b :: r)).extract 0 z = bs ((a :: b :: r).take z) := ext_take (bs (a :: b :: r)) z
      have hFl : ((a :: b :: r).take z).length ≤ 1000000000 := by rw [List.length_take]; omega
      cases hop : openB ((a :: b :: r).take z) with
      | false =>
       rw [hop, if_pos rfl] at hf
       rw [paV_no hf]
       exact parse_shut hS hS2 hg0 hg1 (by omega) hex hRS k1' hts htk hzs _ hF hFl hop
      | true =>
       rw [hop, if_neg (by decide)] at hf
       have fin : ∀ (c : List UInt8) (sm : Bool), conT b.toNat body = some c → sm = decide (16 ≤ b.toNat) → ((if decide (wrapS (b.toNat % 16) c = some ((a :: b :: r).take z)) = true then .tuple #[frV (b.toNat % 16) c, .int .i64 (z : Int), .bool sm, .bool true] else .tuple #[.agg #[.int .i64 0, .string ⟨#[]⟩], .int .i64 0, .bool false, .bool false] : Value)) = paV (a :: b :: r) := by
        intro c sm hc hsm
        rw [hc] at hf
        simp only at hf
        by_cases hw : wrapS (b.toNat % 16) c = some ((a :: b :: r).take z)
        ·rw [if_pos hw] at hf
         rw [if_pos (decide_eq_true hw), paV_yes hf, hsm]
         rfl
        ·rw [if_neg hw] at hf
         rw [if_neg (by simpa using hw), paV_no hf]
       have hbl : body.length ≤ 1000000000 := by omega
       by_cases h16 : 16 ≤ b.toNat
       ·by_cases hlz : (lzD body 4096).2 = 0
        ·have hc : conT b.toNat body = some (lzD body 4096).1 := by unfold conT; rw [if_pos h16, if_pos hlz]
         have hlz2 : lzD body 4096 = ((lzD body 4096).1, 0) := by rw [← hlz]
         have hcl := lzE_some (lzD_ok hlz2)
         rw [← fin _ true hc (by simp [h16])]
         exact parse_small hS hS2 hg0 hg1 (by omega) hex hRS k1' hts htk hzs _ hF hFl hop h16 hbl hlz2 (by omega)
        ·have hc : conT b.toNat body = none := by unfold conT; rw [if_pos h16, if_neg hlz]
         rw [hc] at hf
         simp only at hf
         rw [paV_no hf]
         exact parse_lzerr hS hS2 hg0 hg1 (by omega) hex hRS k1' hts htk hzs _ hF hFl hop h16 hbl hlz
       ·have hc : conT b.toNat body = some body := by unfold conT; rw [if_neg h16]
        rw [← fin _ false hc (by simp [h16])]
        exact parse_plain hS hS2 hg0 hg1 (by omega) hex hRS k1' hts htk hzs _ hF hFl hop (by omega) hbl
  ·rw [if_pos (.inl h165)] at hf
   rw [paV_no hf]
   refine parse_head _ hd (.inr (.inl ⟨by simp, ?_⟩)) w
   show a.toNat ≠ 165
   intro h
   exact h165 (UInt8.toNat_inj.1 h)
def uwV (data : List UInt8) : Value := match fparse data with
 | none => .tuple #[.agg #[.int .i64 0, .string ⟨#[]⟩], .int .i64 0, .int .i64 12]
 | some (k, c, n) => .tuple #[frV k c, .int .i64 (n : Int), .int .i64 0]
set_option maxRecDepth 100000 in
set_option maxHeartbeats 4000000 in
theorem unwrap_any (data : List UInt8) (hd : data.length ≤ 1000000000) (w : World) :
  Calls Tryz.prog 27 #[.string (bs data)] w fun x w' => x = .returned (uwV data) ∧ Below w.heap.size w w' := by
 have Hp := hide (fun W => parse_any data hd W)
 have Hres := hide (fun W hb v0 v1 => res_fr (w := w) (W := W) hb v0 v1)
 cases hf : fparse data with
 | none =>
  have hu : uwV data = .tuple #[.agg #[.int .i64 0, .string ⟨#[]⟩], .int .i64 0, .int .i64 12] := by unfold uwV; rw [hf]
  rw [paV_no hf] at Hp
  rw [hu]
  generalize bs data = S at *
  clear hf hu hd
  go_enter Tryz.func27, Tryz.ntmps27
  go_wp2_with fail
  refine (Hp.out _).mono ?_
  rintro x w1 ⟨rfl, hb1⟩
  obtain ⟨⟨c0, c1, f0, f1⟩, ⟨z0, z1⟩, hB⟩ := Hres.out _ hb1 (.int .i64 0) (.string ⟨#[]⟩)
  have HB := hide (hB.alloc hB.size (.cells #[.int .i64 0, .string ⟨#[]⟩] 50))
  have hlt := hb1.size
  rw [World.size_alloc] at hlt
  have hl2 : w.heap.size < w1.heap.size := by omega
  clear hb1 hB Hres Hp
  go_wp2_with ((with_reducible show bodyPost _ _ _ _ _ _); refine bodyPost_ret (v := .tuple #[.agg #[.int .i64 0, .string ⟨#[]⟩], .int .i64 0, .int .i64 12]) (by simp [results, Tryz.results27, go_sem, z0, z1, hl2]; try rfl) rfl ?_; exact ⟨rfl, HB.out⟩)
 | some q =>
  obtain ⟨k, c, n⟩ := q
  have hu : uwV data = .tuple #[.agg #[.int .i64 (k : Int), .string (bs c)], .int .i64 (n : Int), .int .i64 0] := by unfold uwV; rw [hf]; rfl
  rw [paV_yes hf] at Hp
  unfold frV at Hp
  rw [hu]
  generalize decide (16 ≤ (data.getD 1 0).toNat) = sm at *
  generalize bs data = S at *
  generalize bs c = CS at *
  clear hf hu hd
  go_enter Tryz.func27, Tryz.ntmps27
  go_wp2_with fail
  refine (Hp.out _).mono ?_
  rintro x w1 ⟨rfl, hb1⟩
  obtain ⟨⟨c0, c1, f0, f1⟩, ⟨z0, z1⟩, hB⟩ := Hres.out _ hb1 (.int .i64 (k : Int)) (.string CS)
  have HB := hide (hB.alloc hB.size (.cells #[.int .i64 (k : Int), .string CS] 50))
  have hlt := hb1.size
  rw [World.size_alloc] at hlt
  have hl2 : w.heap.size < w1.heap.size := by omega
  clear hb1 hB Hres Hp
  go_wp2_with ((with_reducible show bodyPost _ _ _ _ _ _); refine bodyPost_ret (v := .tuple #[.agg #[.int .i64 (k : Int), .string CS], .int .i64 (n : Int), .int .i64 0]) (by simp [results, Tryz.results27, go_sem, z0, z1, hl2]; try rfl) rfl ?_; exact ⟨rfl, HB.out⟩)
end Go.Proofs.YtjfcemlbbinanaaGreatDoor
