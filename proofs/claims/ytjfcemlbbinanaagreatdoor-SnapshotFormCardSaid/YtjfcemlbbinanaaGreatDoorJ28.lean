/-
  The walks over the parse of texts: a piece is tried.
-/
import Derived.Test.YtjfcemlbbinanaaGreatDoorJ27
set_option linter.unusedVariables false
set_option linter.unusedSimpArgs false
namespace Go.Proofs.YtjfcemlbbinanaaGreatDoor
open Go.RowKit Go.Proofs Wv Wv.Vi Wv.Mo Wv.Lz
set_option linter.unusedVariables false
structure TrSt (w : World) (T bb ib cb sb : Nat) (L : List St) (i : Nat) (seen : Bool) : Prop where
 tb : Bk w T 158 (stA L)
 best : Bk w bb 156 #[.slice (some ⟨T, 0, none⟩) L.length L.length]
 i : Bk w ib 3 #[.int .i64 (i : Int)]
 c : Bk w cb 122 #[.int .i64 9, .int .i64 12, .int .i64 1, .int .i64 1]
 sn : Bk w sb 4 #[.bool seen]
theorem TrSt.below {w w' : World} {T bb ib cb sb : Nat} {L : List St} {i : Nat} {seen : Bool} (h : TrSt w T bb ib cb sb L i seen) (hb : Below w.heap.size w w') : TrSt w' T bb ib cb sb L i seen :=
 ⟨h.tb.below hb h.tb.lt, h.best.below hb h.best.lt, h.i.below hb h.i.lt, h.c.below hb h.c.lt, h.sn.below hb h.sn.lt⟩
theorem TrSt.drewN {w : World} {T bb ib cb sb : Nat} {L : List St} {i : Nat} {seen : Bool} (h : TrSt w T bb ib cb sb L i seen) (n : Nat) : TrSt (w.drewN n) T bb ib cb sb L i seen := ⟨h.tb, h.best, h.i, h.c, h.sn⟩
theorem TrSt.set {w : World} {T bb ib cb sb : Nat} {L : List St} {i : Nat} {seen : Bool} (h : TrSt w T bb ib cb sb L i seen) {k : Nat} (hk : k < L.length) (x : St) :
  TrSt ((((((w.setCell ⟨T, k * 5, none⟩ (.int .i64 (x.cost : Int))).setCell ⟨T, k * 5 + 1, none⟩ (.int .i64 (x.pcs : Int))).setCell ⟨T, k * 5 + 2, none⟩ (.int .i64 (x.first.len : Int))).setCell ⟨T, k * 5 + 3, none⟩ (.int .i64 (x.first.dist : Int))).setCell ⟨T, k * 5 + 4, none⟩ (.int .u8 (x.first.byte.toNat : Int))).setCell ⟨sb, 0, none⟩ (.bool true)) T bb ib cb sb (L.set k x) i true := by
 have hf : Fr (only T) w (((((w.setCell ⟨T, k * 5, none⟩ (.int .i64 (x.cost : Int))).setCell ⟨T, k * 5 + 1, none⟩ (.int .i64 (x.pcs : Int))).setCell ⟨T, k * 5 + 2, none⟩ (.int .i64 (x.first.len : Int))).setCell ⟨T, k * 5 + 3, none⟩ (.int .i64 (x.first.dist : Int))).setCell ⟨T, k * 5 + 4, none⟩ (.int .u8 (x.first.byte.toNat : Int))) :=
  (((((Fr.refl (only T) w).setCell (p := ⟨T, k * 5, none⟩) (.inl rfl) _).setCell (p := ⟨T, k * 5 + 1, none⟩) (.inl rfl) _).setCell (p := ⟨T, k * 5 + 2, none⟩) (.inl rfl) _).setCell (p := ⟨T, k * 5 + 3, none⟩) (.inl rfl) _).setCell (p := ⟨T, k * 5 + 4, none⟩) (.inl rfl) _
 have ht := ((((h.tb.put (k * 5) (.int .i64 (x.cost : Int))).put (k * 5 + 1) (.int .i64 (x.pcs : Int))).put (k * 5 + 2) (.int .i64 (x.first.len : Int))).put (k * 5 + 3) (.int .i64 (x.first.dist : Int))).put (k * 5 + 4) (.int .u8 (x.first.byte.toNat : Int))
 rw [stA_set L k x hk] at ht
 have hs := h.sn.fr hf (Bk.apart h.sn h.tb (by decide))
 have hb := h.best.fr hf (Bk.apart h.best h.tb (by decide))
 have hi := h.i.fr hf (Bk.apart h.i h.tb (by decide))
 have hc := h.c.fr hf (Bk.apart h.c h.tb (by decide))
 refine ⟨ht.off (p := ⟨sb, 0, none⟩) (Bk.apart ht hs (by decide)) _, ?_, hi.off (p := ⟨sb, 0, none⟩) (Bk.apart hi hs (by decide)) _, hc.off (p := ⟨sb, 0, none⟩) (Bk.apart hc hs (by decide)) _, hs.put 0 _⟩
 rw [List.length_set]
 exact hb.off (p := ⟨sb, 0, none⟩) (Bk.apart hb hs (by decide)) _
def xOf (L : List St) (i : Nat) (t : Pc) : St := ⟨(L.getD (i + t.len) st0).cost + price t, (L.getD (i + t.len) st0).pcs + 1, t⟩
theorem TrSt.cells {w : World} {T bb ib cb sb : Nat} {L : List St} {i : Nat} {seen : Bool} (h : TrSt w T bb ib cb sb L i seen) : w.cell? ⟨bb, 0, none⟩ = some (.slice (some ⟨T, 0, none⟩) L.length L.length) ∧ w.cell? ⟨ib, 0, none⟩ = some (.int .i64 (i : Int)) ∧ w.cell? ⟨cb, 0, none⟩ = some (.int .i64 9) ∧ w.cell? ⟨cb, 1, none⟩ = some (.int .i64 12) ∧ w.cell? ⟨cb, 2, none⟩ = some (.int .i64 1) ∧ w.cell? ⟨cb, 3, none⟩ = some (.int .i64 1) ∧ w.cell? ⟨sb, 0, none⟩ = some (.bool seen) :=
 ⟨h.best.cell 0, h.i.cell 0, h.c.cell 0, h.c.cell 1, h.c.cell 2, h.c.cell 3, h.sn.cell 0⟩
theorem TrSt.at {w : World} {T bb ib cb sb : Nat} {L : List St} {i : Nat} {seen : Bool} (h : TrSt w T bb ib cb sb L i seen) {k : Nat} (hk : k < L.length) : w.cell? ⟨T, k * 5, none⟩ = some (.int .i64 ((L.getD k st0).cost : Int)) ∧ w.cell? ⟨T, k * 5 + 1, none⟩ = some (.int .i64 ((L.getD k st0).pcs : Int)) ∧ w.cell? ⟨T, k * 5 + 2, none⟩ = some (.int .i64 ((L.getD k st0).first.len : Int)) ∧ w.cell? ⟨T, k * 5 + 3, none⟩ = some (.int .i64 ((L.getD k st0).first.dist : Int)) ∧ w.cell? ⟨T, k * 5 + 4, none⟩ = some (.int .u8 ((L.getD k st0).first.byte.toNat : Int)) := by
 obtain ⟨a, b, c, d, e⟩ := stA_get L k hk
 exact ⟨(h.tb.cell _).trans a, (h.tb.cell _).trans b, (h.tb.cell _).trans c, (h.tb.cell _).trans d, (h.tb.cell _).trans e⟩
theorem kcell {W W' : World} {p : Addr} {v : Value} (h : W.cell? p = some v) (hb : Below W.heap.size W W') : W'.cell? p = some v := by
 have hl : p.block < W.heap.size := by
  rcases Nat.lt_or_ge p.block W.heap.size with h1 | h1
  ·exact h1
  ·simp [World.cell?, Array.getElem?_eq_none h1] at h
 rw [hb.cell hl]; exact h
theorem pcell {W : World} {p q : Addr} {v u : Value} (h : W.cell? p = some v) (hne : q.block ≠ p.block) : (W.setCell q u).cell? p = some v := by
 have hf : Fr (only q.block) W (W.setCell q u) := (Fr.refl (only q.block) W).setCell (p := q) (.inl rfl) u
 have hl : p.block < W.heap.size := by
  rcases Nat.lt_or_ge p.block W.heap.size with h1 | h1
  ·exact h1
  ·simp [World.cell?, Array.getElem?_eq_none h1] at h
 rw [hf.cell hl (fun e => hne e.symm)]; exact h
abbrev LvC (W0 : World) (B1 B2 B3 : Nat) (nc np tl td tbn : Nat) (W : World) : Prop :=
 W.cell? ⟨B1, 0, none⟩ = some (.int .i64 (nc : Int)) ∧ W.cell? ⟨B1, 1, none⟩ = some (.int .i64 (np : Int)) ∧ W.cell? ⟨B2, 0, none⟩ = some (.int .i64 (tl : Int)) ∧ W.cell? ⟨B2, 1, none⟩ = some (.int .i64 (td : Int)) ∧ W.cell? ⟨B2, 2, none⟩ = some (.int .u8 (tbn : Int)) ∧ W.cell? ⟨B3, 0, none⟩ = some (.int .i64 9) ∧ W.cell? ⟨B3, 1, none⟩ = some (.int .i64 12) ∧ W.cell? ⟨B3, 2, none⟩ = some (.int .i64 1) ∧ W.cell? ⟨B3, 3, none⟩ = some (.int .i64 1) ∧ Below W0.heap.size W0 W
theorem LvC.below {W0 W W' : World} {B1 B2 B3 : Nat} {nc np tl td tbn : Nat} (h : LvC W0 B1 B2 B3 nc np tl td tbn W) (hb : Below W.heap.size W W') : LvC W0 B1 B2 B3 nc np tl td tbn W' :=
 ⟨kcell h.1 hb, kcell h.2.1 hb, kcell h.2.2.1 hb, kcell h.2.2.2.1 hb, kcell h.2.2.2.2.1 hb, kcell h.2.2.2.2.2.1 hb, kcell h.2.2.2.2.2.2.1 hb, kcell h.2.2.2.2.2.2.2.1 hb, kcell h.2.2.2.2.2.2.2.2.1 hb, h.2.2.2.2.2.2.2.2.2.trans (hb.mono h.2.2.2.2.2.2.2.2.2.size)⟩
theorem LvC.belowb {W0 W W' : World} {B1 B2 B3 : Nat} {nc np tl td tbn : Nat} (hb : Below W.heap.size W W') (h : LvC W0 B1 B2 B3 nc np tl td tbn W) : LvC W0 B1 B2 B3 nc np tl td tbn W' := h.below hb
theorem LvC.dralloc {W0 W : World} {B1 B2 B3 : Nat} {nc np tl td tbn : Nat} (h : LvC W0 B1 B2 B3 nc np tl td tbn W.drew) (o : Obj) : LvC W0 B1 B2 B3 nc np tl td tbn (W.alloc o).drew := h.below ((Below.refl W.drew.heap.size W.drew).alloc (Nat.le_refl _) o)
theorem LvC.alloc {W0 W : World} {B1 B2 B3 : Nat} {nc np tl td tbn : Nat} (h : LvC W0 B1 B2 B3 nc np tl td tbn W) (o : Obj) : LvC W0 B1 B2 B3 nc np tl td tbn (W.alloc o) := h.below ((Below.refl _ _).alloc (Nat.le_refl _) o)
theorem LvC.put {W0 W : World} {B1 B2 B3 : Nat} {nc np tl td tbn : Nat} (h : LvC W0 B1 B2 B3 nc np tl td tbn W) {r : Nat} (hr : W0.heap.size ≤ r) (h1 : B1 < W0.heap.size) (h2 : B2 < W0.heap.size) (h3 : B3 < W0.heap.size) (a b c d e : Value) : LvC W0 B1 B2 B3 nc np tl td tbn (((((W.setCell ⟨r, 0, none⟩ a).setCell ⟨r, 1, none⟩ b).setCell ⟨r, 2, none⟩ c).setCell ⟨r, 3, none⟩ d).setCell ⟨r, 4, none⟩ e) := by
 have go : ∀ {W : World} (i : Nat) (u : Value), LvC W0 B1 B2 B3 nc np tl td tbn W → LvC W0 B1 B2 B3 nc np tl td tbn (W.setCell ⟨r, i, none⟩ u) := fun i u h =>
  ⟨pcell h.1 (by show r ≠ B1; omega), pcell h.2.1 (by show r ≠ B1; omega), pcell h.2.2.1 (by show r ≠ B2; omega), pcell h.2.2.2.1 (by show r ≠ B2; omega), pcell h.2.2.2.2.1 (by show r ≠ B2; omega), pcell h.2.2.2.2.2.1 (by show r ≠ B3; omega), pcell h.2.2.2.2.2.2.1 (by show r ≠ B3; omega), pcell h.2.2.2.2.2.2.2.1 (by show r ≠ B3; omega), pcell h.2.2.2.2.2.2.2.2.1 (by show r ≠ B3; omega), h.2.2.2.2.2.2.2.2.2.setCell (p := ⟨r, i, none⟩) hr u⟩
 exact go 4 e (go 3 d (go 2 c (go 1 b (go 0 a h))))
theorem lvA {wr w2 : World} (hb2 : Below (wr.alloc (.cells #[.int .i64 0, .int .i64 0, .int .i64 0, .int .i64 0, .int .u8 0] 158)).drew.heap.size (wr.alloc (.cells #[.int .i64 0, .int .i64 0, .int .i64 0, .int .i64 0, .int .u8 0] 158)).drew w2) : Bk w2 wr.heap.size 158 #[.int .i64 0, .int .i64 0, .int .i64 0, .int .i64 0, .int .u8 0] ∧ Below wr.heap.size wr w2 :=
  ⟨Bk.below (show Bk (wr.alloc (.cells #[.int .i64 0, .int .i64 0, .int .i64 0, .int .i64 0, .int .u8 0] 158)).drew wr.heap.size 158 #[.int .i64 0, .int .i64 0, .int .i64 0, .int .i64 0, .int .u8 0] from Bk.new _ _ _) hb2 (by show wr.heap.size < (wr.alloc _).heap.size; simp),
   ((Below.refl wr.heap.size wr).alloc (Nat.le_refl _) (.cells #[.int .i64 0, .int .i64 0, .int .i64 0, .int .i64 0, .int .u8 0] 158)).drew.trans (hb2.mono (by show wr.heap.size ≤ (wr.alloc _).heap.size; rw [World.size_alloc]; omega))⟩
theorem lvB {wr w2 : World} (hb2 : Below wr.drew.heap.size wr.drew w2) : Below wr.heap.size wr w2 := ((Below.refl wr.heap.size wr).drew).trans (hb2.mono (Nat.le_refl _))
theorem five_put {w : World} {g : Nat} {t : TypeId} (h : Bk w g t #[.int .i64 0, .int .i64 0, .int .i64 0, .int .i64 0, .int .u8 0]) (a b c d e : Value) : Bk (((((w.setCell ⟨g, 0, none⟩ a).setCell ⟨g, 1, none⟩ b).setCell ⟨g, 2, none⟩ c).setCell ⟨g, 3, none⟩ d).setCell ⟨g, 4, none⟩ e) g t #[a, b, c, d, e] := ((((h.put 0 a).put 1 b).put 2 c).put 3 d).put 4 e
theorem five_below {w wb : World} {B g : Nat} (h : Below B wb w) (hg : B ≤ g) (a b c d e : Value) : Below B wb (((((w.setCell ⟨g, 0, none⟩ a).setCell ⟨g, 1, none⟩ b).setCell ⟨g, 2, none⟩ c).setCell ⟨g, 3, none⟩ d).setCell ⟨g, 4, none⟩ e) :=
 ((((h.setCell (p := ⟨g, 0, none⟩) hg a).setCell (p := ⟨g, 1, none⟩) hg b).setCell (p := ⟨g, 2, none⟩) hg c).setCell (p := ⟨g, 3, none⟩) hg d).setCell (p := ⟨g, 4, none⟩) hg e
set_option maxRecDepth 100000 in
set_option maxHeartbeats 4000000 in
theorem ltry_any {w : World} {T bb ib cb sb : Nat} {L : List St} {i : Nat} {seen : Bool} (h : TrSt w T bb ib cb sb L i seen) (hL : L.length ≤ 5000) (hc : ∀ x ∈ L, x.cost ≤ 1000000 ∧ x.pcs ≤ 1000000) (t : Pc) (h1 : t.len ≤ 4096) (h2 : t.dist ≤ 4096) (h0 : 1 ≤ t.len) (hi : i + t.len < L.length) :
    Calls Tryz.prog 120 #[.agg (pcC t), .pointer (some ⟨bb, 0, none⟩), .pointer (some ⟨ib, 0, none⟩), .pointer (some ⟨cb, 0, none⟩), .pointer (some ⟨sb, 0, none⟩)] w fun x w' => x = .returned (.tuple #[]) ∧ TrSt w' T bb ib cb sb (if (!seen || bett (xOf L i t) (L.getD i st0)) = true then L.set i (xOf L i t) else L) i true ∧ Fr (fun k => k = T ∨ k = sb) w w' := by
  have hp38 := price_le h2 h1
  have Hp := hide (fun W => lprice_any t h1 h2 W)
  unfold costV at Hp
  obtain ⟨m1, m2⟩ : (L.getD (i + t.len) st0).cost ≤ 1000000 ∧ (L.getD (i + t.len) st0).pcs ≤ 1000000 := hc _ (by rw [List.getD_eq_getElem?_getD, List.getElem?_eq_getElem hi]; exact List.getElem_mem _)
  obtain ⟨b1, b2, b3, b4, b5, b6, b7⟩ := h.cells
  obtain ⟨a1, a2, a3, a4, a5⟩ := h.at hi
  have hbT := h.tb.lt
  have hbb := h.best.lt
  have hbi := h.i.lt
  have hbc := h.c.lt
  have hbs := h.sn.lt
  have H := hide h
  have hxe : xOf L i t = ⟨(L.getD (i + t.len) st0).cost + price t, (L.getD (i + t.len) st0).pcs + 1, t⟩ := rfl
  obtain ⟨tl, td, tb⟩ := t
  unfold pcC at *
  simp only at h1 h2 h0 hi m1 m2 a1 a2 a3 a4 a5 hxe Hp ⊢
  obtain ⟨nx, hnx⟩ : ∃ x, L.getD (i + tl) st0 = x := ⟨_, rfl⟩
  rw [hnx] at m1 m2 a1 a2 a3 a4 a5 hxe
  obtain ⟨nc, np, ⟨nl, nd, nb⟩⟩ := nx
  simp only at m1 m2 a1 a2 a3 a4 a5 hxe
  obtain ⟨pr, hpr⟩ : ∃ p, price ⟨tl, td, tb⟩ = p := ⟨_, rfl⟩
  rw [hpr] at hp38 hxe Hp
  rw [hxe]
  obtain ⟨xc, hxc⟩ : ∃ x, nc + pr = x := ⟨_, rfl⟩
  obtain ⟨xp, hxp⟩ : ∃ x, np + 1 = x := ⟨_, rfl⟩
  rw [hxc, hxp] at hxe ⊢
  have e1 : (nc : Int) + (pr : Int) = (xc : Int) := by omega
  have e2 : (np : Int) + 1 = (xp : Int) := by omega
  have e3 : IntKind.i64.wrap (xc : Int) = (xc : Int) := by rw [IntKind.wrap_i64]; omega
  have e4 : IntKind.i64.wrap (xp : Int) = (xp : Int) := by rw [IntKind.wrap_i64]; omega
  have hxm : xc ≤ 2000000 ∧ xp ≤ 2000000 := by omega
  have hik : i < L.length := by omega
  clear hxc hxp
  have hii : (i : Int) + (tl : Int) < (L.length : Int) := by omega
  have hi0 : (0 : Int) ≤ (i : Int) + (tl : Int) := by omega
  obtain ⟨tbn, htbn⟩ : ∃ x, tb.toNat = x := ⟨_, rfl⟩
  obtain ⟨nbn, hnbn⟩ : ∃ x, nb.toNat = x := ⟨_, rfl⟩
  rw [htbn] at Hp ⊢
  rw [hnbn] at a5
  have Htb := hide htbn
  have Hxe := hide hxe
  obtain ⟨RL, hRL⟩ : ∃ R, (if (!seen || bett ⟨xc, xp, ⟨tl, td, tb⟩⟩ (L.getD i st0)) = true then L.set i ⟨xc, xp, ⟨tl, td, tb⟩⟩ else L) = R := ⟨_, rfl⟩
  rw [hRL]
  have HRL := hide hRL
  clear hxe hnx hpr htbn hnbn h hRL
  go_enter Tryz.func120, Tryz.ntmps120
  go_upto_region 2 with fail
  have hB0 := hide (((Below.refl w.heap.size w).alloc (Nat.le_refl _) (.cells #[.int .i64 (tl : Int), .int .i64 (td : Int), .int .u8 (tbn : Int)] 102)).alloc (by simp) (.cells #[.int .i64 (nc : Int), .int .i64 (np : Int), .int .i64 (nl : Int), .int .i64 (nd : Int), .int .u8 (nbn : Int)] 158))
  have hT0 := hide ((Bk.new w 102 #[.int .i64 (tl : Int), .int .i64 (td : Int), .int .u8 (tbn : Int)]).alloc (.cells #[.int .i64 (nc : Int), .int .i64 (np : Int), .int .i64 (nl : Int), .int .i64 (nd : Int), .int .u8 (nbn : Int)] 158))
  have hN0 := hide (Bk.newN (w.alloc (.cells #[.int .i64 (tl : Int), .int .i64 (td : Int), .int .u8 (tbn : Int)] 102)) 158 #[.int .i64 (nc : Int), .int .i64 (np : Int), .int .i64 (nl : Int), .int .i64 (nd : Int), .int .u8 (nbn : Int)] (n := w.heap.size + 1) (by simp))
  generalize (w.alloc (.cells #[.int .i64 (tl : Int), .int .i64 (td : Int), .int .u8 (tbn : Int)] 102)).alloc (.cells #[.int .i64 (nc : Int), .int .i64 (np : Int), .int .i64 (nl : Int), .int .i64 (nd : Int), .int .u8 (nbn : Int)] 158) = W0 at *
  have hH0 := hide (H.out.below hB0.out)
  have hK : Hid (∀ W', Below W0.heap.size W0 W' → (W'.cell? ⟨w.heap.size + 1, 0, none⟩ = some (.int .i64 (nc : Int)) ∧ W'.cell? ⟨w.heap.size + 1, 1, none⟩ = some (.int .i64 (np : Int)) ∧ W'.cell? ⟨w.heap.size, 0, none⟩ = some (.int .i64 (tl : Int)) ∧ W'.cell? ⟨w.heap.size, 1, none⟩ = some (.int .i64 (td : Int)) ∧ W'.cell? ⟨w.heap.size, 2, none⟩ = some (.int .u8 (tbn : Int)) ∧ W'.cell? ⟨cb, 0, none⟩ = some (.int .i64 9) ∧ W'.cell? ⟨cb, 1, none⟩ = some (.int .i64 12) ∧ W'.cell? ⟨cb, 2, none⟩ = some (.int .i64 1) ∧ W'.cell? ⟨cb, 3, none⟩ = some (.int .i64 1))) :=
    hide (fun W' hb => by
      have n0 := hN0.out.below hb hN0.out.lt
      have t0 := hT0.out.below hb hT0.out.lt
      obtain ⟨_, _, d1, d2, d3, d4, _⟩ := (hH0.out.below hb).cells
      exact ⟨n0.cell 0, n0.cell 1, t0.cell 0, t0.cell 1, t0.cell 2, d1, d2, d3, d4⟩)
  obtain ⟨k1, k2, k3, k4, k5, k6, k7, k8, k9⟩ := hK.out W0 (Below.refl _ _)
  have hlt0 := hN0.out.lt
  have hltT := hT0.out.lt
  have hltc := hH0.out.c.lt
  clear b1 b2 b3 b4 b5 b6 b7 a1 a2 a3 a4 a5 hii hi0
  go_cut [7] (fun s7 wx => ∃ b, s7 = .pointer (some ⟨b, 0, none⟩) ∧ Hid (Bk wx b 158 #[.int .i64 (xc : Int), .int .i64 (xp : Int), .int .i64 (tl : Int), .int .i64 (td : Int), .int .u8 (tbn : Int)]) ∧ Hid (Below W0.heap.size W0 wx) ∧ W0.heap.size ≤ b)
  case first =>
    clear hB0 hT0 hN0 hH0 H Htb Hxe hc m1 m2 hp38 hL h1 h2 h0 hi
    have H1 : LvC W0 (w.heap.size + 1) w.heap.size cb nc np tl td tbn W0.drew := ⟨k1, k2, k3, k4, k5, k6, k7, k8, k9, (Below.refl _ _).drew⟩
    unfold LvC at H1
    have HB1 := hide hlt0
    have HB2 := hide hltT
    have HB3 := hide hltc
    clear hlt0 hltT hltc hK
    go_region_held3 (fun W => W.cell? ⟨w.heap.size + 1, 0, none⟩ = some (.int .i64 (nc : Int)) ∧ W.cell? ⟨w.heap.size + 1, 1, none⟩ = some (.int .i64 (np : Int)) ∧ W.cell? ⟨w.heap.size, 0, none⟩ = some (.int .i64 (tl : Int)) ∧ W.cell? ⟨w.heap.size, 1, none⟩ = some (.int .i64 (td : Int)) ∧ W.cell? ⟨w.heap.size, 2, none⟩ = some (.int .u8 (tbn : Int)) ∧ W.cell? ⟨cb, 0, none⟩ = some (.int .i64 9) ∧ W.cell? ⟨cb, 1, none⟩ = some (.int .i64 12) ∧ W.cell? ⟨cb, 2, none⟩ = some (.int .i64 1) ∧ W.cell? ⟨cb, 3, none⟩ = some (.int .i64 1) ∧ Below W0.heap.size W0 W) (first | with_reducible assumption | with_reducible exact H1 | with_reducible exact LvC.alloc (by assumption) _ | with_reducible exact LvC.alloc HSm.out _ | with_reducible exact LvC.dralloc (by assumption) _ | with_reducible exact LvC.belowb (by assumption) (by assumption) | with_reducible exact LvC.put (by assumption) (by first | exact Nat.le_refl _ | exact HSm.out.2.2.2.2.2.2.2.2.2.size) HB1.out HB2.out HB3.out _ _ _ _ _)
      (first | (go_at_call 121; with_reducible refine (Hp.out _).mono ?_; rintro r wm ⟨rfl, hbm⟩; have HSm : Hid (LvC W0 (w.heap.size + 1) w.heap.size cb nc np tl td tbn wm) := hide (LvC.belowb hbm (by with_reducible assumption)); first | ((with_reducible (have hyb := lvA hbm)); have q0 := hyb.1.cell 0; have q1 := hyb.1.cell 1; have q2 := hyb.1.cell 2; have q3 := hyb.1.cell 3; have q4 := hyb.1.cell 4; have p0 := hyb.1.frozen 0; have p1 := hyb.1.frozen 1; have p2 := hyb.1.frozen 2; have p3 := hyb.1.frozen 3; have p4 := hyb.1.frozen 4; simp at q0 q1 q2 q3 q4) | skip))
    · go_wp2
      go_meet
      case rel => exact ⟨_, rfl, hide (Bk.new _ _ _), hide (HSm.out.2.2.2.2.2.2.2.2.2.alloc HSm.out.2.2.2.2.2.2.2.2.2.size _), HSm.out.2.2.2.2.2.2.2.2.2.size⟩
    · go_wp2
      go_meet
      case rel => exact ⟨_, rfl, hide (five_put hyb.1 _ _ _ _ _), hide (five_below HSm.out.2.2.2.2.2.2.2.2.2 (Nat.le_refl _) _ _ _ _ _), Nat.le_refl _⟩
  case rest =>
    obtain ⟨b, rfl, hX, hbW, hbg⟩ := hcut
    have hTr := hH0.out.below hbW.out
    have hFr : Fr (fun k => k = T ∨ k = sb) w wc := Fr.of_below (hB0.out.trans (hbW.out.mono hB0.out.size))
    clear k1 k2 k3 k4 k5 k6 k7 k8 k9 hlt0 hltT hltc hB0 hT0 hN0 hH0 H hK Hp e1 e2 e3 e4 m1 m2 hp38 hbW h1 h2 h0 hi
    obtain ⟨b1, b2, b3, b4, b5, b6, b7⟩ := hTr.cells
    obtain ⟨a1, a2, a3, a4, a5⟩ := hTr.at hik
    have x0 := hX.out.cell 0
    have x1 := hX.out.cell 1
    have x2 := hX.out.cell 2
    have x3 := hX.out.cell 3
    have x4 := hX.out.cell 4
    simp at x0 x1 x2 x3 x4
    have hcm : (L.getD i st0).cost ≤ 1000000 ∧ (L.getD i st0).pcs ≤ 1000000 := hc _ (by rw [List.getD_eq_getElem?_getD, List.getElem?_eq_getElem hik]; exact List.getElem_mem _)
    have hbe : bett ⟨xc, xp, ⟨tl, td, tb⟩⟩ (L.getD i st0) = (decide (xc < (L.getD i st0).cost) || (decide (xc = (L.getD i st0).cost) && decide (xp < (L.getD i st0).pcs))) := rfl
    have hR := HRL.out
    rw [hbe] at hR
    obtain ⟨cc, hcc⟩ : ∃ x, (L.getD i st0).cost = x := ⟨_, rfl⟩
    obtain ⟨cp, hcp⟩ : ∃ x, (L.getD i st0).pcs = x := ⟨_, rfl⟩
    rw [hcc] at a1 hcm hR
    rw [hcp] at a2 hcm hR
    have hSt := hide (fun n => (hTr.drewN n).set hik ⟨xc, xp, ⟨tl, td, tb⟩⟩)
    simp only at hSt
    rw [Htb.out] at hSt
    have hFs := hide (fun n (a b c d e f : Value) => ((((((hFr.drewN n).setCell (p := ⟨T, i * 5, none⟩) (.inl (.inl rfl)) a).setCell (p := ⟨T, i * 5 + 1, none⟩) (.inl (.inl rfl)) b).setCell (p := ⟨T, i * 5 + 2, none⟩) (.inl (.inl rfl)) c).setCell (p := ⟨T, i * 5 + 3, none⟩) (.inl (.inl rfl)) d).setCell (p := ⟨T, i * 5 + 4, none⟩) (.inl (.inl rfl)) e).setCell (p := ⟨sb, 0, none⟩) (.inl (.inr rfl)) f)
    have g0 := hTr.tb.frozen (i * 5)
    have g1 := hTr.tb.frozen (i * 5 + 1)
    have g2 := hTr.tb.frozen (i * 5 + 2)
    have g3 := hTr.tb.frozen (i * 5 + 3)
    have g4 := hTr.tb.frozen (i * 5 + 4)
    have g5 := hTr.sn.frozen 0
    have hii : (i : Int) < (L.length : Int) := by omega
    have hi0 : (0 : Int) ≤ (i : Int) := by omega
    have hsT : sb ≠ T := Bk.apart hTr.sn hTr.tb (by decide)
    have hTs : T ≠ sb := Ne.symm hsT
    have HTr := hide hTr
    have HFr := hide hFr
    clear hcc hcp hbe hX hTr hFr hc hL Htb hbT hbb hbi hbc hbs Hxe
    clear HRL
    have hcases : (seen = false ∨ (seen = true ∧ (xc < cc ∨ (xc = cc ∧ xp < cp)))) ∨ (seen = true ∧ (cc < xc ∨ (xc = cc ∧ ¬ xp < cp))) := by
      cases seen with
      | false => exact .inl (.inl rfl)
      | true => rcases Nat.lt_trichotomy xc cc with h | h | h
                · exact .inl (.inr ⟨rfl, .inl h⟩)
                · by_cases h2 : xp < cp
                  · exact .inl (.inr ⟨rfl, .inr ⟨h, h2⟩⟩)
                  · exact .inr ⟨rfl, .inr ⟨h, h2⟩⟩
                · exact .inr ⟨rfl, .inl h⟩
    rcases hcases with hyes | hno
    · have hR2 : L.set i ⟨xc, xp, ⟨tl, td, tb⟩⟩ = RL := by
        rw [← hR]
        rcases hyes with h | ⟨h, h2 | ⟨h2, h3⟩⟩
        · rw [h]; rfl
        · rw [h, decide_eq_true h2]; rfl
        · rw [decide_eq_true h2, decide_eq_true h3, h]
          simp
      have HR2 := hide hR2
      clear hR hR2
      rcases hyes with rfl | ⟨rfl, hlt | ⟨heq, hlt⟩⟩
      · go_wp2
        go_quiet (fail)
        go_wp2
        first | go_end0 | go_returns
        rw [← HR2.out]
        exact ⟨rfl, hSt.out _, hFs.out _ _ _ _ _ _ _⟩
      · have hltI : (xc : Int) < (cc : Int) := by omega
        have hd : decide ((xc : Int) < (cc : Int)) = true := decide_eq_true hltI
        have hdN : decide (xc < cc) = true := decide_eq_true hlt
        go_wp2
        go_quiet (fail)
        go_wp2
        first | go_end0 | go_returns
        rw [← HR2.out]
        exact ⟨rfl, hSt.out _, hFs.out _ _ _ _ _ _ _⟩
      · subst heq
        have hd0 : ¬ (xc : Int) < (xc : Int) := by omega
        have hltI : (xp : Int) < (cp : Int) := by omega
        have hd : decide ((xp : Int) < (cp : Int)) = true := decide_eq_true hltI
        have hdN : decide (xp < cp) = true := decide_eq_true hlt
        have hdM : decide (xc < xc) = false := decide_eq_false (Nat.lt_irrefl _)
        go_wp2
        go_quiet (fail)
        go_wp2
        first | go_end0 | go_returns
        rw [← HR2.out]
        exact ⟨rfl, hSt.out _, hFs.out _ _ _ _ _ _ _⟩
    · have hR2 : L = RL := by
        rw [← hR]
        rcases hno with ⟨h, h2 | ⟨h2, h3⟩⟩
        · rw [h, decide_eq_false (show ¬ xc < cc by omega), decide_eq_false (show ¬ xc = cc by omega)]; rfl
        · rw [h, decide_eq_false (show ¬ xc < cc by omega), decide_eq_true h2, decide_eq_false h3]; rfl
      have HR2 := hide hR2
      clear hR hR2 hSt hFs
      rcases hno with ⟨rfl, hlt | ⟨heq, hlt⟩⟩
      · have hltI : ¬ (xc : Int) < (cc : Int) := by omega
        have hdN : decide (xc < cc) = false := decide_eq_false (by omega)
        have hdE : decide (xc = cc) = false := decide_eq_false (by omega)
        have hne : ((xc : Int) == (cc : Int)) = false := by rw [beq_eq_false_iff_ne]; omega
        go_wp2
        go_quiet (fail)
        go_wp2
        first | go_end0 | go_returns
        rw [← HR2.out]
        exact ⟨rfl, HTr.out.drewN _, HFr.out.drewN _⟩
      · subst heq
        have hd0 : ¬ (xc : Int) < (xc : Int) := by omega
        have hltI : ¬ (xp : Int) < (cp : Int) := by omega
        have hdN : decide (xp < cp) = false := decide_eq_false hlt
        have hdM : decide (xc < xc) = false := decide_eq_false (Nat.lt_irrefl _)
        go_wp2
        go_quiet (fail)
        go_wp2
        first | go_end0 | go_returns
        rw [← HR2.out]
        exact ⟨rfl, HTr.out.drewN _, HFr.out.drewN _⟩
end Go.Proofs.YtjfcemlbbinanaaGreatDoor
