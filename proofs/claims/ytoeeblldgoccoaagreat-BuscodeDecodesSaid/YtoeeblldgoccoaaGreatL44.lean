/-
  Joined texts: Qw, Qx, Qz.
-/
import Derived.Test.YtoeeblldgoccoaaGreatL39
set_option linter.unusedVariables false
set_option linter.unusedSimpArgs false
set_option maxRecDepth 100000
set_option maxHeartbeats 8000000
namespace Wv
open Go Go.RowKit
theorem own_cross {W w' : World} {B n : Nat} {e T : TypeId} {u : Value} {ys : List Value} (h : W.ownsRow B T 1 u n ys) (hk : ∀ xb T cs, Bk W xb T cs → e ≠ T → Bk w' xb T cs) (hne : e ≠ T) : w'.ownsRow B T 1 u n ys := by
 refine ⟨h.1, ?_⟩
 rcases h.2 with h2 | ⟨g, cap, cur, rfl, hb, hg, rest⟩
 ·exact .inl h2
 ·exact .inr ⟨g, cap, cur, rfl, hb, hk g T cur hg hne, rest⟩
theorem app_gen {P : Program} (t e : TypeId) (z : Value) (bytes : Nat) (ht : P.underlying t = some (.slice e)) (hinfo : (P.info? e).map (fun i => (i.zero, i.size, i.bytes)) = some (some z, 1, bytes)) (hz1 : z.cells.size = 1) {W : World} {B : Nat} {v : Value} {n : Nat} {xs : List Value} (h : W.ownsRow B e 1 v n xs) (hB : B ≤ W.heap.size) (p : Nat) (x : Value) (hp : Bk W p e #[x]) (hx : x.oneCell' = true) (h63 : n + 1 ≤ maxLen) (hbytes : (n + 1) * bytes ≤ 140737488355328) :
  ∃ v' w', (Builtin.append_ #[t, t] t #[v, .slice (some ⟨p, 0, none⟩) 1 1]).run P W = .ok v' w' ∧ w'.ownsRow B e 1 v' (n + 1) (xs ++ [x]) ∧ (∀ wb, Below B wb W → Below B wb w') ∧ (∀ xb T cs, Bk W xb T cs → e ≠ T → Bk w' xb T cs) ∧ W.heap.size ≤ w'.heap.size := by
 obtain ⟨i, hi, hz, hs, hby⟩ := info_parts hinfo
 obtain ⟨v', w', hr, h2, h3, _⟩ := run_append_own_at (P := P) W B t t e i z 1 bytes ht hi hz hs hby hz1 (by omega) v n xs h ⟨p, 0, none⟩ 1 1 [x] rfl (fun j u hj => by
  cases j with
  | zero =>
   simp at hj
   subst hj;rw [Go.WideShapes.add_plain];exact hp.cell 0
  | succ j => simp at hj) (by simpa using hx) h63 hbytes hB
 exact ⟨v', w', hr, h2, fun wb hb => hb.grown h3 hB (fun k hk => (h.lt k hk).1), fun xb T cs hk hT => hk.grown h3 (fun e => own_apart h hk hT e.symm), h3.size⟩
theorem seq_two {P : Program} (t e : TypeId) (z : Value) (bytes : Nat) (ht : P.underlying t = some (.slice e)) (hinfo : (P.info? e).map (fun i => (i.zero, i.size, i.bytes)) = some (some z, 1, bytes)) (hz1 : z.cells.size = 1)
  (t2 e2 : TypeId) (z2 : Value) (bytes2 : Nat) (ht2 : P.underlying t2 = some (.slice e2)) (hinfo2 : (P.info? e2).map (fun i => (i.zero, i.size, i.bytes)) = some (some z2, 1, bytes2)) (hz2 : z2.cells.size = 1) (hne : e ≠ e2)
  {W : World} {B : Nat} {v v2 : Value} {n n2 : Nat} {xs xs2 : List Value} (h : W.ownsRow B e 1 v n xs) (h2 : W.ownsRow B e2 1 v2 n2 xs2) (hB : B ≤ W.heap.size) (p q : Nat) (x y : Value) (hp : Bk W p e #[x]) (hq : Bk W q e2 #[y]) (hx : x.oneCell' = true) (hy : y.oneCell' = true)
  (h63 : n + 1 ≤ maxLen) (hbytes : (n + 1) * bytes ≤ 140737488355328) (h63' : n2 + 1 ≤ maxLen) (hbytes' : (n2 + 1) * bytes2 ≤ 140737488355328) :
  ∃ v' w' u' w'', (Builtin.append_ #[t, t] t #[v, .slice (some ⟨p, 0, none⟩) 1 1]).run P W = .ok v' w' ∧ (Builtin.append_ #[t2, t2] t2 #[v2, .slice (some ⟨q, 0, none⟩) 1 1]).run P w' = .ok u' w'' ∧ w''.ownsRow B e 1 v' (n + 1) (xs ++ [x]) ∧ w''.ownsRow B e2 1 u' (n2 + 1) (xs2 ++ [y]) ∧ (∀ wb, Below B wb W → Below B wb w'') := by
 obtain ⟨v', w', r1, o1, b1, k1, s1⟩ := app_gen t e z bytes ht hinfo hz1 h hB p x hp hx h63 hbytes;obtain ⟨u', w'', r2, o2, b2, k2, s2⟩ := app_gen t2 e2 z2 bytes2 ht2 hinfo2 hz2 (own_cross h2 k1 hne) (Nat.le_trans hB s1) q y (k1 _ _ _ hq hne) hy h63' hbytes';exact ⟨v', w', u', w'', r1, r2, own_cross o1 k2 hne.symm, o2, fun wb hb => b2 wb (b1 wb hb)⟩
theorem seq_lay {P : Program} (t e : TypeId) (z : Value) (bytes : Nat) (ht : P.underlying t = some (.slice e)) (hinfo : (P.info? e).map (fun i => (i.zero, i.size, i.bytes)) = some (some z, 1, bytes)) (hz1 : z.cells.size = 1)
  (t2 e2 : TypeId) (z2 : Value) (bytes2 : Nat) (ht2 : P.underlying t2 = some (.slice e2)) (hinfo2 : (P.info? e2).map (fun i => (i.zero, i.size, i.bytes)) = some (some z2, 1, bytes2)) (hz2 : z2.cells.size = 1) (hne : e ≠ e2)
  {W : World} {B : Nat} {v v2 : Value} {n n2 : Nat} {xs xs2 : List Value} (h : W.ownsRow B e 1 v n xs) (h2 : W.ownsRow B e2 1 v2 n2 xs2) (hB : B ≤ W.heap.size) (p : Nat) (x y : Value) (hp : Bk W p e #[x]) (hx : x.oneCell' = true) (hy : y.oneCell' = true)
  (h63 : n + 1 ≤ maxLen) (hbytes : (n + 1) * bytes ≤ 140737488355328) (h63' : n2 + 1 ≤ maxLen) (hbytes' : (n2 + 1) * bytes2 ≤ 140737488355328) :
  ∃ v' w' u' w'', (Builtin.append_ #[t, t] t #[v, .slice (some ⟨p, 0, none⟩) 1 1]).run P W = .ok v' w' ∧ (Builtin.append_ #[t2, t2] t2 #[v2, .slice (some ⟨w'.heap.size, 0, none⟩) 1 1]).run P (w'.alloc (.cells #[y] e2)) = .ok u' w'' ∧ w''.ownsRow B e 1 v' (n + 1) (xs ++ [x]) ∧ w''.ownsRow B e2 1 u' (n2 + 1) (xs2 ++ [y]) ∧ (∀ wb, Below B wb W → Below B wb w'') ∧ (∀ wb, Below B wb W → Below B wb w') := by
 obtain ⟨v', w', r1, o1, b1, k1, s1⟩ := app_gen t e z bytes ht hinfo hz1 h hB p x hp hx h63 hbytes;have hB' := Nat.le_trans hB s1;obtain ⟨u', w'', r2, o2, b2, k2, s2⟩ := app_gen t2 e2 z2 bytes2 ht2 hinfo2 hz2 (W := w'.alloc (.cells #[y] e2)) ((own_cross h2 k1 hne).alloc _) (Nat.le_trans hB' (by simp)) w'.heap.size y (Bk.new w' e2 #[y]) hy h63' hbytes';exact ⟨v', w', u', w'', r1, r2, own_cross (o1.alloc _) k2 hne.symm, o2, fun wb hb => b2 wb ((b1 wb hb).alloc hB' _), b1⟩
end Wv
namespace Go.Proofs.YtoeeblldgoccoaaGreat
open Go.RowKit Go.Proofs Wv Wv.Vi Wv.Rc Wv.Mo Wv.Ru Wv.Tm Wv.Bc
theorem six_ways {wr : World} {B n8 n9 : Nat} {v8 v9 : Value} {G : List Int} {Vs : List ByteArray} (h8 : wr.ownsRow B 3 1 v8 n8 (ivs G)) (h9 : wr.ownsRow B 9 1 v9 n9 (svs Vs)) (hB : B ≤ wr.heap.size) (g : Int) (S : ByteArray) (k8 : n8 ≤ 4096) (k9 : n9 ≤ 4096) :
  (∃ v' w' u' w'', (Builtin.append_ #[85, 85] 85 #[v8, .slice (some ⟨wr.heap.size, 0, none⟩) 1 1]).run Tryz.prog (wr.alloc (.cells #[.int .i64 g] 3)).drew = .ok v' w' ∧ (Builtin.append_ #[22, 22] 22 #[v9, .slice (some ⟨w'.heap.size, 0, none⟩) 1 1]).run Tryz.prog (w'.alloc (.cells #[.string S] 9)) = .ok u' w'' ∧ w''.ownsRow B 3 1 v' (n8 + 1) (ivs G ++ [.int .i64 g]) ∧ w''.ownsRow B 9 1 u' (n9 + 1) (svs Vs ++ [.string S]) ∧ (∀ wb, Below B wb wr → Below B wb w'') ∧ (∀ wb, Below B wb wr → Below B wb w')) ∧
  (∃ v' w' u' w'', (Builtin.append_ #[85, 85] 85 #[v8, .slice (some ⟨wr.heap.size, 0, none⟩) 1 1]).run Tryz.prog ((wr.alloc (.cells #[.int .i64 g] 3)).alloc (.cells #[.string S] 9)).drew = .ok v' w' ∧ (Builtin.append_ #[22, 22] 22 #[v9, .slice (some ⟨wr.heap.size + 1, 0, none⟩) 1 1]).run Tryz.prog w' = .ok u' w'' ∧ w''.ownsRow B 3 1 v' (n8 + 1) (ivs G ++ [.int .i64 g]) ∧ w''.ownsRow B 9 1 u' (n9 + 1) (svs Vs ++ [.string S]) ∧ (∀ wb, Below B wb wr → Below B wb w'')) ∧
  (∃ v' w' u' w'', (Builtin.append_ #[85, 85] 85 #[v8, .slice (some ⟨wr.heap.size + 1, 0, none⟩) 1 1]).run Tryz.prog ((wr.alloc (.cells #[.string S] 9)).alloc (.cells #[.int .i64 g] 3)).drew = .ok v' w' ∧ (Builtin.append_ #[22, 22] 22 #[v9, .slice (some ⟨wr.heap.size, 0, none⟩) 1 1]).run Tryz.prog w' = .ok u' w'' ∧ w''.ownsRow B 3 1 v' (n8 + 1) (ivs G ++ [.int .i64 g]) ∧ w''.ownsRow B 9 1 u' (n9 + 1) (svs Vs ++ [.string S]) ∧ (∀ wb, Below B wb wr → Below B wb w'')) ∧
  (∃ u' w' v' w'', (Builtin.append_ #[22, 22] 22 #[v9, .slice (some ⟨wr.heap.size, 0, none⟩) 1 1]).run Tryz.prog (wr.alloc (.cells #[.string S] 9)).drew = .ok u' w' ∧ (Builtin.append_ #[85, 85] 85 #[v8, .slice (some ⟨w'.heap.size, 0, none⟩) 1 1]).run Tryz.prog (w'.alloc (.cells #[.int .i64 g] 3)) = .ok v' w'' ∧ w''.ownsRow B 3 1 v' (n8 + 1) (ivs G ++ [.int .i64 g]) ∧ w''.ownsRow B 9 1 u' (n9 + 1) (svs Vs ++ [.string S]) ∧ (∀ wb, Below B wb wr → Below B wb w'')) ∧
  (∃ u' w' v' w'', (Builtin.append_ #[22, 22] 22 #[v9, .slice (some ⟨wr.heap.size + 1, 0, none⟩) 1 1]).run Tryz.prog ((wr.alloc (.cells #[.int .i64 g] 3)).alloc (.cells #[.string S] 9)).drew = .ok u' w' ∧ (Builtin.append_ #[85, 85] 85 #[v8, .slice (some ⟨wr.heap.size, 0, none⟩) 1 1]).run Tryz.prog w' = .ok v' w'' ∧ w''.ownsRow B 3 1 v' (n8 + 1) (ivs G ++ [.int .i64 g]) ∧ w''.ownsRow B 9 1 u' (n9 + 1) (svs Vs ++ [.string S]) ∧ (∀ wb, Below B wb wr → Below B wb w'')) ∧
  (∃ u' w' v' w'', (Builtin.append_ #[22, 22] 22 #[v9, .slice (some ⟨wr.heap.size, 0, none⟩) 1 1]).run Tryz.prog ((wr.alloc (.cells #[.string S] 9)).alloc (.cells #[.int .i64 g] 3)).drew = .ok u' w' ∧ (Builtin.append_ #[85, 85] 85 #[v8, .slice (some ⟨wr.heap.size + 1, 0, none⟩) 1 1]).run Tryz.prog w' = .ok v' w'' ∧ w''.ownsRow B 3 1 v' (n8 + 1) (ivs G ++ [.int .i64 g]) ∧ w''.ownsRow B 9 1 u' (n9 + 1) (svs Vs ++ [.string S]) ∧ (∀ wb, Below B wb wr → Below B wb w'')) := by
 have m8 : n8 + 1 ≤ maxLen := by unfold maxLen; omega
 have m9 : n9 + 1 ≤ maxLen := by unfold maxLen; omega
 have c8 : (n8 + 1) * 8 ≤ 140737488355328 := by omega
 have c9 : (n9 + 1) * 16 ≤ 140737488355328 := by omega
 have hne : 3 ≠ 9 := by decide
 have a1 := Bk.new wr 3 #[.int .i64 g];have b1 := Bk.new wr 9 #[.string S];have a2 := a1.alloc (.cells #[.string S] 9);have b2 := Bk.new (wr.alloc (.cells #[.int .i64 g] 3)) 9 #[.string S];have b3 := b1.alloc (.cells #[.int .i64 g] 3);have a3 := Bk.new (wr.alloc (.cells #[.string S] 9)) 3 #[.int .i64 g];rw [World.size_alloc] at b2 a3
 have s1 : ∀ o, B ≤ (wr.alloc o).heap.size := fun o => by rw [World.size_alloc]; omega
 have s2 : ∀ o o2, B ≤ ((wr.alloc o).alloc o2).heap.size := fun o o2 => by rw [World.size_alloc, World.size_alloc]; omega
 have d1 : ∀ o wb, Below B wb wr → Below B wb (wr.alloc o).drew := fun o wb h => (h.alloc hB o).drew
 have d2 : ∀ o o2 wb, Below B wb wr → Below B wb ((wr.alloc o).alloc o2).drew := fun o o2 wb h => ((h.alloc hB o).alloc (s1 o) o2).drew
 refine ⟨?_, ?_, ?_, ?_, ?_, ?_⟩
 ·obtain ⟨v', w', u', w'', r1, r2, o1, o2, hb, hb2⟩ := seq_lay 85 3 _ 8 Tryz.underlying85 intinf rfl 22 9 _ 16 Tryz.underlying22 strinf rfl hne (W := (wr.alloc (.cells #[.int .i64 g] 3)).drew) (h8.alloc _) (h9.alloc _) (s1 _) wr.heap.size (.int .i64 g) (.string S) a1 rfl rfl m8 c8 m9 c9
  exact ⟨v', w', u', w'', r1, r2, o1, o2, fun wb h => hb wb (d1 _ wb h), fun wb h => hb2 wb (d1 _ wb h)⟩
 ·obtain ⟨v', w', u', w'', r1, r2, o1, o2, hb⟩ := seq_two 85 3 _ 8 Tryz.underlying85 intinf rfl 22 9 _ 16 Tryz.underlying22 strinf rfl hne (W := ((wr.alloc (.cells #[.int .i64 g] 3)).alloc (.cells #[.string S] 9)).drew) ((h8.alloc _).alloc _) ((h9.alloc _).alloc _) (s2 _ _) wr.heap.size (wr.heap.size + 1) (.int .i64 g) (.string S) a2 b2 rfl rfl m8 c8 m9 c9
  exact ⟨v', w', u', w'', r1, r2, o1, o2, fun wb h => hb wb (d2 _ _ wb h)⟩
 ·obtain ⟨v', w', u', w'', r1, r2, o1, o2, hb⟩ := seq_two 85 3 _ 8 Tryz.underlying85 intinf rfl 22 9 _ 16 Tryz.underlying22 strinf rfl hne (W := ((wr.alloc (.cells #[.string S] 9)).alloc (.cells #[.int .i64 g] 3)).drew) ((h8.alloc _).alloc _) ((h9.alloc _).alloc _) (s2 _ _) (wr.heap.size + 1) wr.heap.size (.int .i64 g) (.string S) a3 b3 rfl rfl m8 c8 m9 c9
  exact ⟨v', w', u', w'', r1, r2, o1, o2, fun wb h => hb wb (d2 _ _ wb h)⟩
 ·obtain ⟨u', w', v', w'', r1, r2, o1, o2, hb, _⟩ := seq_lay 22 9 _ 16 Tryz.underlying22 strinf rfl 85 3 _ 8 Tryz.underlying85 intinf rfl hne.symm (W := (wr.alloc (.cells #[.string S] 9)).drew) (h9.alloc _) (h8.alloc _) (s1 _) wr.heap.size (.string S) (.int .i64 g) b1 rfl rfl m9 c9 m8 c8
  exact ⟨u', w', v', w'', r1, r2, o2, o1, fun wb h => hb wb (d1 _ wb h)⟩
 ·obtain ⟨u', w', v', w'', r1, r2, o1, o2, hb⟩ := seq_two 22 9 _ 16 Tryz.underlying22 strinf rfl 85 3 _ 8 Tryz.underlying85 intinf rfl hne.symm (W := ((wr.alloc (.cells #[.int .i64 g] 3)).alloc (.cells #[.string S] 9)).drew) ((h9.alloc _).alloc _) ((h8.alloc _).alloc _) (s2 _ _) (wr.heap.size + 1) wr.heap.size (.string S) (.int .i64 g) b2 a2 rfl rfl m9 c9 m8 c8
  exact ⟨u', w', v', w'', r1, r2, o2, o1, fun wb h => hb wb (d2 _ _ wb h)⟩
 ·obtain ⟨u', w', v', w'', r1, r2, o1, o2, hb⟩ := seq_two 22 9 _ 16 Tryz.underlying22 strinf rfl 85 3 _ 8 Tryz.underlying85 intinf rfl hne.symm (W := ((wr.alloc (.cells #[.string S] 9)).alloc (.cells #[.int .i64 g] 3)).drew) ((h9.alloc _).alloc _) ((h8.alloc _).alloc _) (s2 _ _) wr.heap.size (wr.heap.size + 1) (.string S) (.int .i64 g) b3 a3 rfl rfl m9 c9 m8 c8
  exact ⟨u', w', v', w'', r1, r2, o2, o1, fun wb h => hb wb (d2 _ _ wb h)⟩
theorem gaps_nat {l : List ByteArray} (h : l.length ≤ 4096) (st : ByteArray) : ((gapsT (exI l st)).map Int.toNat).map Int.ofNat = gapsT (exI l st) ∧ (∀ v ∈ (gapsT (exI l st)).map Int.toNat, v < 4611686018427387904) ∧ (gapsT (exI l st)).length = (exI l st).length := by
 have hv := exI_valid h st;unfold validT at hv;rw [Bool.and_eq_true] at hv;have hg := gp_in (l := exI l st) (last := -1) (by omega) hv.1;refine ⟨?_, fun v hv => ?_, gp_length _ _⟩
 ·rw [List.map_map]
  refine (List.map_congr_left fun n hn => ?_).trans (List.map_id _);exact Int.toNat_of_nonneg (hg n hn).1
 ·obtain ⟨u, hu, rfl⟩ := List.mem_map.1 hv
  have := hg u hu;omega
end Go.Proofs.YtoeeblldgoccoaaGreat
