/-
  Joined texts: Rl, Rm, Rn.
-/
import Derived.Test.YtoeeblldgoccoaaGreatL24
set_option linter.unusedVariables false
set_option linter.unusedSimpArgs false
set_option maxRecDepth 100000
set_option maxHeartbeats 8000000
namespace Go.Proofs.YtoeeblldgoccoaaGreat
open Go.RowKit Go.Proofs Wv Wv.Vi Wv.Rc Wv.Mo Wv.Ru
theorem encas_any {w : World} {A : Option Addr} {l : List ByteArray} (c : Int) (ha : At w A (svs l)) (hsz : ∀ s ∈ l, s.size ≤ 9223372036854775807) (n cap : Nat) (hn : n = l.length) (hm : n ≤ 9223372036854775807) :
  Calls Tryz.prog 145 #[.int .i64 c, .slice A n cap] w fun x w' => ERes w (encAs c l) x w' := by
 unfold encAs
 by_cases hc : c ≠ 0 ∧ c ≠ 1
 ·rw [if_pos hc]
  exact encas_arg c hc.1 hc.2 A n cap
 ·rw [if_neg hc]
  have hc01 : c = 0 ∨ c = 1 := by omega
  obtain ⟨c, rfl⟩ := Int.eq_ofNat_of_zero_le (show 0 ≤ c by omega)
  by_cases hb : 4096 < l.length ∨ ∃ s ∈ l, 128 < s.size
  ·rw [if_pos hb]
   exact encas_large c (by omega) ha hsz n cap hn hm hb
  ·rw [if_neg hb, Int.toNat_natCast]
   exact encas_front c (by omega) ha (fun s hs => by
    rcases Nat.lt_or_ge 128 s.size with h | h
    ·exact absurd (.inr ⟨s, hs, h⟩) hb
    ·exact h) n cap hn (by omega)
theorem encode_any {w : World} {A : Option Addr} {l : List ByteArray} (ha : At w A (svs l)) (hsz : ∀ s ∈ l, s.size ≤ 9223372036854775807) (n cap : Nat) (hn : n = l.length) (hm : n ≤ 9223372036854775807) :
  Calls Tryz.prog 104 #[.slice A n cap] w fun x w' => ERes w (enc l) x w' := by
 have H0 := hide (encas_any 0 ha hsz n cap hn hm);have H1 := hide (fun w' (h : Below w.heap.size w w') => encas_any 1 (ha.below h) hsz n cap hn hm);clear ha hn;unfold enc;unfold encAs at H0 H1;rw [if_neg (by decide)] at H0;simp only [show ¬ ((1 : Int) ≠ 0 ∧ (1 : Int) ≠ 1) from by decide, if_false] at H1
 by_cases hb : 4096 < l.length ∨ ∃ s ∈ l, 128 < s.size
 ·simp only [hb, if_true] at H0 ⊢
  clear H1 hb hsz
  go_enter Tryz.func104, Tryz.ntmps104
  go_wp2_with fail
  refine (H0.out).mono ?_;rintro x w1 ⟨rfl, hb1⟩
  go_wp2
  go_returns
  exact eres_err 9 hb1
 ·simp only [hb, if_false, show (0 : Int).toNat = 0 from rfl, show (1 : Int).toNat = 1 from rfl] at H0 H1 ⊢
  clear hb hsz;have hl0 := bs_size (encB 0 l);have hl1 := bs_size (encB 1 l)
  by_cases hlt : (encB 1 l).length < (encB 0 l).length
  ·rw [if_pos hlt]
   have hlt2 : ((bs (encB 1 l)).size : Int) < ((bs (encB 0 l)).size : Int) := by rw [hl0, hl1]; exact Int.ofNat_lt.2 hlt
   clear hlt hl0 hl1;obtain ⟨S0, hS0⟩ : ∃ S, bs (encB 0 l) = S := ⟨_, rfl⟩;have H0' : Hid (Calls Tryz.prog 145 #[.int .i64 0, .slice A n cap] w fun x w' => x = .returned (.tuple #[.string S0, .int .i64 0]) ∧ Below w.heap.size w w') := hide (by rw [← hS0]; exact H0.out);obtain ⟨S1, hS1⟩ : ∃ S, bs (encB 1 l) = S := ⟨_, rfl⟩;have H1' : Hid (∀ w', Below w.heap.size w w' → Calls Tryz.prog 145 #[.int .i64 1, .slice A n cap] w' fun x w2 => x = .returned (.tuple #[.string S1, .int .i64 0]) ∧ Below w'.heap.size w' w2) := hide (by rw [← hS1]; exact H1.out);rw [hS0, hS1] at hlt2;have Hr : Hid (∀ w', Below w.heap.size w w' → ERes w (encB 1 l, 0) (.returned (.tuple #[.string S1, .int .i64 0])) w') := hide (fun w' h => by rw [← hS1]; exact ⟨rfl, h⟩);clear H0 H1 hS0 hS1
   go_enter Tryz.func104, Tryz.ntmps104
   go_wp2_with fail
   refine (H0'.out).mono ?_;rintro x w1 ⟨rfl, hb1⟩
   go_wp2_with fail
   refine (H1'.out _ hb1).mono ?_;rintro x w2 ⟨rfl, hb2⟩;have hb := hb1.trans (hb2.mono hb1.size)
   go_wp2
   go_returns
   exact Hr.out _ hb
  ·rw [if_neg hlt]
   have hlt2 : ¬ ((bs (encB 1 l)).size : Int) < ((bs (encB 0 l)).size : Int) := by rw [hl0, hl1]; omega
   clear hlt hl0 hl1;obtain ⟨S0, hS0⟩ : ∃ S, bs (encB 0 l) = S := ⟨_, rfl⟩;have H0' : Hid (Calls Tryz.prog 145 #[.int .i64 0, .slice A n cap] w fun x w' => x = .returned (.tuple #[.string S0, .int .i64 0]) ∧ Below w.heap.size w w') := hide (by rw [← hS0]; exact H0.out);obtain ⟨S1, hS1⟩ : ∃ S, bs (encB 1 l) = S := ⟨_, rfl⟩;have H1' : Hid (∀ w', Below w.heap.size w w' → Calls Tryz.prog 145 #[.int .i64 1, .slice A n cap] w' fun x w2 => x = .returned (.tuple #[.string S1, .int .i64 0]) ∧ Below w'.heap.size w' w2) := hide (by rw [← hS1]; exact H1.out);rw [hS0, hS1] at hlt2;have Hr : Hid (∀ w', Below w.heap.size w w' → ERes w (encB 0 l, 0) (.returned (.tuple #[.string S0, .int .i64 0])) w') := hide (fun w' h => by rw [← hS0]; exact ⟨rfl, h⟩);clear H0 H1 hS0 hS1
   go_enter Tryz.func104, Tryz.ntmps104
   go_wp2_with fail
   refine (H0'.out).mono ?_;rintro x w1 ⟨rfl, hb1⟩
   go_wp2_with fail
   refine (H1'.out _ hb1).mono ?_;rintro x w2 ⟨rfl, hb2⟩;have hb := hb1.trans (hb2.mono hb1.size)
   go_wp2
   go_returns
   exact Hr.out _ hb
theorem numR_err {s : ByteArray} {e : Nat} (he : e ≠ 0) (most : Int) : numR s e most = (0, s, e) := by unfold numR; rw [if_neg he]
theorem takeR_err {s : ByteArray} {e : Nat} (he : e ≠ 0) (n : Int) : takeR s e n = (bs [], s, e) := by unfold takeR; rw [if_neg he]
theorem numR_some {s t : List UInt8} {n most : Nat} (h : rnum s most = some (n, t)) : numR (bs s) 0 (most : Int) = (n, bs t, 0) ∧ n ≤ most ∧ t.length ≤ s.length := by
 unfold rnum at h
 match hr : rd s with
 | none => rw [hr] at h; cases h
 | some (m, z) =>
  rw [hr] at h;simp only at h
  by_cases hm : most < m
  ·rw [if_pos hm] at h; cases h
  ·rw [if_neg hm] at h
   injection h with h
   injection h with h1 h2
   subst h1; subst h2
   exact ⟨numR_ok hr (by omega), by omega, by rw [List.length_drop]; omega⟩
theorem numR_nok {s : List UInt8} {most : Nat} (h : rnum s most = none) : ∃ e, e ≠ 0 ∧ numR (bs s) 0 (most : Int) = (0, bs s, e) := by
 unfold rnum at h
 match hr : rd s with
 | none => exact ⟨12, by decide, numR_none hr⟩
 | some (m, z) =>
  rw [hr] at h;simp only at h
  by_cases hm : most < m
  ·exact ⟨2, by decide, numR_far hr (by omega)⟩
  ·rw [if_neg hm] at h; cases h
theorem textR_err {s : ByteArray} {e : Nat} (he : e ≠ 0) (most : Int) : textR s e most = (bs [], s, e) := by
 unfold textR;rw [numR_err he];simp only;rw [takeR_err he];simp only;rw [if_neg he]
theorem textR_some {s t a : List UInt8} {most : Nat} (h : rtext s most = some (a, t)) : textR (bs s) 0 (most : Int) = (bs a, bs t, 0) ∧ a.length ≤ s.length ∧ t.length ≤ s.length ∧ a.length ≤ most := by
 unfold rtext at h
 match hr : rnum s most with
 | none => rw [hr] at h; cases h
 | some (n, u) =>
  rw [hr] at h;simp only at h;obtain ⟨h1, h2, h3⟩ := numR_some hr
  by_cases hm : u.length < n
  ·rw [if_pos hm] at h; cases h
  ·rw [if_neg hm] at h
   injection h with h
   injection h with h4 h5
   subst h4; subst h5
   have ht : takeR (bs u) 0 (n : Int) = (bs (u.take n), bs (u.drop n), 0) := by
    unfold takeR;rw [if_pos rfl, if_neg (by omega), if_neg (by rw [bs_size]; omega), Int.toNat_natCast, toL_bs]
   refine ⟨?_, by rw [List.length_take]; omega, by rw [List.length_drop]; omega, by rw [List.length_take]; omega⟩;unfold textR;rw [h1];simp only;rw [ht];simp only [if_true]
theorem textR_nok {s : List UInt8} {most : Nat} (h : rtext s most = none) : ∃ e, e ≠ 0 ∧ textR (bs s) 0 (most : Int) = (bs [], bs s, e) := by
 unfold rtext at h
 match hr : rnum s most with
 | none =>
  obtain ⟨e, h1, h2⟩ := numR_nok hr;refine ⟨e, h1, ?_⟩;unfold textR;rw [h2];simp only;rw [takeR_err h1];simp only;rw [if_neg h1]
 | some (n, u) =>
  rw [hr] at h;simp only at h;obtain ⟨h1, h2, h3⟩ := numR_some hr
  by_cases hm : u.length < n
  ·have ht : takeR (bs u) 0 (n : Int) = (bs [], bs u, 12) := by
    unfold takeR;rw [if_pos rfl, if_neg (by omega), if_pos (by rw [bs_size]; omega)]
   refine ⟨12, by decide, ?_⟩;unfold textR;rw [h1];simp only;rw [ht];simp only;rw [if_neg (by decide)]
  ·rw [if_neg hm] at h; cases h
theorem rtexts_go {n : Nat} {s t a : List UInt8} (h : rtext s 128 = some (a, t)) : rtexts (n + 1) s = (rtexts n t).map fun x => (bs a :: x.1, x.2) := by
 rw [rtexts, h];simp only
 cases rtexts n t <;> rfl
theorem rtexts_no {n : Nat} {s : List UInt8} (h : rtext s 128 = none) : rtexts (n + 1) s = none := by rw [rtexts, h]
theorem decn_good (s : List UInt8) (most : Int) : (∀ v ∈ (decn s most).1, 0 ≤ v) ∧ (decn s most).1.length ≤ 4096 := by
 unfold decn
 match rd s with
 | none => simp
 | some (n, z) =>
  simp only
  split
  ·simp
  ·split
   ·simp
   ·split
    ·simp
    ·split
     ·rename_i h
      refine ⟨h.2, ?_⟩;rw [(ndecs_nds n t0 (d0 (s.drop z))).1, nds_length];omega
     ·simp
theorem pad_setG {α : Type} (L : List α) (n : Nat) (v z : α) (h : L.length < n) : (L ++ List.replicate (n - L.length) z).set L.length v = (L ++ [v]) ++ List.replicate (n - (L.length + 1)) z := by
 rw [List.set_append_right _ _ (Nat.le_refl _), Nat.sub_self, show n - L.length = (n - (L.length + 1)) + 1 from by omega, List.replicate_succ, List.set_cons_zero]
 simp
def pcs (l : List (Int × Int)) : Array Value := (pv l).toArray
theorem pv_set (l : List (Int × Int)) : ∀ (k : Nat) (x : Int × Int), k < l.length → ((pv l).set (k * 2) (iv x.1)).set (k * 2 + 1) (iv x.2) = pv (l.set k x) := by
 induction l with
 | nil => intro k x h; simp at h
 | cons c D ih =>
  intro k x h;have e : pv (c :: D) = iv c.1 :: iv c.2 :: pv D := rfl
  match k, h with
  | 0, _ => rfl
  | k + 1, h =>
   have h' : k < D.length := by rw [List.length_cons] at h; omega
   have := ih k x h';rw [e, show (k + 1) * 2 = k * 2 + 1 + 1 from by omega, List.set_cons_succ, List.set_cons_succ, List.set_cons_succ, List.set_cons_succ, this];rfl
theorem pcs_set (l : List (Int × Int)) (k : Nat) (x : Int × Int) (h : k < l.length) : ((pcs l).setIfInBounds (k * 2) (.int .i64 x.1)).setIfInBounds (k * 2 + 1) (.int .i64 x.2) = pcs (l.set k x) := by
 apply Array.toList_inj.1
 have := pv_set l k x h;unfold iv at this
 simpa [pcs] using this
theorem pcs_get (l : List (Int × Int)) (k : Nat) (h : k < l.length) : (pcs l)[k * 2]? = some (.int .i64 l[k].1) ∧ (pcs l)[k * 2 + 1]? = some (.int .i64 l[k].2) := by
 have := pv_get l k h;unfold iv at this
 simpa [pcs] using this
theorem pv_zero (n : Nat) : ∀ i, i < n * 2 → (pv (List.replicate n (0, 0)))[i]? = some (.int .i64 0) := by
 induction n with
 | zero => intro i h; omega
 | succ n ih =>
  intro i h;have e : pv (List.replicate (n + 1) (0, 0)) = iv 0 :: iv 0 :: pv (List.replicate n (0, 0)) := rfl;rw [e]
  match i, h with
  | 0, _ => rfl
  | 1, _ => rfl
  | i + 2, h => rw [List.getElem?_cons_succ, List.getElem?_cons_succ]; exact ih i (by omega)
theorem mk_pairs {P : Program} (t e : TypeId) (ht : P.underlying t = some (.slice e)) (hinfo : (P.info? e).map (fun i => (i.zero, i.size, i.bytes)) = some (some (.agg #[.int .i64 0, .int .i64 0]), 2, 16))
  (m : Int) (n : Nat) (hm : m = n) (hb : n ≤ 4096) (w : World) :
  (Instr.makeSlice t (.int .i64 m) (.int .i64 m)).run P w = .ok (.slice (some ⟨w.heap.size, 0, none⟩) n n) (w.alloc (.cells (pcs (List.replicate n (0, 0))) e)) := by
 obtain ⟨i, hi, hz, hs, hby⟩ := info_parts hinfo;subst hm;have hr := run_make (P := P) w t e i _ ht hi hz .i64 .i64 (n : Int) (n : Int) (by omega) (by omega) (by rw [hby]; omega) (by omega);rw [hr, Int.toNat_natCast, hs]
 congr 3
 apply Array.ext
 ·simp [madeCells, pcs, pv_length]
 ·intro j h1 h2
  have h3 : j < n * 2 := by simpa [madeCells] using h1
  have h4 := pv_zero n j h3
  have h5 : (pcs (List.replicate n (0, 0)))[j]? = some (.int .i64 0) := by simpa [pcs] using h4
  rw [Array.getElem?_eq_getElem h2] at h5
  injection h5 with h5
  rw [h5]
  have hj : j % 2 = 0 ∨ j % 2 = 1 := by omega
  rcases hj with hj | hj <;> simp [madeCells, Value.cells, hj]
def RdRes (w : World) (r : Option (List ByteArray)) (x : Ending) (w' : World) : Prop := ∃ v, x = .returned (.tuple #[v, .bool r.isSome]) ∧ (∀ l, r = some l → SRes w' v l) ∧ Below w.heap.size w w'
theorem rdres_no {w w' : World} {v : Value} (hb : Below w.heap.size w w') : RdRes w none (.returned (.tuple #[v, .bool false])) w' := ⟨v, rfl, (fun l h => by cases h), hb⟩
theorem read_bad {w : World} (data : ByteArray) (hd : data.size ≤ 1099511627776) (c : Nat) (S1 : ByteArray) (e1 : Nat) (S : ByteArray) (e : Nat) (h1 : numR data 0 1 = (c, S1, e1)) (h2 : numR S1 e1 4096 = (0, S, e)) (he : e ≠ 0) (hs1 : S1.size ≤ data.size) :
  Calls Tryz.prog 160 #[.string data] w fun x w' => RdRes w none x w' := by
 have H0 := hide (vnew_any data w)
 have H1 := hide (fun W (h : RV W w.heap.size data 0) => by
  have := vnum_any h hd 1;rw [h1] at this
  exact this)
 have hsS : S.size ≤ S1.size := by
  have := numR_size (s := S1) (e := e1) (most := 4096);rw [h2] at this;exact this
 have H2 := hide (fun W (h : RV W w.heap.size S1 e1) => by
  have := vnum_any h (Nat.le_trans hs1 hd) 4096;rw [h2] at this
  exact this)
 have H3 := hide (fun W (h : RV W w.heap.size S e) => by
  have := vtext_any h (by omega) (data.size : Int);rw [textR_err he] at this
  exact this)
 have hne : ((e : Int) != 0) = true := by rw [bne_iff_ne]; omega
 clear h1 h2 he hsS hs1 hd
 go_enter Tryz.func160, Tryz.ntmps160
 go_wp2_with fail
 refine (H0.out).mono ?_;rintro x w1 ⟨rfl, hr1, hb1⟩
 go_wp2_with fail
 refine (H1.out _ hr1).mono ?_;rintro x w2 ⟨rfl, hr2, hf2⟩;have hb2 := only_below hb1 (Nat.le_refl _) hf2;clear hr1 hb1 hf2
 go_wp2_with fail
 refine (H2.out _ hr2).mono ?_;rintro x w3 ⟨rfl, hr3, hf3⟩;have hb3 := only_below hb2 (Nat.le_refl _) hf3;have Hr3 := hide hr3;clear hr2 hb2 hf3 hr3 H0 H1 H2
 go_wp2
 go_loopw [7, 23] (fun v7 i wr => v7 = .slice none 0 0 ∧ i = .int .i64 0 ∧ wr = w3) (fun _ i _ => 0)
 case atStart => exact ⟨rfl, rfl, rfl⟩
 case round =>
  obtain ⟨rfl, rfl, rfl⟩ := hrel
  go_wp2_with fail
  refine (H3.out _ Hr3.out).mono ?_;rintro x w4 ⟨rfl, hr4, hf4⟩;have H4 := hide (verr_any hr4);have hb4 := only_below hb3 (Nat.le_refl _) hf4;clear hr4 hf4 hb3
  go_wp2_with fail
  refine (H4.out).mono ?_;rintro x w5 ⟨rfl, rfl⟩
  go_wp2
  go_returns
  exact rdres_no hb4
theorem textR_cases (sk : List UInt8) (most : Nat) : ∃ t S e, textR (bs sk) 0 (most : Int) = (t, S, e) ∧ ((e = 0 ∧ ∃ a u, rtext sk most = some (a, u) ∧ t = bs a ∧ S = bs u ∧ u.length ≤ sk.length ∧ a.length ≤ sk.length ∧ a.length ≤ most) ∨ (e ≠ 0 ∧ rtext sk most = none)) := by
 match h : rtext sk most with
 | none =>
  obtain ⟨e, h1, h2⟩ := textR_nok h;exact ⟨_, _, e, h2, .inr ⟨h1, rfl⟩⟩
 | some (a, u) =>
  obtain ⟨h1, h2, h3, h4⟩ := textR_some h;exact ⟨_, _, 0, h1, .inl ⟨rfl, a, u, rfl, rfl, rfl, h3, h2, h4⟩⟩
theorem svs_snoc (l : List ByteArray) (s : ByteArray) : svs (l ++ [s]) = svs l ++ [.string s] := by simp [svs, sv]
theorem at_reader {w w' : World} {A : Option Addr} {l : List Int} {b e : Nat} {s s' : ByteArray} (ha : At w A (ivs l)) (h : RV w b s e) (h' : RV w' b s' e) (hf : Fr (only b) w w') : At w' A (ivs l) := by
 intro i hi;obtain ⟨b', o, hA, hb, hc⟩ := ha i hi;refine ⟨b', o, hA, Nat.lt_of_lt_of_le hb hf.size, ?_⟩
 by_cases e1 : b' = b
 ·subst e1
  have h1 := Bk.cell h (o + i);have h2 := Bk.cell h' (o + i);rw [h2];rw [hc] at h1;rw [h1]
  have hv : (ivs l)[i] = .int .i64 (l[i]'(by simpa [ivs] using hi)) := by simp [ivs, iv]
  rw [hv] at h1
  match o + i, h1 with
  | 0, h1 => simp at h1
  | 1, h1 => rfl
  | k + 2, h1 => simp at h1
 ·exact (hf.cell (p := ⟨b', _, none⟩) hb (fun e2 => e1 e2)).trans hc
theorem read_main {w : World} (data : ByteArray) (hd : data.size ≤ 1000000000) (c n : Nat) (s1 s2 : List UInt8) (h1 : rnum (toL data) 1 = some (c, s1)) (h2 : rnum s1 4096 = some (n, s2)) :
  Calls Tryz.prog 160 #[.string data] w fun x w' => RdRes w (readL (toL data)) x w' := by
 have hread : readL (toL data) = match rtexts n s2 with
   | none => none
   | some (ws, s3) =>
    match rtext s3 data.size with
    | none => none
    | some (a, s4) => fin c ws (decn a 4096) (decn s4 4096) := by
  unfold readL;rw [h1];simp only;rw [h2];rfl
 have Hread := hide hread;obtain ⟨n1, hc1, hl1⟩ := numR_some h1;obtain ⟨n2, hn4, hl2⟩ := numR_some h2;have n1' : numR data 0 1 = (c, bs s1, 0) := n1;have n2' : numR (bs s1) 0 4096 = (n, bs s2, 0) := n2;rw [toL_length] at hl1;have H0 := hide (vnew_any data w)
 have H1 := hide (fun W (h : RV W w.heap.size data 0) => by
  have := vnum_any h (by omega) 1;rw [n1'] at this
  exact this)
 have H2 := hide (fun W (h : RV W w.heap.size (bs s1) 0) => by
  have := vnum_any h (by rw [bs_size]; omega) 4096;rw [n2'] at this
  exact this)
 obtain ⟨i0, hi, hz0, hz1, hz2⟩ := info_parts strinf;have Hinf := hide (And.intro hi (And.intro hz0 (And.intro hz1 hz2)))
 have hl : s2.length ≤ data.size := by omega
 clear h1 h2 hread n1 n2 n1' n2' hl1 hl2 hi hz0 hz1 hz2
 go_enter Tryz.func160, Tryz.ntmps160
 go_wp2_with fail
 refine (H0.out).mono ?_;rintro x w1 ⟨rfl, hr1, hb1⟩
 go_wp2_with fail
 refine (H1.out _ hr1).mono ?_;rintro x w2 ⟨rfl, hr2, hf2⟩;have hb2 := only_below hb1 (Nat.le_refl _) hf2;clear hr1 hb1 hf2
 go_wp2_with fail
 refine (H2.out _ hr2).mono ?_;rintro x w3 ⟨rfl, hr3, hf3⟩;have hb3 := only_below hb2 (Nat.le_refl _) hf3;clear hr2 hb2 hf3 H0 H1 H2
 go_wp2
 go_loopw [7, 23] (fun v7 i wr => ∃ (ws : List ByteArray) (sk : List UInt8), ws.length ≤ n ∧ i = .int .i64 (ws.length : Nat) ∧ wr.ownsRow w.heap.size 9 1 v7 ws.length (svs ws) ∧ RV wr w.heap.size (bs sk) 0 ∧ sk.length ≤ data.size ∧ Hid (rtexts n s2 = (rtexts (n - ws.length) sk).map (fun x => (ws ++ x.1, x.2))) ∧ Below w.heap.size w wr) (fun _ i _ => (n - intOf i).toNat)
 case atStart => exact ⟨[], s2, by simp, rfl, own_nil, hr3, hl, hide (by simp), hb3⟩
 case round =>
  clear hr3 hb3;obtain ⟨ws, sk, hk, rfl, hown, hrv, hsk, hrt, hf⟩ := hrel;obtain ⟨A5, cap5, hv5, _⟩ := own_at hown;subst hv5;have Hown := hide hown;have Hrv := hide hrv
  by_cases hlt : ws.length < n
  ·obtain ⟨t, S, e, htx, hcase⟩ := textR_cases sk 128
   have H3 := hide (vtext_any hrv (by rw [bs_size]; omega) 128);have htx' : textR (bs sk) 0 128 = (t, S, e) := htx;rw [htx'] at H3
   have hnk : n - ws.length = (n - (ws.length + 1)) + 1 := by omega
   have Hcase := hide hcase;have Hrt := hide hrt.out;rw [hnk] at Hrt;have Hf := hide hf;have Hsk := hide hsk;clear hcase htx htx' hrt hown hrv hf hnk hsk
   go_wp2_with fail
   refine (H3.out).mono ?_;rintro x w4 ⟨rfl, hr4, hf4⟩;have ho4 := own_fr Hown.out hf4 (fun g hg (e : g = w.heap.size) => own_apart Hown.out Hrv.out (by decide) (e ▸ hg));have hb4 := only_below Hf.out (Nat.le_refl _) hf4;have Hr4 := hide hr4;have Ho4 := hide ho4;have Hb4 := hide hb4;have hbase := hb4.size
   have hp1 : ws.length + 1 ≤ maxLen := by unfold maxLen; omega
   have hp2 : (ws.length + 1) * 16 ≤ 140737488355328 := by omega
   clear hr4 ho4 hb4 hf4;obtain ⟨hi, hz0, hz1, hz2⟩ := Hinf.out
   go_wp2_with (
    at_builtin
    refine wpList_append_own_at _ rfl (.tmp 25) (.tmp 28) _ rfl w.heap.size 9 i0 (.string ByteArray.empty) 1 16 Tryz.underlying22 hi hz0 hz1 hz2 rfl (by omega) (.slice A5 ws.length cap5) ws.length (svs ws) (by rfl) (Ho4.out.alloc _) ⟨_, 0, none⟩ 1 1 [.string t] (by rfl) rfl (news_one _ _ _) (by simp [Value.oneCell']) hp1 hp2 (Nat.le_trans hbase (by simp)) ?_;intro v' w5 hown1 hg1 _ hat1;have Hown1 := hide hown1;have Hg1 := hide hg1
    clear hown1 hg1 hat1)
   have hr5 : RV w5 w.heap.size S e := Bk.grown (Bk.alloc Hr4.out (.cells #[.string t] 9)) Hg1.out (fun e => own_apart Ho4.out Hr4.out (by decide) e.symm);have hf5 : Below w.heap.size w w5 := (Hb4.out.alloc hbase (.cells #[.string t] 9)).grown Hg1.out (Nat.le_trans hbase (by simp)) (fun j hj => (Ho4.out.lt j hj).1)
   have ho5 : w5.ownsRow w.heap.size 9 1 v' (ws ++ [t]).length (svs (ws ++ [t])) := by
    have := Hown1.out;rw [List.length_append, svs_snoc];exact this
   have H4 := hide (verr_any hr5);have Hr5 := hide hr5;have Hf5 := hide hf5;have Ho5 := hide ho5;clear hr5 hf5 ho5 Hown1 Hg1 Ho4 Hr4 Hb4 hp1 hp2 hbase hi hz0 hz1 hz2
   go_wp2_with fail
   refine (H4.out).mono ?_;rintro x w6 ⟨rfl, rfl⟩
   rcases Hcase.out with ⟨he, a, u, hra, rfl, rfl, hul, _⟩ | ⟨he, hra⟩
   ·subst he
    have hm := Hrt.out;rw [rtexts_go hra] at hm
    have Hm : Hid (rtexts n s2 = (rtexts (n - (ws ++ [bs a]).length) u).map (fun x => (ws ++ [bs a] ++ x.1, x.2))) := hide (by
     rw [hm, List.length_append, Option.map_map]
     simp [Function.comp_def])
    have hlen : (ws ++ [bs a]).length = ws.length + 1 := by simp
    clear hm hra
    go_wp2
    go_roundw
    case rel => exact ⟨ws ++ [bs a], u, by omega, by rw [hlen]; go_num, Ho5.out, Hr5.out, Nat.le_trans hul Hsk.out, Hm, Hf5.out⟩
    case measure => simp [intOf] <;> omega
   ·have hm := Hrt.out
    rw [rtexts_no hra] at hm
    have hr : readL (toL data) = none := by
     rw [Hread.out, hm];rfl
    have Hr := hide hr
    have hne : ((e : Int) != 0) = true := by rw [bne_iff_ne]; omega
    clear hm hra hr he
    go_wp2
    go_returns
    rw [Hr.out];exact rdres_no Hf5.out
  ·have hk2 : n - ws.length = 0 := by omega
   have hrts := hrt.out;rw [hk2, rtexts] at hrts;simp only [Option.map_some, List.append_nil] at hrts;have hrd := Hread.out;rw [hrts] at hrd;simp only at hrd;have Hrd := hide hrd;obtain ⟨t, S, e, htx, hcase⟩ := textR_cases sk data.size;have H3 := hide (vtext_any hrv (by rw [bs_size]; omega) (data.size : Int));rw [htx] at H3;have Hcase := hide hcase;have Hf := hide hf
   have hwn : ws.length = n := by omega
   clear hcase htx hrt hrv hf hk2 hrts hrd Hread hown
   go_wp2_with fail
   refine (H3.out).mono ?_;rintro x w4 ⟨rfl, hr4, hf4⟩;have ho4 := own_fr Hown.out hf4 (fun g hg (e : g = w.heap.size) => own_apart Hown.out Hrv.out (by decide) (e ▸ hg));have hb4 := only_below Hf.out (Nat.le_refl _) hf4;have H4 := hide (verr_any hr4);have Hr4 := hide hr4;have Hb4 := hide hb4;have Ho4 := hide ho4;clear hr4 ho4 hb4 hf4 H3 Hown Hf
   go_wp2_with fail
   refine (H4.out).mono ?_;rintro x w6 ⟨rfl, rfl⟩;clear H4
   rcases Hcase.out with ⟨he, a, u, hra, rfl, rfl, hul, hal, ham⟩ | ⟨he, hra⟩
   ·subst he
    have hrd := Hrd.out;rw [hra] at hrd;simp only at hrd;have HD1 := hide (fun W => decodenums_any (w := W) a (by omega) 4096);have HD2 := hide (fun W => decodenums_any (w := W) u (by omega) 4096);obtain ⟨g1, k1⟩ := decn_good a 4096;obtain ⟨g2, k2⟩ := decn_good u 4096;have HL := hide (fun W (h : RV W w.heap.size (bs u) 0) => vleft_any h (by rw [bs_size]; omega))
    have HT := hide (fun W (h : RV W w.heap.size (bs u) 0) => by
     have := vtake_any h (by rw [bs_size]; omega) ((bs u).size : Int);rw [takeR_all] at this
     exact this)
    generalize decn a 4096 = DA at *
    generalize decn u 4096 = DB at *
    obtain ⟨LA, ea⟩ := DA;obtain ⟨LB, eb⟩ := DB;simp only at g1 k1 g2 k2;have Hrd2 := hide hrd;have G2 := hide g2;clear hrd hra Hcase Hrd hul g1 g2
    generalize bs a = SA at *
    generalize bs u = SU at *
    go_wp2_with fail
    refine (HD1.out _).mono ?_;rintro x w7 ⟨v7, rfl, ⟨A7, c7, rfl, hat7⟩, hb7⟩;have hlt4 := Bk.lt Hr4.out;have hr7 : RV w7 w.heap.size SU 0 := Bk.below Hr4.out hb7 hlt4;have hbb7 := Hb4.out.trans (hb7.mono Hb4.out.size);have ho7 := own_fr Ho4.out (Fr.of_below (S := nob) hb7) (fun g hg h => h);have HL' := hide (HL.out _ hr7);have HT' := hide (HT.out _ hr7);have Hat7 := hide hat7;have Ho7 := hide ho7;have Hbb7 := hide hbb7;have Hr7 := hide hr7;clear HL HT hr7 hat7 ho7 hbb7 hb7 hlt4 Ho4 Hr4 Hb4 HD1
    go_wp2_with fail
    refine (HL'.out).mono ?_;rintro x w8 ⟨rfl, rfl⟩
    go_wp2_with fail
    refine (HT'.out).mono ?_;rintro x w8 ⟨rfl, hr8, hf8⟩;have hbb8 := only_below Hbb7.out (Nat.le_refl _) hf8;have hat8 := at_reader Hat7.out Hr7.out hr8 hf8;have ho8 := own_fr Ho7.out hf8 (fun g hg (e : g = w.heap.size) => own_apart Ho7.out Hr7.out (by decide) (e ▸ hg));have Hat8 := hide hat8;have Ho8 := hide ho8;have Hbb8 := hide hbb8;clear hr8 hf8 hat8 ho8 hbb8 HL' HT' Hat7 Ho7 Hbb7 Hr7
    go_wp2_with fail
    refine (HD2.out _).mono ?_;rintro x w9 ⟨v9, rfl, ⟨B9, c9, rfl, hat9⟩, hb9⟩;simp only at hat9;have hatA := Hat8.out.below hb9;have ho9 := own_fr Ho8.out (Fr.of_below (S := nob) hb9) (fun g hg h => h);have hbb9 := Hbb8.out.trans (hb9.mono Hbb8.out.size);obtain ⟨AW, cW, hvW, hatW⟩ := own_at ho9
    injection hvW with hv1 hv2 hv3
    subst hv1; subst hv3
    have HatA := hide hatA;have HatB := hide hat9;have HatW := hide hatW;have Hbb9 := hide hbb9;clear hatA hat9 hatW hbb9 ho9 hb9 Hat8 Ho8 Hbb8 HD2 hv2;have hfin := Hrd2.out;unfold fin at hfin;simp only at hfin
    by_cases c1 : ea ≠ 0 ∨ eb ≠ 0 ∨ LA.length ≠ LB.length
    ·rw [if_pos c1] at hfin
     have Hr := hide hfin
     have q1 : ((ea : Int) != 0) = true ∨ (((ea : Int) != 0) = false ∧ ((eb : Int) != 0) = true) ∨ (((ea : Int) != 0) = false ∧ ((eb : Int) != 0) = false ∧ ((LA.length : Int) != (LB.length : Int)) = true) := by
      by_cases d1 : ea = 0
      ·by_cases d2 : eb = 0
       ·right; right
        refine ⟨by rw [d1]; rfl, by rw [d2]; rfl, by rw [bne_iff_ne]; omega⟩
       ·right; left
        refine ⟨by rw [d1]; rfl, by rw [bne_iff_ne]; omega⟩
      ·left
       rw [bne_iff_ne]; omega
     clear c1 hfin
     rcases q1 with q1 | ⟨q1, q2⟩ | ⟨q1, q2, q3⟩
     all_goals
      go_wp2
      go_returns
      rw [Hr.out];exact rdres_no Hbb9.out
    ·rw [if_neg c1] at hfin
     have d1 : ea = 0 := by omega
     have d2 : eb = 0 := by omega
     have d3 : LA.length = LB.length := by omega
     subst d1; subst d2
     have q3 : ((LA.length : Int) != (LB.length : Int)) = false := by rw [bne_eq_false_iff_eq]; omega
     have q1 : (((0 : Nat) : Int) != 0) = false := rfl;have HU := hide (punfront_any HatA.out LA.length c7 rfl (by omega))
     have hU0 : (unfront LA).2 = 0 → (unfront LA).1.length = LA.length := by
      unfold unfront
      split
      ·intro _
       simp [unfrontA_length]
      ·rename_i h
       intro h2;exact absurd h2 h
     have Hfin := hide hfin;have D3 := hide d3;clear c1 hfin d3 k2
     have hc01 : c = 1 ∨ c ≠ 1 := by omega
     go_upto_if 68 with fail
     go_cut [9] (fun s9 wx => ∃ (I : List Int) (A9 : Option Addr) (cap9 : Nat), s9 = .slice A9 LA.length cap9 ∧ I.length = LA.length ∧ At wx A9 (ivs I) ∧ Below w9.heap.size w9 wx ∧
      Hid (readL (toL data) = if ∃ v ∈ LB, 4096 ≤ v then none else if (expand ws (I.zip (LB.map (· + 1))) []).2 = 0 then some (expand ws (I.zip (LB.map (· + 1))) []).1 else none))
     case first =>
      rcases hc01 with h1 | h1
      ·have g0 : ((c : Int) == 1) = true := by rw [beq_iff_eq]; omega
       have hf2 := Hfin.out;simp only [h1, if_true, true_and] at hf2;clear h1 Hfin hc1;obtain ⟨U, hUe⟩ : ∃ U, unfront LA = U := ⟨_, rfl⟩;rw [hUe] at HU hU0 hf2;clear hUe;obtain ⟨UL, ue⟩ := U;simp only at hU0 hf2;have Hf2 := hide hf2;have HU0 := hide hU0;clear hf2 hU0
       go_wp2_with fail
       refine (HU.out).mono ?_;rintro x w10 ⟨v10, rfl, ⟨A10, c10, rfl, hat10⟩, hb10⟩;simp only at hat10;have Hat10 := hide hat10;clear hat10 HU;simp only [List.length_map]
       by_cases hue : ue = 0
       ·subst hue
        have hl := HU0.out rfl;have hf3 := Hf2.out;simp only [ne_eq, not_true, if_false] at hf3;have Hf3 := hide hf3;rw [hl];clear hf3 Hf2 HU0
        go_wp2
        go_meet
        case rel => exact ⟨UL.map Int.ofNat, A10, c10, rfl, by rw [List.length_map, hl], Hat10.out, hb10, Hf3⟩
       ·have hf3 := Hf2.out
        rw [if_pos hue] at hf3;have Hr := hide hf3;have hbb := Hbb9.out.trans (hb10.mono Hbb9.out.size)
        have q5 : ((ue : Int) != 0) = true := by rw [bne_iff_ne]; omega
        clear hf3 Hf2 HU0 hue
        go_wp2
        go_returns
        rw [Hr.out];exact rdres_no hbb
      ·have g0 : ((c : Int) == 1) = false := by rw [beq_eq_false_iff_ne]; omega
       have hf2 := Hfin.out;simp only [h1, if_false, false_and] at hf2;have Hf2 := hide hf2;clear h1 Hfin hc1 hU0 HU hf2
       go_wp2
       go_meet
       case rel => exact ⟨LA, A7, c7, rfl, rfl, HatA.out, Below.refl _ _, Hf2⟩
     case rest =>
      clear HU hU0 Hfin;obtain ⟨I, A9, cap9, rfl, hIl, hatI, hbI, hfinI⟩ := hcut;obtain ⟨Z, hZ⟩ : ∃ Z, I.zip (LB.map (· + 1)) = Z := ⟨_, rfl⟩
      have hZl : Z.length = LA.length := by rw [← hZ, List.length_zip, List.length_map, ← D3.out, hIl, Nat.min_self]
      have hfin2 := hfinI.out;rw [hZ] at hfin2;have HF2 := hide hfin2;have HZ := hide hZ;have hmk := mk_pairs (P := Tryz.prog) 129 132 Tryz.underlying129 repinf (LA.length : Int) LA.length rfl k1 wc;have HatBx := hide (HatB.out.below hbI);have HatWx := hide (HatW.out.below hbI);have HatI := hide hatI;have Hbbx := hide (Hbb9.out.trans (hbI.mono Hbb9.out.size));clear hfinI hfin2 hZ hatI hbI HatB HatW HatA Hbb9
      go_wp2
      go_loopw [14, 81] (fun _ i wr => ∃ k : Nat, k ≤ LA.length ∧ i = .int .i64 k ∧ Bk wr wc.heap.size 132 (pcs (Z.take k ++ List.replicate (LA.length - k) (0, 0))) ∧ Hid (∀ v ∈ LB.take k, v < 4096) ∧ Below wc.heap.size wc wr) (fun _ i _ => (LA.length - intOf i).toNat)
      case atStart => exact ⟨0, by omega, rfl, Bk.new _ _ _, hide (by simp), (Below.refl _ _).alloc (Nat.le_refl _) _⟩
      case round =>
       obtain ⟨k, hk, rfl, hbk, hall, hf⟩ := hrel
       by_cases hlt : k < LA.length
       ·have hkB : k < LB.length := by rw [← D3.out]; exact hlt
        have hkI : k < I.length := by rw [hIl]; exact hlt
        have hkZ : k < Z.length := by rw [hZl]; exact hlt
        obtain ⟨v, hv⟩ : ∃ v, LB[k] = v := ⟨_, rfl⟩;obtain ⟨y, hy⟩ : ∃ y, I[k] = y := ⟨_, rfl⟩
        have hzk : Z[k] = (y, v + 1) := by
         simp only [← HZ.out, List.getElem_zip, List.getElem_map, hy, hv]
        have hv0 := G2.out v (hv ▸ List.getElem_mem _);have hatB := HatBx.out.below hf;have hatI := HatI.out.below hf;obtain ⟨bB, oB, hB, hbB, hcB⟩ := hatB.get k (.int .i64 v) (by rw [← hv]; simp [ivs, iv, hkB]);obtain ⟨bI, oI, hI, hbI, hcI⟩ := hatI.get k (.int .i64 y) (by rw [← hy]; simp [ivs, iv, hkI])
        subst hB; subst hI
        by_cases hbig : (4096 : Int) ≤ v
        ·have hr := HF2.out
         rw [if_pos ⟨v, hv ▸ List.getElem_mem _, hbig⟩] at hr;have Hr := hide hr;have hbb := Hbbx.out.trans (hf.mono Hbbx.out.size);clear hr HF2 hv hy hzk hatB hatI hbk hmk
         go_wp2
         go_returns
         rw [Hr.out];exact rdres_no hbb
        ·have hlen : (Z.take k).length = k := by rw [List.length_take]; omega
         have hpad := pad_setG (Z.take k) LA.length (y, v + 1) (0, 0) (by omega);rw [hlen, ← hzk, ← List.take_succ_eq_append_getElem hkZ] at hpad
         have hwl : (Z.take k ++ List.replicate (LA.length - k) ((0, 0) : Int × Int)).length = LA.length := by rw [List.length_append, hlen, List.length_replicate]; omega
         obtain ⟨W, hW⟩ : ∃ W, Z.take k ++ List.replicate (LA.length - k) ((0, 0) : Int × Int) = W := ⟨_, rfl⟩;rw [hW] at hpad hwl hbk;obtain ⟨gc0, gc1⟩ := pcs_get W k (by omega);obtain ⟨m0, hc0⟩ : ∃ m : Int, wr.cell? ⟨wc.heap.size, k * 2, none⟩ = some (.int .i64 m) := ⟨_, (hbk.cell _).trans gc0⟩;obtain ⟨m1, hc1⟩ : ∃ m : Int, wr.cell? ⟨wc.heap.size, k * 2 + 1, none⟩ = some (.int .i64 m) := ⟨_, (hbk.cell _).trans gc1⟩;have hfz0 := hbk.frozen (k * 2);have hfz1 := hbk.frozen (k * 2 + 1);have hput := (hbk.put (k * 2) (.int .i64 y)).put (k * 2 + 1) (.int .i64 (v + 1));have hps := pcs_set W k (y, v + 1) (by omega);simp only at hps;rw [hps, ← hzk, hpad] at hput;have Hput := hide hput
         have hall2 : Hid (∀ u ∈ LB.take (k + 1), u < 4096) := hide (by
          intro u hu;rw [List.take_succ_eq_append_getElem hkB, hv] at hu
          rcases List.mem_append.1 hu with h | h
          ·exact hall.out u h
          ·rw [List.mem_singleton] at h; omega)
         have i2 : IntKind.i64.wrap (v + 1) = v + 1 := by rw [IntWalk.i64_in _ (by omega)]
         have hkn : (0 : Int) ≤ (k : Int) := by omega
         have hkm : (k : Int) < (LA.length : Int) := by omega
         have hkm2 : (k : Int) < (LB.length : Int) := by omega
         have Hf := hide hf;clear hput hps hpad hall hatB hatI hbk hmk hv hy hzk gc0 gc1 hW hwl hlen HF2 HZ HatBx HatWx HatI G2 hf
         go_upto_region 28 with fail
         go_region
         go_wp2
         go_roundw
         case rel => exact ⟨k + 1, by omega, by go_num, Hput.out, hall2, ((Hf.out.setCell (p := ⟨wc.heap.size, k * 2, none⟩) (Nat.le_refl _) _).setCell (p := ⟨wc.heap.size, k * 2 + 1, none⟩) (Nat.le_refl _) _).drew⟩
         case measure => simp [intOf] <;> omega
       ·have hkn : k = LA.length := by omega
        subst hkn;rw [Nat.sub_self, List.replicate_zero, List.append_nil, ← hZl, List.take_length] at hbk
        have hall2 : ¬ ∃ v ∈ LB, (4096 : Int) ≤ v := by
         rintro ⟨v, hv, h4⟩;have := hall.out v (by rw [D3.out, List.take_length]; exact hv);omega
        have hr := HF2.out;rw [if_neg hall2] at hr;have hatZ : At wr (some ⟨wc.heap.size, 0, none⟩) (pv Z) := hbk.at_;have hatW := HatWx.out.below hf;have hbb := Hbbx.out.trans (hf.mono Hbbx.out.size);have HE := hide (expand_any hatW hatZ n cap5 LA.length LA.length hwn.symm hZl.symm (by omega) (by omega));obtain ⟨⟨X, xe⟩, hX⟩ : ∃ x, expand ws Z [] = x := ⟨_, rfl⟩;rw [hX] at hr HE;simp only at hr;have Hr := hide hr;have Hbb := hide hbb;clear hX hr hbb hatZ hatW hall2 hall hbk hmk hf HF2 HZ HatBx HatWx HatI Hbbx
        go_wp2_with fail
        refine (HE.out).mono ?_;rintro x w11 ⟨v11, rfl, hs11, hb11⟩;simp only at hs11;have hbb := Hbb.out.trans (hb11.mono Hbb.out.size)
        by_cases hxe : xe = 0
        ·subst hxe
         have Hr2 : Hid (readL (toL data) = some X) := hide (by rw [Hr.out, if_pos rfl]);have Hs := hide hs11;clear Hr hs11 hb11
         go_wp2
         go_returns
         rw [Hr2.out];exact ⟨v11, rfl, (fun l h => by injection h with h; subst h; exact Hs.out), hbb⟩
        ·have Hr2 : Hid (readL (toL data) = none) := hide (by rw [Hr.out, if_neg hxe])
         have q9 : ((xe : Int) == 0) = false := by rw [beq_eq_false_iff_ne]; omega
         clear Hr hs11 hb11 hxe
         go_wp2
         go_returns
         rw [Hr2.out];exact rdres_no hbb
   ·have hr : readL (toL data) = none := by
     rw [Hrd.out, hra]
    have Hr := hide hr
    have hne : ((e : Int) != 0) = true := by rw [bne_iff_ne]; omega
    clear hra hr he Hrd Hcase
    go_wp2
    go_returns
    rw [Hr.out];exact rdres_no Hb4.out
end Go.Proofs.YtoeeblldgoccoaaGreat
