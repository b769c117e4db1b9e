/-
  Joined texts: Mh, Ra, Rb, Rc.
-/
import Derived.Test.YtoeeblldgoccoaaGreatL20
import Derived.Laws.CopyOwn
set_option linter.unusedVariables false
set_option linter.unusedSimpArgs false
set_option maxRecDepth 100000
set_option maxHeartbeats 8000000
namespace Go.Proofs.YtoeeblldgoccoaaGreat
open Go.RowKit Go.Proofs Wv Wv.Vi Wv.Rc Wv.Mo
def dl (s : List UInt8) (most : Int) : List Int × Nat :=
 match rd s with
 | none => ([], 12)
 | some (n, z) => if 4096 < n then ([], 12) else if most < (n : Int) then ([], 2) else if n = 0 then ([], if z < s.length then 12 else 0)
  else if dend (nds n t0 (d0 (s.drop z))).2.2 = true then ((nds n t0 (d0 (s.drop z))).1, 0) else ([], 12)
def LRes (w : World) (x : Ending) (w' : World) (r : List Int × Nat) : Prop := ∃ v, x = .returned (.tuple #[v, .int .i64 (r.2 : Int)]) ∧ IRes w' v r.1 ∧ Below w.heap.size w w'
theorem lres_err {w w' : World} (e : Nat) (hb : Below w.heap.size w w') : LRes w (.returned (.tuple #[.slice none 0 0, .int .i64 (e : Int)])) w' ([], e) := ⟨_, rfl, IRes.nil _, hb⟩
theorem numR_ok {s : List UInt8} {n z : Nat} {most : Int} (h : rd s = some (n, z)) (hm : ¬ most < (n : Int)) : numR (bs s) 0 most = (n, bs (s.drop z), 0) := by
 unfold numR;rw [if_pos rfl, toL_bs, h];simp only;rw [if_neg hm]
theorem numR_far {s : List UInt8} {n z : Nat} {most : Int} (h : rd s = some (n, z)) (hm : most < (n : Int)) : numR (bs s) 0 most = (0, bs s, 2) := by
 unfold numR;rw [if_pos rfl, toL_bs, h];simp only;rw [if_pos hm]
theorem numR_none {s : List UInt8} {most : Int} (h : rd s = none) : numR (bs s) 0 most = (0, bs s, 12) := by
 unfold numR;rw [if_pos rfl, toL_bs, h]
theorem only_below {w w1 w2 : World} {b : Nat} (h : Below w.heap.size w w1) (hb : w.heap.size ≤ b) (k : Fr (only b) w1 w2) : Below w.heap.size w w2 :=
 h.trans (k.toBelow' h.size (fun j hj e => by have : j = b := e; omega))
theorem decl_bad {w : World} (b : Nat) (s : List UInt8) (hs : s.length ≤ 1099511627776) (most : Int) (hd : rd s = none ∨ ∃ n z, rd s = some (n, z) ∧ 4096 < n) :
  Calls Tryz.prog 159 #[.iface 171 (.pointer (some ⟨b, 0, none⟩)), .string (bs s), .int .i64 4096, .int .i64 most] w fun x w' => LRes w x w' ([], 12) := by
 have hN : ∃ e, numR (bs s) 0 4096 = (0, bs s, e) ∧ e ≠ 0 := by
  rcases hd with h | ⟨n, z, h, h2⟩
  ·exact ⟨12, numR_none h, by omega⟩
  ·exact ⟨2, numR_far h (by omega), by omega⟩
 obtain ⟨e, hN, he⟩ := hN
 have hsz : (bs s).size ≤ 1099511627776 := by rw [bs_size]; exact hs
 have H1 := hide (vnew_any (bs s) w)
 have H2 := hide (fun W (h : RV W w.heap.size (bs s) 0) => by
  have := vnum_any h hsz 4096;rw [hN] at this
  exact this)
 have hne : ((e : Int) != 0) = true := by rw [bne_iff_ne]; omega
 clear hd hN he
 generalize bs s = S at *
 go_enter Tryz.func159, Tryz.ntmps159
 go_wp2_with fail
 refine (H1.out).mono ?_;rintro x w1 ⟨rfl, hr1, hb1⟩
 go_wp2_with fail
 refine (H2.out _ hr1).mono ?_;rintro x w2 ⟨rfl, hr2, hf2⟩;have H3 := hide (verr_any hr2);have hb2 := only_below hb1 (Nat.le_refl _) hf2;clear hr1 hr2 hb1 hf2
 go_wp2_with fail
 refine (H3.out).mono ?_;rintro x w3 ⟨rfl, rfl⟩
 go_wp2
 go_returns
 exact lres_err 12 hb2
theorem decl_far {w : World} (b : Nat) (s : List UInt8) (hs : s.length ≤ 1099511627776) (most : Int) {n z : Nat} (hd : rd s = some (n, z)) (hn : n ≤ 4096) (hm : most < (n : Int)) :
  Calls Tryz.prog 159 #[.iface 171 (.pointer (some ⟨b, 0, none⟩)), .string (bs s), .int .i64 4096, .int .i64 most] w fun x w' => LRes w x w' ([], 2) := by
 have hN := numR_ok (most := 4096) hd (by omega)
 have hsz : (bs s).size ≤ 1099511627776 := by rw [bs_size]; exact hs
 have H1 := hide (vnew_any (bs s) w)
 have H2 := hide (fun W (h : RV W w.heap.size (bs s) 0) => by
  have := vnum_any h hsz 4096;rw [hN] at this
  exact this)
 clear hd hN
 generalize bs s = S at *
 generalize bs (s.drop z) = S2 at *
 go_enter Tryz.func159, Tryz.ntmps159
 go_wp2_with fail
 refine (H1.out).mono ?_;rintro x w1 ⟨rfl, hr1, hb1⟩
 go_wp2_with fail
 refine (H2.out _ hr1).mono ?_;rintro x w2 ⟨rfl, hr2, hf2⟩;have H3 := hide (verr_any hr2);have hb2 := only_below hb1 (Nat.le_refl _) hf2;clear hr1 hr2 hb1 hf2
 go_wp2_with fail
 refine (H3.out).mono ?_;rintro x w3 ⟨rfl, rfl⟩
 go_wp2
 go_returns
 exact lres_err 2 hb2
theorem decl_zero {w : World} (b : Nat) (s : List UInt8) (hs : s.length ≤ 1099511627776) (most : Int) {z : Nat} (hd : rd s = some (0, z)) (hm : ¬ most < 0) (er : Nat) (her : er = if z < s.length then 12 else 0) :
  Calls Tryz.prog 159 #[.iface 171 (.pointer (some ⟨b, 0, none⟩)), .string (bs s), .int .i64 4096, .int .i64 most] w fun x w' => LRes w x w' ([], er) := by
 have hN := numR_ok (most := 4096) hd (by omega)
 have hsz : (bs s).size ≤ 1099511627776 := by rw [bs_size]; exact hs
 have H1 := hide (vnew_any (bs s) w)
 have H2 := hide (fun W (h : RV W w.heap.size (bs s) 0) => by
  have := vnum_any h hsz 4096;rw [hN] at this
  exact this)
 have hE : Hid (endR (bs (s.drop z)) 0 = er) := hide (by
  rw [her];unfold endR;rw [bs_size, List.length_drop]
  by_cases h : z < s.length
  ·rw [if_pos h, if_pos ⟨rfl, by omega⟩]
  ·rw [if_neg h, if_neg (by omega)])
 clear hd hN her
 generalize bs s = S at *
 generalize bs (s.drop z) = S2 at *
 go_enter Tryz.func159, Tryz.ntmps159
 go_wp2_with fail
 refine (H1.out).mono ?_;rintro x w1 ⟨rfl, hr1, hb1⟩
 go_wp2_with fail
 refine (H2.out _ hr1).mono ?_;rintro x w2 ⟨rfl, hr2, hf2⟩;have H3 := hide (verr_any hr2);have H4 := hide (vend_any hr2);have hb2 := only_below hb1 (Nat.le_refl _) hf2;clear hr1 hr2 hb1 hf2
 go_wp2_with fail
 refine (H3.out).mono ?_;rintro x w3 ⟨rfl, rfl⟩
 go_wp2_with fail
 refine (H4.out).mono ?_;rintro x w4 ⟨rfl, hf4⟩
 go_wp2
 go_returns
 rw [hE.out];exact lres_err _ (only_below hb2 (Nat.le_refl _) hf4)
theorem nds_step (k : Nat) (t : List Nat) (d : De) : nds (k + 1) t d = ((nds k t d).1 ++ [(ndec (nds k t d).2.1 (nds k t d).2.2).1], (ndec (nds k t d).2.1 (nds k t d).2.2).2) := rfl
theorem pad_set (L : List Int) (n : Nat) (v : Int) (h : L.length < n) : (L ++ List.replicate (n - L.length) 0).set L.length v = (L ++ [v]) ++ List.replicate (n - (L.length + 1)) 0 := by
 rw [List.set_append_right _ _ (Nat.le_refl _), Nat.sub_self, show n - L.length = (n - (L.length + 1)) + 1 from by omega, List.replicate_succ, List.set_cons_zero]
 simp
def DMain (w : World) (g : Nat) (D : List Int × List Nat × De) (x : Ending) (w' : World) : Prop :=
 ∃ v, x = .returned (.tuple #[v, .int .i64 (endV D.2.2)]) ∧ (dend D.2.2 = true → IRes w' v D.1) ∧ (dend D.2.2 = false → v = .slice none 0 0) ∧ Fr (only g) w w'
theorem takeR_all (T : List UInt8) : takeR (bs T) 0 ((bs T).size : Int) = (bs T, bs [], 0) := by
 unfold takeR;rw [if_pos rfl, if_neg (by omega), if_neg (by omega), Int.toNat_natCast, toL_bs, bs_size, List.take_length, List.drop_length]
theorem decl_main {w : World} {b g : Nat} (hna : NAt w b g t0) (s : List UInt8) (hs : s.length ≤ 1099511627776) (most : Int) {n z : Nat} (hd : rd s = some (n, z)) (hn : n ≤ 4096) (hn0 : 0 < n) (hm : ¬ most < (n : Int)) :
  Calls Tryz.prog 159 #[.iface 171 (.pointer (some ⟨b, 0, none⟩)), .string (bs s), .int .i64 4096, .int .i64 most] w fun x w' => DMain w g (nds n t0 (d0 (s.drop z))) x w' := by
 have hN := numR_ok (most := 4096) hd (by omega)
 have hsz : (bs s).size ≤ 1099511627776 := by rw [bs_size]; exact hs
 have H1 := hide (vnew_any (bs s) w)
 have H2 := hide (fun W (h : RV W w.heap.size (bs s) 0) => by
  have := vnum_any h hsz 4096;rw [hN] at this
  exact this)
 obtain ⟨T, hT⟩ : ∃ T, s.drop z = T := ⟨_, rfl⟩;rw [hT] at H2 ⊢
 have hTl : (bs T).size ≤ 1099511627776 := by rw [bs_size, ← hT, List.length_drop]; omega
 have htk := takeR_all T
 have H5 := hide (fun W (h : RV W w.heap.size (bs T) 0) => by
  have := vtake_any h hTl ((bs T).size : Int);rw [htk] at this
  exact this)
 have H6 := hide (dnew_any T)
 have hne0 : ((n : Int) == 0) = false := by rw [beq_eq_false_iff_ne]; omega
 have hdv := d0_v T;clear hd hN hT htk
 generalize bs s = S at *
 obtain ⟨S2, hS2⟩ : ∃ S2, bs T = S2 := ⟨_, rfl⟩;rw [hS2] at H2 H5 H6 hTl;have Hna := hide hna;have Hdv := hide hdv;clear hS2 hna hdv
 go_enter Tryz.func159, Tryz.ntmps159
 go_wp2_with fail
 refine (H1.out).mono ?_;rintro x w1 ⟨rfl, hr1, hb1⟩
 go_wp2_with fail
 refine (H2.out _ hr1).mono ?_;rintro x w2 ⟨rfl, hr2, hf2⟩;have H3 := hide (verr_any hr2);have H4 := hide (vleft_any hr2 (by omega));have hb2 := only_below hb1 (Nat.le_refl _) hf2;have Hr2 := hide hr2;clear hr1 hr2 hb1 hf2
 go_wp2_with fail
 refine (H3.out).mono ?_;rintro x w3 ⟨rfl, rfl⟩
 go_wp2_with fail
 refine (H4.out).mono ?_;rintro x w3 ⟨rfl, rfl⟩
 go_wp2_with fail
 refine (H5.out _ Hr2.out).mono ?_;rintro x w3 ⟨rfl, hr3, hf3⟩;have hb3 := only_below hb2 (Nat.le_refl _) hf3;clear hf3 hr3 H3 H4 Hr2 hb2
 go_wp2_with fail
 refine (H6.out _).mono ?_;rintro x w4 ⟨rfl, hd4, hb4⟩;have hs3 := hb3.size;have hs4 := hd4.lt;have hb5 := hb3.trans (hb4.mono hs3);have hn5 := Hna.out.below hb5;have hmk := mk_row (P := Tryz.prog) 85 3 _ _ Tryz.underlying85 intinf rfl (n : Int) n rfl (by omega) (by omega) w4;rw [ics_zero] at hmk;have Hn5 := hide hn5;have Hd4 := hide hd4;clear hb3 hb4 hn5 hd4
 go_wp2
 have hblt : b < w.heap.size := Hna.out.1.lt;have hglt : g < w.heap.size := Hna.out.2.lt
 go_loopw [14, 40] (fun _ i wr => ∃ k : Nat, k ≤ n ∧ i = .int .i64 k ∧ NAt wr b g (nds k t0 (d0 T)).2.1 ∧ DAt wr w3.heap.size (nds k t0 (d0 T)).2.2 ∧ Bk wr w4.heap.size 3 (ics ((nds k t0 (d0 T)).1 ++ List.replicate (n - k) 0)) ∧ Fr (only g) w wr) (fun _ i _ => (n - intOf i).toNat)
 case atStart => exact ⟨0, by omega, rfl, ⟨Hn5.out.1.alloc _, Hn5.out.2.alloc _⟩, Bk.alloc Hd4.out _, Bk.new _ _ _, (Fr.of_below hb5).alloc _⟩
 case round =>
  obtain ⟨k, hk, rfl, hnk, hdk, hbk, hfk⟩ := hrel;obtain ⟨kt, kv⟩ := nds_v k tnum_0 Hdv.out;have klen := nds_length k t0 (d0 T)
  by_cases hlt : k < n
  ·have hstep := nds_step k t0 (d0 T)
   generalize nds k t0 (d0 T) = X at *
   obtain ⟨L, tk, dk⟩ := X;simp only at kt kv klen hnk hdk hbk hstep;have hset := pad_set L n (ndec tk dk).1 (by omega);rw [klen] at hset;have Hc := hide (ndec_any hnk kt hdk kv);have hap := hnk.onl hdk
   have hobg : w4.heap.size ≠ g := by omega
   have hobd : w4.heap.size ≠ w3.heap.size := by omega
   obtain ⟨y, hy⟩ : ∃ y, (ndec tk dk).1 = y := ⟨_, rfl⟩;rw [hy] at hset Hc hstep;have Hst := hide hstep;have Hset := hide hset;have Hbk := hide hbk;have Hob := hide (And.intro hobg hobd);clear hstep hset hy hnk hdk kt kv hbk hmk hap hobg hobd
   go_wp2_with fail
   refine (Hc.out).mono ?_;rintro x w6 ⟨rfl, hn6, hd6, hf6⟩
   have hbk6 := Hbk.out.fr hf6 (fun hs => by
    rcases hs with hs | hs
    ·exact Hob.out.1 hs
    ·exact Hob.out.2 hs)
   have hln : (L ++ List.replicate (n - k) 0).length = n := by rw [List.length_append, List.length_replicate]; omega
   obtain ⟨y0, hck⟩ : ∃ y0 : Int, w6.cell? ⟨w4.heap.size, k, none⟩ = some (.int .i64 y0) := ⟨_, by rw [hbk6.cell, ics_get _ _ (by omega)]⟩;have hfz := hbk6.frozen k;have hput := hbk6.put k (.int .i64 y);rw [ics_set, Hset.out] at hput;have hn7 : NAt (w6.setCell ⟨w4.heap.size, k, none⟩ (.int .i64 y)) b g (ndec tk dk).2.1 := hn6.fr (S := only w4.heap.size) ((Fr.refl (only w4.heap.size) w6).setCell (p := ⟨w4.heap.size, k, none⟩) (.inl rfl) _) (fun e => by have : b = w4.heap.size := e; omega) (fun e => by have : g = w4.heap.size := e; omega);have hd7 : DAt (w6.setCell ⟨w4.heap.size, k, none⟩ (.int .i64 y)) w3.heap.size (ndec tk dk).2.2 := hd6.fr (S := only w4.heap.size) ((Fr.refl (only w4.heap.size) w6).setCell (p := ⟨w4.heap.size, k, none⟩) (.inl rfl) _) (fun e => by have : w3.heap.size = w4.heap.size := e; omega)
   have hf7 : Fr (only g) w (w6.setCell ⟨w4.heap.size, k, none⟩ (.int .i64 y)) := (hfk.trans' hf6 (fun i hi hs => by
    rcases hs with hs | hs
    ·exact hs
    ·omega)).setCell (p := ⟨w4.heap.size, k, none⟩) (.inr (by show w.heap.size ≤ w4.heap.size; omega)) _
   have Hput := hide hput;have Hn7 := hide hn7;have Hd7 := hide hd7;have Hf7 := hide hf7;clear hput hn7 hd7 hf7 hn6 hd6 hf6 hbk6 hfk Hbk hln
   go_wp2
   go_roundw
   case rel => exact ⟨k + 1, by omega, by go_num, by rw [Hst.out]; exact Hn7.out, by rw [Hst.out]; exact Hd7.out, by rw [Hst.out]; exact Hput.out, Hf7.out⟩
   case measure => simp [intOf] <;> omega
  ·have hkn : k = n := by omega
   subst hkn;rw [Nat.sub_self, List.replicate_zero, List.append_nil] at hbk;have Hend := hide (dend_any hdk);have hat := hbk.at_;have Hlen := hide klen;obtain ⟨D, hD⟩ : ∃ D, nds k t0 (d0 T) = D := ⟨_, rfl⟩;rw [hD] at Hend hat Hlen;have HD := hide hD;have Hat := hide hat;clear hD hbk hnk hdk kt kv hmk hat klen
   have hcase : dend D.2.2 = true ∨ dend D.2.2 = false := by cases dend D.2.2 <;> simp
   rcases hcase with hc | hc
   ·have hz := endV_0 hc
    rw [hz] at Hend;have Hc := hide hc;have Hz := hide hz;clear hc hz
    go_wp2_with fail
    refine (Hend.out).mono ?_;rintro x w6 ⟨rfl, rfl⟩
    go_wp2
    go_returns
    rw [HD.out];refine ⟨.slice (some ⟨w4.heap.size, 0, none⟩) k k, by rw [Hz.out]; rfl, fun _ => ⟨_, k, by rw [Hlen.out], Hat.out⟩, (fun h => by rw [Hc.out] at h; cases h), hfk⟩
   ·have hz := endV_1 hc
    rw [hz] at Hend;have Hc := hide hc;have Hz := hide hz;clear hc hz
    go_wp2_with fail
    refine (Hend.out).mono ?_;rintro x w6 ⟨rfl, rfl⟩
    go_wp2
    go_returns
    rw [HD.out];exact ⟨.slice none 0 0, by rw [Hz.out]; rfl, (fun h => by rw [Hc.out] at h; cases h), fun _ => rfl, hfk⟩
theorem decn_dl (s : List UInt8) (most : Int) : decn s most = if ∀ v ∈ (dl s most).1, 0 ≤ v then dl s most else ([], 12) := by
 unfold decn dl
 match rd s with
 | none => simp
 | some (n, z) =>
  simp only
  by_cases h1 : 4096 < n
  ·rw [if_pos h1, if_pos h1]; simp
  ·rw [if_neg h1, if_neg h1]
   by_cases h2 : most < (n : Int)
   ·rw [if_pos h2, if_pos h2]; simp
   ·rw [if_neg h2, if_neg h2]
    by_cases h3 : n = 0
    ·rw [if_pos h3, if_pos h3]; simp
    ·rw [if_neg h3, if_neg h3]
     obtain ⟨e1, e2⟩ := ndecs_nds n t0 (d0 (s.drop z));rw [e1, e2]
     by_cases h4 : dend (nds n t0 (d0 (s.drop z))).2.2 = true
     ·rw [if_pos h4]
      by_cases h5 : ∀ v ∈ (nds n t0 (d0 (s.drop z))).1, 0 ≤ v
      ·rw [if_pos ⟨h4, h5⟩, if_pos h5]
      ·rw [if_neg (fun h => h5 h.2), if_neg h5]
     ·rw [if_neg (fun h => h4 h.1), if_neg h4]; simp
def DLres (w : World) (g : Nat) (r : List Int × Nat) (x : Ending) (w' : World) : Prop := ∃ v, x = .returned (.tuple #[v, .int .i64 (r.2 : Int)]) ∧ IRes w' v r.1 ∧ Fr (only g) w w'
theorem decl_any {w : World} {b g : Nat} (hna : NAt w b g t0) (s : List UInt8) (hs : s.length ≤ 1099511627776) (most : Int) :
  Calls Tryz.prog 159 #[.iface 171 (.pointer (some ⟨b, 0, none⟩)), .string (bs s), .int .i64 4096, .int .i64 most] w fun x w' => DLres w g (dl s most) x w' := by
 have conv : ∀ {x w' e}, LRes w x w' ([], e) → dl s most = ([], e) → DLres w g (dl s most) x w' := by
  rintro x w' e ⟨v, h1, h2, h3⟩ h;rw [h];exact ⟨v, h1, h2, Fr.of_below h3⟩
 match hd : rd s with
 | none =>
  refine (decl_bad b s hs most (.inl hd)).mono ?_;intro x w' h;exact conv h (by unfold dl; rw [hd])
 | some (n, z) =>
  by_cases h1 : 4096 < n
  ·refine (decl_bad b s hs most (.inr ⟨n, z, hd, h1⟩)).mono ?_
   intro x w' h;exact conv h (by unfold dl; rw [hd]; simp only; rw [if_pos h1])
  ·by_cases h2 : most < (n : Int)
   ·refine (decl_far b s hs most hd (by omega) h2).mono ?_
    intro x w' h;exact conv h (by unfold dl; rw [hd]; simp only; rw [if_neg h1, if_pos h2])
   ·by_cases h3 : n = 0
    ·subst h3
     refine (decl_zero b s hs most hd (by omega) _ rfl).mono ?_;intro x w' h;exact conv h (by unfold dl; rw [hd]; simp only; rw [if_neg h1, if_neg h2]; simp only [if_true])
    ·refine (decl_main hna s hs most hd (by omega) (by omega) h2).mono ?_
     rintro x w' ⟨v, hx, ht, hf, hfr⟩
     have e : dl s most = if dend (nds n t0 (d0 (s.drop z))).2.2 = true then ((nds n t0 (d0 (s.drop z))).1, 0) else ([], 12) := by
      unfold dl; rw [hd]; simp only; rw [if_neg h1, if_neg h2, if_neg h3]
     rw [e]
     by_cases hc : dend (nds n t0 (d0 (s.drop z))).2.2 = true
     ·rw [if_pos hc]
      rw [endV_0 hc] at hx;exact ⟨v, hx, ht hc, hfr⟩
     ·have hc2 : dend (nds n t0 (d0 (s.drop z))).2.2 = false := by simpa using hc
      rw [if_neg hc];rw [endV_1 hc2] at hx;have := hf hc2;subst this;exact ⟨_, hx, IRes.nil _, hfr⟩
theorem LRes.of {w w' : World} {x : Ending} {r : List Int × Nat} {v : Value} (h1 : x = .returned (.tuple #[v, .int .i64 (r.2 : Int)])) (h2 : IRes w' v r.1) (h3 : Below w.heap.size w w') : LRes w x w' r := ⟨v, h1, h2, h3⟩
theorem decodenums_any {w : World} (s : List UInt8) (hs : s.length ≤ 1099511627776) (most : Int) :
  Calls Tryz.prog 136 #[.string (bs s), .int .i64 most] w fun x w' => LRes w x w' (decn s most) := by
 have H1 := hide (nnew_any w);have H2 := hide (fun W b g (h : NAt W b g t0) => decl_any h s hs most);have Hdn := hide (decn_dl s most)
 have hll : (dl s most).1.length ≤ 9223372036854775807 := by
  unfold dl
  split
  ·simp
  ·split
   ·simp
   ·split
    ·simp
    ·split
     ·split <;> simp
     ·split
      ·rw [nds_length]; omega
      ·simp
 generalize dl s most = r at *
 obtain ⟨l, er⟩ := r;simp only at Hdn hll
 generalize bs s = S at *
 go_enter Tryz.func136, Tryz.ntmps136
 go_wp2_with fail
 refine (H1.out).mono ?_;rintro x w1 ⟨b, rfl, hwb, hn1, hb1⟩
 go_wp2_with fail
 refine (H2.out _ _ _ hn1).mono ?_;rintro x w2 ⟨v, rfl, ⟨A, cap, rfl, hat⟩, hf2⟩;have hb2 : Below w.heap.size w w2 := hb1.trans (hf2.toBelow' hb1.size (fun j hj e => by have : j = w.heap.size := e; omega));simp only at hat;have Hat := hide hat;clear hat hf2 hb1 hn1
 go_wp2
 go_loop [9, 20] (fun _ i => ∃ k : Nat, k ≤ l.length ∧ i = .int .i64 k ∧ Hid (∀ v ∈ l.take k, 0 ≤ v)) (fun _ i => (l.length - intOf i).toNat)
 case atStart => exact ⟨0, by omega, rfl, hide (by simp)⟩
 case round =>
  obtain ⟨k, hk, rfl, hall⟩ := hrel
  by_cases hlt : k < l.length
  ·obtain ⟨v, hv⟩ : ∃ v, l.getD k 0 = v := ⟨_, rfl⟩
   have hlk : l[k] = v := by rw [← hv]; simp [List.getD, hlt]
   obtain ⟨bA, oA, hA, hbA, hcA⟩ := Hat.out.get k (.int .i64 v) (by rw [ivs_get _ _ hlt, hv]);subst hA
   by_cases hneg : v < 0
   ·have hno : ¬ ∀ u ∈ l, 0 ≤ u := fun h => by have := h v (hlk ▸ List.getElem_mem _); omega
    have Hr : Hid (decn s most = ([], 12)) := hide (by rw [Hdn.out, if_neg hno]);clear hno hv hlk
    go_wp2
    go_returns
    rw [Hr.out];exact lres_err 12 hb2
   ·have hall2 : Hid (∀ u ∈ l.take (k + 1), 0 ≤ u) := hide (by
     intro u hu;rw [List.take_succ_eq_append_getElem hlt, hlk] at hu
     rcases List.mem_append.1 hu with h | h
     ·exact hall.out u h
     ·rw [List.mem_singleton] at h; omega)
    clear hv hlk
    go_wp2
    go_round
    case rel => exact ⟨k + 1, by omega, by go_num, hall2⟩
    case measure => simp [intOf] <;> omega
  ·have hall2 : ∀ u ∈ l, 0 ≤ u := by
    have := hall.out
    rwa [List.take_of_length_le (by omega)] at this
   have Hr : Hid (decn s most = (l, er)) := hide (by rw [Hdn.out, if_pos hall2]);clear hall2
   go_wp2
   go_returns
   rw [Hr.out];exact LRes.of rfl ⟨A, cap, rfl, Hat.out⟩ hb2
open Wv.Ru
def rowp (j : Nat) : List Nat := List.range j ++ List.replicate (4096 - j) 0
theorem rowp_set (j : Nat) (h : j < 4096) : (rowp j).set j j = rowp (j + 1) := by
 unfold rowp;rw [List.set_append_right _ _ (by simp), List.length_range, Nat.sub_self, show 4096 - j = (4096 - (j + 1)) + 1 from by omega, List.replicate_succ, List.set_cons_zero, List.range_succ, List.append_assoc];rfl
theorem rowp_length (j : Nat) (h : j ≤ 4096) : (rowp j).length = 4096 := by simp [rowp]; omega
theorem rowp_all : rowp 4096 = r0 := by unfold rowp r0; rw [Nat.sub_self, List.replicate_zero, List.append_nil]
theorem rowp_none (n : Nat) : nc (List.replicate n 0) = Array.replicate n (.int .i64 0) := by
 apply Array.toList_inj.1
 simp [nc]
theorem row_any (w : World) :
  Calls Tryz.prog 224 #[] w fun x w' => x = .returned (.slice (some ⟨w.heap.size, 0, none⟩) 4096 4096) ∧ Bk w' w.heap.size 3 (nc r0) ∧ Below w.heap.size w w' := by
 have hmk := mk_row (P := Tryz.prog) 85 3 _ _ Tryz.underlying85 intinf rfl 4096 4096 rfl (by omega) (by omega) w;rw [← rowp_none] at hmk
 have h0 : List.replicate 4096 0 = rowp 0 := by unfold rowp; rw [List.range_zero, List.nil_append]
 rw [h0] at hmk;clear h0
 go_enter Tryz.func224, Tryz.ntmps224
 go_wp2
 go_loopw [2, 6] (fun _ i wr => ∃ j : Nat, j ≤ 4096 ∧ i = .int .i64 j ∧ Bk wr w.heap.size 3 (nc (rowp j)) ∧ Below w.heap.size w wr) (fun _ i _ => (4096 - intOf i).toNat)
 case atStart => exact ⟨0, by omega, rfl, Bk.new _ _ _, (Below.refl _ _).alloc (Nat.le_refl _) _⟩
 case round =>
  obtain ⟨j, hj, rfl, hbk, hf⟩ := hrel
  by_cases hlt : j < 4096
  ·have hc := hbk.cell j
   rw [nc_get _ _ (by rw [rowp_length j hj]; exact hlt)] at hc;have fc := hbk.frozen j;have hp := hbk.put j (.int .i64 (j : Int));rw [nc_set, rowp_set j hlt] at hp;have Hp := hide hp
   have hlt2 : (j : Int) < 4096 := by omega
   clear hp hbk hmk hlt
   go_wp2
   go_roundw
   case rel => exact ⟨j + 1, by omega, by go_num, Hp.out, hf.setCell (p := ⟨w.heap.size, j, none⟩) (Nat.le_refl _) _⟩
   case measure => simp [intOf] <;> omega
  ·have hj64 : j = 4096 := by omega
   subst hj64;rw [rowp_all] at hbk;clear hmk
   go_wp2
   go_ret
   exact ⟨rfl, hbk, hf⟩
theorem sindex_any {w : World} {g : Nat} {r : List Nat} (h : Bk w g 3 (nc r)) (hr : r.length = 4096) (n : Nat) (hn : n ∈ r) :
  Calls Tryz.prog 213 #[.slice (some ⟨g, 0, none⟩) 4096 4096, .int .i64 (n : Int)] w fun x w' => x = .returned (.int .i64 (ix r n : Nat)) ∧ w = w' := by
 have H := hide h;have Hn := hide hn;have Hr := hide hr
 have hle : ix r n < 4096 := by rw [← hr]; exact ix_lt.2 hn
 clear h hn hr
 go_enter Tryz.func213, Tryz.ntmps213
 go_wp2
 go_loop [5, 8] (fun _ i => ∃ j : Nat, j ≤ ix r n ∧ i = .int .i64 j) (fun _ i => (4096 - intOf i).toNat)
 case atStart => exact ⟨0, by omega, rfl⟩
 case round =>
  obtain ⟨j, hj, rfl⟩ := hrel;have hc := H.out.cell j;rw [nc_get _ _ (by rw [Hr.out]; omega)] at hc
  have hj2 : (j : Int) < 4096 := by omega
  obtain ⟨y, hy⟩ : ∃ y, r.getD j 0 = y := ⟨_, rfl⟩
  have hjy : r[j]? = some y := by
   have hjl : j < r.length := by rw [Hr.out]; omega
   rw [List.getElem?_eq_getElem hjl, ← hy]
   simp [List.getD, hjl]
  rw [hy] at hc
  by_cases hlt : j < ix r n
  ·have hne : ((n : Int) == (y : Int)) = false := by
    rw [beq_eq_false_iff_ne];intro e
    have : n = y := by omega
    exact ix_before j hlt (this ▸ hjy)
   clear hy hjy
   go_wp2
   go_round
   case rel => exact ⟨j + 1, by omega, by go_num⟩
   case measure => simp [intOf] <;> omega
  ·have hje : j = ix r n := by omega
   have hne : ((n : Int) == (y : Int)) = true := by
    rw [beq_iff_eq];have := ix_get? Hn.out;rw [← hje, hjy] at this
    injection this with this
    omega
   have Hje := hide hje;clear hy hjy hje
   go_wp2
   go_ret
   exact ⟨ret_int (by rw [Hje.out]), rfl⟩
theorem front1_any {w : World} {g : Nat} {r : List Nat} (h : Bk w g 3 (nc r)) (hr : r.length = 4096) (n : Nat) (hn : n ∈ r) :
  Calls Tryz.prog 212 #[.slice (some ⟨g, 0, none⟩) 4096 4096, .int .i64 (n : Int)] w fun x w' => x = .returned (.tuple #[.int .i64 (ix r n : Nat), .int .i64 (ix r n : Nat)]) ∧ w = w' := by
 have H := hide (sindex_any h hr n hn)
 go_enter Tryz.func212, Tryz.ntmps212
 go_wp2_with fail
 refine (H.out).mono ?_;rintro x w1 ⟨rfl, rfl⟩
 go_wp2
 go_ret2
 exact ⟨rfl, rfl⟩
theorem unfront1_any {w : World} {g : Nat} {r : List Nat} (h : Bk w g 3 (nc r)) (hr : r.length = 4096) (n : Nat) (hn : n < 4096) :
  Calls Tryz.prog 221 #[.slice (some ⟨g, 0, none⟩) 4096 4096, .int .i64 (n : Int)] w fun x w' => x = .returned (.tuple #[.int .i64 (r.getD n 0 : Nat), .int .i64 (n : Int)]) ∧ w = w' := by
 have hc := h.cell n;rw [nc_get _ _ (by rw [hr]; exact hn)] at hc
 have hn2 : (n : Int) < 4096 := by omega
 obtain ⟨y, hy⟩ : ∃ y, r.getD n 0 = y := ⟨_, rfl⟩;rw [hy] at hc ⊢;clear h hr hn hy
 go_enter Tryz.func221, Tryz.ntmps221
 go_wp2
 go_ret2
 exact ⟨rfl, rfl⟩
end Go.Proofs.YtoeeblldgoccoaaGreat
namespace Wv
open Go Go.RowKit
theorem fr_setRow {S : Nat → Prop} {a w : World} {g : Nat} (h : Fr S a w) (hg : S g) (cs : Array Value) : Fr S a (w.setRow g cs) :=
 h.trans ⟨rfl, rfl, rfl, by simp [World.setRow], fun k hk hn => setRow_other w g k cs (fun e => hn (e ▸ hg))⟩
end Wv
namespace Go.Proofs.YtoeeblldgoccoaaGreat
open Go.RowKit Go.Proofs Wv Wv.Vi Wv.Rc Wv.Mo Wv.Ru
theorem movef_zero (r : List Nat) (h : 0 < r.length) : movef r 0 = r := by
 unfold movef
 match r with
 | a :: t => rfl
theorem movef_pos (r : List Nat) (p : Nat) (h : p < r.length) : (r.take 1 ++ r.take p ++ r.drop (1 + p)).set 0 (r.getD p 0) = movef r p := by
 unfold movef
 match r, h with
 | a :: t, h =>
  rw [List.eraseIdx_eq_take_drop_succ, Nat.add_comm 1 p];rfl
theorem nc_list (t : List Nat) : (nc t).toList = t.map (fun n : Nat => (Value.int .i64 (n : Int))) := by simp [nc]
theorem intsz : (Tryz.prog.info? 3).map (·.size) = some 1 := by kernel_rfl
theorem move_zero {w : World} {g : Nat} {r : List Nat} (h : Bk w g 3 (nc r)) (hr : r.length = 4096) :
  Calls Tryz.prog 225 #[.slice (some ⟨g, 0, none⟩) 4096 4096, .int .i64 0] w fun x w' => x = .returned (.slice (some ⟨g, 0, none⟩) 4096 4096) ∧ Bk w' g 3 (nc (movef r 0)) ∧ Fr (only g) w w' := by
 have hc := h.cell 0;rw [nc_get _ _ (by rw [hr]; omega)] at hc;have hfz := h.frozen 0;have hput := h.put 0 (.int .i64 ((r.getD 0 0 : Nat) : Int))
 have hset : r.set 0 (r.getD 0 0) = movef r 0 := by
  rw [movef_zero r (by omega)]
  match r, hr with
  | a :: t, _ => rfl
 rw [nc_set, hset] at hput;obtain ⟨y, hy⟩ : ∃ y, r.getD 0 0 = y := ⟨_, rfl⟩
 have hw1 : IntKind.i64.wrap 1 = 1 := by rw [IntWalk.i64_in _ (by omega)]
 rw [hy] at hc hput;have hrun := run_copy_none (P := Tryz.prog) w.drew 85 85 3 3 (some ⟨g, 0, none⟩) (some ⟨g, 0, none⟩) 0 0 0 0 Tryz.underlying85 intsz rfl;have Hput := hide hput;clear h hput hset hy
 go_enter Tryz.func225, Tryz.ntmps225
 go_wp2
 go_region
 go_wp2
 go_ret
 exact ⟨rfl, by have := Hput.out.drew; exact this, ((Fr.refl (only g) w).setCell (p := ⟨g, 0, none⟩) (.inl rfl) _).drew⟩
theorem move_pos {w : World} {g : Nat} {r : List Nat} (h : Bk w g 3 (nc r)) (hr : r.length = 4096) (p : Nat) (hp : p < 4096) (hp0 : 0 < p) :
    Calls Tryz.prog 225 #[.slice (some ⟨g, 0, none⟩) 4096 4096, .int .i64 (p : Int)] w fun x w' => x = .returned (.slice (some ⟨g, 0, none⟩) 4096 4096) ∧ Bk w' g 3 (nc (movef r p)) ∧ Fr (only g) w w' := by
  have hc := h.cell p;rw [nc_get _ _ (by rw [hr]; omega)] at hc
  have hp1 : (p : Int) < 4096 := by omega
  have hp2 : IntKind.i64.wrap ((p : Int) + 1) = (p : Int) + 1 := by rw [IntWalk.i64_in _ (by omega)]
  have hp3 : (1 : Int) ≤ (p : Int) := by omega
  have hp4 : (p : Int) + 1 ≤ 4096 := by omega
  have hp5 : (0 : Int) ≤ (p : Int) + 1 := by omega
  have hp6 : max ((p : Int) + 1) 0 = (p : Int) + 1 := by omega
  have hp7 : (1 : Int) ≤ (p : Int) + 1 := by omega
  have hp8 : ((p : Int) + 1).toNat = p + 1 := by omega
  have hp9 : ¬ p = 0 := by omega
  have hp10 : (0 : Int) ≤ (p : Int) := by omega
  have hp11 : (p : Int) ≤ 4096 := by omega
  have hrun := run_copy_row (P := Tryz.prog) w.drew 85 85 3 3 g 1 p p ⟨g, 0, none⟩ p p (nc r) 3 ((r.take p).map (fun n : Nat => (Value.int .i64 (n : Int)))) Tryz.underlying85 intsz h (by simp; omega) (fun j v hv => by
      rw [Go.WideShapes.add_plain, Nat.zero_add];have h1 := h.cell j
      show w.cell? _ = _
      rw [h1, ← Array.getElem?_toList, nc_list];rw [List.map_take, List.getElem?_take] at hv
      split at hv
      · exact hv
      · cases hv) (by simp [nc]; omega) (fun v hv => by
      obtain ⟨n, _, rfl⟩ := List.mem_map.1 hv
      rfl)
  obtain ⟨C, hC⟩ : ∃ C, ((nc r).toList.take 1 ++ (r.take p).map (fun n : Nat => (Value.int .i64 (n : Int))) ++ (nc r).toList.drop (1 + ((r.take p).map (fun n : Nat => (Value.int .i64 (n : Int)))).length)).toArray = C := ⟨_, rfl⟩;rw [hC] at hrun
  have hCn : C = nc (r.take 1 ++ r.take p ++ r.drop (1 + p)) := by
    rw [← hC]
    apply Array.toList_inj.1
    rw [nc_list, nc_list, List.length_map, List.length_take, show min p r.length = p from by omega]
    simp [List.map_take, List.map_drop]
  have hbk : Bk (w.drew.setRow g C) g 3 C := setRow_heap w.drew g _ C _ (0, 0) h;have hfr : Fr (only g) w (w.drew.setRow g C) := fr_setRow ((Fr.refl (only g) w).drew) rfl C
  generalize w.drew.setRow g C = W at *
  obtain ⟨y, hy⟩ : ∃ y, r.getD p 0 = y := ⟨_, rfl⟩;rw [hCn] at hbk;have hput := hbk.put 0 (.int .i64 (y : Int));have hmv := movef_pos r p (by omega);rw [hy] at hmv hc;rw [nc_set, hmv] at hput
  obtain ⟨y0, hc0⟩ : ∃ y0 : Int, W.cell? ⟨g, 0, none⟩ = some (.int .i64 y0) := ⟨_, by
    rw [hbk.cell, nc_get _ _ (by rw [List.length_append, List.length_append, List.length_take]; omega)]⟩
  have hfz := hbk.frozen 0
  have hlen : (goInt ((r.take p).map (fun n : Nat => (Value.int .i64 (n : Int)))).length) = .int .i64 (p : Int) := by
    rw [List.length_map, List.length_take, show min p r.length = p from by omega];rfl
  rw [hlen] at hrun;have Hput := hide hput;have Hfr := hide hfr;clear h hy hC hCn hbk hfr hput hmv hlen hr
  go_enter Tryz.func225, Tryz.ntmps225
  go_wp2
  go_region
  go_wp2
  go_ret
  exact ⟨rfl, Hput.out, Hfr.out.setCell (p := ⟨g, 0, none⟩) (.inl rfl) _⟩
theorem move_any {w : World} {g : Nat} {r : List Nat} (h : Bk w g 3 (nc r)) (hr : r.length = 4096) (p : Nat) (hp : p < 4096) :
  Calls Tryz.prog 225 #[.slice (some ⟨g, 0, none⟩) 4096 4096, .int .i64 (p : Int)] w fun x w' => x = .returned (.slice (some ⟨g, 0, none⟩) 4096 4096) ∧ Bk w' g 3 (nc (movef r p)) ∧ Fr (only g) w w' := by
 rcases Nat.eq_zero_or_pos p with rfl | h0
 ·exact move_zero h hr
 ·exact move_pos h hr p hp h0
def rowF : List Nat → List Nat → List Nat
 | r, [] => r
 | r, n :: t => rowF (movef r (ix r n)) t
def rowU : List Nat → List Nat → List Nat
 | r, [] => r
 | r, n :: t => rowU (movef r n) t
theorem frontA_snoc (l : List Nat) (n : Nat) : ∀ r, frontA r (l ++ [n]) = frontA r l ++ [ix (rowF r l) n] ∧ rowF r (l ++ [n]) = movef (rowF r l) (ix (rowF r l) n) := by
 induction l with
 | nil => intro r; exact ⟨rfl, rfl⟩
 | cons a l ih =>
  intro r;obtain ⟨h1, h2⟩ := ih (movef r (ix r a));exact ⟨by rw [List.cons_append, frontA, h1]; rfl, by rw [List.cons_append, rowF, h2]; rfl⟩
theorem unfrontA_snoc (l : List Nat) (n : Nat) : ∀ r, unfrontA r (l ++ [n]) = unfrontA r l ++ [(rowU r l).getD n 0] ∧ rowU r (l ++ [n]) = movef (rowU r l) n := by
 induction l with
 | nil => intro r; exact ⟨rfl, rfl⟩
 | cons a l ih =>
  intro r;obtain ⟨h1, h2⟩ := ih (movef r a);exact ⟨by rw [List.cons_append, unfrontA, h1]; rfl, by rw [List.cons_append, rowU, h2]; rfl⟩
theorem rowF_ok (l : List Nat) : ∀ r, (∀ n ∈ l, n ∈ r) → (rowF r l).length = r.length ∧ ∀ m, m ∈ r → m ∈ rowF r l := by
 induction l with
 | nil => intro r _; exact ⟨rfl, fun m h => h⟩
 | cons a l ih =>
  intro r h;have h1 := ix_lt.2 (h a List.mem_cons_self);obtain ⟨a1, a2⟩ := ih (movef r (ix r a)) (fun n hn => movef_mem h1 (h n (List.mem_cons_of_mem _ hn)));exact ⟨a1.trans (movef_length h1), fun m hm => a2 m (movef_mem h1 hm)⟩
theorem rowU_ok (l : List Nat) : ∀ r, (∀ n ∈ l, n < r.length) → (rowU r l).length = r.length := by
 induction l with
 | nil => intro r _; rfl
 | cons a l ih =>
  intro r h;have h1 := h a List.mem_cons_self;exact (ih (movef r a) (fun n hn => by rw [movef_length h1]; exact h n (List.mem_cons_of_mem _ hn))).trans (movef_length h1)
theorem npad_set (L : List Nat) (n v : Nat) (h : L.length < n) : (L ++ List.replicate (n - L.length) 0).set L.length v = (L ++ [v]) ++ List.replicate (n - (L.length + 1)) 0 := by
 rw [List.set_append_right _ _ (Nat.le_refl _), Nat.sub_self, show n - L.length = (n - (L.length + 1)) + 1 from by omega, List.replicate_succ, List.set_cons_zero]
 simp
theorem nc_ivs (l : List Nat) : (nc l).toList = ivs (l.map Int.ofNat) := by simp [nc, ivs, iv]
theorem take_snocD (l : List Nat) (k : Nat) (h : k < l.length) : l.take (k + 1) = l.take k ++ [l.getD k 0] := by
 rw [List.take_succ_eq_append_getElem h]
 simp [List.getD, h]
def NRes (w : World) (x : Ending) (w' : World) (r : List Nat × Nat) : Prop := ∃ v, x = .returned (.tuple #[v, .int .i64 (r.2 : Int)]) ∧ IRes w' v (r.1.map Int.ofNat) ∧ Below w.heap.size w w'
theorem nres_err {w w' : World} (e : Nat) (hb : Below w.heap.size w w') : NRes w (.returned (.tuple #[.slice none 0 0, .int .i64 (e : Int)])) w' ([], e) := ⟨_, rfl, IRes.nil _, hb⟩
theorem each_bad_front {w : World} {A : Option Addr} {l : List Int} (ha : At w A (ivs l)) (n cap : Nat) (hn : n = l.length) (hm : n ≤ 9223372036854775807) (hb : chkn l ≠ 0) :
  Calls Tryz.prog 211 #[.slice A n cap, .func (.func 212) #[] #[]] w fun x w' => NRes w x w' ([], chkn l) := by
 have Ha := hide ha;have Hlen := hide hn;have hbel : Below w.heap.size w w := Below.refl _ _
 by_cases h9 : 4096 < n
 ·have hc : Hid (chkn l = 9) := hide (by unfold chkn; rw [if_pos (by omega)])
  have h92 : (4096 : Int) < (n : Int) := by omega
  clear ha hn hb h9
  go_enter Tryz.func211, Tryz.ntmps211
  go_wp2
  go_returns
  rw [hc.out];exact nres_err 9 hbel
 ·have hc : Hid (chkn l = 2) := hide (by
   unfold chkn at hb ⊢;rw [if_neg (by omega)] at hb ⊢
   by_cases h : ∀ n ∈ l, 0 ≤ n ∧ n < 4096
   ·rw [if_pos h] at hb; exact absurd rfl hb
   ·rw [if_neg h])
  have hbad : Hid (¬ ∀ n ∈ l, 0 ≤ n ∧ n < 4096) := hide (by
   intro h
   apply hb
   exact chkn_ok (by omega) h)
  have h92 : ¬ (4096 : Int) < (n : Int) := by omega
  clear ha hn hb h9
  go_enter Tryz.func211, Tryz.ntmps211
  go_wp2
  go_loop [7, 19] (fun _ i => ∃ k : Nat, k ≤ n ∧ i = .int .i64 k ∧ Hid (∀ v ∈ l.take k, 0 ≤ v ∧ v < 4096)) (fun _ i => (n - intOf i).toNat)
  case atStart => exact ⟨0, by omega, rfl, hide (by simp)⟩
  case round =>
   obtain ⟨k, hk, rfl, hall⟩ := hrel
   by_cases hlt : k < n
   ·have hkl : k < l.length := by rw [← Hlen.out]; exact hlt
    obtain ⟨v, hv⟩ : ∃ v, l.getD k 0 = v := ⟨_, rfl⟩
    have hlk : l[k] = v := by rw [← hv]; simp [List.getD, hkl]
    obtain ⟨bA, oA, hA, hbA, hcA⟩ := Ha.out.get k (.int .i64 v) (by rw [ivs_get _ _ hkl, hv]);subst hA
    by_cases hok : 0 ≤ v ∧ v < 4096
    ·obtain ⟨o1, o2⟩ := hok
     have o3 : ¬ v < 0 := by omega
     have o4 : ¬ 4096 ≤ v := by omega
     have hall2 : Hid (∀ u ∈ l.take (k + 1), 0 ≤ u ∧ u < 4096) := hide (by
      intro u hu;rw [List.take_succ_eq_append_getElem hkl, hlk] at hu
      rcases List.mem_append.1 hu with h | h
      ·exact hall.out u h
      ·rw [List.mem_singleton] at h; omega)
     clear hv hlk
     go_wp2
     go_round
     case rel => exact ⟨k + 1, by omega, by go_num, hall2⟩
     case measure => simp [intOf] <;> omega
    ·clear hv hlk
     by_cases o1 : v < 0
     ·clear hok
      go_wp2
      go_returns
      rw [hc.out];exact nres_err 2 hbel
     ·have o2 : 4096 ≤ v := by omega
      clear hok
      go_wp2
      go_returns
      rw [hc.out];exact nres_err 2 hbel
   ·exfalso
    apply hbad.out
    have := hall.out
    rwa [List.take_of_length_le (by rw [← Hlen.out]; omega)] at this
theorem each_ok_front {w : World} {A : Option Addr} {l : List Nat} (ha : At w A (ivs (l.map Int.ofNat))) (n cap : Nat) (hn : n = l.length) (hl : l.length ≤ 4096) (hv : ∀ v ∈ l, v < 4096) :
  Calls Tryz.prog 211 #[.slice A n cap, .func (.func 212) #[] #[]] w fun x w' => NRes w x w' (frontA r0 l, 0) := by
 have Ha := hide ha;have Hlen := hide hn;have Hv := hide hv
 have hn4 : n ≤ 4096 := by omega
 have h92 : ¬ (4096 : Int) < (n : Int) := by omega
 have Hrow := hide (row_any w);have Hin := hide (fun (v : Nat) (h : v < 4096) => show v ∈ r0 from List.mem_range.2 h);have Hlr := hide (show r0.length = 4096 from List.length_range);clear ha hn hv hl
 go_enter Tryz.func211, Tryz.ntmps211
 go_wp2
 go_loop [7, 19] (fun _ i => ∃ k : Nat, k ≤ n ∧ i = .int .i64 k) (fun _ i => (n - intOf i).toNat)
 case atStart => exact ⟨0, by omega, rfl⟩
 case round =>
  obtain ⟨k, hk, rfl⟩ := hrel
  by_cases hlt : k < n
  ·have hkl : k < l.length := by rw [← Hlen.out]; exact hlt
   obtain ⟨v, hvk⟩ : ∃ v, l.getD k 0 = v := ⟨_, rfl⟩
   have hv4 : v < 4096 := by
    have h1 : l.getD k 0 = l[k] := by simp [List.getD, hkl]
    rw [← hvk, h1];exact Hv.out _ (List.getElem_mem _)
   obtain ⟨bA, oA, hA, hbA, hcA⟩ := Ha.out.get k (.int .i64 (v : Int)) (by
    rw [ivs_get _ _ (by rw [List.length_map]; exact hkl)]
    have h1 : (l.map Int.ofNat).getD k 0 = ((l.getD k 0 : Nat) : Int) := by simp [List.getD, hkl]
    rw [h1, hvk])
   subst hA
   have o3 : ¬ (v : Int) < 0 := by omega
   have o4 : ¬ (4096 : Int) ≤ (v : Int) := by omega
   clear hvk hv4
   go_wp2
   go_round
   case rel => exact ⟨k + 1, by omega, by go_num⟩
   case measure => simp [intOf] <;> omega
  ·have hkn : k = n := by omega
   subst hkn
   go_wp2_with fail
   refine (Hrow.out).mono ?_;rintro x w1 ⟨rfl, hr1, hb1⟩;have hs1 := hb1.size;have hmk := mk_row (P := Tryz.prog) 85 3 _ _ Tryz.underlying85 intinf rfl (k : Int) k rfl (by omega) (by omega) w1;rw [← rowp_none] at hmk;have ha1 := Ha.out.below hb1;have hrl := hr1.lt;have hr2 := hr1.alloc (.cells (nc (List.replicate k 0)) 3);have hb2 := hb1.alloc hs1 (.cells (nc (List.replicate k 0)) 3);have ha2 := ha1.alloc (.cells (nc (List.replicate k 0)) 3);have ho2 := Bk.new w1 3 (nc (List.replicate k 0));have Hs := hide (show w.heap.size < w1.heap.size ∧ w.heap.size ≠ w1.heap.size from ⟨by omega, by omega⟩);clear hr1 hb1 ha1
   go_wp2
   go_loopw [8, 10, 11, 12, 13, 36] (fun s8 _ _ _ _ i wr => ∃ j : Nat, j ≤ k ∧ i = .int .i64 j ∧ s8 = .slice (some ⟨w.heap.size, 0, none⟩) 4096 4096 ∧ Bk wr w.heap.size 3 (nc (rowF r0 (l.take j))) ∧ Bk wr w1.heap.size 3 (nc (frontA r0 (l.take j) ++ List.replicate (k - j) 0)) ∧ At wr A (ivs (l.map Int.ofNat)) ∧ Below w.heap.size w wr) (fun _ _ _ _ _ i _ => (k - intOf i).toNat)
   case atStart => exact ⟨0, by omega, rfl, rfl, hr2, ho2, ha2, hb2⟩
   case round =>
    clear hr2 ho2 ha2 hb2 hmk;obtain ⟨j, hj, rfl, rfl, hrow, hout, hat, hf⟩ := hrel
    have hmem : ∀ m ∈ l.take j, m < 4096 := fun m hm => Hv.out m (List.mem_of_mem_take hm)
    by_cases hlt2 : j < k
    ·have hkl : j < l.length := by rw [← Hlen.out]; exact hlt2
     obtain ⟨v, hvk⟩ : ∃ v, l.getD j 0 = v := ⟨_, rfl⟩
     have hv4 : v < 4096 := by
      have h1 : l.getD j 0 = l[j] := by simp [List.getD, hkl]
      rw [← hvk, h1];exact Hv.out _ (List.getElem_mem _)
     obtain ⟨bA, oA, hA, hbA, hcA⟩ := hat.get j (.int .i64 (v : Int)) (by
      rw [ivs_get _ _ (by rw [List.length_map]; exact hkl)]
      have h1 : (l.map Int.ofNat).getD j 0 = ((l.getD j 0 : Nat) : Int) := by simp [List.getD, hkl]
      rw [h1, hvk])
     subst hA;obtain ⟨sn1, sn2⟩ := frontA_snoc (l.take j) v r0;rw [← hvk, ← take_snocD l j hkl, hvk] at sn1 sn2;have hfl := frontA_length (l.take j) r0;rw [List.length_take, Nat.min_eq_left (by omega)] at hfl;obtain ⟨hrl1, hrm⟩ := rowF_ok (l.take j) r0 (fun m hm => Hin.out m (hmem m hm));have hrl2 := hrl1.trans Hlr.out;have hvm := hrm v (Hin.out v hv4);obtain ⟨R, hR⟩ : ∃ R, rowF r0 (l.take j) = R := ⟨_, rfl⟩;obtain ⟨O, hO⟩ : ∃ O, frontA r0 (l.take j) = O := ⟨_, rfl⟩;rw [hR] at sn1 sn2 hrow hrl2 hvm;rw [hO] at sn1 hout hfl;have Hst := hide (front1_any hrow hrl2 v hvm)
     have hpl : ix R v < 4096 := by rw [← hrl2]; exact ix_lt.2 hvm
     obtain ⟨pl, hpl2⟩ : ∃ pl, ix R v = pl := ⟨_, rfl⟩;rw [hpl2] at sn1 sn2 Hst hpl;clear hpl2;have Hsn1 := hide sn1;have Hsn2 := hide sn2;have Hrow2 := hide hrow;have hset := npad_set O k pl (by omega);rw [hfl] at hset;have Hset := hide hset;have hput := hout.put j (.int .i64 ((pl : Nat) : Int));rw [nc_set, Hset.out] at hput
     have hol : (O ++ List.replicate (k - j) 0).length = k := by rw [List.length_append, List.length_replicate]; omega
     obtain ⟨y0, hc0⟩ : ∃ y0 : Int, wr.cell? ⟨w1.heap.size, j, none⟩ = some (.int .i64 y0) := ⟨_, by rw [hout.cell, nc_get _ _ (by omega)]⟩;have hfz := hout.frozen j;have hrow3 := hrow.off (p := ⟨w1.heap.size, j, none⟩) (Hs.out.2) (.int .i64 ((pl : Nat) : Int));have hf3 := hf.setCell (p := ⟨w1.heap.size, j, none⟩) (Nat.le_of_lt Hs.out.1) (.int .i64 ((pl : Nat) : Int));have Hmv := hide (move_any hrow3 hrl2 pl (by exact hpl));have Hput := hide hput;have Hf3 := hide hf3;clear sn1 sn2 hset hput hol hrow hout hR hO hvk hfl hmem hrow3 hf3 hat hf hrl2 hvm
     go_wp2_with fail
     refine (Hst.out).mono ?_;rintro x w3 ⟨rfl, rfl⟩
     go_wp2_with fail
     refine (Hmv.out).mono ?_;rintro x w4 ⟨rfl, hr4, hf4⟩;have hout4 := Hput.out.fr hf4 (fun e => Hs.out.2 e.symm);have hb4 : Below w.heap.size w w4 := Hf3.out.trans (hf4.toBelow' Hf3.out.size (fun i hi e => by have : i = w.heap.size := e; omega));have ha4 := Ha.out.below hb4
     go_wp2
     go_roundw
     case rel => exact ⟨j + 1, by omega, by go_num, rfl, by rw [Hsn2.out]; exact hr4, by rw [Hsn1.out]; exact hout4, ha4, hb4⟩
     case measure => simp [intOf] <;> omega
    ·have hjk : j = k := by omega
     subst hjk;have htk : l.take j = l := List.take_of_length_le (by rw [← Hlen.out]; exact Nat.le_refl _);rw [htk, Nat.sub_self, List.replicate_zero, List.append_nil] at hout;have hat2 := hide hout.at_;have hfl := hide (frontA_length l r0);clear hrow hout hat htk hmem
     go_wp2
     go_returns
     have h9 := hat2.out;rw [nc_ivs] at h9;exact ⟨.slice (some ⟨w1.heap.size, 0, none⟩) j j, rfl, ⟨some ⟨w1.heap.size, 0, none⟩, j, by rw [List.length_map, hfl.out, ← Hlen.out], h9⟩, hf⟩
end Go.Proofs.YtoeeblldgoccoaaGreat
