/-
  Joined texts: Ql, Qm, Qn, Qo.
-/
import Derived.Test.YtoeeblldgoccoaaGreatL26
import Derived.Test.YtoeeblldgoccoaaGreatL28
set_option linter.unusedVariables false
set_option linter.unusedSimpArgs false
set_option maxRecDepth 100000
set_option maxHeartbeats 8000000
namespace Go.Proofs.YtoeeblldgoccoaaGreat
open Go.RowKit Go.Proofs Wv Wv.Vi Wv.Rc Wv.Mo Wv.Ru Wv.Bc
def RdrR (b : Nat) (w : World) (o : Option (List ByteArray)) (x : Ending) (w' : World) : Prop := Fr (only b) w w' ∧ match o with
 | none => ∃ A, x = .returned (.tuple #[.slice A 0 0, .bool false])
 | some r => ∃ g, x = .returned (.tuple #[.slice (some ⟨g, 0, none⟩) r.length r.length, .bool true]) ∧ w.heap.size ≤ g ∧ Bk w' g 9 (svs r).toArray
theorem take_all (s : ByteArray) : takeR s 0 (s.size : Int) = (s, bs [], 0) := by
 unfold takeR;rw [if_pos rfl, if_neg (by omega), if_neg (by omega), Int.toNat_natCast, List.take_of_length_le (by rw [toL_length]; exact Nat.le_refl _), List.drop_eq_nil_of_le (by rw [toL_length]; exact Nat.le_refl _), bs_toL]
theorem readWd_any {w : World} {b : Nat} {s : ByteArray} (h : RV w b s 0) (hs : s.size ≤ 1000000000) (W : Int) :
  Calls Tryz.prog 92 #[.agg #[.int .i64 W], .pointer (some ⟨b, 0, none⟩)] w fun x w' => RdrR b w (readWd W (toL s)) x w' := by
 have hlt := Bk.lt h;have hc0 := Bk.new w 60 #[.int .i64 W];have hb0 := bel_new1 w (.cells #[.int .i64 W] 60);have h0 : RV (w.alloc (.cells #[.int .i64 W] 60)) b s 0 := Bk.alloc h _;have HL := hide (vleft_any h0 (by omega));have HT := hide (vtake_any h0 (by omega) (s.size : Int));rw [take_all] at HT;have HD := hide (fun W2 => decode_any (w := W2) s hs 4096)
 have hdec : ((dec (toL s) 4096).2 ≠ 0 ∧ (dec (toL s) 4096).1 = []) ∨ ((dec (toL s) 4096).2 = 0 ∧ (∀ t ∈ (dec (toL s) 4096).1, t.size ≤ 128) ∧ (dec (toL s) 4096).1.length ≤ 4096) := by
  rcases dec_strict (toL s) 4096 with (h | h) | ⟨l, h, he, hr, hl128, hl4⟩
  ·rw [h]; exact .inl ⟨by simp, rfl⟩
  ·rw [h]; exact .inl ⟨by simp, rfl⟩
  ·rw [h]; exact .inr ⟨rfl, hl128, by simpa using hl4⟩
 have hres : readWd W (toL s) = if (dec (toL s) 4096).2 ≠ 0 then none else extL W (dec (toL s) 4096).1 := rfl
 rw [hres]
 generalize dec (toL s) 4096 = D at *
 obtain ⟨tl, e⟩ := D;simp only at hdec ⊢;clear hres
 have hsz : (∀ t ∈ tl, t.size ≤ 1099511627776) ∧ tl.length ≤ 1099511627776 := by
  rcases hdec with ⟨_, h2⟩ | ⟨_, h2, h3⟩
  ·rw [h2]; exact ⟨fun t ht => (by cases ht), Nat.zero_le _⟩
  ·exact ⟨fun t ht => by have := h2 t ht; omega, by omega⟩
 have HG := hide (fun W2 (A : Option Addr) (cap : Nat) (hat : At W2 A (svs tl)) => blong_any hat hsz.1 tl.length cap rfl hsz.2 W);have Hc0 := hide hc0;have Hb0 := hide hb0;have Hdec := hide hdec;have Hlt := hide hlt;have H := hide h;obtain ⟨R, hR⟩ : ∃ R, (if e ≠ 0 then none else extL W tl) = R := ⟨_, rfl⟩;rw [hR];have HR := hide hR;clear h0 hs h hc0 hb0 hdec hsz hlt hR
 go_enter Tryz.func92, Tryz.ntmps92
 go_wp2_with fail
 refine (HL.out).mono ?_;rintro x w1 ⟨rfl, rfl⟩;clear HL
 go_wp2_with fail
 refine (HT.out).mono ?_;rintro x w1 ⟨rfl, hrv1, hf1⟩;clear HT;have Hf1 := hide ((Fr.of_below (S := only b) Hb0.out).trans hf1)
 have Hc1 := hide (Hc0.out.fr hf1 (by
  have := Hlt.out
  unfold only; omega))
 clear hf1 hrv1;have HD1 := hide (HD.out w1);clear HD
 go_wp2_with fail
 refine (HD1.out).mono ?_;rintro x w2 ⟨v, rfl, ⟨A, cap, rfl, hat⟩, hb2⟩;have Hf2 := hide (Hf1.out.below hb2);have Hc2 := hide (Hc1.out.below hb2 Hc1.out.lt);have HG2 := hide (HG.out w2 A cap hat);have hcell : w2.cell? ⟨w.heap.size, 0, none⟩ = some (.int .i64 W) := Hc2.out.cell 0;clear Hf1 Hc1 HD1 HG hat hb2 Hb0 Hc0
 go_wp2_with fail
 refine (HG2.out).mono ?_;rintro x w3 ⟨hb3, hx⟩;have Hf3 := hide (Hf2.out.below hb3);have Hs2 := hide Hf2.out.size;clear hb3 Hf2 Hc2 HG2
 cases ho : extL W tl with
 | none =>
  rw [ho] at hx;obtain ⟨A2, rfl⟩ := hx;have HR2 := hide (show R = none by rw [← HR.out, ho]; split <;> rfl);clear hcell
  go_wp2
  go_returns
  refine ⟨Hf3.out, ?_⟩;rw [HR2.out];exact ⟨_, rfl⟩
 | some r =>
  rw [ho] at hx;obtain ⟨g, rfl, hg, hk⟩ := hx;have Hk := hide hk
  by_cases he : e = 0
  ·have Hg := hide hg
   have HR2 := hide (show R = some r by rw [← HR.out, ho, if_neg (by simpa using he)]);clear hk hg hcell Hdec;subst he
   go_wp2
   go_returns
   refine ⟨Hf3.out, ?_⟩;rw [HR2.out];exact ⟨g, rfl, Nat.le_trans Hs2.out Hg.out, Hk.out⟩
  ·have HR2 := hide (show R = none by rw [← HR.out, ho, if_pos he])
   have hr0 : r.length = 0 := by
    rcases Hdec.out with ⟨_, h2⟩ | ⟨h2, _⟩
    ·rw [h2] at ho
     injection ho with ho
     rw [← ho]; rfl
    ·exact absurd h2 he
   have hne : (((e : Nat) : Int) == 0) = false := by
    rw [beq_eq_false_iff_ne]; omega
   rw [hr0];clear hk hg hcell Hdec he ho hr0
   go_wp2
   go_returns
   refine ⟨Hf3.out, ?_⟩;rw [HR2.out];exact ⟨_, rfl⟩
theorem mixL_snoc (v : ByteArray) : ∀ (p : List ByteArray) (last : ByteArray), mixL last (p ++ [v]) = mixL last p ++ [bs (mixV (toL v) (toL (p.getLastD last))).1]
 | [], last => rfl
 | a :: r, last => by
  rw [List.cons_append, mixL, mixL_snoc v r a, mixL, List.cons_append]
  cases r <;> rfl
theorem unmix_snoc (v : ByteArray) : ∀ (p : List ByteArray) (last : ByteArray), unmix last (p ++ [v]) = unmix last p ++ [bs (mixV (toL v) (toL ((unmix last p).getLastD last))).1]
 | [], last => rfl
 | a :: r, last => by
  rw [List.cons_append, unmix, unmix_snoc v r, unmix, List.cons_append]
  cases r <;> rfl
theorem unmix_len (l : List ByteArray) : ∀ last, (unmix last l).length = l.length := by
 induction l with
 | nil => intro _; rfl
 | cons v r ih => intro last; simp [unmix, ih]
theorem lastD_snoc (p : List ByteArray) (v d : ByteArray) : (p ++ [v]).getLastD d = v := by
 rw [List.getLastD_eq_getLast?, List.getLast?_concat];rfl
theorem mixV_len (a b : List UInt8) : (mixV a b).1.length ≤ a.length := by
 unfold mixV
 split
 ·exact Nat.zero_le _
 ·split
  ·exact Nat.zero_le _
  ·show (List.zipWith mx a b).length ≤ _
   rw [List.length_zipWith]; omega
theorem allV_len (w : Int) (c : UInt8) : (allV w c).length ≤ 128 := by
 unfold allV
 split
 ·exact Nat.zero_le _
 ·rename_i h
  rw [List.length_replicate];omega
theorem set_mid {p r : List ByteArray} {x y : ByteArray} {j : Nat} (h : p.length = j) : (p ++ x :: r).set j y = (p ++ [y]) ++ r := by
 rw [List.set_append_right _ _ (by omega), h, Nat.sub_self, List.set_cons_zero, List.append_assoc];rfl
theorem mixL_sizes {l : List ByteArray} {N : Nat} (h : ∀ s ∈ l, s.size ≤ N) : ∀ last, ∀ s ∈ mixL last l, s.size ≤ N := by
 induction l with
 | nil => intro last s hs; cases hs
 | cons v r ih =>
  intro last s hs
  rcases List.mem_cons.1 hs with rfl | hs
  ·rw [bs_size]
   have := mixV_len (toL v) (toL last);rw [toL_length] at this;exact Nat.le_trans this (h v List.mem_cons_self)
  ·exact ih (fun x hx => h x (List.mem_cons_of_mem _ hx)) v s hs
theorem mix_two (a b : ByteArray) (ha : a.size ≤ 1099511627776) (hb : b.size ≤ 1099511627776) (W : World) :
  Calls Tryz.prog 109 #[.string a, .string b] W fun x w' => x = .returned (.tuple #[.string (bs (mixV (toL a) (toL b)).1), .int .i64 ((mixV (toL a) (toL b)).2 : Int)]) ∧ Below W.heap.size W w' := by
 have := bmix_any (toL a) (toL b) (by rw [toL_length]; exact ha) (by rw [toL_length]; exact hb) W;rw [bs_toL, bs_toL] at this;exact this
def mxRow (last : ByteArray) (l : List ByteArray) (j : Nat) : List ByteArray := mixL last (l.take j) ++ List.replicate (l.length - j) ⟨#[]⟩
theorem mxRow_0 (last : ByteArray) (l : List ByteArray) : (svs (mxRow last l 0)).toArray = Array.replicate l.length (.string ⟨#[]⟩ : Value) := by
 unfold mxRow;rw [List.take_zero, Nat.sub_zero]
 show (svs (List.replicate l.length ⟨#[]⟩)).toArray = _
 unfold svs;rw [List.map_replicate];rfl
theorem mxRow_set (last : ByteArray) (l : List ByteArray) (j : Nat) (h : j < l.length) : (mxRow last l j).set j (bs (mixV (toL l[j]) (toL ((l.take j).getLastD last))).1) = mxRow last l (j + 1) := by
 unfold mxRow;rw [show l.length - j = (l.length - (j + 1)) + 1 by omega, List.replicate_succ, set_mid (by rw [mixL_len, List.length_take]; omega), ← mixL_snoc, ← List.take_succ_eq_append_getElem h]
theorem mxRow_len (last : ByteArray) (l : List ByteArray) (j : Nat) (h : j ≤ l.length) : (mxRow last l j).length = l.length := by
 unfold mxRow;rw [List.length_append, mixL_len, List.length_take, List.length_replicate];omega
theorem mxRow_end (last : ByteArray) (l : List ByteArray) : mxRow last l l.length = mixL last l := by
 unfold mxRow;rw [List.take_length, Nat.sub_self, List.replicate_zero, List.append_nil]
theorem bmixed_any {w : World} {A : Option Addr} {l : List ByteArray} (ha : At w A (svs l)) (hsz : ∀ s ∈ l, s.size ≤ 1099511627776) (n cap : Nat) (hn : n = l.length) (hm : n ≤ 4096) (W : Int) :
  Calls Tryz.prog 63 #[.agg #[.int .i64 W], .slice A n cap] w fun x w' => x = .returned (.tuple #[.string (bs (codM W l)), .bool true]) ∧ Below w.heap.size w w' := by
 have hc0 := Bk.new w 60 #[.int .i64 W];have hb0 := bel_new1 w (.cells #[.int .i64 W] 60);have hmk := mk_row (P := Tryz.prog) 22 9 (.string ⟨#[]⟩) 16 Tryz.underlying22 strinf rfl (n : Int) n rfl (by omega) (by omega) (w.alloc (.cells #[.int .i64 W] 60));have hk0 := Bk.new (w.alloc (.cells #[.int .i64 W] 60)) 9 (Array.replicate n (.string ⟨#[]⟩));have hc1 := hc0.alloc (.cells (Array.replicate n (.string ⟨#[]⟩)) 9);have hb1 := hide (hb0.alloc hb0.size (.cells (Array.replicate n (.string ⟨#[]⟩)) 9));obtain ⟨Z, hZ⟩ : ∃ Z, bs (allV W 48) = Z := ⟨_, rfl⟩
 have hZs : Z.size ≤ 128 := by rw [← hZ, bs_size]; exact allV_len W 48
 have hr0 : Array.replicate n (.string ⟨#[]⟩ : Value) = (svs (mxRow Z l 0)).toArray := by rw [hn, mxRow_0]
 have HAll := hide (fun W2 => all_any W 48 W2);rw [hZ, show (((48 : UInt8).toNat : Nat) : Int) = 48 from rfl] at HAll;rw [World.size_alloc] at hmk hk0;have hcell : ((w.alloc (.cells #[.int .i64 W] 60)).alloc (.cells (Array.replicate n (.string ⟨#[]⟩)) 9)).cell? ⟨w.heap.size, 0, none⟩ = some (.int .i64 W) := hc1.cell 0;have Ha := hide ha;have Hv := hide (fun (v u : ByteArray) (hv : v ∈ l) (hu : u.size ≤ 1099511627776) W2 => mix_two v u (hsz v hv) hu W2);have Hsz := hide hsz;have Hr0 := hide hr0;have Hk0 := hide hk0;have Hn := hide hn
 have hml : n = (mixL Z l).length := by rw [mixL_len]; exact hn
 have HS := hide (fun (W2 : World) (B : Option Addr) (h : At W2 B (svs (mixL Z l))) => shortL_any h (mixL_sizes hsz Z) n n hml (by omega))
 have hln : n = (shortL (mixL Z l)).length := by unfold shortL; rw [List.length_map]; exact hml
 have hso := short_ok (l := mixL Z l) (by omega);have HE := hide (fun W2 (B : Option Addr) (c : Nat) (h : At W2 B (svs (shortL (mixL Z l)))) => encode_any h (fun s hs => by have := hso.2 s hs; omega) n c hln (by omega));have he2 := dec_short (l := mixL Z l) (by omega);unfold codM;rw [hZ];unfold ERes at HE;rw [he2.2] at HE
 generalize bs (enc (shortL (mixL Z l))).1 = SR at *
 generalize (w.alloc (.cells #[.int .i64 W] 60)).alloc (.cells (Array.replicate n (.string ⟨#[]⟩)) 9) = W0 at *
 rw [Hr0.out] at Hk0;have HZs := hide hZs;clear ha hsz hn hk0 hr0 Hr0 hc0 hb0 hc1 hml hln hso he2 hZ hZs
 go_enter Tryz.func63, Tryz.ntmps63
 go_wp2_with fail
 refine (HAll.out _).mono ?_;rintro x w1 ⟨rfl, hba⟩;have Hb2 := hide (hb1.out.trans (hba.mono hb1.out.size));have Hk2 := hide (Hk0.out.below hba Hk0.out.lt);clear hba Hk0 hb1 hmk hcell HAll
 go_wp2
 go_loopw [7, 20] (fun s7 s20 wr => ∃ j : Nat, j ≤ n ∧ s20 = .int .i64 (j : Int) ∧ s7 = .string ((l.take j).getLastD Z) ∧ Hid (Bk wr (w.heap.size + 1) 9 (svs (mxRow Z l j)).toArray) ∧ Hid (Below w.heap.size w wr)) (fun _ s20 _ => (n - intOf s20).toNat)
 case atStart => exact ⟨0, Nat.zero_le _, rfl, rfl, Hk2, Hb2⟩
 case round =>
  clear Hb2 Hk2;obtain ⟨j, hj, rfl, rfl, hk, hb⟩ := hrel
  by_cases hlt : j < n
  ·have hjl : j < l.length := by rw [← Hn.out]; exact hlt
   obtain ⟨b, o, rfl, hbl, hc⟩ := sv_cell (Ha.out.below hb.out) j hjl
   have hls : ((l.take j).getLastD Z).size ≤ 1099511627776 := by
    cases hp : (l.take j).getLast? with
    | none => rw [List.getLastD_eq_getLast?, hp]; have := HZs.out; show Z.size ≤ _; omega
    | some u =>
     rw [List.getLastD_eq_getLast?, hp];exact Hsz.out u (List.mem_of_mem_take (List.mem_of_getLast? hp))
   have Hv1 := hide (Hv.out l[j] ((l.take j).getLastD Z) (List.getElem_mem _) hls);have Hset := hide (mxRow_set Z l j hjl);have hlen := mxRow_len Z l j (by omega);have hap : l.take (j + 1) = l.take j ++ [l[j]] := List.take_succ_eq_append_getElem hjl;obtain ⟨S, hS⟩ : ∃ S, l[j] = S := ⟨_, rfl⟩;rw [hS] at hc Hv1 Hset hap;have Hlast := hide (show S = (l.take (j + 1)).getLastD Z by rw [hap, lastD_snoc]);have Hlen := hide (show j < (mxRow Z l j).length by rw [hlen]; exact hjl);obtain ⟨T, hT⟩ : ∃ T, bs (mixV (toL S) (toL ((l.take j).getLastD Z))).1 = T := ⟨_, rfl⟩;rw [hT] at Hv1 Hset;clear hS hT hjl hlen hap hls
   generalize ((mixV (toL S) (toL ((l.take j).getLastD Z))).2 : Int) = E at *
   generalize (l.take j).getLastD Z = U at *
   have hlti : (j : Int) < (n : Int) := by omega
   have hj0 : (0 : Int) ≤ (j : Int) := by omega
   go_wp2_with fail
   refine (Hv1.out _).mono ?_;rintro x w1 ⟨rfl, hb1⟩;have hk1 := hk.out.below hb1 hk.out.lt;have hcell := hk1.cell j;rw [List.getElem?_toArray, svs_get _ _ Hlen.out] at hcell;have hfroz := hk1.frozen j;have hput := bk_sets hk1 j T;rw [Hset.out] at hput;have Hput := hide hput;have Hb2 := hide ((hb.out.trans (hb1.mono hb.out.size)).setCell (p := ⟨w.heap.size + 1, j, none⟩) (by simp) (.string T))
   generalize (mxRow Z l j)[j] = OLD at *
   clear hb1 Hv1 hb hk hk1 hput Hset Hlen
   go_wp2
   refine ⟨⟨j + 1, hlt, by go_num, by rw [← Hlast.out], Hput, Hb2⟩, ?_⟩
   simp [intOf] <;> omega
  ·have hjn : j = n := by omega
   have hk1 := hk.out;rw [hjn, Hn.out, mxRow_end] at hk1;have hat := hk1.at_;rw [List.toList_toArray] at hat;have HS1 := hide (HS.out wr _ hat);clear hk1 hk Hv hat HS
   generalize (l.take j).getLastD Z = U at *
   go_wp2_with fail
   refine (HS1.out).mono ?_;rintro x w2 ⟨g, rfl, hg1, hg2, hat2, hb2⟩;have hbb := hb.out.trans (hb2.mono hb.out.size);have HE1 := hide (HE.out w2 _ n hat2);clear hb2 hb HS1 HE hat2
   go_wp2_with fail
   refine (HE1.out).mono ?_;rintro x w3 ⟨rfl, hb3⟩;have hbc := hbb.trans (hb3.mono hbb.size);clear hb3 hbb HE1
   go_wp2
   go_returns
   exact ⟨rfl, hbc⟩
theorem unmix_sizes {l : List ByteArray} {N : Nat} (h : ∀ s ∈ l, s.size ≤ N) : ∀ last, ∀ s ∈ unmix last l, s.size ≤ N := by
 induction l with
 | nil => intro last s hs; cases hs
 | cons v r ih =>
  intro last s hs
  rcases List.mem_cons.1 hs with rfl | hs
  ·rw [bs_size]
   have := mixV_len (toL v) (toL last);rw [toL_length] at this;exact Nat.le_trans this (h v List.mem_cons_self)
  ·exact ih (fun x hx => h x (List.mem_cons_of_mem _ hx)) _ s hs
def uxRow (last : ByteArray) (l : List ByteArray) (j : Nat) : List ByteArray := unmix last (l.take j) ++ l.drop j
theorem uxRow_0 (last : ByteArray) (l : List ByteArray) : uxRow last l 0 = l := rfl
theorem uxRow_set (last : ByteArray) (l : List ByteArray) (j : Nat) (h : j < l.length) : (uxRow last l j).set j (bs (mixV (toL l[j]) (toL ((unmix last (l.take j)).getLastD last))).1) = uxRow last l (j + 1) := by
 unfold uxRow;rw [List.drop_eq_getElem_cons h, set_mid (by rw [unmix_len, List.length_take]; omega), ← unmix_snoc, ← List.take_succ_eq_append_getElem h]
theorem uxRow_len (last : ByteArray) (l : List ByteArray) (j : Nat) (h : j ≤ l.length) : (uxRow last l j).length = l.length := by
 unfold uxRow;rw [List.length_append, unmix_len, List.length_take, List.length_drop];omega
theorem uxRow_at (last : ByteArray) (l : List ByteArray) (j : Nat) (h : j < l.length) : (svs (uxRow last l j))[j]? = some (.string l[j]) := by
 unfold uxRow svs;rw [List.getElem?_map, List.getElem?_append_right (by rw [unmix_len, List.length_take]; omega), unmix_len, List.length_take, show j - min j l.length = 0 by omega, List.getElem?_drop, Nat.add_zero, List.getElem?_eq_getElem h];rfl
theorem uxRow_end (last : ByteArray) (l : List ByteArray) : uxRow last l l.length = unmix last l := by
 unfold uxRow;rw [List.take_length, List.drop_length, List.append_nil]
theorem uxLast (last : ByteArray) (l : List ByteArray) (j : Nat) (h : j < l.length) : (unmix last (l.take (j + 1))).getLastD last = bs (mixV (toL l[j]) (toL ((unmix last (l.take j)).getLastD last))).1 := by
 rw [List.take_succ_eq_append_getElem h, unmix_snoc, lastD_snoc]
theorem uxLast_size {last : ByteArray} {l : List ByteArray} {N : Nat} (h : ∀ s ∈ l, s.size ≤ N) (h2 : last.size ≤ N) (j : Nat) : ((unmix last (l.take j)).getLastD last).size ≤ N := by
 rw [List.getLastD_eq_getLast?]
 cases hp : (unmix last (l.take j)).getLast? with
 | none => exact h2
 | some u => exact unmix_sizes (fun s hs => h s (List.mem_of_mem_take hs)) last u (List.mem_of_getLast? hp)
theorem readWd_sizes {W : Int} {s : List UInt8} {r : List ByteArray} (h : readWd W s = some r) : (∀ v ∈ r, v.size ≤ 128) ∧ r.length ≤ 4096 := by
 unfold readWd at h
 split at h
 ·cases h
 ·obtain ⟨h1, h2⟩ := extL_valid h
  refine ⟨fun v hv => ?_, ?_⟩
  ·have := (isV_iff.1 (vld_iff.1 (h1 v hv)).1).2.2
   rw [toL_length] at this;exact this
  ·rw [h2]
   rcases dec_strict s 4096 with (h | h) | ⟨l, h, _, _, _, h4⟩
   ·rw [h]; exact Nat.zero_le _
   ·rw [h]; exact Nat.zero_le _
   ·rw [h]; exact h4
theorem readMx_any {w : World} {b : Nat} {s : ByteArray} (h : RV w b s 0) (hs : s.size ≤ 1000000000) (W : Int) :
  Calls Tryz.prog 91 #[.agg #[.int .i64 W], .pointer (some ⟨b, 0, none⟩)] w fun x w' => RdrR b w ((readWd W (toL s)).map (unmix (bs (allV W 48)))) x w' := by
 have hlt := Bk.lt h;have hc0 := Bk.new w 60 #[.int .i64 W];have hb0 := bel_new1 w (.cells #[.int .i64 W] 60);have h0 : RV (w.alloc (.cells #[.int .i64 W] 60)) b s 0 := Bk.alloc h _;have HW := hide (readWd_any h0 hs W);have HAll := hide (fun W2 => all_any W 48 W2);obtain ⟨Z, hZ⟩ : ∃ Z, bs (allV W 48) = Z := ⟨_, rfl⟩
 have hZs : Z.size ≤ 128 := by rw [← hZ, bs_size]; exact allV_len W 48
 rw [hZ, show (((48 : UInt8).toNat : Nat) : Int) = 48 from rfl] at HAll;rw [hZ];have hcell0 : (w.alloc (.cells #[.int .i64 W] 60)).cell? ⟨w.heap.size, 0, none⟩ = some (.int .i64 W) := hc0.cell 0
 have hss := fun r => readWd_sizes (W := W) (s := toL s) (r := r)
 generalize readWd W (toL s) = O at *
 have HR := hide (rfl : O.map (unmix Z) = O.map (unmix Z));obtain ⟨R, hR⟩ : ∃ R, O.map (unmix Z) = R := ⟨_, rfl⟩;rw [hR];have HR := hide hR;have Hc0 := hide hc0;have Hb0 := hide hb0;have HZs := hide hZs;have Hss := hide hss;have Hlt := hide hlt;have hsw : (w.alloc (.cells #[.int .i64 W] 60)).heap.size = w.heap.size + 1 := World.size_alloc _ _;have Hsw := hide hsw;clear h0 hs h hc0 hb0 hR hZ hZs hss hlt hsw
 go_enter Tryz.func91, Tryz.ntmps91
 go_wp2_with fail
 refine (HW.out).mono ?_;rintro x w1 ⟨hf1, hx⟩;have Hf1 := hide ((Fr.of_below (S := only b) Hb0.out).trans hf1)
 have hc1 := Hc0.out.fr hf1 (by
  have := Hlt.out
  unfold only; omega)
 have hcell1 : w1.cell? ⟨w.heap.size, 0, none⟩ = some (.int .i64 W) := hc1.cell 0;clear HW hf1 hcell0 Hc0 Hb0
 cases O with
 | none =>
  obtain ⟨A, rfl⟩ := hx;have HR2 := hide (show R = none from HR.out.symm);clear hc1 HR
  go_wp2_with fail
  refine (HAll.out _).mono ?_;rintro x w2 ⟨rfl, hb2⟩;have Hf2 := hide (Hf1.out.below hb2);clear hb2 hcell1
  go_wp2
  go_loopw [22] (fun s22 wr => s22 = .int .i64 0 ∧ Hid (Fr (only b) w wr)) (fun _ _ => 0)
  case atStart => exact ⟨rfl, Hf2⟩
  case round =>
   clear Hf2;obtain ⟨rfl, hf⟩ := hrel
   go_wp2
   go_returns
   refine ⟨hf.out, ?_⟩;rw [HR2.out];exact ⟨_, rfl⟩
 | some r =>
  obtain ⟨g, rfl, hg, hk⟩ := hx;have HR2 := hide (show R = some (unmix Z r) from HR.out.symm);have Hg := hide (show w.heap.size + 1 ≤ g by have := Hsw.out; omega);have hsz := Hss.out r rfl;have Hk := hide hk;have Hsz := hide hsz.1;have hr4 := hsz.2;have Hv := hide (fun (v u : ByteArray) (hv : v ∈ r) (hu : u.size ≤ 128) W2 => mix_two v u (by have := hsz.1 v hv; omega) (by omega) W2);obtain ⟨n, hn⟩ : ∃ n, r.length = n := ⟨_, rfl⟩;have Hn := hide hn;rw [hn] at hr4 ⊢;clear hc1 HR hg hk Hss Hsw hsz hn
  go_wp2_with fail
  refine (HAll.out _).mono ?_;rintro x w2 ⟨rfl, hb2⟩;have Hf2 := hide (Hf1.out.below hb2);have Hk2 := hide (Hk.out.below hb2 Hk.out.lt);clear hb2 hcell1 Hk Hf1 HAll
  go_wp2
  go_loopw [8, 22] (fun s8 s22 wr => ∃ j : Nat, j ≤ n ∧ s22 = .int .i64 (j : Int) ∧ s8 = .string ((unmix Z (r.take j)).getLastD Z) ∧ Hid (Bk wr g 9 (svs (uxRow Z r j)).toArray) ∧ Hid (Fr (only b) w wr)) (fun _ s22 _ => (n - intOf s22).toNat)
  case atStart => exact ⟨0, Nat.zero_le _, rfl, rfl, Hk2, Hf2⟩
  case round =>
   clear Hf2 Hk2;obtain ⟨j, hj, rfl, rfl, hk, hf⟩ := hrel
   by_cases hlt : j < n
   ·have hjl : j < r.length := by rw [Hn.out]; exact hlt
    have hc := hk.out.cell j;rw [List.getElem?_toArray, uxRow_at Z r j hjl] at hc;have hls := uxLast_size (l := r) Hsz.out HZs.out j;have Hv1 := hide (Hv.out r[j] _ (List.getElem_mem _) hls);have Hset := hide (uxRow_set Z r j hjl);have hlen := uxRow_len Z r j (by omega);have Hlast := hide (uxLast Z r j hjl);obtain ⟨S, hS⟩ : ∃ S, r[j] = S := ⟨_, rfl⟩;rw [hS] at hc Hv1 Hset Hlast;have Hlen := hide (show j < (uxRow Z r j).length by rw [hlen]; exact hjl);obtain ⟨T, hT⟩ : ∃ T, bs (mixV (toL S) (toL ((unmix Z (r.take j)).getLastD Z))).1 = T := ⟨_, rfl⟩;rw [hT] at Hv1 Hset Hlast;clear hS hT hjl hlen hls
    generalize ((mixV (toL S) (toL ((unmix Z (r.take j)).getLastD Z))).2 : Int) = E at *
    generalize (unmix Z (r.take j)).getLastD Z = U at *
    have hlti : (j : Int) < (n : Int) := by omega
    have hj0 : (0 : Int) ≤ (j : Int) := by omega
    go_wp2_with fail
    refine (Hv1.out _).mono ?_;rintro x w1 ⟨rfl, hb1⟩;have hk1 := hk.out.below hb1 hk.out.lt;have hcell := hk1.cell j;rw [List.getElem?_toArray, svs_get _ _ Hlen.out] at hcell;have hfroz := hk1.frozen j;have hput := bk_sets hk1 j T;rw [Hset.out] at hput;have Hput := hide hput
    have hcell2 : (w1.setCell ⟨g, j, none⟩ (.string T)).cell? ⟨g, j, none⟩ = some (.string T) := by
     rw [hput.cell j, ← Hset.out, List.getElem?_toArray];unfold svs;rw [List.getElem?_map, List.getElem?_set_self Hlen.out];rfl
    have Hf2 := hide ((hf.out.below hb1).setCell (p := ⟨g, j, none⟩) (.inr (by have := Hg.out; simp only; omega)) (.string T))
    generalize (uxRow Z r j)[j] = OLD at *
    clear hb1 Hv1 hf hk hk1 hput Hset Hlen
    go_wp2
    refine ⟨⟨j + 1, hlt, by go_num, by rw [Hlast.out], Hput, Hf2⟩, ?_⟩
    simp [intOf] <;> omega
   ·have hjn : j = n := by omega
    have hk1 := hk.out;rw [hjn, ← Hn.out, uxRow_end] at hk1;have Hk1 := hide hk1;have Hl := hide (show (unmix Z r).length = n by rw [unmix_len, Hn.out]);clear hk1 hk Hv
    generalize (unmix Z (r.take j)).getLastD Z = U at *
    go_wp2
    go_returns
    refine ⟨hf.out, ?_⟩;rw [HR2.out];exact ⟨g, by rw [Hl.out]; rfl, by have := Hg.out; omega, Hk1.out⟩
theorem ivs_snocB (a : List Int) (x : Int) : ivs (a ++ [x]) = ivs a ++ [.int .i64 x] := by simp [ivs, iv]
theorem add_two (a b : ByteArray) (ha : a.size ≤ 1099511627776) (hb : b.size ≤ 1099511627776) (W : World) :
  Calls Tryz.prog 26 #[.string a, .string b] W fun x w' => x = .returned (.tuple #[.string (bs (addV (toL a) (toL b)).1), .bool (addV (toL a) (toL b)).2]) ∧ Below W.heap.size W w' := by
 have := badd_any (toL a) (toL b) (by rw [toL_length]; exact ha) (by rw [toL_length]; exact hb) W;rw [bs_toL, bs_toL] at this;exact this
theorem getD_at {l : List ByteArray} {i : Nat} (h : i < l.length) : l.getD i default = l[i] := by
 rw [List.getD_eq_getElem?_getD, List.getElem?_eq_getElem h]; rfl
theorem bexc_any {w : World} {A : Option Addr} {l : List ByteArray} (ha : At w A (svs l)) (hsz : ∀ s ∈ l, s.size ≤ 1099511627776) (n cap : Nat) (hn : n = l.length) (hm : n ≤ 4096) (st : ByteArray) (hst : st.size ≤ 1099511627776) :
  Calls Tryz.prog 102 #[.slice A n cap, .string st] w fun x w' => ∃ v, x = .returned v ∧ IRes w' v (exI l st) ∧ Below w.heap.size w w' := by
 have Ha := hide ha;have Hn := hide hn;have Hv := hide (fun (v : ByteArray) (hv : v ∈ l) W2 => add_two v st (hsz v hv) hst W2);have ho0 := hide (own_nil (w := w) (base := w.heap.size) (e := 3) (size := 1));have hb0 := hide (Below.refl w.heap.size w);clear ha hn hsz hst
 go_enter Tryz.func102, Tryz.ntmps102
 go_wp2
 go_loopw [5, 6] (fun s5 s6 wr => ∃ k : Nat, (k = 0 ∨ k + 1 ≤ n) ∧ s6 = .int .i64 ((k : Int) + 1) ∧ Hid (wr.ownsRow w.heap.size 3 1 s5 (exP l st k).length (ivs (exP l st k))) ∧ Hid (Below w.heap.size w wr)) (fun _ s6 _ => (n - intOf s6).toNat)
 case atStart => exact ⟨0, .inl rfl, rfl, ho0, hb0⟩
 case round =>
  clear ho0 hb0;obtain ⟨k, hk, rfl, hown, hb⟩ := hrel;obtain ⟨A5, M5, cap5, rfl⟩ := own_slice hown.out
  by_cases hlt : k + 1 < n
  ·have hil : k + 1 < l.length := by rw [← Hn.out]; exact hlt
   have hil0 : k < l.length := by omega
   obtain ⟨b, o, rfl, hbl, hc⟩ := sv_cell (Ha.out.below hb.out) k hil0
   have hc1' : ∀ W2, Below wr.heap.size wr W2 → W2.cell? ⟨b, o + (k + 1), none⟩ = some (.string l[k + 1]) := fun W2 hW => by
    obtain ⟨b2, o2, he, _, hc2⟩ := sv_cell ((Ha.out.below hb.out).mono (Nat.le_refl _) hW) (k + 1) hil
    injection he with he
    injection he with h1 h2
    subst h1; subst h2
    exact hc2
   have Hc1 := hide hc1';have Hv1 := hide (Hv.out l[k] (List.getElem_mem _))
   have hok : okA l st k = decide (addV (toL l[k]) (toL st) = (toL l[k + 1], true)) := by
    unfold okA;rw [getD_at hil0, getD_at hil]
   have hsu := exP_succ l st k;have hle := exP_len l st k;obtain ⟨S0, hS0⟩ : ∃ S, l[k] = S := ⟨_, rfl⟩;obtain ⟨S1, hS1⟩ : ∃ S, l[k + 1] = S := ⟨_, rfl⟩;rw [hS0] at hc Hv1 hok;rw [hS1] at Hc1 hok;obtain ⟨⟨r, q⟩, hr⟩ : ∃ r, addV (toL S0) (toL st) = r := ⟨_, rfl⟩;rw [hr] at Hv1 hok;simp only at Hv1
   have hok2 : okA l st k = (q && decide (bs r = S1)) := by
    rw [hok, Bool.eq_iff_iff, Bool.and_eq_true, decide_eq_true_iff, decide_eq_true_iff, Prod.mk.injEq]
    constructor
    ·rintro ⟨h1, h2⟩; exact ⟨h2, by rw [h1, bs_toL]⟩
    ·rintro ⟨h1, h2⟩; exact ⟨by rw [← h2, toL_bs], h1⟩
   have Hok := hide hok2;have Hsu := hide hsu
   have hr1 : ∀ X : ByteArray, bs r = X → (if q = true ∧ X = S1 then exP l st (k + 1) = exP l st k else exP l st (k + 1) = exP l st k ++ [(k : Int) + 1]) := fun X hX => by
    subst hX;rw [Hsu.out, Hok.out]
    by_cases hq : q = true
    ·by_cases hx : bs r = S1
     ·rw [if_pos ⟨hq, hx⟩, hq, decide_eq_true hx]; rfl
     ·rw [if_neg (fun h => hx h.2), decide_eq_false hx, Bool.and_false, if_neg (by simp)]
    ·rw [if_neg (fun h => hq h.1), if_neg (by simp [hq])]
   obtain ⟨X, hX⟩ : ∃ X, bs r = X := ⟨_, rfl⟩;have Hr1 := hide (hr1 X hX);rw [hX] at Hv1
   have hlenk : (exP l st k).length + 1 ≤ 4096 := by omega
   have Hlk := hide hlenk
   have i1 : IntKind.i64.wrap ((k : Int) + 1 - 1) = (k : Int) := by rw [IntWalk.i64_in _ (by omega)]; omega
   have hk0 : (0 : Int) ≤ (k : Int) := by omega
   have hk1 : (k : Int) < (n : Int) := by omega
   have hk2 : (k : Int) + 1 < (n : Int) := by omega
   have e1 : (k : Int) + 1 - 1 = (k : Int) := by omega
   clear hil hil0 hS0 hS1 hr hok hok2 hr1 hX hsu hle Hok Hsu hlenk hc1'
   go_wp2_with fail
   refine (Hv1.out _).mono ?_;rintro x w1 ⟨rfl, hb1⟩;have hc1 := Hc1.out w1 hb1
   have hc1b : w1.cell? ⟨b, o + ((k : Int) + 1).toNat, none⟩ = some (.string S1) := by
    rw [show ((k : Int) + 1).toNat = k + 1 by omega]; exact hc1
   have e2 : ((k : Int) + 1).toNat = k + 1 := by omega
   have hown1 := own_fr hown.out (Fr.of_below (S := nob) hb1) (fun _ _ f => f);have Hb1 := hide (hb.out.trans (hb1.mono hb.out.size));obtain ⟨v', w4, hrun, hown4, hf4, _⟩ := app_own (P := Tryz.prog) 85 3 _ _ Tryz.underlying85 intinf rfl (w := w1) hown1 Hb1.out Hb1.out.size (.int .i64 ((k : Int) + 1)) rfl (by have := Hlk.out; unfold maxLen; omega) (by have := Hlk.out; omega);have Hrun := hide hrun;have Hown4 := hide hown4;have Hf4 := hide hf4;have Hown1 := hide hown1;clear hb1 Hv1 hown hb hc Hc1 hrun hown4 hf4 hown1
   cases q with
   | false =>
    have Hex := hide (show exP l st (k + 1) = exP l st k ++ [(k : Int) + 1] by
     have := Hr1.out
     rwa [if_neg (by simp)] at this)
    have Hown5 := hide (show w4.ownsRow w.heap.size 3 1 v' (exP l st (k + 1)).length (ivs (exP l st (k + 1))) by
     rw [Hex.out, ivs_snocB, List.length_append]
     exact Hown4.out)
    clear Hown1 Hown4 Hex hc1 hc1b Hr1
    go_wp2_with (
     at_builtin
     refine wpList_run (by with_reducible rfl) rfl _ _ _ rfl _ _ (by rfl) (by rfl) Hrun.out ?_)
    refine ⟨⟨k + 1, .inr hlt, by go_num, Hown5, Hf4⟩, ?_⟩
    simp [intOf] <;> omega
   | true =>
    by_cases hx : X = S1
    ·have Hex := hide (show exP l st (k + 1) = exP l st k by
      have := Hr1.out
      rwa [if_pos ⟨rfl, hx⟩] at this)
     have hne : (X.toList != S1.toList) = false := by rw [str_ne, hx]; simp
     have heq : (X.toList == S1.toList) = true := by rw [str_eq, hx]; simp
     have Hown5 := hide (show w1.ownsRow w.heap.size 3 1 (.slice A5 M5 cap5) (exP l st (k + 1)).length (ivs (exP l st (k + 1))) by
      rw [Hex.out]
      exact Hown1.out)
     clear Hown1 Hown4 Hex hc1b Hr1 Hrun Hf4 hx
     go_wp2
     refine ⟨⟨k + 1, .inr hlt, by go_num, Hown5, Hb1⟩, ?_⟩
     simp [intOf] <;> omega
    ·have Hex := hide (show exP l st (k + 1) = exP l st k ++ [(k : Int) + 1] by
      have := Hr1.out
      rwa [if_neg (fun h => hx h.2)] at this)
     have hne : (X.toList != S1.toList) = true := by rw [str_ne, decide_eq_false hx]; rfl
     have heq : (X.toList == S1.toList) = false := by rw [str_eq, decide_eq_false hx]
     have Hrun' := Hrun
     have Hown5 := hide (show w4.ownsRow w.heap.size 3 1 v' (exP l st (k + 1)).length (ivs (exP l st (k + 1))) by
      rw [Hex.out, ivs_snocB, List.length_append]
      exact Hown4.out)
     clear Hown1 Hown4 Hex hc1b Hr1 hx
     go_wp2_with (
      at_builtin
      refine wpList_run (by with_reducible rfl) rfl _ _ _ rfl _ _ (by rfl) (by rfl) Hrun.out ?_)
     refine ⟨⟨k + 1, .inr hlt, by go_num, Hown5, Hf4⟩, ?_⟩
     simp [intOf] <;> omega
  ·have hkn : n - 1 = k := by omega
   have hlt2 : ¬ (k : Int) + 1 < (n : Int) := by omega
   have Hres : Hid (IRes wr (.slice A5 M5 cap5) (exI l st)) := hide (by
    obtain ⟨A6, cap6, hv, hat⟩ := own_at hown.out;unfold exI;rw [← Hn.out, hkn]
    exact ⟨A6, cap6, hv, hat⟩)
   clear hown hkn Hv
   go_wp2
   go_returns
   exact ⟨_, rfl, Hres.out, hb.out⟩
end Go.Proofs.YtoeeblldgoccoaaGreat
namespace Wv
open Go Go.RowKit Wv.Ru
open Classical in
noncomputable def lk (l : List MapEntry) (k : Value) : Option Value := (l.find? (fun e => decide (e.key = k))).map (·.val)
theorem lk_eq {e : MapEntry} {t : List MapEntry} {k : Value} (h : e.key = k) : lk (e :: t) k = some e.val := by
 unfold lk;rw [List.find?_cons_of_pos (by simpa using h)];rfl
theorem lk_ne {e : MapEntry} {t : List MapEntry} {k : Value} (h : e.key ≠ k) : lk (e :: t) k = lk t k := by
 unfold lk;rw [List.find?_cons_of_neg (by simpa using h)]
theorem lk_find {d : TypeDesc} {k : Value} (hk : MapKept.IsKey d k) : ∀ (l : List MapEntry) (i : Nat), (∀ x ∈ l, MapKept.IsKey d x.key) →
  (Instr.findNow d k l i = some none ∧ lk l k = none) ∨ ∃ j v, Instr.findNow d k l i = some (some (i + j, v)) ∧ lk l k = some v ∧ (∃ e, l[j]? = some e ∧ e.key = k) ∧
   ∀ u, lk (l.modify j fun e => { e with key := k, val := u }) k = some u ∧ ∀ k', k' ≠ k → lk (l.modify j fun e => { e with key := k, val := u }) k' = lk l k'
 | [], i, _ => .inl ⟨rfl, rfl⟩
 | e :: t, i, h => by
  obtain ⟨r, hr, hiff⟩ := MapKept.sameNow_of_keys hk (h e (.head _))
  cases r with
  | true =>
   have he := hiff.1 rfl;refine .inr ⟨0, e.val, by simp [Instr.findNow, hr], lk_eq he.symm, ⟨e, rfl, he.symm⟩, fun u => ⟨?_, fun k' hk' => ?_⟩⟩
   ·show lk ({ e with key := k, val := u } :: t) k = _
    rw [lk_eq rfl]
   ·show lk ({ e with key := k, val := u } :: t) k' = _
    rw [lk_ne (fun h => hk' h.symm), lk_ne (fun h => hk' (by rw [← h, ← he]))]
  | false =>
   have hne : e.key ≠ k := fun q => by have := hiff.2 q.symm; cases this
   rcases lk_find hk t (i + 1) (fun x hx => h x (.tail _ hx)) with ⟨h1, h2⟩ | ⟨j, v, h1, h2, ⟨e', h3, h4⟩, h5⟩
   ·exact .inl ⟨by simp [Instr.findNow, hr, h1], by rw [lk_ne hne, h2]⟩
   ·refine .inr ⟨j + 1, v, by simp [Instr.findNow, hr, h1]; omega, by rw [lk_ne hne, h2], ⟨e', by simpa using h3, h4⟩, fun u => ⟨?_, fun k' hk' => ?_⟩⟩
    ·show lk (e :: t.modify j _) k = _
     rw [lk_ne hne];exact (h5 u).1
    ·show lk (e :: t.modify j _) k' = _
     by_cases h6 : e.key = k'
     ·rw [lk_eq h6, lk_eq h6]
     ·rw [lk_ne h6, lk_ne h6]
      exact (h5 u).2 k' hk'
theorem lk_push (l : List MapEntry) (e : MapEntry) (h : lk l e.key = none) : lk (l ++ [e]) e.key = some e.val ∧ ∀ k, k ≠ e.key → lk (l ++ [e]) k = lk l k := by
 induction l with
 | nil => exact ⟨lk_eq rfl, fun k hk => lk_ne (fun h => hk h.symm)⟩
 | cons a t ih =>
  by_cases ha : a.key = e.key
  ·rw [lk_eq ha] at h; cases h
  ·rw [lk_ne ha] at h
   obtain ⟨i1, i2⟩ := ih h;refine ⟨?_, fun k hk => ?_⟩
   ·rw [List.cons_append, lk_ne ha, i1]
   ·rw [List.cons_append]
    by_cases h2 : a.key = k
    ·rw [lk_eq h2, lk_eq h2]
    ·rw [lk_ne h2, lk_ne h2, i2 k hk]
def MpV (d : TypeDesc) (w : World) (b : Nat) (M : Value → Option Value) : Prop := ∃ es clock, w.heap[b]? = some (.map es clock) ∧ (∀ x ∈ es.toList, MapKept.IsKey d x.key) ∧ ∀ k, MapKept.IsKey d k → lk es.toList k = M k
section
variable {P : Program} {d : TypeDesc} {w w' : World} {b : Nat} {M : Value → Option Value} {t kt et : TypeId}
theorem MpV.lt (h : MpV d w b M) : b < w.heap.size := by
 obtain ⟨es, c, h1, _⟩ := h;exact (Array.getElem?_eq_some_iff.1 h1).1
theorem MpV.of (h : MpV d w b M) (he : w'.heap[b]? = w.heap[b]?) : MpV d w' b M := by
 obtain ⟨es, c, h1, h2⟩ := h;exact ⟨es, c, he.trans h1, h2⟩
theorem MpV.below {B : Nat} (h : MpV d w b M) (hb : Below B w w') (hB : b < B) : MpV d w' b M := h.of (hb.block b hB)
theorem MpV.fr {S : Nat → Prop} (h : MpV d w b M) (hf : Fr S w w') (hS : ¬ S b) : MpV d w' b M := h.of (hf.block b h.lt hS)
theorem MpV.alloc (h : MpV d w b M) (o : Obj) : MpV d (w.alloc o) b M := h.of (Below.heap_alloc w o b h.lt)
theorem MpV.new (d : TypeDesc) (w : World) : MpV d (w.alloc (.map #[] 0)) w.heap.size (fun _ => none) := ⟨#[], 0, heap_alloc_new w _, (fun x hx => by simp at hx), fun k _ => rfl⟩
theorem MpV.get (ht : P.underlying t = some (.map kt et)) (hd : P.underlying kt = some d) (h : MpV d w b M) (k v : Value) (hk : MapKept.IsKey d k) (hv : M k = some v) :
  (Instr.lookup t (.map (some b)) k false).run P w = .ok v w ∧ (Instr.lookup t (.map (some b)) k true).run P w = .ok (.tuple #[v, .bool true]) w := by
 obtain ⟨es, c, h1, h2, h3⟩ := h
 have ck := fun e => MapKept.run_checkKey (w := w) hd hk e 9999
 rcases lk_find hk es.toList 0 h2 with ⟨f1, f2⟩ | ⟨j, v', f1, f2, _, _⟩
 ·rw [h3 k hk, hv] at f2; cases f2
 ·rw [h3 k hk, hv] at f2
  injection f2 with f2
  subst f2
  constructor
  ·unfold Instr.lookup
   simp only [Sem.run_bind, Sem.run_pure, run_underlying ht, Result.andThen_ok, MapKept.run_getObj_map h1, ck, MapKept.run_findKey hd f1];rfl
  ·unfold Instr.lookup
   simp only [Sem.run_bind, Sem.run_pure, run_underlying ht, Result.andThen_ok, MapKept.run_getObj_map h1, ck, MapKept.run_findKey hd f1];rfl
theorem MpV.miss (ht : P.underlying t = some (.map kt et)) (hd : P.underlying kt = some d) (h : MpV d w b M) (k z : Value) (hk : MapKept.IsKey d k) (hv : M k = none) (hz : (zeroValue et).run P w = .ok z w) :
  (Instr.lookup t (.map (some b)) k false).run P w = .ok z w ∧ (Instr.lookup t (.map (some b)) k true).run P w = .ok (.tuple #[z, .bool false]) w := by
 obtain ⟨es, c, h1, h2, h3⟩ := h
 have ck := fun e => MapKept.run_checkKey (w := w) hd hk e 9999
 rcases lk_find hk es.toList 0 h2 with ⟨f1, f2⟩ | ⟨j, v', f1, f2, _, _⟩
 ·constructor
  ·unfold Instr.lookup
   simp only [Sem.run_bind, Sem.run_pure, run_underlying ht, Result.andThen_ok, MapKept.run_getObj_map h1, ck, MapKept.run_findKey hd f1, hz];rfl
  ·unfold Instr.lookup
   simp only [Sem.run_bind, Sem.run_pure, run_underlying ht, Result.andThen_ok, MapKept.run_getObj_map h1, ck, MapKept.run_findKey hd f1, hz];rfl
 ·rw [h3 k hk, hv] at f2; cases f2
theorem MpV.put (ht : P.underlying t = some (.map kt et)) (hd : P.underlying kt = some d) (h : MpV d w b M) (k v : Value) (hk : MapKept.IsKey d k) :
  ∃ w', (Instr.mapUpdate t (.map (some b)) k v).run P w = .ok () w' ∧ (∀ M', M' k = some v → (∀ x, x ≠ k → M' x = M x) → MpV d w' b M') ∧ Fr (fun j => j = b) w w' ∧ w'.heap.size = w.heap.size := by
 have hlt := h.lt;obtain ⟨es, c, h1, h2, h3⟩ := h;have ck := MapKept.run_checkKey (w := w) hd hk false 9999
 have hfr : ∀ o, Fr (fun j => j = b) w { w with heap := w.heap.setIfInBounds b o } := fun o => ⟨rfl, rfl, rfl, by simp, fun r hr hn => by
  have : b ≠ r := fun e => hn e.symm
  simp [this]⟩
 rcases lk_find hk es.toList 0 h2 with ⟨f1, f2⟩ | ⟨j, v', f1, f2, ⟨e, f3, f4⟩, f5⟩
 ·refine ⟨{ w with heap := w.heap.setIfInBounds b (.map (es.push { key := k, val := v, born := c }) (c + 1)) }, ?_, fun M' hM1 hM2 => ?_, hfr _, by simp⟩
  ·unfold Instr.mapUpdate
   simp only [Sem.run_bind, run_underlying ht, Result.andThen_ok, MapKept.run_getObj_map h1, ck, MapKept.run_findKey hd f1, MapKept.run_setObj_map _ h1]
  ·refine ⟨_, _, (MapKept.heap_set h1).1, ?_, ?_⟩
   ·intro x hx
    rw [Array.toList_push, List.mem_append, List.mem_singleton] at hx
    rcases hx with hx | rfl
    ·exact h2 x hx
    ·exact hk
   ·intro x hx
    rw [Array.toList_push]
    by_cases hxk : x = k
    ·subst hxk
     rw [hM1];exact (lk_push _ { key := x, val := v, born := c } f2).1
    ·rw [hM2 x hxk, ← h3 x hx]
     exact (lk_push _ { key := k, val := v, born := c } f2).2 x hxk
 ·have hj : es[j]? = some e := by simpa using f3
  refine ⟨{ w with heap := w.heap.setIfInBounds b (.map (es.modify j fun e => { e with key := k, val := v }) c) }, ?_, fun M' hM1 hM2 => ?_, hfr _, by simp⟩
  ·simp [Instr.mapUpdate, run_underlying ht, MapKept.run_getObj_map h1, ck, MapKept.run_findKey hd f1, hj, f4, MapKept.run_keyThatStays hk, MapKept.run_setObj_map _ h1, Result.andThen]
  ·refine ⟨_, _, (MapKept.heap_set h1).1, ?_, ?_⟩
   ·exact MapKept.isKey_modify h2 _ _ (fun e' he' => by rw [hj] at he'; cases he'; exact f4.symm)
   ·intro x hx
    rw [Array.toList_modify]
    by_cases hxk : x = k
    ·subst hxk
     rw [hM1];exact (f5 v).1
    ·rw [hM2 x hxk, ← h3 x hx]
     exact (f5 v).2 x hxk
end
end Wv
