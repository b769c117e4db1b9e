/-
  Joined texts: Aq, Ar, Ja, Jc.
-/
import Derived.Test.YtoeeblldgoccoaaGreatL43
import Derived.Test.YtoeeblldgoccoaaGreatL48
import Derived.Test.YtoeeblldgoccoaaGreatL49
set_option linter.unusedVariables false
set_option linter.unusedSimpArgs false
set_option maxRecDepth 100000
set_option maxHeartbeats 8000000
namespace Go.Proofs.YtoeeblldgoccoaaGreat
open Go.RowKit Go.Proofs Wv Wv.Vi Wv.Rc Wv.Mo Wv.Ru Wv.Tm Wv.Bc
def ExO (w : World) (o : Option (List ByteArray)) (x : Ending) (w' : World) : Prop := Below w.heap.size w w' ∧ match o with
 | none => ∃ A n c, x = .returned (.tuple #[.slice A n c, .bool false])
 | some r => ∃ v, x = .returned (.tuple #[v, .bool true]) ∧ w'.ownsRow w.heap.size 9 1 v r.length (svs r)
theorem a14extend_own {w : World} {A : Option Addr} {l : List ByteArray} (ha : At w A (svs l)) (hsz : ∀ s ∈ l, s.size ≤ 1099511627776) (n cap : Nat) (hn : n = l.length) (hm : n ≤ 1000000) (W : Int) :
  Calls Tryz.prog 46 #[.int .i64 W, .slice A n cap] w fun x w' => ExO w (extL W l) x w' := by
 have Ha := hide ha;have Hn := hide hn;have Hv := hide (fun (v : ByteArray) (hv : v ∈ l) W2 => aext_two v (hsz v hv) W W2);have ho0 := hide (own_made0 9 w);have hb0 := hide (bel_new1 w (.cells #[] 9));have Hall := hide (fun (h : ∀ s ∈ l, (ext W (toL s)).2 = 0) => extL_all h);have Hbad := hide (fun (s : ByteArray) (hs : s ∈ l) (h : (ext W (toL s)).2 ≠ 0) => extL_bad hs h);obtain ⟨R, hR⟩ : ∃ R, extL W l = R := ⟨_, rfl⟩;rw [hR] at Hall Hbad ⊢;clear ha hn hsz hR
 go_enter Tryz.func46, Tryz.ntmps46
 go_wp2
 go_loopw [6, 7] (fun s3 s4 wr => ∃ i : Nat, i ≤ n ∧ s4 = .int .i64 (i : Int) ∧ Hid (∀ s ∈ l.take i, (ext W (toL s)).2 = 0) ∧ Hid (wr.ownsRow w.heap.size 9 1 s3 i (svs ((l.take i).map (fun s => bs (ext W (toL s)).1)))) ∧ Hid (Below w.heap.size w wr)) (fun _ s4 _ => (n - intOf s4).toNat)
 case atStart => exact ⟨0, Nat.zero_le _, rfl, hide (fun s hs => by simp at hs), ho0, hb0⟩
 case round =>
  clear ho0 hb0;obtain ⟨i, hi, rfl, hal, hown, hb⟩ := hrel;obtain ⟨A5, M5, cap5, rfl⟩ := own_slice hown.out
  by_cases hlt : i < n
  ·have hil : i < l.length := by rw [← Hn.out]; exact hlt
   obtain ⟨b, o, rfl, hbl, hc⟩ := sv_cell (Ha.out.below hb.out) i hil;have htk : l.take (i + 1) = l.take i ++ [l[i]'hil] := List.take_succ_eq_append_getElem hil;have hmem : l[i]'hil ∈ l := List.getElem_mem _;obtain ⟨S, hS⟩ : ∃ S, l[i]'hil = S := ⟨_, rfl⟩;rw [hS] at hc htk hmem;have K := hide (Hv.out S hmem wr)
   have hi0 : (0 : Int) ≤ (i : Int) := by omega
   have hi1 : (i : Int) < (n : Int) := by omega
   obtain ⟨⟨E, e⟩, hE⟩ : ∃ X, ext W (toL S) = X := ⟨_, rfl⟩;rw [hE] at K;simp only at K
   by_cases he : e = 0
   ·subst he
    have Hal := hide (show ∀ v ∈ l.take (i + 1), (ext W (toL v)).2 = 0 from fun v hx => by
     rw [htk] at hx
     rcases List.mem_append.1 hx with hx | hx
     ·exact hal.out v hx
     ·rw [List.mem_singleton.1 hx, hE])
    have Hsn := hide (show (l.take (i + 1)).map (fun s => bs (ext W (toL s)).1) = (l.take i).map (fun s => bs (ext W (toL s)).1) ++ [bs E] by rw [htk, List.map_append]; show _ ++ [bs (ext W (toL S)).1] = _; rw [hE]);obtain ⟨X, hX⟩ : ∃ X, bs E = X := ⟨_, rfl⟩;rw [hX] at K Hsn;clear hil htk hmem hS hal hE Hv hX Hbad
    go_wp2_with fail
    refine (K.out).mono ?_;rintro x w1 ⟨rfl, hb1⟩;have hown1 := own_fr hown.out (Fr.of_below (S := nob) hb1) (fun _ _ f => f);have hbx := hb.out.trans (hb1.mono hb.out.size);obtain ⟨v', w4, hrun, hown4, hf4, _⟩ := app_own (P := Tryz.prog) 22 9 _ _ Tryz.underlying22 strinf rfl (w := w1) hown1 hbx hbx.size (.string X) rfl (by unfold maxLen; omega) (by omega);have Hrun := hide hrun;have Hown4 := hide (show w4.ownsRow w.heap.size 9 1 v' (i + 1) (svs ((l.take (i + 1)).map (fun s => bs (ext W (toL s)).1))) by rw [Hsn.out, svs_snocB]; exact hown4);have Hf4 := hide hf4;clear hb1 K hown hb hc hrun hown4 hf4 hown1 hbx Hsn
    go_wp2_with (
     at_builtin
     refine wpList_run (by with_reducible rfl) rfl _ _ _ rfl _ _ (by rfl) (by rfl) Hrun.out ?_)
    refine ⟨⟨i + 1, hlt, by go_num, Hal, Hown4, Hf4⟩, ?_⟩
    simp [intOf] <;> omega
   ·have Hno := hide (Hbad.out S hmem (by rw [hE]; exact he))
    have hne : ((e : Int) != 0) = true := by rw [bne_iff_ne]; omega
    clear hil htk hmem hS hal hE Hv Hbad he Hall
    generalize bs E = X at *
    go_wp2_with fail
    refine (K.out).mono ?_;rintro x w1 ⟨rfl, hb1⟩;have hbx := hb.out.trans (hb1.mono hb.out.size);clear K hb1 hb hown hc
    go_wp2
    go_returns
    refine ⟨hbx, ?_⟩;rw [Hno.out];exact ⟨_, _, _, rfl⟩
  ·have hin : i = n := by omega
   have hend : ¬ (i : Int) < (n : Int) := by omega
   have hal2 := hal.out;rw [List.take_of_length_le (by rw [← Hn.out]; omega)] at hal2;have HR := hide (Hall.out hal2)
   have Hres : Hid (wr.ownsRow w.heap.size 9 1 (.slice A5 M5 cap5) (l.map (fun s => bs (ext W (toL s)).1)).length (svs (l.map (fun s => bs (ext W (toL s)).1)))) := hide (by
    have h1 := hown.out;rw [List.take_of_length_le (by rw [← Hn.out]; omega)] at h1;rw [List.length_map, ← Hn.out, ← hin]
    exact h1)
   clear hown hin Hv hal hal2 Hall Hbad
   go_wp2
   go_returns
   refine ⟨hb.out, ?_⟩;rw [HR.out];exact ⟨_, rfl, Hres.out⟩
theorem a14uncount_any (m : Nat) (data : ByteArray) (hd : data.size ≤ 1000000000) (w : World) :
  Calls Tryz.prog 44 #[.int .i64 (m : Int), .string data] w fun x w' => ExR w (readCR (m : Int) (toL data)) x w' := by
 cases hr : rnum (toL data) 4096 with
 | none =>
  obtain ⟨e, he, hn⟩ := numR_nok hr;rw [bs_toL, show ((4096 : Nat) : Int) = 4096 from rfl] at hn;exact uc_zero _ data hd hn (.inl he) w
 | some p =>
  obtain ⟨n, r⟩ := p
  by_cases h0 : n = 0
  ·subst h0
   obtain ⟨hn, _, _⟩ := rest_of hr;rw [bs_toL] at hn;exact uc_zero _ data hd hn (.inr rfl) w
  ·exact uc_main m data hd hr h0 w
theorem own_cells {w : World} {B : Nat} {v : Value} {r : List ByteArray} (h : w.ownsRow B 9 1 v r.length (svs r)) : (v = .slice none 0 0 ∧ r = []) ∨ ∃ g cap sp, v = .slice (some ⟨g, 0, none⟩) r.length cap ∧ B ≤ g ∧ Bk w g 9 (svs r ++ sp).toArray := by
 rcases h.2 with ⟨h1, h2⟩ | ⟨g, cap, cur, h1, h2, h3, h4, h5, h6, h7⟩
 ·exact .inl ⟨h1, List.eq_nil_of_length_eq_zero h2⟩
 ·refine .inr ⟨g, cap, cur.toList.drop r.length, h1, h2, ?_⟩
  have : svs r ++ cur.toList.drop r.length = cur.toList := by
   rw [← h7, Nat.mul_one, List.take_append_drop]
  rw [this];exact h3
theorem bk_setS {w : World} {g : Nat} {l : List ByteArray} {sp : List Value} (h : Bk w g 9 (svs l ++ sp).toArray) (i : Nat) (hi : i < l.length) (x : ByteArray) : Bk (w.setCell ⟨g, i, none⟩ (.string x)) g 9 (svs (l.set i x) ++ sp).toArray := by
 have h1 := h.put i (.string x);rw [List.setIfInBounds_toArray, List.set_append_left _ _ (by rw [svs_len]; exact hi)] at h1
 have h2 : (svs l).set i (.string x) = svs (l.set i x) := by unfold svs; rw [List.map_set]; rfl
 rw [h2] at h1;exact h1
theorem a14read_any (m : Nat) (hm1 : 1 ≤ m) (hm : m ≤ 128) (data : ByteArray) (hd : data.size ≤ 1000000000) (w : World) :
  Calls Tryz.prog 21 #[.int .i64 (m : Int), .string data] w fun x w' => ExR w (readR (m : Int) (toL data)) x w' := by
 have HR := hide (rread_any (s := data) (by omega) w)
 obtain ⟨nn, zz, hrk, hzs, hz0⟩ : ∃ nn zz : Nat, rk data = .tuple #[.int .i64 (nn : Int), .int .i64 (zz : Int)] ∧ zz ≤ data.size ∧ ((zz = 0 ∧ rd (toL data) = none) ∨ (1 ≤ zz ∧ rd (toL data) = some (nn, zz))) := by
  cases h : rd (toL data) with
  | none => exact ⟨0, 0, rk_none h, Nat.zero_le _, .inl ⟨rfl, rfl⟩⟩
  | some p =>
   obtain ⟨n, z⟩ := p;obtain ⟨h1, h2, h3, h4⟩ := rd_le h;rw [toL_length] at h3;exact ⟨n, z, rk_some h, by omega, .inr ⟨by omega, rfl⟩⟩
 rw [hrk] at HR;have hex : data.extract zz data.size = bs ((toL data).drop zz) := ext_drop data zz;obtain ⟨r, hr⟩ : ∃ r, (toL data).drop zz = r := ⟨_, rfl⟩;rw [hr] at hex
 have hrl : (bs r).size ≤ 1000000000 := by rw [bs_size, ← hr, List.length_drop, toL_length]; omega
 have hpl : readR (m : Int) (toL data) = if zz = 0 ∨ 3 < nn then none else if nn = 0 then readPl (m : Int) r else if nn = 1 then readCR (m : Int) r else if nn = 2 then (readWd (m : Int) r).map (unmix (bs (allV (m : Int) 48))) else readWd (m : Int) r := by
  unfold readR rnum
  rcases hz0 with ⟨h0, h1⟩ | ⟨h0, h1⟩
  ·rw [h1, if_pos (.inl h0)]
  ·rw [h1]
   simp only
   by_cases h4 : 3 < nn
   ·rw [if_pos h4, if_pos (.inr h4)]
   ·rw [if_neg h4, if_neg (by omega), hr]
    try rfl
 have HU := hide (fun W => a14unpack_any m hm1 hm (bs r) hrl W);have HC := hide (fun W => a14uncount_any m (bs r) hrl W);have HD := hide (fun W => rdecode12_any (bs r) hrl 4096 W);rw [toL_bs] at HU HC HD
 have hdec : (∀ t ∈ (dec r 4096).1, t.size ≤ 128) ∧ (dec r 4096).1.length ≤ 4096 := by
  rcases dec_strict r 4096 with (h | h) | ⟨l, h, he, hr, hl128, hl4⟩
  ·rw [h]; exact ⟨fun t ht => (by cases ht), Nat.zero_le _⟩
  ·rw [h]; exact ⟨fun t ht => (by cases ht), Nat.zero_le _⟩
  ·rw [h]; exact ⟨hl128, by simpa using hl4⟩
 have hwd : readWd (m : Int) r = if (dec r 4096).2 ≠ 0 then none else extL (m : Int) (dec r 4096).1 := rfl
 rw [hwd] at hpl
 generalize dec r 4096 = DD at *
 obtain ⟨D, ed⟩ := DD;unfold TRes at HD;simp only at hdec HD hpl;have HV := hide (fun W2 (A : Option Addr) (cap : Nat) (hat : At W2 A (svs D)) => a14extend_own hat (fun t ht => by have := hdec.1 t ht; omega) D.length cap rfl (by omega) (m : Int));have HZ := hide (fun W => a14zeros_any (m : Int) W)
 have hZ8 : (bs (allV (m : Int) 48)).size ≤ 128 := by rw [bs_size]; exact allV_len _ _
 have hvz : ∀ l, extL (m : Int) D = some l → l.length ≤ 4096 ∧ ∀ v ∈ l, v.size ≤ 128 := fun l h => ⟨by rw [(extL_valid h).2]; exact hdec.2, extL_sz h⟩
 have Hvz := hide hvz;obtain ⟨R, hR⟩ : ∃ R, readR (m : Int) (toL data) = R := ⟨_, rfl⟩;rw [hR] at hpl ⊢;have Hpl := hide hpl
 have hzi : (zz : Int) ≤ (data.size : Int) := by omega
 have HZ8 := hide hZ8;obtain ⟨Z, hZ⟩ : ∃ Z, bs (allV (m : Int) 48) = Z := ⟨_, rfl⟩;rw [hZ] at HZ HZ8 Hpl
 generalize bs r = SR at *
 generalize readPl (m : Int) r = O1 at *
 generalize readCR (m : Int) r = O2 at *
 clear hrk hpl hR hr hrl hd hdec hwd hZ8 hvz hZ hz0
 go_enter Tryz.func21, Tryz.ntmps21
 go_wp2_with fail
 refine (HR.out).mono ?_;rintro x w1 ⟨rfl, hb1⟩;have Hb1 := hide hb1;clear hb1 HR
 by_cases hz : zz = 0
 ·have HRn := hide (show R = none by rw [Hpl.out, if_pos (.inl hz)])
  have hzz : ((zz : Int) == 0) = true := by rw [hz]; rfl
  clear Hpl hz HU HC HD HV HZ
  go_wp2
  go_returns
  exact exr_none Hb1.out HRn.out
 have hzz : ((zz : Int) == 0) = false := by rw [beq_eq_false_iff_ne]; omega
 by_cases h4 : 3 < nn
 ·have HRn := hide (show R = none by rw [Hpl.out, if_pos (.inr h4)])
  have h4i : (3 : Int) < (nn : Int) := by omega
  clear Hpl h4 HU HC HD HV HZ
  go_wp2
  go_returns
  exact exr_none Hb1.out HRn.out
 have h4i : ¬ (3 : Int) < (nn : Int) := by omega
 have hR2 := Hpl.out;rw [if_neg (by omega)] at hR2
 by_cases h0 : nn = 0
 ·rw [if_pos h0] at hR2
  have HR2 := hide hR2
  have n0 : ((nn : Int) == 0) = true := by rw [h0]; rfl
  clear Hpl hR2 HC HD HV HZ h4 h0
  go_wp2_with fail
  refine (HU.out _).mono ?_;rintro x w2 hx;obtain ⟨A, k, c, ok, rfl, hb, ho⟩ := ex_open hx;have Hbb := hide (Hb1.out.trans (hb.mono Hb1.out.size));have Ho := hide ho;clear hx hb ho HU Hb1
  go_wp2
  go_returns
  refine ⟨Hbb.out, ?_⟩;rw [HR2.out]
  rcases Ho.out with ⟨rfl, h⟩ | ⟨rfl, q, h, rfl, hat⟩
  ·rw [h]; exact ⟨_, _, _, rfl⟩
  ·rw [h]; exact ⟨_, _, rfl, hat⟩
 rw [if_neg h0] at hR2
 have n0 : ((nn : Int) == 0) = false := by rw [beq_eq_false_iff_ne]; omega
 by_cases h1 : nn = 1
 ·rw [if_pos h1] at hR2
  have HR2 := hide hR2
  have n1 : ((nn : Int) == 1) = true := by rw [h1]; rfl
  clear Hpl hR2 HU HD HV HZ h4 h0 h1
  go_wp2_with fail
  refine (HC.out _).mono ?_;rintro x w2 hx;obtain ⟨A, k, c, ok, rfl, hb, ho⟩ := ex_open hx;have Hbb := hide (Hb1.out.trans (hb.mono Hb1.out.size));have Ho := hide ho;clear hx hb ho HC Hb1
  go_wp2
  go_returns
  refine ⟨Hbb.out, ?_⟩;rw [HR2.out]
  rcases Ho.out with ⟨rfl, h⟩ | ⟨rfl, q, h, rfl, hat⟩
  ·rw [h]; exact ⟨_, _, _, rfl⟩
  ·rw [h]; exact ⟨_, _, rfl, hat⟩
 rw [if_neg h1] at hR2
 have n1 : ((nn : Int) == 1) = false := by rw [beq_eq_false_iff_ne]; omega
 clear HU HC Hpl
 go_wp2_with fail
 refine (HD.out _).mono ?_;rintro x w2 ⟨v, rfl, ⟨A2, cap2, rfl, hat2⟩, hb⟩;have Hb2 := hide (Hb1.out.trans (hb.mono Hb1.out.size));have K := hide (HV.out w2 A2 cap2 hat2);clear hb hat2 HD HV Hb1
 go_wp2_with fail
 refine (K.out).mono ?_;rintro x w3 ⟨hb, hx⟩;have Hb3 := hide (Hb2.out.trans (hb.mono Hb2.out.size));have Hs2 := hide Hb2.out.size;clear hb K Hb2
 cases ho : extL (m : Int) D with
 | none =>
  rw [ho] at hx;obtain ⟨A, k, c, rfl⟩ := hx
  have HRn := hide (show R = none by
   rw [hR2]
   by_cases h2 : nn = 2
   ·rw [if_pos h2, ho]; split <;> rfl
   ·rw [if_neg h2, ho]; split <;> rfl)
  clear hR2 HZ Hvz ho h4 h0 h1
  by_cases he : ed = 0
  ·have hne : ((ed : Int) != 0) = false := by rw [he]; rfl
   clear he
   go_wp2
   go_returns
   exact exr_none Hb3.out HRn.out
  ·have hne : ((ed : Int) != 0) = true := by rw [bne_iff_ne]; omega
   clear he
   go_wp2
   go_returns
   exact exr_none Hb3.out HRn.out
 | some l =>
  rw [ho] at hx hR2;obtain ⟨v, rfl, hown⟩ := hx;obtain ⟨hl4, hl8⟩ := Hvz.out l ho
  by_cases he : ed = 0
  case neg =>
   have HRn := hide (show R = none by
    rw [hR2]
    by_cases h2 : nn = 2
    ·rw [if_pos h2, if_pos he]; rfl
    ·rw [if_neg h2, if_pos he])
   have hne : ((ed : Int) != 0) = true := by rw [bne_iff_ne]; omega
   obtain ⟨A, k, c, rfl⟩ := own_slice hown;clear hR2 HZ Hvz ho h4 h0 h1 he hown hl8
   go_wp2
   go_returns
   exact exr_none Hb3.out HRn.out
  have hee : ¬ (ed ≠ 0) := fun h => h he
  have hne : ((ed : Int) != 0) = false := by rw [he]; rfl
  by_cases h2 : nn = 2
  case neg =>
   rw [if_neg h2, if_neg hee] at hR2;have HR2 := hide hR2
   have n2 : ((nn : Int) == 2) = false := by rw [beq_eq_false_iff_ne]; omega
   obtain ⟨A, c, rfl, hat⟩ := own_at hown;have Hat := hide hat;clear hR2 HZ Hvz ho h4 h0 h1 h2 he hee hown hl8 hat
   go_wp2
   go_returns
   refine ⟨Hb3.out, ?_⟩;rw [HR2.out];exact ⟨_, _, rfl, Hat.out⟩
  rw [if_pos h2, if_neg hee] at hR2
  have n2 : ((nn : Int) == 2) = true := by rw [h2]; rfl
  have HR2 := hide (show R = some (unmix Z l) from hR2);have Hl8 := hide hl8
  rcases own_cells hown with ⟨rfl, rfl⟩ | ⟨g, cap, sp, rfl, hg, hbk⟩
  ·clear hR2 Hvz ho h4 h0 h1 h2 he hee hown hl8
   go_wp2_with fail
   refine (HZ.out _).mono ?_;rintro x w4 ⟨rfl, hb4⟩;have Hb4 := hide (Hb3.out.trans (hb4.mono Hb3.out.size));clear hb4 HZ Hb3
   go_wp2
   go_loopw [13] (fun s13 wr => s13 = .int .i64 0 ∧ wr = w4) (fun _ _ => 0)
   case atStart => exact ⟨rfl, rfl⟩
   case round =>
    obtain ⟨rfl, rfl⟩ := hrel
    go_wp2
    go_returns
    refine ⟨Hb4.out, ?_⟩;rw [HR2.out];exact ⟨none, 0, rfl, At.nil _ _⟩
  ·obtain ⟨K, hK⟩ : ∃ K, l.length = K := ⟨_, rfl⟩
   rw [hK] at hl4 ⊢;have HK := hide hK;have hg2 : w.heap.size ≤ g := Nat.le_trans Hs2.out hg;have Hbk := hide hbk;have hlt := Bk.lt hbk;clear hR2 Hvz ho h4 h0 h1 h2 he hee hown hl8 hK hg hbk
   go_wp2_with fail
   refine (HZ.out _).mono ?_;rintro x w4 ⟨rfl, hb4⟩;have Hb4 := hide (Hb3.out.trans (hb4.mono Hb3.out.size));have Hbk4 := hide (Hbk.out.below hb4 hlt);clear hb4 HZ Hb3 Hbk hlt
   go_wp2
   go_loopw [12, 13] (fun s12 s13 wr => ∃ (i : Nat) (last : ByteArray), i ≤ K ∧ s13 = .int .i64 (i : Int) ∧ s12 = .string last ∧ last.size ≤ 128 ∧ Hid (last = (unmix Z (l.take i)).getLastD Z) ∧ Hid (Bk wr g 9 (svs (uxRow Z l i) ++ sp).toArray) ∧ Hid (Below w.heap.size w wr)) (fun _ s13 _ => (K - intOf s13).toNat)
   case atStart => exact ⟨0, Z, Nat.zero_le _, rfl, rfl, HZ8.out, hide rfl, hide (by rw [uxRow_0]; exact Hbk4.out), Hb4⟩
   case round =>
    clear Hbk4 Hb4;obtain ⟨i, last, hi, rfl, rfl, hls, hlast, hbk, hb⟩ := hrel
    by_cases hlti : i < K
    ·have hil : i < l.length := by rw [HK.out]; exact hlti
     have hrl : i < (uxRow Z l i).length := by rw [uxRow_len _ _ _ (by omega)]; exact hil
     have hat := uxRow_at Z l i hil;have hcell := hbk.out.cell i;have hfroz := hbk.out.frozen i
     have hce : (svs (uxRow Z l i) ++ sp).toArray[i]? = some (.string (l[i]'hil)) := by
      rw [List.getElem?_toArray, List.getElem?_append_left (by rw [svs_len]; exact hrl)];exact hat
     rw [hce] at hcell;have hset := uxRow_set Z l i hil;have hul := uxLast Z l i hil;rw [← hlast.out] at hset hul;have hs8 := Hl8.out (l[i]'hil) (List.getElem_mem _);obtain ⟨S, hS⟩ : ∃ S, l[i]'hil = S := ⟨_, rfl⟩;rw [hS] at hcell hset hul hs8;have K1 := hide (amix_two last S (by omega) (by omega) wr)
     have hx8 : (bs (mixV (toL S) (toL last)).1).size ≤ 128 := by
      rw [bs_size];have := mixV_len (toL S) (toL last);rw [toL_length] at this;omega
     obtain ⟨⟨E, e⟩, hE⟩ : ∃ q, mixV (toL S) (toL last) = q := ⟨_, rfl⟩;rw [hE] at K1 hset hul hx8;simp only at K1 hset hul hx8;obtain ⟨X, hX⟩ : ∃ X, bs E = X := ⟨_, rfl⟩;rw [hX] at K1 hset hul hx8;have Hul := hide hul.symm;have Hset := hide hset;have hrl2 := hide hrl
     have hi0 : (0 : Int) ≤ (i : Int) := by omega
     have hi1 : (i : Int) < (K : Int) := by omega
     clear hil hat hce hS hE hX hset hul hrl hlast
     go_wp2_with fail
     refine (K1.out).mono ?_;rintro x w5 ⟨rfl, hb5⟩;have hbk5 := hbk.out.below hb5 (Bk.lt hbk.out);have hfr5 := hbk5.frozen i;have hlt5 := Bk.lt hbk5
     have Hbk6 := hide (show Bk (w5.setCell ⟨g, i, none⟩ (.string X)) g 9 (svs (uxRow Z l (i + 1)) ++ sp).toArray by
      rw [← Hset.out]
      exact bk_setS hbk5 i hrl2.out X)
     have Hb6 := hide ((hb.out.trans (hb5.mono hb.out.size)).setCell (p := ⟨g, i, none⟩) hg2 (.string X));have hc5 : ∃ y, w5.cell? ⟨g, i, none⟩ = some y := ⟨_, (hb5.cell (p := ⟨g, i, none⟩) (Bk.lt hbk.out)).trans hcell⟩;obtain ⟨y, hc5⟩ := hc5;clear hb5 K1 hbk hb hbk5 hcell hfroz Hset hrl2
     go_wp2
     refine ⟨⟨i + 1, X, hlti, by go_num, rfl, hx8, Hul, Hbk6, Hb6⟩, ?_⟩
     simp [intOf] <;> omega
    ·have hiK : i = K := by omega
     have hend : ¬ (i : Int) < (K : Int) := by omega
     have Hfin := hide (show At wr (some ⟨g, 0, none⟩) (svs (unmix Z l)) by
      have h := hbk.out;rw [show i = l.length by rw [HK.out]; exact hiK, uxRow_end] at h;have h2 := h.at_;rw [List.toList_toArray] at h2;intro j hj;obtain ⟨b', o', e', l', c'⟩ := h2 j (by rw [List.length_append]; omega);rw [List.getElem_append_left hj] at c'
      exact ⟨b', o', e', l', c'⟩)
     have Hun := hide (show (unmix Z l).length = K by rw [unmix_len, HK.out]);clear hbk hiK hlast
     go_wp2
     go_returns
     refine ⟨hb.out, ?_⟩;rw [HR2.out];exact ⟨_, cap, by rw [Hun.out]; rfl, Hfin.out⟩
theorem runR_sz (N : Int) (st : ByteArray) : ∀ (k : Nat) (i pt : Int) (vs : List ByteArray) (gs : List Int) (last : ByteArray) (r : List ByteArray), (∀ v ∈ vs, v.size ≤ 128) → runR N st k i pt vs gs last = some r → r.length = k ∧ ∀ v ∈ r, v.size ≤ 128 := by
 intro k
 induction k with
 | zero => intro i pt vs gs last r _ h; injection h with h; subst h; exact ⟨rfl, fun v h => (by cases h)⟩
 | succ k ih =>
  intro i pt vs gs last r hvs h;rw [runR_go] at h
  by_cases hp : i = pt
  ·rw [if_pos hp] at h
   split at h
   ·cases h
   ·cases hr : runR N st k (i + 1) (nxt N pt gs) vs.tail gs.tail (vs.headD default) with
    | none => rw [hr] at h; cases h
    | some q =>
     rw [hr] at h
     injection h with h
     subst h;obtain ⟨h1, h2⟩ := ih _ _ _ _ _ _ (fun v hv => hvs v (List.mem_of_mem_tail hv)) hr;refine ⟨by simp [h1], fun u hu => ?_⟩
     rcases List.mem_cons.1 hu with rfl | hu
     ·cases vs with
      | nil => exact Nat.zero_le _
      | cons a q => exact hvs a List.mem_cons_self
     ·exact h2 u hu
  ·rw [if_neg hp] at h
   split at h
   ·cases h
   ·rename_i hne
    cases hr : runR N st k (i + 1) pt vs gs (bs (addV (toL last) (toL st)).1) with
    | none => rw [hr] at h; cases h
    | some q =>
     rw [hr] at h
     injection h with h
     subst h;obtain ⟨h1, h2⟩ := ih _ _ _ _ _ _ hvs hr;refine ⟨by simp [h1], fun u hu => ?_⟩
     rcases List.mem_cons.1 hu with rfl | hu
     ·rw [bs_size]
      cases hq : (addV (toL last) (toL st)).2 with
      | true => exact (knV_iff.1 (addV_known (Prod.ext rfl hq)).1).2.2
      | false =>
       have : (addV (toL last) (toL st)).1 = [] := by
        unfold addV at hq ⊢
        split
        ·rename_i hc; rw [if_pos hc] at hq; cases hq
        ·rfl
       exact absurd this hne
     ·exact h2 u hu
theorem readR_sz {m : Nat} (hm : m ≤ 128) {data : List UInt8} {l : List ByteArray} (h : readR (m : Int) data = some l) : l.length ≤ 4096 ∧ ∀ v ∈ l, v.size ≤ 128 := by
 have hb := fun (h2 : readB (m : Int) data = some l) => readB_sz hm h2
 unfold readR at h;unfold readB at hb
 cases hr : rnum data 3 with
 | none => rw [hr] at h; cases h
 | some p =>
  obtain ⟨c, r⟩ := p;rw [hr] at h hb;simp only at h hb
  by_cases h1 : c = 1
  ·subst h1
   rw [if_neg (by decide), if_pos rfl] at h
   cases hr2 : rnum r 4096 with
   | none =>
    unfold readCR at h;rw [hr2] at h
    cases h
   | some p =>
    obtain ⟨n, t⟩ := p;obtain ⟨_, hn4, _⟩ := rest_of hr2
    by_cases hn : n = 0
    ·subst hn
     unfold readCR at h;rw [hr2] at h;simp only [if_true] at h
     split at h
     ·injection h with h; subst h; exact ⟨Nat.zero_le _, fun v h => (by cases h)⟩
     ·cases h
    ·obtain ⟨t1, t2, t3, S, e, _, _, _, _, _, hcase⟩ := uc_cases t r.length
     rcases hcase with ⟨_, hno⟩ | ⟨_, f, s2, st, s3, a, s4, r1, r2, r3, _⟩
     ·rw [readCR_bad hr2 hn hno] at h; cases h
     ·rw [readCR_fin hr2 hn r1 r2 r3] at h
      unfold crFin at h
      split at h
      ·cases h
      ·cases he : extL (m : Int) (dec s4 4096).1 with
       | none => rw [he] at h; cases h
       | some vs =>
        rw [he] at h;simp only at h
        split at h
        ·cases h
        ·rename_i hf0
         obtain ⟨Q, hQ⟩ : ∃ Q, runR (n : Int) (bs (ext (m : Int) st).1) (n - 1) 1 (nxt (n : Int) (-1) (decn a 4096).1) vs (decn a 4096).1.tail (bs (ext (m : Int) f).1) = Q := ⟨_, rfl⟩;rw [hQ] at h
         cases Q with
         | none => cases h
         | some q =>
          injection h with h
          subst h;obtain ⟨q1, q2⟩ := runR_sz _ _ _ _ _ _ _ _ _ (extL_sz he) hQ;refine ⟨by simp [q1]; omega, fun u hu => ?_⟩
          rcases List.mem_cons.1 hu with rfl | hu
          ·rw [bs_size]
           exact ext_len (by
            rcases Nat.eq_zero_or_pos (ext (m : Int) f).2 with h | h
            ·exact h
            ·exact absurd (.inl (by omega)) hf0)
          ·exact q2 u hu
  ·rw [if_neg h1] at h hb
   exact hb h
theorem a14decode_any (W : Int) (data : ByteArray) (hd : data.size ≤ 1000000000) (most : Int) (w : World) :
  Calls Tryz.prog 23 #[.int .i64 W, .string data, .int .i64 most] w fun x w' => TRes w (decB W (toL data) most) x w' := by
 unfold decB
 by_cases h1 : W < 1
 ·rw [if_pos (.inl h1)]
  go_enter Tryz.func23, Tryz.ntmps23
  go_wp2_with fail
  go_returns
  exact tres_none 1 (Below.refl _ _)
 by_cases h2 : 128 < W
 ·rw [if_pos (.inr h2)]
  go_enter Tryz.func23, Tryz.ntmps23
  go_wp2_with fail
  go_returns
  exact tres_none 1 (Below.refl _ _)
 rw [if_neg (by omega)];obtain ⟨m, rfl⟩ : ∃ m : Nat, W = m := ⟨W.toNat, by omega⟩
 have hm1 : 1 ≤ m := by omega
 have hm2 : m ≤ 128 := by omega
 have hsame := okB_same (w := (m : Int)) (data := toL data) (most := most) (o := readR (m : Int) (toL data)) (fun l hv he => readR_cod hv he);rw [← hsame];have HRd := hide (a14read_any m hm1 hm2 data hd w)
 have hsz := fun l (h : readR (m : Int) (toL data) = some l) => readR_sz hm2 h
 generalize readR (m : Int) (toL data) = o at *
 have Hsz := hide hsz;obtain ⟨R, hR⟩ : ∃ R, okB (m : Int) (toL data) most o = R := ⟨_, rfl⟩;have HR := hide hR;rw [hR];clear hsz hR hsame
 go_enter Tryz.func23, Tryz.ntmps23
 go_wp2_with fail
 refine (HRd.out).mono ?_;rintro x w4 ⟨hb4, hx⟩;have Hb4 := hide hb4;clear hb4 HRd
 cases o with
 | none =>
  obtain ⟨A, n, k, rfl⟩ := hx;have HRn : Hid (R = ([], 12)) := hide HR.out.symm;clear HR Hsz
  go_wp2
  go_returns
  rw [HRn.out];exact tres_none 12 Hb4.out
 | some l =>
  obtain ⟨A, k, rfl, hat⟩ := hx;obtain ⟨hl4, hl8⟩ := Hsz.out l rfl;have K5 := hide (a14encode_any hat (fun s hs => by have := hl8 s hs; omega) l.length k rfl (by omega) (m : Int));have Hat := hide hat
  have hR2 : R = if (encB' (m : Int) l).2 ≠ 0 ∨ (encB' (m : Int) l).1 ≠ toL data then ([], 12) else if most < (l.length : Int) then ([], 2) else (l, 0) := HR.out.symm
  unfold ERes at K5;have HR2 := hide hR2;clear hat hR2 HR Hsz hl8
  generalize encB' (m : Int) l = EE at *
  obtain ⟨E, e⟩ := EE;simp only at K5;have hdt : (bs E = data) ↔ E = toL data := ⟨fun h => by rw [← h, toL_bs], fun h => by rw [h, bs_toL]⟩;have hs1 := str_ne (a := bs E) (b := data);have hs5 := str_eq (a := bs E) (b := data)
  go_wp2_with fail
  refine (K5.out).mono ?_;rintro x w5 ⟨rfl, hb5⟩;have Hb5 := hide (Hb4.out.trans (hb5.mono Hb4.out.size));have Hat5 := hide (Hat.out.below hb5);clear hb5 Hb4 Hat K5;have hR3 := HR2.out
  try simp only at hR3
  by_cases he : e = 0
  ·subst he
   by_cases hE : E = toL data
   ·rw [if_neg (by rintro (h | h); exact h rfl; exact h hE)] at hR3
    rw [decide_eq_true (hdt.2 hE)] at hs1 hs5;have hs2 : ((bs E).toList != data.toList) = false := hs1
    by_cases hmo : most < (l.length : Int)
    ·rw [if_pos hmo] at hR3
     have HR3 := hide hR3
     generalize bs E = SE at *
     clear hR3 hs1 hdt hE HR2
     go_wp2
     go_returns
     rw [HR3.out];exact tres_none 2 Hb5.out
    ·rw [if_neg hmo] at hR3
     have HR3 := hide hR3
     generalize bs E = SE at *
     clear hR3 hs1 hdt hE HR2
     go_wp2
     go_returns
     rw [HR3.out];exact ⟨_, rfl, ⟨A, k, rfl, Hat5.out⟩, Hb5.out⟩
   ·rw [if_pos (.inr hE)] at hR3
    rw [decide_eq_false (fun h => hE (hdt.1 h))] at hs1 hs5;have hs2 : ((bs E).toList != data.toList) = true := hs1;have HR3 := hide hR3
    generalize bs E = SE at *
    clear hR3 hs1 hdt hE HR2
    go_wp2
    go_returns
    rw [HR3.out];exact tres_none 12 Hb5.out
  ·rw [if_pos (.inl he)] at hR3
   have hne : ((e : Int) != 0) = true := by rw [bne_iff_ne]; omega
   have HR3 := hide hR3
   generalize bs E = SE at *
   clear hR3 hs1 hdt HR2 he
   go_wp2
   go_returns
   rw [HR3.out];exact tres_none 12 Hb5.out
theorem at_new {w : World} {e : Nat} (vs : List Value) : At (w.alloc (.cells vs.toArray e)) (some ⟨w.heap.size, 0, none⟩) vs := by
 have := (Bk.new w e vs.toArray).at_
 simpa using this
theorem bel_new (w : World) (o : Obj) : Below w.heap.size w (w.alloc o) := (Below.refl w.heap.size w).alloc (Nat.le_refl _) o
theorem bel_step {w w1 w2 : World} (h : Below w.heap.size w w1) (k : Below w1.heap.size w1 w2) : Below w.heap.size w w2 := h.trans (k.mono h.size)
theorem drew_bel {w w1 w2 : World} (h : Below w.heap.size w w1) (k : ∃ q, w2 = w1.drewN q) : Below w.heap.size w w2 := by
 obtain ⟨q, rfl⟩ := k;exact bdN h q
theorem tres_sv {w w' : World} {x : Ending} {X : List ByteArray} {e : Nat} (h : TRes w (X, e) x w') : ∃ B cap, x = .returned (.tuple #[.slice B X.length cap, .int .i64 (e : Int)]) ∧ At w' B (svs X) ∧ Below w.heap.size w w' := by
 obtain ⟨v, h1, ⟨B, cap, h2, h3⟩, h4⟩ := h;exact ⟨B, cap, by rw [h1, h2], h3, h4⟩
theorem sv_texts {W : World} {B C : Option Addr} {X : List ByteArray} (h1 : At W B (svs X)) (h2 : At W C (svs X)) (n c1 m c2 : Nat) (hn : n = X.length) (hm : m = X.length) (hX : X.length ≤ 8192) :
  Calls Tryz.prog 24 #[.slice B n c1, .slice C m c2] W fun x w' => x = .returned (.bool true) ∧ ∃ q, w' = W.drewN q := by
 have := texts_any (a := X) (b := X) h1 h2 n c1 m c2 hn hm (by omega) (by omega)
 simpa using this
def BTrue (w : World) (x : Ending) (w' : World) : Prop := x = .returned (.bool true) ∧ Below w.heap.size w w'
theorem encB_len (w : Int) (l : List ByteArray) : (encB' w l).1.length ≤ 4000100 := by
 cases h : validB w l with
 | false => rw [encB_bad h]; simp
 | true =>
  obtain ⟨c, s, hc, hs, he⟩ := encB_cases h;have := codB_len (c := c) h;rw [hs] at this;rw [he];have h9 := kof9 c;simp only [List.length_append, Option.getD_some] at this ⊢;omega
theorem decB_len (w : Int) (data : List UInt8) (most : Int) : (decB w data most).1.length ≤ 4096 := by
 rcases decB_strict w data most with ⟨_, h⟩ | ⟨_, _, h | h⟩ | ⟨l, h, _, hv, _⟩
 ·rw [h]; simp
 ·rw [h]; simp
 ·rw [h]; simp
 ·rw [h]; exact (validB_iff.1 hv).2.2.2
def l4B : List ByteArray := [⟨#[48, 48, 48, 49]⟩, ⟨#[48, 48, 49, 48]⟩, ⟨#[48, 48, 49, 49]⟩, ⟨#[48, 49, 49, 49]⟩]
theorem l4B_val : validB 4 l4B = true := by decide +kernel
theorem l4B_step : stepB l4B = ⟨#[48, 48, 48, 49]⟩ := by decide +kernel
theorem l0B_enc : encB' 4 [] = ([1, 0], 0) := by decide +kernel
theorem l4B_sz : ∀ s ∈ l4B, s.size ≤ 1099511627776 := by decide
theorem l4B_dec : decB 4 (encB' 4 l4B).1 4 = (l4B, 0) := by rw [decB_enc l4B_val, if_neg (by decide)]
theorem l4B_enc : (encB' 4 l4B).2 = 0 := by obtain ⟨c, s, _, _, he⟩ := encB_cases l4B_val; rw [he]
theorem bawake_any (w : World) :
  Calls Tryz.prog 11 #[] w fun x w' => BTrue w x w' := by
 have He0 : Hid (∀ W, Calls Tryz.prog 19 #[.int .i64 4, .slice none 0 0] W fun x w' => x = .returned (.tuple #[.string ⟨#[1, 0]⟩, .int .i64 0]) ∧ Below W.heap.size W w') := hide (fun W => by
  have := bencode_any (w := W) (A := none) (l := []) (At.nil _ _) (by simp) 0 0 rfl (by omega) 4;rw [l0B_enc] at this
  exact this.mono fun x w' ⟨h1, h2⟩ => ⟨by rw [h1]; rfl, h2⟩)
 obtain ⟨SX, hSX⟩ : ∃ S, bs (encB' 4 l4B).1 = S := ⟨_, rfl⟩
 have He4 : Hid (∀ W A, At W A (svs l4B) → Calls Tryz.prog 19 #[.int .i64 4, .slice A 4 4] W fun x w' => x = .returned (.tuple #[.string SX, .int .i64 0]) ∧ Below W.heap.size W w') := hide (fun W A h => by
  have := bencode_any h l4B_sz 4 4 rfl (by omega) 4
  exact this.mono fun x w' ⟨h1, h2⟩ => ⟨by rw [h1, hSX, l4B_enc]; rfl, h2⟩)
 have Hd : Hid (∀ W, Calls Tryz.prog 22 #[.int .i64 4, .string SX, .int .i64 4] W fun x w' => ∃ B cap, x = .returned (.tuple #[.slice B 4 cap, .int .i64 0]) ∧ At w' B (svs l4B) ∧ Below W.heap.size W w') := hide (fun W => by
  have := bdecode_any (w := W) 4 (bs (encB' 4 l4B).1) (by rw [bs_size]; have := encB_len 4 l4B; omega) 4;rw [toL_bs, l4B_dec] at this;rw [← hSX];refine this.mono fun x w' hx => ?_;obtain ⟨A, cap, h1, h2, h3⟩ := tres_sv hx
  exact ⟨A, cap, h1, h2, h3⟩)
 have Hst : Hid (∀ W A, At W A (svs l4B) → Calls Tryz.prog 15 #[.slice A 4 4] W fun x w' => x = .returned (.string ⟨#[48, 48, 48, 49]⟩) ∧ Below W.heap.size W w') := hide (fun W A h => by
  have := step_any h l4B_sz 4 4 rfl (by omega);rw [l4B_step] at this
  exact this)
 have Hva : Hid (∀ W A, At W A (svs l4B) → Calls Tryz.prog 13 #[.int .i64 4, .slice A 4 4] W fun x w' => x = .returned (.bool true) ∧ Below W.heap.size W w') := hide (fun W A h => by
  have := validB_any h l4B_sz 4 4 rfl (by omega) 4;rw [l4B_val] at this
  exact this)
 have Htx : Hid (∀ W A B cap, At W A (svs l4B) → At W B (svs l4B) → Calls Tryz.prog 24 #[.slice A 4 cap, .slice B 4 4] W fun x w' => x = .returned (.bool true) ∧ ∃ q, w' = W.drewN q) := hide (fun W A B cap h1 h2 => sv_texts h1 h2 4 cap 4 4 rfl rfl (by decide));have hat0 : At (w.alloc (.cells #[.string ⟨#[48, 48, 48, 49]⟩, .string ⟨#[48, 48, 49, 48]⟩, .string ⟨#[48, 48, 49, 49]⟩, .string ⟨#[48, 49, 49, 49]⟩] 9)) (some ⟨w.heap.size, 0, none⟩) (svs l4B) := at_new (e := 9) (svs l4B);have Hat := hide hat0;have Hb := hide (bel_new w (.cells #[.string ⟨#[48, 48, 48, 49]⟩, .string ⟨#[48, 48, 49, 48]⟩, .string ⟨#[48, 48, 49, 49]⟩, .string ⟨#[48, 49, 49, 49]⟩] 9));have H1 := hide (He0.out (w.alloc (.cells #[.string ⟨#[48, 48, 48, 49]⟩, .string ⟨#[48, 48, 49, 48]⟩, .string ⟨#[48, 48, 49, 49]⟩, .string ⟨#[48, 49, 49, 49]⟩] 9)));clear hSX hat0 He0
 go_enter Tryz.func11, Tryz.ntmps11
 go_wp2_with fail
 refine (H1.out).mono ?_;rintro x w1 ⟨rfl, hb1⟩;have Hb1 := hide (bel_step Hb.out hb1);have Hat1 := hide (Hat.out.below hb1);have H2 := hide (He4.out _ _ Hat1.out);clear hb1 Hb Hat H1
 go_wp2_with fail
 refine (H2.out).mono ?_;rintro x w2 ⟨rfl, hb2⟩;have Hb2 := hide (bel_step Hb1.out hb2);have Hat2 := hide (Hat1.out.below hb2);have H3 := hide (Hd.out w2);clear hb2 Hb1 Hat1 H2
 go_wp2_with fail
 refine (H3.out).mono ?_;rintro x w3 ⟨AD, cD, rfl, hatD, hb3⟩;have Hb3 := hide (bel_step Hb2.out hb3);have Hat3 := hide (Hat2.out.below hb3);have HatD := hide hatD;have H4 := hide (Hst.out _ _ Hat3.out);clear hb3 Hb2 Hat2 H3 hatD
 go_wp2_with fail
 refine (H4.out).mono ?_;rintro x w4 ⟨rfl, hb4⟩;have Hb4 := hide (bel_step Hb3.out hb4);have Hat4 := hide (Hat3.out.below hb4);have H5 := hide (Htx.out _ _ _ cD (HatD.out.below hb4) Hat4.out);clear hb4 Hb3 Hat3 H4 HatD
 go_wp2_with fail
 refine (H5.out).mono ?_;rintro x w5 ⟨rfl, q5, hq5⟩;have Hb5 := hide (drew_bel Hb4.out ⟨q5, hq5⟩);have H6 := hide (Hva.out w5 _ (show At w5 _ _ from hq5 ▸ Hat4.out.drewN q5));clear hq5 Hb4 Hat4 H5
 go_wp2_with fail
 refine (H6.out).mono ?_;rintro x w6 ⟨rfl, hb6⟩;have Hb6 := hide (bel_step Hb5.out hb6);clear hb6 Hb5 H6
 go_wp2
 go_returns
 exact ⟨rfl, Hb6.out⟩
theorem lbdecodes_any {w : World} (W : Int) (_ : I64 W) (data : ByteArray) (hsz : data.size ≤ 9223372036854775807) (most : Int) (hi : I64 most) :
  Calls Tryz.prog 5 #[.int .i64 W, .string data, .int .i64 most] w fun x w' => BTrue w x w' := by
 have Haw := hide (bawake_any w)
 by_cases hbig : (200 : Int) < (data.size : Int)
 ·clear hsz hi
  go_enter Tryz.func5, Tryz.ntmps5
  go_wp2_with fail
  refine (Haw.out).mono ?_;rintro x w1 ⟨rfl, hb1⟩
  go_wp2
  go_returns
  exact ⟨rfl, hb1⟩
 ·obtain ⟨M1, hM1⟩ : ∃ M, max W 1 = M := ⟨_, rfl⟩
  obtain ⟨m, hm1, hm2, hmW⟩ : ∃ m : Nat, 1 ≤ m ∧ m ≤ 128 ∧ min M1 128 = (m : Int) := ⟨(min M1 128).toNat, by omega, by omega, by omega⟩;have Hr := hide (fun W2 => a14read_any m hm1 hm2 data (by omega) W2);have Hp := hide (fun W2 => bdecode_any (w := W2) W data (by omega) most);have Hq := hide (fun W2 => a14decode_any W data (by omega) most W2);have hdl := decB_len W (toL data) most;obtain ⟨⟨X, e⟩, hX⟩ : ∃ x, decB W (toL data) most = x := ⟨_, rfl⟩;rw [hX] at Hp Hq hdl;simp only at hdl;have Hin := hide (fun W2 B C c1 c2 (h1 : At W2 B (svs X)) (h2 : At W2 C (svs X)) => sv_texts h1 h2 X.length c1 X.length c2 rfl rfl (by omega));clear hX;obtain ⟨R, hR⟩ : ∃ R, readR (m : Int) (toL data) = R := ⟨_, rfl⟩;rw [hR] at Hr;clear hR hsz hi hdl hm1 hm2
  cases R with
  | none =>
   go_enter Tryz.func5, Tryz.ntmps5
   go_wp2_with fail
   refine (Haw.out).mono ?_;rintro x w1 ⟨rfl, hb1⟩;have Hb1 := hide hb1;have K1 := hide (Hr.out w1);clear hb1 Haw Hr
   go_wp2_with fail
   refine (K1.out).mono ?_;rintro x w2 ⟨hb2, A2, n2, c2, rfl⟩;have Hb2 := hide (bel_step Hb1.out hb2);have K2 := hide (Hp.out w2);clear hb2 Hb1 K1 Hp
   go_wp2_with fail
   refine (K2.out).mono ?_;rintro x w3 hx3;obtain ⟨B3, c3, rfl, hat3, hb3⟩ := tres_sv hx3;have Hb3 := hide (bel_step Hb2.out hb3);have Hat3 := hide hat3;have K3 := hide (Hq.out w3);clear hb3 Hb2 K2 Hq hx3 hat3
   go_wp2_with fail
   refine (K3.out).mono ?_;rintro x w4 hx4;obtain ⟨B4, c4, rfl, hat4, hb4⟩ := tres_sv hx4;have Hb4 := hide (bel_step Hb3.out hb4);have K4 := hide (Hin.out w4 _ _ c3 c4 (Hat3.out.below hb4) hat4);clear hb4 Hb3 K3 hx4 hat4 Hat3 Hin
   go_wp2_with fail
   refine (K4.out).mono ?_;rintro x w5 ⟨rfl, hq5⟩;have Hb5 := hide (drew_bel Hb4.out hq5);clear hq5 Hb4 K4
   go_wp2
   go_returns
   exact ⟨rfl, Hb5.out⟩
  | some l =>
   by_cases hl : (300 : Int) < (l.length : Int)
   ·clear Hp Hq Hin
    go_enter Tryz.func5, Tryz.ntmps5
    go_wp2_with fail
    refine (Haw.out).mono ?_;rintro x w1 ⟨rfl, hb1⟩;have Hb1 := hide hb1;have K1 := hide (Hr.out w1);clear hb1 Haw Hr
    go_wp2_with fail
    refine (K1.out).mono ?_;rintro x w2 ⟨hb2, A2, c2, rfl, _⟩;have Hb2 := hide (bel_step Hb1.out hb2);clear hb2 Hb1 K1
    go_wp2
    go_returns
    exact ⟨rfl, Hb2.out⟩
   ·go_enter Tryz.func5, Tryz.ntmps5
    go_wp2_with fail
    refine (Haw.out).mono ?_;rintro x w1 ⟨rfl, hb1⟩;have Hb1 := hide hb1;have K1 := hide (Hr.out w1);clear hb1 Haw Hr
    go_wp2_with fail
    refine (K1.out).mono ?_;rintro x w2 ⟨hb2, A2, c2, rfl, _⟩;have Hb2 := hide (bel_step Hb1.out hb2);have K2 := hide (Hp.out w2);clear hb2 Hb1 K1 Hp
    go_wp2_with fail
    refine (K2.out).mono ?_;rintro x w3 hx3;obtain ⟨B3, c3, rfl, hat3, hb3⟩ := tres_sv hx3;have Hb3 := hide (bel_step Hb2.out hb3);have Hat3 := hide hat3;have K3 := hide (Hq.out w3);clear hb3 Hb2 K2 Hq hx3 hat3
    go_wp2_with fail
    refine (K3.out).mono ?_;rintro x w4 hx4;obtain ⟨B4, c4, rfl, hat4, hb4⟩ := tres_sv hx4;have Hb4 := hide (bel_step Hb3.out hb4);have K4 := hide (Hin.out w4 _ _ c3 c4 (Hat3.out.below hb4) hat4);clear hb4 Hb3 K3 hx4 hat4 Hat3 Hin
    go_wp2_with fail
    refine (K4.out).mono ?_;rintro x w5 ⟨rfl, hq5⟩;have Hb5 := hide (drew_bel Hb4.out hq5);clear hq5 Hb4 K4
    go_wp2
    go_returns
    exact ⟨rfl, Hb5.out⟩
end Go.Proofs.YtoeeblldgoccoaaGreat
