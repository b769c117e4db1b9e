/-
  The walks over lists of values: Decode.
-/
import Derived.Test.YtoeeblldgoccoaaGreatL47
set_option linter.unusedVariables false
set_option linter.unusedSimpArgs false
set_option maxRecDepth 100000
set_option maxHeartbeats 8000000
namespace Go.Proofs.YtoeeblldgoccoaaGreat
open Go.RowKit Go.Proofs Wv Wv.Vi Wv.Rc Wv.Mo Wv.Ru Wv.Tm Wv.Bc
theorem valOf_len (k : Nat) : ∀ b, (valOf k b).length = k := by
 induction k with
 | zero => intro _; rfl
 | succ k ih => intro b; show (valOf k _).length + 1 = _; rw [ih]
theorem valsOf_sz (w : Nat) : ∀ (n : Nat) (b : List Bool), (valsOf w n b).length = n ∧ ∀ v ∈ valsOf w n b, v.size = w
 | 0, _ => ⟨rfl, fun v h => (by cases h)⟩
 | n + 1, b => by
  obtain ⟨h1, h2⟩ := valsOf_sz w n (b.drop (2 * w));refine ⟨by show (valsOf w n _).length + 1 = _; rw [h1], fun v hv => ?_⟩
  rcases List.mem_cons.1 hv with rfl | hv
  ·rw [bs_size, valOf_len]
  ·exact h2 v hv
theorem runB_sz (x : List Int) (vs : List ByteArray) (hvs : ∀ v ∈ vs, v.size ≤ 128) (st : ByteArray) : ∀ (k i : Nat) (last : ByteArray) (r : List ByteArray), runB x vs st k i last = some r → r.length = k ∧ ∀ v ∈ r, v.size ≤ 128 := by
 intro k
 induction k with
 | zero => intro i last r h; injection h with h; subst h; exact ⟨rfl, fun v h => (by cases h)⟩
 | succ k ih =>
  intro i last r h;rw [runB] at h
  cases hl : look x vs (i : Int) with
  | some v =>
   rw [hl] at h;simp only at h
   cases hr : runB x vs st k (i + 1) v with
   | none => rw [hr] at h; cases h
   | some q =>
    rw [hr] at h
    injection h with h
    subst h;obtain ⟨h1, h2⟩ := ih _ _ _ hr;refine ⟨by simp [h1], fun u hu => ?_⟩
    rcases List.mem_cons.1 hu with rfl | hu
    ·exact hvs _ (look_mem _ _ hl)
    ·exact h2 u hu
  | none =>
   rw [hl] at h;simp only at h
   by_cases ha : (addV (toL last) (toL st)).2 = true
   ·rw [if_pos ha] at h
    cases hr : runB x vs st k (i + 1) (bs (addV (toL last) (toL st)).1) with
    | none => rw [hr] at h; cases h
    | some q =>
     rw [hr] at h
     injection h with h
     subst h;obtain ⟨h1, h2⟩ := ih _ _ _ hr;refine ⟨by simp [h1], fun u hu => ?_⟩
     rcases List.mem_cons.1 hu with rfl | hu
     ·rw [bs_size]
      exact (knV_iff.1 (addV_known (Prod.ext rfl ha)).1).2.2
     ·exact h2 u hu
   ·rw [if_neg ha] at h
    cases h
theorem extL_sz {w : Int} {l r : List ByteArray} (h : extL w l = some r) : ∀ v ∈ r, v.size ≤ 128 := fun v hv => by
 rw [← toL_length];exact (isV_iff.1 (vld_iff.1 ((extL_valid h).1 v hv)).1).2.2
theorem readB_sz {m : Nat} (hm : m ≤ 128) {data : List UInt8} {l : List ByteArray} (h : readB (m : Int) data = some l) : l.length ≤ 4096 ∧ ∀ v ∈ l, v.size ≤ 128 := by
 unfold readB at h
 cases hr : rnum data 3 with
 | none => rw [hr] at h; cases h
 | some p =>
  obtain ⟨c, r⟩ := p;rw [hr] at h;simp only at h
  have hwd : ∀ q, readWd (m : Int) r = some q → q.length ≤ 4096 ∧ ∀ v ∈ q, v.size ≤ 128 := fun q hq => ⟨(readWd_sizes hq).2, (readWd_sizes hq).1⟩
  by_cases h0 : c = 0
  ·rw [if_pos h0] at h
   unfold readPl at h
   cases h1 : rnum r 4096 with
   | none => rw [h1] at h; cases h
   | some p =>
    obtain ⟨n, t⟩ := p;rw [h1] at h;simp only at h
    cases h2 : Bit.nrd (bs t) with
    | none => rw [h2] at h; cases h
    | some k =>
     rw [h2] at h;simp only at h
     split at h
     ·injection h with h
      subst h;obtain ⟨s1, s2⟩ := valsOf_sz ((m : Int)).toNat n (Bit.rbits (bs t) k);exact ⟨by rw [s1]; exact (rest_of h1).2.1, fun v hv => by rw [s2 v hv, Int.toNat_natCast]; exact hm⟩
     ·cases h
  ·rw [if_neg h0] at h
   by_cases h1 : c = 1
   ·rw [if_pos h1] at h
    cases hr2 : rnum r 4096 with
    | none =>
     unfold readCt at h;rw [hr2] at h
     cases h
    | some p =>
     obtain ⟨n, t⟩ := p;obtain ⟨_, hn4, _⟩ := rest_of hr2
     by_cases hn : n = 0
     ·subst hn
      unfold readCt at h;rw [hr2] at h;simp only [if_true] at h
      split at h
      ·injection h with h; subst h; exact ⟨Nat.zero_le _, fun v h => (by cases h)⟩
      ·cases h
     ·obtain ⟨t1, S1, e1, t2, S2, e2, t3, S3, e3, t4, S4, e4, _, _, _, _, _, _, _, hcase⟩ := ct_texts t
      rcases hcase with ⟨_, hno⟩ | ⟨_, f, s2, st, s3, a, s4, r1, r2, r3, _⟩
      ·rw [readCt_bad hr2 hn hno] at h; cases h
      ·rw [readCt_fin hr2 hn r1 r2 r3] at h
       unfold ctFin at h
       split at h
       ·cases h
       ·cases he : extL (m : Int) (dec s4 4096).1 with
        | none => rw [he] at h; cases h
        | some vs =>
         rw [he] at h;simp only at h
         split at h
         ·cases h
         ·rename_i hf0
          split at h
          ·cases h
          ·split at h
           ·cases h
           ·split at h
            ·cases hq : runB (atS (-1) (decn a 4096).1) vs (bs (if st = [] then [] else (ext (m : Int) st).1)) (n - 1) 1 (bs (ext (m : Int) f).1) with
             | none => rw [hq] at h; cases h
             | some q =>
              rw [hq] at h
              injection h with h
              subst h;obtain ⟨q1, q2⟩ := runB_sz _ vs (extL_sz he) _ _ _ _ _ hq;refine ⟨by simp [q1]; omega, fun u hu => ?_⟩
              rcases List.mem_cons.1 hu with rfl | hu
              ·rw [bs_size]; exact ext_len (by simpa using hf0)
              ·exact q2 u hu
            ·cases h
   ·rw [if_neg h1] at h
    by_cases h2 : c = 2
    ·rw [if_pos h2] at h
     cases hq : readWd (m : Int) r with
     | none => rw [hq] at h; cases h
     | some q =>
      rw [hq] at h
      injection h with h
      subst h;obtain ⟨q1, q2⟩ := hwd q hq;exact ⟨by rw [unmix_len]; exact q1, unmix_sizes q2 _⟩
    ·rw [if_neg h2] at h
     exact hwd l h
def RdC (fid : FuncId) (m : Nat) (s : ByteArray) (o : Option (List ByteArray)) : Prop :=
 ∀ W2 b, RV W2 b s 0 → Calls Tryz.prog fid #[.agg #[.int .i64 (m : Int)], .pointer (some ⟨b, 0, none⟩)] W2 fun x w' => FinR b W2 o x w'
theorem tres_none {w w' : World} (e : Nat) (hb : Below w.heap.size w w') : TRes w ([], e) (.returned (.tuple #[.slice none 0 0, .int .i64 (e : Int)])) w' := ⟨_, rfl, SRes.nil _, hb⟩
theorem decode_core0 {w : World} {m c : Nat} (hm1 : 1 ≤ m) (hm : m ≤ 128) (data : ByteArray) (hd : data.size ≤ 1000000000) {r : List UInt8} (hr : rnum (toL data) 3 = some (c, r)) (most : Int)
  (hlk : ∀ w2 : World, (Instr.lookup 74 (.map (some w2.heap.size)) (.int .i64 (c : Int)) false).run Tryz.prog (w2.alloc (.map readersE 4)) = .ok (.func (.func 89) #[] #[]) (w2.alloc (.map readersE 4)))
  (o : Option (List ByteArray)) (hw : RdC 89 m (bs r) o) (hsz : ∀ l, o = some l → l.length ≤ 4096 ∧ ∀ v ∈ l, v.size ≤ 128) :
  Calls Tryz.prog 22 #[.int .i64 (m : Int), .string data, .int .i64 most] w fun x w' => TRes w (okB (m : Int) (toL data) most o) x w' := by
 obtain ⟨hnr, hc3, hrl⟩ := numR_some hr;rw [bs_toL, show (((3 : Nat) : Int)) = 3 from rfl] at hnr;have HN := hide (fun W2 b (h : RV W2 b data 0) => vnum_any h (by omega) 3);rw [hnr] at HN;have HNew := hide (vnew_any data w);have HE := hide (fun W2 b (h : RV W2 b (bs r) 0) => verr_any h);have Hlk := hide hlk;have HW := hide hw;unfold RdC at HW;have Hsz := hide hsz
 have hm1i : (1 : Int) ≤ (m : Int) := by omega
 have hm2i : (m : Int) ≤ 128 := by omega
 generalize bs r = SR at *
 obtain ⟨R, hR⟩ : ∃ R, okB (m : Int) (toL data) most o = R := ⟨_, rfl⟩;have HR := hide hR;rw [hR];clear hnr hlk hw hsz hR hr hrl
 go_enter Tryz.func22, Tryz.ntmps22
 go_wp2_with fail
 refine (HNew.out).mono ?_;rintro x w1 ⟨rfl, hv1, hb1⟩;have K1 := hide (HN.out w1 _ hv1);have Hb1 := hide hb1;clear hv1 hb1 HN HNew
 go_wp2_with fail
 refine (K1.out).mono ?_;rintro x w2 ⟨rfl, hv2, hf2⟩;have Hb2 := hide (only_below Hb1.out (Nat.le_refl _) hf2);have Hv2 := hide hv2;have K2 := hide (HE.out w2 _ hv2);clear hv2 hf2 K1 HE Hb1
 go_wp2_with fail
 refine (K2.out).mono ?_;rintro x w3 ⟨rfl, rfl⟩;clear K2
 go_wp2_with fail
 refine (readers_any w2).mono ?_;rintro x w3 ⟨rfl, rfl⟩;have hl2 := Hlk.out w2;have hb3 := Hb2.out.alloc Hb2.out.size (.map readersE 4);have Hb3 := hide hb3;have K3 := hide (HW.out _ _ (Bk.alloc Hv2.out (.map readersE 4)));clear hb3 HW Hv2 Hb2 Hlk
 go_wp2_with fail
 refine (K3.out).mono ?_;rintro x w4 ⟨hf4, hx⟩;have Hb4 := hide (only_below Hb3.out (Nat.le_refl _) hf4);clear hf4 Hb3 K3 hl2
 cases o with
 | none =>
  obtain ⟨A, n, k, rfl⟩ := hx;have HRn : Hid (R = ([], 12)) := hide HR.out.symm;clear HR Hsz
  go_wp2
  go_returns
  rw [HRn.out];exact tres_none 12 Hb4.out
 | some l =>
  obtain ⟨A, k, rfl, hat⟩ := hx;obtain ⟨hl4, hl8⟩ := Hsz.out l rfl;have K5 := hide (bencode_any hat (fun s hs => by have := hl8 s hs; omega) l.length k rfl (by omega) (m : Int));have Hat := hide hat
  have hR2 : R = if (encB' (m : Int) l).2 ≠ 0 ∨ (encB' (m : Int) l).1 ≠ toL data then ([], 12) else if most < (l.length : Int) then ([], 2) else (l, 0) := HR.out.symm
  unfold ERes at K5;have HR2 := hide hR2;clear hat hR2 HR Hsz hl8
  generalize encB' (m : Int) l = EE at *
  obtain ⟨E, e⟩ := EE;simp only at K5;have hdt : (bs E = data) ↔ E = toL data := ⟨fun h => by rw [← h, toL_bs], fun h => by rw [h, bs_toL]⟩;have hs1 := str_ne (a := bs E) (b := data);have hs5 := str_eq (a := bs E) (b := data)
  go_wp2_with fail
  refine (K5.out).mono ?_;rintro x w5 ⟨rfl, hb5⟩;have Hb5 := hide (Hb4.out.trans (hb5.mono Hb4.out.size));have Hat5 := hide (Hat.out.below hb5);clear hb5 Hb4 Hat K5;have hR3 := HR2.out
  try simp only at hR3
  by_cases he : e = 0
  ·subst he
   by_cases hE : E = toL data
   ·rw [if_neg (by rintro (h | h); exact h rfl; exact h hE)] at hR3
    rw [decide_eq_true (hdt.2 hE)] at hs1 hs5;have hs2 : ((bs E).toList != data.toList) = false := hs1
    by_cases hmo : most < (l.length : Int)
    ·rw [if_pos hmo] at hR3
     have HR3 := hide hR3
     generalize bs E = SE at *
     clear hR3 hs1 hdt hE HR2
     go_wp2
     go_returns
     rw [HR3.out];exact tres_none 2 Hb5.out
    ·rw [if_neg hmo] at hR3
     have HR3 := hide hR3
     generalize bs E = SE at *
     clear hR3 hs1 hdt hE HR2
     go_wp2
     go_returns
     rw [HR3.out];exact ⟨_, rfl, ⟨A, k, rfl, Hat5.out⟩, Hb5.out⟩
   ·rw [if_pos (.inr hE)] at hR3
    rw [decide_eq_false (fun h => hE (hdt.1 h))] at hs1 hs5;have hs2 : ((bs E).toList != data.toList) = true := hs1;have HR3 := hide hR3
    generalize bs E = SE at *
    clear hR3 hs1 hdt hE HR2
    go_wp2
    go_returns
    rw [HR3.out];exact tres_none 12 Hb5.out
  ·rw [if_pos (.inl he)] at hR3
   have hne : ((e : Int) != 0) = true := by rw [bne_iff_ne]; omega
   have HR3 := hide hR3
   generalize bs E = SE at *
   clear hR3 hs1 hdt HR2 he
   go_wp2
   go_returns
   rw [HR3.out];exact tres_none 12 Hb5.out
theorem decode_core1 {w : World} {m c : Nat} (hm1 : 1 ≤ m) (hm : m ≤ 128) (data : ByteArray) (hd : data.size ≤ 1000000000) {r : List UInt8} (hr : rnum (toL data) 3 = some (c, r)) (most : Int)
  (hlk : ∀ w2 : World, (Instr.lookup 74 (.map (some w2.heap.size)) (.int .i64 (c : Int)) false).run Tryz.prog (w2.alloc (.map readersE 4)) = .ok (.func (.func 90) #[] #[]) (w2.alloc (.map readersE 4)))
  (o : Option (List ByteArray)) (hw : RdC 90 m (bs r) o) (hsz : ∀ l, o = some l → l.length ≤ 4096 ∧ ∀ v ∈ l, v.size ≤ 128) :
  Calls Tryz.prog 22 #[.int .i64 (m : Int), .string data, .int .i64 most] w fun x w' => TRes w (okB (m : Int) (toL data) most o) x w' := by
 obtain ⟨hnr, hc3, hrl⟩ := numR_some hr;rw [bs_toL, show (((3 : Nat) : Int)) = 3 from rfl] at hnr;have HN := hide (fun W2 b (h : RV W2 b data 0) => vnum_any h (by omega) 3);rw [hnr] at HN;have HNew := hide (vnew_any data w);have HE := hide (fun W2 b (h : RV W2 b (bs r) 0) => verr_any h);have Hlk := hide hlk;have HW := hide hw;unfold RdC at HW;have Hsz := hide hsz
 have hm1i : (1 : Int) ≤ (m : Int) := by omega
 have hm2i : (m : Int) ≤ 128 := by omega
 generalize bs r = SR at *
 obtain ⟨R, hR⟩ : ∃ R, okB (m : Int) (toL data) most o = R := ⟨_, rfl⟩;have HR := hide hR;rw [hR];clear hnr hlk hw hsz hR hr hrl
 go_enter Tryz.func22, Tryz.ntmps22
 go_wp2_with fail
 refine (HNew.out).mono ?_;rintro x w1 ⟨rfl, hv1, hb1⟩;have K1 := hide (HN.out w1 _ hv1);have Hb1 := hide hb1;clear hv1 hb1 HN HNew
 go_wp2_with fail
 refine (K1.out).mono ?_;rintro x w2 ⟨rfl, hv2, hf2⟩;have Hb2 := hide (only_below Hb1.out (Nat.le_refl _) hf2);have Hv2 := hide hv2;have K2 := hide (HE.out w2 _ hv2);clear hv2 hf2 K1 HE Hb1
 go_wp2_with fail
 refine (K2.out).mono ?_;rintro x w3 ⟨rfl, rfl⟩;clear K2
 go_wp2_with fail
 refine (readers_any w2).mono ?_;rintro x w3 ⟨rfl, rfl⟩;have hl2 := Hlk.out w2;have hb3 := Hb2.out.alloc Hb2.out.size (.map readersE 4);have Hb3 := hide hb3;have K3 := hide (HW.out _ _ (Bk.alloc Hv2.out (.map readersE 4)));clear hb3 HW Hv2 Hb2 Hlk
 go_wp2_with fail
 refine (K3.out).mono ?_;rintro x w4 ⟨hf4, hx⟩;have Hb4 := hide (only_below Hb3.out (Nat.le_refl _) hf4);clear hf4 Hb3 K3 hl2
 cases o with
 | none =>
  obtain ⟨A, n, k, rfl⟩ := hx;have HRn : Hid (R = ([], 12)) := hide HR.out.symm;clear HR Hsz
  go_wp2
  go_returns
  rw [HRn.out];exact tres_none 12 Hb4.out
 | some l =>
  obtain ⟨A, k, rfl, hat⟩ := hx;obtain ⟨hl4, hl8⟩ := Hsz.out l rfl;have K5 := hide (bencode_any hat (fun s hs => by have := hl8 s hs; omega) l.length k rfl (by omega) (m : Int));have Hat := hide hat
  have hR2 : R = if (encB' (m : Int) l).2 ≠ 0 ∨ (encB' (m : Int) l).1 ≠ toL data then ([], 12) else if most < (l.length : Int) then ([], 2) else (l, 0) := HR.out.symm
  unfold ERes at K5;have HR2 := hide hR2;clear hat hR2 HR Hsz hl8
  generalize encB' (m : Int) l = EE at *
  obtain ⟨E, e⟩ := EE;simp only at K5;have hdt : (bs E = data) ↔ E = toL data := ⟨fun h => by rw [← h, toL_bs], fun h => by rw [h, bs_toL]⟩;have hs1 := str_ne (a := bs E) (b := data);have hs5 := str_eq (a := bs E) (b := data)
  go_wp2_with fail
  refine (K5.out).mono ?_;rintro x w5 ⟨rfl, hb5⟩;have Hb5 := hide (Hb4.out.trans (hb5.mono Hb4.out.size));have Hat5 := hide (Hat.out.below hb5);clear hb5 Hb4 Hat K5;have hR3 := HR2.out
  try simp only at hR3
  by_cases he : e = 0
  ·subst he
   by_cases hE : E = toL data
   ·rw [if_neg (by rintro (h | h); exact h rfl; exact h hE)] at hR3
    rw [decide_eq_true (hdt.2 hE)] at hs1 hs5;have hs2 : ((bs E).toList != data.toList) = false := hs1
    by_cases hmo : most < (l.length : Int)
    ·rw [if_pos hmo] at hR3
     have HR3 := hide hR3
     generalize bs E = SE at *
     clear hR3 hs1 hdt hE HR2
     go_wp2
     go_returns
     rw [HR3.out];exact tres_none 2 Hb5.out
    ·rw [if_neg hmo] at hR3
     have HR3 := hide hR3
     generalize bs E = SE at *
     clear hR3 hs1 hdt hE HR2
     go_wp2
     go_returns
     rw [HR3.out];exact ⟨_, rfl, ⟨A, k, rfl, Hat5.out⟩, Hb5.out⟩
   ·rw [if_pos (.inr hE)] at hR3
    rw [decide_eq_false (fun h => hE (hdt.1 h))] at hs1 hs5;have hs2 : ((bs E).toList != data.toList) = true := hs1;have HR3 := hide hR3
    generalize bs E = SE at *
    clear hR3 hs1 hdt hE HR2
    go_wp2
    go_returns
    rw [HR3.out];exact tres_none 12 Hb5.out
  ·rw [if_pos (.inl he)] at hR3
   have hne : ((e : Int) != 0) = true := by rw [bne_iff_ne]; omega
   have HR3 := hide hR3
   generalize bs E = SE at *
   clear hR3 hs1 hdt HR2 he
   go_wp2
   go_returns
   rw [HR3.out];exact tres_none 12 Hb5.out
theorem decode_core2 {w : World} {m c : Nat} (hm1 : 1 ≤ m) (hm : m ≤ 128) (data : ByteArray) (hd : data.size ≤ 1000000000) {r : List UInt8} (hr : rnum (toL data) 3 = some (c, r)) (most : Int)
  (hlk : ∀ w2 : World, (Instr.lookup 74 (.map (some w2.heap.size)) (.int .i64 (c : Int)) false).run Tryz.prog (w2.alloc (.map readersE 4)) = .ok (.func (.func 91) #[] #[]) (w2.alloc (.map readersE 4)))
  (o : Option (List ByteArray)) (hw : RdC 91 m (bs r) o) (hsz : ∀ l, o = some l → l.length ≤ 4096 ∧ ∀ v ∈ l, v.size ≤ 128) :
  Calls Tryz.prog 22 #[.int .i64 (m : Int), .string data, .int .i64 most] w fun x w' => TRes w (okB (m : Int) (toL data) most o) x w' := by
 obtain ⟨hnr, hc3, hrl⟩ := numR_some hr;rw [bs_toL, show (((3 : Nat) : Int)) = 3 from rfl] at hnr;have HN := hide (fun W2 b (h : RV W2 b data 0) => vnum_any h (by omega) 3);rw [hnr] at HN;have HNew := hide (vnew_any data w);have HE := hide (fun W2 b (h : RV W2 b (bs r) 0) => verr_any h);have Hlk := hide hlk;have HW := hide hw;unfold RdC at HW;have Hsz := hide hsz
 have hm1i : (1 : Int) ≤ (m : Int) := by omega
 have hm2i : (m : Int) ≤ 128 := by omega
 generalize bs r = SR at *
 obtain ⟨R, hR⟩ : ∃ R, okB (m : Int) (toL data) most o = R := ⟨_, rfl⟩;have HR := hide hR;rw [hR];clear hnr hlk hw hsz hR hr hrl
 go_enter Tryz.func22, Tryz.ntmps22
 go_wp2_with fail
 refine (HNew.out).mono ?_;rintro x w1 ⟨rfl, hv1, hb1⟩;have K1 := hide (HN.out w1 _ hv1);have Hb1 := hide hb1;clear hv1 hb1 HN HNew
 go_wp2_with fail
 refine (K1.out).mono ?_;rintro x w2 ⟨rfl, hv2, hf2⟩;have Hb2 := hide (only_below Hb1.out (Nat.le_refl _) hf2);have Hv2 := hide hv2;have K2 := hide (HE.out w2 _ hv2);clear hv2 hf2 K1 HE Hb1
 go_wp2_with fail
 refine (K2.out).mono ?_;rintro x w3 ⟨rfl, rfl⟩;clear K2
 go_wp2_with fail
 refine (readers_any w2).mono ?_;rintro x w3 ⟨rfl, rfl⟩;have hl2 := Hlk.out w2;have hb3 := Hb2.out.alloc Hb2.out.size (.map readersE 4);have Hb3 := hide hb3;have K3 := hide (HW.out _ _ (Bk.alloc Hv2.out (.map readersE 4)));clear hb3 HW Hv2 Hb2 Hlk
 go_wp2_with fail
 refine (K3.out).mono ?_;rintro x w4 ⟨hf4, hx⟩;have Hb4 := hide (only_below Hb3.out (Nat.le_refl _) hf4);clear hf4 Hb3 K3 hl2
 cases o with
 | none =>
  obtain ⟨A, n, k, rfl⟩ := hx;have HRn : Hid (R = ([], 12)) := hide HR.out.symm;clear HR Hsz
  go_wp2
  go_returns
  rw [HRn.out];exact tres_none 12 Hb4.out
 | some l =>
  obtain ⟨A, k, rfl, hat⟩ := hx;obtain ⟨hl4, hl8⟩ := Hsz.out l rfl;have K5 := hide (bencode_any hat (fun s hs => by have := hl8 s hs; omega) l.length k rfl (by omega) (m : Int));have Hat := hide hat
  have hR2 : R = if (encB' (m : Int) l).2 ≠ 0 ∨ (encB' (m : Int) l).1 ≠ toL data then ([], 12) else if most < (l.length : Int) then ([], 2) else (l, 0) := HR.out.symm
  unfold ERes at K5;have HR2 := hide hR2;clear hat hR2 HR Hsz hl8
  generalize encB' (m : Int) l = EE at *
  obtain ⟨E, e⟩ := EE;simp only at K5;have hdt : (bs E = data) ↔ E = toL data := ⟨fun h => by rw [← h, toL_bs], fun h => by rw [h, bs_toL]⟩;have hs1 := str_ne (a := bs E) (b := data);have hs5 := str_eq (a := bs E) (b := data)
  go_wp2_with fail
  refine (K5.out).mono ?_;rintro x w5 ⟨rfl, hb5⟩;have Hb5 := hide (Hb4.out.trans (hb5.mono Hb4.out.size));have Hat5 := hide (Hat.out.below hb5);clear hb5 Hb4 Hat K5;have hR3 := HR2.out
  try simp only at hR3
  by_cases he : e = 0
  ·subst he
   by_cases hE : E = toL data
   ·rw [if_neg (by rintro (h | h); exact h rfl; exact h hE)] at hR3
    rw [decide_eq_true (hdt.2 hE)] at hs1 hs5;have hs2 : ((bs E).toList != data.toList) = false := hs1
    by_cases hmo : most < (l.length : Int)
    ·rw [if_pos hmo] at hR3
     have HR3 := hide hR3
     generalize bs E = SE at *
     clear hR3 hs1 hdt hE HR2
     go_wp2
     go_returns
     rw [HR3.out];exact tres_none 2 Hb5.out
    ·rw [if_neg hmo] at hR3
     have HR3 := hide hR3
     generalize bs E = SE at *
     clear hR3 hs1 hdt hE HR2
     go_wp2
     go_returns
     rw [HR3.out];exact ⟨_, rfl, ⟨A, k, rfl, Hat5.out⟩, Hb5.out⟩
   ·rw [if_pos (.inr hE)] at hR3
    rw [decide_eq_false (fun h => hE (hdt.1 h))] at hs1 hs5;have hs2 : ((bs E).toList != data.toList) = true := hs1;have HR3 := hide hR3
    generalize bs E = SE at *
    clear hR3 hs1 hdt hE HR2
    go_wp2
    go_returns
    rw [HR3.out];exact tres_none 12 Hb5.out
  ·rw [if_pos (.inl he)] at hR3
   have hne : ((e : Int) != 0) = true := by rw [bne_iff_ne]; omega
   have HR3 := hide hR3
   generalize bs E = SE at *
   clear hR3 hs1 hdt HR2 he
   go_wp2
   go_returns
   rw [HR3.out];exact tres_none 12 Hb5.out
theorem decode_core3 {w : World} {m c : Nat} (hm1 : 1 ≤ m) (hm : m ≤ 128) (data : ByteArray) (hd : data.size ≤ 1000000000) {r : List UInt8} (hr : rnum (toL data) 3 = some (c, r)) (most : Int)
  (hlk : ∀ w2 : World, (Instr.lookup 74 (.map (some w2.heap.size)) (.int .i64 (c : Int)) false).run Tryz.prog (w2.alloc (.map readersE 4)) = .ok (.func (.func 92) #[] #[]) (w2.alloc (.map readersE 4)))
  (o : Option (List ByteArray)) (hw : RdC 92 m (bs r) o) (hsz : ∀ l, o = some l → l.length ≤ 4096 ∧ ∀ v ∈ l, v.size ≤ 128) :
  Calls Tryz.prog 22 #[.int .i64 (m : Int), .string data, .int .i64 most] w fun x w' => TRes w (okB (m : Int) (toL data) most o) x w' := by
 obtain ⟨hnr, hc3, hrl⟩ := numR_some hr;rw [bs_toL, show (((3 : Nat) : Int)) = 3 from rfl] at hnr;have HN := hide (fun W2 b (h : RV W2 b data 0) => vnum_any h (by omega) 3);rw [hnr] at HN;have HNew := hide (vnew_any data w);have HE := hide (fun W2 b (h : RV W2 b (bs r) 0) => verr_any h);have Hlk := hide hlk;have HW := hide hw;unfold RdC at HW;have Hsz := hide hsz
 have hm1i : (1 : Int) ≤ (m : Int) := by omega
 have hm2i : (m : Int) ≤ 128 := by omega
 generalize bs r = SR at *
 obtain ⟨R, hR⟩ : ∃ R, okB (m : Int) (toL data) most o = R := ⟨_, rfl⟩;have HR := hide hR;rw [hR];clear hnr hlk hw hsz hR hr hrl
 go_enter Tryz.func22, Tryz.ntmps22
 go_wp2_with fail
 refine (HNew.out).mono ?_;rintro x w1 ⟨rfl, hv1, hb1⟩;have K1 := hide (HN.out w1 _ hv1);have Hb1 := hide hb1;clear hv1 hb1 HN HNew
 go_wp2_with fail
 refine (K1.out).mono ?_;rintro x w2 ⟨rfl, hv2, hf2⟩;have Hb2 := hide (only_below Hb1.out (Nat.le_refl _) hf2);have Hv2 := hide hv2;have K2 := hide (HE.out w2 _ hv2);clear hv2 hf2 K1 HE Hb1
 go_wp2_with fail
 refine (K2.out).mono ?_;rintro x w3 ⟨rfl, rfl⟩;clear K2
 go_wp2_with fail
 refine (readers_any w2).mono ?_;rintro x w3 ⟨rfl, rfl⟩;have hl2 := Hlk.out w2;have hb3 := Hb2.out.alloc Hb2.out.size (.map readersE 4);have Hb3 := hide hb3;have K3 := hide (HW.out _ _ (Bk.alloc Hv2.out (.map readersE 4)));clear hb3 HW Hv2 Hb2 Hlk
 go_wp2_with fail
 refine (K3.out).mono ?_;rintro x w4 ⟨hf4, hx⟩;have Hb4 := hide (only_below Hb3.out (Nat.le_refl _) hf4);clear hf4 Hb3 K3 hl2
 cases o with
 | none =>
  obtain ⟨A, n, k, rfl⟩ := hx;have HRn : Hid (R = ([], 12)) := hide HR.out.symm;clear HR Hsz
  go_wp2
  go_returns
  rw [HRn.out];exact tres_none 12 Hb4.out
 | some l =>
  obtain ⟨A, k, rfl, hat⟩ := hx;obtain ⟨hl4, hl8⟩ := Hsz.out l rfl;have K5 := hide (bencode_any hat (fun s hs => by have := hl8 s hs; omega) l.length k rfl (by omega) (m : Int));have Hat := hide hat
  have hR2 : R = if (encB' (m : Int) l).2 ≠ 0 ∨ (encB' (m : Int) l).1 ≠ toL data then ([], 12) else if most < (l.length : Int) then ([], 2) else (l, 0) := HR.out.symm
  unfold ERes at K5;have HR2 := hide hR2;clear hat hR2 HR Hsz hl8
  generalize encB' (m : Int) l = EE at *
  obtain ⟨E, e⟩ := EE;simp only at K5;have hdt : (bs E = data) ↔ E = toL data := ⟨fun h => by rw [← h, toL_bs], fun h => by rw [h, bs_toL]⟩;have hs1 := str_ne (a := bs E) (b := data);have hs5 := str_eq (a := bs E) (b := data)
  go_wp2_with fail
  refine (K5.out).mono ?_;rintro x w5 ⟨rfl, hb5⟩;have Hb5 := hide (Hb4.out.trans (hb5.mono Hb4.out.size));have Hat5 := hide (Hat.out.below hb5);clear hb5 Hb4 Hat K5;have hR3 := HR2.out
  try simp only at hR3
  by_cases he : e = 0
  ·subst he
   by_cases hE : E = toL data
   ·rw [if_neg (by rintro (h | h); exact h rfl; exact h hE)] at hR3
    rw [decide_eq_true (hdt.2 hE)] at hs1 hs5;have hs2 : ((bs E).toList != data.toList) = false := hs1
    by_cases hmo : most < (l.length : Int)
    ·rw [if_pos hmo] at hR3
     have HR3 := hide hR3
     generalize bs E = SE at *
     clear hR3 hs1 hdt hE HR2
     go_wp2
     go_returns
     rw [HR3.out];exact tres_none 2 Hb5.out
    ·rw [if_neg hmo] at hR3
     have HR3 := hide hR3
     generalize bs E = SE at *
     clear hR3 hs1 hdt hE HR2
     go_wp2
     go_returns
     rw [HR3.out];exact ⟨_, rfl, ⟨A, k, rfl, Hat5.out⟩, Hb5.out⟩
   ·rw [if_pos (.inr hE)] at hR3
    rw [decide_eq_false (fun h => hE (hdt.1 h))] at hs1 hs5;have hs2 : ((bs E).toList != data.toList) = true := hs1;have HR3 := hide hR3
    generalize bs E = SE at *
    clear hR3 hs1 hdt hE HR2
    go_wp2
    go_returns
    rw [HR3.out];exact tres_none 12 Hb5.out
  ·rw [if_pos (.inl he)] at hR3
   have hne : ((e : Int) != 0) = true := by rw [bne_iff_ne]; omega
   have HR3 := hide hR3
   generalize bs E = SE at *
   clear hR3 hs1 hdt HR2 he
   go_wp2
   go_returns
   rw [HR3.out];exact tres_none 12 Hb5.out
theorem bdecode_any {w : World} (W : Int) (data : ByteArray) (hd : data.size ≤ 1000000000) (most : Int) :
  Calls Tryz.prog 22 #[.int .i64 W, .string data, .int .i64 most] w fun x w' => TRes w (decB W (toL data) most) x w' := by
 unfold decB
 by_cases h1 : W < 1
 ·rw [if_pos (.inl h1)]
  go_enter Tryz.func22, Tryz.ntmps22
  go_wp2_with fail
  go_returns
  exact tres_none 1 (Below.refl _ _)
 ·by_cases h2 : 128 < W
  ·rw [if_pos (.inr h2)]
   go_enter Tryz.func22, Tryz.ntmps22
   go_wp2_with fail
   go_returns
   exact tres_none 1 (Below.refl _ _)
  ·rw [if_neg (by omega)]
   obtain ⟨m, rfl⟩ : ∃ m : Nat, W = m := ⟨W.toNat, by omega⟩
   have hm1 : 1 ≤ m := by omega
   have hm2 : m ≤ 128 := by omega
   cases hr : rnum (toL data) 3 with
   | none =>
    have hb : readB (m : Int) (toL data) = none := by unfold readB; rw [hr]
    rw [hb];obtain ⟨e, he, hnr⟩ := numR_nok hr;rw [bs_toL, show (((3 : Nat) : Int)) = 3 from rfl] at hnr;have HN := hide (fun W2 b (h : RV W2 b data 0) => vnum_any h (by omega) 3);rw [hnr] at HN;have HNew := hide (vnew_any data w);have HE := hide (fun W2 b (h : RV W2 b data e) => verr_any h)
    have hne : ((e : Int) != 0) = true := by rw [bne_iff_ne]; omega
    clear hnr hr hb he
    go_enter Tryz.func22, Tryz.ntmps22
    go_wp2_with fail
    refine (HNew.out).mono ?_;rintro x w1 ⟨rfl, hv1, hb1⟩;have K1 := hide (HN.out w1 _ hv1);have Hb1 := hide hb1;clear hv1 hb1 HN HNew
    go_wp2_with fail
    refine (K1.out).mono ?_;rintro x w2 ⟨rfl, hv2, hf2⟩;have Hb2 := hide (only_below Hb1.out (Nat.le_refl _) hf2);have K2 := hide (HE.out w2 _ hv2);clear hv2 hf2 K1 HE Hb1
    go_wp2_with fail
    refine (K2.out).mono ?_;rintro x w3 ⟨rfl, rfl⟩;clear K2
    go_wp2
    go_returns
    exact tres_none 12 Hb2.out
   | some p =>
    obtain ⟨c, r⟩ := p;obtain ⟨_, hc3, hrl⟩ := numR_some hr
    have hrl2 : (bs r).size ≤ 1000000000 := by rw [bs_size]; rw [toL_length] at hrl; omega
    have hl := fun (k : Nat) (hk : k ≤ 3) (w2 : World) => readers_at w2 k hk (w2.alloc (.map readersE 4)) (Below.refl _ _)
    have hsz := fun l (h : readB (m : Int) (toL data) = some l) => readB_sz hm2 h
    have hbe : readB (m : Int) (toL data) = if c = 0 then readPl (m : Int) r else if c = 1 then readCt (m : Int) r else if c = 2 then (readWd (m : Int) r).map (unmix (bs (allV (m : Int) 48))) else readWd (m : Int) r := by unfold readB; rw [hr]
    rcases (show c = 0 ∨ c = 1 ∨ c = 2 ∨ c = 3 by omega) with rfl | rfl | rfl | rfl
    ·rw [if_pos rfl] at hbe
     exact decode_core0 hm1 hm2 data hd hr most (fun w2 => hl 0 (by omega) w2) _ (fun W2 b h => by
      have := readPl_any h hrl2 hm1 hm2;rw [toL_bs, ← hbe] at this
      exact this) hsz
    ·rw [if_neg (by decide), if_pos rfl] at hbe
     exact decode_core1 hm1 hm2 data hd hr most (fun w2 => hl 1 (by omega) w2) _ (fun W2 b h => by
      have := readCt_any h hrl2 hm1 hm2;rw [toL_bs, ← hbe] at this
      exact this) hsz
    ·rw [if_neg (by decide), if_neg (by decide), if_pos rfl] at hbe
     exact decode_core2 hm1 hm2 data hd hr most (fun w2 => hl 2 (by omega) w2) _ (fun W2 b h => by
      have := (readMx_any h hrl2 (m : Int)).mono fun x w' h => rdr_fin h
      rw [toL_bs, ← hbe] at this
      exact this) hsz
    ·rw [if_neg (by decide), if_neg (by decide), if_neg (by decide)] at hbe
     exact decode_core3 hm1 hm2 data hd hr most (fun w2 => hl 3 (by omega) w2) _ (fun W2 b h => by
      have := (readWd_any h hrl2 (m : Int)).mono fun x w' h => rdr_fin h
      rw [toL_bs, ← hbe] at this
      exact this) hsz
end Go.Proofs.YtoeeblldgoccoaaGreat
