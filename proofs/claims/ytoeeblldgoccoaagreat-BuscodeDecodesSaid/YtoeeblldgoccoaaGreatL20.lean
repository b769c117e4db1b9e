/-
  Joined texts: Me, Mf, Mg.
-/
import Derived.Test.YtoeeblldgoccoaaGreatL15
import Derived.Test.YtoeeblldgoccoaaGreatL14
import Derived.Test.YtoeeblldgoccoaaGreatL19
import Derived.Test.YtoeeblldgoccoaaGreatL10
set_option linter.unusedVariables false
set_option linter.unusedSimpArgs false
set_option maxRecDepth 100000
set_option maxHeartbeats 8000000
namespace Go.Proofs.YtoeeblldgoccoaaGreat
open Go.RowKit Go.Proofs Wv Wv.Vi Wv.Rc Wv.Mo
theorem blen_half (n : Nat) (h : 0 < n) : blen n = blen (n / 2) + 1 := by
 unfold blen;rw [if_neg (by omega)]
 by_cases h1 : n / 2 = 0
 ·rw [if_pos h1, Nat.log2_def, if_neg (by omega)]
 ·rw [if_neg h1, Nat.log2_def, if_pos (by omega)]
theorem bitLen_eq (x : Nat) (h : x < 2 ^ 64) : Go.Lib.bitLen x = blen x := by
  have key : ∀ f y, y < 2 ^ f → Go.Lib.bitLenAux f y = blen y := by
    intro f
    induction f with
    | zero => intro y hy; have : y = 0 := by simpa using hy
              subst this; rfl
    | succ f ih =>
      intro y hy;unfold Go.Lib.bitLenAux
      split
      · rename_i h0; subst h0; rfl
      · rename_i h0
        rw [ih (y / 2) (by rw [Nat.pow_succ] at hy; omega), blen_half y (by omega)];omega
  exact key _ x h
theorem blen_any (v : Nat) (h : v ≤ 9223372036854775807) (w : World) :
  Calls Tryz.prog 201 #[.int .u64 (v : Int)] w fun x w' => x = .returned (.int .i64 (blen v : Nat)) ∧ w = w' := by
 refine (Tryz.bits_Len (v : Int) w (by omega) (by omega)).mono ?_;rintro x w' ⟨rfl, hw⟩;exact ⟨ret_int (by rw [Int.toNat_natCast, bitLen_eq _ (by omega)]), hw.symm⟩
theorem nenc_any {w : World} {b g eb : Nat} {dv : Value} {t : List Nat} {e : En} (h : NAt w b g t) (ht : TNum t) (he : EnAt w eb dv e) (hv : Val 0 e) (v : Nat) (hv62 : v < 4611686018427387904) (hl : e.out.length ≤ 800000) :
  Calls Tryz.prog 244 #[.pointer (some ⟨b, 0, none⟩), .pointer (some ⟨eb, 0, none⟩), .int .i64 (v : Int)] w fun x w' => x = .returned (.tuple #[]) ∧ NAt w' b g (nenc v (t, e)).1 ∧ ∃ dv', EnAt w' eb dv' (nenc v (t, e)).2 ∧ Fr (efoot g eb dv) w w' ∧ OwnNew w dv dv' := by
 have hb := blen_le hv62;have Hl := hide (blen_any v (by omega));obtain ⟨n, hn⟩ : ∃ n, blen v = n := ⟨_, rfl⟩
 have hne : nenc v (t, e) = ((tenc 6 n 1 t e).1, if 2 ≤ n then edir (n - 1) v (tenc 6 n 1 t e).2 else (tenc 6 n 1 t e).2) := by unfold nenc; rw [hn]
 rw [hn] at Hl hb;obtain ⟨k1, k2, k3⟩ := tenc_val 6 n 1 ht.1 (by rw [ht.2]; decide) hv;have Ht := hide (tenc_any h ht he hv n (by omega) hl)
 have hlen : (tenc 6 n 1 t e).2.out.length ≤ e.out.length + 12 := by
  have key : ∀ (j m : Nat) (t : List Nat) (e : En), (tenc j n m t e).2.out.length ≤ e.out.length + 2 * j := by
   intro j
   induction j with
   | zero => intro m t e; exact Nat.le_refl _
   | succ j ih =>
    intro m t e;rw [tenc];have h1 := ih (2 * m + n / 2 ^ j % 2) (t.set m (adapt (t.getD m 0) (n / 2 ^ j % 2))) (ebit (t.getD m 0) (n / 2 ^ j % 2) e);have h2 := ebit_len (t.getD m 0) (n / 2 ^ j % 2) e;omega
  have := key 6 1 t e;omega
 have hapart := h.foot he
 generalize tenc 6 n 1 t e = D at *
 obtain ⟨t2, e2⟩ := D;simp only at hne Ht k3 hlen;have Hne := hide hne
 have h62 : ¬ (4611686018427387903 : Int) < (v : Int) := by omega
 have hc0 : ¬ (v : Int) < 0 := by omega
 clear hne hn k1 k2 h he ht hv hapart
 by_cases h2 : 2 ≤ n
 ·rw [if_pos h2] at Hne
  have hn2 : (2 : Int) ≤ (n : Int) := by omega
  have i1 : (n : Int) - 1 = ((n - 1 : Nat) : Int) := by omega
  obtain ⟨q, hq⟩ : ∃ q, n - 1 = q := ⟨_, rfl⟩;rw [hq] at i1 Hne
  have hq62 : q ≤ 62 := by omega
  clear hq
  go_enter Tryz.func244, Tryz.ntmps244
  go_wp2_with fail
  refine (Hl.out _).mono ?_;rintro x w1 ⟨rfl, rfl⟩
  go_wp2_with fail
  refine (Ht.out).mono ?_;rintro x w1 ⟨rfl, hn1, dv1, he1, hf1, ho1⟩;have Hd := hide (edirect_any he1 k3 q v hq62 (by omega) (by omega));have hs := hf1.size;have hap := hn1.foot he1
  go_wp2_with fail
  refine (Hd.out).mono ?_;rintro x w2 ⟨rfl, dv2, he2, hf2, ho2⟩
  go_wp2
  go_end0
  rw [Hne.out];exact ⟨rfl, hn1.fr hf2 hap.1 hap.2, dv2, he2, efr_foot hf1 hf2 ho1, ho1.trans ho2 hs⟩
 ·rw [if_neg h2] at Hne
  have hn2 : ¬ (2 : Int) ≤ (n : Int) := by omega
  clear h2
  go_enter Tryz.func244, Tryz.ntmps244
  go_wp2_with fail
  refine (Hl.out _).mono ?_;rintro x w1 ⟨rfl, rfl⟩
  go_wp2_with fail
  refine (Ht.out).mono ?_;rintro x w1 ⟨rfl, hn1, dv1, he1, hf1, ho1⟩
  go_wp2
  go_end0
  rw [Hne.out];exact ⟨rfl, hn1, dv1, he1, hf1, ho1⟩
theorem or_pow (n x : Nat) (hn : n ≤ 61) (hx : x < 2 ^ n) : bits .or .i64 (IntKind.i64.wrap (2 ^ n)) (x : Int) = ((2 ^ n + x : Nat) : Int) := by
 have h1 : (2 : Nat) ^ n ≤ 2 ^ 61 := Nat.pow_le_pow_right (by omega) hn
 have e : ((2 : Int) ^ n) = ((2 ^ n : Nat) : Int) := by rw [Int.natCast_pow]; rfl
 rw [e, IntWalk.i64_in _ (by omega), or_i64w _ _ (by omega) (by omega), nat_join n _ _ (by rw [Nat.mod_self]) hx]
theorem nval_small {n : Nat} (d : De) (h : n < 2) : nval n d = n := by unfold nval; rw [if_pos h]
theorem nval_none (d : De) : nval 63 d = -1 := rfl
theorem nval_big {n : Nat} (d : De) (h : ¬ n < 2) (h2 : n ≠ 63) : nval n d = ((2 ^ (n - 1) + (ddir (n - 1) 0 d).1 : Nat) : Int) := by unfold nval; rw [if_neg h, if_neg h2]
theorem ndec_eq (t : List Nat) (d : De) (n : Nat) (t2 : List Nat) (d2 : De) (h : tdec 6 1 t d = (n + 64, t2, d2)) :
  ndec t d = (nval n d2, t2, if n < 2 then d2 else if n = 63 then d2 else (ddir (n - 1) 0 d2).2) := by
 unfold ndec;rw [h];simp only [Nat.add_sub_cancel]
theorem ndec_any {w : World} {b g eb : Nat} {t : List Nat} {d : De} (h : NAt w b g t) (ht : TNum t) (he : DAt w eb d) (hv : DV 0 d) :
  Calls Tryz.prog 243 #[.pointer (some ⟨b, 0, none⟩), .pointer (some ⟨eb, 0, none⟩)] w fun x w' => x = .returned (.int .i64 (ndec t d).1) ∧ NAt w' b g (ndec t d).2.1 ∧ DAt w' eb (ndec t d).2.2 ∧ Fr (dfoot g eb) w w' := by
 have Ht := tdec_any h ht he hv;obtain ⟨k1, k2, k3, k4, k5⟩ := tdec_v 6 1 t d ht.1 (by rw [ht.2]; decide) hv;have heq := ndec_eq t d
 generalize tdec 6 1 t d = D at *
 obtain ⟨m, t2, d2⟩ := D;simp only at Ht k3 k4 k5;obtain ⟨n, rfl⟩ : ∃ n, m = n + 64 := ⟨m - 64, by omega⟩;have heq := heq n t2 d2 rfl;rw [Nat.add_sub_cancel] at Ht;have Ht := hide Ht;have Heq := hide heq
 have hn64 : n < 64 := by omega
 clear k1 k2 k4 k5 heq h ht he hv
 by_cases h2 : n < 2
 ·have e1 := Heq.out
  rw [if_pos h2, nval_small d2 h2] at e1;have E := hide e1
  have hz : n = 0 ∨ n = 1 := by omega
  clear e1 h2
  rcases hz with rfl | rfl
  all_goals
   go_enter Tryz.func243, Tryz.ntmps243
   go_wp2_with fail
   refine (Ht.out).mono ?_;rintro x w1 ⟨rfl, hn1, hd1, hf1⟩
   go_wp2
   go_ret
   rw [E.out];exact ⟨rfl, hn1, hd1, hf1⟩
 ·have hb0 : ((n : Int) == 0) = false := by rw [beq_eq_false_iff_ne]; omega
  have hb1 : ((n : Int) == 1) = false := by rw [beq_eq_false_iff_ne]; omega
  by_cases h63 : n = 63
  ·have e1 := Heq.out
   rw [if_neg h2, if_pos h63] at e1;subst h63;rw [nval_none] at e1;have E := hide e1;clear e1 h2
   go_enter Tryz.func243, Tryz.ntmps243
   go_wp2_with fail
   refine (Ht.out).mono ?_;rintro x w1 ⟨rfl, hn1, hd1, hf1⟩
   go_wp2
   go_ret
   rw [E.out];exact ⟨rfl, hn1, hd1, hf1⟩
  ·have hb63 : ((n : Int) == 63) = false := by rw [beq_eq_false_iff_ne]; omega
   have e1 := Heq.out;rw [if_neg h2, if_neg h63, nval_big d2 h2 h63] at e1;have E := hide e1;obtain ⟨q, hq⟩ : ∃ q, n - 1 = q := ⟨_, rfl⟩;rw [hq] at E
   have hq61 : q ≤ 61 := by omega
   have i1 : (n : Int) - 1 = (q : Int) := by omega
   have i2 : IntKind.i64.wrap (q : Int) = (q : Int) := by rw [IntWalk.i64_in _ (by omega)]
   have hq0 : 0 ≤ (q : Int) := by omega
   have hx := (ddir_v q 0 d2 k3).2;rw [Nat.zero_add, Nat.one_mul] at hx;have hor := or_pow q (ddir q 0 d2).1 hq61 hx;have Hor := hide hor;clear e1 h2 h63 hq hx hor
   go_enter Tryz.func243, Tryz.ntmps243
   go_wp2_with fail
   refine (Ht.out).mono ?_;rintro x w1 ⟨rfl, hn1, hd1, hf1⟩;have Hd := hide (fun W (hW : DAt W eb d2) => ddirect_any hW k3 q (by omega));have hap := hn1.onl hd1
   go_wp2
   go_region_with ((go_at_call 246; refine (Hd.out _ hd1.drew).mono ?_; rintro x w2 ⟨rfl, hd2, hf2⟩))
   all_goals
    go_wp2
    go_ret
    rw [E.out];exact ⟨ret_int Hor.out, hn1.drew.fr hf2 hap.1 hap.2, hd2, hf1.drew.trans' hf2 (fun i hi e => .inr e)⟩
theorem nencs_snoc (l : List Nat) (v : Nat) : ∀ x : List Nat × En, nencs (l ++ [v]) x = nenc v (nencs l x) := by
 induction l with
 | nil => intro x; rfl
 | cons a l ih => intro x; exact ih _
theorem nencs_take (l : List Nat) (k : Nat) (h : k < l.length) (x : List Nat × En) : nencs (l.take (k + 1)) x = nenc (l.getD k 0) (nencs (l.take k) x) := by
 rw [List.take_succ_eq_append_getElem h, nencs_snoc]
 congr 1
 simp [List.getD, h]
theorem tenc_len (n : Nat) (j : Nat) : ∀ (m : Nat) (t : List Nat) (e : En), (tenc j n m t e).2.out.length ≤ e.out.length + 2 * j := by
 induction j with
 | zero => intro m t e; exact Nat.le_refl _
 | succ j ih =>
  intro m t e;rw [tenc];have h1 := ih (2 * m + n / 2 ^ j % 2) (t.set m (adapt (t.getD m 0) (n / 2 ^ j % 2))) (ebit (t.getD m 0) (n / 2 ^ j % 2) e);have h2 := ebit_len (t.getD m 0) (n / 2 ^ j % 2) e;omega
theorem nenc_len (v : Nat) (hv : v < 4611686018427387904) (x : List Nat × En) : (nenc v x).2.out.length ≤ x.2.out.length + 134 := by
 have hb := blen_le hv;have h1 := tenc_len (blen v) 6 1 x.1 x.2;unfold nenc;simp only
 split
 ·have := edir_len (blen v - 1) v (tenc 6 (blen v) 1 x.1 x.2).2
  omega
 ·omega
theorem nencs_len (l : List Nat) : ∀ (x : List Nat × En), (∀ v ∈ l, v < 4611686018427387904) → (nencs l x).2.out.length ≤ x.2.out.length + 134 * l.length := by
 induction l with
 | nil => intro x _; exact Nat.le_refl _
 | cons v l ih =>
  intro x h;have h1 := ih (nenc v x) (fun u hu => h u (List.mem_cons_of_mem _ hu));have h2 := nenc_len v (h v List.mem_cons_self) x;rw [nencs, List.length_cons];omega
def ivs (l : List Int) : List Value := l.map iv
theorem ivs_get (l : List Int) (i : Nat) (h : i < l.length) : (ivs l)[i]? = some (.int .i64 (l.getD i 0)) := by
 have : l.getD i 0 = l[i] := by simp [List.getD, h]
 rw [this]
 simp [ivs, iv, List.getElem?_eq_getElem h]
theorem encl_any {w : World} {b g : Nat} {A : Option Addr} {l : List Nat} (h : NAt w b g t0) (ha : At w A (ivs (l.map Int.ofNat))) (hag : l ≠ [] → ∀ b' o, A = some ⟨b', o, none⟩ → b' ≠ g) (n cap : Nat) (hn : n = l.length) (hl : l.length ≤ 4096) (hv : ∀ v ∈ l, v < 4611686018427387904) :
  Calls Tryz.prog 143 #[.iface 171 (.pointer (some ⟨b, 0, none⟩)), .slice A n cap] w fun x w' => x = .returned (.string (bs (encn l))) ∧ Fr (only g) w w' := by
 have Hn := number_any (n : Int) (by omega) (by omega) w;rw [Int.toNat_natCast, hn] at Hn;have hk9 := kof9 l.length;rw [← bs_size] at hk9
 have henc : encn l = num l.length ++ if l = [] then [] else efin (nencs l (t0, e0)).2 := rfl
 generalize hs1 : bs (num l.length) = s1 at *
 have Hn := hide Hn;have Hs1 := hide hs1;have Hh := hide h;have Ha := hide ha;have Hlen := hide hn
 have hnl : n ≤ 4096 := by omega
 rw [← hn] at Hn;clear hs1 h ha hn
 by_cases h0 : l = []
 ·rw [if_pos h0, List.append_nil] at henc
  have hn0 : n = 0 := by rw [Hlen.out, h0]; rfl
  subst hn0;have Henc := hide henc;clear henc h0
  go_enter Tryz.func143, Tryz.ntmps143
  go_wp2_with fail
  refine (Hn.out).mono ?_;rintro x w1 ⟨rfl, hb1⟩
  go_wp2
  go_ret
  exact ⟨ret_str (by rw [Henc.out, Hs1.out]), Fr.of_below hb1⟩
 ·rw [if_neg h0] at henc
  have hag := hag h0
  have hn0 : 0 < n := by
   rw [Hlen.out];exact List.length_pos_iff.2 h0
  have hne0 : ((n : Int) == 0) = false := by rw [beq_eq_false_iff_ne]; omega
  have Henc := hide henc;have Hag := hide hag;have Hv := hide hv;clear henc h0 hag hv
  go_enter Tryz.func143, Tryz.ntmps143
  go_wp2_with fail
  refine (Hn.out).mono ?_;rintro x w1 ⟨rfl, hb1⟩;have He := hide (enew_any w1)
  go_wp2_with fail
  refine (He.out).mono ?_;rintro x w2 ⟨rfl, he2, hb2⟩;have hs1 := hb1.size;have hf2 := hb1.trans (hb2.mono hs1);have hn2 := Hh.out.below hf2;have ha2 := Ha.out.below hf2;have hblt : b < w.heap.size := Hh.out.1.lt;have hglt : g < w.heap.size := Hh.out.2.lt;have hf2' : Fr (only g) w w2 := Fr.of_below hf2;clear hb1 hb2 hf2 He
  go_wp2
  go_loopw [8, 19] (fun _ i wr => ∃ (k : Nat) (dr : Value), k ≤ n ∧ i = .int .i64 k ∧ NAt wr b g (nencs (l.take k) (t0, e0)).1 ∧ EnAt wr w1.heap.size dr (nencs (l.take k) (t0, e0)).2 ∧ At wr A (ivs (l.map Int.ofNat)) ∧ Fr (only g) w wr ∧ (∀ j, dr.ownBlock = some j → w.heap.size ≤ j)) (fun _ i _ => (n - intOf i).toNat)
  case atStart => exact ⟨0, _, by omega, rfl, hn2, he2, ha2, hf2', by simp [Value.ownBlock]⟩
  case round =>
   clear hn2 he2 ha2 hf2';obtain ⟨k, dr, hk, rfl, hnk, hek, hak, hfk, hdk⟩ := hrel;obtain ⟨kt, kv⟩ := nencs_val (l.take k) (x := (t0, e0)) tnum_0 val_0;have klen := nencs_len (l.take k) (t0, e0) (fun v hv => Hv.out v (List.mem_of_mem_take hv));rw [show (e0.out.length) = 0 from rfl, List.length_take] at klen
   by_cases hlt : k < n
   ·have hkl : k < l.length := by rw [← Hlen.out]; exact hlt
    have hstep := nencs_take l k hkl (t0, e0);obtain ⟨v, hvk⟩ : ∃ v, l.getD k 0 = v := ⟨_, rfl⟩
    have hv62 : v < 4611686018427387904 := by
     have h1 : l.getD k 0 = l[k] := by simp [List.getD, hkl]
     rw [← hvk, h1];exact Hv.out _ (List.getElem_mem _)
    obtain ⟨bA, oA, hA, hbA, hcA⟩ := hak.get k (.int .i64 (v : Int)) (by
     rw [ivs_get _ _ (by rw [List.length_map]; exact hkl)]
     have h1 : (l.map Int.ofNat).getD k 0 = ((l.getD k 0 : Nat) : Int) := by simp [List.getD, hkl]
     rw [h1, hvk])
    subst hA;rw [hvk] at hstep
    generalize nencs (l.take k) (t0, e0) = X at *
    obtain ⟨tk, ek⟩ := X;simp only at kt kv klen hnk hek;have Hc := hide (nenc_any hnk kt hek kv v hv62 (by omega));have Hst := hide hstep;have Hak := hide hak;have Hdk := hide hdk;clear hstep hvk hnk hek kt kv klen hak hdk
    go_wp2_with fail
    refine (Hc.out).mono ?_;rintro x w3 ⟨rfl, hn3, dr3, he3, hf3, ho3⟩
    have hf4 : Fr (only g) w w3 := hfk.trans' hf3 (fun i hi hs => by
     rcases hs with hs | hs | hs
     ·exact hs
     ·omega
     ·have := Hdk.out i hs; omega)
    have hs3 := hfk.size;have ha4 := Ha.out.keep hf4 (fun b' o e hh => Hag.out b' o e hh)
    have hd4 : ∀ j, dr3.ownBlock = some j → w.heap.size ≤ j := by
     intro j hj
     rcases ho3 with h9 | h9
     ·exact Hdk.out j (h9 ▸ hj)
     ·have := h9 j hj; omega
    clear hf3 ho3 hfk Hak
    go_wp2
    go_roundw
    case rel => exact ⟨k + 1, dr3, by omega, by go_num, by rw [Hst.out]; exact hn3, by rw [Hst.out]; exact he3, ha4, hf4, hd4⟩
    case measure => simp [intOf] <;> omega
   ·have hkn : k = n := by omega
    subst hkn;have htk : l.take k = l := List.take_of_length_le (by rw [Hlen.out]; exact Nat.le_refl _);rw [htk] at hek kv klen;obtain ⟨E, hE⟩ : ∃ E, nencs l (t0, e0) = E := ⟨_, rfl⟩;rw [hE] at hek kv klen Henc;have Hf := hide (efinish_any hek kv.low (by omega))
    have hfl : (efin E.2).length ≤ 600000 := by
     unfold efin;rw [List.length_append, be_length];omega
    rw [← bs_size] at hfl;obtain ⟨s2, hs2⟩ : ∃ s2, bs (efin E.2) = s2 := ⟨_, rfl⟩;rw [hs2] at Hf hfl;have Hs2 := hide hs2;clear hs2 hE htk hek kv klen kt hnk hak
    go_wp2_with fail
    refine (Hf.out).mono ?_;rintro x w3 ⟨rfl, hb3⟩
    go_wp2
    go_ret
    exact ⟨ret_str (by rw [Henc.out, ← bs_append, Hs1.out, Hs2.out]), hfk.below hb3⟩
theorem encodenums_any {w : World} {A : Option Addr} {l : List Nat} (ha : At w A (ivs (l.map Int.ofNat))) (n cap : Nat) (hn : n = l.length) (hl : l.length ≤ 4096) (hv : ∀ v ∈ l, v < 4611686018427387904) :
  Calls Tryz.prog 103 #[.slice A n cap] w fun x w' => x = .returned (.tuple #[.string (bs (encn l)), .int .i64 0]) ∧ Below w.heap.size w w' := by
 have Hm := hide (nnew_any w);have Hlen := hide hn
 have hnl : n ≤ 4096 := by omega
 have Ha := hide ha;have Hv := hide hv;have H2 := hide hl;clear hn ha hv hl
 go_enter Tryz.func103, Tryz.ntmps103
 go_wp2
 go_loop [5, 11] (fun _ i => ∃ k : Nat, k ≤ n ∧ i = .int .i64 k) (fun _ i => (n - intOf i).toNat)
 case atStart => exact ⟨0, by omega, rfl⟩
 case round =>
  obtain ⟨k, hk, rfl⟩ := hrel
  by_cases hlt : k < n
  ·have hkl : k < l.length := by rw [← Hlen.out]; exact hlt
   obtain ⟨v, hvk⟩ : ∃ v, l.getD k 0 = v := ⟨_, rfl⟩
   have hv62 : v < 4611686018427387904 := by
    have h1 : l.getD k 0 = l[k] := by simp [List.getD, hkl]
    rw [← hvk, h1];exact Hv.out _ (List.getElem_mem _)
   obtain ⟨bA, oA, hA, hbA, hcA⟩ := Ha.out.get k (.int .i64 (v : Int)) (by
    rw [ivs_get _ _ (by rw [List.length_map]; exact hkl)]
    have h1 : (l.map Int.ofNat).getD k 0 = ((l.getD k 0 : Nat) : Int) := by simp [List.getD, hkl]
    rw [h1, hvk])
   subst hA
   have h62 : ¬ (4611686018427387903 : Int) < (v : Int) := by omega
   have hc0 : ¬ (v : Int) < 0 := by omega
   clear hv62 hvk
   go_wp2
   go_round
   case rel => exact ⟨k + 1, by omega, by go_num⟩
   case measure => simp [intOf] <;> omega
  ·have hkn : k = n := by omega
   subst hkn
   go_wp2_with fail
   refine (Hm.out).mono ?_;rintro x w1 ⟨b, rfl, hwb, hn1, hb1⟩
   have He := hide (encl_any hn1 (Ha.out.below hb1) (fun hne b' o hA hg => by
    obtain ⟨b2, o2, h1, h2, _⟩ := Ha.out 0 (by simp only [ivs, List.length_map]; exact List.length_pos_iff.2 hne);rw [hA] at h1
    injection h1 with h1
    injection h1 with h1
    omega) k cap Hlen.out H2.out Hv.out)
   go_wp2_with fail
   refine (He.out).mono ?_;rintro x w2 ⟨rfl, hf2⟩
   go_wp2
   go_returns
   exact ⟨rfl, hb1.trans (hf2.toBelow' hb1.size (fun j hj e => by have : j = w.heap.size := e; omega))⟩
theorem ndec_v {t : List Nat} {d : De} (ht : TNum t) (hv : DV 0 d) : TNum (ndec t d).2.1 ∧ DV 0 (ndec t d).2.2 := by
 obtain ⟨k1, k2, k3, _, _⟩ := tdec_v 6 1 t d ht.1 (by rw [ht.2]; decide) hv;refine ⟨⟨k1, k2.trans ht.2⟩, ?_⟩;unfold ndec;simp only
 split
 ·exact k3
 ·split
  ·exact k3
  ·exact (ddir_v _ 0 _ k3).1
def nds : Nat → List Nat → De → List Int × List Nat × De
 | 0, t, d => ([], t, d)
 | k + 1, t, d => ((nds k t d).1 ++ [(ndec (nds k t d).2.1 (nds k t d).2.2).1], (ndec (nds k t d).2.1 (nds k t d).2.2).2)
theorem nds_shift (k : Nat) : ∀ t d, nds (k + 1) t d = ((ndec t d).1 :: (nds k (ndec t d).2.1 (ndec t d).2.2).1, (nds k (ndec t d).2.1 (ndec t d).2.2).2) := by
 induction k with
 | zero => intro t d; rfl
 | succ k ih =>
  intro t d;rw [nds, ih, nds];rfl
theorem ndecs_nds (k : Nat) : ∀ t d, (ndecs k t d).1 = (nds k t d).1 ∧ (ndecs k t d).2 = (nds k t d).2.2 := by
 induction k with
 | zero => intro t d; exact ⟨rfl, rfl⟩
 | succ k ih =>
  intro t d;rw [nds_shift, ndecs];have := ih (ndec t d).2.1 (ndec t d).2.2;exact ⟨by rw [this.1], this.2⟩
theorem nds_v (k : Nat) {t : List Nat} {d : De} (ht : TNum t) (hv : DV 0 d) : TNum (nds k t d).2.1 ∧ DV 0 (nds k t d).2.2 := by
 induction k with
 | zero => exact ⟨ht, hv⟩
 | succ k ih => exact ndec_v ih.1 ih.2
theorem nds_length (k : Nat) (t : List Nat) (d : De) : (nds k t d).1.length = k := by
 induction k with
 | zero => rfl
 | succ k ih => simp [nds, ih]
theorem d0_v (s : List UInt8) : DV 0 (d0 s) := by
 have h1 : (dpre s).size = 4294967295 := by
  unfold dpre;rw [dnext_v.1, dnext_v.1, dnext_v.1, dnext_v.1]
 exact ⟨by show Szk 0 (dpre s).size; rw [h1]; exact ⟨by decide, by decide⟩, (dnext_v (d := dnext (dnext (dnext ⟨s, 0, 4294967295, false, false⟩)))).2⟩
def ics (l : List Int) : Array Value := (ivs l).toArray
theorem ics_set (l : List Int) (i : Nat) (z : Int) : (ics l).setIfInBounds i (.int .i64 z) = ics (l.set i z) := by
 apply Array.toList_inj.1
 simp [ics, ivs, iv, List.map_set]
theorem ics_zero (n : Nat) : Array.replicate n (.int .i64 0 : Value) = ics (List.replicate n 0) := by
 apply Array.toList_inj.1
 simp [ics, ivs, iv]
theorem ics_get (l : List Int) (i : Nat) (h : i < l.length) : (ics l)[i]? = some (.int .i64 (l.getD i 0)) := by
 have := ivs_get l i h
 simpa [ics] using this
def IRes (w : World) (v : Value) (l : List Int) : Prop := ∃ A cap, v = .slice A l.length cap ∧ At w A (ivs l)
theorem IRes.nil (w : World) : IRes w (.slice none 0 0) [] := ⟨none, 0, rfl, At.nil _ _⟩
end Go.Proofs.YtoeeblldgoccoaaGreat
