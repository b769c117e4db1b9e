/-
  The walks over lists of values: the most frequent difference.
-/
import Derived.Test.YtoeeblldgoccoaaGreatL31
set_option linter.unusedVariables false
set_option linter.unusedSimpArgs false
set_option maxRecDepth 100000
set_option maxHeartbeats 8000000
namespace Go.Proofs.YtoeeblldgoccoaaGreat
open Go.RowKit Go.Proofs Wv Wv.Vi Wv.Rc Wv.Mo Wv.Ru Wv.Bc
instance : LawfulBEq ByteArray where
 rfl := (MapKept.bytes_beq _ _).2 rfl
 eq_of_beq h := (MapKept.bytes_beq _ _).1 h
def cM (ds : List ByteArray) : Value → Option Value
 | .string d => if ds.count d = 0 then none else some (.int .i64 (ds.count d : Int))
 | _ => none
theorem cM_same (ds : List ByteArray) (d : ByteArray) : cM (ds ++ [d]) (.string d) = some (.int .i64 ((ds.count d : Int) + 1)) := by
 have h : (ds ++ [d]).count d = ds.count d + 1 := by rw [List.count_append, List.count_singleton_self]
 show (if (ds ++ [d]).count d = 0 then none else some (Value.int .i64 ((ds ++ [d]).count d : Int))) = _
 rw [h, if_neg (by omega)];rfl
theorem cM_other (ds : List ByteArray) (d : ByteArray) (x : Value) (hx : x ≠ .string d) : cM (ds ++ [d]) x = cM ds x := by
 cases x with
 | string y =>
  have hy : d ≠ y := fun e => hx (by rw [e])
  have h : (ds ++ [d]).count y = ds.count y := by
   rw [List.count_append, List.count_singleton, if_neg (by simpa using hy)];rfl
  show (if (ds ++ [d]).count y = 0 then none else some (Value.int .i64 ((ds ++ [d]).count y : Int))) = _
  rw [h];rfl
 | _ => rfl
abbrev MC (w : World) (b : Nat) (ds : List ByteArray) : Prop := MpV .string w b (cM ds)
theorem mc_nil (w : World) : MC (w.alloc (.map #[] 0)) w.heap.size [] := by
 obtain ⟨es, c, h1, h2, h3⟩ := MpV.new .string w;refine ⟨es, c, h1, h2, fun k hk => (h3 k hk).trans ?_⟩
 cases k <;> rfl
theorem mc_look {w : World} {b : Nat} {ds : List ByteArray} (h : MC w b ds) (d : ByteArray) : (Instr.lookup 54 (.map (some b)) (.string d) false).run Tryz.prog w = .ok (.int .i64 (ds.count d : Int)) w := by
 by_cases h0 : ds.count d = 0
 ·rw [h0]
  exact (MpV.miss Tryz.underlying54 Tryz.underlying9 h (.string d) (.int .i64 0) trivial (by show (if ds.count d = 0 then none else _) = none; rw [if_pos h0]) (zeroInt w)).1
 ·exact (MpV.get Tryz.underlying54 Tryz.underlying9 h (.string d) _ trivial (by show (if ds.count d = 0 then none else _) = some _; rw [if_neg h0])).1
theorem mc_put {w : World} {b : Nat} {ds : List ByteArray} (h : MC w b ds) (d : ByteArray) : ∃ w', (Instr.mapUpdate 54 (.map (some b)) (.string d) (.int .i64 ((ds.count d : Int) + 1))).run Tryz.prog w = .ok () w' ∧ MC w' b (ds ++ [d]) ∧ Fr (fun j => j = b) w w' ∧ w'.heap.size = w.heap.size := by
 obtain ⟨w', h1, h2, h3, h4⟩ := MpV.put Tryz.underlying54 Tryz.underlying9 h (.string d) (.int .i64 ((ds.count d : Int) + 1)) trivial;exact ⟨w', h1, h2 _ (cM_same ds d) (cM_other ds d), h3, h4⟩
theorem difP_len (l : List ByteArray) (k : Nat) : (difP l k).length ≤ k := by
 unfold difP;have := List.length_filterMap_le (dAt l) (List.range k)
 rwa [List.length_range] at this
theorem dif_two (a b : ByteArray) (ha : a.size ≤ 1099511627776) (hb : b.size ≤ 1099511627776) (W : World) :
  Calls Tryz.prog 32 #[.string a, .string b] W fun x w' => x = .returned (.tuple #[.string (bs (difV (toL a) (toL b)).1), .bool (difV (toL a) (toL b)).2]) ∧ Below W.heap.size W w' := by
 have := bdif_any (toL a) (toL b) (by rw [toL_length]; exact ha) (by rw [toL_length]; exact hb) W;rw [bs_toL, bs_toL] at this;exact this
theorem svs_snocB (a : List ByteArray) (x : ByteArray) : svs (a ++ [x]) = svs a ++ [.string x] := by simp [svs, sv]
theorem fold_take {α β : Type} (f : β → α → β) (p : β) (l : List α) (j : Nat) (h : j < l.length) : (l.take (j + 1)).foldl f p = f ((l.take j).foldl f p) l[j] := by
 rw [List.take_succ_eq_append_getElem h, List.foldl_append];rfl
theorem count_empty (l : List ByteArray) (k : Nat) : (difP l k).count (bs []) = 0 := by
 rw [List.count_eq_zero];intro h;have := difs_ne _ h;have h2 := (knV_iff.1 this).2.1;exact h2 rfl
theorem own_put {w w' : World} {G n : Nat} {e : TypeId} {v : Value} {xs : List Value} (h : w.ownsRow (G + 1) e 1 v n xs) (hf : Fr (fun j => j = G) w w') : w'.ownsRow (G + 1) e 1 v n xs :=
 own_fr h hf (fun g hg e => by have := (h.lt g hg).1; omega)
theorem bel_put {a w w' : World} {G : Nat} (h : Below a.heap.size a w) (hG : a.heap.size ≤ G) (hf : Fr (fun j => j = G) w w') : Below a.heap.size a w' :=
 h.trans (hf.toBelow' h.size (fun j hj e => by omega))
theorem step_any {w : World} {A : Option Addr} {l : List ByteArray} (ha : At w A (svs l)) (hsz : ∀ s ∈ l, s.size ≤ 1099511627776) (n cap : Nat) (hn : n = l.length) (hm : n ≤ 9223372036854775807) :
  Calls Tryz.prog 15 #[.slice A n cap] w fun x w' => x = .returned (.string (stepB l)) ∧ Below w.heap.size w w' := by
 have he : bs ([] : List UInt8) = ⟨#[]⟩ := rfl
 rcases Nat.eq_zero_or_pos n with h0 | hpos
 ·subst h0
  have hl : l = [] := List.eq_nil_of_length_eq_zero hn.symm
  have hs : stepB l = ⟨#[]⟩ := by unfold stepB; rw [if_pos (.inl hl)]; rfl
  rw [hs];clear ha hsz hn hl hs he
  go_enter Tryz.func15, Tryz.ntmps15
  go_wp2
  go_returns
  exact ⟨rfl, Below.refl _ _⟩
 ·have hl0 : 0 < l.length := by omega
  obtain ⟨b0, o0, hA, hb0, hc0⟩ := sv_cell ha 0 hl0;have hg0 : l.getD 0 default = l[0] := getD_at hl0;have HV := hide (validB_any ha hsz n cap hn hm ((l.getD 0 default).size : Int));rw [hg0] at HV;subst hA;have hc0' : w.cell? ⟨b0, o0, none⟩ = some (.string l[0]) := hc0
  have hnl : l ≠ [] := fun e => by rw [e] at hl0; exact absurd hl0 (Nat.lt_irrefl _)
  cases hv : validB (l[0].size : Int) l with
  | false =>
   have hs : stepB l = ⟨#[]⟩ := by unfold stepB; rw [hg0, if_pos (.inr hv)]; rfl
   rw [hs];rw [hv] at HV
   have hpi : (0 : Int) < (n : Int) := by omega
   have hne : ((n : Int) == 0) = false := by rw [beq_eq_false_iff_ne]; omega
   generalize l[0] = S0 at *
   clear ha hsz hn hs he hv hg0 hc0 hnl hl0
   go_enter Tryz.func15, Tryz.ntmps15
   go_wp2_with fail
   refine (HV.out).mono ?_;rintro x w1 ⟨rfl, hb1⟩
   go_wp2
   go_returns
   exact ⟨rfl, hb1⟩
  | true =>
   have hs : stepB l = stepOf (difs l) := by unfold stepB; rw [hg0, if_neg (by rintro (h | h); exact hnl h; rw [hv] at h; cases h)]
   rw [hs];rw [hv] at HV;have hl4 : l.length ≤ 4096 := (validB_iff.1 hv).2.2.2
   have hds := fun k => difP_len l k
   have hdl := fun k => dict_length (difP l k)
   have Hd := hide (fun (v u : ByteArray) (hv : v ∈ l) (hu : u ∈ l) W2 => dif_two v u (hsz v hv) (hsz u hu) W2);have Ha := hide ha;have Hn := hide hn
   have hm4 : n ≤ 4096 := by omega
   have hpi : (0 : Int) < (n : Int) := by omega
   have hne : ((n : Int) == 0) = false := by rw [beq_eq_false_iff_ne]; omega
   have Hds := hide hds;have Hdl := hide hdl
   generalize l[0] = S0 at *
   clear ha hsz hn hs he hv hg0 hc0 hnl hl0 hl4 hds hdl
   go_enter Tryz.func15, Tryz.ntmps15
   go_wp2_with fail
   refine (HV.out).mono ?_;rintro x w1 ⟨rfl, hb1⟩;have hm0 := mc_nil w1;have ho0 := own_made0 9 (w1.alloc (.map #[] 0));have hmc0 := hm0.alloc (.cells #[] 9);have hbl0 := (hb1.alloc hb1.size (.map #[] 0)).alloc (by rw [World.size_alloc]; have := hb1.size; omega) (.cells #[] 9);rw [World.size_alloc] at ho0;have hbw := hb1.size;obtain ⟨G, hG⟩ : ∃ G, w1.heap.size = G := ⟨_, rfl⟩;rw [hG] at ho0 hmc0 hbw;have Ho0 := hide ho0;have Hm0 := hide hmc0;have Hb0 := hide hbl0;clear hm0 ho0 hmc0 hbl0 hb1 HV hc0';have hmm := @run_makeMap Tryz.prog
   go_wp2
   go_loopw [4, 5] (fun s4 s5 wr => ∃ k : Nat, (k = 0 ∨ k + 1 ≤ n) ∧ s5 = .int .i64 ((k : Int) + 1) ∧ Hid (wr.ownsRow (G + 1) 9 1 s4 (dict (difP l k)).length (svs (dict (difP l k)))) ∧ Hid (MC wr G (difP l k)) ∧ Hid (Below w.heap.size w wr)) (fun _ s5 _ => (n - intOf s5).toNat)
   case atStart => exact ⟨0, .inl rfl, rfl, Ho0, Hm0, Hb0⟩
   case round =>
    clear Ho0 Hm0 Hb0;obtain ⟨k, hk, rfl, hown, hmc, hb⟩ := hrel;obtain ⟨A5, M5, cap5, rfl⟩ := own_slice hown.out
    by_cases hlt : k + 1 < n
    ·have hil : k + 1 < l.length := by rw [← Hn.out]; exact hlt
     have hil0 : k < l.length := by omega
     have hat1 := Ha.out.below hb.out;obtain ⟨b, o, he1, hbl, hc⟩ := sv_cell hat1 k hil0;obtain ⟨b2, o2, he2, _, hc2⟩ := sv_cell hat1 (k + 1) hil
     injection he1 with he1
     injection he1 with h1 h2
     subst h1; subst h2
     injection he2 with he2
     injection he2 with h1 h2
     subst h1; subst h2
     have Hv1 := hide (Hd.out l[k] l[k + 1] (List.getElem_mem _) (List.getElem_mem _));have hsu := difP_succ l k;unfold dAt at hsu;rw [getD_at hil0, getD_at hil] at hsu;have hle1 := Hds.out k;have hle2 := Hdl.out k;obtain ⟨S1, hS1⟩ : ∃ S, l[k] = S := ⟨_, rfl⟩;obtain ⟨S2, hS2⟩ : ∃ S, l[k + 1] = S := ⟨_, rfl⟩;rw [hS1] at hc Hv1 hsu;rw [hS2] at hc2 Hv1 hsu;obtain ⟨⟨r, q⟩, hr⟩ : ∃ r, difV (toL S1) (toL S2) = r := ⟨_, rfl⟩;rw [hr] at Hv1 hsu;simp only at Hv1 hsu;obtain ⟨X, hX⟩ : ∃ X, bs r = X := ⟨_, rfl⟩;rw [hX] at Hv1 hsu
     have hlenk : (dict (difP l k)).length + 1 ≤ 4096 := by omega
     have Hlk := hide hlenk;have Hsu := hide hsu
     have i1 : IntKind.i64.wrap ((k : Int) + 1 - 1) = (k : Int) := by rw [IntWalk.i64_in _ (by omega)]; omega
     have ij : IntKind.i64.wrap (k : Int) = (k : Int) := by rw [IntWalk.i64_in _ (by omega)]
     have hk0 : (0 : Int) ≤ (k : Int) := by omega
     have hk1 : (k : Int) < (n : Int) := by omega
     have hk2 : (k : Int) + 1 < (n : Int) := by omega
     have hk3 : (0 : Int) ≤ (k : Int) + 1 := by omega
     have e2 : ((k : Int) + 1).toNat = k + 1 := by omega
     have Hbs := hide hb.out.size;clear hil hil0 hat1 hS1 hS2 hr hX hsu hle1 hle2 hlenk
     go_upto_region 7 with fail
     go_cut [6, 7] (fun s6 s7 wx => s6 = .string X ∧ s7 = .bool q ∧ Hid (Below wr.heap.size wr wx))
     case first =>
      clear hown hmc hb
      go_region_with ((go_at_call 32; with_reducible refine (Hv1.out _).mono ?_; rintro r w9 ⟨rfl, hb9⟩))
      all_goals
       go_wp2
       go_meet
       case rel => exact ⟨rfl, rfl, hide (((Below.refl wr.heap.size wr).drew).trans hb9)⟩
     case rest =>
      obtain ⟨rfl, rfl, hb9⟩ := hcut;have hownx := own_fr hown.out (Fr.of_below (S := nob) hb9.out) (fun _ _ f => f);have hmcx := hmc.out.below hb9.out hmc.out.lt;have hbx := hb.out.trans (hb9.out.mono Hbs.out);have Hownx := hide hownx;have Hmcx := hide hmcx;have Hbx := hide hbx;have hGx := Nat.le_trans Hbs.out hb9.out.size
      cases q with
      | false =>
       have Hex := hide (show difP l (k + 1) = difP l k by have := Hsu.out; simpa using this);clear hownx hmcx hbx hown hmc hb hb9 hc hc2 Hv1 i1 ij e2
       go_wp2
       refine ⟨⟨k + 1, .inr hlt, by go_num, by rw [Hex.out]; exact Hownx, by rw [Hex.out]; exact Hmcx, Hbx⟩, ?_⟩
       simp [intOf] <;> omega
      | true =>
       have Hex := hide (show difP l (k + 1) = difP l k ++ [X] by have := Hsu.out; simpa using this);have hl1 := mc_look hmcx X
       by_cases hin : X ∈ difP l k
       ·have hcp : 0 < (difP l k).count X := List.count_pos_iff.2 hin
        have Hdi := hide (show dict (difP l k ++ [X]) = dict (difP l k) by
         rw [dict_snoc]; unfold dstep; rw [if_pos ((mem_dict _ _).2 hin)])
        obtain ⟨w5, hu, hm5, hf5, hs5⟩ := mc_put hmcx X;have Hown5 := hide (own_put hownx hf5);have Hb5 := hide (bel_put hbx hbw hf5);have Hm5 := hide hm5
        have hcl : (difP l k).count X ≤ 4096 := by have := List.count_le_length (a := X) (l := difP l k); have := Hds.out k; omega
        generalize (difP l k).count X = c at *
        have hcne : ((c : Int) == 0) = false := by rw [beq_eq_false_iff_ne]; omega
        clear hownx hmcx hbx hown hmc hb hb9 hc hc2 Hv1 i1 ij e2 hin hm5 hf5 hs5 Hownx Hmcx Hbx
        go_wp2
        refine ⟨⟨k + 1, .inr hlt, by go_num, by rw [Hex.out, Hdi.out]; exact Hown5, by rw [Hex.out]; exact Hm5, Hb5⟩, ?_⟩
        simp [intOf] <;> omega
       ·have hc0 : (difP l k).count X = 0 := List.count_eq_zero.2 hin
        have Hdi := hide (show dict (difP l k ++ [X]) = dict (difP l k) ++ [X] by
         rw [dict_snoc]; unfold dstep; rw [if_neg (fun h => hin ((mem_dict _ _).1 h))])
        obtain ⟨v', w6, hrun, hown6, hb6, _⟩ := app_own (P := Tryz.prog) 22 9 _ _ Tryz.underlying22 strinf rfl (w := wc) (wb := wc) hownx (Below.refl _ wc) (by have := hmcx.lt; omega) (.string X) rfl (by have := Hlk.out; unfold maxLen; omega) (by have := Hlk.out; omega);have hm6 := hmcx.below hb6 (Nat.lt_succ_self G);have hl6 := mc_look hm6 X;obtain ⟨w7, hu, hm7, hf7, hs7⟩ := mc_put hm6 X;have Hown7 := hide (own_put hown6 hf7);have Hb7 := hide (bel_put (hbx.trans (hb6.mono (Nat.le_succ_of_le hbw))) hbw hf7);have Hm7 := hide hm7;have Hrun := hide hrun;rw [hc0, show ((0 : Nat) : Int) = 0 from rfl] at hl1 hl6 hu;rw [show (0 : Int) + 1 = 1 from rfl] at hu;clear hownx hmcx hbx hown hmc hb hb9 hc hc2 Hv1 i1 ij e2 hin hm6 hm7 hf7 hs7 hown6 hb6 hrun hc0 Hownx Hmcx Hbx
        go_wp2_with (
         at_builtin
         refine wpList_run (by with_reducible rfl) rfl _ _ _ rfl _ _ (by rfl) (by rfl) Hrun.out ?_)
        refine ⟨⟨k + 1, .inr hlt, by go_num, ?_, by rw [Hex.out]; exact Hm7, Hb7⟩, ?_⟩
        ·rw [Hex.out, Hdi.out, List.length_append, svs_snocB]
         exact Hown7
        ·simp [intOf] <;> omega
    ·have hkn : n - 1 = k := by omega
     have hlt2 : ¬ (k : Int) + 1 < (n : Int) := by omega
     have hdf : difs l = difP l k := by unfold difs; rw [← Hn.out, hkn]
     obtain ⟨A6, cap6, hv6, hat6⟩ := own_at hown.out
     injection hv6 with h1 h2 h3
     subst h1; subst h2; subst h3
     have hz := count_empty l k;have hln := Hdl.out k;have hln2 := Hds.out k
     have hst : stepOf (difP l k) = ((dict (difP l k)).foldl (bstep (fun d => (difP l k).count d)) (bs [], 0)).1 := by unfold stepOf; rw [fold_dict]
     have hfs := fun j => fold_snd (fun d => (difP l k).count d) ((dict (difP l k)).take j) (bs [], 0) hz.symm
     have hft := fun j (h : j < (dict (difP l k)).length) => fold_take (bstep (fun d => (difP l k).count d)) (bs [], 0) (dict (difP l k)) j h
     generalize hD : difP l k = D at *
     have Hst := hide ((congrArg stepOf hdf).trans hst);have Hfs := hide hfs;have Hft := hide hft;have Hat := hide hat6;have Hmc := hide hmc.out
     have hKl : (dict D).length ≤ 4096 := by omega
     have Hcl := hide (fun x => (show D.count x ≤ 4096 by have := List.count_le_length (a := x) (l := D); omega));obtain ⟨K, hK⟩ : ∃ K, (dict D).length = K := ⟨_, rfl⟩;rw [hK] at hKl;have HK := hide hK
     have hK2 : ((dict D).length : Int) = (K : Int) := by rw [hK]
     clear hown hmc hkn hdf hat6 hz hln hln2 hst hfs hft hD hK Hd hk
     go_wp2
     go_loopw [8, 59] (fun s8 s59 wx => ∃ j : Nat, j ≤ K ∧ s59 = .int .i64 (j : Int) ∧ s8 = .string (((dict D).take j).foldl (bstep (fun d => D.count d)) (bs [], 0)).1 ∧ wx = wr) (fun _ s59 _ => (K - intOf s59).toNat)
     case atStart => exact ⟨0, Nat.zero_le _, rfl, rfl, rfl⟩
     case round =>
      obtain ⟨j, hj, rfl, hs8, rfl⟩ := hrel
      by_cases hlt3 : j < K
      ·have hjl : j < (dict D).length := by rw [HK.out]; exact hlt3
       obtain ⟨b9, o9, rfl, hbl9, hc9⟩ := sv_cell Hat.out j hjl;have h1 := Hfs.out j;have h2 := Hft.out j hjl;obtain ⟨x, hx⟩ : ∃ x, (dict D)[j] = x := ⟨_, rfl⟩;rw [hx] at hc9 h2;obtain ⟨⟨p1, p2⟩, hp⟩ : ∃ p, ((dict D).take j).foldl (bstep (fun d => D.count d)) (bs [], 0) = p := ⟨_, rfl⟩;rw [hp] at h1 h2 hs8;simp only at h1 hs8;subst hs8;have hl1 := mc_look Hmc.out x;have hl2 := mc_look Hmc.out p1
       have hb2 : bstep (fun d => D.count d) (p1, p2) x = if p2 < D.count x then (x, D.count x) else (p1, p2) := rfl
       rw [hb2] at h2;have Hn := hide h2;rw [← h1] at hl2;clear hb2;have hc1 := Hcl.out x
       generalize D.count x = cx at *
       have hj0 : (0 : Int) ≤ (j : Int) := by omega
       have hj1 : (j : Int) < (K : Int) := by omega
       have hj2 : (j : Int) < ((dict D).length : Int) := by omega
       have hlt4 : (j : Int) < (K : Int) := hj1;clear hjl hx hp h1 h2 Hfs Hft
       by_cases hg : p2 < cx
       ·rw [if_pos hg] at Hn
        have hgi : (p2 : Int) < (cx : Int) := by omega
        go_wp2
        refine ⟨⟨j + 1, hlt3, by go_num, by rw [Hn.out], trivial⟩, ?_⟩
        simp [intOf] <;> omega
       ·rw [if_neg hg] at Hn
        have hgi : ¬ (p2 : Int) < (cx : Int) := by omega
        go_wp2
        refine ⟨⟨j + 1, hlt3, by go_num, by rw [Hn.out], trivial⟩, ?_⟩
        simp [intOf] <;> omega
      ·have hjK : j = K := by omega
       subst hs8;have hst2 := Hst.out;rw [hjK, List.take_of_length_le (by rw [HK.out]; exact Nat.le_refl _)]
       go_wp2
       go_returns
       exact ⟨by rw [hst2]; rfl, hb.out⟩
end Go.Proofs.YtoeeblldgoccoaaGreat
