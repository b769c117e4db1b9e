/-
  The walks over the compression: a text is written.
-/
import Derived.Test.YtjfcemlbbinanaaGreatDoorJ30
set_option linter.unusedVariables false
set_option linter.unusedSimpArgs false
namespace Wv
open Go Go.RowKit
theorem rows_apart {w : World} {B B' : Nat} {e e' : TypeId} {sz sz' n n' : Nat} {v v' : Value} {xs ys : List Value} (h : w.ownsRow B e sz v n xs) (h' : w.ownsRow B' e' sz' v' n' ys) (hne : e ≠ e') {g : Nat} (hg : v.ownBlock = some g) : v'.ownBlock ≠ some g := by
 rcases h.2 with ⟨rfl, _⟩ | ⟨g1, cap, cur, rfl, _, hh, _⟩
 ·simp [Value.ownBlock] at hg
 ·have : g1 = g := by simpa [Value.ownBlock] using hg
  subst this
  exact own_apart h' (show Bk w g1 e cur from hh) (Ne.symm hne)
end Wv
namespace Go.Proofs.YtjfcemlbbinanaaGreatDoor
open Go.RowKit Go.Proofs Wv Wv.Vi Wv.Rc Wv.Mo Wv.Lz
set_option linter.unusedVariables false
theorem pc_cell {w : World} {B n cap g : Nat} {o : List Pc} (h : w.ownsRow B 102 3 (.slice (some ⟨g, 0, none⟩) n cap) n (pcCs o)) {k : Nat} (hk : k < o.length) : w.cell? ⟨g, k * 3, none⟩ = some (.int .i64 (o[k].len : Int)) ∧ w.cell? ⟨g, k * 3 + 1, none⟩ = some (.int .i64 (o[k].dist : Int)) ∧ w.cell? ⟨g, k * 3 + 2, none⟩ = some (.int .u8 (o[k].byte.toNat : Int)) := by
 have key : ∀ (o : List Pc) (k : Nat) (hk : k < o.length), (pcCs o)[k * 3]? = some (.int .i64 (o[k].len : Int)) ∧ (pcCs o)[k * 3 + 1]? = some (.int .i64 (o[k].dist : Int)) ∧ (pcCs o)[k * 3 + 2]? = some (.int .u8 (o[k].byte.toNat : Int)) := by
  intro o
  induction o with
  | nil => intro k h; simp at h
  | cons c r ih =>
   intro k h
   cases k with
   | zero => exact ⟨rfl, rfl, rfl⟩
   | succ k =>
    obtain ⟨a, b, d⟩ := ih k (by simpa using h)
    have e1 : ∀ j, (pcCs (c :: r))[(k + 1) * 3 + j]? = (pcCs r)[k * 3 + j]? := fun j => by
     unfold pcCs
     rw [List.flatMap_cons, List.getElem?_append_right (by show 3 ≤ _; omega)]
     congr 1
     show (k + 1) * 3 + j - 3 = _
     omega
    have e0 := e1 0
    simp only [Nat.add_zero] at e0
    rw [e0, e1, e1]
    exact ⟨a, b, d⟩
 obtain ⟨a, b, d⟩ := key o k hk
 have h1 := h.cells (g := g) rfl _ _ a
 have h2 := h.cells (g := g) rfl _ _ b
 have h3 := h.cells (g := g) rfl _ _ d
 rw [Go.WideShapes.add_plain, Nat.zero_add] at h1 h2 h3
 exact ⟨h1, h2, h3⟩
theorem lparse_large (s : List UInt8) (hs : 4096 < s.length) (hs2 : s.length ≤ 1000000000) (w : World) :
  Calls Tryz.prog 95 #[costV, .string (bs s), .int .i64 4096] w fun x w' => x = .returned (.tuple #[.slice none 0 0, .int .i64 9]) ∧ Below w.heap.size w w' := by
 have Hva := hide (fun W => lvalid_any W)
 have Hwi := hide (fun W => lwin_any W)
 have hsz : (bs s).size = s.length := bs_size s
 have hsb : (4096 : Int) < ((bs s).size : Int) := by omega
 have hB0 := hide ((Below.refl w.heap.size w).alloc (Nat.le_refl _) (.cells #[.int .i64 9, .int .i64 12, .int .i64 1, .int .i64 1] 122))
 generalize bs s = S at *
 clear hsz hs hs2
 unfold costV at Hva ⊢
 go_enter Tryz.func95, Tryz.ntmps95
 go_wp2_with fail
 refine (Hva.out _).mono ?_
 rintro x w1 ⟨rfl, hb1⟩
 go_wp2_with fail
 refine (Hwi.out _).mono ?_
 rintro x w2 ⟨rfl, rfl⟩
 have hbb := hide (hB0.out.trans (hb1.mono (by simp)))
 clear hb1 hB0
 go_wp2
 go_returns
 exact ⟨rfl, hbb.out⟩
set_option maxHeartbeats 1000000 in
theorem lpieces_any (s : List UInt8) (hs : s.length ≤ 4096) (w : World) :
  Calls Tryz.prog 55 #[.string (bs s)] w fun x w' => ∃ ov, x = .returned (.tuple #[ov, .int .i64 0]) ∧ w'.ownsRow w.heap.size 102 3 ov (parse s).length (pcCs (parse s)) ∧ Below w.heap.size w w' := by
 have Hp := hide (lparse_any s hs w)
 generalize bs s = S at *
 generalize parse s = R at *
 unfold costV at Hp
 go_enter Tryz.func55, Tryz.ntmps55
 go_wp2_with fail
 refine (Hp.out).mono ?_
 rintro x w1 ⟨ov, rfl, h1, h2⟩
 obtain ⟨A, M, cap, rfl⟩ := own_slice h1
 have H1 := hide h1
 clear h1
 go_wp2
 go_returns
 exact ⟨_, rfl, H1.out, h2⟩
set_option maxHeartbeats 1000000 in
theorem lpieces_large (s : List UInt8) (hs : 4096 < s.length) (hs2 : s.length ≤ 1000000000) (w : World) :
  Calls Tryz.prog 55 #[.string (bs s)] w fun x w' => x = .returned (.tuple #[.slice none 0 0, .int .i64 9]) ∧ Below w.heap.size w w' := by
 have Hp := hide (lparse_large s hs hs2 w)
 generalize bs s = S at *
 unfold costV at Hp
 go_enter Tryz.func55, Tryz.ntmps55
 go_wp2_with fail
 refine (Hp.out).mono ?_
 rintro x w1 ⟨rfl, h2⟩
 go_wp2
 go_returns
 exact ⟨rfl, h2⟩
theorem pc_some {s : List UInt8} {i : Nat} {t : Pc} (h : PcOk s i t) (hs : s.length ≤ 4096) : t.len ≤ 1000000 ∧ t.dist ≤ 1000000 ∧ (t.dist = 0 ∧ 1 ≤ t.len ∨ 1 ≤ t.dist ∧ 2 ≤ t.len) := by
 rcases h with ⟨h1, h2, _⟩ | ⟨h1, h2, h3, h4, h5, _⟩ <;> omega
theorem pencs_cons (t : Pc) (l : List Pc) (x : Ms × En) : pencs (t :: l) x = pencs l (penc t x) := rfl
theorem wnew {B : Nat} {p : Pl} {eb : Nat} {dv : Value} (hp : PlB B p) (he : B ≤ eb) (hd : ∀ g, dv.ownBlock = some g → B ≤ g) : ∀ k, k < B → ¬ wfoot p eb dv k := fun k hk hs => by
 rcases hs with hs | hs | hs | hs | hs | hs | hs
 ·have := hp.kg; omega
 ·have := hp.bb; omega
 ·have := hp.bg; omega
 ·have := hp.lg; omega
 ·have := hp.dg; omega
 ·omega
 ·have := hd k hs; omega
set_option maxRecDepth 100000 in
set_option maxHeartbeats 4000000 in
theorem lzenc_any (s : List UInt8) (hs : s.length ≤ 4096) (hne : s ≠ []) (w : World) :
    Calls Tryz.prog 37 #[.string (bs s)] w fun x w' => x = .returned (.tuple #[.string (bs (num s.length ++ efin (pencs (parse s) (m0, e0)).2)), .int .i64 0]) ∧ Below w.heap.size w w' := by
  have Hp := hide (lpieces_any s hs w)
  have hsz : (bs s).size = s.length := bs_size s
  have hem := bs_emp s
  rw [decide_eq_false hne] at hem
  have Hn := hide (fun W => number_any (s.length : Int) (by omega) (by omega) W)
  have hk9 := kof9 s.length
  rw [← bs_size] at hk9
  have Hs := hide (fun W => newset_any W)
  unfold setC at Hs
  have He := hide (fun W => enew_any W)
  have Hpar := hide (parse_parses s)
  have Hok := hide (fun i t (h : PcOk s i t) => pc_some h hs)
  obtain ⟨n, hn⟩ : ∃ n, s.length = n := ⟨_, rfl⟩
  have Hn0 := hide hn
  rw [hn] at hsz Hn hs hk9 ⊢
  rw [Int.toNat_natCast] at Hn
  have Hbn := hide (bs_append (num n) (efin (pencs (parse s) (m0, e0)).2))
  generalize bs s = S at *
  obtain ⟨l, hl⟩ : ∃ l, parse s = l := ⟨_, rfl⟩
  rw [hl] at Hp Hpar Hbn ⊢
  generalize bs (num n) = NS at *
  clear hn hl hne
  go_enter Tryz.func37, Tryz.ntmps37
  go_wp2_with fail
  refine (Hp.out).mono ?_
  rintro x w1 ⟨ov, rfl, hr1, hb1⟩
  obtain ⟨A, cap, rfl, _⟩ := own_at hr1
  go_wp2_with fail
  refine (Hn.out _).mono ?_
  rintro x w2 ⟨rfl, hb2⟩
  go_wp2_with fail
  refine (Hs.out _).mono ?_
  rintro x w3 ⟨p, rfl, hm3, hp3, hb3⟩
  go_wp2_with fail
  refine (He.out _).mono ?_
  rintro x w4 ⟨rfl, he4, hb4⟩
  have s1 := hb1.size
  have s2 := hb2.size
  have s3 := hb3.size
  have s4 := hb4.size
  have b14 : Below w1.heap.size w1 w4 := (hb2.trans (hb3.mono s2)).trans (hb4.mono (by omega))
  have hr4 := own_fr hr1 (Fr.of_below (S := nob) b14) (fun _ _ f => f)
  have hbw4 : Below w.heap.size w w4 := hb1.trans (b14.mono s1)
  have hP : PlB w.heap.size p := ⟨by have := hp3.kb; omega, by have := hp3.kg; omega, by have := hp3.bb; omega, by have := hp3.bg; omega, by have := hp3.lb; omega, by have := hp3.lg; omega, by have := hp3.db; omega, by have := hp3.dg; omega⟩
  have hW5 : WrSt ((w4.alloc (.cells (setC p) 97)).alloc (.cells #[.pointer (some ⟨w3.heap.size, 0, none⟩)] 99)) p w4.heap.size (w4.heap.size + 1) w3.heap.size (.slice none 0 0) (m0, e0) :=
    ⟨(hm3.below hb4).below (((Below.refl w4.heap.size w4).alloc (Nat.le_refl _) _).alloc (by simp) _), he4.below (((Below.refl w4.heap.size w4).alloc (Nat.le_refl _) _).alloc (by simp) _), (Bk.new _ _ _).alloc _, Bk.newN _ _ _ (by simp)⟩
  have hr5 := (hr4.alloc (.cells (setC p) 97)).alloc (.cells #[.pointer (some ⟨w3.heap.size, 0, none⟩)] 99)
  have hb5 := (hbw4.alloc hbw4.size (.cells (setC p) 97)).alloc (Nat.le_trans hbw4.size (by simp)) (.cells #[.pointer (some ⟨w3.heap.size, 0, none⟩)] 99)
  have HW5 := hide hW5
  have Hr5 := hide hr5
  have Hb5 := hide hb5
  have HP := hide hP
  have heb : w.heap.size ≤ w3.heap.size := by omega
  unfold setC at HW5 Hr5 Hb5
  clear hW5 hr5 hb5 hP hr1 hr4 hb1 hb2 hb3 hb4 b14 hbw4 hm3 hp3 he4 s1 s2 s3 s4 Hp Hn Hs He
  have hA : Hid (∀ k, k < l.length → ∃ b, A = some ⟨b, 0, none⟩) := hide (fun k hk => by
    obtain ⟨g, c2, e, _⟩ := own_form2 Hr5.out (by omega)
    injection e with e1 e2 e3
    exact ⟨g, e1⟩)
  have hl0 : l.length ≤ 1000000 := by
    have key : ∀ (i : Nat) (l : List Pc), Parses s i l → i + l.length ≤ s.length := by
      intro i l h
      induction h with
      | done => simp
      | step h r ih => have := h.pos; simp only [List.length_cons]; omega
    have := key 0 l Hpar.out
    rw [Hn0.out] at this
    omega
  go_wp2
  generalize (w4.alloc (.cells #[.pointer (some ⟨p.kb, 0, none⟩), .pointer (some ⟨p.bb, 0, none⟩), .pointer (some ⟨p.lb, 0, none⟩), .pointer (some ⟨p.db, 0, none⟩)] 97)).alloc (.cells #[.pointer (some ⟨w3.heap.size, 0, none⟩)] 99) = W5 at *
  generalize w4.heap.size + 1 = cb at *
  generalize w4.heap.size = mb at *
  generalize w3.heap.size = eb at *
  go_loopw [31] (fun s31 wx => ∃ (k i : Nat) (dv : Value) (x : Ms × En), k ≤ l.length ∧ s31 = .int .i64 (k : Int) ∧ Hid (WrSt wx p mb cb eb dv x) ∧ Hid (MOk x.1 ∧ Val 0 x.2) ∧ Hid (pencs (l.drop k) x = pencs l (m0, e0)) ∧ Hid (Parses s i (l.drop k)) ∧ Hid (x.2.out.length ≤ 135 * i) ∧ Hid (wx.ownsRow w.heap.size 102 3 (.slice A l.length cap) l.length (pcCs l)) ∧ Hid (Below w.heap.size w wx) ∧ Hid (∀ g, dv.ownBlock = some g → w.heap.size ≤ g)) (fun s31 _ => (l.length - intOf s31).toNat)
  case atStart => exact ⟨0, 0, _, (m0, e0), Nat.zero_le _, rfl, HW5, hide ⟨m0_ok, val_0⟩, hide rfl, Hpar, hide (Nat.zero_le _), Hr5, Hb5, hide (by simp [Value.ownBlock])⟩
  case round =>
    clear HW5 Hr5 Hb5 Hpar
    obtain ⟨k, i, dv, x, hk, rfl, hW, hMV, hpe, hpa, hxl, hrow, hb, hdv⟩ := hrel
    by_cases hlt : k < l.length
    · obtain ⟨g, rfl⟩ := hA.out k hlt
      obtain ⟨c1, c2, c3⟩ := pc_cell hrow.out hlt
      have hdr : l.drop k = l[k] :: l.drop (k + 1) := List.drop_eq_getElem_cons hlt
      have hpa2 := hpa.out
      have hpe2 := hpe.out
      rw [hdr] at hpa2 hpe2
      obtain ⟨t, ht⟩ : ∃ t, l[k] = t := ⟨_, rfl⟩
      rw [ht] at hpa2 hpe2 c1 c2 c3
      have hok : PcOk s i t ∧ Parses s (i + t.len) (l.drop (k + 1)) := by cases hpa2 with | step h r => exact ⟨h, r⟩
      obtain ⟨hok, hpar⟩ := hok
      obtain ⟨o1, o2, o3⟩ := Hok.out i t hok
      have hpos := hok.pos
      rw [Hn0.out] at hpos
      have hwl := penc_len o1 o2 (by omega) x
      have hpv := penc_val (p := t) hMV.out.1 hMV.out.2
      have hbl : Below wr.heap.size wr (wr.alloc (.cells (pcC t) 102)) := (Below.refl _ _).alloc (Nat.le_refl _) _
      have Hw := lzwrite_any (hW.out.below hbl) hMV.out.1 hMV.out.2 t o1 o2 o3 (by have := hxl.out; omega)
      have Hfr := hide (fun (w' : World) (h : Fr (wfoot p eb dv) (wr.alloc (.cells (pcC t) 102)) w') => (⟨own_fr (hrow.out.alloc (.cells (pcC t) 102)) h (fun g hg hs => by
          have hR := hrow.out
          rcases hs with hs | hs | hs | hs | hs | hs | hs
          · exact own_apart hR hW.out.ms.kn (by decide) (hs ▸ hg)
          · exact own_apart hR hW.out.ms.bt.st (by decide) (hs ▸ hg)
          · exact own_apart hR hW.out.ms.bt.nd (by decide) (hs ▸ hg)
          · exact own_apart hR hW.out.ms.ln.2 (by decide) (hs ▸ hg)
          · exact own_apart hR hW.out.ms.dn.2 (by decide) (hs ▸ hg)
          · exact own_apart hR hW.out.en.1 (by decide) (hs ▸ hg)
          · exact rows_apart hR hW.out.en.2 (by decide) hg hs),
        (hb.out.alloc hb.out.size (.cells (pcC t) 102)).trans (h.toBelow' (Nat.le_trans hb.out.size (by simp)) (wnew HP.out heb hdv.out))⟩ : w'.ownsRow w.heap.size 102 3 (.slice (some ⟨g, 0, none⟩) l.length cap) l.length (pcCs l) ∧ Below w.heap.size w w'))
      have Hdv := hide (fun (d : Value) (h : OwnNew (wr.alloc (.cells (pcC t) 102)) dv d) => (fun g hg => by
          rcases h with h | h
          · exact hdv.out g (h ▸ hg)
          · have := h g hg
            have := hb.out.size
            simp at *
            omega : ∀ g, d.ownBlock = some g → w.heap.size ≤ g))
      have Hxl : Hid ((penc t x).2.out.length ≤ 135 * (i + t.len)) := hide (by have := hxl.out; omega)
      have Hpe : Hid (pencs (l.drop (k + 1)) (penc t x) = pencs l (m0, e0)) := hide hpe2
      have Hpar := hide hpar
      have Hpv := hide hpv
      have hlti : (k : Int) < (l.length : Int) := by omega
      have hk0 : (0 : Int) ≤ (k : Int) := by omega
      have Hw := hide Hw
      unfold pcC at Hw Hfr Hdv
      clear hdr hpa2 hpe2 ht hok hpar o1 o2 o3 hpos hwl hpv hbl hW hMV hpe hpa hxl hrow hdv
      obtain ⟨tl, td, tb⟩ := t
      simp only at c1 c2 c3 Hw Hfr Hdv
      generalize (tb.toNat : Int) = TB at *
      go_wp2_with fail
      refine (Hw.out).mono ?_
      rintro r w6 ⟨rfl, d6, hw6, hf6, ho6⟩
      obtain ⟨hr6, hb6⟩ := Hfr.out _ hf6
      have Hr6 := hide hr6
      have Hb6 := hide hb6
      have Hd6 := hide (Hdv.out _ ho6)
      have HW6 := hide hw6
      clear hf6 ho6 hr6 hb6 hw6 Hfr Hdv Hw hb
      go_wp2
      refine ⟨⟨k + 1, _, d6, _, hlt, by go_num, HW6, Hpv, Hpe, Hpar, Hxl, Hr6, Hb6, Hd6⟩, ?_⟩
      simp [intOf] <;> omega
    · have hkl : k = l.length := by omega
      subst hkl
      have hx : x = pencs l (m0, e0) := by
        have := hpe.out
        rw [List.drop_length] at this
        exact this
      have hi4 : i ≤ n := by
        have key : ∀ (i : Nat) (l : List Pc), Parses s i l → i ≤ s.length := by
          intro i l h
          cases h with
          | done => exact Nat.le_refl _
          | step h r => have := h.pos; omega
        have := key _ _ hpa.out
        rw [Hn0.out] at this
        exact this
      have Hf := efinish_any hW.out.en hMV.out.2.low (by have := hxl.out; omega)
      rw [hx] at Hf
      have Hf := hide Hf
      have c4 := hW.out.cc.cell 0
      simp at c4
      have hel : (bs (efin (pencs l (m0, e0)).2)).size ≤ 1000000 := by
        rw [bs_size]
        unfold efin
        rw [← hx, List.length_append]
        have := hxl.out
        have e4 : (be 4 x.2.low).length = 4 := by rw [be4]; rfl
        omega
      generalize bs (efin (pencs l (m0, e0)).2) = FS at *
      clear hx hW hMV hpe hpa hxl hrow hdv
      go_wp2_with fail
      refine (Hf.out).mono ?_
      rintro r w6 ⟨rfl, hb6⟩
      have Hb6 := hide (hb.out.trans (hb6.mono hb.out.size))
      clear hb6 hb
      go_wp2
      go_returns
      exact ⟨by rw [← Hbn.out]; rfl, Hb6.out⟩
set_option maxHeartbeats 1000000 in
theorem lzenc_nil (w : World) :
  Calls Tryz.prog 37 #[.string (bs [])] w fun x w' => x = .returned (.tuple #[.string (bs (num 0)), .int .i64 0]) ∧ Below w.heap.size w w' := by
 have Hp := hide (lpieces_any [] (Nat.zero_le _) w)
 have hsz : (bs ([] : List UInt8)).size = 0 := rfl
 have hem := bs_emp []
 rw [decide_eq_true rfl] at hem
 have Hn := hide (fun W => number_any 0 (by omega) (by omega) W)
 have e0 : (0 : Int).toNat = 0 := rfl
 rw [e0] at Hn
 generalize bs [] = S at *
 generalize parse [] = l at *
 generalize bs (num 0) = NS at *
 go_enter Tryz.func37, Tryz.ntmps37
 go_wp2_with fail
 refine (Hp.out).mono ?_
 rintro x w1 ⟨ov, rfl, hr1, hb1⟩
 obtain ⟨A, cap, rfl, _⟩ := own_at hr1
 go_wp2_with fail
 refine (Hn.out _).mono ?_
 rintro x w2 ⟨rfl, hb2⟩
 have hbb := hide (hb1.trans (hb2.mono hb1.size))
 clear hr1 hb1 hb2
 go_wp2
 go_returns
 exact ⟨rfl, hbb.out⟩
set_option maxHeartbeats 1000000 in
theorem lzenc_large (s : List UInt8) (hs : 4096 < s.length) (hs2 : s.length ≤ 1000000000) (w : World) :
  Calls Tryz.prog 37 #[.string (bs s)] w fun x w' => x = .returned (.tuple #[.string (bs []), .int .i64 9]) ∧ Below w.heap.size w w' := by
 have Hp := hide (lpieces_large s hs hs2 w)
 have he : bs ([] : List UInt8) = ⟨#[]⟩ := rfl
 rw [he]
 generalize bs s = S at *
 clear he
 go_enter Tryz.func37, Tryz.ntmps37
 go_wp2_with fail
 refine (Hp.out).mono ?_
 rintro x w1 ⟨rfl, hb1⟩
 go_wp2
 go_returns
 exact ⟨rfl, hb1⟩
def optV (o : Option (List UInt8)) : Value := match o with
 | some t => .tuple #[.string (bs t), .int .i64 0]
 | none => .tuple #[.string (bs []), .int .i64 9]
theorem lzencode_any (s : List UInt8) (hs : s.length ≤ 1000000000) (w : World) :
  Calls Tryz.prog 37 #[.string (bs s)] w fun x w' => x = .returned (optV (lzE s)) ∧ Below w.heap.size w w' := by
 unfold lzE
 by_cases h : 4096 < s.length
 ·rw [if_pos h]
  exact lzenc_large s h hs w
 ·rw [if_neg h]
  by_cases h0 : s = []
  ·subst h0
   rw [if_pos rfl, List.append_nil]
   exact lzenc_nil w
  ·rw [if_neg h0]
   exact lzenc_any s (by omega) h0 w
end Go.Proofs.YtjfcemlbbinanaaGreatDoor
