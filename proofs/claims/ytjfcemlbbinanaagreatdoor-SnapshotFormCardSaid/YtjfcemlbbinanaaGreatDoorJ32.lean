/-
  The walks over the compression: the steps of reading.
-/
import Derived.Test.YtjfcemlbbinanaaGreatDoorJ31
import Derived.Test.YtjfcemlbbinanaaGreatDoorJ20
set_option linter.unusedVariables false
set_option linter.unusedSimpArgs false
namespace Go.Proofs.YtjfcemlbbinanaaGreatDoor
open Go.RowKit Go.Proofs Wv Wv.Vi Wv.Rc Wv.Mo Wv.Lz
set_option linter.unusedVariables false
structure RdA (w : World) (p : Pl) (mb eb : Nat) (m : Ms) (d : De) : Prop where
 ms : MsA w p m
 de : DAt w eb d
 mc : Bk w mb 97 (setC p)
def rfoot (p : Pl) (eb : Nat) : Nat → Prop := fun k => k = p.kg ∨ k = p.bb ∨ k = p.bg ∨ k = p.lg ∨ k = p.dg ∨ k = eb
theorem rfoot_not {w : World} {p : Pl} {m : Ms} (h : MsA w p m) {eb b : Nat} {d : De} (he : DAt w eb d) {t : TypeId} {cs : Array Value} (hb : Bk w b t cs) (h1 : t ≠ 194) (h3 : t ≠ 3) (h4 : t ≠ 136) : ¬ rfoot p eb b := fun hs => by
 rcases hs with hs | hs | hs | hs | hs | hs
 ·exact Bk.apart hb h.kn h3 hs
 ·exact Bk.apart hb h.bt.st h4 hs
 ·exact Bk.apart hb h.bt.nd h3 hs
 ·exact Bk.apart hb h.ln.2 h3 hs
 ·exact Bk.apart hb h.dn.2 h3 hs
 ·exact Bk.apart hb he h1 hs
theorem RdA.next {w w' : World} {p : Pl} {mb eb : Nat} {m m' : Ms} {d d' : De} (h : RdA w p mb eb m d) (hf : Fr (rfoot p eb) w w') (hm : MsA w' p m') (he : DAt w' eb d') : RdA w' p mb eb m' d' :=
 ⟨hm, he, h.mc.fr hf (rfoot_not h.ms h.de h.mc (by decide) (by decide) (by decide))⟩
theorem RdA.below {w w' : World} {p : Pl} {mb eb : Nat} {m : Ms} {d : De} (h : RdA w p mb eb m d) (hb : Below w.heap.size w w') : RdA w' p mb eb m d := ⟨h.ms.below hb, h.de.below hb, h.mc.below hb h.mc.lt⟩
theorem RdA.drew {w : World} {p : Pl} {mb eb : Nat} {m : Ms} {d : De} (h : RdA w p mb eb m d) : RdA w.drew p mb eb m d := ⟨h.ms.drew, h.de.drew, h.mc⟩
theorem RdA.keep {w w' : World} {p : Pl} {mb eb : Nat} {m : Ms} {d : De} (h : RdA w p mb eb m d) (hk : ∀ xb T cs, Bk w xb T cs → 5 ≠ T → Bk w' xb T cs) : RdA w' p mb eb m d :=
 ⟨⟨hk _ _ _ h.ms.ks (by decide), hk _ _ _ h.ms.kn (by decide), ⟨hk _ _ _ h.ms.bt.st (by decide), hk _ _ _ h.ms.bt.nd (by decide)⟩, ⟨hk _ _ _ h.ms.ln.1 (by decide), hk _ _ _ h.ms.ln.2 (by decide)⟩, ⟨hk _ _ _ h.ms.dn.1 (by decide), hk _ _ _ h.ms.dn.2 (by decide)⟩, h.ms.a1, h.ms.a2, h.ms.a3, h.ms.a4, h.ms.a5, h.ms.a6⟩,
  hk _ _ _ h.de (by decide), hk _ _ _ h.mc (by decide)⟩
theorem RdA.row {w w' : World} {p : Pl} {mb eb : Nat} {m : Ms} {d : De} (h : RdA w p mb eb m d) (hf : Fr (rfoot p eb) w w') {B n : Nat} {v : Value} {xs : List Value} (hr : w.ownsRow B 5 1 v n xs) : w'.ownsRow B 5 1 v n xs :=
 own_fr hr hf (fun g hg hs => by
  rcases hs with hs | hs | hs | hs | hs | hs
  ·exact own_apart hr h.ms.kn (by decide) (hs ▸ hg)
  ·exact own_apart hr h.ms.bt.st (by decide) (hs ▸ hg)
  ·exact own_apart hr h.ms.bt.nd (by decide) (hs ▸ hg)
  ·exact own_apart hr h.ms.ln.2 (by decide) (hs ▸ hg)
  ·exact own_apart hr h.ms.dn.2 (by decide) (hs ▸ hg)
  ·exact own_apart hr h.de (by decide) (hs ▸ hg))
theorem rnew {B : Nat} {p : Pl} {eb : Nat} {w wr w' : World} (hp : PlB B p) (he : B ≤ eb) (hb : Below B w wr) (hB : B ≤ wr.heap.size) (hf : Fr (rfoot p eb) wr w') : Below B w w' :=
 hb.trans (hf.toBelow' hB (fun k hk hs => by
  rcases hs with hs | hs | hs | hs | hs | hs
  ·have := hp.kg; omega
  ·have := hp.bb; omega
  ·have := hp.bg; omega
  ·have := hp.lg; omega
  ·have := hp.dg; omega
  ·omega))
theorem dfoot_r {p : Pl} {eb g : Nat} (hg : g = p.kg ∨ g = p.lg ∨ g = p.dg) : ∀ k, dfoot g eb k → rfoot p eb k := fun k h => by
 rcases h with h | h
 ·rcases hg with e | e | e
  ·exact .inl (h.trans e)
  ·exact .inr (.inr (.inr (.inl (h.trans e))))
  ·exact .inr (.inr (.inr (.inr (.inl (h.trans e)))))
 ·exact .inr (.inr (.inr (.inr (.inr h))))
theorem tdecF0 (n : Nat) (t : List Nat) (d : De) (h : t.length = 2 ^ n) : tdecF n 0 1 t d = tdec n 1 t d := by
 obtain ⟨a, b⟩ := tdecF_eq n 0 1 (2 ^ n) (t := t) (d := d) (by omega) (by omega)
 have e1 : subL 0 (2 ^ n) t = t := by unfold subL; rw [List.drop_zero, ← h, List.take_length]
 rw [e1] at a b
 rw [a]
 unfold putL
 rw [List.take_zero, List.nil_append, Nat.zero_add, b, ← h, List.drop_length, List.append_nil]
theorem kdec_ok {m : Ms} {d : De} (h : MOk m) (hv : DV 0 d) : MOk (kdec m d).2.1 ∧ DV 0 (kdec m d).2.2 := by
 obtain ⟨a, b, c, _, _⟩ := tdec_v 1 1 m.kind d h.k.1 (by rw [h.k.2]; decide) hv
 exact ⟨⟨⟨a, b.trans h.k.2⟩, h.bl, h.b, h.l, h.d⟩, c⟩
theorem bdec_ok {m : Ms} {d : De} (h : MOk m) (hv : DV 0 d) : MOk (bdec m d).2.1 ∧ DV 0 (bdec m d).2.2 := by
 obtain ⟨t1, t2⟩ := btree_ok h
 obtain ⟨a, b, c, _, _⟩ := tdec_v 8 1 (btree m) d t1 (by rw [t2]; decide) hv
 exact ⟨⟨h.k, by show (List.set _ _ _).length = 8; rw [List.length_set]; exact h.bl, set_tree h ⟨a, b.trans t2⟩ _, h.l, h.d⟩, c⟩
theorem ldec_ok {m : Ms} {d : De} (h : MOk m) (hv : DV 0 d) : MOk (ldec m d).2.1 ∧ DV 0 (ldec m d).2.2 := by
 obtain ⟨a, b⟩ := ndec_v h.l hv
 exact ⟨⟨h.k, h.bl, h.b, a, h.d⟩, b⟩
theorem ddec_ok {m : Ms} {d : De} (h : MOk m) (hv : DV 0 d) : MOk (ddec m d).2.1 ∧ DV 0 (ddec m d).2.2 := by
 obtain ⟨a, b⟩ := ndec_v h.d hv
 exact ⟨⟨h.k, h.bl, h.b, h.l, a⟩, b⟩
section
variable {w : World} {p : Pl} {mb eb : Nat} {m : Ms} {d : De}
theorem rkind_any (h : RdA w p mb eb m d) (hm : MOk m) (hv : DV 0 d) :
  Calls Tryz.prog 131 #[.pointer (some ⟨p.kb, 0, none⟩), .pointer (some ⟨eb, 0, none⟩)] w fun r w' => r = .returned (.int .i64 ((kdec m d).1 : Nat)) ∧ RdA w' p mb eb (kdec m d).2.1 (kdec m d).2.2 ∧ Fr (rfoot p eb) w w' := by
 refine (gtdec_any h.ms.kind (by omega) (by rw [hm.k.2]; decide) (by rw [hm.k.2]; decide) hm.k.1 h.de (Bk.apart h.ms.ks h.de (by decide)) hv).mono ?_
 rintro r w1 ⟨rfl, ht, hd, hf⟩
 rw [tdecF0 1 _ _ hm.k.2] at ht hd
 rw [tdecF0 1 _ _ hm.k.2]
 have hf2 := hf.mono (dfoot_r (p := p) (.inl rfl))
 exact ⟨rfl, h.next hf2 (h.ms.setK hf (fun k hk => hk) (h.ms.offD h.de) ht.nd) hd, hf2⟩
theorem rbyte_any (h : RdA w p mb eb m d) (hm : MOk m) (hv : DV 0 d) :
  Calls Tryz.prog 132 #[.pointer (some ⟨p.bb, 0, none⟩), .pointer (some ⟨eb, 0, none⟩)] w fun r w' => r = .returned (.int .u8 (((bdec m d).1.toNat : Nat) : Int)) ∧ RdA w' p mb eb (bdec m d).2.1 (bdec m d).2.2 ∧ Fr (rfoot p eb) w w' := by
 refine (gbdec_any h.ms.bt hm.b hm.bl h.de hv).mono ?_
 rintro r w1 ⟨rfl, ht, hd, hf⟩
 have hf2 : Fr (rfoot p eb) w w1 := hf.mono (fun k hk => by
  rcases hk with h | h | h
  ·exact .inr (.inl h)
  ·exact .inr (.inr (.inl h))
  ·exact .inr (.inr (.inr (.inr (.inr h)))))
 exact ⟨rfl, h.next hf2 (h.ms.setB hf (fun k hk => hk) (h.ms.offD h.de) ht) hd, hf2⟩
theorem rlen_any (h : RdA w p mb eb m d) (hm : MOk m) (hv : DV 0 d) :
  Calls Tryz.prog 133 #[.pointer (some ⟨p.lb, 0, none⟩), .pointer (some ⟨eb, 0, none⟩)] w fun r w' => r = .returned (.int .i64 (ldec m d).1) ∧ RdA w' p mb eb (ldec m d).2.1 (ldec m d).2.2 ∧ Fr (rfoot p eb) w w' := by
 refine (ndec_any h.ms.ln hm.l h.de hv).mono ?_
 rintro r w1 ⟨rfl, ht, hd, hf⟩
 have hf2 := hf.mono (dfoot_r (p := p) (.inr (.inl rfl)))
 exact ⟨rfl, h.next hf2 (h.ms.setL hf (fun k hk => hk) (h.ms.offD h.de) ht) hd, hf2⟩
theorem rdist_any (h : RdA w p mb eb m d) (hm : MOk m) (hv : DV 0 d) :
  Calls Tryz.prog 133 #[.pointer (some ⟨p.db, 0, none⟩), .pointer (some ⟨eb, 0, none⟩)] w fun r w' => r = .returned (.int .i64 (ddec m d).1) ∧ RdA w' p mb eb (ddec m d).2.1 (ddec m d).2.2 ∧ Fr (rfoot p eb) w w' := by
 refine (ndec_any h.ms.dn hm.d h.de hv).mono ?_
 rintro r w1 ⟨rfl, ht, hd, hf⟩
 have hf2 := hf.mono (dfoot_r (p := p) (.inr (.inr rfl)))
 exact ⟨rfl, h.next hf2 (h.ms.setD hf (fun k hk => hk) (h.ms.offD h.de) ht) hd, hf2⟩
theorem RdA.cells (h : RdA w p mb eb m d) : w.cell? ⟨mb, 0, none⟩ = some (.pointer (some ⟨p.kb, 0, none⟩)) ∧ w.cell? ⟨mb, 1, none⟩ = some (.pointer (some ⟨p.bb, 0, none⟩)) ∧ w.cell? ⟨mb, 2, none⟩ = some (.pointer (some ⟨p.lb, 0, none⟩)) ∧ w.cell? ⟨mb, 3, none⟩ = some (.pointer (some ⟨p.db, 0, none⟩)) :=
 ⟨h.mc.cell 0, h.mc.cell 1, h.mc.cell 2, h.mc.cell 3⟩
end
theorem copyN_step (d n : Nat) (o : List UInt8) : copyN d (n + 1) o = copyN d n (o ++ [o.getD (o.length - d) 0]) := rfl
theorem bv_snoc (o : List UInt8) (c : UInt8) : o.map bv ++ [.int .u8 (c.toNat : Int)] = (o ++ [c]).map bv := by simp [bv]
end Go.Proofs.YtjfcemlbbinanaaGreatDoor
