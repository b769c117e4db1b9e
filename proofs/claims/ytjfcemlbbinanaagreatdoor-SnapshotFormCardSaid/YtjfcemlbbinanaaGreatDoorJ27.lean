/-
  Joined texts: LO, LP, LU.
-/
import Derived.Test.YtjfcemlbbinanaaGreatDoorJ26
import Derived.Test.YtjfcemlbbinanaaGreatDoorJ18
import Derived.Test.YtjfcemlbbinanaaGreatDoorJ13
set_option linter.unusedVariables false
set_option linter.unusedSimpArgs false
/-
  The models of pieces in memory.
-/
namespace Go.Proofs.YtjfcemlbbinanaaGreatDoor
open Go.RowKit Go.Proofs Wv Wv.Vi Wv.Rc Wv.Mo Wv.Lz
set_option linter.unusedVariables false
structure Pl where
 kb : Nat
 kg : Nat
 bb : Nat
 bg : Nat
 lb : Nat
 lg : Nat
 db : Nat
 dg : Nat
structure MsA (w : World) (p : Pl) (m : Ms) : Prop where
 ks : Bk w p.kb 131 #[.int .i64 1, .slice (some ⟨p.kg, 0, none⟩) 2 2]
 kn : Bk w p.kg 3 (nc m.kind)
 bt : BtA w p.bb p.bg m.bytes.flatten m.last
 ln : NAt w p.lb p.lg m.len
 dn : NAt w p.db p.dg m.dist
 a1 : p.kg ≠ p.bg
 a2 : p.kg ≠ p.lg
 a3 : p.kg ≠ p.dg
 a4 : p.bg ≠ p.lg
 a5 : p.bg ≠ p.dg
 a6 : p.lg ≠ p.dg
structure Off (T : Nat → Prop) (p : Pl) : Prop where
 kb : ¬ T p.kb
 kg : ¬ T p.kg
 bb : ¬ T p.bb
 bg : ¬ T p.bg
 lb : ¬ T p.lb
 lg : ¬ T p.lg
 db : ¬ T p.db
 dg : ¬ T p.dg
theorem foot_off {w : World} {eb b : Nat} {dv : Value} {e : En} {t : TypeId} {cs : Array Value} (he : EnAt w eb dv e) (h : Bk w b t cs) (h1 : t ≠ 128) (h2 : 5 ≠ t) : ¬ foot eb dv b := fun hs => by
 rcases hs with hs | hs
 ·exact Bk.apart h he.1 h1 hs
 ·exact own_apart he.2 h h2 hs
theorem MsA.offE {w : World} {p : Pl} {m : Ms} (h : MsA w p m) {eb : Nat} {dv : Value} {e : En} (he : EnAt w eb dv e) : Off (foot eb dv) p :=
 ⟨foot_off he h.ks (by decide) (by decide), en_nodes he h.kn, (h.bt.foot he).1, (h.bt.foot he).2, (h.ln.foot he).1, (h.ln.foot he).2, (h.dn.foot he).1, (h.dn.foot he).2⟩
theorem MsA.offD {w : World} {p : Pl} {m : Ms} (h : MsA w p m) {eb : Nat} {d : De} (he : DAt w eb d) : Off (only eb) p :=
 ⟨Bk.apart h.ks he (by decide), Bk.apart h.kn he (by decide), Bk.apart h.bt.st he (by decide), Bk.apart h.bt.nd he (by decide), (h.ln.onl he).1, (h.ln.onl he).2, (h.dn.onl he).1, (h.dn.onl he).2⟩
theorem MsA.kind {w : World} {p : Pl} {m : Ms} (h : MsA w p m) : TrA w p.kb 0 p.kg 0 1 m.kind :=
 ⟨h.ks.cell 0, h.ks.cell 1, h.kn, Bk.apart h.ks h.kn (by decide), h.ks.lt⟩
theorem MsA.fr {S : Nat → Prop} {w w' : World} {p : Pl} {m : Ms} (h : MsA w p m) (hf : Fr S w w') (ho : Off S p) : MsA w' p m :=
 ⟨h.ks.fr hf ho.kb, h.kn.fr hf ho.kg, h.bt.fr hf ho.bb ho.bg, h.ln.fr hf ho.lb ho.lg, h.dn.fr hf ho.db ho.dg, h.a1, h.a2, h.a3, h.a4, h.a5, h.a6⟩
theorem MsA.below {w w' : World} {p : Pl} {m : Ms} (h : MsA w p m) (hb : Below w.heap.size w w') : MsA w' p m :=
 ⟨h.ks.below hb h.ks.lt, h.kn.below hb h.kn.lt, h.bt.below hb, h.ln.below hb, h.dn.below hb, h.a1, h.a2, h.a3, h.a4, h.a5, h.a6⟩
theorem MsA.drew {w : World} {p : Pl} {m : Ms} (h : MsA w p m) : MsA w.drew p m :=
 ⟨h.ks, h.kn, h.bt.drew, h.ln.drew, h.dn.drew, h.a1, h.a2, h.a3, h.a4, h.a5, h.a6⟩
theorem MsA.setK {S T : Nat → Prop} {w w' : World} {p : Pl} {m : Ms} (h : MsA w p m) (hf : Fr S w w') (hS : ∀ k, S k → k = p.kg ∨ T k) (ho : Off T p) {t : List Nat} (hk : Bk w' p.kg 3 (nc t)) : MsA w' p { m with kind := t } := by
 have key : ∀ k, k ≠ p.kg → ¬ T k → ¬ S k := fun k h1 h2 h3 => by rcases hS k h3 with h | h; exact h1 h; exact h2 h
 exact ⟨h.ks.fr hf (key _ (Bk.apart h.ks h.kn (by decide)) ho.kb), hk, h.bt.fr hf (key _ (Bk.apart h.bt.st h.kn (by decide)) ho.bb) (key _ (Ne.symm h.a1) ho.bg), h.ln.fr hf (key _ (Bk.apart h.ln.1 h.kn (by decide)) ho.lb) (key _ (Ne.symm h.a2) ho.lg),
  h.dn.fr hf (key _ (Bk.apart h.dn.1 h.kn (by decide)) ho.db) (key _ (Ne.symm h.a3) ho.dg), h.a1, h.a2, h.a3, h.a4, h.a5, h.a6⟩
theorem MsA.setB {S T : Nat → Prop} {w w' : World} {p : Pl} {m : Ms} (h : MsA w p m) (hf : Fr S w w') (hS : ∀ k, S k → k = p.bb ∨ k = p.bg ∨ T k) (ho : Off T p) {ts : List (List Nat)} {c : UInt8} (hk : BtA w' p.bb p.bg ts.flatten c) : MsA w' p { m with bytes := ts, last := c } := by
 have key : ∀ k, k ≠ p.bb → k ≠ p.bg → ¬ T k → ¬ S k := fun k h1 h2 h3 h4 => by rcases hS k h4 with h | h | h; exact h1 h; exact h2 h; exact h3 h
 exact ⟨h.ks.fr hf (key _ (Bk.apart h.ks h.bt.st (by decide)) (Bk.apart h.ks h.bt.nd (by decide)) ho.kb), h.kn.fr hf (key _ (Bk.apart h.kn h.bt.st (by decide)) h.a1 ho.kg), hk,
  h.ln.fr hf (key _ (Bk.apart h.ln.1 h.bt.st (by decide)) (Bk.apart h.ln.1 h.bt.nd (by decide)) ho.lb) (key _ (Bk.apart h.ln.2 h.bt.st (by decide)) (Ne.symm h.a4) ho.lg),
  h.dn.fr hf (key _ (Bk.apart h.dn.1 h.bt.st (by decide)) (Bk.apart h.dn.1 h.bt.nd (by decide)) ho.db) (key _ (Bk.apart h.dn.2 h.bt.st (by decide)) (Ne.symm h.a5) ho.dg), h.a1, h.a2, h.a3, h.a4, h.a5, h.a6⟩
theorem MsA.setL {S T : Nat → Prop} {w w' : World} {p : Pl} {m : Ms} (h : MsA w p m) (hf : Fr S w w') (hS : ∀ k, S k → k = p.lg ∨ T k) (ho : Off T p) {t : List Nat} (hk : NAt w' p.lb p.lg t) : MsA w' p { m with len := t } := by
 have key : ∀ k, k ≠ p.lg → ¬ T k → ¬ S k := fun k h1 h2 h3 => by rcases hS k h3 with h | h; exact h1 h; exact h2 h
 exact ⟨h.ks.fr hf (key _ (Bk.apart h.ks h.ln.2 (by decide)) ho.kb), h.kn.fr hf (key _ h.a2 ho.kg), h.bt.fr hf (key _ (Bk.apart h.bt.st h.ln.2 (by decide)) ho.bb) (key _ h.a4 ho.bg), hk,
  h.dn.fr hf (key _ (Bk.apart h.dn.1 h.ln.2 (by decide)) ho.db) (key _ (Ne.symm h.a6) ho.dg), h.a1, h.a2, h.a3, h.a4, h.a5, h.a6⟩
theorem MsA.setD {S T : Nat → Prop} {w w' : World} {p : Pl} {m : Ms} (h : MsA w p m) (hf : Fr S w w') (hS : ∀ k, S k → k = p.dg ∨ T k) (ho : Off T p) {t : List Nat} (hk : NAt w' p.db p.dg t) : MsA w' p { m with dist := t } := by
 have key : ∀ k, k ≠ p.dg → ¬ T k → ¬ S k := fun k h1 h2 h3 => by rcases hS k h3 with h | h; exact h1 h; exact h2 h
 exact ⟨h.ks.fr hf (key _ (Bk.apart h.ks h.dn.2 (by decide)) ho.kb), h.kn.fr hf (key _ h.a3 ho.kg), h.bt.fr hf (key _ (Bk.apart h.bt.st h.dn.2 (by decide)) ho.bb) (key _ h.a5 ho.bg), h.ln.fr hf (key _ (Bk.apart h.ln.1 h.dn.2 (by decide)) ho.lb) (key _ h.a6 ho.lg), hk, h.a1, h.a2, h.a3, h.a4, h.a5, h.a6⟩
structure PlB (B : Nat) (p : Pl) : Prop where
 kb : B ≤ p.kb
 kg : B ≤ p.kg
 bb : B ≤ p.bb
 bg : B ≤ p.bg
 lb : B ≤ p.lb
 lg : B ≤ p.lg
 db : B ≤ p.db
 dg : B ≤ p.dg
def setC (p : Pl) : Array Value := #[.pointer (some ⟨p.kb, 0, none⟩), .pointer (some ⟨p.bb, 0, none⟩), .pointer (some ⟨p.lb, 0, none⟩), .pointer (some ⟨p.db, 0, none⟩)]
set_option maxRecDepth 100000 in
set_option maxHeartbeats 2000000 in
theorem newset_any (w : World) :
  Calls Tryz.prog 56 #[] w fun x w' => ∃ p, x = .returned (.agg (setC p)) ∧ MsA w' p m0 ∧ PlB w.heap.size p ∧ Below w.heap.size w w' := by
 have Ht := hide (fun W => newtree_any W)
 have Hb := hide (fun W => newbytes_any W)
 have Hn := hide (fun W => nnew_any W)
 have hB0 := hide ((Below.refl w.heap.size w).alloc (Nat.le_refl _) (.cells #[.pointer none, .pointer none, .pointer none, .pointer none] 97))
 have hK0 := hide (Bk.new w 97 #[.pointer none, .pointer none, .pointer none, .pointer none])
 go_enter Tryz.func56, Tryz.ntmps56
 go_wp2_with fail
 refine (Ht.out _).mono ?_
 rintro x w1 ⟨rfl, k1, k2, b1⟩
 go_wp2_with fail
 refine (Hb.out _).mono ?_
 rintro x w2 ⟨bb, rfl, hbb, k3, b2⟩
 go_wp2_with fail
 refine (Hn.out _).mono ?_
 rintro x w3 ⟨lb, rfl, hlb, k4, b3⟩
 go_wp2_with fail
 refine (Hn.out _).mono ?_
 rintro x w4 ⟨db, rfl, hdb, k5, b4⟩
 have e1 : (w.alloc (.cells #[.pointer none, .pointer none, .pointer none, .pointer none] 97)).heap.size = w.heap.size + 1 := World.size_alloc _ _
 have s1 := b1.size
 have s2 := b2.size
 have s3 := b3.size
 have s4 := b4.size
 rw [e1] at s1
 have l1 := k1.lt
 have l2 := k2.lt
 have l3 := k3.nd.lt
 have l4 := k4.2.lt
 rw [e1] at k1 k2 l1 l2
 have c1 : Below w1.heap.size w1 w4 := (b2.trans (b3.mono s2)).trans (b4.mono (by omega))
 have c2 : Below w2.heap.size w2 w4 := b3.trans (b4.mono s3)
 have hK4 := (((hK0.out.below b1 (by omega)).below b2 (by omega)).below b3 (by omega)).below b4 (by omega)
 have hB4 : Below w.heap.size w w4 := (hB0.out.trans (b1.mono (by omega))).trans (c1.mono (by omega))
 have q0 := hK4.cell 0
 have q1 := hK4.cell 1
 have q2 := hK4.cell 2
 have q3 := hK4.cell 3
 have f0 := hK4.frozen 0
 have f1 := hK4.frozen 1
 have f2 := hK4.frozen 2
 have f3 := hK4.frozen 3
 simp at q0 q1 q2 q3
 have hF := (((hK4.put 0 (.pointer (some ⟨w.heap.size + 1 + 1, 0, none⟩))).put 1 (.pointer (some ⟨bb, 0, none⟩))).put 2 (.pointer (some ⟨lb, 0, none⟩))).put 3 (.pointer (some ⟨db, 0, none⟩))
 have z0 := hF.cell 0
 have z1 := hF.cell 1
 have z2 := hF.cell 2
 have z3 := hF.cell 3
 simp at z0 z1 z2 z3
 have hBF := hide ((((hB4.setCell (p := ⟨w.heap.size, 0, none⟩) (Nat.le_refl _) (.pointer (some ⟨w.heap.size + 1 + 1, 0, none⟩))).setCell (p := ⟨w.heap.size, 1, none⟩) (Nat.le_refl _) (.pointer (some ⟨bb, 0, none⟩))).setCell (p := ⟨w.heap.size, 2, none⟩) (Nat.le_refl _) (.pointer (some ⟨lb, 0, none⟩))).setCell (p := ⟨w.heap.size, 3, none⟩) (Nat.le_refl _) (.pointer (some ⟨db, 0, none⟩)))
 have hms : MsA w4 ⟨w.heap.size + 1 + 1, w.heap.size + 1, bb, w1.heap.size, lb, w2.heap.size, db, w3.heap.size⟩ m0 :=
  ⟨k2.below c1 l2, k1.below c1 l1, (show BtA w2 bb w1.heap.size m0.bytes.flatten 0 from by rw [show m0.bytes.flatten = List.replicate 2048 1024 from flat_tr0]; exact k3).below c2, k4.below b4, k5, by simp only; omega, by simp only; omega, by simp only; omega, by simp only; omega, by simp only; omega, by simp only; omega⟩
 have hms2 := hms.fr (((((Fr.refl (only w.heap.size) w4).setCell (p := ⟨w.heap.size, 0, none⟩) (.inl rfl) (.pointer (some ⟨w.heap.size + 1 + 1, 0, none⟩))).setCell (p := ⟨w.heap.size, 1, none⟩) (.inl rfl) (.pointer (some ⟨bb, 0, none⟩))).setCell (p := ⟨w.heap.size, 2, none⟩) (.inl rfl) (.pointer (some ⟨lb, 0, none⟩))).setCell (p := ⟨w.heap.size, 3, none⟩) (.inl rfl) (.pointer (some ⟨db, 0, none⟩)))
  (by constructor <;> simp only [only] <;> omega)
 have Hms := hide hms2
 have hpb : Hid (PlB w.heap.size ⟨w.heap.size + 1 + 1, w.heap.size + 1, bb, w1.heap.size, lb, w2.heap.size, db, w3.heap.size⟩) := hide (by constructor <;> simp only <;> omega)
 clear hms hms2 hF hK4 hB4 k1 k2 k3 k4 k5 b1 b2 b3 b4 c1 c2 l1 l2 l3 l4 s1 s2 s3 s4 hbb hlb hdb hK0 hB0 Ht Hb Hn e1
 go_wp2_with fail
 refine bodyPost_ret (v := .agg #[.pointer (some ⟨w.heap.size + 1 + 1, 0, none⟩), .pointer (some ⟨bb, 0, none⟩), .pointer (some ⟨lb, 0, none⟩), .pointer (some ⟨db, 0, none⟩)]) (by simp [results, Tryz.results56, go_sem, z0, z1, z2, z3]; try rfl) rfl ?_
 exact ⟨_, rfl, Hms.out, hpb.out, hBF.out⟩
end Go.Proofs.YtjfcemlbbinanaaGreatDoor
/-
  The walks over the compression: a piece is written.
-/
namespace Go.Proofs.YtjfcemlbbinanaaGreatDoor
open Go.RowKit Go.Proofs Wv Wv.Vi Wv.Rc Wv.Mo Wv.Lz
set_option linter.unusedVariables false
def pcC (t : Pc) : Array Value := #[.int .i64 (t.len : Int), .int .i64 (t.dist : Int), .int .u8 (t.byte.toNat : Int)]
structure WrSt (w : World) (p : Pl) (mb cb eb : Nat) (dv : Value) (x : Ms × En) : Prop where
 ms : MsA w p x.1
 en : EnAt w eb dv x.2
 mc : Bk w mb 97 (setC p)
 cc : Bk w cb 99 #[.pointer (some ⟨eb, 0, none⟩)]
def wfoot (p : Pl) (eb : Nat) (dv : Value) : Nat → Prop := fun k => k = p.kg ∨ k = p.bb ∨ k = p.bg ∨ k = p.lg ∨ k = p.dg ∨ foot eb dv k
theorem efoot_w {p : Pl} {eb : Nat} {dv : Value} {g : Nat} (hg : g = p.kg ∨ g = p.lg ∨ g = p.dg) : ∀ k, efoot g eb dv k → wfoot p eb dv k := fun k h => by
 rcases h with h | h
 ·rcases hg with e | e | e
  ·exact .inl (h.trans e)
  ·exact .inr (.inr (.inr (.inl (h.trans e))))
  ·exact .inr (.inr (.inr (.inr (.inl (h.trans e)))))
 ·exact .inr (.inr (.inr (.inr (.inr h))))
theorem bfoot_w {p : Pl} {eb : Nat} {dv : Value} : ∀ k, bfoot p.bb p.bg eb dv k → wfoot p eb dv k := fun k h => by
 rcases h with h | h | h
 ·exact .inr (.inl h)
 ·exact .inr (.inr (.inl h))
 ·exact .inr (.inr (.inr (.inr (.inr h))))
theorem wfr_trans {p : Pl} {eb : Nat} {dv dr : Value} {w w1 w2 : World} (h : Fr (wfoot p eb dv) w w1) (k : Fr (wfoot p eb dr) w1 w2) (ho : OwnNew w dv dr) : Fr (wfoot p eb dv) w w2 :=
 h.trans' k (fun i hi hs => by
  rcases hs with hs | hs | hs | hs | hs | hs | hs
  ·exact .inl hs
  ·exact .inr (.inl hs)
  ·exact .inr (.inr (.inl hs))
  ·exact .inr (.inr (.inr (.inl hs)))
  ·exact .inr (.inr (.inr (.inr (.inl hs))))
  ·exact .inr (.inr (.inr (.inr (.inr (.inl hs)))))
  ·rcases ho with ho | ho
   ·exact .inr (.inr (.inr (.inr (.inr (.inr (ho ▸ hs))))))
   ·have := ho i hs; omega)
theorem wfoot_not {w : World} {p : Pl} {m : Ms} (h : MsA w p m) {eb b : Nat} {dv : Value} {e : En} (he : EnAt w eb dv e) {t : TypeId} {cs : Array Value} (hb : Bk w b t cs) (h1 : t ≠ 128) (h2 : 5 ≠ t) (h3 : t ≠ 3) (h4 : t ≠ 136) : ¬ wfoot p eb dv b := fun hs => by
 rcases hs with hs | hs | hs | hs | hs | hs
 ·exact Bk.apart hb h.kn h3 hs
 ·exact Bk.apart hb h.bt.st h4 hs
 ·exact Bk.apart hb h.bt.nd h3 hs
 ·exact Bk.apart hb h.ln.2 h3 hs
 ·exact Bk.apart hb h.dn.2 h3 hs
 ·exact foot_off he hb h1 h2 hs
theorem WrSt.mk_next {w w' : World} {p : Pl} {mb cb eb : Nat} {dv dv' : Value} {x y : Ms × En} (h : WrSt w p mb cb eb dv x) (hf : Fr (wfoot p eb dv) w w') (hm : MsA w' p y.1) (he : EnAt w' eb dv' y.2) : WrSt w' p mb cb eb dv' y :=
 ⟨hm, he, h.mc.fr hf (wfoot_not h.ms h.en h.mc (by decide) (by decide) (by decide) (by decide)), h.cc.fr hf (wfoot_not h.ms h.en h.cc (by decide) (by decide) (by decide) (by decide))⟩
theorem WrSt.below {w w' : World} {p : Pl} {mb cb eb : Nat} {dv : Value} {x : Ms × En} (h : WrSt w p mb cb eb dv x) (hb : Below w.heap.size w w') : WrSt w' p mb cb eb dv x :=
 ⟨h.ms.below hb, h.en.below hb, h.mc.below hb h.mc.lt, h.cc.below hb h.cc.lt⟩
section
variable {w : World} {p : Pl} {mb cb eb : Nat} {dv : Value} {x : Ms × En}
theorem tencF0 (n v : Nat) (t : List Nat) (e : En) (h : t.length = 2 ^ n) : tencF n 0 v 1 t e = tenc n v 1 t e := by
 obtain ⟨a, b⟩ := tencF_eq n 0 v 1 (2 ^ n) (t := t) (e := e) (by omega) (by omega)
 have e1 : subL 0 (2 ^ n) t = t := by unfold subL; rw [List.drop_zero, ← h, List.take_length]
 rw [e1] at a b
 rw [a]
 unfold putL
 rw [List.take_zero, List.nil_append, Nat.zero_add, b, ← h, List.drop_length, List.append_nil]
theorem wkind_any (h : WrSt w p mb cb eb dv x) (hm : MOk x.1) (hv : Val 0 x.2) (b : Nat) (hb : b < 2) (hl : x.2.out.length ≤ 800000) :
  Calls Tryz.prog 59 #[.pointer (some ⟨p.kb, 0, none⟩), .pointer (some ⟨eb, 0, none⟩), .int .i64 (b : Int)] w fun r w' => r = .returned (.tuple #[]) ∧ ∃ dv', WrSt w' p mb cb eb dv' (kenc b x) ∧ Fr (wfoot p eb dv) w w' ∧ OwnNew w dv dv' := by
 have ho := h.ms.offE h.en
 refine (gtenc_any h.ms.kind (by omega) (by rw [hm.k.2]; decide) (by rw [hm.k.2]; decide) hm.k.1 h.en ho.kb hv b (by omega) hl).mono ?_
 rintro r w1 ⟨rfl, ht, dv1, he1, hf1, ho1⟩
 rw [tencF0 1 b _ _ hm.k.2] at ht he1
 have hf2 := hf1.mono (efoot_w (p := p) (.inl rfl))
 exact ⟨rfl, dv1, h.mk_next hf2 (h.ms.setK hf1 (fun k hk => hk) ho ht.nd) he1, hf2, ho1⟩
theorem wbyte_any (h : WrSt w p mb cb eb dv x) (hm : MOk x.1) (hv : Val 0 x.2) (c : UInt8) (hl : x.2.out.length ≤ 800000) :
  Calls Tryz.prog 60 #[.pointer (some ⟨p.bb, 0, none⟩), .pointer (some ⟨eb, 0, none⟩), .int .u8 (c.toNat : Int)] w fun r w' => r = .returned (.tuple #[]) ∧ ∃ dv', WrSt w' p mb cb eb dv' (benc c x) ∧ Fr (wfoot p eb dv) w w' ∧ OwnNew w dv dv' := by
 have ho := h.ms.offE h.en
 refine (gbenc_any h.ms.bt hm.b hm.bl h.en hv c hl).mono ?_
 rintro r w1 ⟨rfl, ht, dv1, he1, hf1, ho1⟩
 have hf2 := hf1.mono (bfoot_w (p := p))
 exact ⟨rfl, dv1, h.mk_next hf2 (h.ms.setB hf1 (fun k hk => hk) ho ht) he1, hf2, ho1⟩
theorem wlen_any (h : WrSt w p mb cb eb dv x) (hm : MOk x.1) (hv : Val 0 x.2) (v : Nat) (hv62 : v < 4611686018427387904) (hl : x.2.out.length ≤ 800000) :
  Calls Tryz.prog 61 #[.pointer (some ⟨p.lb, 0, none⟩), .pointer (some ⟨eb, 0, none⟩), .int .i64 (v : Int)] w fun r w' => r = .returned (.tuple #[]) ∧ ∃ dv', WrSt w' p mb cb eb dv' (lenc v x) ∧ Fr (wfoot p eb dv) w w' ∧ OwnNew w dv dv' := by
 have ho := h.ms.offE h.en
 refine (nenc_any h.ms.ln hm.l h.en hv v hv62 hl).mono ?_
 rintro r w1 ⟨rfl, ht, dv1, he1, hf1, ho1⟩
 have hf2 := hf1.mono (efoot_w (p := p) (.inr (.inl rfl)))
 exact ⟨rfl, dv1, h.mk_next hf2 (h.ms.setL hf1 (fun k hk => hk) ho ht) he1, hf2, ho1⟩
theorem wdist_any (h : WrSt w p mb cb eb dv x) (hm : MOk x.1) (hv : Val 0 x.2) (v : Nat) (hv62 : v < 4611686018427387904) (hl : x.2.out.length ≤ 800000) :
  Calls Tryz.prog 61 #[.pointer (some ⟨p.db, 0, none⟩), .pointer (some ⟨eb, 0, none⟩), .int .i64 (v : Int)] w fun r w' => r = .returned (.tuple #[]) ∧ ∃ dv', WrSt w' p mb cb eb dv' (denc v x) ∧ Fr (wfoot p eb dv) w w' ∧ OwnNew w dv dv' := by
 have ho := h.ms.offE h.en
 refine (nenc_any h.ms.dn hm.d h.en hv v hv62 hl).mono ?_
 rintro r w1 ⟨rfl, ht, dv1, he1, hf1, ho1⟩
 have hf2 := hf1.mono (efoot_w (p := p) (.inr (.inr rfl)))
 exact ⟨rfl, dv1, h.mk_next hf2 (h.ms.setD hf1 (fun k hk => hk) ho ht) he1, hf2, ho1⟩
end
theorem kenc_len (b : Nat) (x : Ms × En) : (kenc b x).2.out.length ≤ x.2.out.length + 2 := tenc_len b 1 1 x.1.kind x.2
theorem benc_len (c : UInt8) (x : Ms × En) : (benc c x).2.out.length ≤ x.2.out.length + 16 := tenc_len c.toNat 8 1 (btree x.1) x.2
theorem lenc_len {v : Nat} (hv : v < 4611686018427387904) (x : Ms × En) : (lenc v x).2.out.length ≤ x.2.out.length + 134 := nenc_len v hv (x.1.len, x.2)
theorem denc_len {v : Nat} (hv : v < 4611686018427387904) (x : Ms × En) : (denc v x).2.out.length ≤ x.2.out.length + 134 := nenc_len v hv (x.1.dist, x.2)
theorem penc_len {t : Pc} (h1 : t.len ≤ 1000000) (h2 : t.dist ≤ 1000000) (h3 : t.dist = 0 ∧ 1 ≤ t.len ∨ 2 ≤ t.len) (x : Ms × En) : (penc t x).2.out.length ≤ x.2.out.length + 135 * t.len := by
 unfold penc
 split
 ·have a := kenc_len 0 x
  have b := benc_len t.byte (kenc 0 x)
  omega
 ·have a := kenc_len 1 x
  have b := lenc_len (v := t.len - 2) (by omega) (kenc 1 x)
  have c := denc_len (v := t.dist - 1) (by omega) (lenc (t.len - 2) (kenc 1 x))
  omega
set_option maxRecDepth 100000 in
set_option maxHeartbeats 2000000 in
theorem lzwrite_any {w : World} {p : Pl} {mb cb eb : Nat} {dv : Value} {x : Ms × En} (h : WrSt w p mb cb eb dv x) (hm : MOk x.1) (hv : Val 0 x.2) (t : Pc) (h1 : t.len ≤ 1000000) (h2 : t.dist ≤ 1000000) (h3 : t.dist = 0 ∧ 1 ≤ t.len ∨ 1 ≤ t.dist ∧ 2 ≤ t.len) (hl : x.2.out.length ≤ 700000) :
  Calls Tryz.prog 58 #[.agg (pcC t), .pointer (some ⟨mb, 0, none⟩), .pointer (some ⟨cb, 0, none⟩)] w fun r w' => r = .returned (.tuple #[]) ∧ ∃ dv', WrSt w' p mb cb eb dv' (penc t x) ∧ Fr (wfoot p eb dv) w w' ∧ OwnNew w dv dv' := by
 have hN := hide (fun (o : Obj) => h.below ((Below.refl w.heap.size w).alloc (Nat.le_refl _) o))
 obtain ⟨tl, td, tb⟩ := t
 simp only at h1 h2 h3
 unfold pcC
 simp only
 have hS : Hid (∀ (W : World) (d : Value) (y : Ms × En), WrSt W p mb cb eb d y → W.cell? ⟨mb, 0, none⟩ = some (.pointer (some ⟨p.kb, 0, none⟩)) ∧ W.cell? ⟨mb, 1, none⟩ = some (.pointer (some ⟨p.bb, 0, none⟩)) ∧ W.cell? ⟨mb, 2, none⟩ = some (.pointer (some ⟨p.lb, 0, none⟩)) ∧ W.cell? ⟨mb, 3, none⟩ = some (.pointer (some ⟨p.db, 0, none⟩)) ∧ W.cell? ⟨cb, 0, none⟩ = some (.pointer (some ⟨eb, 0, none⟩))) :=
  hide (fun W d y hy => ⟨hy.mc.cell 0, hy.mc.cell 1, hy.mc.cell 2, hy.mc.cell 3, hy.cc.cell 0⟩)
 have hP : Hid (∀ (W W' : World) (d : Value) (y : Ms × En) (a b c : Value), WrSt W p mb cb eb d y → Fr (wfoot p eb d) W W' → Bk W w.heap.size 102 #[a, b, c] → Bk W' w.heap.size 102 #[a, b, c]) :=
  hide (fun W W' d y a b c hy hf hb => hb.fr hf (wfoot_not hy.ms hy.en hb (by decide) (by decide) (by decide) (by decide)))
 have hA := hide (fun (W' : World) (o : Obj) (d : Value) (hf : Fr (wfoot p eb dv) (w.alloc o) W') (ho : OwnNew (w.alloc o) dv d) => (⟨((Fr.refl (wfoot p eb dv) w).alloc o).trans hf, (OwnNew.refl w dv).trans ho (by simp)⟩ : Fr (wfoot p eb dv) w W' ∧ OwnNew w dv d))
 have hkl0 := kenc_len 0 x
 have hkl1 := kenc_len 1 x
 obtain ⟨kv0, kv0'⟩ := kenc_val (b := 0) hm hv
 obtain ⟨kv1, kv1'⟩ := kenc_val (b := 1) hm hv
 obtain ⟨c0, c1, c2, c3, c4⟩ := hS.out _ _ _ h
 have hmw := h.mc.lt
 have hcw := h.cc.lt
 by_cases hd : td = 0
 ·subst hd
  have hp : penc ⟨tl, 0, tb⟩ x = benc tb (kenc 0 x) := rfl
  rw [hp]
  have Hk := hide (fun (W : World) (hW : WrSt W p mb cb eb dv x) => wkind_any hW hm hv 0 (by omega) (by omega))
  have Hb := hide (fun (W : World) (d : Value) (hW : WrSt W p mb cb eb d (kenc 0 x)) => wbyte_any hW kv0 kv0' tb (by omega))
  generalize kenc 0 x = y at *
  generalize benc tb y = z at *
  obtain ⟨B, hB⟩ : ∃ B, tb.toNat = B := ⟨_, rfl⟩
  rw [hB] at Hb ⊢
  have hbt := hide (Bk.new w 102 #[.int .i64 (tl : Int), .int .i64 ((0 : Nat) : Int), .int .u8 (B : Int)])
  clear hp hB h hm hv kv0 kv0' kv1 kv1' hkl0 hkl1 hl h1 h2 h3
  go_enter Tryz.func58, Tryz.ntmps58
  go_wp2_with fail
  refine (Hk.out _ (hN.out _)).mono ?_
  rintro r w1 ⟨rfl, d1, hw1, hf1, ho1⟩
  have hb1 := hP.out _ _ _ _ _ _ _ (hN.out _) hf1 hbt.out
  obtain ⟨e0, e1, e2, e3, e4⟩ := hS.out _ _ _ hw1
  have t0 := hb1.cell 0
  have t1 := hb1.cell 1
  have t2 := hb1.cell 2
  simp at t0 t1 t2
  obtain ⟨hf1', ho1'⟩ := hA.out _ _ _ hf1 ho1
  have hs1 := hf1'.size
  clear c0 c1 c2 c3 c4 hf1 ho1 hb1
  go_wp2_with fail
  refine (Hb.out _ _ hw1).mono ?_
  rintro r w2 ⟨rfl, d2, hw2, hf2, ho2⟩
  go_wp2
  first | go_end0 | go_returns
  exact ⟨rfl, d2, hw2, wfr_trans hf1' hf2 ho1', ho1'.trans ho2 hs1⟩
 ·have hp : penc ⟨tl, td, tb⟩ x = denc (td - 1) (lenc (tl - 2) (kenc 1 x)) := by unfold penc; rw [if_neg hd]
  rw [hp]
  have hll := lenc_len (v := tl - 2) (by omega) (kenc 1 x)
  obtain ⟨lv, lv'⟩ := lenc_val (v := tl - 2) kv1 kv1'
  have Hk := hide (fun (W : World) (hW : WrSt W p mb cb eb dv x) => wkind_any hW hm hv 1 (by omega) (by omega))
  have Hl := hide (fun (W : World) (d : Value) (hW : WrSt W p mb cb eb d (kenc 1 x)) => wlen_any hW kv1 kv1' (tl - 2) (by omega) (by omega))
  have Hd := hide (fun (W : World) (d : Value) (hW : WrSt W p mb cb eb d (lenc (tl - 2) (kenc 1 x))) => wdist_any hW lv lv' (td - 1) (by omega) (by omega))
  generalize kenc 1 x = y at *
  generalize lenc (tl - 2) y = u at *
  generalize denc (td - 1) u = z at *
  obtain ⟨B, hB⟩ : ∃ B, tb.toNat = B := ⟨_, rfl⟩
  rw [hB]
  have hbt := hide (Bk.new w 102 #[.int .i64 (tl : Int), .int .i64 (td : Int), .int .u8 (B : Int)])
  have i1 : (tl : Int) - 2 = ((tl - 2 : Nat) : Int) := by omega
  have i2 : (td : Int) - 1 = ((td - 1 : Nat) : Int) := by omega
  have hd0 : ((td : Int) == 0) = false := by rw [beq_eq_false_iff_ne]; omega
  obtain ⟨tl2, hl2⟩ : ∃ q, tl - 2 = q := ⟨_, rfl⟩
  obtain ⟨td1, hd1⟩ : ∃ q, td - 1 = q := ⟨_, rfl⟩
  rw [hl2] at Hl i1
  rw [hd1] at Hd i2
  clear hp hB h hm hv kv0 kv0' kv1 kv1' hkl0 hkl1 hl h3 lv lv' hll hd hl2 hd1
  go_enter Tryz.func58, Tryz.ntmps58
  go_wp2_with fail
  refine (Hk.out _ (hN.out _)).mono ?_
  rintro r w1 ⟨rfl, d1, hw1, hf1, ho1⟩
  have hb1 := hP.out _ _ _ _ _ _ _ (hN.out _) hf1 hbt.out
  obtain ⟨e0, e1, e2, e3, e4⟩ := hS.out _ _ _ hw1
  have t0 := hb1.cell 0
  have t1 := hb1.cell 1
  simp at t0 t1
  obtain ⟨hf1', ho1'⟩ := hA.out _ _ _ hf1 ho1
  have hs1 := hf1'.size
  have Hb1 := hide hb1
  clear c0 c1 c2 c3 c4 hf1 ho1 hb1
  go_wp2_with fail
  refine (Hl.out _ _ hw1).mono ?_
  rintro r w2 ⟨rfl, d2, hw2, hf2, ho2⟩
  have hb2 := hP.out _ _ _ _ _ _ _ hw1 hf2 Hb1.out
  obtain ⟨g0, g1, g2, g3, g4⟩ := hS.out _ _ _ hw2
  have v0 := hb2.cell 0
  have v1 := hb2.cell 1
  simp at v0 v1
  have hf2' := wfr_trans hf1' hf2 ho1'
  have ho2' := ho1'.trans ho2 hs1
  have hs2 := hf2'.size
  clear e0 e1 e2 e3 e4 hf2 ho2 hb2 t0 t1 hf1' ho1'
  go_wp2_with fail
  refine (Hd.out _ _ hw2).mono ?_
  rintro r w3 ⟨rfl, d3, hw3, hf3, ho3⟩
  go_wp2
  first | go_end0 | go_returns
  exact ⟨rfl, d3, hw3, wfr_trans hf2' hf3 ho2', ho2'.trans ho3 hs2⟩
end Go.Proofs.YtjfcemlbbinanaaGreatDoor
/-
  The walks over the parse of texts: prices, a piece is tried.
-/
namespace Go.Proofs.YtjfcemlbbinanaaGreatDoor
open Go.RowKit Go.Proofs Wv Wv.Vi Wv.Mo Wv.Lz
set_option linter.unusedVariables false
def costV : Value := .agg #[.int .i64 9, .int .i64 12, .int .i64 1, .int .i64 1]
set_option maxRecDepth 100000 in
set_option maxHeartbeats 2000000 in
theorem lprice_any (t : Pc) (h1 : t.len ≤ 4096) (h2 : t.dist ≤ 4096) (w : World) :
  Calls Tryz.prog 121 #[costV, .agg (pcC t)] w fun x w' => x = .returned (.int .i64 (price t : Nat)) ∧ Below w.heap.size w w' := by
 obtain ⟨tl, td, tb⟩ := t
 simp only at h1 h2
 have hp : price ⟨tl, td, tb⟩ = if td = 0 then 9 else 12 + blen td + blen tl := rfl
 rw [hp]
 unfold pcC costV
 simp only
 have hb0 := hide (((Below.refl w.heap.size w).alloc (Nat.le_refl _) (.cells #[.int .i64 9, .int .i64 12, .int .i64 1, .int .i64 1] 122)).alloc (by simp) (.cells #[.int .i64 (tl : Int), .int .i64 (td : Int), .int .u8 (tb.toNat : Int)] 102))
 generalize (tb.toNat : Int) = B at *
 clear hp
 by_cases hd : td = 0
 ·rw [if_pos hd]
  subst hd
  go_enter Tryz.func121, Tryz.ntmps121
  go_wp2
  go_returns
  exact ⟨rfl, hb0.out⟩
 ·rw [if_neg hd]
  have hd0 : ((td : Int) == 0) = false := by rw [beq_eq_false_iff_ne]; omega
  have Hd := fun W => blen_any td (by omega) W
  have Hl := fun W => blen_any tl (by omega) W
  have wd : (td : Int) = IntKind.u64.wrap (td : Int) := by rw [IntKind.wrap_u64]; omega
  have wl : (tl : Int) = IntKind.u64.wrap (tl : Int) := by rw [IntKind.wrap_u64]; omega
  rw [wd] at Hd
  rw [wl] at Hl
  have Hw : Hid (IntKind.i64.wrap (IntKind.i64.wrap (12 + IntKind.i64.wrap (blen td : Nat)) + IntKind.i64.wrap (blen tl : Nat)) = ((12 + blen td + blen tl : Nat) : Int)) := hide (by
   have b1 := blen_13 h1
   have b2 := blen_13 h2
   simp only [IntKind.wrap_i64]
   omega)
  have b1 := blen_13 h1
  have b2 := blen_13 h2
  have Hd := hide Hd
  have Hl := hide Hl
  generalize blen td = x at *
  generalize blen tl = y at *
  clear wd wl hd
  go_enter Tryz.func121, Tryz.ntmps121
  go_wp2
  go_quiet ((go_at_call 101; first | (with_reducible exact q1 (Hd.out _)) | (with_reducible exact q1 (Hl.out _))))
  go_wp2
  go_returns
  exact ⟨ret_int Hw.out, bdN hb0.out _⟩
def stc (x : St) : List Value := [.int .i64 (x.cost : Int), .int .i64 (x.pcs : Int), .int .i64 (x.first.len : Int), .int .i64 (x.first.dist : Int), .int .u8 (x.first.byte.toNat : Int)]
def stA (L : List St) : Array Value := (L.flatMap stc).toArray
theorem stA_get (L : List St) (k : Nat) (h : k < L.length) : (stA L)[k * 5]? = some (.int .i64 ((L.getD k st0).cost : Int)) ∧ (stA L)[k * 5 + 1]? = some (.int .i64 ((L.getD k st0).pcs : Int)) ∧ (stA L)[k * 5 + 2]? = some (.int .i64 ((L.getD k st0).first.len : Int)) ∧ (stA L)[k * 5 + 3]? = some (.int .i64 ((L.getD k st0).first.dist : Int)) ∧ (stA L)[k * 5 + 4]? = some (.int .u8 ((L.getD k st0).first.byte.toNat : Int)) := by
 unfold stA
 simp only [List.getElem?_toArray]
 induction L generalizing k with
 | nil => simp at h
 | cons x r ih =>
  cases k with
  | zero => exact ⟨rfl, rfl, rfl, rfl, rfl⟩
  | succ k =>
   obtain ⟨a, b, c, d, e⟩ := ih k (by simpa using h)
   have key : ∀ j, ((x :: r).flatMap stc)[(k + 1) * 5 + j]? = (r.flatMap stc)[k * 5 + j]? := fun j => by
    rw [List.flatMap_cons, List.getElem?_append_right (by show 5 ≤ _; omega)]
    congr 1
    show (k + 1) * 5 + j - 5 = _
    omega
   have k0 := key 0
   rw [Nat.add_zero, Nat.add_zero] at k0
   rw [List.getD_cons_succ, k0, key, key, key, key]
   exact ⟨a, b, c, d, e⟩
theorem stA_set (L : List St) (k : Nat) (x : St) (h : k < L.length) : (((((stA L).setIfInBounds (k * 5) (.int .i64 (x.cost : Int))).setIfInBounds (k * 5 + 1) (.int .i64 (x.pcs : Int))).setIfInBounds (k * 5 + 2) (.int .i64 (x.first.len : Int))).setIfInBounds (k * 5 + 3) (.int .i64 (x.first.dist : Int))).setIfInBounds (k * 5 + 4) (.int .u8 (x.first.byte.toNat : Int)) = stA (L.set k x) := by
 apply Array.toList_inj.1
 unfold stA
 simp only [Array.toList_setIfInBounds]
 induction L generalizing k with
 | nil => simp at h
 | cons y r ih =>
  cases k with
  | zero => rfl
  | succ k =>
   have e := ih k (by simpa using h)
   rw [List.set_cons_succ, List.flatMap_cons, List.flatMap_cons, ← e]
   have key : ∀ (l : List Value) (j : Nat) (v : Value), (stc y ++ l).set ((k + 1) * 5 + j) v = stc y ++ l.set (k * 5 + j) v := fun l j v => by
    rw [List.set_append_right _ _ (by show 5 ≤ _; omega)]
    congr 2
    show (k + 1) * 5 + j - 5 = _
    omega
   have k0 := fun l v => key l 0 v
   simp only [Nat.add_zero] at k0
   rw [k0, key, key, key, key]
end Go.Proofs.YtjfcemlbbinanaaGreatDoor
