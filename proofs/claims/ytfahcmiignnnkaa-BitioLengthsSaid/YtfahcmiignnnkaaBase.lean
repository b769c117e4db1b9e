/-
  Frames, blocks and rows of memory: small predicates that the walks over this program use, and their laws. No statement of the seat stands here.
-/
import Derived.Below
import Derived.Laws.OwnMore
import Derived.Deep.AppendLies
import Derived.Deep.Draws
import Derived.Laws.Rows
import Derived.Maps.AppendAt
import Derived.OwnWalk
import Derived.Lib.Hide
import Derived.Laws.IdiomStrings
import Derived.Laws.BytesArg
import Derived.Laws.Bits128
import Derived.Maps.Own
import Derived.MapKept
namespace Wv
open Go Go.RowKit

theorem hide {p : Prop} (h : p) : Hid p := h

/-- Of the blocks that were there, only those in S may have turned. -/
structure Fr (S : Nat → Prop) (w w' : World) : Prop where
  os : w'.os = w.os
  tape : w'.tape = w.tape
  output : w'.output = w.output
  size : w.heap.size ≤ w'.heap.size
  block : ∀ k, k < w.heap.size → ¬ S k → w'.heap[k]? = w.heap[k]?

def nob : Nat → Prop := fun _ => False
def only (b : Nat) : Nat → Prop := fun k => k = b

theorem Fr.refl (S : Nat → Prop) (w : World) : Fr S w w := ⟨rfl, rfl, rfl, Nat.le_refl _, fun _ _ _ => rfl⟩
theorem Fr.trans {S : Nat → Prop} {a b c : World} (h : Fr S a b) (k : Fr S b c) : Fr S a c :=
  ⟨k.os.trans h.os, k.tape.trans h.tape, k.output.trans h.output, Nat.le_trans h.size k.size, fun i hi hn => (k.block i (Nat.lt_of_lt_of_le hi h.size) hn).trans (h.block i hi hn)⟩
/-- The second step may turn whatever is new behind the first. -/
theorem Fr.trans' {S T : Nat → Prop} {a b c : World} (h : Fr S a b) (k : Fr T b c) (hT : ∀ i, i < a.heap.size → T i → S i) : Fr S a c :=
  ⟨k.os.trans h.os, k.tape.trans h.tape, k.output.trans h.output, Nat.le_trans h.size k.size, fun i hi hn => (k.block i (Nat.lt_of_lt_of_le hi h.size) (fun t => hn (hT i hi t))).trans (h.block i hi hn)⟩
theorem Fr.mono {S T : Nat → Prop} {w w' : World} (h : Fr S w w') (hs : ∀ k, S k → T k) : Fr T w w' :=
  ⟨h.os, h.tape, h.output, h.size, fun k hk hn => h.block k hk (fun s => hn (hs k s))⟩
theorem Fr.of_nob {S : Nat → Prop} {w w' : World} (h : Fr nob w w') : Fr S w w' := h.mono fun _ f => f.elim
theorem Fr.drew {S : Nat → Prop} {a w : World} (h : Fr S a w) : Fr S a w.drew := ⟨h.os, h.tape, h.output, h.size, h.block⟩
theorem Fr.drewN {S : Nat → Prop} {a w : World} (h : Fr S a w) (n : Nat) : Fr S a (w.drewN n) := ⟨h.os, h.tape, h.output, h.size, h.block⟩
theorem Fr.alloc {S : Nat → Prop} {a w : World} (h : Fr S a w) (o : Obj) : Fr S a (w.alloc o) :=
  ⟨h.os, h.tape, h.output, Nat.le_trans h.size (by simp), fun k hk hn => (Below.heap_alloc w o k (Nat.lt_of_lt_of_le hk h.size)).trans (h.block k hk hn)⟩
theorem Fr.setCell {S : Nat → Prop} {a w : World} (h : Fr S a w) {p : Addr} (hp : S p.block ∨ a.heap.size ≤ p.block) (u : Value) : Fr S a (w.setCell p u) :=
  ⟨h.os, h.tape, h.output, by simpa [World.setCell] using h.size, fun k hk hn => (Below.heap_setCell w p u k (by
    rintro rfl
    rcases hp with hp | hp
    · exact hn hp
    · omega)).trans (h.block k hk hn)⟩
theorem Fr.below {S : Nat → Prop} {a w w' : World} (h : Fr S a w) (hb : Below w.heap.size w w') : Fr S a w' :=
  h.trans ⟨hb.os, hb.tape, hb.output, hb.size, fun k hk _ => hb.block k hk⟩
theorem Fr.of_below {S : Nat → Prop} {w w' : World} (hb : Below w.heap.size w w') : Fr S w w' := (Fr.refl S w).below hb
theorem Fr.toBelow {w w' : World} (h : Fr nob w w') : Below w.heap.size w w' := ⟨h.os, h.tape, h.output, h.size, fun k hk => h.block k hk (fun f => f)⟩
theorem Fr.toBelow' {S : Nat → Prop} {w w' : World} {B : Nat} (h : Fr S w w') (hB : B ≤ w.heap.size) (hS : ∀ k, k < B → ¬ S k) : Below B w w' :=
  ⟨h.os, h.tape, h.output, h.size, fun k hk => h.block k (by omega) (hS k hk)⟩
theorem Fr.grown {S : Nat → Prop} {a w w' : World} {row : Option Nat} (h : Fr S a w) (hg : w.grownBy w' row) (hr : ∀ k, row = some k → S k ∨ a.heap.size ≤ k) : Fr S a w' :=
  ⟨hg.os.trans h.os, hg.tape.trans h.tape, hg.output.trans h.output, Nat.le_trans h.size hg.size, fun k hk hn => (hg.block k (Nat.lt_of_lt_of_le hk h.size) (fun e => by
    rcases hr k e.symm with hs | hs
    · exact hn hs
    · omega)).trans (h.block k hk hn)⟩
theorem Fr.cell {S : Nat → Prop} {w w' : World} (h : Fr S w w') {p : Addr} (hl : p.block < w.heap.size) (hn : ¬ S p.block) : w'.cell? p = w.cell? p := World.cell?_of_block (h.block _ hl hn)
theorem Fr.frozen {S : Nat → Prop} {w w' : World} (h : Fr S w w') {p : Addr} (hl : p.block < w.heap.size) (hn : ¬ S p.block) : w'.frozen? p = w.frozen? p := World.frozen?_of_block (h.block _ hl hn)

theorem bdN {B : Nat} {a w : World} (h : Below B a w) (n : Nat) : Below B a (w.drewN n) := ⟨h.os, h.tape, h.output, h.size, h.block⟩
theorem bcell {W w1 : World} (hb : Below W.heap.size W w1) : (∀ b o, b < W.heap.size → w1.cell? ⟨b, o, none⟩ = W.cell? ⟨b, o, none⟩) ∧ (∀ b o, b < W.heap.size → w1.frozen? ⟨b, o, none⟩ = W.frozen? ⟨b, o, none⟩) :=
  ⟨fun b o h => hb.cell (p := ⟨b, o, none⟩) h, fun b o h => hb.frozen (p := ⟨b, o, none⟩) h⟩
/-- Block g is a row of just these cells, none of them frozen. -/
def Bk (w : World) (g : Nat) (t : TypeId) (cs : Array Value) : Prop := w.heap[g]? = some (.cells cs t (0, 0))
section
variable {w w' : World} {g : Nat} {t : TypeId} {cs : Array Value}
theorem Bk.lt (h : Bk w g t cs) : g < w.heap.size := by
  unfold Bk at h
  exact (Array.getElem?_eq_some_iff.1 h).1
theorem Bk.cell (h : Bk w g t cs) (i : Nat) : w.cell? ⟨g, i, none⟩ = cs[i]? := by
  unfold Bk at h
  simp [World.cell?, h]
theorem Bk.frozen (h : Bk w g t cs) (i : Nat) : w.frozen? ⟨g, i, none⟩ = false := by
  unfold Bk at h
  simp [World.frozen?, h]
theorem Bk.new (w : World) (t : TypeId) (cs : Array Value) : Bk (w.alloc (.cells cs t)) w.heap.size t cs := heap_alloc_new w _
theorem Bk.drew (h : Bk w g t cs) : Bk w.drew g t cs := h
theorem Bk.drewN (h : Bk w g t cs) (n : Nat) : Bk (w.drewN n) g t cs := h
theorem Bk.alloc (h : Bk w g t cs) (o : Obj) : Bk (w.alloc o) g t cs := (Below.heap_alloc w o g h.lt).trans h
theorem Bk.put (h : Bk w g t cs) (i : Nat) (u : Value) : Bk (w.setCell ⟨g, i, none⟩ u) g t (cs.setIfInBounds i u) := by
  unfold Bk at h ⊢
  simp [World.setCell, Array.getElem?_modify, h]
theorem Bk.off (h : Bk w g t cs) {p : Addr} (hp : g ≠ p.block) (u : Value) : Bk (w.setCell p u) g t cs := (Below.heap_setCell w p u g hp).trans h
theorem Bk.fr {S : Nat → Prop} (h : Bk w g t cs) (hf : Fr S w w') (hg : ¬ S g) : Bk w' g t cs := (hf.block g h.lt hg).trans h
theorem Bk.below {B : Nat} (h : Bk w g t cs) (hb : Below B w w') (hg : g < B) : Bk w' g t cs := (hb.block g hg).trans h
theorem Bk.grown {row : Option Nat} (h : Bk w g t cs) (hb : w.grownBy w' row) (hg : some g ≠ row) : Bk w' g t cs := (hb.block g h.lt hg).trans h
theorem Bk.apart {g' : Nat} {t' : TypeId} {cs' : Array Value} (h : Bk w g t cs) (h' : Bk w g' t' cs') (hne : t ≠ t') : g ≠ g' := by
  rintro rfl
  unfold Bk at h h'
  rw [h] at h'
  injection h' with h'
  injection h' with _ ht
  exact hne ht
theorem own_apart {base : Nat} {e : TypeId} {size n : Nat} {v : Value} {xs : List Value} (h : w.ownsRow base e size v n xs) (hg : Bk w g t cs) (hne : e ≠ t) : v.ownBlock ≠ some g := by
  rcases h.2 with ⟨rfl, _⟩ | ⟨g', cap, cur, rfl, _, hh, _⟩
  · simp [Value.ownBlock]
  · intro he
    have : g' = g := by simpa [Value.ownBlock] using he
    subst this
    exact Bk.apart (t := e) hh hg hne rfl
end
theorem own_fr {S : Nat → Prop} {w w' : World} {base : Nat} {e : TypeId} {size n : Nat} {v : Value} {xs : List Value} (h : w.ownsRow base e size v n xs) (hf : Fr S w w') (hn : ∀ g, v.ownBlock = some g → ¬ S g) : w'.ownsRow base e size v n xs := by
  refine ⟨h.1, ?_⟩
  rcases h.2 with h2 | ⟨g, cap, cur, rfl, hb, hg, rest⟩
  · exact .inl h2
  · refine .inr ⟨g, cap, cur, rfl, hb, ?_, rest⟩
    rw [hf.block g (Array.getElem?_eq_some_iff.1 hg).1 (hn g rfl)]
    exact hg
theorem own_base {w : World} {base base' : Nat} {e : TypeId} {size n : Nat} {v : Value} {xs : List Value} (h : w.ownsRow base e size v n xs) (hb : base' ≤ base) : w.ownsRow base' e size v n xs := by
  refine ⟨h.1, ?_⟩
  rcases h.2 with h2 | ⟨g, cap, cur, rfl, hb', rest⟩
  · exact .inl h2
  · exact .inr ⟨g, cap, cur, rfl, by omega, rest⟩

/-- A quiet call in a quiet region, by a contract that leaves the world alone: behind one region, behind several. -/
theorem q1 {P : Program} {f : FuncId} {args : Array Value} {w : World} {n : Nat} {v : Value} (h : Calls P f args (w.drewN n) fun e w' => e = .returned v ∧ w.drewN n = w') :
    Calls P f args (w.drewN n) fun e w'' => e = .returned v ∧ ∃ m, w'' = w.drewN m := h.mono fun _ _ ⟨he, hm⟩ => ⟨he, n, hm.symm⟩
theorem q2 {P : Program} {f : FuncId} {args : Array Value} {w : World} {a n : Nat} {v : Value} (h : Calls P f args (w.drewN (a + n)) fun e w' => e = .returned v ∧ w.drewN (a + n) = w') :
    Calls P f args (w.drewN (a + n)) fun e w'' => e = .returned v ∧ ∃ m, w'' = w.drewN (a + m) := h.mono fun _ _ ⟨he, hm⟩ => ⟨he, n, hm.symm⟩
/-- The same where the contract says how often it drew. -/
theorem q3 {P : Program} {f : FuncId} {args : Array Value} {w : World} {n : Nat} {v : Value} (h : Calls P f args (w.drewN n) fun e w' => e = .returned v ∧ ∃ q, w' = (w.drewN n).drewN q) :
    Calls P f args (w.drewN n) fun e w'' => e = .returned v ∧ ∃ m, w'' = w.drewN m := h.mono fun _ _ ⟨he, q, hm⟩ => ⟨he, n + q, by rw [hm, World.drewN_drewN]⟩
theorem q4 {P : Program} {f : FuncId} {args : Array Value} {w : World} {a n : Nat} {v : Value} (h : Calls P f args (w.drewN (a + n)) fun e w' => e = .returned v ∧ ∃ q, w' = (w.drewN (a + n)).drewN q) :
    Calls P f args (w.drewN (a + n)) fun e w'' => e = .returned v ∧ ∃ m, w'' = w.drewN (a + m) := h.mono fun _ _ ⟨he, q, hm⟩ => ⟨he, n + q, by rw [hm, World.drewN_drewN, Nat.add_assoc]⟩
theorem and1 (n : Int) : bits .and .i64 n 1 = n % 2 := by
  have h1 : (BitVec.ofInt 64 1).toNat = 2 ^ 1 - 1 := by decide
  have key : (BitVec.ofInt 64 n &&& BitVec.ofInt 64 1).toNat = (n % ((2 ^ 64 : Nat) : Int)).toNat % 2 ^ 1 := by
    rw [BitVec.toNat_and, BitVec.toNat_ofInt, h1, Nat.and_two_pow_sub_one_eq_mod]
  show IntKind.i64.wrap ((BitVec.ofInt 64 n &&& BitVec.ofInt 64 1).toNat : Nat) = n % 2
  rw [key, IntKind.wrap_i64]
  omega
/-- 'string([]byte{x})': a row of one byte that was just laid. -/
theorem conv_one {P : Program} (src dst e : TypeId) (hs : P.underlying src = some (.slice e)) (he : P.underlying e = some (.int .u8)) (hd : P.underlying dst = some .string) (w : World) (x : Int) :
    (convert src dst (.slice (some ⟨w.heap.size, 0, none⟩) 1 1)).run P (w.alloc (.cells #[.int .u8 x] e)) = .ok (.string ⟨#[UInt8.ofNat x.toNat]⟩) (w.alloc (.cells #[.int .u8 x] e)) := by
  have := run_convert_bytes_arg (P := P) (w.alloc (.cells #[.int .u8 x] e)) src e hs he w.heap.size 0 1 1 [x] rfl (fun i hi => by
    have : i = 0 := by omega
    subst this
    rw [cell_of_row _ _ _ _ _ _ (heap_alloc_new w _)]
    rfl) dst hd
  rw [this]; rfl

/-- 'make([]T, n)', T of one cell. -/
theorem mk_row {P : Program} (t e : TypeId) (z : Value) (bytes : Nat) (ht : P.underlying t = some (.slice e)) (hinfo : (P.info? e).map (fun i => (i.zero, i.size, i.bytes)) = some (some z, 1, bytes)) (hz1 : z.cells = #[z])
    (m : Int) (n : Nat) (hm : m = n) (hb : bytes * n ≤ 281474976710656) (h63 : n ≤ 9223372036854775807) (w : World) :
    (Instr.makeSlice t (.int .i64 m) (.int .i64 m)).run P w = .ok (.slice (some ⟨w.heap.size, 0, none⟩) n n) (w.alloc (.cells (Array.replicate n z) e)) := by
  obtain ⟨i, hi, hz, hs, hby⟩ := info_parts hinfo
  subst hm
  have hb' : (i.bytes : Int) * (n : Int) ≤ 281474976710656 := by
    have h : ((bytes * n : Nat) : Int) ≤ 281474976710656 := by omega
    rw [hby]; rwa [Int.natCast_mul] at h
  have hr := run_make (P := P) w t e i z ht hi hz .i64 .i64 (n : Int) (n : Int) (by omega) (by omega) hb' (by omega)
  rw [hr, Int.toNat_natCast, hs, hz1]
  congr 3
  apply Array.ext
  · simp [madeCells]
  · intro j h1 h2
    simp [madeCells, Nat.mod_one]
/-- A byte as a cell; bytes as the cells of a block. -/
def bv (b : UInt8) : Value := .int .u8 (b.toNat : Int)
def bc (l : List UInt8) : Array Value := (l.map bv).toArray
theorem bc_size (l : List UInt8) : (bc l).size = l.length := by simp [bc]
theorem bc_get (l : List UInt8) (i : Nat) (h : i < l.length) : (bc l)[i]? = some (.int .u8 (l[i].toNat : Int)) := by
  simp [bc, bv, List.getElem?_eq_getElem h]
theorem bc_set (l : List UInt8) (i : Nat) (x : Int) (h0 : 0 ≤ x) (h1 : x < 256) : (bc l).setIfInBounds i (.int .u8 x) = bc (l.set i (UInt8.ofNat x.toNat)) := by
  have : (.int .u8 x : Value) = bv (UInt8.ofNat x.toNat) := by
    unfold bv
    congr 1
    have : x.toNat < 256 := by omega
    simp [Nat.mod_eq_of_lt this]
    omega
  rw [this]
  apply Array.toList_inj.1
  simp [bc, List.map_set]
theorem bc_replicate (n : Nat) : Array.replicate n (.int .u8 0 : Value) = bc (List.replicate n 0) := by
  apply Array.toList_inj.1
  simp [bc, bv]
/-- 'string(b)', b the first bytes of a block. -/
theorem conv_all {P : Program} (src dst e : TypeId) (hs : P.underlying src = some (.slice e)) (he : P.underlying e = some (.int .u8)) (hd : P.underlying dst = some .string) (w : World) (g n cap : Nat) (l r : List UInt8)
    (hb : Bk w g e (bc (l ++ r))) (hn : n = l.length) :
    (convert src dst (.slice (some ⟨g, 0, none⟩) n cap)).run P w = .ok (.string ⟨l.toArray⟩) w := by
  subst hn
  refine run_convert_bytes_back w src dst e ⟨g, 0, none⟩ cap l hs he hd (fun j hj => ?_)
  have : (⟨g, 0, none⟩ : Addr).add j = ⟨g, j, none⟩ := by unfold Addr.add; split <;> simp_all
  rw [this, hb.cell, bc_get (l ++ r) j (by simp; omega), List.getElem_append_left hj]

theorem ck_int {P : Program} {k : TypeId} {kd : IntKind} (hk : P.underlying k = some (.int kd)) (e : Bool) (x : Int) (W : World) : (Instr.checkKey e 10000 k (.int kd x)).run P W = .ok () W :=
  MapKept.run_checkKey (w := W) hk (show MapKept.IsKey (.int kd) (.int kd x) from rfl) e 9999
theorem set_alloc (w : World) (o o' : Obj) : ({ (w.alloc o) with heap := (w.alloc o).heap.setIfInBounds w.heap.size o' } : World) = w.alloc o' := by
  have h : (w.heap.push o).setIfInBounds w.heap.size o' = w.heap.push o' := by
    apply Array.toList_inj.1
    simp
  show ({ w with heap := (w.heap.push o).setIfInBounds w.heap.size o' } : World) = { w with heap := w.heap.push o' }
  rw [h]
/-- 'm[x] = v', the map a block that was just laid, x a new key. -/
theorem map_put_new {P : Program} {t k e : TypeId} {kd : IntKind} (ht : P.underlying t = some (.map k e)) (hk : P.underlying k = some (.int kd)) (w : World) (es : Array MapEntry) (c : Nat) (x : Int) (v : Value)
    (hn : Instr.findNow (.int kd) (.int kd x) es.toList 0 = some none) :
    (Instr.mapUpdate t (.map (some w.heap.size)) (.int kd x) v).run P (w.alloc (.map es c)) = .ok () (w.alloc (.map (es.push ⟨.int kd x, v, c⟩) (c + 1))) := by
  have h1 : (w.alloc (.map es c)).heap[w.heap.size]? = some (.map es c) := heap_alloc_new w _
  have h2 := fun o => MapKept.run_setObj_map (P := P) o h1
  unfold Instr.mapUpdate
  simp only [Sem.run_bind, run_underlying ht, Result.andThen_ok, MapKept.run_getObj_map h1, ck_int hk, MapKept.run_findKey hk hn, h2, set_alloc]
/-- 'v, ok := m[x]' on a map that is known whole. -/
theorem map_get_ok {P : Program} {t k e : TypeId} {kd : IntKind} (ht : P.underlying t = some (.map k e)) (hk : P.underlying k = some (.int kd)) (w : World) (r : Nat) (es : Array MapEntry) (c : Nat) (x : Int) (i : Nat) (v : Value)
    (hr : w.heap[r]? = some (.map es c)) (hn : Instr.findNow (.int kd) (.int kd x) es.toList 0 = some (some (i, v))) :
    (Instr.lookup t (.map (some r)) (.int kd x) true).run P w = .ok (.tuple #[v, .bool true]) w := by
  unfold Instr.lookup
  simp only [Sem.run_bind, Sem.run_pure, run_underlying ht, Result.andThen_ok, MapKept.run_getObj_map hr, ck_int hk, MapKept.run_findKey hk hn]
  rfl
theorem map_get_no {P : Program} {t k e : TypeId} {kd : IntKind} (ht : P.underlying t = some (.map k e)) (hk : P.underlying k = some (.int kd)) (w : World) (r : Nat) (es : Array MapEntry) (c : Nat) (x : Int) (z : Value)
    (hr : w.heap[r]? = some (.map es c)) (hz : (zeroValue e).run P w = .ok z w) (hn : Instr.findNow (.int kd) (.int kd x) es.toList 0 = some none) :
    (Instr.lookup t (.map (some r)) (.int kd x) true).run P w = .ok (.tuple #[z, .bool false]) w := by
  unfold Instr.lookup
  simp only [Sem.run_bind, Sem.run_pure, run_underlying ht, Result.andThen_ok, MapKept.run_getObj_map hr, ck_int hk, MapKept.run_findKey hk hn, hz]
  rfl
end Wv
