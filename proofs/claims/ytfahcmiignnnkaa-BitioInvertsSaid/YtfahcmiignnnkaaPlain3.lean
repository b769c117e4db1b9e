/-
  Bit strings in plain Lean: the bits of several codes behind each other.
-/
import Derived.Test.YtfahcmiignnnkaaPlain2
import Derived.Test.YtfahcmiignnnkaaCodes
namespace Wv.Bit

/-- The bits of codes behind each other. -/
def catb (l : List Cd) : List Bool := l.flatMap Cd.bits
theorem catb_nil : catb [] = [] := rfl
theorem catb_cons (c : Cd) (l : List Cd) : catb (c :: l) = c.bits ++ catb l := rfl
theorem catb_snoc (l : List Cd) (c : Cd) : catb (l ++ [c]) = catb l ++ c.bits := by simp [catb]
theorem catb_drop (l : List Cd) (j : Nat) (h : j < l.length) : catb (l.drop j) = l[j].bits ++ catb (l.drop (j + 1)) := by
  rw [List.drop_eq_getElem_cons h]; rfl
theorem catb_end (l : List Cd) : catb (l.drop l.length) = [] := by rw [List.drop_length]; rfl
theorem putm_ok (b : List Bool) (c : Cd) (h : c.ok = true) (hl : b.length + c.bits.length ≤ 65536) : putm b c = (b ++ c.bits, 0) := by
  unfold putm
  rw [h, if_pos rfl, if_neg (by omega)]
theorem encm_all (l : List Cd) : ∀ b : List Bool, (∀ c ∈ l, c.ok = true) → b.length + (catb l).length ≤ 65536 → encm l b = (0, b ++ catb l) := by
  induction l with
  | nil => intro b _ _; simp [encm, catb]
  | cons c l ih =>
    intro b h hl
    rw [catb_cons, List.length_append] at hl
    have h1 := putm_ok b c (h c (by simp)) (by omega)
    show (if (putm b c).2 = 0 then encm l (putm b c).1 else ((putm b c).2, [])) = _
    rw [h1]
    simp only [if_true]
    rw [ih (b ++ c.bits) (fun d hd => h d (by simp [hd])) (by rw [List.length_append]; omega), catb_cons, List.append_assoc]
theorem catb_len (l : List Cd) (h : ∀ c ∈ l, c.ok = true) : (catb l).length ≤ 8192 * l.length := by
  induction l with
  | nil => simp [catb]
  | cons c l ih =>
    have h1 := cbits_len (h c (by simp))
    have h2 := ih (fun d hd => h d (by simp [hd]))
    rw [catb_cons, List.length_append, List.length_cons]
    have h3 : c.bits.length = (cbits c.k.toNat c.p.toNat c.v.toNat).length := rfl
    omega
/-- The next code is read. -/
theorem getm_next (l : List Cd) (j : Nat) (h : j < l.length) (hc : l[j].ok = true) (m : Int) (hm : l[j].v ≤ m) (T : List Bool) (x : Nat) (hT : T.drop x = catb (l.drop j)) :
    getm l[j].k l[j].p m (T.drop x) = (catb (l.drop (j + 1)), l[j].v.toNat, 0) := by
  rw [hT, catb_drop l j h]
  exact getm_cbits hc m hm _
end Wv.Bit
