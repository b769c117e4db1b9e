/-
  The laws of the bit strings: a reader and a writer side by side; what is read, written again, is the same.
-/
import Derived.Test.YtfahcmiignnnkaaLaw0
import Derived.Test.YtfahcmiignnnkaaPlain2
namespace Go.Proofs.Ytfahcmiignnnkaa
open Go.RowKit Go.Proofs Wv Wv.Bit
set_option linter.unusedVariables false

/-- A writer's state, all of it newer than block B. -/
structure WSt (B : Nat) (w : World) (b : Nat) (dv : Value) (L : List Bool) : Prop where
  at_ : WrAt w b dv L
  own : ∀ g, dv.ownBlock = some g → B ≤ g
  new : B ≤ b
theorem WSt.put {B : Nat} {w w' : World} {b : Nat} {dv dv' : Value} {L L' : List Bool} (h : WSt B w b dv L) (hB : B ≤ w.heap.size) (h2 : WrAt w' b dv' L') (ho : OwnNew w dv dv') : WSt B w' b dv' L' :=
  ⟨h2, fun g hg => by
    rcases ho with h1 | h1
    · exact h.own g (h1 ▸ hg)
    · exact Nat.le_trans hB (h1 g hg), h.new⟩
theorem WSt.frame {B : Nat} {w w' : World} {b : Nat} {dv : Value} {L : List Bool} (h : WSt B w b dv L) (hB : B ≤ w.heap.size) (hf : Fr (foot b dv) w w') : Below B w w' :=
  hf.toBelow' hB (fun j hj hs => by
    rcases hs with hs | hs
    · have := h.new; omega
    · have := h.own j hs; omega)
theorem WSt.below {B : Nat} {w w' : World} {b : Nat} {dv : Value} {L : List Bool} (h : WSt B w b dv L) (hb : Below w.heap.size w w') : WSt B w' b dv L := ⟨h.at_.below hb, h.own, h.new⟩
theorem WSt.alloc {B : Nat} {w : World} {b : Nat} {dv : Value} {L : List Bool} (h : WSt B w b dv L) (o : Obj) : WSt B (w.alloc o) b dv L := ⟨h.at_.alloc o, h.own, h.new⟩
theorem WSt.drewN {B : Nat} {w : World} {b : Nat} {dv : Value} {L : List Bool} (h : WSt B w b dv L) (n : Nat) : WSt B (w.drewN n) b dv L := ⟨⟨h.at_.1.drewN n, h.at_.2⟩, h.own, h.new⟩
/-- A reader's turn leaves a writer alone. -/
theorem WSt.read {B : Nat} {w w' : World} {b rb x n : Nat} {s : ByteArray} {dv : Value} {L : List Bool} (h : WSt B w b dv L) (hr : RdAt w rb s x n) (hf : Fr (only rb) w w') : WSt B w' b dv L :=
  ⟨⟨h.at_.1.fr hf (fun e => Bk.apart h.at_.1 hr.1 (by decide) e), own_fr h.at_.2 hf (fun g hg e => own_apart h.at_.2 hr.1 (by decide) (by rw [hg]; exact congrArg some e))⟩, h.own, h.new⟩
/-- A writer's turn leaves a reader alone. -/
theorem WSt.keeps {B : Nat} {w w' : World} {b rb x n : Nat} {s : ByteArray} {dv : Value} {L : List Bool} (h : WSt B w b dv L) (hr : RdAt w rb s x n) (hf : Fr (foot b dv) w w') : RdAt w' rb s x n :=
  ⟨hr.1.fr hf (fun e => by
    rcases e with e | e
    · exact Bk.apart h.at_.1 hr.1 (by decide) e.symm
    · exact own_apart h.at_.2 hr.1 (by decide) e), hr.2⟩
theorem only_below {B rb : Nat} {w w' : World} (hf : Fr (only rb) w w') (hB : B ≤ w.heap.size) (hr : B ≤ rb) : Below B w w' :=
  hf.toBelow' hB (fun j hj hs => by have : j = rb := hs; omega)

theorem putm_take {T : List Bool} {x y : Nat} {k p : Int} {v : Nat} (hT : T.length ≤ 65536) (hx : x ≤ T.length) (hy : y ≤ T.length) (hv : vld k p v = true) (h : T.drop x = cbits k.toNat p.toNat v ++ T.drop y) :
    putm (T.take x) ⟨k, p, v⟩ = (T.take y, 0) := by
  have hl := congrArg List.length h
  simp only [List.length_drop, List.length_append] at hl
  have hc : T.take x ++ cbits k.toNat p.toNat v = T.take y := by
    have h1 : (T.take x ++ cbits k.toNat p.toNat v) ++ T.drop y = T.take y ++ T.drop y := by
      rw [List.append_assoc, ← h, List.take_append_drop, List.take_append_drop]
    refine (List.append_inj h1 ?_).1
    simp only [List.length_append, List.length_take]
    omega
  have hb : (Cd.bits ⟨k, p, v⟩) = cbits k.toNat p.toNat v := rfl
  unfold putm
  rw [show Cd.ok ⟨k, p, v⟩ = true from hv, if_pos rfl, hb, if_neg (by simp only [List.length_take]; omega), hc]
theorem drop_eq {α : Type} {T : List α} {x y : Nat} (hx : x ≤ T.length) (hy : y ≤ T.length) (h : T.drop x = T.drop y) : x = y := by
  have := congrArg List.length h
  simp only [List.length_drop] at this
  omega
theorem get_bit (T : List Bool) (x : Nat) (h : x < T.length) : ∃ v : Nat, getm 0 1 1 (T.drop x) = (T.drop (x + 1), v, 0) ∧ vld 0 1 v = true ∧ T.drop x = cbits 0 1 v ++ T.drop (x + 1) := by
  have e : T.drop x = T[x] :: T.drop (x + 1) := List.drop_eq_getElem_cons h
  refine ⟨T[x].toNat, ?_, ?_, ?_⟩
  · rw [e]
    cases T[x] <;> simp [getm, par, rd, val]
  · cases T[x] <;> decide
  · rw [e]
    cases T[x] <;> simp [cbits, num]

def rdCell (w : World) (b : Nat) : Int := intOf ((w.cell? ⟨b, 1, none⟩).getD undef)
theorem RdAt.cellv {w : World} {b x n : Nat} {s : ByteArray} (h : RdAt w b s x n) : rdCell w b = (x : Int) := by unfold rdCell; rw [h.c1]; rfl

set_option maxHeartbeats 2000000 in
theorem unique_any {A : Option Addr} {l : List Cd} {w : World} (s : ByteArray) (hs : s.size ≤ 9223372036854775807) (h : CodesAt w A l) (hk : ∀ c ∈ l, CdOk c) (n cap : Nat) (hn : n = l.length) (hm : n ≤ 9223372036854775807) :
    Calls Try.prog 4 #[.string s, .slice A n cap] w fun e w' => e = .returned (.bool true) ∧ Below w.heap.size w w' := by
  have Ha := hide awake_any
  have hnl : n ≤ l.length := by omega
  clear hn
  by_cases hbig : 300 < s.size ∨ 60 < n
  · go_enter Try.func4, Try.ntmps4
    go_wp2_with fail
    refine (Ha.out _).mono ?_
    rintro e w1 ⟨rfl, hb1⟩
    by_cases hc : 300 < s.size
    · go_wp2
      go_ret
      exact ⟨rfl, hb1⟩
    · go_wp2
      go_ret
      exact ⟨rfl, hb1⟩
  · have c1 : s.size ≤ 300 := by omega
    have c2 : n ≤ 60 := by omega
    clear hbig
    go_enter Try.func4, Try.ntmps4
    go_wp2_with fail
    refine (Ha.out _).mono ?_
    rintro e w1 ⟨rfl, hb1⟩
    cases hr : nrd s with
    | none =>
      have H1 := hide (newreader_none s w1 hs (by omega) hr)
      clear hr
      go_wp2_with fail
      refine (H1.out).mono ?_
      rintro e w2 ⟨rfl, hb2⟩
      have hf2 := hb1.trans (hb2.mono hb1.size)
      go_wp2
      go_ret
      exact ⟨rfl, hf2⟩
    | some nn =>
      have H1 := hide (newreader_some s w1 nn hr)
      have Hr := hide hr
      clear hr
      go_wp2_with fail
      refine (H1.out).mono ?_
      rintro e w2 ⟨rfl, hrd, hb2⟩
      have hf2 := hb1.trans (hb2.mono hb1.size)
      have H2 := hide (newwriter_any w2)
      go_wp2_with fail
      refine (H2.out).mono ?_
      rintro e w3 ⟨rfl, hwr, hb3⟩
      have hrd3 := hrd.below hb3
      have hf3 := hf2.trans (hb3.mono hf2.size)
      have hws : WSt w.heap.size w3 w2.heap.size (.slice none 0 0) [] := ⟨hwr, by simp [Value.ownBlock], hf2.size⟩
      have hlo := hb1.size
      have hn0 := (nrd_le Hr.out).1
      obtain ⟨T, hT⟩ : ∃ T, rbits s nn = T := ⟨_, rfl⟩
      have HT := hide hT
      have hTl : T.length = nn := by rw [← hT, rbits_length]
      have H3 := hide (left_any hrd3)
      clear hT hb3 hf2 hb1 hb2 hwr hrd
      go_wp2_with fail
      refine (H3.out).mono ?_
      rintro e w4 ⟨rfl, q, rfl⟩
      have hrd4 : RdAt (w3.drewN q) w1.heap.size s 0 nn := hrd3
      have hws4 := hws.drewN q
      have hf4 := bdN hf3 q
      have hc4 := h.below hf4
      clear hrd3 hws hf3
      have HTl := hide hTl
      clear hTl
      go_wp2
      go_loopw [48] (fun i wr => ∃ (k x : Nat) (dv : Value), k ≤ n ∧ i = .int .i64 k ∧ RdAt wr w1.heap.size s x nn ∧ WSt w.heap.size wr w2.heap.size dv (T.take x) ∧ Below w.heap.size w wr ∧ CodesAt wr A l) (fun i _ => (n - intOf i).toNat)
      case atStart => exact ⟨0, 0, _, by omega, rfl, hrd4, hws4, hf4, hc4⟩
      case round =>
        clear hrd4 hws4 hf4 hc4
        obtain ⟨k, x, dv, hkn, rfl, hrx, hwx, hf, hc⟩ := hrel
        by_cases hlt : k < n
        · obtain ⟨b, o, rfl, hbw, c0, c1', c2'⟩ := hc k (by omega)
          obtain ⟨c, hcd⟩ : ∃ c, l[k] = c := ⟨_, rfl⟩
          rw [hcd] at c0 c1' c2'
          obtain ⟨_, _, hm1, hm2⟩ := hk c (hcd ▸ List.getElem_mem _)
          clear hcd
          have hbl := hrx.1.lt
          have hxn := hrx.2.1
          have hbk := Bk.new wr 31 #[.int .i64 c.k, .int .i64 c.p, .int .i64 c.v]
          have hra := hrx.alloc (.cells #[.int .i64 c.k, .int .i64 c.p, .int .i64 c.v] 31)
          have hwa := hwx.alloc (.cells #[.int .i64 c.k, .int .i64 c.p, .int .i64 c.v] 31)
          have hfa := hf.alloc hf.size (.cells #[.int .i64 c.k, .int .i64 c.p, .int .i64 c.v] 31)
          rcases getm_cases c.k c.p c.v (T.drop x) with ⟨hg, he⟩ | ⟨v, r, hg, hv, hvm, hd⟩
          · have Hp := get_any hra c.k c.p c.v
            rw [HT.out, hg] at Hp
            obtain ⟨E, hE⟩ : ∃ E, (getm c.k c.p c.v (T.drop x)).2.2 = E := ⟨_, rfl⟩
            rw [hE] at Hp he
            have he2 : ((E : Int) != 0) = true := by rw [bne_iff_ne]; omega
            have Hp2 := hide Hp
            clear hg hE he Hp
            go_wp2_with fail
            refine (Hp2.out).mono ?_
            rintro e w5 ⟨y, rfl, hr5, hf5, hd⟩
            have hxy : x = y := drop_eq (T := T) (by rw [HTl.out]; exact hxn) (by rw [HTl.out]; exact hr5.2.1) hd
            have hwx5 := hwa.read hra hf5
            have hf6 := hfa.trans (only_below hf5 hfa.size (by omega))
            have hc6 := h.below hf6
            have Hxy := hide hxy
            clear hd hxy c0 c1' c2'
            go_wp2
            go_roundw
            case rel => exact ⟨k + 1, y, dv, by omega, by go_num, hr5, Hxy.out ▸ hwx5, hf6, hc6⟩
            case measure => simp [intOf]; omega
          · have Hp := get_any hra c.k c.p c.v
            rw [HT.out, hg] at Hp
            have Hp2 := hide Hp
            have Hd := hide hd
            have hv2 := vld_max hv
            have Hv := hide hv
            clear hg Hp hd hv
            have hvc : ¬ (c.v < (v : Int)) := by omega
            go_wp2_with fail
            refine (Hp2.out).mono ?_
            rintro e w5 ⟨y, rfl, hr5, hf5, hry⟩
            have Hput := putm_take (T := T) (x := x) (y := y) (by rw [HTl.out]; exact hn0) (by rw [HTl.out]; exact hxn) (by rw [HTl.out]; exact hr5.2.1) Hv.out (by rw [Hd.out, ← hry])
            have hwx5 := hwa.read hra hf5
            have hf6 := hfa.trans (only_below hf5 hfa.size (by omega))
            have hbk5 := hbk.fr hf5 (fun e => by
              have : wr.heap.size = w1.heap.size := e
              omega)
            have d0 := hbk5.cell 0
            have d1 := hbk5.cell 1
            simp at d0 d1
            have hyn := hr5.2.1
            have Hw := wput_any hwx5.at_ (by rw [List.length_take, HTl.out]; omega) c.k c.p (v : Int) (by omega) (by omega)
            rw [Hput] at Hw
            have Hw2 := hide Hw
            have hbl5 := hbk5.lt
            clear Hw Hput hry c0 c1' c2' hbk
            go_wp2_with fail
            refine (Hw2.out).mono ?_
            rintro e w6 ⟨rfl, dv', hw6, hf7, ho6⟩
            have hr6 := hwx5.keeps hr5 hf7
            have hws6 := hwx5.put hf6.size hw6 ho6
            have hf8 := hf6.trans (hwx5.frame hf6.size hf7)
            have hbk6 := hbk5.fr hf7 (fun e => by
              rcases e with e | e
              · exact Bk.apart hwx5.at_.1 hbk5 (by decide) e.symm
              · exact own_apart hwx5.at_.2 hbk5 (by decide) e)
            have d0 := hbk6.cell 2
            simp at d0
            have hc8 := h.below hf8
            have H5 := wlen_any hw6
            rw [show (T.take y).length = y from by rw [List.length_take, HTl.out]; omega] at H5
            have H5' := hide H5
            have H6 := hide (left_any hr6)
            have i1 : IntKind.i64.wrap ((nn : Int) - ((nn : Int) - (y : Int))) = (y : Int) := by
              rw [IntWalk.i64_in _ (by omega)]; omega
            clear H5 d1 hbk5 hbk6
            go_wp2_with fail
            refine (H5'.out).mono ?_
            rintro e w7 ⟨rfl, rfl⟩
            go_wp2_with fail
            refine (H6.out).mono ?_
            rintro e w7 ⟨rfl, q2, rfl⟩
            go_wp2
            go_roundw
            case rel => exact ⟨k + 1, y, dv', by omega, by go_num, hr6, hws6.drewN q2, bdN hf8 q2, hc8⟩
            case measure => simp [intOf]; omega
        · have hxn := hrx.2.1
          go_wp2
          go_loopw [13] (fun i wr => ∃ (x : Nat) (dv : Value), RdAt wr w1.heap.size s x nn ∧ WSt w.heap.size wr w2.heap.size dv (T.take x) ∧ Below w.heap.size w wr) (fun _ wr => (nn - rdCell wr w1.heap.size).toNat)
          case atStart => exact ⟨x, dv, hrx, hwx, hf⟩
          case round =>
            clear hrx hwx hf hc
            obtain ⟨x, dv, hrx, hwx, hf⟩ := hrel
            have hxn := hrx.2.1
            have H6 := hide (left_any hrx)
            go_wp2_with fail
            refine (H6.out).mono ?_
            rintro e w7 ⟨rfl, q2, rfl⟩
            have hrx7 : RdAt (wr.drewN q2) w1.heap.size s x nn := hrx
            have hwx7 := hwx.drewN q2
            have hf7 := bdN hf q2
            clear hrx hwx hf
            by_cases hlx : x < nn
            · obtain ⟨v, hg, hv, hd⟩ := get_bit T x (by rw [HTl.out]; exact hlx)
              have Hp := get_any hrx7 0 1 1
              rw [HT.out, hg] at Hp
              have Hp2 := hide Hp
              have Hd := hide hd
              have Hv := hide hv
              have hv2 := vld_max hv
              have hpos : (0 : Int) < (nn : Int) - (x : Int) := by omega
              clear hg Hp hd hv
              go_wp2_with fail
              refine (Hp2.out).mono ?_
              rintro e w5 ⟨y, rfl, hr5, hf5, hry⟩
              have Hput := putm_take (T := T) (x := x) (y := y) (k := 0) (p := 1) (v := v) (by rw [HTl.out]; exact hn0) (by rw [HTl.out]; omega) (by rw [HTl.out]; exact hr5.2.1) Hv.out (by rw [← hry]; exact Hd.out)
              have hxy : x + 1 = y := drop_eq (T := T) (by rw [HTl.out]; exact hlx) (by rw [HTl.out]; exact hr5.2.1) hry
              have hwx5 := hwx7.read hrx7 hf5
              have hf6 := hf7.trans (only_below hf5 hf7.size (by omega))
              have Hw := wput_any hwx5.at_ (by rw [List.length_take, HTl.out]; omega) 0 1 (v : Int) (by omega) (by omega)
              rw [Hput] at Hw
              have Hw2 := hide Hw
              have Hc1 := hide hrx7.cellv
              have Hxy := hide hxy
              clear Hw Hput hry hxy
              go_wp2_with fail
              refine (Hw2.out).mono ?_
              rintro e w6 ⟨rfl, dv', hw6, hf7', ho6⟩
              have hr6 := hwx5.keeps hr5 hf7'
              have hws6 := hwx5.put hf6.size hw6 ho6
              have hf8 := hf6.trans (hwx5.frame hf6.size hf7')
              have Hc2 := hide hr6.cellv
              go_wp2
              go_roundw
              case rel => exact ⟨y, dv', hr6, hws6, hf8⟩
              case measure =>
                have h1 : rdCell wr w1.heap.size = (x : Int) := Hc1.out
                have h2 := Hc2.out
                have h3 := Hxy.out
                rw [h1, h2]
                omega
            · have hxe : x = nn := by omega
              have hpos : ¬ (0 : Int) < (nn : Int) - (x : Int) := by omega
              have hall : T.take x = T := by rw [hxe, ← HTl.out, List.take_length]
              have Hb := wbytes_any hwx7.at_ (by rw [hall, HTl.out]; exact hn0)
              have hbs : (⟨(pack (T.take x ++ [true])).toArray⟩ : ByteArray) = s := by
                rw [hall, ← HT.out]
                exact bstr_rbits s nn Hr.out
              rw [hbs] at Hb
              have Hb2 := hide Hb
              clear hall Hb hbs
              go_wp2_with fail
              refine (Hb2.out).mono ?_
              rintro e w6 ⟨rfl, hb6⟩
              have hf8 := hf7.trans (hb6.mono hf7.size)
              go_wp2
              go_ret
              exact ⟨rfl, hf8⟩
end Go.Proofs.Ytfahcmiignnnkaa
