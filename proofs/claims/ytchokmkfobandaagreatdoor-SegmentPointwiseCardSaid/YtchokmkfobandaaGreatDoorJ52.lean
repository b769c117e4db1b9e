import Derived.Test.YtchokmkfobandaaGreatDoorJ50
set_option linter.unusedVariables false
set_option linter.unusedSimpArgs false
set_option maxRecDepth 100000
set_option maxHeartbeats 8000000
namespace Go.Proofs.YtchokmkfobandaaGreatDoor
open Go.RowKit Go.Proofs Wv Wv.Vi Wv.Ru Wv.Bc Wv.Sn Wv.Sg Wv.Dc
theorem Zn7 {w:World} {A:Option Addr} {b:ByteArray} {l:List (Int×ByteArray)} (ha:At w A (cv l)) (n cap:Nat) (hn:n=l.length) (bu:n<=9223372036854775807) (f t k:Int) (hf:I64 f) (ht:I64 t) (hk:I64 k):
  Calls Tryz.prog 21 #[.int .i64 f,.int .i64 t,.int .i64 k,.string b,.slice A n cap] w λx w'=>∃A2 aK,x=.returned (.slice A2 (smp f t k b l).length aK)/\At w' A2 (cv (smp f t k b l))/\Below w.heap.size w w':=
 (ZaO ha n cap hn bu f t k hf ht hk).mono λx w' ⟨v,h1,⟨A2,aK,h2,h3⟩,h4⟩=>⟨A2,aK,by rw[h1,h2],h3,h4⟩
theorem Zk9 {l:List (Int×ByteArray)} {m:Int} (h:fewB l m=true):(l.length:Int)<=m/\∀x∈l,x.2.size<=150:=by
 unfold fewB at h;rw[Bool.and_eq_true,decide_eq_true_iff,List.all_eq_true] at h;exact⟨h.2,λx hx=>by have:=of_decide_eq_true (h.1 x hx);omega⟩
theorem Zci (f t k:Int) (b:ByteArray) (l:List (Int×ByteArray)):(smp f t k b l).length<=4096:=by
 rw[Z6a];have:=Zmz f t k;omega
theorem Z9D (f:Int) (hf:I64 f) (t:Int) (ht:I64 t) (k:Int) (hk:I64 k) (b:ByteArray) (hb:b.size<=9223372036854775807) {w:World} {A:Option Addr} {l:List (Int×ByteArray)} (ha:At w A (cv l)) (hl:∀c∈l,I64 c.1/\c.2.size<=9223372036854775807) (n cap:Nat) (hn:n=l.length) (bu:n<=9223372036854775807):
  Calls Tryz.prog 6 #[.int .i64 f,.int .i64 t,.int .i64 k,.string b,.slice A n cap] w λx w'=>x=.returned (.bool true)/\Below w.heap.size w w':=by
 have lA:=h_ (Z3z w);have HF:=h_ (λW (h:Below w.heap.size w W)=>ZjU (ha.below h) n cap hn bu 40);cases hfw:fewB l 40 with
 |false=>
  rw[hfw] at HF;clear ha hl hn bu hfw hf ht hk hb;go_enter Tryz.func6,Tryz.ntmps6;go_wp2_with fail;refine(lA.o).mono ?_;rintro x w1 ⟨rfl,a7⟩;have an:=h_ a7;clear a7;go_wp2_with fail;refine(HF.o _ an.o).mono ?_;rintro x w2 ⟨rfl,rfl⟩;go_wp2;go_returns;exact⟨rfl,an.o⟩
 |true=>
  rw[hfw] at HF;obtain⟨Cr,_⟩:=Zk9 hfw;by_cases TF:(150:Int)<(b.size:Int)
  ·clear ha hl hn bu hfw hf ht hk hb Cr;go_enter Tryz.func6,Tryz.ntmps6;go_wp2_with fail;refine(lA.o).mono ?_;rintro x w1 ⟨rfl,a7⟩;have an:=h_ a7;clear a7;go_wp2_with fail;refine(HF.o _ an.o).mono ?_;rintro x w2 ⟨rfl,rfl⟩;go_wp2;go_returns;exact⟨rfl,an.o⟩
  ·have HS:=h_ (λW (h:Below w.heap.size w W)=>ZaZ (b:=b) (ha.below h) n cap hn (by omega) f t k hf ht hk rfl);have HR:=h_ (λW (h:Below w.heap.size w W)=>Zn7 (b:=b) (ha.below h) n cap hn bu f t k hf ht hk);have fV:=Zci f t k b l;generalize smp f t k b l=L at*;have HQ:=h_ (λ(W:World) A cap B aK (h:At W A (cv L)) (h2:At W B (cv L))=>Z9u h h2 L.length cap L.length aK rfl rfl (by omega) (by omega));rw[decide_eq_true (show L=L from rfl)] at HQ;clear ha hl hn bu hfw hf ht hk hb Cr fV;go_enter Tryz.func6,Tryz.ntmps6;go_wp2_with fail;refine(lA.o).mono ?_;rintro x w1 ⟨rfl,a7⟩;have an:=h_ a7;clear a7;go_wp2_with fail;refine(HF.o _ an.o).mono ?_;rintro x w2 ⟨rfl,rfl⟩;go_wp2_with fail;refine(HS.o _ an.o).mono ?_;rintro x w3 ⟨A3,ld,rfl,bH,ae⟩;have jT:=h_ bH;have aF:=h_ (an.o.trans (ae.mono an.o.size));clear ae bH;go_wp2_with fail;refine(HR.o _ aF.o).mono ?_;rintro x w4 ⟨A4,fH,rfl,dm,aw⟩;have Kb:=h_ (HQ.o w4 A3 ld A4 fH (jT.o.below aw) dm);have bo:=h_ (aF.o.trans (aw.mono aF.o.size));clear aw dm;go_wp2_with fail;refine(Kb.o).mono ?_;rintro x w5 ⟨rfl,aM⟩;have bO:=h_ (bo.o.trans (aM.mono bo.o.size));clear aM;go_wp2;go_returns;exact⟨rfl,bO.o⟩
end Go.Proofs.YtchokmkfobandaaGreatDoor
