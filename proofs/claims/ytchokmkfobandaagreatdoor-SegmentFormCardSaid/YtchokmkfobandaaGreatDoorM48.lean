import Derived.Test.YtchokmkfobandaaGreatDoorM46
set_option linter.unusedVariables false
set_option linter.unusedSimpArgs false
set_option maxRecDepth 100000
set_option maxHeartbeats 8000000
namespace Go.Proofs.YtchokmkfobandaaGreatDoor
open Go.RowKit Go.Proofs Wv Wv.Vi Wv.Bc Wv.Sn Wv.Sg Wv.Dc
theorem ZdZ (a c:Int) {w:World} (ht:Tab w):VaC a c w:=λv hv W hW=>by
 have:=Z9E a c (toL v) (by rw[Z1];exact hv) (ht.below hW);rw[Za] at this;exact this
open Wv.Ru
theorem Zgy {w:World} {A:Option Addr} {b:ByteArray} {l:List (Int×ByteArray)} (ha:At w A (cv l)) (a c f t:Int) (hv:VaC a c w) (bz:b.size<=1099511627776) (ad:∀x∈l,x.2.size<=1099511627776) (n cap:Nat) (hn:n=l.length) (bf:n<=9223372036854775807) {d:List UInt8} {e:Nat} (h:sgE (a,c) f t b l=(d,e)):
  Calls Tryz.prog 13 #[.agg #[.int .i64 a,.int .i64 c],.int .i64 f,.int .i64 t,.string b,.slice A n cap] w λx w'=>x=.returned (.tuple #[.string (bs d),.int .i64 (e:Int)])/\Below w.heap.size w w':=by
 have:=Z5J ha a c f t hv bz ad n cap hn bf;unfold ERes at this;rw[h] at this;exact this
end Go.Proofs.YtchokmkfobandaaGreatDoor
