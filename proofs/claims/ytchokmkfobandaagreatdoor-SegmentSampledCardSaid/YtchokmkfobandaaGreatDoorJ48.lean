import Derived.Test.YtchokmkfobandaaGreatDoorJ46
set_option linter.unusedVariables false
set_option linter.unusedSimpArgs false
set_option maxRecDepth 100000
set_option maxHeartbeats 8000000
namespace Go.Proofs.YtchokmkfobandaaGreatDoor
open Go.RowKit Go.Proofs Wv Wv.Vi Wv.Bc Wv.Sn Wv.Sg Wv.Dc
theorem Zjw (a c:Int) {w:World} (ht:Tab w):VaC a c w:=λv hv W hW=>by
 have:=Z9E a c (toL v) (by rw[Z1];exact hv) (ht.below hW);rw[Zc] at this;exact this
open Wv.Ru
end Go.Proofs.YtchokmkfobandaaGreatDoor
