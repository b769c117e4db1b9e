import Derived.Test.YtchokmkfobandaaGreatDoorJ50
import Derived.Test.YtchokmkfobandaaGreatDoorJ48
set_option linter.unusedVariables false
set_option linter.unusedSimpArgs false
set_option maxRecDepth 100000
set_option maxHeartbeats 8000000
namespace Go.Proofs.YtchokmkfobandaaGreatDoor
open Go.RowKit Go.Proofs Wv Wv.Vi Wv.Ru Wv.Bc Wv.Sn Wv.Sg Wv.Dc
theorem Zgx {w:World} (a c f t k:Int) (hk:I64 k) (hv:VaC a c w) (d:List UInt8) (hd:d.length<=1000000000) {l:List (Int×ByteArray)} {e:Nat} (h:ssD (a,c) f t k d=(l,e)):
  Calls Tryz.prog 26 #[.agg #[.int .i64 a,.int .i64 c],.int .i64 f,.int .i64 t,.int .i64 k,.string (bs d)] w λx w'=>∃A cap,x=.returned (.tuple #[.slice A l.length cap,.int .i64 (e:Int)])/\At w' A (cv l)/\Below w.heap.size w w':=
 (ZdX a c f t k hk hv d hd).mono λx w' hx=>by
  rw[h] at hx;obtain⟨v,h1,⟨A,cap,h2,h3⟩,h4⟩:=hx;exact⟨A,cap,by rw[h1,h2],h3,h4⟩
theorem Zgy {w:World} {A:Option Addr} {l:List (Int×ByteArray)} (ha:At w A (cv l)) (a c f t k:Int) (hk:I64 k) (hv:VaC a c w) (ad:∀x∈l,x.2.size<=1099511627776) (n cap:Nat) (hn:n=l.length) (bo:n<=9223372036854775807) {d:List UInt8} {e:Nat} (h:ssE (a,c) f t k l=(d,e)):
  Calls Tryz.prog 22 #[.agg #[.int .i64 a,.int .i64 c],.int .i64 f,.int .i64 t,.int .i64 k,.slice A n cap] w λx w'=>x=.returned (.tuple #[.string (bs d),.int .i64 (e:Int)])/\Below w.heap.size w w':=by
 have:=ZdW ha a c f t k hk hv ad n cap hn bo;unfold ERes at this;rw[h] at this;exact this
end Go.Proofs.YtchokmkfobandaaGreatDoor
