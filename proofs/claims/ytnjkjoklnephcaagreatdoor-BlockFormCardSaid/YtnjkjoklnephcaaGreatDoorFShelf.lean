import Derived.Shelf.Strings.Builder1
import Derived.Shelf.Strings.Builder2
import Derived.Shelf.Small.Utf8
import Derived.Shelf.Small.Bits
import Derived.Shelf.Small.Strs
import Derived.Shelf.Small.Wraps
import Derived.Shelf.Strings.BuilderF
import Derived.Shelf.Strconv.Itoa0
import Derived.Shelf.Strconv.Itoa1
import Derived.Shelf.LaysM
import Derived.Shelf.Strconv.Itoa2
import Derived.Shelf.Strconv.Itoa3
import Derived.Shelf.Strings.Search1
import Derived.Shelf.Sort.Plain
import Derived.Shelf.Strings.Prefix
import Derived.Shelf.Strings.Runes
import Derived.Shelf.Bits.Mul64
import Derived.Shelf.Strings.Repeat
import Derived.Shelf.Slices.Turned
import Derived.Ground.Names2Prog
import Derived.Shelf.Slices.SearchI
import Derived.Shelf.Slices.In.SortNone
import Derived.Shelf.Slices.Empties
import Derived.Test.YtnjkjoklnephcaaGreatDoorProg
namespace Go.Proofs
open Go.Shelf
def Tryz.lays125_ren:Go.Shelf.Ren:=⟨fun|125=>164|128=>211|129=>212|n=>n,fun|46=>93|3=>3|51=>202|53=>230|4=>4|5=>5|9=>9|n=>n,fun|n=>n⟩
theorem Tryz.lays125:Go.Proofs.Lays.n125 Tryz.prog Tryz.lays125_ren:=by repeat' first|kernel_rfl|decide|intro _|constructor
theorem Tryz.bits_Len (x : Int) (w : World) (h0 : 0 <= x) (h1 : x <= 18446744073709551615) :
    Calls Tryz.prog 164 #[.int .u64 x] w λe w'=>e=.returned (.int .i64 (Lib.bitLen x.toNat))/\w'=w:=Any.bits_Len Tryz.lays125 x w h0 h1
def Tryz.lays136_ren:Go.Shelf.Ren:=⟨fun|136=>299|n=>n,fun|5=>5|3=>3|9=>9|n=>n,fun|n=>n⟩
theorem Tryz.lays136:Go.Proofs.Lays.n136 Tryz.prog Tryz.lays136_ren:=by repeat' first|kernel_rfl|decide|intro _|constructor
theorem Tryz.bits_TrailingZeros8 (x : Int) (w : World) (h0 : 0 <= x) (h1 : x <= 255) :
    Calls Tryz.prog 299 #[.int .u8 x] w λe w'=>e=.returned (.int .i64 (Lib.trailingZeros8 x.toNat))/\w'=w:=Any.bits_TrailingZeros8 Tryz.lays136 x w h0 h1
def Tryz.laysM246_ren:Go.Shelf.Ren:=⟨fun|246=>317|283=>327|284=>328|285=>329|286=>330|129=>212|317=>357|318=>358|319=>359|320=>360|337=>362|338=>363|n=>n,fun|2=>2|3=>3|9=>9|4=>4|171=>402|0=>0|53=>230|37=>88|5=>5|173=>404|212=>409|51=>202|20=>20|213=>410|46=>93|232=>415|233=>416|n=>n,fun|17=>1|18=>4|19=>5|n=>n⟩
def Tryz.laysM243_ren:Go.Shelf.Ren:=⟨fun|243=>289|246=>317|283=>327|284=>328|285=>329|286=>330|129=>212|317=>357|318=>358|319=>359|320=>360|337=>362|338=>363|n=>n,fun|3=>3|9=>9|2=>2|4=>4|171=>402|0=>0|53=>230|37=>88|5=>5|173=>404|212=>409|51=>202|20=>20|213=>410|46=>93|232=>415|233=>416|n=>n,fun|17=>1|18=>4|19=>5|n=>n⟩
def Tryz.laysM171_ren:Go.Shelf.Ren:=⟨fun|171=>255|243=>289|246=>317|283=>327|284=>328|285=>329|286=>330|129=>212|317=>357|318=>358|319=>359|320=>360|337=>362|338=>363|n=>n,fun|3=>3|9=>9|2=>2|4=>4|171=>402|0=>0|53=>230|37=>88|5=>5|173=>404|212=>409|51=>202|20=>20|213=>410|46=>93|232=>415|233=>416|n=>n,fun|17=>1|18=>4|19=>5|n=>n⟩
theorem Tryz.laysM171:Go.Proofs.LaysM.n171 Tryz.prog Tryz.laysM171_ren:=by repeat' first|kernel_rfl|decide|intro _|constructor
open Go.RowKit Go.Sort Go.Lib in
theorem Tryz.strconv_Itoa (n : Int) (h0 : -9223372036854775808 <= n) (h1 : n <= 9223372036854775807) (w : World) (SO : Lib.TabIs Tryz.prog w "internal/strconv.uint64pow10" .u64 Lib.pow10Tab) :
    Calls Tryz.prog 255 #[.int .i64 n] w λe w'=>e=.returned (.string ⟨(Lib.itoa n).toArray⟩)/\∃k os,w'=grow (w.drewN k) os:=Any.strconv_Itoa Tryz.laysM171 n h0 h1 w SO
def Tryz.lays189_ren:Go.Shelf.Ren:=⟨fun|189=>219|125=>164|257=>249|128=>211|129=>212|294=>278|295=>279|296=>280|297=>281|298=>282|299=>283|216=>228|300=>284|301=>285|328=>302|329=>303|330=>304|331=>305|332=>306|215=>259|343=>322|n=>n,fun|28=>123|3=>3|46=>93|0=>0|51=>202|53=>230|4=>4|183=>350|182=>349|131=>265|5=>5|9=>9|218=>377|222=>381|228=>398|229=>358|n=>n,fun|n=>n⟩
theorem Tryz.lays189:Go.Proofs.Lays.n189 Tryz.prog Tryz.lays189_ren:=by repeat' first|kernel_rfl|decide|intro _|constructor
open Go.Sort Go.RowKit in
theorem Tryz.slices_Sort_int (EW off cap : Nat) (zs : List Int) (w : World) (hH : Holds (Value.int .i64) w EW off zs.toArray) (Pw : EW < w.heap.size) (ag : zs.length < 4611686018427387904) :
    Calls Tryz.prog 219 #[.slice (some ⟨EW,off,none⟩) zs.length cap] w λe w'=>
      e=.returned (.tuple #[])/\∃n os,w'=grow (putRow (Value.int .i64) (Sort.ahead w n) EW off (zs.mergeSort λx y=>decide (x<=y)).toArray) os:=Any.slices_Sort_int Tryz.lays189 EW off cap zs w hH Pw ag
def Tryz.lays105_ren:Go.Shelf.Ren:=⟨fun|105=>72|212=>108|99=>109|165=>110|166=>111|170=>112|169=>113|263=>153|264=>154|206=>155|240=>156|241=>157|276=>200|277=>201|n=>n,fun|9=>9|3=>3|4=>4|20=>20|0=>0|46=>93|109=>174|5=>5|72=>179|76=>183|51=>202|146=>228|53=>230|148=>231|70=>177|37=>88|75=>182|127=>233|164=>275|80=>165|n=>n,fun|n=>n⟩
theorem Tryz.lays105:Go.Proofs.Lays.n105 Tryz.prog Tryz.lays105_ren:=by repeat' first|kernel_rfl|decide|intro _|constructor
theorem Tryz.Builder_Extra_105:Builder.Extra Tryz.prog Tryz.lays105_ren:=by repeat' first|kernel_rfl|decide|intro _|constructor
open Go.RowKit Go.Lib in
theorem Tryz.strings_Repeat (s : ByteArray) (c : Nat) (w : World) (hc : c <= 9223372036854775807) (hlen : s.size * c <= 140737488355328) :
    Calls Tryz.prog 72 #[.string s,.int .i64 c] w λe w'=>e=.returned (.string ⟨(Lib.repeatL s.data.toList c).toArray⟩)/\Below w.heap.size w w':=Any.strings_Repeat Tryz.lays105 Tryz.Builder_Extra_105 s c w hc hlen
def Tryz.laysNm225_ren:Go.Shelf.Ren:=⟨fun|25=>194|31=>228|32=>229|37=>259|n=>n,fun|22=>123|3=>3|4=>4|40=>93|0=>0|n=>n,fun|n=>n⟩
theorem Tryz.laysNm225:Go.Proofs.Lays2.n25 Tryz.prog Tryz.laysNm225_ren:=by repeat' first|kernel_rfl|decide|intro _|constructor
open Go.RowKit Go.Lib in
theorem Tryz.slices_BinarySearch_int (b off n c : Nat) (zs : List Int) (x : Int) (w : World) (hz : n <= zs.length) (fT : n < 4611686018427387904) (hc : ∀ j, j < zs.length -> w.cell? ⟨b, off + j, none⟩ = some (.int .i64 (zs.getD j 0))) (hs : (zs.take n).Pairwise (· <= ·)) :
    Calls Tryz.prog 194 #[.slice (some ⟨b,off,none⟩) n c,.int .i64 x] w λe w'=>e=.returned (.tuple #[.int .i64 ((zs.take n).countP (· <x):Nat),.bool ((zs.take n).contains x)])/\∃q,w'=w.drewN q:=Any.slices_BinarySearch_int Tryz.laysNm225 b off n c zs x w hz fT hc hs
open Go.RowKit Go.Sort in
theorem Tryz.slices_Sort_int_none (p : Option Addr) (cap : Nat) (w : World) :
    Calls Tryz.prog 219 #[.slice p 0 cap] w λe w'=>e=.returned (.tuple #[])/\w'=w:=Any.slices_Sort_int_none Tryz.lays189 p cap w
open Go.RowKit Go.Lib in
theorem Tryz.slices_BinarySearch_int_empty (a : Option Addr) (c : Nat) (x : Int) (w : World) :
    Calls Tryz.prog 194 #[.slice a 0 c,.int .i64 x] w λe w'=>e=.returned (.tuple #[.int .i64 0,.bool false])/\w'=w:=Any.slices_BinarySearch_int_empty Tryz.laysNm225 a c x w
end Go.Proofs
