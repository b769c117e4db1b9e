import Derived.Shelf.Strings.Builder1
import Derived.Shelf.Strings.Builder2
import Derived.Shelf.Small.Utf8
import Derived.Shelf.Small.Bits
import Derived.Shelf.Small.Strs
import Derived.Shelf.Small.Wraps
import Derived.Shelf.Strings.BuilderF
import Derived.Shelf.Strconv.Itoa0
import Derived.Shelf.Strconv.Itoa1
import Derived.Shelf.LaysM
import Derived.Shelf.Strconv.Itoa2
import Derived.Shelf.Strconv.Itoa3
import Derived.Shelf.Strings.Search1
import Derived.Shelf.Sort.Plain
import Derived.Shelf.Strings.Prefix
import Derived.Shelf.Strings.Runes
import Derived.Shelf.Bits.Mul64
import Derived.Shelf.Strings.Repeat
import Derived.Shelf.Slices.Turned
import Derived.Ground.Names2Prog
import Derived.Shelf.Slices.SearchI
import Derived.Shelf.Slices.In.SortNone
import Derived.Shelf.Slices.Empties
import Derived.Test.YtikecoijpkmnbaaGreatDoorProg
namespace Go.Proofs
open Go.Shelf
def Tryz.lays125_ren:Go.Shelf.Ren:=⟨fun|125=>154|128=>200|129=>201|n=>n,fun|46=>76|3=>3|51=>202|53=>223|4=>4|5=>5|9=>9|n=>n,fun|n=>n⟩
theorem Tryz.lays125:Go.Proofs.Lays.n125 Tryz.prog Tryz.lays125_ren:=by repeat' first|kernel_rfl|decide|intro _|constructor
theorem Tryz.bits_Len (x : Int) (w : World) (h0 : 0 <= x) (h1 : x <= 18446744073709551615) :
    Calls Tryz.prog 154 #[.int .u64 x] w λe w'=>e=.returned (.int .i64 (Lib.bitLen x.toNat))/\w'=w:=Any.bits_Len Tryz.lays125 x w h0 h1
def Tryz.lays136_ren:Go.Shelf.Ren:=⟨fun|136=>277|n=>n,fun|5=>5|3=>3|9=>9|n=>n,fun|n=>n⟩
theorem Tryz.lays136:Go.Proofs.Lays.n136 Tryz.prog Tryz.lays136_ren:=by repeat' first|kernel_rfl|decide|intro _|constructor
theorem Tryz.bits_TrailingZeros8 (x : Int) (w : World) (h0 : 0 <= x) (h1 : x <= 255) :
    Calls Tryz.prog 277 #[.int .u8 x] w λe w'=>e=.returned (.int .i64 (Lib.trailingZeros8 x.toNat))/\w'=w:=Any.bits_TrailingZeros8 Tryz.lays136 x w h0 h1
def Tryz.laysM246_ren:Go.Shelf.Ren:=⟨fun|246=>303|283=>334|284=>335|285=>336|286=>337|129=>201|317=>341|318=>342|319=>343|320=>344|337=>346|338=>347|n=>n,fun|2=>2|3=>3|9=>9|4=>4|171=>393|0=>0|53=>223|37=>110|5=>5|173=>395|212=>398|51=>202|20=>20|213=>399|46=>76|232=>404|233=>405|n=>n,fun|17=>1|18=>4|19=>5|n=>n⟩
def Tryz.laysM243_ren:Go.Shelf.Ren:=⟨fun|243=>283|246=>303|283=>334|284=>335|285=>336|286=>337|129=>201|317=>341|318=>342|319=>343|320=>344|337=>346|338=>347|n=>n,fun|3=>3|9=>9|2=>2|4=>4|171=>393|0=>0|53=>223|37=>110|5=>5|173=>395|212=>398|51=>202|20=>20|213=>399|46=>76|232=>404|233=>405|n=>n,fun|17=>1|18=>4|19=>5|n=>n⟩
def Tryz.laysM171_ren:Go.Shelf.Ren:=⟨fun|171=>256|243=>283|246=>303|283=>334|284=>335|285=>336|286=>337|129=>201|317=>341|318=>342|319=>343|320=>344|337=>346|338=>347|n=>n,fun|3=>3|9=>9|2=>2|4=>4|171=>393|0=>0|53=>223|37=>110|5=>5|173=>395|212=>398|51=>202|20=>20|213=>399|46=>76|232=>404|233=>405|n=>n,fun|17=>1|18=>4|19=>5|n=>n⟩
theorem Tryz.laysM171:Go.Proofs.LaysM.n171 Tryz.prog Tryz.laysM171_ren:=by repeat' first|kernel_rfl|decide|intro _|constructor
open Go.RowKit Go.Sort Go.Lib in
theorem Tryz.strconv_Itoa (n : Int) (h0 : -9223372036854775808 <= n) (h1 : n <= 9223372036854775807) (w : World) (SO : Lib.TabIs Tryz.prog w "internal/strconv.uint64pow10" .u64 Lib.pow10Tab) :
    Calls Tryz.prog 256 #[.int .i64 n] w λe w'=>e=.returned (.string ⟨(Lib.itoa n).toArray⟩)/\∃k os,w'=grow (w.drewN k) os:=Any.strconv_Itoa Tryz.laysM171 n h0 h1 w SO
def Tryz.lays189_ren:Go.Shelf.Ren:=⟨fun|189=>188|125=>154|257=>229|128=>200|129=>201|294=>259|295=>260|296=>261|297=>262|298=>263|299=>264|216=>204|300=>265|301=>266|328=>285|329=>286|330=>287|331=>288|332=>289|215=>234|343=>305|n=>n,fun|28=>103|3=>3|46=>76|0=>0|51=>202|53=>223|4=>4|183=>338|182=>337|131=>253|5=>5|9=>9|218=>366|222=>370|228=>387|229=>345|n=>n,fun|n=>n⟩
theorem Tryz.lays189:Go.Proofs.Lays.n189 Tryz.prog Tryz.lays189_ren:=by repeat' first|kernel_rfl|decide|intro _|constructor
open Go.Sort Go.RowKit in
theorem Tryz.slices_Sort_int (EW off cap : Nat) (zs : List Int) (w : World) (hH : Holds (Value.int .i64) w EW off zs.toArray) (Pw : EW < w.heap.size) (ag : zs.length < 4611686018427387904) :
    Calls Tryz.prog 188 #[.slice (some ⟨EW,off,none⟩) zs.length cap] w λe w'=>
      e=.returned (.tuple #[])/\∃n os,w'=grow (putRow (Value.int .i64) (Sort.ahead w n) EW off (zs.mergeSort λx y=>decide (x<=y)).toArray) os:=Any.slices_Sort_int Tryz.lays189 EW off cap zs w hH Pw ag
def Tryz.lays105_ren:Go.Shelf.Ren:=⟨fun|105=>65|212=>99|99=>100|165=>101|166=>102|170=>103|169=>104|263=>142|264=>143|206=>144|240=>145|241=>146|276=>189|277=>190|n=>n,fun|9=>9|3=>3|4=>4|20=>20|0=>0|46=>76|109=>170|5=>5|72=>175|76=>179|51=>202|146=>221|53=>223|148=>224|70=>173|37=>110|75=>178|127=>226|164=>270|80=>143|n=>n,fun|n=>n⟩
theorem Tryz.lays105:Go.Proofs.Lays.n105 Tryz.prog Tryz.lays105_ren:=by repeat' first|kernel_rfl|decide|intro _|constructor
theorem Tryz.Builder_Extra_105:Builder.Extra Tryz.prog Tryz.lays105_ren:=by repeat' first|kernel_rfl|decide|intro _|constructor
open Go.RowKit Go.Lib in
theorem Tryz.strings_Repeat (s : ByteArray) (c : Nat) (w : World) (hc : c <= 9223372036854775807) (hlen : s.size * c <= 140737488355328) :
    Calls Tryz.prog 65 #[.string s,.int .i64 c] w λe w'=>e=.returned (.string ⟨(Lib.repeatL s.data.toList c).toArray⟩)/\Below w.heap.size w w':=Any.strings_Repeat Tryz.lays105 Tryz.Builder_Extra_105 s c w hc hlen
def Tryz.laysNm225_ren:Go.Shelf.Ren:=⟨fun|25=>160|31=>204|32=>205|37=>234|n=>n,fun|22=>103|3=>3|4=>4|40=>76|0=>0|n=>n,fun|n=>n⟩
theorem Tryz.laysNm225:Go.Proofs.Lays2.n25 Tryz.prog Tryz.laysNm225_ren:=by repeat' first|kernel_rfl|decide|intro _|constructor
open Go.RowKit Go.Lib in
theorem Tryz.slices_BinarySearch_int (b off n c : Nat) (zs : List Int) (x : Int) (w : World) (hz : n <= zs.length) (fT : n < 4611686018427387904) (hc : ∀ j, j < zs.length -> w.cell? ⟨b, off + j, none⟩ = some (.int .i64 (zs.getD j 0))) (hs : (zs.take n).Pairwise (· <= ·)) :
    Calls Tryz.prog 160 #[.slice (some ⟨b,off,none⟩) n c,.int .i64 x] w λe w'=>e=.returned (.tuple #[.int .i64 ((zs.take n).countP (· <x):Nat),.bool ((zs.take n).contains x)])/\∃q,w'=w.drewN q:=Any.slices_BinarySearch_int Tryz.laysNm225 b off n c zs x w hz fT hc hs
open Go.RowKit Go.Sort in
theorem Tryz.slices_Sort_int_none (p : Option Addr) (cap : Nat) (w : World) :
    Calls Tryz.prog 188 #[.slice p 0 cap] w λe w'=>e=.returned (.tuple #[])/\w'=w:=Any.slices_Sort_int_none Tryz.lays189 p cap w
open Go.RowKit Go.Lib in
theorem Tryz.slices_BinarySearch_int_empty (a : Option Addr) (c : Nat) (x : Int) (w : World) :
    Calls Tryz.prog 160 #[.slice a 0 c,.int .i64 x] w λe w'=>e=.returned (.tuple #[.int .i64 0,.bool false])/\w'=w:=Any.slices_BinarySearch_int_empty Tryz.laysNm225 a c x w
end Go.Proofs
