import Derived.Shelf.Strings.Builder1
import Derived.Shelf.Strings.Builder2
import Derived.Shelf.Small.Utf8
import Derived.Shelf.Small.Bits
import Derived.Shelf.Small.Strs
import Derived.Shelf.Small.Wraps
import Derived.Shelf.Strings.BuilderF
import Derived.Shelf.Strconv.Itoa0
import Derived.Shelf.Strconv.Itoa1
import Derived.Shelf.LaysM
import Derived.Shelf.Strconv.Itoa2
import Derived.Shelf.Strconv.Itoa3
import Derived.Shelf.Strings.Search1
import Derived.Shelf.Sort.Plain
import Derived.Shelf.Strings.Prefix
import Derived.Shelf.Strings.Runes
import Derived.Shelf.Bits.Mul64
import Derived.Shelf.Strings.Repeat
import Derived.Shelf.Slices.Turned
import Derived.Ground.Names2Prog
import Derived.Shelf.Slices.SearchI
import Derived.Shelf.Slices.In.SortNone
import Derived.Shelf.Slices.Empties
import Derived.Test.YtchokmkfobandaaGreatDoorProg
namespace Go.Proofs
open Go.Shelf
def Tryz.lays125_ren:Go.Shelf.Ren:=⟨fun|125=>178|128=>219|129=>220|n=>n,fun|46=>116|3=>3|51=>184|53=>288|4=>4|5=>5|9=>9|n=>n,fun|n=>n⟩
theorem Tryz.lays125:Go.Proofs.Lays.n125 Tryz.prog Tryz.lays125_ren:= {
  mixed:=by kernel_rfl
  f125:=Tryz.func178.trans (congrArg some (by kernel_rfl))
  f128:=Tryz.func219.trans (congrArg some (by kernel_rfl))
  f129:=Tryz.func220.trans (congrArg some (by kernel_rfl))
  t3:=Tryz.underlying3
  a3:=Tryz.isAgg3
  z3:=Tryz.sizeOf3
  v3:=Tryz.zeroValue3
  t4:=Tryz.underlying4
  a4:=Tryz.isAgg4
  z4:=Tryz.sizeOf4
  v4:=Tryz.zeroValue4
  t5:=Tryz.underlying5
  a5:=Tryz.isAgg5
  z5:=Tryz.sizeOf5
  v5:=Tryz.zeroValue5
  t9:=Tryz.underlying9
  a9:=Tryz.isAgg9
  z9:=Tryz.sizeOf9
  v9:=Tryz.zeroValue9
  t46:=Tryz.underlying116
  a46:=Tryz.isAgg116
  z46:=Tryz.sizeOf116
  v46:=Tryz.zeroValue116
  t51:=Tryz.underlying184
  a51:=Tryz.isAgg184
  z51:=Tryz.sizeOf184
  v51:=Tryz.zeroValue184
  t53:=Tryz.underlying288
  a53:=Tryz.isAgg288
  z53:=Tryz.sizeOf288
  v53:=Tryz.zeroValue288 }
theorem Tryz.bits_Len (x : Int) (w : World) (h0 : 0 <= x) (h1 : x <= 18446744073709551615) :
    Calls Tryz.prog 178 #[.int .u64 x] w λe w'=>e=.returned (.int .i64 (Lib.bitLen x.toNat))/\w'=w:=Any.bits_Len Tryz.lays125 x w h0 h1
def Tryz.lays136_ren:Go.Shelf.Ren:=⟨fun|136=>244|n=>n,fun|5=>5|3=>3|9=>9|n=>n,fun|n=>n⟩
theorem Tryz.lays136:Go.Proofs.Lays.n136 Tryz.prog Tryz.lays136_ren:= {
  mixed:=by kernel_rfl
  f136:=Tryz.func244.trans (congrArg some (by kernel_rfl))
  t3:=Tryz.underlying3
  a3:=Tryz.isAgg3
  z3:=Tryz.sizeOf3
  v3:=Tryz.zeroValue3
  t5:=Tryz.underlying5
  a5:=Tryz.isAgg5
  z5:=Tryz.sizeOf5
  v5:=Tryz.zeroValue5
  t9:=Tryz.underlying9
  a9:=Tryz.isAgg9
  z9:=Tryz.sizeOf9
  v9:=Tryz.zeroValue9 }
theorem Tryz.bits_TrailingZeros8 (x : Int) (w : World) (h0 : 0 <= x) (h1 : x <= 255) :
    Calls Tryz.prog 244 #[.int .u8 x] w λe w'=>e=.returned (.int .i64 (Lib.trailingZeros8 x.toNat))/\w'=w:=Any.bits_TrailingZeros8 Tryz.lays136 x w h0 h1
def Tryz.laysM246_ren:Go.Shelf.Ren:=⟨fun|246=>271|283=>305|284=>306|285=>307|286=>308|129=>220|317=>312|318=>313|319=>314|320=>315|337=>316|338=>317|n=>n,fun|2=>2|3=>3|9=>9|4=>4|171=>343|0=>0|53=>288|37=>115|5=>5|173=>345|212=>348|51=>184|20=>20|213=>349|46=>116|232=>354|233=>355|n=>n,fun|17=>1|18=>4|19=>5|n=>n⟩
def Tryz.laysM243_ren:Go.Shelf.Ren:=⟨fun|243=>242|246=>271|283=>305|284=>306|285=>307|286=>308|129=>220|317=>312|318=>313|319=>314|320=>315|337=>316|338=>317|n=>n,fun|3=>3|9=>9|2=>2|4=>4|171=>343|0=>0|53=>288|37=>115|5=>5|173=>345|212=>348|51=>184|20=>20|213=>349|46=>116|232=>354|233=>355|n=>n,fun|17=>1|18=>4|19=>5|n=>n⟩
def Tryz.laysM171_ren:Go.Shelf.Ren:=⟨fun|171=>198|243=>242|246=>271|283=>305|284=>306|285=>307|286=>308|129=>220|317=>312|318=>313|319=>314|320=>315|337=>316|338=>317|n=>n,fun|3=>3|9=>9|2=>2|4=>4|171=>343|0=>0|53=>288|37=>115|5=>5|173=>345|212=>348|51=>184|20=>20|213=>349|46=>116|232=>354|233=>355|n=>n,fun|17=>1|18=>4|19=>5|n=>n⟩
theorem Tryz.laysM171:Go.Proofs.LaysM.n171 Tryz.prog Tryz.laysM171_ren:= {
  mixed:=by kernel_rfl
  f129:=Tryz.func220.trans (congrArg some (by kernel_rfl))
  f171:=Tryz.func198.trans (congrArg some (by kernel_rfl))
  f243:=Tryz.func242.trans (congrArg some (by kernel_rfl))
  f246:=Tryz.func271.trans (congrArg some (by kernel_rfl))
  f283:=Tryz.func305.trans (congrArg some (by kernel_rfl))
  f284:=Tryz.func306.trans (congrArg some (by kernel_rfl))
  f285:=Tryz.func307.trans (congrArg some (by kernel_rfl))
  f286:=Tryz.func308.trans (congrArg some (by kernel_rfl))
  f317:=Tryz.func312.trans (congrArg some (by kernel_rfl))
  f318:=Tryz.func313.trans (congrArg some (by kernel_rfl))
  f319:=Tryz.func314.trans (congrArg some (by kernel_rfl))
  f320:=Tryz.func315.trans (congrArg some (by kernel_rfl))
  f337:=Tryz.func316.trans (congrArg some (by kernel_rfl))
  f338:=Tryz.func317.trans (congrArg some (by kernel_rfl))
  t0:=Tryz.underlying0
  a0:=Tryz.isAgg0
  z0:=Tryz.sizeOf0
  v0:=Tryz.zeroValue0
  t2:=Tryz.underlying2
  a2:=Tryz.isAgg2
  z2:=Tryz.sizeOf2
  v2:=Tryz.zeroValue2
  t3:=Tryz.underlying3
  a3:=Tryz.isAgg3
  z3:=Tryz.sizeOf3
  v3:=Tryz.zeroValue3
  t4:=Tryz.underlying4
  a4:=Tryz.isAgg4
  z4:=Tryz.sizeOf4
  v4:=Tryz.zeroValue4
  t5:=Tryz.underlying5
  a5:=Tryz.isAgg5
  z5:=Tryz.sizeOf5
  v5:=Tryz.zeroValue5
  t9:=Tryz.underlying9
  a9:=Tryz.isAgg9
  z9:=Tryz.sizeOf9
  v9:=Tryz.zeroValue9
  t20:=Tryz.underlying20
  a20:=Tryz.isAgg20
  z20:=Tryz.sizeOf20
  v20:=Tryz.zeroValue20
  t37:=Tryz.underlying115
  a37:=Tryz.isAgg115
  z37:=Tryz.sizeOf115
  v37:=Tryz.zeroValue115
  t46:=Tryz.underlying116
  a46:=Tryz.isAgg116
  z46:=Tryz.sizeOf116
  v46:=Tryz.zeroValue116
  t51:=Tryz.underlying184
  a51:=Tryz.isAgg184
  z51:=Tryz.sizeOf184
  v51:=Tryz.zeroValue184
  t53:=Tryz.underlying288
  a53:=Tryz.isAgg288
  z53:=Tryz.sizeOf288
  v53:=Tryz.zeroValue288
  t171:=Tryz.underlying343
  a171:=Tryz.isAgg343
  z171:=Tryz.sizeOf343
  v171:=Tryz.zeroValue343
  t173:=Tryz.underlying345
  a173:=Tryz.isAgg345
  z173:=Tryz.sizeOf345
  v173:=Tryz.zeroValue345
  t212:=Tryz.underlying348
  a212:=Tryz.isAgg348
  z212:=Tryz.sizeOf348
  v212:=Tryz.zeroValue348
  t213:=Tryz.underlying349
  a213:=Tryz.isAgg349
  z213:=Tryz.sizeOf349
  t232:=Tryz.underlying354
  a232:=Tryz.isAgg354
  z232:=Tryz.sizeOf354
  v232:=Tryz.zeroValue354
  t233:=Tryz.underlying355
  a233:=Tryz.isAgg355
  z233:=Tryz.sizeOf355
  v233:=Tryz.zeroValue355
  g17:=by kernel_rfl
  g18:=by kernel_rfl
  g19:=by kernel_rfl
  i0:=by kernel_rfl
  i2:=by kernel_rfl
  i3:=by kernel_rfl
  i4:=by kernel_rfl
  i5:=by kernel_rfl
  i9:=by kernel_rfl
  i20:=by kernel_rfl
  i37:=by kernel_rfl
  i46:=by kernel_rfl
  i51:=by kernel_rfl
  i53:=by kernel_rfl
  i171:=by kernel_rfl
  i173:=by kernel_rfl
  i212:=by kernel_rfl
  i232:=by kernel_rfl
  i233:=by kernel_rfl
  m17:=by kernel_rfl
  m18:=by kernel_rfl
  m19:=by kernel_rfl }
open Go.RowKit Go.Sort Go.Lib in
theorem Tryz.strconv_Itoa (n : Int) (h0 : -9223372036854775808 <= n) (h1 : n <= 9223372036854775807) (w : World) (KN : Lib.TabIs Tryz.prog w "internal/strconv.uint64pow10" .u64 Lib.pow10Tab) :
    Calls Tryz.prog 198 #[.int .i64 n] w λe w'=>e=.returned (.string ⟨(Lib.itoa n).toArray⟩)/\∃k os,w'=grow (w.drewN k) os:=Any.strconv_Itoa Tryz.laysM171 n h0 h1 w KN
def Tryz.lays189_ren:Go.Shelf.Ren:=⟨fun|189=>144|125=>178|257=>186|128=>219|129=>220|294=>226|295=>227|296=>228|297=>229|298=>230|299=>231|216=>117|300=>232|301=>233|328=>254|329=>255|330=>256|331=>257|332=>258|215=>161|343=>300|n=>n,fun|28=>31|3=>3|46=>116|0=>0|51=>184|53=>288|4=>4|183=>295|182=>294|131=>120|5=>5|9=>9|218=>314|222=>318|228=>339|229=>222|n=>n,fun|n=>n⟩
theorem Tryz.lays189:Go.Proofs.Lays.n189 Tryz.prog Tryz.lays189_ren:= {
  mixed:=by kernel_rfl
  f125:=Tryz.func178.trans (congrArg some (by kernel_rfl))
  f128:=Tryz.func219.trans (congrArg some (by kernel_rfl))
  f129:=Tryz.func220.trans (congrArg some (by kernel_rfl))
  f189:=Tryz.func144.trans (congrArg some (by kernel_rfl))
  f215:=Tryz.func161.trans (congrArg some (by kernel_rfl))
  f216:=Tryz.func117.trans (congrArg some (by kernel_rfl))
  f257:=Tryz.func186.trans (congrArg some (by kernel_rfl))
  f294:=Tryz.func226.trans (congrArg some (by kernel_rfl))
  f295:=Tryz.func227.trans (congrArg some (by kernel_rfl))
  f296:=Tryz.func228.trans (congrArg some (by kernel_rfl))
  f297:=Tryz.func229.trans (congrArg some (by kernel_rfl))
  f298:=Tryz.func230.trans (congrArg some (by kernel_rfl))
  f299:=Tryz.func231.trans (congrArg some (by kernel_rfl))
  f300:=Tryz.func232.trans (congrArg some (by kernel_rfl))
  f301:=Tryz.func233.trans (congrArg some (by kernel_rfl))
  f328:=Tryz.func254.trans (congrArg some (by kernel_rfl))
  f329:=Tryz.func255.trans (congrArg some (by kernel_rfl))
  f330:=Tryz.func256.trans (congrArg some (by kernel_rfl))
  f331:=Tryz.func257.trans (congrArg some (by kernel_rfl))
  f332:=Tryz.func258.trans (congrArg some (by kernel_rfl))
  f343:=Tryz.func300.trans (congrArg some (by kernel_rfl))
  t0:=Tryz.underlying0
  a0:=Tryz.isAgg0
  z0:=Tryz.sizeOf0
  v0:=Tryz.zeroValue0
  t3:=Tryz.underlying3
  a3:=Tryz.isAgg3
  z3:=Tryz.sizeOf3
  v3:=Tryz.zeroValue3
  t4:=Tryz.underlying4
  a4:=Tryz.isAgg4
  z4:=Tryz.sizeOf4
  v4:=Tryz.zeroValue4
  t5:=Tryz.underlying5
  a5:=Tryz.isAgg5
  z5:=Tryz.sizeOf5
  v5:=Tryz.zeroValue5
  t9:=Tryz.underlying9
  a9:=Tryz.isAgg9
  z9:=Tryz.sizeOf9
  v9:=Tryz.zeroValue9
  t28:=Tryz.underlying31
  a28:=Tryz.isAgg31
  z28:=Tryz.sizeOf31
  v28:=Tryz.zeroValue31
  t46:=Tryz.underlying116
  a46:=Tryz.isAgg116
  z46:=Tryz.sizeOf116
  v46:=Tryz.zeroValue116
  t51:=Tryz.underlying184
  a51:=Tryz.isAgg184
  z51:=Tryz.sizeOf184
  v51:=Tryz.zeroValue184
  t53:=Tryz.underlying288
  a53:=Tryz.isAgg288
  z53:=Tryz.sizeOf288
  v53:=Tryz.zeroValue288
  t131:=Tryz.underlying120
  a131:=Tryz.isAgg120
  z131:=Tryz.sizeOf120
  v131:=Tryz.zeroValue120
  t182:=Tryz.underlying294
  a182:=Tryz.isAgg294
  z182:=Tryz.sizeOf294
  v182:=Tryz.zeroValue294
  t183:=Tryz.underlying295
  a183:=Tryz.isAgg295
  z183:=Tryz.sizeOf295
  v183:=Tryz.zeroValue295
  t218:=Tryz.underlying314
  a218:=Tryz.isAgg314
  z218:=Tryz.sizeOf314
  v218:=Tryz.zeroValue314
  t222:=Tryz.underlying318
  a222:=Tryz.isAgg318
  z222:=Tryz.sizeOf318
  v222:=Tryz.zeroValue318
  t228:=Tryz.underlying339
  a228:=Tryz.isAgg339
  z228:=Tryz.sizeOf339
  v228:=Tryz.zeroValue339
  t229:=Tryz.underlying222
  a229:=Tryz.isAgg222
  z229:=Tryz.sizeOf222
  v229:=Tryz.zeroValue222 }
open Go.Sort Go.RowKit in
theorem Tryz.slices_Sort_int (Dj off cap : Nat) (zs : List Int) (w : World) (hH : Holds (Value.int .i64) w Dj off zs.toArray) (KO : Dj < w.heap.size) (ad : zs.length < 4611686018427387904) :
    Calls Tryz.prog 144 #[.slice (some ⟨Dj,off,none⟩) zs.length cap] w λe w'=>
      e=.returned (.tuple #[])/\∃n os,w'=grow (putRow (Value.int .i64) (Sort.ahead w n) Dj off (zs.mergeSort λx y=>decide (x<=y)).toArray) os:=Any.slices_Sort_int Tryz.lays189 Dj off cap zs w hH KO ad
def Tryz.lays105_ren:Go.Shelf.Ren:=⟨fun|105=>146|212=>187|99=>188|165=>189|166=>190|170=>191|169=>192|263=>234|264=>235|206=>236|240=>237|241=>238|276=>259|277=>260|n=>n,fun|9=>9|3=>3|4=>4|20=>20|0=>0|46=>116|109=>244|5=>5|72=>249|76=>253|51=>184|146=>300|53=>288|148=>302|70=>247|37=>115|75=>252|127=>304|164=>320|80=>63|n=>n,fun|n=>n⟩
theorem Tryz.lays105:Go.Proofs.Lays.n105 Tryz.prog Tryz.lays105_ren:= {
  mixed:=by kernel_rfl
  f99:=Tryz.func188.trans (congrArg some (by kernel_rfl))
  f105:=Tryz.func146.trans (congrArg some (by kernel_rfl))
  f165:=Tryz.func189.trans (congrArg some (by kernel_rfl))
  f166:=Tryz.func190.trans (congrArg some (by kernel_rfl))
  f169:=Tryz.func192.trans (congrArg some (by kernel_rfl))
  f170:=Tryz.func191.trans (congrArg some (by kernel_rfl))
  f206:=Tryz.func236.trans (congrArg some (by kernel_rfl))
  f212:=Tryz.func187.trans (congrArg some (by kernel_rfl))
  f240:=Tryz.func237.trans (congrArg some (by kernel_rfl))
  f241:=Tryz.func238.trans (congrArg some (by kernel_rfl))
  f263:=Tryz.func234.trans (congrArg some (by kernel_rfl))
  f264:=Tryz.func235.trans (congrArg some (by kernel_rfl))
  f276:=Tryz.func259.trans (congrArg some (by kernel_rfl))
  f277:=Tryz.func260.trans (congrArg some (by kernel_rfl))
  t0:=Tryz.underlying0
  a0:=Tryz.isAgg0
  z0:=Tryz.sizeOf0
  v0:=Tryz.zeroValue0
  t3:=Tryz.underlying3
  a3:=Tryz.isAgg3
  z3:=Tryz.sizeOf3
  v3:=Tryz.zeroValue3
  t4:=Tryz.underlying4
  a4:=Tryz.isAgg4
  z4:=Tryz.sizeOf4
  v4:=Tryz.zeroValue4
  t5:=Tryz.underlying5
  a5:=Tryz.isAgg5
  z5:=Tryz.sizeOf5
  v5:=Tryz.zeroValue5
  t9:=Tryz.underlying9
  a9:=Tryz.isAgg9
  z9:=Tryz.sizeOf9
  v9:=Tryz.zeroValue9
  t20:=Tryz.underlying20
  a20:=Tryz.isAgg20
  z20:=Tryz.sizeOf20
  v20:=Tryz.zeroValue20
  t37:=Tryz.underlying115
  a37:=Tryz.isAgg115
  z37:=Tryz.sizeOf115
  v37:=Tryz.zeroValue115
  t46:=Tryz.underlying116
  a46:=Tryz.isAgg116
  z46:=Tryz.sizeOf116
  v46:=Tryz.zeroValue116
  t51:=Tryz.underlying184
  a51:=Tryz.isAgg184
  z51:=Tryz.sizeOf184
  v51:=Tryz.zeroValue184
  t53:=Tryz.underlying288
  a53:=Tryz.isAgg288
  z53:=Tryz.sizeOf288
  v53:=Tryz.zeroValue288
  t70:=Tryz.underlying247
  a70:=Tryz.isAgg247
  z70:=Tryz.sizeOf247
  v70:=Tryz.zeroValue247
  t72:=Tryz.underlying249
  a72:=Tryz.isAgg249
  z72:=Tryz.sizeOf249
  v72:=Tryz.zeroValue249
  t75:=Tryz.underlying252
  a75:=Tryz.isAgg252
  z75:=Tryz.sizeOf252
  v75:=Tryz.zeroValue252
  t76:=Tryz.underlying253
  a76:=Tryz.isAgg253
  z76:=Tryz.sizeOf253
  v76:=Tryz.zeroValue253
  t109:=Tryz.underlying244
  a109:=Tryz.isAgg244
  z109:=Tryz.sizeOf244
  v109:=Tryz.zeroValue244
  t127:=Tryz.underlying304
  a127:=Tryz.isAgg304
  z127:=Tryz.sizeOf304
  v127:=Tryz.zeroValue304
  t146:=Tryz.underlying300
  a146:=Tryz.isAgg300
  z146:=Tryz.sizeOf300
  v146:=Tryz.zeroValue300
  t148:=Tryz.underlying302
  a148:=Tryz.isAgg302
  z148:=Tryz.sizeOf302
  v148:=Tryz.zeroValue302
  t164:=Tryz.underlying320
  a164:=Tryz.isAgg320
  z164:=Tryz.sizeOf320
  v164:=Tryz.zeroValue320 }
theorem Tryz.Builder_Extra_105:Builder.Extra Tryz.prog Tryz.lays105_ren:= {
  sizeBuilder:=by kernel_rfl
  liesBuilder:=by kernel_rfl
  t5:=Tryz.underlying5
  a5:=Tryz.isAgg5
  z5:=Tryz.sizeOf5
  v5:=Tryz.zeroValue5
  infoByte:=by kernel_rfl
  cellsByte:=by kernel_rfl
  sizeByte:=by kernel_rfl
  neB5:=by decide }
open Go.RowKit Go.Lib in
theorem Tryz.strings_Repeat (s : ByteArray) (c : Nat) (w : World) (hc : c <= 9223372036854775807) (hlen : s.size * c <= 140737488355328) :
    Calls Tryz.prog 146 #[.string s,.int .i64 c] w λe w'=>e=.returned (.string ⟨(Lib.repeatL s.data.toList c).toArray⟩)/\Below w.heap.size w w':=Any.strings_Repeat Tryz.lays105 Tryz.Builder_Extra_105 s c w hc hlen
def Tryz.laysNm225_ren:Go.Shelf.Ren:=⟨fun|25=>74|31=>117|32=>118|37=>161|n=>n,fun|22=>31|3=>3|4=>4|40=>116|0=>0|n=>n,fun|n=>n⟩
theorem Tryz.laysNm225:Go.Proofs.Lays2.n25 Tryz.prog Tryz.laysNm225_ren:= {
  mixed:=by kernel_rfl
  f25:=Tryz.func74.trans (congrArg some (by kernel_rfl))
  f31:=Tryz.func117.trans (congrArg some (by kernel_rfl))
  f32:=Tryz.func118.trans (congrArg some (by kernel_rfl))
  f37:=Tryz.func161.trans (congrArg some (by kernel_rfl))
  t0:=Tryz.underlying0
  a0:=Tryz.isAgg0
  z0:=Tryz.sizeOf0
  v0:=Tryz.zeroValue0
  t3:=Tryz.underlying3
  a3:=Tryz.isAgg3
  z3:=Tryz.sizeOf3
  v3:=Tryz.zeroValue3
  t4:=Tryz.underlying4
  a4:=Tryz.isAgg4
  z4:=Tryz.sizeOf4
  v4:=Tryz.zeroValue4
  t22:=Tryz.underlying31
  a22:=Tryz.isAgg31
  z22:=Tryz.sizeOf31
  v22:=Tryz.zeroValue31
  t40:=Tryz.underlying116
  a40:=Tryz.isAgg116
  z40:=Tryz.sizeOf116
  v40:=Tryz.zeroValue116 }
open Go.RowKit Go.Lib in
theorem Tryz.slices_BinarySearch_int (b off n c : Nat) (zs : List Int) (x : Int) (w : World) (hz : n <= zs.length) (ff : n < 4611686018427387904) (hc : ∀ j, j < zs.length -> w.cell? ⟨b, off + j, none⟩ = some (.int .i64 (zs.getD j 0))) (hs : (zs.take n).Pairwise (· <= ·)) :
    Calls Tryz.prog 74 #[.slice (some ⟨b,off,none⟩) n c,.int .i64 x] w λe w'=>e=.returned (.tuple #[.int .i64 ((zs.take n).countP (· <x):Nat),.bool ((zs.take n).contains x)])/\∃q,w'=w.drewN q:=Any.slices_BinarySearch_int Tryz.laysNm225 b off n c zs x w hz ff hc hs
open Go.RowKit Go.Sort in
theorem Tryz.slices_Sort_int_none (p : Option Addr) (cap : Nat) (w : World) :
    Calls Tryz.prog 144 #[.slice p 0 cap] w λe w'=>e=.returned (.tuple #[])/\w'=w:=Any.slices_Sort_int_none Tryz.lays189 p cap w
open Go.RowKit Go.Lib in
theorem Tryz.slices_BinarySearch_int_empty (a : Option Addr) (c : Nat) (x : Int) (w : World) :
    Calls Tryz.prog 74 #[.slice a 0 c,.int .i64 x] w λe w'=>e=.returned (.tuple #[.int .i64 0,.bool false])/\w'=w:=Any.slices_BinarySearch_int_empty Tryz.laysNm225 a c x w
end Go.Proofs
