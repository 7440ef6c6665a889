/- Contracts of library functions at this translation, laid by the shelf's tool; what is not used is left out. -/
import Derived.Shelf.Strings.Trim
import Derived.Shelf.Small.Bits
import Derived.Shelf.Strconv.Itoa3
import Derived.Shelf.Strings.LastIndex
import Derived.Shelf.Strings.Split
import Derived.Shelf.Strings.Repeat
import Derived.Test.YtdleakjejodjjaaGreatDoorProg
namespace Go.Proofs
open Go.Shelf Tryz
set_option maxRecDepth 9000
theorem Tryz.kh {α:Type} {x:Option α} {a b:α} (h:x=some a) (k:a=b:=by kernel_rfl):x=some b:=h.trans (congrArg some k)
def Tryz.lays162_ren:Go.Shelf.Ren:=⟨fun|162=>204|232=>276|227=>277|234=>278|236=>279|228=>352|271=>353|151=>354|120=>382|197=>383|152=>384|260=>405|137=>406|119=>407|224=>403|225=>402|217=>401|266=>416|n=>n,fun|9=>9|4=>4|3=>3|5=>5|117=>313|116=>312|0=>0|124=>316|21=>21|105=>363|46=>151|119=>417|139=>420|138=>419|n=>n,fun|3=>5|4=>6|n=>n⟩
theorem Tryz.lays162:Go.Proofs.Lays.n162 Tryz.prog Tryz.lays162_ren:=⟨by kernel_rfl,kh func407,kh func382,kh func406,kh func354,kh func384,kh func204,kh func383,kh func401,kh func403,kh func402,kh func277,kh func352,kh func276,kh func278,kh func279,kh func405,kh func416,kh func353,underlying0,isAgg0,sizeOf0,zeroValue0,underlying3,isAgg3,sizeOf3,zeroValue3,underlying4,isAgg4,sizeOf4,zeroValue4,underlying5,isAgg5,sizeOf5,zeroValue5,underlying9,isAgg9,sizeOf9,zeroValue9,underlying21,isAgg21,sizeOf21,zeroValue21,underlying151,isAgg151,sizeOf151,zeroValue151,underlying363,isAgg363,sizeOf363,zeroValue363,underlying312,isAgg312,sizeOf312,underlying313,isAgg313,sizeOf313,zeroValue313,underlying417,isAgg417,sizeOf417,underlying316,isAgg316,sizeOf316,zeroValue316,underlying419,isAgg419,sizeOf419,zeroValue419,underlying420,isAgg420,sizeOf420,zeroValue420,by kernel_rfl,by kernel_rfl⟩
open Go.RowKit in
theorem Tryz.strings_TrimRight_one (s:ByteArray) (c:UInt8) (hc:c.toNat<128) (w:World) (hs:s.size≤9223372036854775807):
  Calls Tryz.prog 204 #[.string s,.string ⟨#[c]⟩] w fun e w'=>e = .returned (.string ⟨(Lib.trimRightB s.data.toList c).toArray⟩)∧w'=w:=Any.strings_TrimRight_one Tryz.lays162 s c hc w hs
def Tryz.laysM171_ren:Go.Shelf.Ren:=⟨fun|171=>139|243=>185|246=>233|283=>309|284=>310|285=>311|286=>312|129=>137|317=>363|318=>364|319=>365|320=>366|337=>390|338=>391|n=>n,fun|3=>3|9=>9|2=>2|4=>4|171=>332|0=>0|53=>202|37=>183|5=>5|173=>334|212=>372|51=>200|20=>20|213=>373|46=>151|232=>409|233=>410|n=>n,fun|17=>0|18=>3|19=>4|n=>n⟩
theorem Tryz.laysM171:Go.Proofs.LaysM.n171 Tryz.prog Tryz.laysM171_ren:=⟨⟨by kernel_rfl,kh func137,kh func139,kh func185,kh func233,kh func309,kh func310,kh func311,kh func312,kh func363,kh func364,kh func365,kh func366,kh func390,kh func391,underlying0,isAgg0,sizeOf0,zeroValue0,underlying2,isAgg2,sizeOf2,zeroValue2,underlying3,isAgg3,sizeOf3,zeroValue3,underlying4,isAgg4,sizeOf4,zeroValue4,underlying5,isAgg5,sizeOf5,zeroValue5,underlying9,isAgg9,sizeOf9,zeroValue9,underlying20,isAgg20,sizeOf20,zeroValue20,underlying183,isAgg183,sizeOf183,zeroValue183,underlying151,isAgg151,sizeOf151,zeroValue151,underlying200,isAgg200,sizeOf200,zeroValue200,underlying202,isAgg202,sizeOf202,zeroValue202,underlying332,isAgg332,sizeOf332,zeroValue332,underlying334,isAgg334,sizeOf334,zeroValue334,underlying372,isAgg372,sizeOf372,zeroValue372,underlying373,isAgg373,sizeOf373,underlying409,isAgg409,sizeOf409,zeroValue409,underlying410,isAgg410,sizeOf410,zeroValue410,by kernel_rfl,by kernel_rfl,by kernel_rfl⟩,by kernel_rfl,by kernel_rfl,by kernel_rfl,by kernel_rfl,by kernel_rfl,by kernel_rfl,by kernel_rfl,by kernel_rfl,by kernel_rfl,by kernel_rfl,by kernel_rfl,by kernel_rfl,by kernel_rfl,by kernel_rfl,by kernel_rfl,by kernel_rfl,by kernel_rfl,by kernel_rfl,by kernel_rfl⟩
open Go.RowKit Go.Sort Go.Lib in
theorem Tryz.strconv_Itoa (n:Int) (h0 : -9223372036854775808≤n) (h1:n≤9223372036854775807) (w:World) (htab:Lib.TabIs Tryz.prog w "internal/strconv.uint64pow10" .u64 Lib.pow10Tab):
  Calls Tryz.prog 139 #[.int .i64 n] w fun e w'=>e = .returned (.string ⟨(Lib.itoa n).toArray⟩)∧∃ k os,w'=grow (w.drewN k) os:=Any.strconv_Itoa Tryz.laysM171 n h0 h1 w htab
def Tryz.lays144_ren:Go.Shelf.Ren:=⟨fun|144=>344|143=>348|219=>381|217=>401|225=>402|224=>403|267=>404|266=>416|314=>417|n=>n,fun|9=>9|4=>4|3=>3|5=>5|46=>151|146=>405|51=>200|n=>n,fun|1=>2|n=>n⟩
theorem Tryz.lays144:Go.Proofs.Lays.n144 Tryz.prog Tryz.lays144_ren:=⟨by kernel_rfl,kh func348,kh func344,kh func401,kh func381,kh func403,kh func402,kh func416,kh func404,kh func417,underlying3,isAgg3,sizeOf3,zeroValue3,underlying4,isAgg4,sizeOf4,zeroValue4,underlying5,isAgg5,sizeOf5,zeroValue5,underlying9,isAgg9,sizeOf9,zeroValue9,underlying151,isAgg151,sizeOf151,zeroValue151,underlying200,isAgg200,sizeOf200,zeroValue200,underlying405,isAgg405,sizeOf405,zeroValue405,by kernel_rfl⟩
open Go.RowKit Go.Lib in
theorem Tryz.strings_Contains_one (s:ByteArray) (c:UInt8) (w:World):
  Calls Tryz.prog 344 #[.string s,.string ⟨#[c]⟩] w fun e w'=>e = .returned (.bool (decide (0≤Lib.indexByte s.data.toList c)))∧w'=w:=Any.strings_Contains_one Tryz.lays144 s c w
open Go.RowKit Go.Lib in
theorem Tryz.strings_Contains (s sub:ByteArray) (m:Int) (w:World) (hs:s.size<4294967281) (hm:w.cell? ⟨2,0,none⟩=some (.int .i64 m)):
  Calls Tryz.prog 344 #[.string s,.string sub] w fun e w'=>e = .returned (.bool (Lib.contains s.data.toList sub.data.toList))∧w'=w:=Any.strings_Contains Tryz.lays144 s sub m w hs hm
def Tryz.lays138_ren:Go.Shelf.Ren:=⟨fun|138=>269|195=>346|218=>347|143=>348|219=>381|217=>401|225=>402|224=>403|267=>404|266=>416|314=>417|n=>n,fun|9=>9|3=>3|4=>4|5=>5|0=>0|46=>151|146=>405|51=>200|n=>n,fun|1=>2|n=>n⟩
theorem Tryz.lays138:Go.Proofs.Lays.n138 Tryz.prog Tryz.lays138_ren:=⟨by kernel_rfl,kh func269,kh func348,kh func346,kh func401,kh func347,kh func381,kh func403,kh func402,kh func416,kh func404,kh func417,underlying0,isAgg0,sizeOf0,zeroValue0,underlying3,isAgg3,sizeOf3,zeroValue3,underlying4,isAgg4,sizeOf4,zeroValue4,underlying5,isAgg5,sizeOf5,zeroValue5,underlying9,isAgg9,sizeOf9,zeroValue9,underlying151,isAgg151,sizeOf151,zeroValue151,underlying200,isAgg200,sizeOf200,zeroValue200,underlying405,isAgg405,sizeOf405,zeroValue405,by kernel_rfl⟩
open Go.RowKit Go.Lib in
theorem Tryz.strings_Count_one (s:ByteArray) (c:UInt8) (w:World):
  Calls Tryz.prog 269 #[.string s,.string ⟨#[c]⟩] w fun e w'=>e = .returned (.int .i64 (Lib.countByte s.data.toList c))∧w'=w:=Any.strings_Count_one Tryz.lays138 s c w
def Tryz.lays149_ren:Go.Shelf.Ren:=⟨fun|149=>345|222=>380|n=>n,fun|9=>9|5=>5|3=>3|4=>4|n=>n,fun|n=>n⟩
theorem Tryz.lays149:Go.Proofs.Lays.n149 Tryz.prog Tryz.lays149_ren:=⟨by kernel_rfl,kh func345,kh func380,underlying3,isAgg3,sizeOf3,zeroValue3,underlying4,isAgg4,sizeOf4,zeroValue4,underlying5,isAgg5,sizeOf5,zeroValue5,underlying9,isAgg9,sizeOf9,zeroValue9⟩
open Go.RowKit Go.Lib in
theorem Tryz.strings_LastIndexByte (s:ByteArray) (c:Int) (hs:s.size<4611686018427387904) (w:World):
  Calls Tryz.prog 345 #[.string s,.int .u8 c] w fun e w'=>e = .returned (.int .i64 (Lib.lastIndexByte s c))∧w'=w:=Any.strings_LastIndexByte Tryz.lays149 s c hs w
def Tryz.lays146_ren:Go.Shelf.Ren:=⟨fun|146=>337|221=>378|268=>400|138=>269|143=>348|195=>346|197=>383|218=>347|219=>381|260=>405|217=>401|225=>402|224=>403|267=>404|266=>416|314=>417|n=>n,fun|9=>9|31=>133|3=>3|4=>4|0=>0|105=>363|21=>21|5=>5|46=>151|119=>417|139=>420|138=>419|146=>405|51=>200|n=>n,fun|1=>2|3=>5|4=>6|n=>n⟩
theorem Tryz.lays146:Go.Proofs.Lays.n146 Tryz.prog Tryz.lays146_ren:=⟨by kernel_rfl,kh func269,kh func348,kh func337,kh func346,kh func383,kh func401,kh func347,kh func381,kh func378,kh func403,kh func402,kh func405,kh func416,kh func404,kh func400,kh func417,underlying0,isAgg0,sizeOf0,zeroValue0,underlying3,isAgg3,sizeOf3,zeroValue3,underlying4,isAgg4,sizeOf4,zeroValue4,underlying5,isAgg5,sizeOf5,zeroValue5,underlying9,isAgg9,sizeOf9,zeroValue9,underlying21,isAgg21,sizeOf21,zeroValue21,underlying133,isAgg133,sizeOf133,zeroValue133,underlying151,isAgg151,sizeOf151,zeroValue151,underlying200,isAgg200,sizeOf200,zeroValue200,underlying363,isAgg363,sizeOf363,zeroValue363,underlying417,isAgg417,sizeOf417,underlying419,isAgg419,sizeOf419,zeroValue419,underlying420,isAgg420,sizeOf420,zeroValue420,underlying405,isAgg405,sizeOf405,zeroValue405,by kernel_rfl,by kernel_rfl,by kernel_rfl⟩
open Go.RowKit Go.Lib in
theorem Tryz.strings_Split (s sep:ByteArray) (m:Int) (w:World) (hs:s.size<4294967281) (hm:w.cell? ⟨2,0,none⟩=some (.int .i64 m)) (h1:1≤sep.size):
  Calls Tryz.prog 337 #[.string s,.string sep] w fun e w'=>
   e = .returned (.slice (some ⟨w.heap.size,0,none⟩) (Lib.countB s sep+1) (Lib.countB s sep+1))∧w'=w.alloc (.cells ((Lib.splitB sep 0 (Lib.countB s sep) s).map Value.string).toArray 9):=Any.strings_Split Tryz.lays146 (by kernel_rfl) s sep m w hs hm h1
def Tryz.lays105_ren:Go.Shelf.Ren:=⟨fun|105=>356|212=>385|99=>386|165=>367|166=>368|170=>387|169=>369|263=>408|264=>409|206=>410|240=>392|241=>393|276=>412|277=>413|n=>n,fun|9=>9|3=>3|4=>4|20=>20|0=>0|46=>151|109=>393|5=>5|72=>376|76=>380|51=>200|146=>405|53=>202|148=>407|70=>374|37=>183|75=>379|127=>397|164=>411|80=>382|n=>n,fun|n=>n⟩
theorem Tryz.lays105:Go.Proofs.Lays.n105 Tryz.prog Tryz.lays105_ren:=⟨by kernel_rfl,kh func386,kh func356,kh func367,kh func368,kh func369,kh func387,kh func410,kh func385,kh func392,kh func393,kh func408,kh func409,kh func412,kh func413,underlying0,isAgg0,sizeOf0,zeroValue0,underlying3,isAgg3,sizeOf3,zeroValue3,underlying4,isAgg4,sizeOf4,zeroValue4,underlying5,isAgg5,sizeOf5,zeroValue5,underlying9,isAgg9,sizeOf9,zeroValue9,underlying20,isAgg20,sizeOf20,zeroValue20,underlying183,isAgg183,sizeOf183,zeroValue183,underlying151,isAgg151,sizeOf151,zeroValue151,underlying200,isAgg200,sizeOf200,zeroValue200,underlying202,isAgg202,sizeOf202,zeroValue202,underlying374,isAgg374,sizeOf374,zeroValue374,underlying376,isAgg376,sizeOf376,zeroValue376,underlying379,isAgg379,sizeOf379,zeroValue379,underlying380,isAgg380,sizeOf380,zeroValue380,underlying393,isAgg393,sizeOf393,zeroValue393,underlying397,isAgg397,sizeOf397,zeroValue397,underlying405,isAgg405,sizeOf405,zeroValue405,underlying407,isAgg407,sizeOf407,zeroValue407,underlying411,isAgg411,sizeOf411,zeroValue411⟩
theorem Tryz.Builder_Extra_105:Builder.Extra Tryz.prog Tryz.lays105_ren:={
 sizeBuilder:=by kernel_rfl
 liesBuilder:=by kernel_rfl
 t5:=Tryz.underlying5
 a5:=Tryz.isAgg5
 z5:=Tryz.sizeOf5
 v5:=Tryz.zeroValue5
 infoByte:=by kernel_rfl
 cellsByte:=by kernel_rfl
 sizeByte:=by kernel_rfl
 neB5:=by decide }
open Go.RowKit Go.Lib in
theorem Tryz.strings_Repeat (s:ByteArray) (c:Nat) (w:World) (hc:c≤9223372036854775807) (hlen:s.size*c≤140737488355328):
  Calls Tryz.prog 356 #[.string s,.int .i64 c] w fun e w'=>e = .returned (.string ⟨(Lib.repeatL s.data.toList c).toArray⟩)∧Below w.heap.size w w':=Any.strings_Repeat Tryz.lays105 Tryz.Builder_Extra_105 s c w hc hlen
end Go.Proofs
