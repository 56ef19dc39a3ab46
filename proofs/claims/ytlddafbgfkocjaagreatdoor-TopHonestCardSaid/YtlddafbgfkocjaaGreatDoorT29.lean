/- A part of TopHonest. -/
import Derived.Shelf.Bits.Mul64
import Derived.Shelf.Small.Strs
import Derived.Shelf.Small.Wraps
import Derived.Shelf.Strings.Builder1
import Derived.Shelf.Strings.Builder2
import Derived.Shelf.Strings.BuilderF
import Derived.Shelf.Strings.BuilderK
import Derived.Shelf.Strings.Count
import Derived.Shelf.Strings.Prefix
import Derived.Shelf.Strings.Repeat
import Derived.Shelf.Strings.Search1
import Derived.Shelf.Strings.Search2
import Derived.Shelf.Strings.Search3
import Derived.Shelf.Strings.Split
import Derived.Test.YtlddafbgfkocjaaGreatDoorChecked
import Derived.Test.YtlddafbgfkocjaaGreatDoorT00
set_option linter.all false
set_option maxRecDepth 1000000
set_option maxHeartbeats 400000000
namespace Go.Proofs
open Go.Shelf Go.Proofs.YtlddafbgfkocjaaGreatDoor
def Tryz.ac7:Go.Shelf.Ren:=⟨fun|170=>104|n=>n,fun|70=>184|3=>3|0=>0|72=>186|37=>137|5=>5|n=>n,fun|n=>n⟩
theorem Tryz.agR:Go.Proofs.Lays.n170 Tryz.prog Tryz.ac7:=by constructor<;>first|exact ad|(intro _;exact ad)|(intro _ _;exact ad)
open Go.RowKit in theorem Tryz.Builder_Len(B b:Nat)(bs:List Value)(w:World)(h:Lib.IsBuilder 186 5 B b bs w):Calls Tryz.prog 104 #[.pointer (some ⟨b,0,none⟩)] w fun e w'=>e=.returned (.int .i64 bs.length)∧w'=w:=Any.Builder_Len Tryz.agR B b bs w h
def Tryz.yv:Go.Shelf.Ren:=⟨fun|169=>105|n=>n,fun|70=>184|9=>9|0=>0|72=>186|37=>137|127=>242|3=>3|5=>5|n=>n,fun|n=>n⟩
theorem Tryz.uY:Go.Proofs.Lays.n169 Tryz.prog Tryz.yv:=by constructor<;>first|exact ad|(intro _;exact ad)|(intro _ _;exact ad)
theorem Tryz.gC : Builder.Extra Tryz.prog Tryz.yv := {
  sizeBuilder := by kernel_rfl
  liesBuilder := by kernel_rfl
  t5 := Tryz.underlying5
  a5 := Tryz.isAgg5
  z5 := Tryz.sizeOf5
  v5 := Tryz.zeroValue5
  infoByte := by kernel_rfl
  cellsByte := by kernel_rfl
  sizeByte := by kernel_rfl
  neB5 := by decide }
open Go.RowKit in theorem Tryz.Builder_String(B b:Nat)(l:List UInt8)(w:World)(h:Lib.IsBuilder 186 5 B b (Lib.byteCells l) w)(h0:l≠[]):Calls Tryz.prog 105 #[.pointer (some ⟨b,0,none⟩)] w fun e w'=>e=.returned (.string ⟨l.toArray⟩)∧Below B w w':=Any.Builder_String Tryz.uY Tryz.gC B b l w h h0
open Go.RowKit in theorem Tryz.Builder_String_empty(B b:Nat)(w:World)(h:Lib.IsBuilder 186 5 B b [] w)(Nn:B≤w.heap.size):Calls Tryz.prog 105 #[.pointer (some ⟨b,0,none⟩)] w fun e w'=>e=.returned (.string ⟨#[]⟩)∧Below B w w':=Any.Builder_String_empty Tryz.uY Tryz.gC B b w h Nn
open Go.RowKit in theorem Tryz.Builder_String_any(B b:Nat)(l:List UInt8)(w:World)(h:Lib.IsBuilder 186 5 B b (Lib.byteCells l) w)(Nn:B≤w.heap.size):Calls Tryz.prog 105 #[.pointer (some ⟨b,0,none⟩)] w fun e w'=>e=.returned (.string ⟨l.toArray⟩)∧Below B w w':=Any.Builder_String_any Tryz.uY Tryz.gC B b l w h Nn
def Tryz.Oy:Go.Shelf.Ren:=⟨fun|241=>265|277=>300|n=>n,fun|70=>184|3=>3|0=>0|72=>186|37=>137|5=>5|n=>n,fun|n=>n⟩
theorem Tryz.apj:Go.Proofs.Lays.n241 Tryz.prog Tryz.Oy:=by constructor<;>first|exact ad|(intro _;exact ad)|(intro _ _;exact ad)
theorem Tryz.Me : Builder.Extra Tryz.prog Tryz.Oy := {
  sizeBuilder := by kernel_rfl
  liesBuilder := by kernel_rfl
  t5 := Tryz.underlying5
  a5 := Tryz.isAgg5
  z5 := Tryz.sizeOf5
  v5 := Tryz.zeroValue5
  infoByte := by kernel_rfl
  cellsByte := by kernel_rfl
  sizeByte := by kernel_rfl
  neB5 := by decide }
open Go.RowKit in theorem Tryz.Builder_grow_fresh(B b n:Nat)(w:World)(hB:B≤b)(Li:w.heap[b]?=some (.cells #[.pointer (some ⟨b,0,none⟩),.slice none 0 0] 186 (0,0)))(Nn:B≤w.heap.size)(hn:n≤281474976710656):Calls Tryz.prog 265 #[.pointer (some ⟨b,0,none⟩),.int .i64 n] w fun e w'=>e=.returned (.tuple #[])∧(Lib.BuilderAt 186 5 B b (.pointer (some ⟨b,0,none⟩)) [] w'∧Below B w w'):=Any.Builder_grow_fresh Tryz.apj Tryz.Me B b n w hB Li Nn hn
def Tryz.Ox:Go.Shelf.Ren:=⟨fun|165=>237|240=>156|241=>265|276=>205|277=>300|n=>n,fun|70=>184|3=>3|0=>0|4=>4|9=>9|20=>20|72=>186|37=>137|164=>292|5=>5|n=>n,fun|n=>n⟩
theorem Tryz.apl:Go.Proofs.Lays.n165 Tryz.prog Tryz.Ox:=by constructor<;>first|exact ad|(intro _;exact ad)|(intro _ _;exact ad)
theorem Tryz.Md : Builder.Extra Tryz.prog Tryz.Ox := {
  sizeBuilder := by kernel_rfl
  liesBuilder := by kernel_rfl
  t5 := Tryz.underlying5
  a5 := Tryz.isAgg5
  z5 := Tryz.sizeOf5
  v5 := Tryz.zeroValue5
  infoByte := by kernel_rfl
  cellsByte := by kernel_rfl
  sizeByte := by kernel_rfl
  neB5 := by decide }
open Go.RowKit in theorem Tryz.Builder_Grow_fresh(B b n:Nat)(w:World)(hB:B≤b)(Li:w.heap[b]?=some (.cells #[.pointer none,.slice none 0 0] 186 (0,0)))(Nn:B≤w.heap.size)(hn:n≤281474976710656):Calls Tryz.prog 237 #[.pointer (some ⟨b,0,none⟩),.int .i64 n] w fun e w'=>e=.returned (.tuple #[])∧(Lib.BuilderAt 186 5 B b (.pointer (some ⟨b,0,none⟩)) [] w'∧Below B w w'):=Any.Builder_Grow_fresh Tryz.apl Tryz.Md B b n w hB Li Nn hn
def Tryz.acT:Go.Shelf.Ren:=⟨fun|213=>227|265=>260|n=>n,fun|9=>9|3=>3|n=>n,fun|n=>n⟩
theorem Tryz.apm:Go.Proofs.Lays.n213 Tryz.prog Tryz.acT:=by constructor<;>first|exact ad|(intro _;exact ad)|(intro _ _;exact ad)
open Go.RowKit in theorem Tryz.bytealg_CompareString(a b:ByteArray)(w:World):Calls Tryz.prog 227 #[.string a,.string b] w fun e w'=>e=.returned (.int .i64 (Lib.compareBytes a.data.toList b.data.toList))∧w'=w:=Any.bytealg_CompareString Tryz.apm a b w
def Tryz.ac2:Go.Shelf.Ren:=⟨fun|106=>191|213=>227|265=>260|n=>n,fun|9=>9|3=>3|n=>n,fun|n=>n⟩
theorem Tryz.apt:Go.Proofs.Lays.n106 Tryz.prog Tryz.ac2:=by constructor<;>first|exact ad|(intro _;exact ad)|(intro _ _;exact ad)
open Go.RowKit in theorem Tryz.strings_Compare(a b:ByteArray)(w:World):Calls Tryz.prog 191 #[.string a,.string b] w fun e w'=>e=.returned (.int .i64 (Lib.compareBytes a.data.toList b.data.toList))∧w'=w:=Any.strings_Compare Tryz.apt a b w
def Tryz.acW:Go.Shelf.Ren:=⟨fun|210=>373|206=>264|n=>n,fun|9=>9|4=>4|3=>3|n=>n,fun|n=>n⟩
theorem Tryz.apr:Go.Proofs.Lays.n210 Tryz.prog Tryz.acW:=by constructor<;>first|exact ad|(intro _;exact ad)|(intro _ _;exact ad)
open Go.RowKit in theorem Tryz.stringslite_CutPrefix(s p:ByteArray)(w:World):Calls Tryz.prog 373 #[.string s,.string p] w fun e w'=>e=.returned (.tuple #[.string ⟨(Lib.trimPrefix s.data.toList p.data.toList).toArray⟩,.bool (Lib.hasPrefix s.data.toList p.data.toList)])∧w'=w:=Any.stringslite_CutPrefix Tryz.apr s p w
def Tryz.acS:Go.Shelf.Ren:=⟨fun|103=>366|210=>373|206=>264|n=>n,fun|9=>9|4=>4|24=>84|3=>3|n=>n,fun|n=>n⟩
theorem Tryz.apk:Go.Proofs.Lays.n103 Tryz.prog Tryz.acS:=by constructor<;>first|exact ad|(intro _;exact ad)|(intro _ _;exact ad)
open Go.RowKit in theorem Tryz.strings_CutPrefix(s p:ByteArray)(w:World):Calls Tryz.prog 366 #[.string s,.string p] w fun e w'=>e=.returned (.tuple #[.string ⟨(Lib.trimPrefix s.data.toList p.data.toList).toArray⟩,.bool (Lib.hasPrefix s.data.toList p.data.toList)])∧w'=w:=Any.strings_CutPrefix Tryz.apk s p w
open Go.RowKit in theorem Tryz.Builder_Len_f(B b:Nat)(bs:List Value)(w:World)(h:Lib.IsBuilderF 186 5 B b bs w):Calls Tryz.prog 104 #[.pointer (some ⟨b,0,none⟩)] w fun e w'=>e=.returned (.int .i64 bs.length)∧w'=w:=Any.Builder_Len_f Tryz.agR B b bs w h
open Go.RowKit in theorem Tryz.Builder_String_f(B b:Nat)(l:List UInt8)(w:World)(h:Lib.IsBuilderF 186 5 B b (Lib.byteCells l) w)(h0:l≠[]):Calls Tryz.prog 105 #[.pointer (some ⟨b,0,none⟩)] w fun e w'=>e=.returned (.string ⟨l.toArray⟩)∧(Lib.IsBuilderF 186 5 B b (Lib.byteCells l) w'∧Below B w w'):=Any.Builder_String_f Tryz.uY Tryz.gC B b l w h h0
open Go.RowKit in theorem Tryz.Builder_String_empty_f(B b:Nat)(w:World)(h:Lib.IsBuilderF 186 5 B b [] w)(Nn:B≤w.heap.size):Calls Tryz.prog 105 #[.pointer (some ⟨b,0,none⟩)] w fun e w'=>e=.returned (.string ⟨#[]⟩)∧(Lib.IsBuilderF 186 5 B b [] w'∧Below B w w'):=Any.Builder_String_empty_f Tryz.uY Tryz.gC B b w h Nn
open Go.RowKit in theorem Tryz.Builder_String_any_f(B b:Nat)(l:List UInt8)(w:World)(h:Lib.IsBuilderF 186 5 B b (Lib.byteCells l) w)(Nn:B≤w.heap.size):Calls Tryz.prog 105 #[.pointer (some ⟨b,0,none⟩)] w fun e w'=>e=.returned (.string ⟨l.toArray⟩)∧(Lib.IsBuilderF 186 5 B b (Lib.byteCells l) w'∧Below B w w'):=Any.Builder_String_any_f Tryz.uY Tryz.gC B b l w h Nn
open Go.RowKit in theorem Tryz.Builder_String_k(B b:Nat)(l:List UInt8)(w:World)(h:Lib.IsBuilderF 186 5 B b (Lib.byteCells l) w)(h0:l≠[]):Calls Tryz.prog 105 #[.pointer (some ⟨b,0,none⟩)] w fun e w'=>e=.returned (.string ⟨l.toArray⟩)∧(Lib.IsBuilderF 186 5 B b (Lib.byteCells l) w'∧Below B w w'∧Lib.OthersKept 5 (some b) w w'):=Any.Builder_String_k Tryz.uY Tryz.gC B b l w h h0
open Go.RowKit in theorem Tryz.Builder_String_empty_k(B b:Nat)(w:World)(h:Lib.IsBuilderF 186 5 B b [] w)(Nn:B≤w.heap.size):Calls Tryz.prog 105 #[.pointer (some ⟨b,0,none⟩)] w fun e w'=>e=.returned (.string ⟨#[]⟩)∧(Lib.IsBuilderF 186 5 B b [] w'∧Below B w w'∧Lib.OthersKept 5 (some b) w w'):=Any.Builder_String_empty_k Tryz.uY Tryz.gC B b w h Nn
open Go.RowKit in theorem Tryz.Builder_String_any_k(B b:Nat)(l:List UInt8)(w:World)(h:Lib.IsBuilderF 186 5 B b (Lib.byteCells l) w)(Nn:B≤w.heap.size):Calls Tryz.prog 105 #[.pointer (some ⟨b,0,none⟩)] w fun e w'=>e=.returned (.string ⟨l.toArray⟩)∧(Lib.IsBuilderF 186 5 B b (Lib.byteCells l) w'∧Below B w w'∧Lib.OthersKept 5 (some b) w w'):=Any.Builder_String_any_k Tryz.uY Tryz.gC B b l w h Nn
def Tryz.ac0:Go.Shelf.Ren:=⟨fun|217=>368|266=>374|n=>n,fun|9=>9|5=>5|3=>3|n=>n,fun|n=>n⟩
theorem Tryz.api:Go.Proofs.Lays.n217 Tryz.prog Tryz.ac0:=by constructor<;>first|exact ad|(intro _;exact ad)|(intro _ _;exact ad)
open Go.RowKit Go.Lib in theorem Tryz.stringslite_IndexByte(s:ByteArray)(c:Int)(w:World):Calls Tryz.prog 368 #[.string s,.int .u8 c] w fun e w'=>e=.returned (.int .i64 (Lib.indexByte s.data.toList c.toNat.toUInt8))∧w'=w:=Any.stringslite_IndexByte Tryz.api s c w
def Tryz.ac6:Go.Shelf.Ren:=⟨fun|224=>370|n=>n,fun|3=>3|n=>n,fun|n=>n⟩
theorem Tryz.apu:Go.Proofs.Lays.n224 Tryz.prog Tryz.ac6:=by constructor<;>first|exact ad|(intro _;exact ad)|(intro _ _;exact ad)
open Go.RowKit Go.Lib in theorem Tryz.bytealg_Cutover(n:Int)(h0:0≤n)(h1:n<4611686018427387904)(w:World):Calls Tryz.prog 370 #[.int .i64 n] w fun e w'=>e=.returned (.int .i64 ((n+16)/8))∧w'=w:=Any.bytealg_Cutover Tryz.apu n h0 h1 w
def Tryz.acV:Go.Shelf.Ren:=⟨fun|314=>375|n=>n,fun|9=>9|51=>176|3=>3|4=>4|5=>5|46=>226|n=>n,fun|n=>n⟩
theorem Tryz.apn:Go.Proofs.Lays.n314 Tryz.prog Tryz.acV:=by constructor<;>first|exact ad|(intro _;exact ad)|(intro _ _;exact ad)
open Go.RowKit Go.Lib in theorem Tryz.bytealg_hashStr(sep:ByteArray)(hs:sep.size<4294967281)(w:World):Calls Tryz.prog 375 #[.string sep] w fun e w'=>e=.returned (.tuple #[.int .u32 (RK.H sep.data.toList%4294967296),.int .u32 (16777619^sep.size%4294967296)])∧w'=w:=Any.bytealg_hashStr Tryz.apn sep hs w
def Tryz.acY:Go.Shelf.Ren:=⟨fun|267=>371|314=>375|n=>n,fun|9=>9|3=>3|146=>344|51=>176|4=>4|5=>5|46=>226|n=>n,fun|n=>n⟩
theorem Tryz.aps:Go.Proofs.Lays.n267 Tryz.prog Tryz.acY:=by constructor<;>first|exact ad|(intro _;exact ad)|(intro _ _;exact ad)
open Go.RowKit Go.Lib in theorem Tryz.bytealg_IndexRabinKarp(s sep:ByteArray)(h1:1≤sep.size)(h2:sep.size≤s.size)(hs:s.size<4294967281)(w:World):Calls Tryz.prog 371 #[.string s,.string sep] w fun e w'=>e=.returned (.int .i64 (Lib.index s.data.toList sep.data.toList))∧w'=w:=Any.bytealg_IndexRabinKarp Tryz.aps s sep h1 h2 hs w
def Tryz.acU:Go.Shelf.Ren:=⟨fun|219=>358|217=>368|225=>369|224=>370|267=>371|266=>374|314=>375|n=>n,fun|9=>9|3=>3|4=>4|5=>5|46=>226|146=>344|51=>176|n=>n,fun|1=>2|n=>n⟩
theorem Tryz.agT:Go.Proofs.Lays.n219 Tryz.prog Tryz.acU:=by constructor<;>first|exact ad|(intro _;exact ad)|(intro _ _;exact ad)
open Go.RowKit Go.Lib in theorem Tryz.stringslite_Index_one(s:ByteArray)(c:UInt8)(w:World):Calls Tryz.prog 358 #[.string s,.string ⟨#[c]⟩] w fun e w'=>e=.returned (.int .i64 (Lib.indexByte s.data.toList c))∧w'=w:=Any.stringslite_Index_one Tryz.agT s c w
open Go.RowKit Go.Lib in theorem Tryz.stringslite_Index(s sub:ByteArray)(m:Int)(w:World)(hs:s.size<4294967281)(hm:w.cell? ⟨2,0,none⟩=some (.int .i64 m)):Calls Tryz.prog 358 #[.string s,.string sub] w fun e w'=>e=.returned (.int .i64 (Lib.index s.data.toList sub.data.toList))∧w'=w:=Any.stringslite_Index Tryz.agT s sub m w hs hm
def Tryz.acX:Go.Shelf.Ren:=⟨fun|143=>336|219=>358|217=>368|225=>369|224=>370|267=>371|266=>374|314=>375|n=>n,fun|9=>9|3=>3|4=>4|5=>5|46=>226|146=>344|51=>176|n=>n,fun|1=>2|n=>n⟩
theorem Tryz.agU:Go.Proofs.Lays.n143 Tryz.prog Tryz.acX:=by constructor<;>first|exact ad|(intro _;exact ad)|(intro _ _;exact ad)
open Go.RowKit Go.Lib in theorem Tryz.strings_Index_one(s:ByteArray)(c:UInt8)(w:World):Calls Tryz.prog 336 #[.string s,.string ⟨#[c]⟩] w fun e w'=>e=.returned (.int .i64 (Lib.indexByte s.data.toList c))∧w'=w:=Any.strings_Index_one Tryz.agU s c w
open Go.RowKit Go.Lib in theorem Tryz.strings_Index(s sub:ByteArray)(m:Int)(w:World)(hs:s.size<4294967281)(hm:w.cell? ⟨2,0,none⟩=some (.int .i64 m)):Calls Tryz.prog 336 #[.string s,.string sub] w fun e w'=>e=.returned (.int .i64 (Lib.index s.data.toList sub.data.toList))∧w'=w:=Any.strings_Index Tryz.agU s sub m w hs hm
def Tryz.acZ:Go.Shelf.Ren:=⟨fun|144=>304|143=>336|219=>358|217=>368|225=>369|224=>370|267=>371|266=>374|314=>375|n=>n,fun|9=>9|4=>4|3=>3|5=>5|46=>226|146=>344|51=>176|n=>n,fun|1=>2|n=>n⟩
theorem Tryz.agS:Go.Proofs.Lays.n144 Tryz.prog Tryz.acZ:=by constructor<;>first|exact ad|(intro _;exact ad)|(intro _ _;exact ad)
open Go.RowKit Go.Lib in theorem Tryz.strings_Contains_one(s:ByteArray)(c:UInt8)(w:World):Calls Tryz.prog 304 #[.string s,.string ⟨#[c]⟩] w fun e w'=>e=.returned (.bool (decide (0≤Lib.indexByte s.data.toList c)))∧w'=w:=Any.strings_Contains_one Tryz.agS s c w
open Go.RowKit Go.Lib in theorem Tryz.strings_Contains(s sub:ByteArray)(m:Int)(w:World)(hs:s.size<4294967281)(hm:w.cell? ⟨2,0,none⟩=some (.int .i64 m)):Calls Tryz.prog 304 #[.string s,.string sub] w fun e w'=>e=.returned (.bool (Lib.contains s.data.toList sub.data.toList))∧w'=w:=Any.strings_Contains Tryz.agS s sub m w hs hm
def Tryz.ac5:Go.Shelf.Ren:=⟨fun|138=>303|195=>334|218=>335|143=>336|219=>358|217=>368|225=>369|224=>370|267=>371|266=>374|314=>375|n=>n,fun|9=>9|3=>3|4=>4|5=>5|0=>0|46=>226|146=>344|51=>176|n=>n,fun|1=>2|n=>n⟩
theorem Tryz.Yy:Go.Proofs.Lays.n138 Tryz.prog Tryz.ac5:=by constructor<;>first|exact ad|(intro _;exact ad)|(intro _ _;exact ad)
open Go.RowKit Go.Lib in theorem Tryz.strings_Count_one(s:ByteArray)(c:UInt8)(w:World):Calls Tryz.prog 303 #[.string s,.string ⟨#[c]⟩] w fun e w'=>e=.returned (.int .i64 (Lib.countByte s.data.toList c))∧w'=w:=Any.strings_Count_one Tryz.Yy s c w
open Go.RowKit Go.Lib in theorem Tryz.strings_Count(s sub:ByteArray)(m:Int)(w:World)(hs:s.size<4294967281)(hm:w.cell? ⟨2,0,none⟩=some (.int .i64 m))(h2:2≤sub.size):Calls Tryz.prog 303 #[.string s,.string sub] w fun e w'=>e=.returned (.int .i64 (Lib.countB s sub))∧w'=w:=Any.strings_Count Tryz.Yy s sub m w hs hm h2
def Tryz.ac3:Go.Shelf.Ren:=⟨fun|206=>264|n=>n,fun|9=>9|4=>4|3=>3|n=>n,fun|n=>n⟩
theorem Tryz.apq:Go.Proofs.Lays.n206 Tryz.prog Tryz.ac3:=by constructor<;>first|exact ad|(intro _;exact ad)|(intro _ _;exact ad)
open Go.RowKit Go.Lib in theorem Tryz.stringslite_HasPrefix(s p:ByteArray)(w:World):Calls Tryz.prog 264 #[.string s,.string p] w fun e w'=>e=.returned (.bool (Lib.hasPrefix s.data.toList p.data.toList))∧w'=w:=Any.stringslite_HasPrefix Tryz.apq s p w
def Tryz.afJ:Go.Shelf.Ren:=⟨fun|99=>236|206=>264|n=>n,fun|9=>9|4=>4|3=>3|n=>n,fun|n=>n⟩
theorem Tryz.aso:Go.Proofs.Lays.n99 Tryz.prog Tryz.afJ:=by constructor<;>first|exact ad|(intro _;exact ad)|(intro _ _;exact ad)
open Go.RowKit Go.Lib in theorem Tryz.strings_HasPrefix(s p:ByteArray)(w:World):Calls Tryz.prog 236 #[.string s,.string p] w fun e w'=>e=.returned (.bool (Lib.hasPrefix s.data.toList p.data.toList))∧w'=w:=Any.strings_HasPrefix Tryz.aso s p w
open Go.RowKit Go.Lib in theorem Tryz.strings_Count_any(s sep:ByteArray)(m:Int)(w:World)(hs:s.size<4294967281)(hm:w.cell? ⟨2,0,none⟩=some (.int .i64 m))(h1:1≤sep.size):Calls Tryz.prog 303 #[.string s,.string sep] w fun e w'=>e=.returned (.int .i64 (Lib.countB s sep))∧w'=w:=Any.strings_Count_any Tryz.Yy s sep m w hs hm h1
def Tryz.ac1:Go.Shelf.Ren:=⟨fun|264=>263|n=>n,fun|53=>67|46=>226|n=>n,fun|n=>n⟩
theorem Tryz.apo:Go.Proofs.Lays.n264 Tryz.prog Tryz.ac1:=by constructor<;>first|exact ad|(intro _;exact ad)|(intro _ _;exact ad)
open Go.RowKit Go.Lib in theorem Tryz.bits_Mul64(x y:Nat)(hx:x<18446744073709551616)(hy:y<18446744073709551616)(w:World):Calls Tryz.prog 263 #[.int .u64 x,.int .u64 y] w fun e w'=>e=.returned (.tuple #[.int .u64 ((x*y/18446744073709551616:Nat):Int),.int .u64 ((x*y%18446744073709551616:Nat):Int)])∧w'=w:=Any.bits_Mul64 Tryz.apo x y hx hy w
def Tryz.ac4:Go.Shelf.Ren:=⟨fun|212=>235|263=>262|264=>263|n=>n,fun|46=>226|51=>176|146=>344|53=>67|148=>259|n=>n,fun|n=>n⟩
theorem Tryz.app:Go.Proofs.Lays.n212 Tryz.prog Tryz.ac4:=by constructor<;>first|exact ad|(intro _;exact ad)|(intro _ _;exact ad)
open Go.RowKit Go.Lib in theorem Tryz.bits_Mul(x y:Nat)(hx:x<18446744073709551616)(hy:y<18446744073709551616)(w:World):Calls Tryz.prog 235 #[.int .u64 x,.int .u64 y] w fun e w'=>e=.returned (.tuple #[.int .u64 ((x*y/18446744073709551616:Nat):Int),.int .u64 ((x*y%18446744073709551616:Nat):Int)])∧w'=w:=Any.bits_Mul Tryz.app x y hx hy w
def Tryz.Bo:Go.Shelf.Ren:=⟨fun|105=>202|212=>235|99=>236|165=>237|166=>103|170=>104|169=>105|263=>262|264=>263|206=>264|240=>156|241=>265|276=>205|277=>300|n=>n,fun|9=>9|3=>3|4=>4|20=>20|0=>0|46=>226|109=>331|5=>5|72=>186|76=>189|51=>176|146=>344|53=>67|148=>259|70=>184|37=>137|75=>188|127=>242|164=>292|80=>191|n=>n,fun|n=>n⟩
theorem Tryz.Cs:Go.Proofs.Lays.n105 Tryz.prog Tryz.Bo:=by constructor<;>first|exact ad|(intro _;exact ad)|(intro _ _;exact ad)
theorem Tryz.Bw : Builder.Extra Tryz.prog Tryz.Bo := {
  sizeBuilder := by kernel_rfl
  liesBuilder := by kernel_rfl
  t5 := Tryz.underlying5
  a5 := Tryz.isAgg5
  z5 := Tryz.sizeOf5
  v5 := Tryz.zeroValue5
  infoByte := by kernel_rfl
  cellsByte := by kernel_rfl
  sizeByte := by kernel_rfl
  neB5 := by decide }
open Go.RowKit Go.Lib in theorem Tryz.strings_Repeat_main(s:ByteArray)(c:Nat)(w:World)(nP:2≤c)(hc:c≤9223372036854775807)(hlen:s.size*c≤140737488355328)(h0:0<s.size):Calls Tryz.prog 202 #[.string s,.int .i64 c] w fun e w'=>e=.returned (.string ⟨(Lib.repeatL s.data.toList c).toArray⟩)∧Below w.heap.size w w':=Any.strings_Repeat_main Tryz.Cs Tryz.Bw s c w nP hc hlen h0
open Go.RowKit Go.Lib in theorem Tryz.strings_Repeat_zero(s:ByteArray)(w:World):Calls Tryz.prog 202 #[.string s,.int .i64 0] w fun e w'=>e=.returned (.string ⟨#[]⟩)∧w'=w:=Any.strings_Repeat_zero Tryz.Cs s w
open Go.RowKit Go.Lib in theorem Tryz.strings_Repeat_one(s:ByteArray)(w:World):Calls Tryz.prog 202 #[.string s,.int .i64 1] w fun e w'=>e=.returned (.string s)∧w'=w:=Any.strings_Repeat_one Tryz.Cs s w
open Go.RowKit Go.Lib in theorem Tryz.strings_Repeat_empty(s:ByteArray)(c:Nat)(w:World)(nP:2≤c)(hc:c≤9223372036854775807)(h0:s.size=0):Calls Tryz.prog 202 #[.string s,.int .i64 c] w fun e w'=>e=.returned (.string ⟨#[]⟩)∧w'=w:=Any.strings_Repeat_empty Tryz.Cs s c w nP hc h0
open Go.RowKit Go.Lib in theorem Tryz.strings_Repeat_negative(s:ByteArray)(c:Int)(w:World)(hc:c<0):Calls Tryz.prog 202 #[.string s,.int .i64 c] w fun e w'=>e=.panicked [{v:=repeatPanic Tryz.Bo "strings: negative Repeat count",recovered:=false}]∧w'=w:=Any.strings_Repeat_negative Tryz.Cs s c w hc
open Go.RowKit Go.Lib in theorem Tryz.strings_Repeat_overflow(s:ByteArray)(c:Nat)(w:World)(hc:c≤9223372036854775807)(hs:s.size≤9223372036854775807)(ER:9223372036854775807<s.size*c):Calls Tryz.prog 202 #[.string s,.int .i64 c] w fun e w'=>e=.panicked [{v:=repeatPanic Tryz.Bo "strings: Repeat output length overflow",recovered:=false}]∧w'=w:=Any.strings_Repeat_overflow Tryz.Cs s c w hc hs ER
open Go.RowKit Go.Lib in theorem Tryz.strings_Repeat(s:ByteArray)(c:Nat)(w:World)(hc:c≤9223372036854775807)(hlen:s.size*c≤140737488355328):Calls Tryz.prog 202 #[.string s,.int .i64 c] w fun e w'=>e=.returned (.string ⟨(Lib.repeatL s.data.toList c).toArray⟩)∧Below w.heap.size w w':=Any.strings_Repeat Tryz.Cs Tryz.Bw s c w hc hlen
end Go.Proofs
