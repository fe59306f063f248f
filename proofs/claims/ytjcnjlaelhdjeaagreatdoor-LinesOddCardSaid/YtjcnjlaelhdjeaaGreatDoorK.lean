import Derived.Test.YtjcnjlaelhdjeaaGreatDoorA
import Derived.Shelf.Strings.Builder1
import Derived.Shelf.Strings.Builder2
import Derived.Shelf.Strings.OnBuilder
import Derived.Shelf.Strings.BuilderF
import Derived.Shelf.Strings.BuilderK
import Derived.Shelf.Strings.Builder2Cap
import Derived.Shelf.Strconv.Itoa0
import Derived.Shelf.Strconv.Itoa1
import Derived.Shelf.LaysM
import Derived.Shelf.Strconv.Itoa2
import Derived.Shelf.Strconv.Itoa3
import Derived.Shelf.Strings.Search1
import Derived.Shelf.Strings.Search2
import Derived.Shelf.Strings.Search3
import Derived.Shelf.Strings.Count
import Derived.Shelf.Strings.Shaped
import Derived.Shelf.Strings.Split
import Derived.Shelf.Bits.Mul64
import Derived.Shelf.Unicode.DecodeSlow
import Derived.Shelf.Unicode.DecodeAny
import Derived.Shelf.Strings.FieldsFuncAny
import Derived.Shelf.Strings.FieldsFuncGrows
import Derived.Test.YtjcnjlaelhdjeaaGreatDoorProg
set_option linter.all false
namespace Go.Proofs
open Go.Shelf
set_option maxRecDepth 100000
set_option maxHeartbeats 8000000
def Tryz.Df:Go.Shelf.Ren:=⟨fun|169=>63|n=>n,fun|70=>110|9=>9|0=>0|72=>112|37=>43|127=>163|3=>3|5=>5|n=>n,fun|n=>n⟩
def Tryz.aiA:Go.Proofs.Lays.n169 Tryz.prog Tryz.Df:=by repeat' first|kernel_rfl|decide|(intros;kernel_rfl)|constructor
def Tryz.qg:Builder.Extra Tryz.prog Tryz.Df:=by repeat' first|kernel_rfl|decide|(intros;kernel_rfl)|constructor
open Go.RowKit in
def Tryz.Builder_String_any(B b:Nat)(l:List UInt8)(w:World)(h:Lib.IsBuilder 112 5 B b (Lib.byteCells l) w)(hBw:B<=w.heap.size): Calls Tryz.prog 63 #[.pointer (some ⟨b,0,none⟩)] w λe w'=>e=.returned (.string ⟨l.toArray⟩)/\Below B w w':=Any.Builder_String_any Tryz.aiA Tryz.qg B b l w h hBw
def Tryz.Dg:Go.Shelf.Ren:=⟨fun|156=>226|165=>283|166=>62|169=>63|240=>117|241=>332|276=>180|277=>368|n=>n,fun|31=>34|9=>9|3=>3|4=>4|0=>0|20=>20|72=>112|76=>116|70=>110|37=>43|75=>115|127=>163|164=>230|5=>5|80=>89|n=>n,fun|n=>n⟩
def Tryz.Xx:Go.Proofs.Lays.n156 Tryz.prog Tryz.Dg:=by repeat' first|kernel_rfl|decide|(intros;kernel_rfl)|constructor
def Tryz.qh:Builder.Extra Tryz.prog Tryz.Dg:=by repeat' first|kernel_rfl|decide|(intros;kernel_rfl)|constructor
open Go.RowKit in
def Tryz.strings_Join_none(a:Option Addr)(c:Nat)(sep:ByteArray)(w:World): Calls Tryz.prog 226 #[.slice a 0 c,.string sep] w λe w'=>e=.returned (.string ⟨#[]⟩)/\w'=w:=Any.strings_Join_none Tryz.Xx Tryz.qh a c sep w
open Go.RowKit in
def Tryz.strings_Join(bk o c:Nat)(xs:List ByteArray)(sep:ByteArray)(w:World)(hcells:∀(j:Nat) x,xs[j]? =some x->w.cell? ⟨bk,o+j,none⟩=some (.string x))(yG:bk<w.heap.size)(hN:xs.length<=140737488355328)(afV:xs.length<=c)(cX:(Lib.join (xs.map (·.data.toList)) sep.data.toList).length<=140737488355328): Calls Tryz.prog 226 #[.slice (some ⟨bk,o,none⟩) xs.length c,.string sep] w λe w'=>e=.returned (.string ⟨(Lib.join (xs.map (·.data.toList)) sep.data.toList).toArray⟩)/\Below w.heap.size w w':=Any.strings_Join Tryz.Xx Tryz.qh bk o c xs sep w hcells yG hN afV cX
def Tryz.Nf:Go.Shelf.Ren:=⟨fun|171=>224|243=>282|246=>331|283=>364|284=>365|285=>366|286=>367|129=>382|317=>381|318=>383|319=>384|320=>385|337=>392|338=>393|n=>n,fun|3=>3|9=>9|2=>2|4=>4|171=>389|0=>0|53=>158|37=>43|5=>5|173=>392|212=>407|51=>376|20=>20|213=>408|46=>104|232=>421|233=>422|n=>n,fun|17=>3|18=>4|19=>5|n=>n⟩
def Tryz.aem:Go.Proofs.LaysM.n171 Tryz.prog Tryz.Nf:=by repeat' first|kernel_rfl|decide|(intros;kernel_rfl)|constructor
open Go.RowKit Go.Sort Go.Lib in
def Tryz.strconv_Itoa(n:Int)(h0: -9223372036854775808<=n)(h1:n<=9223372036854775807)(w:World)(azF:Lib.TabIs Tryz.prog w "internal/strconv.uint64pow10" .u64 Lib.pow10Tab): Calls Tryz.prog 224 #[.int .i64 n] w λe w'=>e=.returned (.string ⟨(Lib.itoa n).toArray⟩)/\∃k os,w'=grow (w.drewN k) os:=Any.strconv_Itoa Tryz.aem n h0 h1 w azF
def Tryz.QX:Go.Shelf.Ren:=⟨fun|171=>224|243=>282|246=>331|283=>364|284=>365|285=>366|286=>367|129=>382|317=>381|318=>383|319=>384|320=>385|337=>392|338=>393|n=>n,fun|3=>3|9=>9|2=>2|4=>4|171=>389|0=>0|53=>158|37=>43|5=>5|173=>392|212=>407|51=>376|20=>20|213=>408|46=>104|232=>421|233=>422|n=>n,fun|17=>3|18=>4|19=>5|n=>n⟩
def Tryz.aiD:Go.Proofs.Lays.n171 Tryz.prog Tryz.QX:=by repeat' first|kernel_rfl|decide|(intros;kernel_rfl)|constructor
open Go.RowKit Go.Sort Go.Lib in
def Tryz.strconv_Itoa_small(i:Nat)(hi:i<100)(w:World): Calls Tryz.prog 224 #[.int .i64 i] w λe w'=>e=.returned (.string ⟨(Lib.decDigits i).toArray⟩)/\w'=w:=Any.strconv_Itoa_small Tryz.aiD i hi w
def Tryz.QY:Go.Shelf.Ren:=⟨fun|146=>61|221=>116|268=>177|138=>178|143=>179|195=>243|197=>244|218=>245|219=>246|260=>298|217=>299|225=>300|224=>301|267=>302|266=>350|314=>351|n=>n,fun|9=>9|31=>34|3=>3|4=>4|0=>0|105=>288|21=>21|5=>5|46=>104|119=>372|139=>375|138=>374|146=>377|51=>376|n=>n,fun|1=>0|3=>1|4=>2|n=>n⟩
def Tryz.aiE:Go.Proofs.Lays.n146 Tryz.prog Tryz.QY:=by repeat' first|kernel_rfl|decide|(intros;kernel_rfl)|constructor
open Go.RowKit Go.Lib in
def Tryz.strings_Split(s sep:ByteArray)(m:Int)(w:World)(hs:s.size<4294967281)(hm:w.cell? ⟨0,0,none⟩=some (.int .i64 m))(h1:1<=sep.size): Calls Tryz.prog 61 #[.string s,.string sep] w λe w'=>e=.returned (.slice (some ⟨w.heap.size,0,none⟩) (Lib.countB s sep+1) (Lib.countB s sep+1))/\w'=w.alloc (.cells ((Lib.splitB sep 0 (Lib.countB s sep) s).map Value.string).toArray 9):=Any.strings_Split Tryz.aiE (by kernel_rfl) s sep m w hs hm h1
def Tryz.QZ:Go.Shelf.Ren:=⟨fun|229=>64|n=>n,fun|9=>9|40=>119|31=>34|152=>164|3=>3|0=>0|4=>4|21=>21|154=>166|n=>n,fun|n=>n⟩
def Tryz.aiF:Go.Proofs.Lays.n229 Tryz.prog Tryz.QZ:=by repeat' first|kernel_rfl|decide|(intros;kernel_rfl)|constructor
open Go.RowKit Go.Lib in
def Tryz.strings_FieldsFunc_grows(g:Nat)(lb:Array Value)(eg:∀args w,(callFunc g args).run Tryz.prog w=.ok (.enter g args) w)(p:Nat->Bool)(s:ByteArray)(w:World)(hs:s.size<=4294967296)(hp:PredGrows Tryz.prog g lb p w): Calls Tryz.prog 64 #[.string s,.func (.func g) #[] lb] w λe w'=>∃A,e=.returned (.slice (some ⟨A,0,none⟩) (Lib.goFieldsP p s).length (Lib.goFieldsP p s).length)/\w.heap.size<=A/\w'.ownsRow w.heap.size 9 1 (.slice (some ⟨A,0,none⟩) (Lib.goFieldsP p s).length (Lib.goFieldsP p s).length) (Lib.goFieldsP p s).length ((Lib.goFieldsP p s).map Value.string)/\Below w.heap.size w w':=Any.strings_FieldsFunc_grows Tryz.aiF g lb eg p s w hs hp (by kernel_rfl) (by kernel_rfl)
end Go.Proofs
