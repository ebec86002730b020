/- The kit's shelf laid at this seat's program (written by lay.py and shel.py). -/
import Derived.Shelf.Small.Strs
import Derived.Shelf.Small.Wraps
import Derived.Shelf.Spec.DecodeRune
import Derived.Shelf.Spec.SlicesInsertGrow
import Derived.Shelf.Strconv.AppendUint10
import Derived.Shelf.Strconv.Itoa4
import Derived.Shelf.Strings.BuilderK
import Derived.Shelf.Strings.Cut
import Derived.Shelf.Strings.LastIndex
import Derived.Shelf.Strings.OnBuilder
import Derived.Shelf.Strings.Prefix
import Derived.Shelf.Strings.Split
import Derived.Shelf.Slices.Clone
import Derived.Shelf.Slices.Equal
import Derived.Shelf.Strings.IndexAnyAll
import Derived.Shelf.Strings.SlTrimAscii
import Derived.Shelf.Bytes.SlCountOne
import Derived.Shelf.Bytes.SlIndexAt
import Derived.Shelf.Slices.Turned
import Derived.Test.YtagfilhbpnjhkaaGreatDoorProg
namespace Go.Proofs
open Go.Shelf Tryz
def Tryz.laysStr_ren: Ren:=⟨fun|169=>33|n=>n,fun|70=>68|9=>9|0=>0|72=>70|37=>25|127=>108|3=>3|5=>5|n=>n,fun|n=>n⟩
theorem Tryz.laysStr: Lays.n169 prog laysStr_ren:=by constructor<;>intros<;>kernel_rfl
def Tryz.laysDR_ren: Ren:=⟨fun|32=>100|49=>149|n=>n,fun|30=>25|21=>21|3=>3|0=>0|5=>5|4=>4|33=>129|66=>186|25=>185|69=>189|68=>188|n=>n,fun|2=>1|3=>2|n=>n⟩
theorem Tryz.laysDR: Lays7.n32 prog laysDR_ren:=by constructor<;>intros<;>kernel_rfl
def Tryz.laysIns_ren: Ren:=⟨fun|21=>269|27=>277|28=>278|35=>281|39=>282|n=>n,fun|22=>224|3=>3|4=>4|0=>0|n=>n,fun|n=>n⟩
theorem Tryz.laysIns: Lays2.n21 prog laysIns_ren:=by constructor<;>intros<;>kernel_rfl
def Tryz.laysLib_ren: Ren:=⟨fun|149=>209|222=>232|n=>n,fun|9=>9|5=>5|3=>3|4=>4|n=>n,fun|n=>n⟩
theorem Tryz.laysLib: Lays.n149 prog laysLib_ren:=by constructor<;>intros<;>kernel_rfl
def Tryz.laysSplit_ren: Ren:=⟨fun|146=>245|221=>256|268=>264|138=>265|143=>266|195=>219|197=>182|218=>274|219=>159|260=>218|217=>145|225=>200|224=>189|267=>201|266=>191|314=>226|n=>n,fun|9=>9|31=>22|3=>3|4=>4|0=>0|105=>129|21=>21|5=>5|46=>185|119=>186|139=>189|138=>188|146=>204|51=>28|n=>n,fun|1=>0|3=>1|4=>2|n=>n⟩
theorem Tryz.laysSplit: Lays.n146 prog laysSplit_ren:=by constructor<;>intros<;>kernel_rfl
def Tryz.laysJoin_ren: Ren:=⟨fun|156=>247|165=>261|166=>27|169=>33|240=>60|241=>273|276=>103|277=>280|n=>n,fun|31=>22|9=>9|3=>3|4=>4|0=>0|20=>20|72=>70|76=>73|70=>68|37=>25|75=>72|127=>108|164=>133|5=>5|80=>79|n=>n,fun|n=>n⟩
theorem Tryz.laysJoin: Lays.n156 prog laysJoin_ren:=by constructor<;>intros<;>kernel_rfl
def Tryz.laysCut_ren: Ren:=⟨fun|103=>142|210=>183|206=>131|n=>n,fun|9=>9|4=>4|24=>82|3=>3|n=>n,fun|n=>n⟩
theorem Tryz.laysCut: Lays.n103 prog laysCut_ren:=by constructor<;>intros<;>kernel_rfl
def Tryz.laysAU_ren: Ren:=⟨fun|288=>151|283=>152|284=>153|285=>154|286=>155|129=>196|317=>195|318=>197|319=>198|320=>199|337=>224|338=>225|n=>n,fun|37=>25|53=>136|3=>3|4=>4|9=>9|171=>158|0=>0|173=>161|212=>191|51=>28|5=>5|20=>20|213=>192|46=>185|232=>215|233=>216|n=>n,fun|17=>3|18=>4|19=>5|n=>n⟩
theorem Tryz.laysAU: LaysM.n288 prog laysAU_ren:=by constructor<;>intros<;>first|kernel_rfl|(constructor<;>intros<;>kernel_rfl)
def Tryz.laysHP_ren: Ren:=⟨fun|99=>83|206=>131|n=>n,fun|9=>9|4=>4|3=>3|n=>n,fun|n=>n⟩
theorem Tryz.laysHP: Lays.n99 prog laysHP_ren:=by constructor<;>intros<;>kernel_rfl
def Tryz.laysCutS_ren: Ren:=⟨fun|104=>171|211=>212|207=>132|n=>n,fun|9=>9|4=>4|24=>82|3=>3|n=>n,fun|n=>n⟩
theorem Tryz.laysCutS: Lays.n104 prog laysCutS_ren:=by constructor<;>intros<;>kernel_rfl
def Tryz.laysIB_ren: Ren:=⟨fun|137=>98|217=>145|266=>191|n=>n,fun|9=>9|5=>5|3=>3|n=>n,fun|n=>n⟩
theorem Tryz.laysIB: Lays.n137 prog laysIB_ren:=by constructor<;>intros<;>kernel_rfl
def Tryz.laysCutAt_ren: Ren:=⟨fun|145=>72|220=>116|219=>159|217=>145|225=>200|224=>189|267=>201|266=>191|314=>226|n=>n,fun|9=>9|4=>4|59=>112|3=>3|5=>5|46=>185|146=>204|51=>28|n=>n,fun|1=>0|n=>n⟩
theorem Tryz.laysCutAt: Lays.n145 prog laysCutAt_ren:=by constructor<;>intros<;>kernel_rfl
def Tryz.laysItoa_ren: Ren:=⟨fun|171=>31|243=>63|246=>106|283=>152|284=>153|285=>154|286=>155|129=>196|317=>195|318=>197|319=>198|320=>199|337=>224|338=>225|n=>n,fun|3=>3|9=>9|2=>2|4=>4|171=>158|0=>0|53=>136|37=>25|5=>5|173=>161|212=>191|51=>28|20=>20|213=>192|46=>185|232=>215|233=>216|n=>n,fun|17=>3|18=>4|19=>5|n=>n⟩
theorem Tryz.laysItoa: LaysM.n171 prog laysItoa_ren:=by constructor<;>intros<;>first|kernel_rfl|(constructor<;>intros<;>kernel_rfl)
def Tryz.laysHS_ren: Ren:=⟨fun|100=>84|207=>132|n=>n,fun|9=>9|4=>4|3=>3|n=>n,fun|n=>n⟩
theorem Tryz.laysHS: Lays.n100 prog laysHS_ren:=by constructor<;>intros<;>kernel_rfl
def Tryz.laysClone_ren: Ren:=⟨fun|16=>54|n=>n,fun|24=>22|9=>9|4=>4|n=>n,fun|n=>n⟩
theorem Tryz.laysClone: Lays2.n16 prog laysClone_ren:=by constructor<;>intros<;>kernel_rfl
def Tryz.laysEqS_ren: Ren:=⟨fun|193=>78|n=>n,fun|31=>22|9=>9|4=>4|3=>3|0=>0|n=>n,fun|n=>n⟩
theorem Tryz.laysEqS: Lays.n193 prog laysEqS_ren:=by constructor<;>intros<;>kernel_rfl
def Tryz.laysTP_ren: Ren:=⟨fun|101=>129|208=>174|206=>131|n=>n,fun|9=>9|4=>4|3=>3|n=>n,fun|n=>n⟩
theorem Tryz.laysTP: Lays.n101 prog laysTP_ren:=by constructor<;>intros<;>kernel_rfl
def Tryz.laysTL_ren: Ren:=⟨fun|161=>94|231=>139|227=>134|233=>140|235=>141|228=>177|197=>182|151=>179|260=>218|152=>214|137=>98|119=>234|224=>189|225=>200|217=>145|266=>191|n=>n,fun|9=>9|4=>4|3=>3|5=>5|117=>148|116=>147|0=>0|124=>151|105=>129|21=>21|119=>186|46=>185|139=>189|138=>188|n=>n,fun|3=>1|4=>2|n=>n⟩
theorem Tryz.laysTL: Lays.n161 prog laysTL_ren:=by constructor<;>intros<;>kernel_rfl
def Tryz.laysTR_ren: Ren:=⟨fun|162=>89|232=>133|227=>134|234=>135|236=>136|228=>177|271=>178|151=>179|120=>213|197=>182|152=>214|260=>218|137=>98|119=>234|224=>189|225=>200|217=>145|266=>191|n=>n,fun|9=>9|4=>4|3=>3|5=>5|117=>148|116=>147|0=>0|124=>151|21=>21|105=>129|46=>185|119=>186|139=>189|138=>188|n=>n,fun|3=>1|4=>2|n=>n⟩
theorem Tryz.laysTR: Lays.n162 prog laysTR_ren:=by constructor<;>intros<;>kernel_rfl
def Tryz.laysIA_ren: Ren:=⟨fun|153=>215|152=>214|226=>235|227=>134|228=>177|137=>98|119=>234|224=>189|225=>200|217=>145|266=>191|n=>n,fun|9=>9|3=>3|4=>4|5=>5|21=>21|117=>148|116=>147|0=>0|46=>185|124=>151|n=>n,fun|n=>n⟩
theorem Tryz.laysIA: Lays.n153 prog laysIA_ren:=by constructor<;>intros<;>kernel_rfl
def Tryz.laysBC_ren: Ren:=⟨fun|13=>143|24=>184|25=>185|12=>144|31=>219|19=>186|20=>187|21=>188|22=>189|23=>190|29=>220|30=>221|n=>n,fun|22=>25|3=>3|4=>4|0=>0|5=>5|9=>9|33=>185|40=>204|39=>28|n=>n,fun|0=>0|n=>n⟩
theorem Tryz.laysBC: SlLaysB.n13 prog laysBC_ren:=by constructor<;>intros<;>kernel_rfl
def Tryz.laysBI_ren: Ren:=⟨fun|185=>144|187=>186|115=>187|253=>188|224=>189|254=>190|255=>220|291=>221|n=>n,fun|37=>25|3=>3|4=>4|0=>0|5=>5|46=>185|9=>9|146=>204|51=>28|n=>n,fun|1=>0|n=>n⟩
theorem Tryz.laysBI: Lays.n185 prog laysBI_ren:=by constructor<;>intros<;>kernel_rfl
def Tryz.laysCon_ren: Ren:=⟨fun|110=>127|109=>173|n=>n,fun|31=>22|9=>9|4=>4|3=>3|0=>0|n=>n,fun|n=>n⟩
theorem Tryz.laysCon: Lays.n110 prog laysCon_ren:=by constructor<;>intros<;>kernel_rfl
def Tryz.laysTm_ren: Ren:=⟨fun|160=>175|232=>133|231=>139|227=>134|234=>135|233=>140|236=>136|235=>141|228=>177|271=>178|151=>179|197=>182|120=>213|152=>214|260=>218|137=>98|119=>234|224=>189|225=>200|217=>145|266=>191|n=>n,fun|9=>9|4=>4|3=>3|5=>5|117=>148|116=>147|0=>0|124=>151|21=>21|105=>129|46=>185|119=>186|139=>189|138=>188|n=>n,fun|3=>1|4=>2|n=>n⟩
theorem Tryz.laysTm: Lays.n160 prog laysTm_ren:=by constructor<;>intros<;>kernel_rfl
end Go.Proofs
