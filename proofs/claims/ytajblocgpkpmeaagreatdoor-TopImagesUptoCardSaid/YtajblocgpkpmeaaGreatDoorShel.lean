/- The kit's shelf laid at this seat's program (written by lay.py and shel.py). -/
import Derived.Shelf.Small.Strs
import Derived.Shelf.Small.Wraps
import Derived.Shelf.Spec.DecodeRune
import Derived.Shelf.Spec.SlicesInsertGrow
import Derived.Shelf.Strconv.AppendUint10
import Derived.Shelf.Strconv.Itoa4
import Derived.Shelf.Strings.BuilderK
import Derived.Shelf.Strings.Cut
import Derived.Shelf.Strings.LastIndex
import Derived.Shelf.Strings.OnBuilder
import Derived.Shelf.Strings.Prefix
import Derived.Shelf.Strings.Split
import Derived.Shelf.Slices.Clone
import Derived.Shelf.Slices.Equal
import Derived.Shelf.Strings.IndexAnyAll
import Derived.Shelf.Strings.SlTrimAscii
import Derived.Shelf.Bytes.SlCountOne
import Derived.Shelf.Bytes.SlIndexAt
import Derived.Shelf.Slices.Turned
import Derived.Test.YtajblocgpkpmeaaGreatDoorProg
namespace Go.Proofs
open Go.Shelf Tryz
def Tryz.laysStr_ren: Ren:=⟨fun|169=>43|n=>n,fun|70=>80|9=>9|0=>0|72=>82|37=>46|127=>127|3=>3|5=>5|n=>n,fun|n=>n⟩
theorem Tryz.laysStr: Lays.n169 prog laysStr_ren:=by constructor<;>intros<;>kernel_rfl
def Tryz.laysDR_ren: Ren:=⟨fun|32=>113|49=>166|n=>n,fun|30=>46|21=>21|3=>3|0=>0|5=>5|4=>4|33=>147|66=>200|25=>199|69=>203|68=>202|n=>n,fun|2=>2|3=>3|n=>n⟩
theorem Tryz.laysDR: Lays7.n32 prog laysDR_ren:=by constructor<;>intros<;>kernel_rfl
def Tryz.laysIns_ren: Ren:=⟨fun|21=>289|27=>297|28=>298|35=>301|39=>302|n=>n,fun|22=>25|3=>3|4=>4|0=>0|n=>n,fun|n=>n⟩
theorem Tryz.laysIns: Lays2.n21 prog laysIns_ren:=by constructor<;>intros<;>kernel_rfl
def Tryz.laysLib_ren: Ren:=⟨fun|149=>226|222=>251|n=>n,fun|9=>9|5=>5|3=>3|4=>4|n=>n,fun|n=>n⟩
theorem Tryz.laysLib: Lays.n149 prog laysLib_ren:=by constructor<;>intros<;>kernel_rfl
def Tryz.laysSplit_ren: Ren:=⟨fun|146=>265|221=>276|268=>284|138=>285|143=>286|195=>241|197=>199|218=>294|219=>187|260=>238|217=>162|225=>231|224=>209|267=>232|266=>211|314=>253|n=>n,fun|9=>9|31=>22|3=>3|4=>4|0=>0|105=>147|21=>21|5=>5|46=>199|119=>200|139=>203|138=>202|146=>218|51=>28|n=>n,fun|1=>1|3=>2|4=>3|n=>n⟩
theorem Tryz.laysSplit: Lays.n146 prog laysSplit_ren:=by constructor<;>intros<;>kernel_rfl
def Tryz.laysJoin_ren: Ren:=⟨fun|156=>267|165=>281|166=>37|169=>43|240=>87|241=>293|276=>138|277=>300|n=>n,fun|31=>22|9=>9|3=>3|4=>4|0=>0|20=>20|72=>82|76=>85|70=>80|37=>46|75=>84|127=>127|164=>160|5=>5|80=>90|n=>n,fun|n=>n⟩
theorem Tryz.laysJoin: Lays.n156 prog laysJoin_ren:=by constructor<;>intros<;>kernel_rfl
def Tryz.laysCut_ren: Ren:=⟨fun|103=>184|210=>229|206=>116|n=>n,fun|9=>9|4=>4|24=>91|3=>3|n=>n,fun|n=>n⟩
theorem Tryz.laysCut: Lays.n103 prog laysCut_ren:=by constructor<;>intros<;>kernel_rfl
def Tryz.laysAU_ren: Ren:=⟨fun|288=>188|283=>189|284=>190|285=>191|286=>192|129=>234|317=>233|318=>235|319=>236|320=>237|337=>254|338=>255|n=>n,fun|37=>46|53=>152|3=>3|4=>4|9=>9|171=>189|0=>0|173=>192|212=>213|51=>28|5=>5|20=>20|213=>214|46=>199|232=>233|233=>234|n=>n,fun|17=>4|18=>5|19=>6|n=>n⟩
theorem Tryz.laysAU: LaysM.n288 prog laysAU_ren:=by constructor<;>intros<;>first|kernel_rfl|(constructor<;>intros<;>kernel_rfl)
def Tryz.laysHP_ren: Ren:=⟨fun|99=>71|206=>116|n=>n,fun|9=>9|4=>4|3=>3|n=>n,fun|n=>n⟩
theorem Tryz.laysHP: Lays.n99 prog laysHP_ren:=by constructor<;>intros<;>kernel_rfl
def Tryz.laysCutS_ren: Ren:=⟨fun|104=>185|211=>230|207=>103|n=>n,fun|9=>9|4=>4|24=>91|3=>3|n=>n,fun|n=>n⟩
theorem Tryz.laysCutS: Lays.n104 prog laysCutS_ren:=by constructor<;>intros<;>kernel_rfl
def Tryz.laysIB_ren: Ren:=⟨fun|137=>111|217=>162|266=>211|n=>n,fun|9=>9|5=>5|3=>3|n=>n,fun|n=>n⟩
theorem Tryz.laysIB: Lays.n137 prog laysIB_ren:=by constructor<;>intros<;>kernel_rfl
def Tryz.laysCutAt_ren: Ren:=⟨fun|145=>83|220=>134|219=>187|217=>162|225=>231|224=>209|267=>232|266=>211|314=>253|n=>n,fun|9=>9|4=>4|59=>122|3=>3|5=>5|46=>199|146=>218|51=>28|n=>n,fun|1=>1|n=>n⟩
theorem Tryz.laysCutAt: Lays.n145 prog laysCutAt_ren:=by constructor<;>intros<;>kernel_rfl
def Tryz.laysItoa_ren: Ren:=⟨fun|171=>41|243=>90|246=>141|283=>189|284=>190|285=>191|286=>192|129=>234|317=>233|318=>235|319=>236|320=>237|337=>254|338=>255|n=>n,fun|3=>3|9=>9|2=>2|4=>4|171=>189|0=>0|53=>152|37=>46|5=>5|173=>192|212=>213|51=>28|20=>20|213=>214|46=>199|232=>233|233=>234|n=>n,fun|17=>4|18=>5|19=>6|n=>n⟩
theorem Tryz.laysItoa: LaysM.n171 prog laysItoa_ren:=by constructor<;>intros<;>first|kernel_rfl|(constructor<;>intros<;>kernel_rfl)
def Tryz.laysHS_ren: Ren:=⟨fun|100=>63|207=>103|n=>n,fun|9=>9|4=>4|3=>3|n=>n,fun|n=>n⟩
theorem Tryz.laysHS: Lays.n100 prog laysHS_ren:=by constructor<;>intros<;>kernel_rfl
def Tryz.laysClone_ren: Ren:=⟨fun|16=>101|n=>n,fun|24=>22|9=>9|4=>4|n=>n,fun|n=>n⟩
theorem Tryz.laysClone: Lays2.n16 prog laysClone_ren:=by constructor<;>intros<;>kernel_rfl
def Tryz.laysEqS_ren: Ren:=⟨fun|193=>150|n=>n,fun|31=>22|9=>9|4=>4|3=>3|0=>0|n=>n,fun|n=>n⟩
theorem Tryz.laysEqS: Lays.n193 prog laysEqS_ren:=by constructor<;>intros<;>kernel_rfl
def Tryz.laysTP_ren: Ren:=⟨fun|101=>170|208=>216|206=>116|n=>n,fun|9=>9|4=>4|3=>3|n=>n,fun|n=>n⟩
theorem Tryz.laysTP: Lays.n101 prog laysTP_ren:=by constructor<;>intros<;>kernel_rfl
def Tryz.laysTL_ren: Ren:=⟨fun|161=>152|231=>195|227=>105|233=>196|235=>197|228=>155|197=>199|151=>157|260=>238|152=>200|137=>111|119=>239|224=>209|225=>231|217=>162|266=>211|n=>n,fun|9=>9|4=>4|3=>3|5=>5|117=>138|116=>137|0=>0|124=>141|105=>147|21=>21|119=>200|46=>199|139=>203|138=>202|n=>n,fun|3=>2|4=>3|n=>n⟩
theorem Tryz.laysTL: Lays.n161 prog laysTL_ren:=by constructor<;>intros<;>kernel_rfl
def Tryz.laysTR_ren: Ren:=⟨fun|162=>64|232=>104|227=>105|234=>106|236=>107|228=>155|271=>156|151=>157|120=>198|197=>199|152=>200|260=>238|137=>111|119=>239|224=>209|225=>231|217=>162|266=>211|n=>n,fun|9=>9|4=>4|3=>3|5=>5|117=>138|116=>137|0=>0|124=>141|21=>21|105=>147|46=>199|119=>200|139=>203|138=>202|n=>n,fun|3=>2|4=>3|n=>n⟩
theorem Tryz.laysTR: Lays.n162 prog laysTR_ren:=by constructor<;>intros<;>kernel_rfl
def Tryz.laysIA_ren: Ren:=⟨fun|153=>201|152=>200|226=>240|227=>105|228=>155|137=>111|119=>239|224=>209|225=>231|217=>162|266=>211|n=>n,fun|9=>9|3=>3|4=>4|5=>5|21=>21|117=>138|116=>137|0=>0|46=>199|124=>141|n=>n,fun|n=>n⟩
theorem Tryz.laysIA: Lays.n153 prog laysIA_ren:=by constructor<;>intros<;>kernel_rfl
def Tryz.laysBC_ren: Ren:=⟨fun|13=>160|24=>204|25=>205|12=>161|31=>241|19=>206|20=>207|21=>208|22=>209|23=>210|29=>242|30=>243|n=>n,fun|22=>46|3=>3|4=>4|0=>0|5=>5|9=>9|33=>199|40=>218|39=>28|n=>n,fun|0=>1|n=>n⟩
theorem Tryz.laysBC: SlLaysB.n13 prog laysBC_ren:=by constructor<;>intros<;>kernel_rfl
def Tryz.laysBI_ren: Ren:=⟨fun|185=>161|187=>206|115=>207|253=>208|224=>209|254=>210|255=>242|291=>243|n=>n,fun|37=>46|3=>3|4=>4|0=>0|5=>5|46=>199|9=>9|146=>218|51=>28|n=>n,fun|1=>1|n=>n⟩
theorem Tryz.laysBI: Lays.n185 prog laysBI_ren:=by constructor<;>intros<;>kernel_rfl
def Tryz.laysCon_ren: Ren:=⟨fun|110=>168|109=>215|n=>n,fun|31=>22|9=>9|4=>4|3=>3|0=>0|n=>n,fun|n=>n⟩
theorem Tryz.laysCon: Lays.n110 prog laysCon_ren:=by constructor<;>intros<;>kernel_rfl
def Tryz.laysTm_ren: Ren:=⟨fun|160=>217|232=>104|231=>195|227=>105|234=>106|233=>196|236=>107|235=>197|228=>155|271=>156|151=>157|197=>199|120=>198|152=>200|260=>238|137=>111|119=>239|224=>209|225=>231|217=>162|266=>211|n=>n,fun|9=>9|4=>4|3=>3|5=>5|117=>138|116=>137|0=>0|124=>141|21=>21|105=>147|46=>199|119=>200|139=>203|138=>202|n=>n,fun|3=>2|4=>3|n=>n⟩
theorem Tryz.laysTm: Lays.n160 prog laysTm_ren:=by constructor<;>intros<;>kernel_rfl
end Go.Proofs
