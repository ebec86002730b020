/- The kit's shelf laid at this seat's program (written by lay.py and shel.py). -/
import Derived.Shelf.Small.Strs
import Derived.Shelf.Small.Wraps
import Derived.Shelf.Spec.DecodeRune
import Derived.Shelf.Spec.SlicesInsertGrow
import Derived.Shelf.Strconv.AppendUint10
import Derived.Shelf.Strconv.Itoa4
import Derived.Shelf.Strings.BuilderK
import Derived.Shelf.Strings.Cut
import Derived.Shelf.Strings.LastIndex
import Derived.Shelf.Strings.OnBuilder
import Derived.Shelf.Strings.Prefix
import Derived.Shelf.Strings.Split
import Derived.Shelf.Slices.Clone
import Derived.Shelf.Slices.Equal
import Derived.Shelf.Strings.IndexAnyAll
import Derived.Shelf.Strings.SlTrimAscii
import Derived.Shelf.Bytes.SlCountOne
import Derived.Shelf.Bytes.SlIndexAt
import Derived.Shelf.Slices.Turned
import Derived.Test.YtpbnfjdkdfombaaGreatDoorProg
namespace Go.Proofs
open Go.Shelf Tryz
def Tryz.laysStr_ren: Ren:=⟨fun|169=>73|n=>n,fun|70=>104|9=>9|0=>0|72=>106|37=>25|127=>136|3=>3|5=>5|n=>n,fun|n=>n⟩
theorem Tryz.laysStr: Lays.n169 prog laysStr_ren:=by constructor<;>intros<;>kernel_rfl
def Tryz.laysDR_ren: Ren:=⟨fun|32=>95|49=>137|n=>n,fun|30=>25|21=>21|3=>3|0=>0|5=>5|4=>4|33=>127|66=>182|25=>181|69=>185|68=>184|n=>n,fun|2=>1|3=>2|n=>n⟩
theorem Tryz.laysDR: Lays7.n32 prog laysDR_ren:=by constructor<;>intros<;>kernel_rfl
def Tryz.laysIns_ren: Ren:=⟨fun|21=>253|27=>261|28=>262|35=>265|39=>266|n=>n,fun|22=>225|3=>3|4=>4|0=>0|n=>n,fun|n=>n⟩
theorem Tryz.laysIns: Lays2.n21 prog laysIns_ren:=by constructor<;>intros<;>kernel_rfl
def Tryz.laysLib_ren: Ren:=⟨fun|149=>191|222=>214|n=>n,fun|9=>9|5=>5|3=>3|4=>4|n=>n,fun|n=>n⟩
theorem Tryz.laysLib: Lays.n149 prog laysLib_ren:=by constructor<;>intros<;>kernel_rfl
def Tryz.laysSplit_ren: Ren:=⟨fun|146=>229|221=>240|268=>248|138=>249|143=>250|195=>200|197=>166|218=>258|219=>141|260=>199|217=>111|225=>176|224=>173|267=>177|266=>145|314=>203|n=>n,fun|9=>9|31=>22|3=>3|4=>4|0=>0|105=>127|21=>21|5=>5|46=>181|119=>182|139=>185|138=>184|146=>201|51=>28|n=>n,fun|1=>0|3=>1|4=>2|n=>n⟩
theorem Tryz.laysSplit: Lays.n146 prog laysSplit_ren:=by constructor<;>intros<;>kernel_rfl
def Tryz.laysJoin_ren: Ren:=⟨fun|156=>231|165=>245|166=>68|169=>73|240=>109|241=>257|276=>143|277=>264|n=>n,fun|31=>22|9=>9|3=>3|4=>4|0=>0|20=>20|72=>106|76=>109|70=>104|37=>25|75=>108|127=>136|164=>157|5=>5|80=>113|n=>n,fun|n=>n⟩
theorem Tryz.laysJoin: Lays.n156 prog laysJoin_ren:=by constructor<;>intros<;>kernel_rfl
def Tryz.laysCut_ren: Ren:=⟨fun|103=>134|210=>167|206=>101|n=>n,fun|9=>9|4=>4|24=>73|3=>3|n=>n,fun|n=>n⟩
theorem Tryz.laysCut: Lays.n103 prog laysCut_ren:=by constructor<;>intros<;>kernel_rfl
def Tryz.laysAU_ren: Ren:=⟨fun|288=>175|283=>178|284=>179|285=>180|286=>181|129=>205|317=>204|318=>206|319=>207|320=>208|337=>218|338=>219|n=>n,fun|37=>25|53=>154|3=>3|4=>4|9=>9|171=>186|0=>0|173=>189|212=>205|51=>28|5=>5|20=>20|213=>206|46=>181|232=>221|233=>222|n=>n,fun|17=>3|18=>4|19=>5|n=>n⟩
theorem Tryz.laysAU: LaysM.n288 prog laysAU_ren:=by constructor<;>intros<;>first|kernel_rfl|(constructor<;>intros<;>kernel_rfl)
def Tryz.laysHP_ren: Ren:=⟨fun|99=>61|206=>101|n=>n,fun|9=>9|4=>4|3=>3|n=>n,fun|n=>n⟩
theorem Tryz.laysHP: Lays.n99 prog laysHP_ren:=by constructor<;>intros<;>kernel_rfl
def Tryz.laysCutS_ren: Ren:=⟨fun|104=>104|211=>142|207=>102|n=>n,fun|9=>9|4=>4|24=>73|3=>3|n=>n,fun|n=>n⟩
theorem Tryz.laysCutS: Lays.n104 prog laysCutS_ren:=by constructor<;>intros<;>kernel_rfl
def Tryz.laysIB_ren: Ren:=⟨fun|137=>75|217=>111|266=>145|n=>n,fun|9=>9|5=>5|3=>3|n=>n,fun|n=>n⟩
theorem Tryz.laysIB: Lays.n137 prog laysIB_ren:=by constructor<;>intros<;>kernel_rfl
def Tryz.laysCutAt_ren: Ren:=⟨fun|145=>63|220=>103|219=>141|217=>111|225=>176|224=>173|267=>177|266=>145|314=>203|n=>n,fun|9=>9|4=>4|59=>100|3=>3|5=>5|46=>181|146=>201|51=>28|n=>n,fun|1=>0|n=>n⟩
theorem Tryz.laysCutAt: Lays.n145 prog laysCutAt_ren:=by constructor<;>intros<;>kernel_rfl
def Tryz.laysItoa_ren: Ren:=⟨fun|171=>71|243=>110|246=>144|283=>178|284=>179|285=>180|286=>181|129=>205|317=>204|318=>206|319=>207|320=>208|337=>218|338=>219|n=>n,fun|3=>3|9=>9|2=>2|4=>4|171=>186|0=>0|53=>154|37=>25|5=>5|173=>189|212=>205|51=>28|20=>20|213=>206|46=>181|232=>221|233=>222|n=>n,fun|17=>3|18=>4|19=>5|n=>n⟩
theorem Tryz.laysItoa: LaysM.n171 prog laysItoa_ren:=by constructor<;>intros<;>first|kernel_rfl|(constructor<;>intros<;>kernel_rfl)
def Tryz.laysHS_ren: Ren:=⟨fun|100=>62|207=>102|n=>n,fun|9=>9|4=>4|3=>3|n=>n,fun|n=>n⟩
theorem Tryz.laysHS: Lays.n100 prog laysHS_ren:=by constructor<;>intros<;>kernel_rfl
def Tryz.laysClone_ren: Ren:=⟨fun|16=>54|n=>n,fun|24=>22|9=>9|4=>4|n=>n,fun|n=>n⟩
theorem Tryz.laysClone: Lays2.n16 prog laysClone_ren:=by constructor<;>intros<;>kernel_rfl
def Tryz.laysEqS_ren: Ren:=⟨fun|193=>41|n=>n,fun|31=>22|9=>9|4=>4|3=>3|0=>0|n=>n,fun|n=>n⟩
theorem Tryz.laysEqS: Lays.n193 prog laysEqS_ren:=by constructor<;>intros<;>kernel_rfl
def Tryz.laysTP_ren: Ren:=⟨fun|101=>66|208=>106|206=>101|n=>n,fun|9=>9|4=>4|3=>3|n=>n,fun|n=>n⟩
theorem Tryz.laysTP: Lays.n101 prog laysTP_ren:=by constructor<;>intros<;>kernel_rfl
def Tryz.laysTL_ren: Ren:=⟨fun|161=>91|231=>131|227=>126|233=>132|235=>133|228=>161|197=>166|151=>163|260=>199|152=>195|137=>75|119=>216|224=>173|225=>176|217=>111|266=>145|n=>n,fun|9=>9|4=>4|3=>3|5=>5|117=>144|116=>143|0=>0|124=>147|105=>127|21=>21|119=>182|46=>181|139=>185|138=>184|n=>n,fun|3=>1|4=>2|n=>n⟩
theorem Tryz.laysTL: Lays.n161 prog laysTL_ren:=by constructor<;>intros<;>kernel_rfl
def Tryz.laysTR_ren: Ren:=⟨fun|162=>86|232=>125|227=>126|234=>127|236=>128|228=>161|271=>162|151=>163|120=>194|197=>166|152=>195|260=>199|137=>75|119=>216|224=>173|225=>176|217=>111|266=>145|n=>n,fun|9=>9|4=>4|3=>3|5=>5|117=>144|116=>143|0=>0|124=>147|21=>21|105=>127|46=>181|119=>182|139=>185|138=>184|n=>n,fun|3=>1|4=>2|n=>n⟩
theorem Tryz.laysTR: Lays.n162 prog laysTR_ren:=by constructor<;>intros<;>kernel_rfl
def Tryz.laysIA_ren: Ren:=⟨fun|153=>196|152=>195|226=>217|227=>126|228=>161|137=>75|119=>216|224=>173|225=>176|217=>111|266=>145|n=>n,fun|9=>9|3=>3|4=>4|5=>5|21=>21|117=>144|116=>143|0=>0|46=>181|124=>147|n=>n,fun|n=>n⟩
theorem Tryz.laysIA: Lays.n153 prog laysIA_ren:=by constructor<;>intros<;>kernel_rfl
def Tryz.laysBC_ren: Ren:=⟨fun|13=>135|24=>168|25=>169|12=>136|31=>200|19=>170|20=>171|21=>172|22=>173|23=>174|29=>201|30=>202|n=>n,fun|22=>25|3=>3|4=>4|0=>0|5=>5|9=>9|33=>181|40=>201|39=>28|n=>n,fun|0=>0|n=>n⟩
theorem Tryz.laysBC: SlLaysB.n13 prog laysBC_ren:=by constructor<;>intros<;>kernel_rfl
def Tryz.laysBI_ren: Ren:=⟨fun|185=>136|187=>170|115=>171|253=>172|224=>173|254=>174|255=>201|291=>202|n=>n,fun|37=>25|3=>3|4=>4|0=>0|5=>5|46=>181|9=>9|146=>201|51=>28|n=>n,fun|1=>0|n=>n⟩
theorem Tryz.laysBI: Lays.n185 prog laysBI_ren:=by constructor<;>intros<;>kernel_rfl
def Tryz.laysCon_ren: Ren:=⟨fun|110=>59|109=>98|n=>n,fun|31=>22|9=>9|4=>4|3=>3|0=>0|n=>n,fun|n=>n⟩
theorem Tryz.laysCon: Lays.n110 prog laysCon_ren:=by constructor<;>intros<;>kernel_rfl
def Tryz.laysTm_ren: Ren:=⟨fun|160=>107|232=>125|231=>131|227=>126|234=>127|233=>132|236=>128|235=>133|228=>161|271=>162|151=>163|197=>166|120=>194|152=>195|260=>199|137=>75|119=>216|224=>173|225=>176|217=>111|266=>145|n=>n,fun|9=>9|4=>4|3=>3|5=>5|117=>144|116=>143|0=>0|124=>147|21=>21|105=>127|46=>181|119=>182|139=>185|138=>184|n=>n,fun|3=>1|4=>2|n=>n⟩
theorem Tryz.laysTm: Lays.n160 prog laysTm_ren:=by constructor<;>intros<;>kernel_rfl
end Go.Proofs
