/- The kit's shelf laid at this seat's program (written by lay.py and shel.py). -/
import Derived.Shelf.Small.Strs
import Derived.Shelf.Small.Wraps
import Derived.Shelf.Spec.DecodeRune
import Derived.Shelf.Spec.SlicesInsertGrow
import Derived.Shelf.Strconv.AppendUint10
import Derived.Shelf.Strconv.Itoa4
import Derived.Shelf.Strings.BuilderK
import Derived.Shelf.Strings.Cut
import Derived.Shelf.Strings.LastIndex
import Derived.Shelf.Strings.OnBuilder
import Derived.Shelf.Strings.Prefix
import Derived.Shelf.Strings.Split
import Derived.Shelf.Slices.Clone
import Derived.Shelf.Slices.Equal
import Derived.Shelf.Strings.IndexAnyAll
import Derived.Shelf.Strings.SlTrimAscii
import Derived.Shelf.Bytes.SlCountOne
import Derived.Shelf.Bytes.SlIndexAt
import Derived.Shelf.Slices.Turned
import Derived.Test.YthfkicfjlljjiaaGreatDoorProg
namespace Go.Proofs
open Go.Shelf Tryz
def Tryz.laysStr_ren: Ren:=⟨fun|169=>31|n=>n,fun|70=>62|9=>9|0=>0|72=>64|37=>46|127=>94|3=>3|5=>5|n=>n,fun|n=>n⟩
theorem Tryz.laysStr: Lays.n169 prog laysStr_ren:=by constructor<;>intros<;>kernel_rfl
def Tryz.laysDR_ren: Ren:=⟨fun|32=>163|49=>205|n=>n,fun|30=>46|21=>21|3=>3|0=>0|5=>5|4=>4|33=>161|66=>205|25=>174|69=>208|68=>207|n=>n,fun|2=>2|3=>3|n=>n⟩
theorem Tryz.laysDR: Lays7.n32 prog laysDR_ren:=by constructor<;>intros<;>kernel_rfl
def Tryz.laysIns_ren: Ren:=⟨fun|21=>279|27=>287|28=>288|35=>291|39=>292|n=>n,fun|22=>25|3=>3|4=>4|0=>0|n=>n,fun|n=>n⟩
theorem Tryz.laysIns: Lays2.n21 prog laysIns_ren:=by constructor<;>intros<;>kernel_rfl
def Tryz.laysLib_ren: Ren:=⟨fun|149=>177|222=>212|n=>n,fun|9=>9|5=>5|3=>3|4=>4|n=>n,fun|n=>n⟩
theorem Tryz.laysLib: Lays.n149 prog laysLib_ren:=by constructor<;>intros<;>kernel_rfl
def Tryz.laysSplit_ren: Ren:=⟨fun|146=>253|221=>266|268=>274|138=>275|143=>276|195=>244|197=>223|218=>284|219=>142|260=>243|217=>182|225=>183|224=>184|267=>185|266=>215|314=>216|n=>n,fun|9=>9|31=>22|3=>3|4=>4|0=>0|105=>161|21=>21|5=>5|46=>174|119=>205|139=>208|138=>207|146=>196|51=>28|n=>n,fun|1=>0|3=>2|4=>3|n=>n⟩
theorem Tryz.laysSplit: Lays.n146 prog laysSplit_ren:=by constructor<;>intros<;>kernel_rfl
def Tryz.laysJoin_ren: Ren:=⟨fun|156=>255|165=>271|166=>25|169=>31|240=>60|241=>283|276=>101|277=>290|n=>n,fun|31=>22|9=>9|3=>3|4=>4|0=>0|20=>20|72=>64|76=>67|70=>62|37=>46|75=>66|127=>94|164=>118|5=>5|80=>72|n=>n,fun|n=>n⟩
theorem Tryz.laysJoin: Lays.n156 prog laysJoin_ren:=by constructor<;>intros<;>kernel_rfl
def Tryz.laysCut_ren: Ren:=⟨fun|103=>139|210=>180|206=>125|n=>n,fun|9=>9|4=>4|24=>73|3=>3|n=>n,fun|n=>n⟩
theorem Tryz.laysCut: Lays.n103 prog laysCut_ren:=by constructor<;>intros<;>kernel_rfl
def Tryz.laysAU_ren: Ren:=⟨fun|288=>143|283=>144|284=>145|285=>146|286=>147|129=>187|317=>186|318=>188|319=>189|320=>190|337=>217|338=>218|n=>n,fun|37=>46|53=>121|3=>3|4=>4|9=>9|171=>149|0=>0|173=>152|212=>176|51=>28|5=>5|20=>20|213=>177|46=>174|232=>214|233=>215|n=>n,fun|17=>1|18=>4|19=>5|n=>n⟩
theorem Tryz.laysAU: LaysM.n288 prog laysAU_ren:=by constructor<;>intros<;>first|kernel_rfl|(constructor<;>intros<;>kernel_rfl)
def Tryz.laysHP_ren: Ren:=⟨fun|99=>83|206=>125|n=>n,fun|9=>9|4=>4|3=>3|n=>n,fun|n=>n⟩
theorem Tryz.laysHP: Lays.n99 prog laysHP_ren:=by constructor<;>intros<;>kernel_rfl
def Tryz.laysCutS_ren: Ren:=⟨fun|104=>140|211=>181|207=>126|n=>n,fun|9=>9|4=>4|24=>73|3=>3|n=>n,fun|n=>n⟩
theorem Tryz.laysCutS: Lays.n104 prog laysCutS_ren:=by constructor<;>intros<;>kernel_rfl
def Tryz.laysIB_ren: Ren:=⟨fun|137=>161|217=>182|266=>215|n=>n,fun|9=>9|5=>5|3=>3|n=>n,fun|n=>n⟩
theorem Tryz.laysIB: Lays.n137 prog laysIB_ren:=by constructor<;>intros<;>kernel_rfl
def Tryz.laysCutAt_ren: Ren:=⟨fun|145=>55|220=>97|219=>142|217=>182|225=>183|224=>184|267=>185|266=>215|314=>216|n=>n,fun|9=>9|4=>4|59=>89|3=>3|5=>5|46=>174|146=>196|51=>28|n=>n,fun|1=>0|n=>n⟩
theorem Tryz.laysCutAt: Lays.n145 prog laysCutAt_ren:=by constructor<;>intros<;>kernel_rfl
def Tryz.laysItoa_ren: Ren:=⟨fun|171=>29|243=>63|246=>104|283=>144|284=>145|285=>146|286=>147|129=>187|317=>186|318=>188|319=>189|320=>190|337=>217|338=>218|n=>n,fun|3=>3|9=>9|2=>2|4=>4|171=>149|0=>0|53=>121|37=>46|5=>5|173=>152|212=>176|51=>28|20=>20|213=>177|46=>174|232=>214|233=>215|n=>n,fun|17=>1|18=>4|19=>5|n=>n⟩
theorem Tryz.laysItoa: LaysM.n171 prog laysItoa_ren:=by constructor<;>intros<;>first|kernel_rfl|(constructor<;>intros<;>kernel_rfl)
def Tryz.laysHS_ren: Ren:=⟨fun|100=>84|207=>126|n=>n,fun|9=>9|4=>4|3=>3|n=>n,fun|n=>n⟩
theorem Tryz.laysHS: Lays.n100 prog laysHS_ren:=by constructor<;>intros<;>kernel_rfl
def Tryz.laysClone_ren: Ren:=⟨fun|16=>78|n=>n,fun|24=>22|9=>9|4=>4|n=>n,fun|n=>n⟩
theorem Tryz.laysClone: Lays2.n16 prog laysClone_ren:=by constructor<;>intros<;>kernel_rfl
def Tryz.laysEqS_ren: Ren:=⟨fun|193=>113|n=>n,fun|31=>22|9=>9|4=>4|3=>3|0=>0|n=>n,fun|n=>n⟩
theorem Tryz.laysEqS: Lays.n193 prog laysEqS_ren:=by constructor<;>intros<;>kernel_rfl
def Tryz.laysTP_ren: Ren:=⟨fun|101=>123|208=>167|206=>125|n=>n,fun|9=>9|4=>4|3=>3|n=>n,fun|n=>n⟩
theorem Tryz.laysTP: Lays.n101 prog laysTP_ren:=by constructor<;>intros<;>kernel_rfl
def Tryz.laysTL_ren: Ren:=⟨fun|161=>157|231=>197|227=>192|233=>198|235=>199|228=>219|197=>223|151=>221|260=>243|152=>239|137=>161|119=>259|224=>184|225=>183|217=>182|266=>215|n=>n,fun|9=>9|4=>4|3=>3|5=>5|117=>183|116=>182|0=>0|124=>186|105=>161|21=>21|119=>205|46=>174|139=>208|138=>207|n=>n,fun|3=>2|4=>3|n=>n⟩
theorem Tryz.laysTL: Lays.n161 prog laysTL_ren:=by constructor<;>intros<;>kernel_rfl
def Tryz.laysTR_ren: Ren:=⟨fun|162=>153|232=>191|227=>192|234=>193|236=>194|228=>219|271=>220|151=>221|120=>238|197=>223|152=>239|260=>243|137=>161|119=>259|224=>184|225=>183|217=>182|266=>215|n=>n,fun|9=>9|4=>4|3=>3|5=>5|117=>183|116=>182|0=>0|124=>186|21=>21|105=>161|46=>174|119=>205|139=>208|138=>207|n=>n,fun|3=>2|4=>3|n=>n⟩
theorem Tryz.laysTR: Lays.n162 prog laysTR_ren:=by constructor<;>intros<;>kernel_rfl
def Tryz.laysIA_ren: Ren:=⟨fun|153=>240|152=>239|226=>260|227=>192|228=>219|137=>161|119=>259|224=>184|225=>183|217=>182|266=>215|n=>n,fun|9=>9|3=>3|4=>4|5=>5|21=>21|117=>183|116=>182|0=>0|46=>174|124=>186|n=>n,fun|n=>n⟩
theorem Tryz.laysIA: Lays.n153 prog laysIA_ren:=by constructor<;>intros<;>kernel_rfl
def Tryz.laysBC_ren: Ren:=⟨fun|13=>200|24=>224|25=>225|12=>201|31=>244|19=>226|20=>227|21=>228|22=>184|23=>229|29=>245|30=>246|n=>n,fun|22=>46|3=>3|4=>4|0=>0|5=>5|9=>9|33=>174|40=>196|39=>28|n=>n,fun|0=>0|n=>n⟩
theorem Tryz.laysBC: SlLaysB.n13 prog laysBC_ren:=by constructor<;>intros<;>kernel_rfl
def Tryz.laysBI_ren: Ren:=⟨fun|185=>201|187=>226|115=>227|253=>228|224=>184|254=>229|255=>245|291=>246|n=>n,fun|37=>46|3=>3|4=>4|0=>0|5=>5|46=>174|9=>9|146=>196|51=>28|n=>n,fun|1=>0|n=>n⟩
theorem Tryz.laysBI: Lays.n185 prog laysBI_ren:=by constructor<;>intros<;>kernel_rfl
def Tryz.laysCon_ren: Ren:=⟨fun|110=>121|109=>166|n=>n,fun|31=>22|9=>9|4=>4|3=>3|0=>0|n=>n,fun|n=>n⟩
theorem Tryz.laysCon: Lays.n110 prog laysCon_ren:=by constructor<;>intros<;>kernel_rfl
def Tryz.laysTm_ren: Ren:=⟨fun|160=>168|232=>191|231=>197|227=>192|234=>193|233=>198|236=>194|235=>199|228=>219|271=>220|151=>221|197=>223|120=>238|152=>239|260=>243|137=>161|119=>259|224=>184|225=>183|217=>182|266=>215|n=>n,fun|9=>9|4=>4|3=>3|5=>5|117=>183|116=>182|0=>0|124=>186|21=>21|105=>161|46=>174|119=>205|139=>208|138=>207|n=>n,fun|3=>2|4=>3|n=>n⟩
theorem Tryz.laysTm: Lays.n160 prog laysTm_ren:=by constructor<;>intros<;>kernel_rfl
end Go.Proofs
