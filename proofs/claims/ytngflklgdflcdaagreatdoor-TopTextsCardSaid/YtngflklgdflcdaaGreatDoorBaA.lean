/- The types of the program, its sorts and their contracts. -/
import Derived.Test.YtngflklgdflcdaaGreatDoorPuB
import Derived.Test.YtngflklgdflcdaaGreatDoorProg
import Derived.Shelf.Strings.Prefix
import Derived.Shelf.Strings.Explode
import Derived.Shelf.Strings.OnBuilder
import Derived.Shelf.Strconv.Atoi
import Derived.Shelf.Strconv.Itoa3
set_option maxRecDepth 100000
set_option linter.all false
namespace Go.Ab
open Go.Proofs
def TT:List (Nat×TI):=[
 (3,⟨.int .i64,1,8,[.d (.int .i64 0)]⟩),
 (4,⟨.bool,1,1,[.d (.bool false)]⟩),
 (5,⟨.int .u8,1,1,[.d (.int .u8 0)]⟩),
 (9,⟨.str,1,16,[.d (.str ByteArray.empty)]⟩),
 (22,⟨.slice 3,1,24,[.fl 0 λ_=>[]]⟩),
 (23,⟨.other,1,8,[.d .any]⟩),
 (25,⟨.slice 86,1,24,[.fl 0 λ_=>[]]⟩),
 (26,⟨.slice 51,1,24,[.fl 0 λ_=>[]]⟩),
 (27,⟨.slice 63,1,24,[.fl 0 λ_=>[]]⟩),
 (30,⟨.slice 76,1,24,[.fl 0 λ_=>[]]⟩),
 (32,⟨.slice 218,1,24,[.fl 0 λ_=>[]]⟩),
 (33,⟨.slice 133,1,24,[.fl 0 λ_=>[]]⟩),
 (35,⟨.struct [(0,3),(1,25),(2,32),(3,33),(4,3),(5,3)],6,96,[.d (.int .i64 0),.fl 0 λ_=>[],.fl 0 λ_=>[],.fl 0 λ_=>[],.d (.int .i64 0),.d (.int .i64 0)]⟩),
 (37,⟨.int .i64,1,8,[.d (.int .i64 0)]⟩),
 (49,⟨.slice 113,1,24,[.fl 0 λ_=>[]]⟩),
 (51,⟨.struct [(0,3),(1,49)],2,32,[.d (.int .i64 0),.fl 0 λ_=>[]]⟩),
 (57,⟨.struct [(0,22),(1,3)],2,32,[.fl 0 λ_=>[],.d (.int .i64 0)]⟩),
 (60,⟨.struct [(0,3),(1,3),(2,3),(3,3)],4,32,[.d (.int .i64 0),.d (.int .i64 0),.d (.int .i64 0),.d (.int .i64 0)]⟩),
 (61,⟨.slice 60,1,24,[.fl 0 λ_=>[]]⟩),
 (63,⟨.struct [(0,61)],1,24,[.fl 0 λ_=>[]]⟩),
 (64,⟨.other,1,8,[.d .any]⟩),
 (69,⟨.slice 71,1,24,[.fl 0 λ_=>[]]⟩),
 (71,⟨.struct [(0,3),(1,3),(2,3),(3,69)],4,48,[.d (.int .i64 0),.d (.int .i64 0),.d (.int .i64 0),.fl 0 λ_=>[]]⟩),
 (73,⟨.other,1,8,[.d .any]⟩),
 (74,⟨.slice 78,1,24,[.fl 0 λ_=>[]]⟩),
 (76,⟨.struct [(0,3),(1,9),(2,71),(6,74),(7,3),(8,3),(9,4)],10,120,[.d (.int .i64 0),.d (.str ByteArray.empty),.d (.int .i64 0),.d (.int .i64 0),.d (.int .i64 0),.fl 0 λ_=>[],.fl 0 λ_=>[],.d (.int .i64 0),.d (.int .i64 0),.d (.bool false)]⟩),
 (78,⟨.struct [(0,3),(1,3)],2,16,[.d (.int .i64 0),.d (.int .i64 0)]⟩),
 (84,⟨.slice 87,1,24,[.fl 0 λ_=>[]]⟩),
 (86,⟨.struct [(0,9),(1,3),(2,3)],3,32,[.d (.str ByteArray.empty),.d (.int .i64 0),.d (.int .i64 0)]⟩),
 (87,⟨.slice 9,1,24,[.fl 0 λ_=>[]]⟩),
 (97,⟨.other,1,8,[.d .any]⟩),
 (107,⟨.array 3 61,3,72,[.fl 0 λ_=>[],.fl 0 λ_=>[],.fl 0 λ_=>[]]⟩),
 (113,⟨.struct [(0,3),(1,63),(2,3),(3,3)],4,48,[.d (.int .i64 0),.fl 0 λ_=>[],.d (.int .i64 0),.d (.int .i64 0)]⟩),
 (116,⟨.slice 122,1,24,[.fl 0 λ_=>[]]⟩),
 (122,⟨.slice 192,1,24,[.fl 0 λ_=>[]]⟩),
 (125,⟨.slice 5,1,24,[.fl 0 λ_=>[]]⟩),
 (133,⟨.struct [(0,3),(1,3),(2,3),(3,3),(4,63)],5,56,[.d (.int .i64 0),.d (.int .i64 0),.d (.int .i64 0),.d (.int .i64 0),.fl 0 λ_=>[]]⟩),
 (150,⟨.other,1,8,[.d .any]⟩),
 (169,⟨.other,1,8,[.d .any]⟩),
 (172,⟨.int .u64,1,8,[.d (.int .u64 0)]⟩),
 (177,⟨.struct [(0,63),(1,63),(2,63)],3,72,[.fl 0 λ_=>[],.fl 0 λ_=>[],.fl 0 λ_=>[]]⟩),
 (180,⟨.array 3 63,3,72,[.fl 0 λ_=>[],.fl 0 λ_=>[],.fl 0 λ_=>[]]⟩),
 (183,⟨.other,1,8,[.d .any]⟩),
 (185,⟨.other,1,8,[.d .any]⟩),
 (188,⟨.slice 194,1,24,[.fl 0 λ_=>[]]⟩),
 (192,⟨.struct [(0,3),(1,3)],2,16,[.d (.int .i64 0),.d (.int .i64 0)]⟩),
 (194,⟨.struct [(0,192),(2,192)],4,32,[.d (.int .i64 0),.d (.int .i64 0),.d (.int .i64 0),.d (.int .i64 0)]⟩),
 (209,⟨.slice 61,1,24,[.fl 0 λ_=>[]]⟩),
 (218,⟨.struct [(0,3),(1,3),(2,63)],3,40,[.d (.int .i64 0),.d (.int .i64 0),.fl 0 λ_=>[]]⟩),
 (239,⟨.int .u64,1,8,[.d (.int .u64 0)]⟩),
 (246,⟨.other,1,8,[.d .any]⟩),
 (253,⟨.slice 258,1,24,[.fl 0 λ_=>[]]⟩),
 (255,⟨.other,1,8,[.d .any]⟩),
 (258,⟨.struct [(0,3),(1,3)],2,16,[.d (.int .i64 0),.d (.int .i64 0)]⟩),
 (268,⟨.struct [(0,239),(1,239)],2,16,[.d (.int .u64 0),.d (.int .u64 0)]⟩),
 (274,⟨.other,1,8,[.d .any]⟩),
 (289,⟨.other,1,8,[.d .any]⟩),
 (291,⟨.struct [(0,87),(1,4)],2,32,[.fl 0 λ_=>[],.d (.bool false)]⟩),
 (295,⟨.struct [(0,3),(1,25),(2,32),(3,33),(4,3)],5,88,[.d (.int .i64 0),.fl 0 λ_=>[],.fl 0 λ_=>[],.fl 0 λ_=>[],.d (.int .i64 0)]⟩),
 (297,⟨.struct [(0,295),(5,113),(9,61)],10,160,[.d (.int .i64 0),.fl 0 λ_=>[],.fl 0 λ_=>[],.fl 0 λ_=>[],.d (.int .i64 0),.d (.int .i64 0),.fl 0 λ_=>[],.d (.int .i64 0),.d (.int .i64 0),.fl 0 λ_=>[]]⟩),
 (299,⟨.struct [(0,61),(1,61),(2,61)],3,72,[.fl 0 λ_=>[],.fl 0 λ_=>[],.fl 0 λ_=>[]]⟩),
 (307,⟨.slice 309,1,24,[.fl 0 λ_=>[]]⟩),
 (309,⟨.struct [(0,3),(1,3),(2,253)],3,40,[.d (.int .i64 0),.d (.int .i64 0),.fl 0 λ_=>[]]⟩),
 (315,⟨.other,1,8,[.d .any]⟩),
 (350,⟨.other,1,8,[.d .any]⟩),
 (352,⟨.slice 299,1,24,[.fl 0 λ_=>[]]⟩),
 (381,⟨.other,1,8,[.d .any]⟩),
 (387,⟨.other,1,8,[.d .any]⟩),
 (397,⟨.slice 253,1,24,[.fl 0 λ_=>[]]⟩),
 (400,⟨.other,1,8,[.d .any]⟩)]
theorem Ej:TT.map (λp=>Fg Tryz.prog p.1)=TT.map (λp=>some p.2):=by kernel_rfl
theorem Zs:Qa Tryz.prog (UH TT):=Q8I Ej
theorem uw:Tryz.prog.follows .mixedOrders=true:=by kernel_rfl
theorem sj:mh Tryz.prog 60:=⟨by kernel_rfl,by kernel_rfl,by kernel_rfl⟩
theorem Z6L:mh Tryz.prog 78:=⟨by kernel_rfl,by kernel_rfl,by kernel_rfl⟩
theorem IM:mh Tryz.prog 86:=⟨by kernel_rfl,by kernel_rfl,by kernel_rfl⟩
theorem E8:mh Tryz.prog 258:=⟨by kernel_rfl,by kernel_rfl,by kernel_rfl⟩
theorem Gs:Vj (UH TT) 22 ⟨.int .i64,1,8,[.d (.int .i64 0)]⟩:=⟨⟨.slice 3,1,24,[.fl 0 λ_=>[]]⟩,3,by kernel_rfl,by kernel_rfl,by kernel_rfl⟩
theorem sB:Vj (UH TT) 30 ⟨.struct [(0,3),(1,9),(2,71),(6,74),(7,3),(8,3),(9,4)],10,120,[.d (.int .i64 0),.d (.str ByteArray.empty),.d (.int .i64 0),.d (.int .i64 0),.d (.int .i64 0),.fl 0 λ_=>[],.fl 0 λ_=>[],.d (.int .i64 0),.d (.int .i64 0),.d (.bool false)]⟩:=⟨⟨.slice 76,1,24,[.fl 0 λ_=>[]]⟩,76,by kernel_rfl,by kernel_rfl,by kernel_rfl⟩
theorem zU:Vj (UH TT) 32 ⟨.struct [(0,3),(1,3),(2,63)],3,40,[.d (.int .i64 0),.d (.int .i64 0),.fl 0 λ_=>[]]⟩:=⟨⟨.slice 218,1,24,[.fl 0 λ_=>[]]⟩,218,by kernel_rfl,by kernel_rfl,by kernel_rfl⟩
theorem oU:Vj (UH TT) 33 ⟨.struct [(0,3),(1,3),(2,3),(3,3),(4,63)],5,56,[.d (.int .i64 0),.d (.int .i64 0),.d (.int .i64 0),.d (.int .i64 0),.fl 0 λ_=>[]]⟩:=⟨⟨.slice 133,1,24,[.fl 0 λ_=>[]]⟩,133,by kernel_rfl,by kernel_rfl,by kernel_rfl⟩
theorem zT:Vj (UH TT) 61 ⟨.struct [(0,3),(1,3),(2,3),(3,3)],4,32,[.d (.int .i64 0),.d (.int .i64 0),.d (.int .i64 0),.d (.int .i64 0)]⟩:=⟨⟨.slice 60,1,24,[.fl 0 λ_=>[]]⟩,60,by kernel_rfl,by kernel_rfl,by kernel_rfl⟩
theorem NI:Vj (UH TT) 87 ⟨.str,1,16,[.d (.str ByteArray.empty)]⟩:=⟨⟨.slice 9,1,24,[.fl 0 λ_=>[]]⟩,9,by kernel_rfl,by kernel_rfl,by kernel_rfl⟩
end Go.Ab
namespace Go.Proofs
open Go.Shelf
variable {B:Func}
theorem fz{n:FuncId}(q:((Tryz.prog.funcs.getD n Tryz.f3).name == "runtime.NumGoroutine")=false:=by kernel_rfl)(e:Tryz.prog.funcs[n]?=some {B with name:=(Tryz.prog.funcs.getD n Tryz.f3).name}:=by kernel_rfl):Bears Tryz.prog n B:=⟨_,q,e⟩
def Z8S:Go.Shelf.Ren:=⟨λ|5=>251|8=>94|7=>316|19=>171|20=>172|10=>366|11=>367|12=>368|13=>369|14=>370|15=>371|16=>372|17=>373|18=>374|30=>399|31=>229|32=>230|33=>400|34=>401|35=>206|40=>406|n=>n,λ|23=>22|25=>3|3=>3|32=>172|22=>22|0=>0|44=>237|46=>239|4=>4|36=>231|35=>230|41=>165|5=>5|9=>9|53=>283|57=>287|63=>346|64=>204|n=>n,λ|n=>n⟩
theorem Of:Go.Proofs.SlLaysM.n5 Tryz.prog Z8S:=by constructor<;>first|kernel_rfl|(intro;kernel_rfl)|exact fz
def Oz:Go.Shelf.Ren:=⟨λ|6=>253|15=>94|14=>317|28=>171|29=>172|20=>375|21=>376|22=>377|23=>378|24=>379|25=>380|26=>381|27=>382|46=>402|47=>229|48=>230|49=>403|50=>404|57=>407|n=>n,λ|22=>253|24=>258|25=>315|3=>3|39=>172|0=>0|53=>237|55=>239|4=>4|46=>231|45=>230|50=>165|5=>5|9=>9|66=>283|70=>287|76=>346|77=>204|n=>n,λ|n=>n⟩
theorem Z8R:Go.Proofs.SlLaysF0.n6 Tryz.prog Oz:=by constructor<;>first|kernel_rfl|(intro;kernel_rfl)|exact fz
def O7:Go.Shelf.Ren:=⟨λ|6=>37|15=>94|14=>93|28=>171|29=>172|20=>163|21=>164|22=>165|23=>166|24=>167|25=>168|26=>169|27=>170|46=>228|47=>229|48=>230|49=>231|50=>232|57=>297|n=>n,λ|22=>25|24=>86|25=>97|3=>3|39=>172|0=>0|53=>237|55=>239|4=>4|46=>231|45=>230|50=>165|5=>5|9=>9|66=>283|70=>287|76=>346|77=>204|n=>n,λ|n=>n⟩
theorem OW:Go.Proofs.SlLaysF0.n6 Tryz.prog O7:=by constructor<;>first|kernel_rfl|(intro;kernel_rfl)|exact fz
def Z9a:Go.Shelf.Ren:=⟨λ|6=>123|15=>94|14=>205|28=>171|29=>172|20=>268|21=>269|22=>270|23=>271|24=>272|25=>273|26=>274|27=>275|46=>321|47=>229|48=>230|49=>322|50=>323|57=>384|n=>n,λ|22=>22|24=>3|25=>64|3=>3|39=>172|0=>0|53=>237|55=>239|4=>4|46=>231|45=>230|50=>165|5=>5|9=>9|66=>283|70=>287|76=>346|77=>204|n=>n,λ|n=>n⟩
theorem Z9b:Go.Proofs.SlLaysF.n6 Tryz.prog Z9a:=by constructor<;>first|kernel_rfl|(intro;kernel_rfl)|exact fz
def Z8M:Go.Shelf.Ren:=⟨λ|4=>363|n=>n,λ|22=>253|25=>258|3=>3|4=>4|9=>9|20=>20|0=>0|2=>3|n=>n,λ|n=>n⟩
theorem En:Go.Proofs.Lays8.n4 Tryz.prog Z8M:=by constructor<;>first|kernel_rfl|(intro;kernel_rfl)|exact fz
def OK:Go.Shelf.Ren:=⟨λ|4=>248|n=>n,λ|22=>61|25=>60|3=>3|4=>4|9=>9|20=>20|0=>0|n=>n,λ|n=>n⟩
theorem Z8V:Go.Proofs.Lays8.n4 Tryz.prog OK:=by constructor<;>first|kernel_rfl|(intro;kernel_rfl)|exact fz
def Z8O:Go.Shelf.Ren:=⟨λ|4=>257|n=>n,λ|22=>122|25=>192|3=>3|4=>4|9=>9|20=>20|0=>0|2=>3|n=>n,λ|n=>n⟩
theorem Z8P:Go.Proofs.Lays8.n4 Tryz.prog Z8O:=by constructor<;>first|kernel_rfl|(intro;kernel_rfl)|exact fz
def Z8I:Go.Shelf.Ren:=⟨λ|171=>62|243=>140|246=>214|283=>277|284=>278|285=>279|286=>280|129=>172|317=>324|318=>325|319=>326|320=>327|337=>385|338=>386|n=>n,λ|3=>3|9=>9|2=>2|4=>4|171=>329|0=>0|53=>239|37=>125|5=>5|173=>331|212=>367|51=>237|20=>20|213=>368|46=>172|232=>429|233=>430|n=>n,λ|17=>3|18=>8|19=>9|n=>n⟩
theorem Z8J:Go.Proofs.LaysM.n171 Tryz.prog Z8I:=by constructor<;>first|kernel_rfl|(intro;kernel_rfl)|exact fz|(constructor<;>first|kernel_rfl|(intro;kernel_rfl)|exact fz)
def Z8Y:Go.Shelf.Ren:=⟨λ|172=>160|244=>225|245=>226|247=>292|279=>293|280=>294|281=>295|282=>296|287=>332|316=>333|171=>62|205=>334|321=>389|322=>390|243=>140|246=>214|283=>277|284=>278|285=>279|286=>280|129=>172|317=>324|318=>325|319=>326|320=>327|337=>385|338=>386|n=>n,λ|9=>9|3=>3|75=>142|76=>143|4=>4|5=>5|167=>340|37=>125|0=>0|85=>341|2=>2|168=>343|53=>239|175=>372|46=>172|210=>376|127=>223|145=>420|143=>418|21=>21|171=>329|173=>331|212=>367|51=>237|20=>20|213=>368|232=>429|233=>430|80=>148|n=>n,λ|15=>4|16=>5|17=>3|18=>8|19=>9|n=>n⟩
theorem Z8Z:Go.Proofs.Lays.n172 Tryz.prog Z8Y:=by constructor<;>first|kernel_rfl|(intro;kernel_rfl)|exact fz
def BP:Go.Shelf.Ren:=⟨λ|146=>86|221=>159|268=>224|138=>77|143=>152|195=>150|197=>291|218=>151|219=>221|260=>331|217=>223|225=>287|224=>288|267=>289|266=>290|314=>330|n=>n,λ|9=>9|31=>87|3=>3|4=>4|0=>0|105=>338|21=>21|5=>5|46=>172|119=>413|139=>416|138=>415|146=>370|51=>237|n=>n,λ|1=>0|3=>6|4=>7|n=>n⟩
theorem BQ:Go.Proofs.Lays.n146 Tryz.prog BP:=by constructor<;>first|kernel_rfl|(intro;kernel_rfl)|exact fz
def XM:Go.Shelf.Ren:=⟨λ|156=>68|165=>144|166=>67|169=>71|240=>143|241=>216|276=>215|277=>281|n=>n,λ|31=>87|9=>9|3=>3|4=>4|0=>0|20=>20|72=>139|76=>143|70=>137|37=>125|75=>142|127=>223|164=>276|5=>5|80=>148|n=>n,λ|n=>n⟩
theorem gN:Go.Proofs.Lays.n156 Tryz.prog XM:=by constructor<;>first|kernel_rfl|(intro;kernel_rfl)|exact fz
def Z8G:Go.Shelf.Ren:=⟨λ|170=>70|n=>n,λ|70=>137|3=>3|0=>0|72=>139|37=>125|5=>5|n=>n,λ|n=>n⟩
theorem Z8H:Go.Proofs.Lays.n170 Tryz.prog Z8G:=by constructor<;>first|kernel_rfl|(intro;kernel_rfl)|exact fz
def Z8A:Go.Shelf.Ren:=⟨λ|101=>89|208=>161|206=>227|n=>n,λ|9=>9|4=>4|3=>3|n=>n,λ|n=>n⟩
theorem Z8B:Go.Proofs.Lays.n101 Tryz.prog Z8A:=by constructor<;>first|kernel_rfl|(intro;kernel_rfl)|exact fz
def Z8C:Go.Shelf.Ren:=⟨λ|102=>84|209=>158|207=>153|n=>n,λ|9=>9|4=>4|3=>3|n=>n,λ|n=>n⟩
theorem Z8D:Go.Proofs.Lays.n102 Tryz.prog Z8C:=by constructor<;>first|kernel_rfl|(intro;kernel_rfl)|exact fz
def IJ:Go.Shelf.Ren:=⟨λ|100=>78|207=>153|n=>n,λ|9=>9|4=>4|3=>3|n=>n,λ|n=>n⟩
theorem Z8F:Go.Proofs.Lays.n100 Tryz.prog IJ:=by constructor<;>first|kernel_rfl|(intro;kernel_rfl)|exact fz
def ET:Go.Shelf.Ren:=⟨λ|144=>162|143=>152|219=>221|217=>223|225=>287|224=>288|267=>289|266=>290|314=>330|n=>n,λ|9=>9|4=>4|3=>3|5=>5|46=>172|146=>370|51=>237|n=>n,λ|1=>0|n=>n⟩
theorem Z8X:Go.Proofs.Lays.n144 Tryz.prog ET:=by constructor<;>first|kernel_rfl|(intro;kernel_rfl)|exact fz
