/- Lemmas for Y28. -/
import Derived.Test.YtcpcgpbohiineaaGreatDoorProg
import Derived.Test.YtcpcgpbohiineaaGreatDoorY00
namespace Go.Proofs.YtcpcgpbohiineaaGreatDoor
open Go.RowKit Go.Proofs.Tryz
set_option linter.all false
set_option maxRecDepth 100000
set_option maxHeartbeats 4000000
section
open Go.Shelf
def ALV:Go.Shelf.Ren:=⟨λ|5=>144|7=>204|A=>A,λ|23=>154|25=>225|3=>27|4=>4|20=>20|A=>A,λ|A=>A⟩
def ALW:Go.Proofs.SlLaysW.n5 prog ALV:={
 mixed:=AF
 f5:=⟨f144.name,AD,func144.trans (congrArg some AF)⟩
 f7:=func204.trans (congrArg some AF)
 t4:=underlying4
 a4:=isAgg4
 z4:=sizeOf4
 v4:=zeroValue4
 t20:=underlying20
 a20:=isAgg20
 z20:=sizeOf20
 v20:=zeroValue20
 t23:=underlying154
 a23:=isAgg154
 z23:=sizeOf154
 v23:=zeroValue154 }
def tC:Go.Shelf.Ren:=⟨λ|7=>195|10=>275|A=>A,λ|23=>71|26=>3|3=>162|28=>299|0=>0|27=>298|33=>202|4=>4|A=>A,λ|A=>A⟩
def tD:Go.Proofs.SlLaysZI.n7 prog tC:={
 mixed:=AF
 f7:=⟨f195.name,AD,func195.trans (congrArg some AF)⟩
 f10:=⟨f275.name,AD,func275.trans (congrArg some AF)⟩
 t0:=underlying0
 a0:=isAgg0
 z0:=sizeOf0
 v0:=zeroValue0
 t4:=underlying4
 a4:=isAgg4
 z4:=sizeOf4
 v4:=zeroValue4
 t23:=underlying71
 a23:=isAgg71
 z23:=sizeOf71
 v23:=zeroValue71
 t26:=underlying3
 a26:=isAgg3
 z26:=sizeOf3
 v26:=zeroValue3
 t27:=underlying298
 a27:=isAgg298
 z27:=sizeOf298
 v27:=zeroValue298
 t28:=underlying299
 a28:=isAgg299
 z28:=sizeOf299
 v28:=zeroValue299
 t33:=underlying202
 a33:=isAgg202
 z33:=sizeOf202
 v33:=zeroValue202 }
def s8:Go.Shelf.Ren:=⟨λ|6=>194|8=>274|9=>120|11=>333|13=>185|12=>184|23=>253|24=>254|14=>244|15=>245|16=>246|17=>247|18=>248|19=>249|20=>250|21=>251|22=>252|25=>319|26=>320|27=>321|28=>322|29=>323|30=>286|31=>360|A=>A,λ|26=>3|28=>299|24=>22|0=>0|3=>3|37=>185|48=>106|50=>276|4=>4|40=>335|39=>334|45=>66|5=>5|9=>9|51=>385|55=>389|57=>410|58=>411|33=>202|A=>A,λ|A=>A⟩
def ALU:Go.Proofs.SlLaysZI.n6 prog s8:={
 mixed:=AF
 f6:=⟨f194.name,AD,func194.trans (congrArg some AF)⟩
 f8:=⟨f274.name,AD,func274.trans (congrArg some AF)⟩
 f11:=⟨f333.name,AD,func333.trans (congrArg some AF)⟩
 t0:=underlying0
 a0:=isAgg0
 z0:=sizeOf0
 v0:=zeroValue0
 t24:=underlying22
 a24:=isAgg22
 z24:=sizeOf22
 v24:=zeroValue22
 t26:=underlying3
 a26:=isAgg3
 z26:=sizeOf3
 v26:=zeroValue3
 t28:=underlying299
 a28:=isAgg299
 z28:=sizeOf299
 v28:=zeroValue299
 i26:=by kernel_rfl }
end
