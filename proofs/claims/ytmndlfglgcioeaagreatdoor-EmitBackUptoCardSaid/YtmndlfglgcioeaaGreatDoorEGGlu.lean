/- Slices of slices, and rows that are glued from several: append(a, b...), of any elements of one cell. No program stands in it. -/
import Derived.Maps.AppendAt
import Derived.Test.YtmndlfglgcioeaaGreatDoorEGBase
set_option maxHeartbeats 40000000
namespace Go.Proofs.YtmndlfglgcioeaaGreatDoor
open Go.RowKit
set_option maxRecDepth 10000
theorem Td{P:Program}{e:TypeId}{i:TypeInfo}(hi:P.info? e=some i)(hsize:i.size=1)(w:World):(sizeOf e).run P w=.ok 1 w:=by
 simp[sizeOf,typeInfo,hi,hsize]
section
variable {P:Program} {t:TypeId} {i:TypeInfo} (ht:P.underlying t=some (.slice (P.elem t))) (hi:P.info? (P.elem t)=some i) (hsize:i.size=1)
include ht hi hsize
end
end Go.Proofs.YtmndlfglgcioeaaGreatDoor
