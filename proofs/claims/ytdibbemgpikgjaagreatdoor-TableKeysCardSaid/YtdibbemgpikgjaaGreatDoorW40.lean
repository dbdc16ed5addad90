/- The texts Op, in this order. -/
import Derived.Test.YtdibbemgpikgjaaGreatDoorW00
import Derived.Test.YtdibbemgpikgjaaGreatDoorW22
import Derived.Test.YtdibbemgpikgjaaGreatDoorW38
set_option maxRecDepth 10000
set_option maxHeartbeats 8000000
namespace Go.Proofs.YtdibbemgpikgjaaGreatDoor
open Go Go.RowKit
theorem WB {W:World} {b o:Nat} {z:dI} (hp:z.t.prev.length=32) (hr:W.rangeAt b o z.cells):W.rangeAt b (o+36) (z.t.bz.map Extern.Stop.cell):=fun j v hv=>by
 rw [Nat.add_assoc];refine hr (36+j) v ?_;unfold dI.cells;rw [Gp,List.getElem?_append_right (by simp [aj,hp]),show 36+j - ([I z.t.aT,I z.t.version,I z.t.aJ,Value.slice z.A z.zs.length z.c]++aj z.t.prev).length=j by simp [aj,hp]];exact hv
end Go.Proofs.YtdibbemgpikgjaaGreatDoor
