/- PrintKnown: the texts 0 to 3: the run comes to true. -/
import Derived.Test.YtdoafpliifhbaaaGreatDoorPK
open Go Go.Abs
namespace Go.Proofs.YtdoafpliifhbaaaGreatDoor.PK
set_option maxRecDepth 100000
theorem r0 : isTrue (res 0) = true := by kernel_rfl
theorem r1 : isTrue (res 1) = true := by kernel_rfl
theorem r2 : isTrue (res 2) = true := by kernel_rfl
theorem r3 : isTrue (res 3) = true := by kernel_rfl
end Go.Proofs.YtdoafpliifhbaaaGreatDoor.PK
