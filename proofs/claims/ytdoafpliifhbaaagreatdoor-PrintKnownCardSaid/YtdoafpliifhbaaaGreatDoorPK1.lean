/- PrintKnown: the texts 4 to 7: the run comes to true. -/
import Derived.Test.YtdoafpliifhbaaaGreatDoorPK
open Go Go.Abs
namespace Go.Proofs.YtdoafpliifhbaaaGreatDoor.PK
set_option maxRecDepth 100000
theorem r4 : isTrue (res 4) = true := by kernel_rfl
theorem r5 : isTrue (res 5) = true := by kernel_rfl
theorem r6 : isTrue (res 6) = true := by kernel_rfl
theorem r7 : isTrue (res 7) = true := by kernel_rfl
end Go.Proofs.YtdoafpliifhbaaaGreatDoor.PK
