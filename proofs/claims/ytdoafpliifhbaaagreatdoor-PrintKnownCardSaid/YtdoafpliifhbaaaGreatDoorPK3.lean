/- PrintKnown: the texts 12 to 15: the run comes to true. -/
import Derived.Test.YtdoafpliifhbaaaGreatDoorPK
open Go Go.Abs
namespace Go.Proofs.YtdoafpliifhbaaaGreatDoor.PK
set_option maxRecDepth 100000
theorem r12 : isTrue (res 12) = true := by kernel_rfl
theorem r13 : isTrue (res 13) = true := by kernel_rfl
theorem r14 : isTrue (res 14) = true := by kernel_rfl
theorem r15 : isTrue (res 15) = true := by kernel_rfl
end Go.Proofs.YtdoafpliifhbaaaGreatDoor.PK
