/- PrintKnown: the texts 8 to 11: the run comes to true. -/
import Derived.Test.YtdoafpliifhbaaaGreatDoorPK
open Go Go.Abs
namespace Go.Proofs.YtdoafpliifhbaaaGreatDoor.PK
set_option maxRecDepth 100000
theorem r8 : isTrue (res 8) = true := by kernel_rfl
theorem r9 : isTrue (res 9) = true := by kernel_rfl
theorem r10 : isTrue (res 10) = true := by kernel_rfl
theorem r11 : isTrue (res 11) = true := by kernel_rfl
end Go.Proofs.YtdoafpliifhbaaaGreatDoor.PK
