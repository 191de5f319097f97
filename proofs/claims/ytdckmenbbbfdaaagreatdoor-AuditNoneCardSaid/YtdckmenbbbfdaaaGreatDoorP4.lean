/-
Pieces of a run: calls and their answers.
-/
import Derived.Test.YtdckmenbbbfdaaaGreatDoorD0
import Derived.Test.YtdckmenbbbfdaaaGreatDoorTrim
import Derived.Test.YtdckmenbbbfdaaaGreatDoorP2
namespace Go.Proofs.YtdckmenbbbfdaaaGreatDoor
open Go.AM
set_option maxRecDepth 100000
/- masonry/audit.open -/
theorem pc763 : EntOk Tryz.prog E763 := piece (E836.h = E836.h ∧ (E763.r = E763.r ∧ E763.h' = E763.h')) ⟨rfl, rfl, rfl⟩ k762 (call_sound (okc [E836] (.cons pc836 .nil)) 60) (by kernel_rfl)
end Go.Proofs.YtdckmenbbbfdaaaGreatDoor
