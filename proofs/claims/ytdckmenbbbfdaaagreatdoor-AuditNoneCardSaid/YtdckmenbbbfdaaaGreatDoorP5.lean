/-
Pieces of a run: calls and their answers.
-/
import Derived.Test.YtdckmenbbbfdaaaGreatDoorD0
import Derived.Test.YtdckmenbbbfdaaaGreatDoorTrim
import Derived.Test.YtdckmenbbbfdaaaGreatDoorP0
import Derived.Test.YtdckmenbbbfdaaaGreatDoorP1
import Derived.Test.YtdckmenbbbfdaaaGreatDoorP3
import Derived.Test.YtdckmenbbbfdaaaGreatDoorP4
namespace Go.Proofs.YtdckmenbbbfdaaaGreatDoor
open Go.AM
set_option maxRecDepth 100000
/- masonry/masonrylaw26.alive -/
theorem pc1 : EntOk Tryz.prog E1 := piece (E42.h = E42.h ∧ (E169.h = E169.h ∧ (E308.h = E308.h ∧ (E449.h = E449.h ∧ (E763.h = E763.h ∧ (E1.r = E1.r ∧ E1.h' = E1.h')))))) ⟨rfl, rfl, rfl, rfl, rfl, rfl, rfl⟩ .leaf (call_sound (okc [E42, E169, E308, E449, E763] (.cons pc42 (.cons pc169 (.cons pc308 (.cons pc449 (.cons pc763 .nil)))))) 60) (by kernel_rfl)
end Go.Proofs.YtdckmenbbbfdaaaGreatDoor
