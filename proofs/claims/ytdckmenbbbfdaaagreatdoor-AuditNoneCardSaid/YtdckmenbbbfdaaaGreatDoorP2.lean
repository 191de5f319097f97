/-
Pieces of a run: calls and their answers.
-/
import Derived.Test.YtdckmenbbbfdaaaGreatDoorD0
import Derived.Test.YtdckmenbbbfdaaaGreatDoorTrim
namespace Go.Proofs.YtdckmenbbbfdaaaGreatDoor
open Go.AM
set_option maxRecDepth 100000
/- masonry/room.Read -/
theorem pc836 : EntOk Tryz.prog E836 := piece (E836.r = E836.r ∧ E836.h' = E836.h') ⟨rfl, rfl⟩ k569 (call_sound (okc [] .nil) 60) (by kernel_rfl)
end Go.Proofs.YtdckmenbbbfdaaaGreatDoor
