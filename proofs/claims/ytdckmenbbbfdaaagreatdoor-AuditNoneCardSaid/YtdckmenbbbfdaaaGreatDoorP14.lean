/-
Pieces of a run: calls and their answers.
-/
import Derived.Test.YtdckmenbbbfdaaaGreatDoorD1
import Derived.Test.YtdckmenbbbfdaaaGreatDoorOk
import Derived.Test.YtdckmenbbbfdaaaGreatDoorP10
import Derived.Test.YtdckmenbbbfdaaaGreatDoorP9
namespace Go.Proofs.YtdckmenbbbfdaaaGreatDoor
open Go.AM
set_option maxRecDepth 100000
/- masonry/move.Read -/
theorem pc910 : EntOk Tryz.prog E910 := piece (E918.h = E918.h ∧ (E1001.h = E1001.h ∧ (E910.r = E910.r ∧ E910.h' = E910.h'))) ⟨rfl, rfl, rfl, rfl⟩ k2354 (call_sound (okc [E918, E1001] (.cons pc918 (.cons pc1001 .nil))) 60) (by kernel_rfl)
end Go.Proofs.YtdckmenbbbfdaaaGreatDoor
