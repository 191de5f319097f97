/-
Pieces of a run: calls and their answers.
-/
import Derived.Test.YtdckmenbbbfdaaaGreatDoorD0
import Derived.Test.YtdckmenbbbfdaaaGreatDoorTrim
import Derived.Test.YtdckmenbbbfdaaaGreatDoorP1
namespace Go.Proofs.YtdckmenbbbfdaaaGreatDoor
open Go.AM
set_option maxRecDepth 100000
/- masonry/audit.open -/
theorem pc449 : EntOk Tryz.prog E449 := piece (E522.h = E522.h ∧ (E449.r = E449.r ∧ E449.h' = E449.h')) ⟨rfl, rfl, rfl⟩ k358 (call_sound (okc [E522] (.cons pc522 .nil)) 60) (by kernel_rfl)
end Go.Proofs.YtdckmenbbbfdaaaGreatDoor
