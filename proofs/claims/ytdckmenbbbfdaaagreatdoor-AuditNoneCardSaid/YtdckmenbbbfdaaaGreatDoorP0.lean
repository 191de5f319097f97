/-
Pieces of a run: calls and their answers.
-/
import Derived.Test.YtdckmenbbbfdaaaGreatDoorD0
import Derived.Test.YtdckmenbbbfdaaaGreatDoorTrim
namespace Go.Proofs.YtdckmenbbbfdaaaGreatDoor
open Go.AM
set_option maxRecDepth 100000
/- (*masonry/wal.Wal).Commit -/
theorem pc42 : EntOk Tryz.prog E42 := piece (E42.r = E42.r ∧ E42.h' = E42.h') ⟨rfl, rfl⟩ k62 (call_sound (okc [] .nil) 60) (by kernel_rfl)
/- masonry/move.Format -/
theorem pc169 : EntOk Tryz.prog E169 := piece (E169.r = E169.r ∧ E169.h' = E169.h') ⟨rfl, rfl⟩ k101 (call_sound (okc [] .nil) 60) (by kernel_rfl)
end Go.Proofs.YtdckmenbbbfdaaaGreatDoor
