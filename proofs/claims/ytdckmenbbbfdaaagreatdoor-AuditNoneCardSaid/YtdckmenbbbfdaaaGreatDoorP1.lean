/-
Pieces of a run: calls and their answers.
-/
import Derived.Test.YtdckmenbbbfdaaaGreatDoorD0
import Derived.Test.YtdckmenbbbfdaaaGreatDoorTrim
namespace Go.Proofs.YtdckmenbbbfdaaaGreatDoor
open Go.AM
set_option maxRecDepth 100000
/- (*masonry/desk.Desk).Sync -/
theorem pc308 : EntOk Tryz.prog E308 := piece (E308.r = E308.r ∧ E308.h' = E308.h') ⟨rfl, rfl⟩ k128 (call_sound (okc [] .nil) 60) (by kernel_rfl)
/- masonry/room.Read -/
theorem pc522 : EntOk Tryz.prog E522 := piece (E522.r = E522.r ∧ E522.h' = E522.h') ⟨rfl, rfl⟩ k276 (call_sound (okc [] .nil) 60) (by kernel_rfl)
end Go.Proofs.YtdckmenbbbfdaaaGreatDoor
