/-
Pieces of a run: calls and their answers.
-/
import Derived.Test.YtdckmenbbbfdaaaGreatDoorD1
import Derived.Test.YtdckmenbbbfdaaaGreatDoorOk
namespace Go.Proofs.YtdckmenbbbfdaaaGreatDoor
open Go.AM
set_option maxRecDepth 100000
/- masonry/crc.Of -/
theorem pc331 : EntOk Tryz.prog E331 := piece (E331.r = E331.r ∧ E331.h' = E331.h') ⟨rfl, rfl⟩ k605 (call_sound (okc [] .nil) 60) (by kernel_rfl)
/- masonry/crc.Of -/
theorem pc388 : EntOk Tryz.prog E388 := piece (E388.r = E388.r ∧ E388.h' = E388.h') ⟨rfl, rfl⟩ k728 (call_sound (okc [] .nil) 60) (by kernel_rfl)
end Go.Proofs.YtdckmenbbbfdaaaGreatDoor
