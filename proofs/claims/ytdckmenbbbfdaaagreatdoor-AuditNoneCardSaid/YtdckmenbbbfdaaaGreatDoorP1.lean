/-
Pieces of a run: calls and their answers.
-/
import Derived.Test.YtdckmenbbbfdaaaGreatDoorD1
import Derived.Test.YtdckmenbbbfdaaaGreatDoorOk
namespace Go.Proofs.YtdckmenbbbfdaaaGreatDoor
open Go.AM
set_option maxRecDepth 100000
/- masonry/crc.Of -/
theorem pc154 : EntOk Tryz.prog E154 := piece (E154.r = E154.r ∧ E154.h' = E154.h') ⟨rfl, rfl⟩ k199 (call_sound (okc [] .nil) 60) (by kernel_rfl)
/- masonry/crc.Of -/
theorem pc199 : EntOk Tryz.prog E199 := piece (E199.r = E199.r ∧ E199.h' = E199.h') ⟨rfl, rfl⟩ k306 (call_sound (okc [] .nil) 60) (by kernel_rfl)
end Go.Proofs.YtdckmenbbbfdaaaGreatDoor
