/-
Pieces of a run: calls and their answers.
-/
import Derived.Test.YtdckmenbbbfdaaaGreatDoorD1
import Derived.Test.YtdckmenbbbfdaaaGreatDoorOk
namespace Go.Proofs.YtdckmenbbbfdaaaGreatDoor
open Go.AM
set_option maxRecDepth 100000
/- masonry/crc.Of -/
theorem pc438 : EntOk Tryz.prog E438 := piece (E438.r = E438.r ∧ E438.h' = E438.h') ⟨rfl, rfl⟩ k890 (call_sound (okc [] .nil) 60) (by kernel_rfl)
/- masonry/crc.Of -/
theorem pc482 : EntOk Tryz.prog E482 := piece (E482.r = E482.r ∧ E482.h' = E482.h') ⟨rfl, rfl⟩ k1018 (call_sound (okc [] .nil) 60) (by kernel_rfl)
end Go.Proofs.YtdckmenbbbfdaaaGreatDoor
