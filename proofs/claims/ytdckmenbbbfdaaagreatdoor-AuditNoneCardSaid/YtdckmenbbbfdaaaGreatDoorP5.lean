/-
Pieces of a run: calls and their answers.
-/
import Derived.Test.YtdckmenbbbfdaaaGreatDoorD1
import Derived.Test.YtdckmenbbbfdaaaGreatDoorOk
namespace Go.Proofs.YtdckmenbbbfdaaaGreatDoor
open Go.AM
set_option maxRecDepth 100000
/- masonry/crc.Of -/
theorem pc521 : EntOk Tryz.prog E521 := piece (E521.r = E521.r ∧ E521.h' = E521.h') ⟨rfl, rfl⟩ k1096 (call_sound (okc [] .nil) 60) (by kernel_rfl)
/- masonry/crc.Of -/
theorem pc541 : EntOk Tryz.prog E541 := piece (E541.r = E541.r ∧ E541.h' = E541.h') ⟨rfl, rfl⟩ k1183 (call_sound (okc [] .nil) 60) (by kernel_rfl)
end Go.Proofs.YtdckmenbbbfdaaaGreatDoor
