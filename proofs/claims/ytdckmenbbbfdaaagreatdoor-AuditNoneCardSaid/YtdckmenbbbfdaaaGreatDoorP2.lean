/-
Pieces of a run: calls and their answers.
-/
import Derived.Test.YtdckmenbbbfdaaaGreatDoorD1
import Derived.Test.YtdckmenbbbfdaaaGreatDoorOk
namespace Go.Proofs.YtdckmenbbbfdaaaGreatDoor
open Go.AM
set_option maxRecDepth 100000
/- masonry/crc.Of -/
theorem pc220 : EntOk Tryz.prog E220 := piece (E220.r = E220.r ∧ E220.h' = E220.h') ⟨rfl, rfl⟩ k380 (call_sound (okc [] .nil) 60) (by kernel_rfl)
/- masonry/crc.Of -/
theorem pc303 : EntOk Tryz.prog E303 := piece (E303.r = E303.r ∧ E303.h' = E303.h') ⟨rfl, rfl⟩ k480 (call_sound (okc [] .nil) 60) (by kernel_rfl)
end Go.Proofs.YtdckmenbbbfdaaaGreatDoor
