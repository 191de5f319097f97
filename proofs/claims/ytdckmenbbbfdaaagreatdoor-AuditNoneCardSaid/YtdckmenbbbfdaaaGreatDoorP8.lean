/-
Pieces of a run: calls and their answers.
-/
import Derived.Test.YtdckmenbbbfdaaaGreatDoorD1
import Derived.Test.YtdckmenbbbfdaaaGreatDoorOk
namespace Go.Proofs.YtdckmenbbbfdaaaGreatDoor
open Go.AM
set_option maxRecDepth 100000
/- masonry/crc.Of -/
theorem pc841 : EntOk Tryz.prog E841 := piece (E841.r = E841.r ∧ E841.h' = E841.h') ⟨rfl, rfl⟩ k1842 (call_sound (okc [] .nil) 60) (by kernel_rfl)
/- masonry/crc.Of -/
theorem pc861 : EntOk Tryz.prog E861 := piece (E861.r = E861.r ∧ E861.h' = E861.h') ⟨rfl, rfl⟩ k1943 (call_sound (okc [] .nil) 60) (by kernel_rfl)
end Go.Proofs.YtdckmenbbbfdaaaGreatDoor
