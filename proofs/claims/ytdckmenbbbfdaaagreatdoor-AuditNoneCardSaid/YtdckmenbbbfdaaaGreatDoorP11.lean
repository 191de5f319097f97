/-
Pieces of a run: calls and their answers.
-/
import Derived.Test.YtdckmenbbbfdaaaGreatDoorD1
import Derived.Test.YtdckmenbbbfdaaaGreatDoorOk
namespace Go.Proofs.YtdckmenbbbfdaaaGreatDoor
open Go.AM
set_option maxRecDepth 100000
/- masonry/crc.Of -/
theorem pc1150 : EntOk Tryz.prog E1150 := piece (E1150.r = E1150.r ∧ E1150.h' = E1150.h') ⟨rfl, rfl⟩ k2648 (call_sound (okc [] .nil) 60) (by kernel_rfl)
/- strings.trimRightByte -/
theorem pc1169 : EntOk Tryz.prog E1169 := piece (E1169.r = E1169.r ∧ E1169.h' = E1169.h') ⟨rfl, rfl⟩ k2723 (call_sound (okc [] .nil) 60) (by kernel_rfl)
/- masonry/crc.Of -/
theorem pc1186 : EntOk Tryz.prog E1186 := piece (E1186.r = E1186.r ∧ E1186.h' = E1186.h') ⟨rfl, rfl⟩ k2768 (call_sound (okc [] .nil) 60) (by kernel_rfl)
end Go.Proofs.YtdckmenbbbfdaaaGreatDoor
