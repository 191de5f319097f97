/-
Pieces of a run: calls and their answers.
-/
import Derived.Test.YtdckmenbbbfdaaaGreatDoorD1
import Derived.Test.YtdckmenbbbfdaaaGreatDoorOk
namespace Go.Proofs.YtdckmenbbbfdaaaGreatDoor
open Go.AM
set_option maxRecDepth 100000
/- strings.trimRightByte -/
theorem pc19 : EntOk Tryz.prog E19 := piece (E19.r = E19.r ∧ E19.h' = E19.h') ⟨rfl, rfl⟩ k10 (call_sound (okc [] .nil) 60) (by kernel_rfl)
/- masonry/crc.Of -/
theorem pc36 : EntOk Tryz.prog E36 := piece (E36.r = E36.r ∧ E36.h' = E36.h') ⟨rfl, rfl⟩ k44 (call_sound (okc [] .nil) 60) (by kernel_rfl)
/- masonry/crc.Of -/
theorem pc98 : EntOk Tryz.prog E98 := piece (E98.r = E98.r ∧ E98.h' = E98.h') ⟨rfl, rfl⟩ k124 (call_sound (okc [] .nil) 60) (by kernel_rfl)
end Go.Proofs.YtdckmenbbbfdaaaGreatDoor
