/-
Pieces of a run: calls and their answers.
-/
import Derived.Test.YtdckmenbbbfdaaaGreatDoorD1
import Derived.Test.YtdckmenbbbfdaaaGreatDoorOk
namespace Go.Proofs.YtdckmenbbbfdaaaGreatDoor
open Go.AM
set_option maxRecDepth 100000
/- masonry/crc.Of -/
theorem pc1001 : EntOk Tryz.prog E1001 := piece (E1001.r = E1001.r ∧ E1001.h' = E1001.h') ⟨rfl, rfl⟩ k2342 (call_sound (okc [] .nil) 60) (by kernel_rfl)
/- (*masonry/audit.audit).look -/
theorem pc1012 : EntOk Tryz.prog E1012 := piece (E1012.r = E1012.r ∧ E1012.h' = E1012.h') ⟨rfl, rfl⟩ k2438 (call_sound (okc [] .nil) 60) (by kernel_rfl)
/- strings.trimRightByte -/
theorem pc1133 : EntOk Tryz.prog E1133 := piece (E1133.r = E1133.r ∧ E1133.h' = E1133.h') ⟨rfl, rfl⟩ k2606 (call_sound (okc [] .nil) 60) (by kernel_rfl)
end Go.Proofs.YtdckmenbbbfdaaaGreatDoor
