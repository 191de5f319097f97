/-
Pieces of a run: calls and their answers.
-/
import Derived.Test.YtdckmenbbbfdaaaGreatDoorD1
import Derived.Test.YtdckmenbbbfdaaaGreatDoorOk
namespace Go.Proofs.YtdckmenbbbfdaaaGreatDoor
open Go.AM
set_option maxRecDepth 100000
/- masonry/crc.Of -/
theorem pc570 : EntOk Tryz.prog E570 := piece (E570.r = E570.r ∧ E570.h' = E570.h') ⟨rfl, rfl⟩ k1293 (call_sound (okc [] .nil) 60) (by kernel_rfl)
/- masonry/crc.Of -/
theorem pc598 : EntOk Tryz.prog E598 := piece (E598.r = E598.r ∧ E598.h' = E598.h') ⟨rfl, rfl⟩ k1372 (call_sound (okc [] .nil) 60) (by kernel_rfl)
end Go.Proofs.YtdckmenbbbfdaaaGreatDoor
