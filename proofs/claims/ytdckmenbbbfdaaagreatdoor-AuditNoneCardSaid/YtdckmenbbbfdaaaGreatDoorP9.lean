/-
Pieces of a run: calls and their answers.
-/
import Derived.Test.YtdckmenbbbfdaaaGreatDoorD1
import Derived.Test.YtdckmenbbbfdaaaGreatDoorOk
namespace Go.Proofs.YtdckmenbbbfdaaaGreatDoor
open Go.AM
set_option maxRecDepth 100000
/- masonry/crc.Of -/
theorem pc890 : EntOk Tryz.prog E890 := piece (E890.r = E890.r ∧ E890.h' = E890.h') ⟨rfl, rfl⟩ k2068 (call_sound (okc [] .nil) 60) (by kernel_rfl)
/- masonry/crc.Of -/
theorem pc918 : EntOk Tryz.prog E918 := piece (E918.r = E918.r ∧ E918.h' = E918.h') ⟨rfl, rfl⟩ k2160 (call_sound (okc [] .nil) 60) (by kernel_rfl)
end Go.Proofs.YtdckmenbbbfdaaaGreatDoor
