/-
Pieces of a run: calls and their answers.
-/
import Derived.Test.YtdckmenbbbfdaaaGreatDoorD1
import Derived.Test.YtdckmenbbbfdaaaGreatDoorOk
namespace Go.Proofs.YtdckmenbbbfdaaaGreatDoor
open Go.AM
set_option maxRecDepth 100000
/- strings.trimRightByte -/
theorem pc1205 (g : Int) : EntOk Tryz.prog (E1205 g) := piece ((E1205 g).r = (E1205 g).r ∧ (E1205 g).h' = (E1205 g).h') ⟨rfl, rfl⟩ k2847 (call_sound (okc [] .nil) 60) (by kernel_rfl)
/- masonry/crc.Of -/
theorem pc1222 (g : Int) : EntOk Tryz.prog (E1222 g) := piece ((E1222 g).r = (E1222 g).r ∧ (E1222 g).h' = (E1222 g).h') ⟨rfl, rfl⟩ k2897 (call_sound (okc [] .nil) 60) (by kernel_rfl)
end Go.Proofs.YtdckmenbbbfdaaaGreatDoor
