/-
Pieces of a run: calls and their answers.
-/
import Derived.Test.YtdckmenbbbfdaaaGreatDoorD1
import Derived.Test.YtdckmenbbbfdaaaGreatDoorOk
namespace Go.Proofs.YtdckmenbbbfdaaaGreatDoor
open Go.AM
set_option maxRecDepth 100000
/- masonry/crc.Of -/
theorem pc681 : EntOk Tryz.prog E681 := piece (E681.r = E681.r ∧ E681.h' = E681.h') ⟨rfl, rfl⟩ k1526 (call_sound (okc [] .nil) 60) (by kernel_rfl)
/- (*masonry/audit.audit).look -/
theorem pc692 : EntOk Tryz.prog E692 := piece (E692.r = E692.r ∧ E692.h' = E692.h') ⟨rfl, rfl⟩ k1612 (call_sound (okc [] .nil) 60) (by kernel_rfl)
/- masonry/crc.Of -/
theorem pc802 : EntOk Tryz.prog E802 := piece (E802.r = E802.r ∧ E802.h' = E802.h') ⟨rfl, rfl⟩ k1729 (call_sound (okc [] .nil) 60) (by kernel_rfl)
end Go.Proofs.YtdckmenbbbfdaaaGreatDoor
