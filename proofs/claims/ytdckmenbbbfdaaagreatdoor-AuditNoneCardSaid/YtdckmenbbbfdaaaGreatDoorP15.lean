/-
Pieces of a run: calls and their answers.
-/
import Derived.Test.YtdckmenbbbfdaaaGreatDoorD1
import Derived.Test.YtdckmenbbbfdaaaGreatDoorOk
import Derived.Test.YtdckmenbbbfdaaaGreatDoorP0
import Derived.Test.YtdckmenbbbfdaaaGreatDoorP1
import Derived.Test.YtdckmenbbbfdaaaGreatDoorP10
import Derived.Test.YtdckmenbbbfdaaaGreatDoorP13
import Derived.Test.YtdckmenbbbfdaaaGreatDoorP14
import Derived.Test.YtdckmenbbbfdaaaGreatDoorP3
import Derived.Test.YtdckmenbbbfdaaaGreatDoorP4
import Derived.Test.YtdckmenbbbfdaaaGreatDoorP5
import Derived.Test.YtdckmenbbbfdaaaGreatDoorP7
import Derived.Test.YtdckmenbbbfdaaaGreatDoorP8
namespace Go.Proofs.YtdckmenbbbfdaaaGreatDoor
open Go.AM
set_option maxRecDepth 100000
/- masonry/masonrylaw26.Made -/
theorem pc2 : EntOk Tryz.prog E2 := piece (E19.h = E19.h ∧ (E36.h = E36.h ∧ (E43.h = E43.h ∧ (E199.h = E199.h ∧ (E212.h = E212.h ∧ (E331.h = E331.h ∧ (E343.h = E343.h ∧ (E2.r = E2.r ∧ E2.h' = E2.h')))))))) ⟨rfl, rfl, rfl, rfl, rfl, rfl, rfl, rfl, rfl⟩ k981 (call_sound (okc [E19, E36, E43, E199, E212, E331, E343] (.cons pc19 (.cons pc36 (.cons pc43 (.cons pc199 (.cons pc212 (.cons pc331 (.cons pc343 .nil)))))))) 60) (by kernel_rfl)
/- masonry/audit.looked -/
theorem pc457 : EntOk Tryz.prog E457 := piece (E482.h = E482.h ∧ (E521.h = E521.h ∧ (E533.h = E533.h ∧ (E590.h = E590.h ∧ (E692.h = E692.h ∧ (E457.r = E457.r ∧ E457.h' = E457.h')))))) ⟨rfl, rfl, rfl, rfl, rfl, rfl, rfl⟩ k1667 (call_sound (okc [E482, E521, E533, E590, E692] (.cons pc482 (.cons pc521 (.cons pc533 (.cons pc590 (.cons pc692 .nil)))))) 60) (by kernel_rfl)
/- masonry/audit.looked -/
theorem pc777 : EntOk Tryz.prog E777 := piece (E802.h = E802.h ∧ (E841.h = E841.h ∧ (E853.h = E853.h ∧ (E910.h = E910.h ∧ (E1012.h = E1012.h ∧ (E777.r = E777.r ∧ E777.h' = E777.h')))))) ⟨rfl, rfl, rfl, rfl, rfl, rfl, rfl⟩ k2516 (call_sound (okc [E802, E841, E853, E910, E1012] (.cons pc802 (.cons pc841 (.cons pc853 (.cons pc910 (.cons pc1012 .nil)))))) 60) (by kernel_rfl)
end Go.Proofs.YtdckmenbbbfdaaaGreatDoor
