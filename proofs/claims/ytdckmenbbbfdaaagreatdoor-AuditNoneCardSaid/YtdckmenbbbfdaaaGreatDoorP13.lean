/-
Pieces of a run: calls and their answers.
-/
import Derived.Test.YtdckmenbbbfdaaaGreatDoorD1
import Derived.Test.YtdckmenbbbfdaaaGreatDoorOk
import Derived.Test.YtdckmenbbbfdaaaGreatDoorP0
import Derived.Test.YtdckmenbbbfdaaaGreatDoorP1
import Derived.Test.YtdckmenbbbfdaaaGreatDoorP2
import Derived.Test.YtdckmenbbbfdaaaGreatDoorP3
import Derived.Test.YtdckmenbbbfdaaaGreatDoorP4
import Derived.Test.YtdckmenbbbfdaaaGreatDoorP5
import Derived.Test.YtdckmenbbbfdaaaGreatDoorP6
import Derived.Test.YtdckmenbbbfdaaaGreatDoorP7
import Derived.Test.YtdckmenbbbfdaaaGreatDoorP8
import Derived.Test.YtdckmenbbbfdaaaGreatDoorP9
namespace Go.Proofs.YtdckmenbbbfdaaaGreatDoor
open Go.AM
set_option maxRecDepth 100000
/- (*masonry/wal.Wal).Commit -/
theorem pc43 : EntOk Tryz.prog E43 := piece (E98.h = E98.h ∧ (E154.h = E154.h ∧ (E43.r = E43.r ∧ E43.h' = E43.h'))) ⟨rfl, rfl, rfl, rfl⟩ k228 (call_sound (okc [E98, E154] (.cons pc98 (.cons pc154 .nil))) 60) (by kernel_rfl)
/- masonry/move.Read -/
theorem pc212 : EntOk Tryz.prog E212 := piece (E220.h = E220.h ∧ (E303.h = E303.h ∧ (E212.r = E212.r ∧ E212.h' = E212.h'))) ⟨rfl, rfl, rfl, rfl⟩ k505 (call_sound (okc [E220, E303] (.cons pc220 (.cons pc303 .nil))) 60) (by kernel_rfl)
/- (*masonry/wal.Wal).Commit -/
theorem pc343 : EntOk Tryz.prog E343 := piece (E388.h = E388.h ∧ (E438.h = E438.h ∧ (E343.r = E343.r ∧ E343.h' = E343.h'))) ⟨rfl, rfl, rfl, rfl⟩ k969 (call_sound (okc [E388, E438] (.cons pc388 (.cons pc438 .nil))) 60) (by kernel_rfl)
/- masonry/room.Read -/
theorem pc533 : EntOk Tryz.prog E533 := piece (E541.h = E541.h ∧ (E570.h = E570.h ∧ (E533.r = E533.r ∧ E533.h' = E533.h'))) ⟨rfl, rfl, rfl, rfl⟩ k1323 (call_sound (okc [E541, E570] (.cons pc541 (.cons pc570 .nil))) 60) (by kernel_rfl)
/- masonry/move.Read -/
theorem pc590 : EntOk Tryz.prog E590 := piece (E598.h = E598.h ∧ (E681.h = E681.h ∧ (E590.r = E590.r ∧ E590.h' = E590.h'))) ⟨rfl, rfl, rfl, rfl⟩ k1538 (call_sound (okc [E598, E681] (.cons pc598 (.cons pc681 .nil))) 60) (by kernel_rfl)
/- masonry/room.Read -/
theorem pc853 : EntOk Tryz.prog E853 := piece (E861.h = E861.h ∧ (E890.h = E890.h ∧ (E853.r = E853.r ∧ E853.h' = E853.h'))) ⟨rfl, rfl, rfl, rfl⟩ k2100 (call_sound (okc [E861, E890] (.cons pc861 (.cons pc890 .nil))) 60) (by kernel_rfl)
end Go.Proofs.YtdckmenbbbfdaaaGreatDoor
