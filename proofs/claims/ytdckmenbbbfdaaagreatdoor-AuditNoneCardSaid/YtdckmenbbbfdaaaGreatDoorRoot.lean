/-
The law's run: for every number it answers true, and turns nothing that was there.
-/
import Derived.Test.YtdckmenbbbfdaaaGreatDoorRows
import Derived.Test.YtdckmenbbbfdaaaGreatDoorP10
import Derived.Test.YtdckmenbbbfdaaaGreatDoorP11
import Derived.Test.YtdckmenbbbfdaaaGreatDoorP12
import Derived.Test.YtdckmenbbbfdaaaGreatDoorP15
namespace Go.Proofs.YtdckmenbbbfdaaaGreatDoor
open Go.AM Go.RowKit
set_option maxRecDepth 100000
theorem root (g : Int) : (call (cfg [E2, E457, E777, E1133, E1150, E1169, E1186, (E1205 g), (E1222 g)]) 60 3 [.int .i64 g] AHeap.empty).all (fun q => q.1 = AV.bool true) :=
  Eq.mp (by kernel_rfl : (E2.h = E2.h ∧ (E457.h = E457.h ∧ (E777.h = E777.h ∧ (E1133.h = E1133.h ∧ (E1150.h = E1150.h ∧ (E1169.h = E1169.h ∧ (E1186.h = E1186.h ∧ ((E1205 g).h = (E1205 g).h ∧ ((E1222 g).h = (E1222 g).h ∧ ((AV.bool true) = AV.bool true)))))))))) = (call (cfg [E2, E457, E777, E1133, E1150, E1169, E1186, (E1205 g), (E1222 g)]) 60 3 [.int .i64 g] AHeap.empty).all (fun q => q.1 = AV.bool true)) ⟨rfl, rfl, rfl, rfl, rfl, rfl, rfl, rfl, rfl, rfl⟩

theorem law_any (g : Int) (w : World) : Calls Tryz.prog 3 #[.int .i64 g] w fun e w' => e = .returned (.bool true) ∧ Below w.heap.size w w' := by
  refine (calls_ground (call_sound (okc [E2, E457, E777, E1133, E1150, E1169, E1186, (E1205 g), (E1222 g)] (.cons pc2 (.cons pc457 (.cons pc777 (.cons pc1133 (.cons pc1150 (.cons pc1169 (.cons pc1186 (.cons (pc1205 g) (.cons (pc1222 g) .nil)))))))))) 60) (args' := #[.int .i64 g]) (.cons (.int _ _) .nil) rfl (root g)).mono ?_
  rintro e w' ⟨⟨v, h1, h2⟩, h3, h4, h5⟩
  cases h2
  exact ⟨h1, h3.os, h3.tape, h3.output, h4, h5⟩
end Go.Proofs.YtdckmenbbbfdaaaGreatDoor
