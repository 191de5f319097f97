/-
The law's run: for every number it answers true, and turns nothing that was there.
-/
import Derived.Test.YtdckmenbbbfdaaaGreatDoorRows
import Derived.Test.YtdckmenbbbfdaaaGreatDoorP5
namespace Go.Proofs.YtdckmenbbbfdaaaGreatDoor
open Go.AM Go.RowKit
set_option maxRecDepth 100000
theorem root (g : Int) : (call (cfg [E1]) 60 3 [.int .i64 g] AHeap.empty).all (fun q => q.1 = AV.bool true) :=
  Eq.mp (by kernel_rfl : (E1.h = E1.h ∧ ((AV.bool true) = AV.bool true)) = (call (cfg [E1]) 60 3 [.int .i64 g] AHeap.empty).all (fun q => q.1 = AV.bool true)) ⟨rfl, rfl⟩

theorem law_any (g : Int) (w : World) : Calls Tryz.prog 3 #[.int .i64 g] w fun e w' => e = .returned (.bool true) ∧ Below w.heap.size w w' := by
  refine (calls_ground (call_sound (okc [E1] (.cons pc1 .nil)) 60) (args' := #[.int .i64 g]) (.cons (.int _ _) .nil) rfl (root g)).mono ?_
  rintro e w' ⟨⟨v, h1, h2⟩, h3, h4, h5⟩
  cases h2
  exact ⟨h1, h3.os, h3.tape, h3.output, h4, h5⟩
end Go.Proofs.YtdckmenbbbfdaaaGreatDoor
