/-
The machine's tables are the program's.
-/
import Derived.Test.YtdckmenbbbfdaaaGreatDoorTab
import Derived.Test.YtdckmenbbbfdaaaGreatDoorPrims
import Derived.KernelRfl
namespace Go.Proofs.YtdckmenbbbfdaaaGreatDoor
open Go.AM
set_option maxRecDepth 100000
noncomputable def amT : Tabs := ⟨amTy, amCode, amKeep, amDr⟩
theorem am_mixed : Tryz.prog.follows .mixedOrders = true := by kernel_rfl
theorem am_ty : amTy.mapIx (fun n _ => mkTI Tryz.prog n) 0 1 = amTy.mapIx (fun _ i => some i) 0 1 := by kernel_rfl
theorem am_fn : amCode.mapIx (fun n _ => Tryz.prog.funcs[n]?) 0 1 = amCode.mapIx (fun _ f => some f) 0 1 := by kernel_rfl
theorem am_co : amCode.allB (fun n fn => fnOkB (amT.annOk n) fn) 0 1 = true := by kernel_rfl
theorem am_flat : amFlat.all (fun t => !Tryz.prog.eqGuardType Tryz.prog.depth t && flatB Tryz.prog 8 t) = true := by kernel_rfl
noncomputable def cfgB (base : Prims) (l : List Ent) : Cfg := amT.cfg Tryz.prog (flatAt amFlat) (memoPrims l base) 100000
theorem okB (base : Prims) (hb : ∀ f p, base f = some p → PrimOk Tryz.prog f p) (l : List Ent) (h : AllOk Tryz.prog l) : CfgOk Tryz.prog (cfgB base l) :=
  Tabs.ok am_mixed am_ty am_fn am_co (flatAt_ok am_flat) (memoPrims_ok hb h)
end Go.Proofs.YtdckmenbbbfdaaaGreatDoor
