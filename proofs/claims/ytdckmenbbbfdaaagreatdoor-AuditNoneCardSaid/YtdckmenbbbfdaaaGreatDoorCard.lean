/-
The law AuditNone, with its listed package variables tied to the program's text: for every number it answers true.
-/
import Derived.Test.YtdckmenbbbfdaaaGreatDoorProof
import Derived.Test.YtdckmenbbbfdaaaGreatDoorTie
import Derived.Test.YtdckmenbbbfdaaaGreatDoorCards
import Derived.SevenTiedAt
import Derived.Test.YtdckmenbbbfdaaaGreatDoorA3
namespace Go.Proofs.YtdckmenbbbfdaaaGreatDoor
open Go

theorem cf_wf : Rows.auditNoneRow.wfByText (OpenSpec.ofChange Rows.auditNoneSpec) = true := by kernel_rfl
theorem cf_main : Tryz.pinned.checked.prog.mainIs = some (true, "103e4da479c81b8032ba4bbcb4ec512aa8b8631e1024a36a4e0b3b3d77343482".toList) := by kernel_rfl
theorem cf_none : Tryz.pinned.checked.prog.funcs.toList.any Func.goes = false := by kernel_rfl
theorem cf_goes : false = Rows.auditNoneRow.goesBy Tryz.pinned.checked.prog := Go.AM.goesBy_none cf_none rfl
theorem cf_looks : true = Tryz.pinned.checked.prog.looks [] := by kernel_rfl
theorem cf_named : Tryz.prog.funcNamed "masonry/masonrylaw26.AuditNone" = some 3 := by kernel_rfl
theorem cf_stand : Tryz.prog.wantsStandIn 3 = false := by kernel_rfl

theorem card_holds : Rows.AuditNoneCardSaid :=
  Claim7.holds_tied_plain_at .later [] [.data, .pinned] true (true, "103e4da479c81b8032ba4bbcb4ec512aa8b8631e1024a36a4e0b3b3d77343482") true
    row_holds (fun _ h => by cases h) cf_wf (fun _ h => by cases h) auditNone_row_tie rfl ⟨rfl, rfl⟩ cf_main rfl
    (fun f fn hf hfn => by
      obtain rfl : f = 3 := Option.some.inj (cf_named.symm.trans hf) |>.symm
      obtain rfl : fn = Tryz.f3 := (Option.some.inj (Tryz.func3.symm.trans hfn)).symm
      exact ⟨cf_looks, fun j t ht => by
        rw [Tryz.params3] at ht
        have h3 : t = 3 := by
          rcases j with _ | j
          · simpa using ht.symm
          · simp at ht
        subst h3
        exact cf_stand⟩)
    cf_goes
end Go.Proofs.YtdckmenbbbfdaaaGreatDoor
