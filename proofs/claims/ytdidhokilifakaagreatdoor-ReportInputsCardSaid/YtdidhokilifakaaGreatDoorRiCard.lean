/- For every text, runnellaw26.ReportInputs returns true and the text reads afterwards as before. CONDITIONS: when the call begins, the package-level variables that the row lists hold what the program's own text lays (the card ties them to that text, in the pruned copy of the repository); each other package-level variable may hold any value of its type; no stand-in -/
import Derived.Test.YtdidhokilifakaaGreatDoorRiRow
import Derived.Test.YtdidhokilifakaaGreatDoorRiTie2
import Derived.Test.YtdidhokilifakaaGreatDoorRiGoes
import Derived.Test.YtdidhokilifakaaGreatDoorCards
namespace Go.Proofs.YtdidhokilifakaaGreatDoor
open Go

theorem byText : Rows.reportInputsRow.wfByText (OpenSpec.ofChange Rows.reportInputsSpec) = true := by kernel_rfl
theorem mainIs : Tryz.pinned.checked.prog.mainIs = some (true, "6fe15c84cd8623478910e70b599ea55a475bcfbcf03c89722bf66119c482800d".toList) := by kernel_rfl
theorem looks3 : true = Tryz.prog.looks [] := by kernel_rfl
theorem stand9 : Tryz.prog.wantsStandIn 9 = false := by kernel_rfl

theorem reportInputs_holds : Rows.ReportInputsCardSaid :=
  Claim7.holds_tied_plain_at .later [] [.sentinel, .sentinel, .data, .data, .data, .pinned, .data] true (true, "6fe15c84cd8623478910e70b599ea55a475bcfbcf03c89722bf66119c482800d") true row_holds (fun _ h => by cases h) byText (fun _ h => by cases h) row_tie rfl ⟨rfl, rfl⟩ mainIs rfl
    (fun f fn hf hfn => by
      obtain rfl : f = 3 := Option.some.inj (named3.symm.trans hf) |>.symm
      obtain rfl : fn = Tryz.f3 := (Option.some.inj (Tryz.func3.symm.trans hfn)).symm
      exact ⟨looks3, fun j t ht => by
        rw [Tryz.params3] at ht
        have hm : t = 9 := by
          match j, ht with
          | 0, ht => simpa using ht.symm
          | (j + 1), ht => simp at ht
        subst hm
        exact stand9⟩)
    (goes3 named3)
end Go.Proofs.YtdidhokilifakaaGreatDoor
