/- Part of the proof that ReportInputs gives true at every text: the row of ReportInputs holds. -/
import Derived.Test.YtdidhokilifakaaGreatDoorRiHold2
import Derived.Test.YtdidhokilifakaaGreatDoorRiFactsA
import Derived.Test.YtdidhokilifakaaGreatDoorRiFactsB
import Derived.Test.YtdidhokilifakaaGreatDoorRiClB
import Derived.Test.YtdidhokilifakaaGreatDoorRiCl
namespace Go.Proofs.YtdidhokilifakaaGreatDoor
open Go.ChangeShapes Go.WideShapes Go.ChangeAt Go.ChangeMaps Go.RowKit Go.Proofs.Rin

theorem and_t {a b : Bool} (h : a = true) (k : b = true) : (a && b) = true := by rw [h, k]; rfl

set_option maxRecDepth 100000 in
theorem closed : joinedFacts Tryz.prog 3 Tryz.f3 Rows.reportInputsSpec Rows.reportInputsRow = true := (and_t (and_t (and_t (and_t (and_t (and_t (and_t (and_t (and_t (and_t (and_t (and_t (and_t (and_t (and_t (and_t (and_t (and_t (and_t (and_t (and_t (and_t (and_t (and_t (and_t (and_t (and_t (and_t (and_t (and_t (and_t j1 j2) j3) j4) j5) j6) j7) j8) j9) (j10 j13a)) (j11 j13a)) (j12 j13a)) (j13 j13a)) j14) j15) j16) j17) j18) j19) j20) j21) j22) j23) j24) j25) j26) j27) j28) j29) j30) j31) j32)

theorem named3 : Tryz.prog.funcNamed "runnel/runnellaw26.ReportInputs" = some 3 := by kernel_rfl
theorem inst3 : Tryz.f3.isInstance Tryz.prog Rows.reportInputsRow.origin Rows.reportInputsRow.targs := of_decide_eq_true (by kernel_rfl)
theorem wrap3 : Tryz.f3.isWrapper Tryz.prog Rows.reportInputsRow.wrapper Rows.reportInputsRow.mainSum := by
  unfold Func.isWrapper; first | (rw [if_pos (by decide +kernel)]; kernel_rfl) | (rw [if_neg (by decide +kernel)]; exact ⟨rfl, rfl⟩)

theorem row_holds : Rows.ReportInputsSaid :=
  OpenClaim.holds_of_wide 3 Tryz.f3 rfl rfl rfl rfl rfl rfl rfl ⟨rfl, rfl, rfl, rfl, rfl⟩ rfl rfl rfl rfl rfl named3 Tryz.func3 closed
    inst3 wrap3
    (fun os started H enc _ => lifted os started H enc)
end Go.Proofs.YtdidhokilifakaaGreatDoor
