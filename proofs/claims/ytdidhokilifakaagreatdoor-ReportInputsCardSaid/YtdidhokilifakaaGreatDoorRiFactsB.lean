/- Part of the proof that ReportInputs gives true at every text: what the law reaches in place: by the kernel, from its closure. -/
import Derived.Test.YtdidhokilifakaaGreatDoorRiClD
namespace Go.Proofs.YtdidhokilifakaaGreatDoor
open Go
theorem j10 (h : Tryz.prog.closure 3 = clL) : (Rows.reportInputsRow.inPlace == Tryz.prog.inPlace 3) = true := by
  unfold Program.inPlace
  rw [h]
  kernel_rfl
theorem unf (h : Tryz.prog.closure 3 = clL) : Tryz.prog.unfollowed 3 = true := by
  unfold Program.unfollowed
  rw [h]
  kernel_rfl
theorem j11 (h : Tryz.prog.closure 3 = clL) : (Rows.reportInputsRow.unfollowed == Tryz.prog.unfollowed 3) = true := by
  rw [unf h]
  rfl
theorem j12 (h : Tryz.prog.closure 3 = clL) : (Rows.reportInputsRow.recurses == Tryz.prog.recurses 3) = true := by
  unfold Program.recurses
  rw [unf h]
  rfl
end Go.Proofs.YtdidhokilifakaaGreatDoor
