/- Part of the proof that ReportInputs gives true at every text: the variables that the reached functions name: by the kernel. -/
import Derived.Test.YtdidhokilifakaaGreatDoorRiClD
namespace Go.Proofs.YtdidhokilifakaaGreatDoor
open Go
theorem j13b : (clL.flatMap fun g => ((Tryz.prog.funcs[g]?).bind (·.body)).elim [] Code.globalsNamed) = glL := by kernel_rfl
theorem j13c : ((glL.eraseDups).filterMap (fun g => (Tryz.prog.globals[g]?).map (·.name)) ++ clL.filterMap fun g => (Tryz.prog.funcs[g]?).bind fun fn => if fn.body.isNone then entryReads.lookup fn.name else none).eraseDups = Rows.reportInputsRow.named := by kernel_rfl
theorem j13v (h : Tryz.prog.closure 3 = clL) : Tryz.prog.varsNamed 3 = Rows.reportInputsRow.named := by
  unfold Program.varsNamed
  rw [h, j13b]
  exact j13c
theorem j13 (h : Tryz.prog.closure 3 = clL) : (Rows.reportInputsRow.named == Tryz.prog.varsNamed 3) = true := by
  rw [j13v h]
  exact beq_self_eq_true _
end Go.Proofs.YtdidhokilifakaaGreatDoor
