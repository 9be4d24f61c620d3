/- Part of the proof that ReportInputs gives true at every text: the closure of the law: by the kernel. -/
import Derived.Test.YtdidhokilifakaaGreatDoorRiClD
namespace Go.Proofs.YtdidhokilifakaaGreatDoor
open Go
theorem j13a : Tryz.prog.closure 3 = clL := by kernel_rfl
end Go.Proofs.YtdidhokilifakaaGreatDoor
