/- Part of the proof that ReportInputs gives true at every text. -/
import Derived.Test.YtdidhokilifakaaGreatDoorHdC2
namespace Go.Ab.Hd
open Go Go.Ab Go.Proofs
set_option maxRecDepth 1000000 in
theorem kE_run : endsB AA 4 (.bool true) (runA AA 2 (F.run AA 8470 s225860.st)) = true := by kernel_rfl
theorem k225860 : Reaches AA (.bool true) 4 s225860.st :=
  F.run_ok AA_ok 8470 _ (reach_run AA_ok 2 _ (ends_reach kE_run))
end Go.Ab.Hd
