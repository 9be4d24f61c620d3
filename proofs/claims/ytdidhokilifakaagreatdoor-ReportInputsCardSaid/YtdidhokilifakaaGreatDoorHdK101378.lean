/- Part of the proof that ReportInputs gives true at every text. -/
import Derived.Test.YtdidhokilifakaaGreatDoorHdC2
namespace Go.Ab.Hd
open Go Go.Ab Go.Proofs
set_option maxRecDepth 1000000 in
theorem k101378_run : (skels (F.run AA 4121 s101378.st), s120580.fits (F.run AA 4121 s101378.st)) = (s120580.skels, true) := by kernel_rfl
theorem k101378 {v0 f} (h : Reaches AA v0 f s120580.st) : Reaches AA v0 f s101378.st := chunk AA_ok k101378_run h
end Go.Ab.Hd
