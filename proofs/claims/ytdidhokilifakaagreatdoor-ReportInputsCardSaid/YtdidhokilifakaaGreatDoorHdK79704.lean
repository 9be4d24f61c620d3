/- Part of the proof that ReportInputs gives true at every text. -/
import Derived.Test.YtdidhokilifakaaGreatDoorHdC2
namespace Go.Ab.Hd
open Go Go.Ab Go.Proofs
set_option maxRecDepth 1000000 in
theorem k79704_run : (skels (F.run AA 6104 s79704.st), s101378.fits (F.run AA 6104 s79704.st)) = (s101378.skels, true) := by kernel_rfl
theorem k79704 {v0 f} (h : Reaches AA v0 f s101378.st) : Reaches AA v0 f s79704.st := chunk AA_ok k79704_run h
end Go.Ab.Hd
