/- Part of the proof that ReportInputs gives true at every text. -/
import Derived.Test.YtdidhokilifakaaGreatDoorHdC2
namespace Go.Ab.Hd
open Go Go.Ab Go.Proofs
set_option maxRecDepth 1000000 in
theorem k61065_run : (skels (F.run AA 5173 s61065.st), s79704.fits (F.run AA 5173 s61065.st)) = (s79704.skels, true) := by kernel_rfl
theorem k61065 {v0 f} (h : Reaches AA v0 f s79704.st) : Reaches AA v0 f s61065.st := chunk AA_ok k61065_run h
end Go.Ab.Hd
