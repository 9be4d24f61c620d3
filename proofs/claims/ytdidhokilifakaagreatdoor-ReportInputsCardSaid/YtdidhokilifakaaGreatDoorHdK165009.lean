/- Part of the proof that ReportInputs gives true at every text. -/
import Derived.Test.YtdidhokilifakaaGreatDoorHdC2
namespace Go.Ab.Hd
open Go Go.Ab Go.Proofs
set_option maxRecDepth 1000000 in
theorem k165009_run : (skels (F.run AA 6479 s165009.st), s184601.fits (F.run AA 6479 s165009.st)) = (s184601.skels, true) := by kernel_rfl
theorem k165009 {v0 f} (h : Reaches AA v0 f s184601.st) : Reaches AA v0 f s165009.st := chunk AA_ok k165009_run h
end Go.Ab.Hd
