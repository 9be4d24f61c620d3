/- Part of the proof that ReportInputs gives true at every text. -/
import Derived.Test.YtdidhokilifakaaGreatDoorHdC2
namespace Go.Ab.Hd
open Go Go.Ab Go.Proofs
set_option maxRecDepth 1000000 in
theorem k41219_run : (skels (F.run AA 5376 s41219.st), s61065.fits (F.run AA 5376 s41219.st)) = (s61065.skels, true) := by kernel_rfl
theorem k41219 {v0 f} (h : Reaches AA v0 f s61065.st) : Reaches AA v0 f s41219.st := chunk AA_ok k41219_run h
end Go.Ab.Hd
