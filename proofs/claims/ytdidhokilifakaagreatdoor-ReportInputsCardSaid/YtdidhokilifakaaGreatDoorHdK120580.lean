/- Part of the proof that ReportInputs gives true at every text. -/
import Derived.Test.YtdidhokilifakaaGreatDoorHdC2
namespace Go.Ab.Hd
open Go Go.Ab Go.Proofs
set_option maxRecDepth 1000000 in
theorem k120580_run : (skels (F.run AA 3166 s120580.st), s135427.fits (F.run AA 3166 s120580.st)) = (s135427.skels, true) := by kernel_rfl
theorem k120580 {v0 f} (h : Reaches AA v0 f s135427.st) : Reaches AA v0 f s120580.st := chunk AA_ok k120580_run h
end Go.Ab.Hd
