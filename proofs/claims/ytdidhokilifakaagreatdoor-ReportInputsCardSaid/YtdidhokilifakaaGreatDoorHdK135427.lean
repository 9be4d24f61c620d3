/- Part of the proof that ReportInputs gives true at every text. -/
import Derived.Test.YtdidhokilifakaaGreatDoorHdC2
namespace Go.Ab.Hd
open Go Go.Ab Go.Proofs
set_option maxRecDepth 1000000 in
theorem k135427_run : (skels (F.run AA 5786 s135427.st), s161946.fits (F.run AA 5786 s135427.st)) = (s161946.skels, true) := by kernel_rfl
theorem k135427 {v0 f} (h : Reaches AA v0 f s161946.st) : Reaches AA v0 f s135427.st := chunk AA_ok k135427_run h
end Go.Ab.Hd
