/- Part of the proof that ReportInputs gives true at every text. -/
import Derived.Test.YtdidhokilifakaaGreatDoorHdC2
namespace Go.Ab.Hd
open Go Go.Ab Go.Proofs
set_option maxRecDepth 1000000 in
theorem k201549_run : (skels (F.run AA 6400 s201549.st), s225860.fits (F.run AA 6400 s201549.st)) = (s225860.skels, true) := by kernel_rfl
theorem k201549 {v0 f} (h : Reaches AA v0 f s225860.st) : Reaches AA v0 f s201549.st := chunk AA_ok k201549_run h
end Go.Ab.Hd
