/- Part of the proof that ReportInputs gives true at every text. -/
import Derived.Test.YtdidhokilifakaaGreatDoorHdC2
namespace Go.Ab.Hd
open Go Go.Ab Go.Proofs
set_option maxRecDepth 1000000 in
theorem k184601_run : (skels (F.run AA 4898 s184601.st), s201549.fits (F.run AA 4898 s184601.st)) = (s201549.skels, true) := by kernel_rfl
theorem k184601 {v0 f} (h : Reaches AA v0 f s201549.st) : Reaches AA v0 f s184601.st := chunk AA_ok k184601_run h
end Go.Ab.Hd
