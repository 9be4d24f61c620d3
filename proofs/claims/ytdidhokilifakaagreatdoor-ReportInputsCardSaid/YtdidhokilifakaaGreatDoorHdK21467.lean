/- Part of the proof that ReportInputs gives true at every text. -/
import Derived.Test.YtdidhokilifakaaGreatDoorHdC2
namespace Go.Ab.Hd
open Go Go.Ab Go.Proofs
set_option maxRecDepth 1000000 in
theorem k21467_run : (skels (F.run AA 5268 s21467.st), s41219.fits (F.run AA 5268 s21467.st)) = (s41219.skels, true) := by kernel_rfl
theorem k21467 {v0 f} (h : Reaches AA v0 f s41219.st) : Reaches AA v0 f s21467.st := chunk AA_ok k21467_run h
end Go.Ab.Hd
