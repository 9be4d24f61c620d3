/- Part of the proof that ReportInputs gives true at every text. -/
import Derived.Test.YtdidhokilifakaaGreatDoorHdC2
namespace Go.Ab.Hd
open Go Go.Ab Go.Proofs
set_option maxRecDepth 1000000 in
theorem k0_run : (skels (F.run AA 5436 S0), s21467.fits (F.run AA 5436 S0)) = (s21467.skels, true) := by kernel_rfl
theorem k0 {v0 f} (h : Reaches AA v0 f s21467.st) : Reaches AA v0 f S0 := chunk AA_ok k0_run h
end Go.Ab.Hd
