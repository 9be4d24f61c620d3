/- Part of the proof that ReportInputs gives true at every text. -/
import Derived.Test.YtdidhokilifakaaGreatDoorAbP5
import Derived.Test.YtdidhokilifakaaGreatDoorHdC2
namespace Go.Ab.Hd
open Go Go.Ab Go.Proofs
noncomputable def c1 : AState := toNext AA 30 (F.run AA 695 s161946.st)
set_option maxRecDepth 1000000 in
theorem f1 : forks2 AA 42 30 c1 = true := by kernel_rfl
set_option maxRecDepth 1000000 in
theorem f2 : (leaves2 AA 42 30 287 c1).map (fun S => (skels S, s165009.fits S)) = List.replicate 6 (s165009.skels, true) := by kernel_rfl
theorem k161946 {v0 f} (h : Reaches AA v0 f s165009.st) : Reaches AA v0 f s161946.st :=
  F.run_ok AA_ok 695 _ (reach_toNext AA_ok 30 (fork2 AA_ok f1 (all_spec f2 h)))
end Go.Ab.Hd
