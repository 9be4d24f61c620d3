/- Part of the proof that ReportInputs gives true at every text: the row of ReportInputs holds. -/
import Derived.Test.YtdidhokilifakaaGreatDoorRiP4
import Derived.Test.YtdidhokilifakaaGreatDoorRows
import Derived.ProofKit
import Derived.OpenShut
import Derived.LaidMore
import Derived.Lay
import Derived.SevenTiedAt
import Derived.Stop.Joined
import Derived.ChangeMaps5
import Derived.Handed
import Derived.RowKitTokens
namespace Go.Proofs.YtdidhokilifakaaGreatDoor
open Go.ChangeShapes Go.WideShapes Go.ChangeAt Go.RowKit Go.Proofs.Rin

theorem own : ownKnob Tryz.prog.godebug = none := by kernel_rfl
theorem w_shape (os : Os) : ((World.laidAll Tryz.prog os laid7).forCall (fun _ _ => 0) ⟨#[], #[.string ⟨#[]⟩], []⟩).Shaped Tryz.checked.prog :=
  World.shaped_of_ZipB (by kernel_rfl) (by kernel_rfl)
theorem w_ok (os : Os) : Input.okWideB Tryz.checked.prog ((World.laidAll Tryz.prog os laid7).forCall (fun _ _ => 0) ⟨#[], #[.string ⟨#[]⟩], []⟩) 3 ⟨#[], #[.string ⟨#[]⟩], []⟩ = true := by kernel_rfl
theorem w_pre {H : Type} (enc : TypeId × Value → H) (os : Os) : Rows.reportInputsSpec.preB enc Tryz.checked.prog Tryz.f3 [] false ((World.laidAll Tryz.prog os laid7).forCall (fun _ _ => 0) ⟨#[], #[.string ⟨#[]⟩], []⟩).memory #[.string ⟨#[]⟩] 8 = true := by kernel_rfl
theorem w_sized {H : Type} (enc : TypeId × Value → H) (os : Os) : Rows.reportInputsSpec.sizedB enc Tryz.checked.prog Tryz.f3 false ((World.laidAll Tryz.prog os laid7).forCall (fun _ _ => 0) ⟨#[], #[.string ⟨#[]⟩], []⟩).memory #[.string ⟨#[]⟩] 8 = true := by kernel_rfl
theorem w_fits (os : Os) : (World.holding Tryz.prog os ⟨#[], #[], []⟩).layFits Tryz.prog laid7 [] = true := by kernel_rfl
theorem w_ifaces (os : Os) : (World.holding Tryz.prog os ⟨#[], #[], []⟩).layIfaces Tryz.prog laid7 (World.laidAll Tryz.prog os laid7) = true := by kernel_rfl

end Go.Proofs.YtdidhokilifakaaGreatDoor
