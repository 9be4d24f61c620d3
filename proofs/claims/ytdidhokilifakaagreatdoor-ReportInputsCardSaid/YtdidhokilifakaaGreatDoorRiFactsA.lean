/- Part of the proof that ReportInputs gives true at every text: closed facts of the row of ReportInputs, each by the kernel. -/
import Derived.Test.YtdidhokilifakaaGreatDoorRows
import Derived.JoinedOf
import Derived.KernelRfl
namespace Go.Proofs.YtdidhokilifakaaGreatDoor
open Go
theorem j1 : (Rows.reportInputsRow.wf (OpenSpec.ofChange Rows.reportInputsSpec)) = true := by kernel_rfl
theorem j2 : (laidOutB Tryz.prog) = true := by kernel_rfl
theorem j3 : (mapsRowed Tryz.prog) = true := by kernel_rfl
theorem j4 : (Tryz.f3.params.all (Tryz.prog.readableRec ·)) = true := by kernel_rfl
theorem j5 : (namedTie Tryz.prog Rows.reportInputsRow.named Rows.reportInputsSpec.vars) = true := by kernel_rfl
theorem j6 : ((Rows.reportInputsRow.stops == [])) = true := by kernel_rfl
theorem j7 : ((Tryz.prog.stops == [])) = true := by kernel_rfl
theorem j8 : ((Rows.reportInputsRow.knobs == [])) = true := by kernel_rfl
theorem j9 : ((Tryz.prog.stopKnobs == [])) = true := by kernel_rfl
theorem j14 : ((Rows.reportInputsRow.maps == (Tryz.f3.params.toList ++ Rows.reportInputsSpec.plain.varTypes Tryz.prog).any (Tryz.prog.mapsRec ·))) = true := by kernel_rfl
theorem j15 : ((Rows.reportInputsRow.ifaces == (Tryz.f3.params.toList ++ Rows.reportInputsSpec.plain.varTypes Tryz.prog).any (Tryz.prog.ifacesRec ·))) = true := by kernel_rfl
theorem j16 : ((Rows.reportInputsRow.mapsOut == Tryz.prog.mapsAmong Tryz.f3.resultTypes.toList)) = true := by kernel_rfl
theorem j17 : ((Rows.reportInputsRow.loops == (Tryz.f3.params.toList ++ Rows.reportInputsSpec.plain.varTypes Tryz.prog).any (Tryz.prog.loopsFrom ·))) = true := by kernel_rfl
theorem j18 : ((Rows.reportInputsRow.wideKeys == (Tryz.f3.params.toList ++ Rows.reportInputsSpec.plain.varTypes Tryz.prog ++ Tryz.f3.resultTypes.toList).any (Tryz.prog.wideKeysFrom ·))) = true := by kernel_rfl
theorem j19 : (Rows.reportInputsSpec.vars.all (Tryz.prog.varReadable ·)) = true := by kernel_rfl
theorem j20 : (Tryz.f3.resultTypes.all (fun t => Tryz.prog.readableRec t && decide (t < Tryz.prog.types.size))) = true := by kernel_rfl
theorem j21 : ((Rows.reportInputsRow.ifacesOut == Tryz.f3.resultTypes.toList.any (Tryz.prog.ifacesRec ·))) = true := by kernel_rfl
theorem j22 : ((Rows.reportInputsRow.loopsOut == Tryz.f3.resultTypes.toList.any (Tryz.prog.loopsFrom ·))) = true := by kernel_rfl
theorem j23 : ((Rows.reportInputsRow.plainKeys == Tryz.prog.plainKeys)) = true := by kernel_rfl
theorem j24 : (Rows.reportInputsRow.shortTexts.isNone) = true := by kernel_rfl
theorem j25 : (Tryz.prog.stopsHeard) = true := by kernel_rfl
theorem j26 : (Tryz.prog.mayEnter) = true := by kernel_rfl
theorem j27 : ((Rows.reportInputsRow.lifted == Tryz.prog.liftsFinal)) = true := by kernel_rfl
theorem j28 : ((Tryz.prog.make == some Rows.reportInputsRow.make)) = true := by kernel_rfl
theorem j29 : ((Rows.reportInputsRow.kinds == (if Rows.reportInputsRow.domain.isEmpty then [] else Tryz.f3.params.toList.map fun t => match Tryz.prog.underlying t with | some (.int k) => some k | _ => none))) = true := by kernel_rfl
theorem j30 : ((Rows.reportInputsRow.pinned == Rows.reportInputsRow.pinnedBy)) = true := by kernel_rfl
theorem j31 : ((Rows.reportInputsRow.veiled == (Tryz.f3.params.toList ++ Rows.reportInputsSpec.plain.varTypes Tryz.prog ++ Tryz.f3.resultTypes.toList).any (Tryz.prog.veiledRec ·))) = true := by kernel_rfl
theorem j32 : (Rows.reportInputsRow.veiledFits Tryz.prog Tryz.f3.params.toList (Tryz.f3.params.toList ++ Rows.reportInputsSpec.plain.varTypes Tryz.prog ++ Tryz.f3.resultTypes.toList)) = true := by kernel_rfl
end Go.Proofs.YtdidhokilifakaaGreatDoor
