/- Part of the proof that ReportInputs gives true at every text: no goroutine is started by any text that the law comes to. -/
import Derived.Test.YtdidhokilifakaaGreatDoorRiClD
import GoSem.ClaimGoes
namespace Go.Proofs.YtdidhokilifakaaGreatDoor
open Go
theorem g1 : Tryz.prog.funcs.any Func.goes = false := by kernel_rfl
theorem g2 (L : List Nat) : (L.any fun g => (Tryz.prog.funcs[g]?).any Func.goes) = false := by
  rw [List.any_eq_false]
  intro g _ hg
  cases h : Tryz.prog.funcs[g]? with
  | none => rw [h] at hg; cases hg
  | some fn =>
    rw [h] at hg
    have hf : Func.goes fn = true := hg
    obtain ⟨hlt, he⟩ := Array.getElem?_eq_some_iff.1 h
    have : Tryz.prog.funcs.any Func.goes = true := Array.any_eq_true.2 ⟨g, hlt, by rw [he]; exact hf⟩
    rw [g1] at this
    cases this
theorem goes_p : Tryz.prog.goes 3 = false := by
  unfold Program.goes
  rw [g2, g1, Bool.and_false]
  rfl
theorem goes_e : Rows.reportInputsRow.goesBy Tryz.prog = ((Tryz.prog.funcNamed "runnel/runnellaw26.ReportInputs").any Tryz.prog.goes || false) := by kernel_rfl
theorem goes3 (h : Tryz.prog.funcNamed "runnel/runnellaw26.ReportInputs" = some 3) : false = Rows.reportInputsRow.goesBy Tryz.prog := by
  rw [goes_e, h, Option.any_some, goes_p]
  rfl
end Go.Proofs.YtdidhokilifakaaGreatDoor
