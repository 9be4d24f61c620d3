/- Part of the proof that ReportInputs gives true at every text: the head's contract from what is laid. -/
import Derived.Test.YtdidhokilifakaaGreatDoorRiLaid
import Derived.Test.YtdidhokilifakaaGreatDoorHdW
namespace Go.Proofs.Rin
open Go Go.RowKit Go.Lib Go.Proofs

theorem head_any (w : World) (h : HF w) : Calls Tryz.prog 4 #[] w fun e w' => e = .returned (.bool true) ∧ Below w.heap.size w w' := by
  obtain ⟨m, hm⟩ := h.m
  obtain ⟨aS, cS, sS, lS⟩ := h.syn
  obtain ⟨aR, cR, sR, lR⟩ := h.rng
  refine Go.Ab.Hd.head_calls w m aS aR hm (h.pow.trans ?_) cS cR (h.t32.trans ?_) (h.t64.trans ?_) sS lS sR lR
  · kernel_rfl
  · kernel_rfl
  · kernel_rfl

end Go.Proofs.Rin
