/- Part of the proof that ReportInputs gives true at every text. -/
import Derived.Test.YtdidhokilifakaaGreatDoorAbP5
import Derived.Test.YtdidhokilifakaaGreatDoorHdH
namespace Go.Ab.Hd
open Go Go.Ab Go.Proofs Go.RowKit

/-- where the head's first rows lie -/
def phi0 (aS aR : Addr) : Go.Ab.Ren := fun b => match b with
  | 0 => some ⟨0, 0, 1, 1⟩
  | 1 => some ⟨1, 0, 20, 20⟩
  | 2 => some ⟨2, 0, 0, 0⟩
  | 3 => some ⟨3, 0, 0, 0⟩
  | 4 => some ⟨4, 0, 1, 1⟩
  | 5 => some ⟨5, 0, 1, 1⟩
  | 6 => some ⟨6, 0, 32, 32⟩
  | 7 => some ⟨7, 0, 64, 64⟩
  | 13 => some ⟨aR.block, aR.off, 0, 0⟩
  | 14 => some ⟨aS.block, aS.off, 0, 0⟩
  | _ => none

theorem phi0_cases {aS aR : Addr} {b : Nat} {i : Info} (e : phi0 aS aR b = some i) : b < 15 ∧ (i.blk < 8 ∨ i.blk = aR.block ∨ i.blk = aS.block) := by
  unfold phi0 at e
  split at e <;> first
    | (cases e; done)
    | (cases e; exact ⟨by omega, by simp⟩)

theorem enter0 : (enterA AA 4 [] .normal).isSome = true := by kernel_rfl
theorem enter_eq : enterA A0 4 [] .normal = enterA AA 4 [] .normal := by kernel_rfl

/-- the head gives true, whatever the tape, in every world in which the variables lie as they are laid -/
theorem head_calls (w : World) (m0 : Int) (aS aR : Addr)
    (h0 : w.heap[0]? = some (.cells #[.int .i64 m0] 3 (0, 0)))
    (h1 : w.heap[1]? = some (.cells (u64s [1, 10, 100, 1000, 10000, 100000, 1000000, 10000000, 100000000, 1000000000, 10000000000, 100000000000, 1000000000000, 10000000000000, 100000000000000, 1000000000000000, 10000000000000000, 100000000000000000, 1000000000000000000, 10000000000000000000]).toArray 455 (0, 0)))
    (h4 : w.heap[4]? = some (.cells #[.iface 511 (.pointer (some aS))] 86 (0, 0)))
    (h5 : w.heap[5]? = some (.cells #[.iface 511 (.pointer (some aR))] 86 (0, 0)))
    (h6 : w.heap[6]? = some (.cells (u8s [0, 1, 28, 2, 29, 14, 24, 3, 30, 22, 20, 15, 25, 17, 4, 8, 31, 27, 13, 23, 21, 19, 16, 7, 26, 12, 18, 6, 11, 5, 10, 9]).toArray 573 (0, 0)))
    (h7 : w.heap[7]? = some (.cells (u8s [0, 1, 56, 2, 57, 49, 28, 3, 61, 58, 42, 50, 38, 29, 17, 4, 62, 47, 59, 36, 45, 43, 51, 22, 53, 39, 33, 30, 24, 18, 12, 5, 63, 55, 48, 27, 60, 41, 37, 16, 46, 35, 44, 21, 52, 32, 23, 11, 54, 26, 40, 15, 34, 20, 31, 10, 25, 14, 19, 9, 13, 8, 7, 6]).toArray 574 (0, 0)))
    (sS : aS.spot = none) (lS : aS.block < w.heap.size) (sR : aR.spot = none) (lR : aR.block < w.heap.size) :
    Calls Tryz.prog 4 #[] w fun e w' => e = .returned (.bool true) ∧ Below w.heap.size w w' := by
  have hsz : 7 < w.heap.size := (Array.getElem?_eq_some_iff.1 h7).1
  obtain ⟨t, ht⟩ := Option.isSome_iff_exists.1 enter0
  have hf0 : frame0 = t := by unfold frame0; rw [enter_eq, ht]; rfl
  have hr := head_reaches
  unfold S0 at hr
  rw [hf0] at hr
  have H : HR w.heap.size (phi0 aS aR) (heapL rows0 15) w := by
    refine hr_rows (by decide) ?_ (fun b i e => (phi0_cases e).1) ?_ ?_ ?_
    · intro p hp
      simp only [rows0, List.mem_cons, List.not_mem_nil, or_false] at hp
      rcases hp with rfl | rfl | rfl | rfl | rfl | rfl <;> simp
    · intro b i e
      rcases (phi0_cases e).2 with h | h | h <;> omega
    · intro p hp i e
      simp only [rows0, List.mem_cons, List.not_mem_nil, or_false] at hp
      rcases hp with rfl | rfl | rfl | rfl | rfl | rfl <;> (simp only [phi0] at e; cases e)
      · exact or_one (.anyInt m0) h0 rfl rfl rfl
      · exact or_const (by decide) h1 rfl rfl rfl
      · refine or_one (v' := .iface 511 (.pointer (some aS))) (.iface ?_) h4 rfl rfl rfl
        have := VR.ptr (φ := phi0 aS aR) (b := 14) (o := 0) rfl
        obtain ⟨b, o, s⟩ := aS
        cases sS
        exact this
      · refine or_one (v' := .iface 511 (.pointer (some aR))) (.iface ?_) h5 rfl rfl rfl
        have := VR.ptr (φ := phi0 aS aR) (b := 13) (o := 0) rfl
        obtain ⟨b, o, s⟩ := aR
        cases sR
        exact this
      · exact or_const (by decide) h6 rfl rfl rfl
      · exact or_const (by decide) h7 rfl rfl rfl
    · intro p hp
      simp only [rows0, List.mem_cons, List.not_mem_nil, or_false] at hp
      rcases hp with rfl | rfl | rfl | rfl | rfl | rfl <;> rfl
  have hg : Globs AA (phi0 aS aR) := by
    intro g hgl
    have hgl : g < 8 := hgl
    match g, hgl with
    | 0, _ => exact ⟨_, rfl, rfl, rfl⟩
    | 1, _ => exact ⟨_, rfl, rfl, rfl⟩
    | 2, _ => exact ⟨_, rfl, rfl, rfl⟩
    | 3, _ => exact ⟨_, rfl, rfl, rfl⟩
    | 4, _ => exact ⟨_, rfl, rfl, rfl⟩
    | 5, _ => exact ⟨_, rfl, rfl, rfl⟩
    | 6, _ => exact ⟨_, rfl, rfl, rfl⟩
    | 7, _ => exact ⟨_, rfl, rfl, rfl⟩
  exact calls_of_reaches (A := AA) (args := []) ht hr (by decide) H hg .nil

end Go.Ab.Hd
