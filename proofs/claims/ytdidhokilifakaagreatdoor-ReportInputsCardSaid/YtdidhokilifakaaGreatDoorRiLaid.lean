/- Part of the proof that ReportInputs gives true at every text: from the row's condition to the facts that the walks ask: the tables, the sentinels, the cell of MaxLen. -/
import Derived.Test.YtdidhokilifakaaGreatDoorRows
import Derived.Lib.LaidTab
import Derived.LaidLaws
import Derived.LaidMore
import Derived.Stop.LaidErr
import Derived.Shelf.Vars
import Derived.Below
import Derived.Lib.ItoaNum
namespace Go.Proofs.Rin
open Go.Lib Go.Proofs.YtdidhokilifakaaGreatDoor

abbrev laid7 : List (String × DataW Unit) := [("strconv.ErrSyntax", Rows.laid_strconv_ErrSyntax), ("strconv.ErrRange", Rows.laid_strconv_ErrRange), ("internal/strconv.uint64pow10", Rows.laid_internal_strconv_uint64pow10), ("math/bits.deBruijn32tab", Rows.laid_math_bits_deBruijn32tab), ("math/bits.deBruijn64tab", Rows.laid_math_bits_deBruijn64tab), ("unicode/utf8.first", Rows.laid_unicode_utf8_first), ("unicode/utf8.acceptRanges", Rows.laid_unicode_utf8_acceptRanges)]

def tab32 : List Int := [0, 1, 28, 2, 29, 14, 24, 3, 30, 22, 20, 15, 25, 17, 4, 8, 31, 27, 13, 23, 21, 19, 16, 7, 26, 12, 18, 6, 11, 5, 10, 9]
def tab64 : List Int := [0, 1, 56, 2, 57, 49, 28, 3, 61, 58, 42, 50, 38, 29, 17, 4, 62, 47, 59, 36, 45, 43, 51, 22, 53, 39, 33, 30, 24, 18, 12, 5, 63, 55, 48, 27, 60, 41, 37, 16, 46, 35, 44, 21, 52, 32, 23, 11, 54, 26, 40, 15, 34, 20, 31, 10, 25, 14, 19, 9, 13, 8, 7, 6]

theorem shaped_at {P : Program} {w : World} (h : w.ShapedOpen P) {g : Nat} {t : TypeId} (hg : g < P.globals.size)
    (h0 : (((begin P (fun _ _ => 0) default).world.heap[g]?).bind Obj.row?).map (·.2) = some t) : ∃ cs, w.heap[g]? = some (.cells cs t) := by
  cases hz : ((begin P (fun _ _ => 0) default).world.heap[g]?).bind Obj.row? with
  | none => rw [hz] at h0; cases h0
  | some x =>
    rw [hz] at h0
    obtain ⟨zero, t'⟩ := x
    simp only [Option.map_some, Option.some.injEq] at h0
    subst h0
    obtain ⟨cs, hh, _⟩ := h.1 g zero t' hg hz
    exact ⟨cs, hh⟩

theorem shaped_var {P : Program} {w : World} (h : w.ShapedOpen P) {n : String} {g : Nat} {t : TypeId} {cs : Array Value} (hn : P.globalNamed n = some g) (hg : g < P.globals.size)
    (h0 : (((begin P (fun _ _ => 0) default).world.heap[g]?).bind Obj.row?).map (·.2) = some t) (hv : w.var? P n = some cs) : w.heap[g]? = some (.cells cs t) := by
  obtain ⟨cs', hh⟩ := shaped_at h hg h0
  unfold World.var? at hv
  rw [hn, Option.bind_some, hh] at hv
  simp only [Option.some.injEq] at hv
  rw [hh, hv]

theorem gsize : 7 < Tryz.prog.globals.size := of_decide_eq_true (by kernel_rfl)
theorem g_MaxLen : Tryz.prog.globalNamed "internal/bytealg.MaxLen" = some 0 := by kernel_rfl
theorem g_pow10 : Tryz.prog.globalNamed "internal/strconv.uint64pow10" = some 1 := by kernel_rfl
theorem g_first : Tryz.prog.globalNamed "unicode/utf8.first" = some 2 := by kernel_rfl
theorem g_accept : Tryz.prog.globalNamed "unicode/utf8.acceptRanges" = some 3 := by kernel_rfl
theorem g_syntax : Tryz.prog.globalNamed "strconv.ErrSyntax" = some 4 := by kernel_rfl
theorem g_range : Tryz.prog.globalNamed "strconv.ErrRange" = some 5 := by kernel_rfl
theorem g_32 : Tryz.prog.globalNamed "math/bits.deBruijn32tab" = some 6 := by kernel_rfl
theorem g_64 : Tryz.prog.globalNamed "math/bits.deBruijn64tab" = some 7 := by kernel_rfl
theorem ty1 : (Tryz.prog.globals[1]?).map (·.type) = some 455 := by kernel_rfl
theorem ty4 : (Tryz.prog.globals[4]?).map (·.type) = some 86 := by kernel_rfl
theorem ty5 : (Tryz.prog.globals[5]?).map (·.type) = some 86 := by kernel_rfl
theorem ty6 : (Tryz.prog.globals[6]?).map (·.type) = some 573 := by kernel_rfl
theorem ty7 : (Tryz.prog.globals[7]?).map (·.type) = some 574 := by kernel_rfl
theorem row0 : (((begin Tryz.prog (fun _ _ => 0) default).world.heap[0]?).bind Obj.row?).map (·.2) = some 3 := by kernel_rfl
theorem row1 : (((begin Tryz.prog (fun _ _ => 0) default).world.heap[1]?).bind Obj.row?).map (·.2) = some 455 := by kernel_rfl
theorem row4 : (((begin Tryz.prog (fun _ _ => 0) default).world.heap[4]?).bind Obj.row?).map (·.2) = some 86 := by kernel_rfl
theorem row5 : (((begin Tryz.prog (fun _ _ => 0) default).world.heap[5]?).bind Obj.row?).map (·.2) = some 86 := by kernel_rfl
theorem row6 : (((begin Tryz.prog (fun _ _ => 0) default).world.heap[6]?).bind Obj.row?).map (·.2) = some 573 := by kernel_rfl
theorem row7 : (((begin Tryz.prog (fun _ _ => 0) default).world.heap[7]?).bind Obj.row?).map (·.2) = some 574 := by kernel_rfl

theorem zero0 : ((begin Tryz.prog (fun _ _ => 0) default).world.heap[0]?).bind Obj.row? = some (#[.int .i64 0], 3) := by kernel_rfl

theorem maxlen_cells {w : World} (h : w.ShapedOpen Tryz.prog) : ∃ m, w.heap[0]? = some (.cells #[.int .i64 m] 3) := by
  obtain ⟨m, hm⟩ := cell_of_shapedOpen_int (k := .i64) h (Nat.lt_trans (by decide) gsize) zero0 rfl (by kernel_rfl) (by kernel_rfl) Tryz.underlying3
  obtain ⟨cs, hh, hs, _⟩ := h.1 0 _ _ (Nat.lt_trans (by decide) gsize) zero0
  refine ⟨m, ?_⟩
  rw [hh]
  unfold World.cell? at hm
  simp only [hh] at hm
  match cs, hs, hm with
  | ⟨[x]⟩, _, hm =>
    simp at hm
    rw [hm]

theorem star_rows : ((List.range Tryz.prog.types.size).all fun u => Tryz.prog.typeName? 3 u != some ("*" ++ "errors.errorString") || u == 511) = true := by kernel_rfl
theorem named_rows : ((List.range Tryz.prog.types.size).all fun e => Tryz.prog.typeName? 2 e != some "errors.errorString" || (match (Tryz.prog.info? e).map (·.desc) with | some (TypeDesc.named _ _) => true | _ => false)) = true := by kernel_rfl
set_option maxRecDepth 100000 in
theorem row_err (u : TypeId) (hu : Tryz.prog.typeName? 3 u = some "*errors.errorString") : u = 511 :=
  typeName_ptr_named (nm := "errors.errorString") star_rows named_rows (by decide) u hu

theorem spot_of_cell {w : World} {a : Addr} {v : Value} (h : w.cell? a = some v) : a.spot = none ∧ a.block < w.heap.size := by
  refine ⟨?_, World.block_lt_of_cell? w a h⟩
  unfold World.cell? at h
  split at h
  · cases hs : a.spot with
    | none => rfl
    | some x => rw [hs] at h; simp at h
  · cases h


open Go.RowKit
theorem var_below {P : Program} {w w' : World} {n : String} {g : Nat} {cs : Array Value} (hn : P.globalNamed n = some g) (hg : g < w.heap.size) (hb : Below w.heap.size w w') (h : w.var? P n = some cs) : w'.var? P n = some cs := by
  unfold World.var? at h ⊢
  rw [hn, Option.bind_some] at h ⊢
  rw [hb.block g hg]
  exact h

/-- what the walks ask of a world -/
structure WF (w : World) : Prop where
  size : 7 < w.heap.size
  max : ∃ m, w.cell? ⟨0, 0, none⟩ = some (.int .i64 m)
  pow : TabIs Tryz.prog w "internal/strconv.uint64pow10" .u64 pow10Tab
  syn : ∃ tp p, w.var? Tryz.prog "strconv.ErrSyntax" = some #[.iface tp p]
  rng : ∃ tp p, w.var? Tryz.prog "strconv.ErrRange" = some #[.iface tp p]

theorem WF.below {w w' : World} (h : WF w) (hb : Below w.heap.size w w') : WF w' := by
  have hs := h.size
  obtain ⟨m, hm⟩ := h.max
  obtain ⟨t1, p1, h1⟩ := h.syn
  obtain ⟨t2, p2, h2⟩ := h.rng
  refine ⟨Nat.lt_of_lt_of_le hs hb.size, ⟨m, ?_⟩, ?_, ⟨t1, p1, var_below g_syntax (by omega) hb h1⟩, ⟨t2, p2, var_below g_range (by omega) hb h2⟩⟩
  · rw [hb.cell (p := ⟨0, 0, none⟩) (by show 0 < _; omega)]; exact hm
  · exact var_below g_pow10 (by omega) hb h.pow

/-- what the head asks of a world -/
structure HF (w : World) : Prop where
  m : ∃ m, w.heap[0]? = some (.cells #[.int .i64 m] 3)
  pow : w.heap[1]? = some (.cells (pow10Tab.map fun z => Value.int .u64 z).toArray 455)
  syn : ∃ a : Addr, w.heap[4]? = some (.cells #[.iface 511 (.pointer (some a))] 86) ∧ a.spot = none ∧ a.block < w.heap.size
  rng : ∃ a : Addr, w.heap[5]? = some (.cells #[.iface 511 (.pointer (some a))] 86) ∧ a.spot = none ∧ a.block < w.heap.size
  t32 : w.heap[6]? = some (.cells (tab32.map fun z => Value.int .u8 z).toArray 573)
  t64 : w.heap[7]? = some (.cells (tab64.map fun z => Value.int .u8 z).toArray 574)

theorem of_laid {W : World} (h : laidMetH Tryz.prog laid7 W) (hsh : W.ShapedOpen Tryz.prog) : WF W ∧ HF W := by
  rw [MakeChecks.laidMetH_plain _ _ _ (by kernel_rfl)] at h
  have k1 := h.tail
  have k2 := k1.tail
  have k3 := k2.tail
  have k4 := k3.tail
  have hg := gsize
  have T32 : TabIs Tryz.prog W "math/bits.deBruijn32tab" .u8 tab32 := tabIs_of_head (n := 32) g_32 ty6 Tryz.underlying573 Tryz.underlying5 (by kernel_rfl) (by kernel_rfl) k3
  have T64 : TabIs Tryz.prog W "math/bits.deBruijn64tab" .u8 tab64 := tabIs_of_head (n := 64) g_64 ty7 Tryz.underlying574 Tryz.underlying5 (by kernel_rfl) (by kernel_rfl) k4
  have TP : TabIs Tryz.prog W "internal/strconv.uint64pow10" .u64 pow10Tab := tabIs_of_head (n := 20) g_pow10 ty1 Tryz.underlying455 Tryz.underlying319 (by kernel_rfl) (by kernel_rfl) k2
  obtain ⟨aS, sS, vS, cS, _, _⟩ := laid_sentinel h g_syntax ty4 Tryz.underlying86 row_err Tryz.underlying511 Tryz.underlying513 rfl rfl Tryz.underlying9 (by kernel_rfl) (by kernel_rfl)
  obtain ⟨aR, sR, vR, cR, _, _⟩ := laid_sentinel k1 g_range ty5 Tryz.underlying86 row_err Tryz.underlying511 Tryz.underlying513 rfl rfl Tryz.underlying9 (by kernel_rfl) (by kernel_rfl)
  obtain ⟨m, hm⟩ := maxlen_cells hsh
  have h7 := shaped_var hsh g_64 hg row7 T64
  refine ⟨⟨(Array.getElem?_eq_some_iff.1 h7).1, ⟨m, ?_⟩, TP, ⟨_, _, vS⟩, ⟨_, _, vR⟩⟩, ⟨⟨m, hm⟩, ?_, ⟨aS, ?_, spot_of_cell cS⟩, ⟨aR, ?_, spot_of_cell cR⟩, ?_, h7⟩⟩
  · unfold World.cell?
    rw [hm]
    rfl
  · exact shaped_var hsh g_pow10 (by omega) row1 TP
  · exact shaped_var hsh g_syntax (by omega) row4 vS
  · exact shaped_var hsh g_range (by omega) row5 vR
  · exact shaped_var hsh g_32 (by omega) row6 T32

end Go.Proofs.Rin
