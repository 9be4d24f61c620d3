/- Part of the proof that ReportInputs gives true at every text: walk: the law. -/
import Derived.Test.YtdidhokilifakaaGreatDoorRiP2
import Derived.Test.YtdidhokilifakaaGreatDoorRiHead
import Derived.BigQuiet
namespace Go.Proofs.Rin
open Go.RowKit Go.Rin Go.Lib

theorem abs_at {C D : List CInp} (h : absL C = absL D) {j : Nat} {x y : CInp} (hx : C[j]? = some x) (hy : D[j]? = some y) : x.1.data.toList = y.1.data.toList ∧ x.2.2 = y.2.2 := by
  have e : (absL C)[j]? = (absL D)[j]? := by rw [h]
  unfold absL at e
  rw [List.getElem?_map, List.getElem?_map, hx, hy] at e
  simp only [Option.map_some, Option.some.injEq, Prod.mk.injEq] at e
  exact e

theorem abs_len {C D : List CInp} (h : absL C = absL D) : C.length = D.length := by
  have := congrArg List.length h
  simpa [absL] using this

theorem data_inj {a b : ByteArray} (h : a.data.toList = b.data.toList) : a = b := by
  obtain ⟨⟨a⟩⟩ := a
  obtain ⟨⟨b⟩⟩ := b
  simp at h
  rw [h]

set_option maxHeartbeats 4000000 in
set_option maxRecDepth 1000000 in
theorem law_any (s : ByteArray) (w : World) (hF : WF w) (hH : HF w) : Calls Tryz.prog 3 #[.string s] w fun e w' => e = .returned (.bool true) ∧ Below w.heap.size w w' := by
  have cH := head_any w hH
  by_cases hs : s.size ≤ 1000
  · have hsn : ¬ (1000 : Int) < (s.size : Int) := by omega
    have HF := Lib.hid hF
    clear hF hH
    go_enter Tryz.func3, Tryz.ntmps3
    go_wp2_with (go_at_call 4; refine cH.mono ?_; rintro e w1 ⟨rfl, hb1⟩)
    have hF1 := HF.out.below hb1
    refine (inputs_any s w1 hs hF1).mono ?_
    rintro e w2 ⟨v, C, a, k, rfl, hb2, hin, hI⟩
    obtain ⟨va, vc, rfl⟩ := own_form hin.1
    go_wp2_with fail
    refine (refinputs_any s w2 hs).mono ?_
    rintro e w3 ⟨v', D, a', k', rfl, hb3, hin', hI'⟩
    obtain ⟨va', vc', rfl⟩ := own_form hin'.1
    have hE := hI.trans hI'.symm
    simp only [Prod.mk.injEq] at hE
    obtain ⟨hCD, rfl, rfl⟩ := hE
    have hlen := abs_len hCD
    have HCD := Lib.hid hCD
    have HC := Lib.hid (hin.below hb3)
    have HD := Lib.hid hin'
    have hbw := hb1.trans ((hb2.trans (hb3.mono hb2.size)).mono hb1.size)
    clear hI hI' hCD hin hin' cH
    go_wp2
    go_loopg [10] C.length (fun g i wx => ∃ (j : Nat), j + g = C.length ∧ i = .int .i64 j ∧ Below w3.heap.size w3 wx)
    case atStart => exact ⟨0, by omega, rfl, Below.refl _ _⟩
    case round =>
      obtain ⟨j, hj, rfl, hb⟩ := hrel
      cases gk with
      | zero =>
        have hj' : j = C.length := by omega
        subst hj'
        go_wp2
        go_ret
        exact ⟨rfl, hbw.trans (hb.mono hbw.size)⟩
      | succ g =>
        have hjl : j < C.length := by omega
        have hjl' : j < D.length := by omega
        obtain ⟨gx, cx, hgx, _, hgxw, hb1x, hb2x, hcx⟩ := own_cell HC.out.1 (by omega)
        have hcb : C.length ≤ 9223372036854775807 := by unfold maxLen at hb2x; omega
        clear hb1x hb2x
        obtain ⟨rfl, rfl⟩ : va = some ⟨gx, 0, none⟩ ∧ vc = cx := by
          simp only [Value.slice.injEq] at hgx
          exact ⟨hgx.1, hgx.2.2⟩
        obtain ⟨gy, cy, hgy, _, hgyw, _, _, hcy⟩ := own_cell HD.out.1 (by omega)
        obtain ⟨rfl, rfl⟩ : va' = some ⟨gy, 0, none⟩ ∧ vc' = cy := by
          simp only [Value.slice.injEq] at hgy
          exact ⟨hgy.1, hgy.2.2⟩
        obtain ⟨x, hx⟩ : ∃ x, C[j]? = some x := ⟨_, List.getElem?_eq_getElem hjl⟩
        obtain ⟨y, hy⟩ : ∃ y, D[j]? = some y := ⟨_, List.getElem?_eq_getElem hjl'⟩
        obtain ⟨hxy1, hxy2⟩ := abs_at HCD.out hx hy
        have ox := HC.out.2 x (List.mem_of_getElem? hx)
        have oy := HD.out.2 y (List.mem_of_getElem? hy)
        rw [← hxy2] at oy
        obtain ⟨xa, xc, hxv⟩ := own_form ox
        obtain ⟨ya, yc, hyv⟩ := own_form oy
        rw [hxv] at ox
        rw [hyv] at oy
        have hx0 := (hcx _ _ (inpCells_at C j x hx).1)
        have hx1 := (hcx _ _ (inpCells_at C j x hx).2)
        have hy0 := (hcy _ _ (inpCells_at D j y hy).1)
        have hy1 := (hcy _ _ (inpCells_at D j y hy).2)
        rw [← data_inj hxy1] at hy0
        rw [hxv] at hx1
        rw [hyv] at hy1
        generalize x.2.2 = ns at ox oy hx1 hy1
        generalize x.1 = nm at hx0 hy0
        have HALL : Hid (∀ W, Below w3.heap.size w3 W → W.cell? ⟨gx, j * 2, none⟩ = some (.string nm) ∧ W.cell? ⟨gx, j * 2 + 1, none⟩ = some (.slice xa ns.length xc) ∧ W.cell? ⟨gy, j * 2, none⟩ = some (.string nm) ∧ W.cell? ⟨gy, j * 2 + 1, none⟩ = some (.slice ya ns.length yc)) := by
          intro W hW
          exact ⟨(hW.cell (p := ⟨gx, j * 2, none⟩) hgxw).trans hx0, (hW.cell (p := ⟨gx, j * 2 + 1, none⟩) hgxw).trans hx1, (hW.cell (p := ⟨gy, j * 2, none⟩) hgyw).trans hy0, (hW.cell (p := ⟨gy, j * 2 + 1, none⟩) hgyw).trans hy1⟩
        have HOX := Lib.hid ox
        have HOY := Lib.hid oy
        clear hgx hcx hgy hcy hx hy hxy1 hxy2 ox oy hxv hyv hx0 hx1 hy0 hy1
        obtain ⟨c1, c2, c3, c4⟩ := HALL.out wr hb
        go_wp2
        go_quiet (fail)
        clear c1 c2 c3 c4
        go_wp2
        go_loopg [11] ns.length (fun g i wx => ∃ (k : Nat), k + g = ns.length ∧ i = .int .i64 k ∧ Below w3.heap.size w3 wx)
        case atStart => exact ⟨0, by omega, rfl, below_drewN hb _⟩
        case round =>
          obtain ⟨k, hk, rfl, hb2⟩ := hrel
          obtain ⟨c1, c2, c3, c4⟩ := HALL.out wr hb2
          cases gk with
          | zero =>
            have hk' : k = ns.length := by omega
            subst hk'
            go_wp2
            go_roundg g
            case measure => omega
            case rel => exact ⟨j + 1, by omega, by go_num, hb2⟩
          | succ g2 =>
            have hkl : k < ns.length := by omega
            obtain ⟨px, qx, hpx, _, hpxw, hb1x, hb2x, hcpx⟩ := own_cell HOX.out (by omega)
            have hnb : ns.length ≤ 9223372036854775807 := by unfold maxLen at hb2x; omega
            clear hb1x hb2x
            obtain ⟨rfl, rfl⟩ : xa = some ⟨px, 0, none⟩ ∧ xc = qx := by
              simp only [Value.slice.injEq] at hpx
              exact ⟨hpx.1, hpx.2.2⟩
            obtain ⟨py, qy, hpy, _, hpyw, _, _, hcpy⟩ := own_cell HOY.out (by omega)
            obtain ⟨rfl, rfl⟩ : ya = some ⟨py, 0, none⟩ ∧ yc = qy := by
              simp only [Value.slice.injEq] at hpy
              exact ⟨hpy.1, hpy.2.2⟩
            obtain ⟨z, hz⟩ : ∃ z, (ints ns)[k]? = some (.int .i64 z) := by
              refine ⟨ns[k], ?_⟩
              unfold ints
              rw [List.getElem?_map, List.getElem?_eq_getElem hkl]
              rfl
            have c5 := (hb2.cell (p := ⟨px, k, none⟩) hpxw).trans (hcpx k _ hz)
            have c6 := (hb2.cell (p := ⟨py, k, none⟩) hpyw).trans (hcpy k _ hz)
            clear hpx hcpx hpy hcpy hz
            go_wp2
            go_quiet (fail)
            clear c1 c2 c3 c4 c5 c6
            go_wp2
            go_roundg g2
            case measure => omega
            case rel => exact ⟨k + 1, by omega, by go_num, below_drewN hb2 _⟩
  · have hsn : (1000 : Int) < (s.size : Int) := by omega
    clear hF hH
    go_enter Tryz.func3, Tryz.ntmps3
    go_wp2_with (go_at_call 4; refine cH.mono ?_; rintro e w1 ⟨rfl, hb1⟩)
    go_ret
    exact ⟨rfl, hb1⟩

end Go.Proofs.Rin
