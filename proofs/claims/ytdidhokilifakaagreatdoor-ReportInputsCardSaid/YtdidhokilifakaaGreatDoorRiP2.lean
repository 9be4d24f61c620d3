/- Part of the proof that ReportInputs gives true at every text: walk: report.number; walks: the closure of report.input, slices.IndexFunc and ContainsFunc at inputs; walk: report.input; walk: report.Inputs. -/
import Derived.Test.YtdidhokilifakaaGreatDoorRiP1
import Derived.Test.YtdidhokilifakaaGreatDoorRiLaid
import Derived.Test.YtdidhokilifakaaGreatDoorRiP3
import Derived.Lib.AtoiAllCases
import Derived.Lib.SplitLaws

section
namespace Go.Proofs.Rin
open Go.RowKit Go.Rin Go.Lib

theorem below_bytes (w : World) (t : ByteArray) : Below w.heap.size w (bytesWorld w 5 t) := by
  refine ⟨rfl, rfl, rfl, by rw [bytesWorld_size]; omega, fun k hk => ?_⟩
  rw [bytesWorld_at_old _ _ _ _ hk]

theorem below_grows (w : World) (k : Nat) (os : Array Obj) : Below w.heap.size w (Go.Sort.grow (w.drewN k) os) := by
  refine ⟨rfl, rfl, rfl, ?_, fun j hj => ?_⟩
  · show w.heap.size ≤ (w.heap ++ os).size
    simp
  · show (w.heap ++ os)[j]? = w.heap[j]?
    exact Array.getElem?_append_left hj

theorem atoi_ok (s : ByteArray) (hs : s.size ≤ 1000) (v : Int) (h : atoiAll s.data.toList = .ok v) (w : World) :
    Calls Tryz.prog 80 #[.string s] w fun e w' => e = .returned (.tuple #[.int .i64 v, .nilIface]) ∧ Below w.heap.size w w' := by
  refine (Tryz.strconv_Atoi_ok s (by omega) v h w).mono ?_
  rintro e w' ⟨rfl, rfl | ⟨t, rfl⟩⟩
  · exact ⟨rfl, Below.refl _ _⟩
  · exact ⟨rfl, below_bytes _ _⟩

theorem atoi_bad (s : ByteArray) (hs : s.size ≤ 1000) (h : ∀ v, atoiAll s.data.toList ≠ .ok v) (w : World) (hw : WF w) :
    Calls Tryz.prog 80 #[.string s] w fun e w' => ∃ (n : Int) (N : Nat), e = .returned (.tuple #[.int .i64 n, .iface 386 (.pointer (some ⟨N, 0, none⟩))]) ∧ Below w.heap.size w w' := by
  obtain ⟨t1, p1, h1⟩ := hw.syn
  obtain ⟨t2, p2, h2⟩ := hw.rng
  cases hc : atoiAll s.data.toList
  · exact absurd hc (h _)
  · refine (Any.strconv_Atoi_syntax_var Tryz.laysC172 s (by omega) hc t1 p1 w h1).mono ?_
    rintro e w' ⟨N, rfl, _, _, hb⟩
    exact ⟨_, N, rfl, hb⟩
  · refine (Tryz.strconv_Atoi_range_var s (by omega) hc t2 p2 w h2).mono ?_
    rintro e w' ⟨N, rfl, _, _, hb⟩
    exact ⟨_, N, rfl, hb⟩

theorem itoa_all (n : Int) (h0 : -9223372036854775808 ≤ n) (h1 : n ≤ 9223372036854775807) (w : World) (hw : WF w) :
    Calls Tryz.prog 28 #[.int .i64 n] w fun e w' => e = .returned (.string ⟨(Lib.itoa n).toArray⟩) ∧ Below w.heap.size w w' := by
  refine (Tryz.strconv_Itoa n h0 h1 w hw.pow).mono ?_
  rintro e w' ⟨rfl, k, os, rfl⟩
  exact ⟨rfl, below_grows w k os⟩

def SignPost2 (w : World) (o : Option Int) (e : Ending) (w' : World) : Prop := ∃ n : Int, e = .returned (.tuple #[.int .i64 n, .bool o.isSome]) ∧ (∀ m, o = some m → n = m) ∧ Below w.heap.size w w'

set_option maxHeartbeats 1000000 in
set_option maxRecDepth 100000 in
theorem refnum_any2 (s : ByteArray) (w : World) (hs : s.size ≤ 1000) (hw : WF w) : Calls Tryz.prog 34 #[.string s] w (SignPost2 w (signV s.data.toList)) := by
  have cT := Tryz.strings_TrimPrefix s { data := #[45] } w
  obtain ⟨u, hu⟩ : ∃ u : ByteArray, u = ⟨(trimPrefix s.data.toList [45]).toArray⟩ := ⟨_, rfl⟩
  have hul : u.data.toList = trimPrefix s.data.toList [45] := by rw [hu]
  have hus : u.size ≤ s.size := by
    rw [size_eq, size_eq s, hul, trim_eq]
    split
    · simp
    · exact Nat.le_refl _
  have HU : Hid (u.data.toList = trimPrefix s.data.toList [45]) := hul
  have cT' : Calls Tryz.prog 79 #[.string s, .string { data := #[45] }] w fun e w' => e = .returned (.string u) ∧ w' = w := by rw [hu]; exact cT
  clear cT hu
  cases ha : atoiAll u.data.toList with
  | ok v =>
    obtain ⟨v0, v1⟩ := atoiAll_bounds ha
    have cA := atoi_ok u (by omega) v ha w
    have cI := fun W hW => itoa_all v v0 v1 W hW
    have HW := Lib.hid hw
    have HA := Lib.hid ha
    clear ha hw
    by_cases hI : itoa v = u.toList
    · by_cases h0 : 0 ≤ v
      · have hnum : numV (trimPrefix s.data.toList [45]) = some v.toNat := by
          rw [← hul]
          exact numV_of_atoi HA.out h0 (by rw [← toList_data]; exact hI)
        have hlen : (trimPrefix s.data.toList [45]).length = u.size := by rw [← hul, size_eq]
        have HS : Hid (signV s.data.toList = some (if u.size < s.size then -v else v)) := by
          show signV _ = _
          rw [sign_some hnum, hlen, ← size_eq, Int.toNat_of_nonneg h0]
        have hw1 : wrap64 (-v) = -v := by unfold wrap64; omega
        clear hnum hlen hul v0 v1 HA
        by_cases hlt : u.size < s.size
        · rw [if_pos hlt] at HS
          go_enter Tryz.func34, Tryz.ntmps34
          go_wp2_with (first
            | (go_at_call 79; refine cT'.mono ?_; rintro e w' ⟨rfl, rfl⟩)
            | (go_at_call 80; refine cA.mono ?_; rintro e w1 ⟨rfl, hb⟩)
            | (go_at_call 28; refine (cI _ (HW.out.below hb)).mono ?_; rintro e w2 ⟨rfl, hb2⟩))
          go_ret2
          rw [HS.out]
          exact ⟨_, rfl, (fun m h => by cases h; first | rfl | exact hw1), hb.trans (hb2.mono hb.size)⟩
        · rw [if_neg hlt] at HS
          go_enter Tryz.func34, Tryz.ntmps34
          go_wp2_with (first
            | (go_at_call 79; refine cT'.mono ?_; rintro e w' ⟨rfl, rfl⟩)
            | (go_at_call 80; refine cA.mono ?_; rintro e w1 ⟨rfl, hb⟩)
            | (go_at_call 28; refine (cI _ (HW.out.below hb)).mono ?_; rintro e w2 ⟨rfl, hb2⟩))
          go_ret2
          rw [HS.out]
          exact ⟨_, rfl, (fun m h => by cases h; rfl), hb.trans (hb2.mono hb.size)⟩
      · have HS : Hid (signV s.data.toList = none) := by
          refine sign_none ?_
          cases hn : numV (trimPrefix s.data.toList [45]) with
          | none => rfl
          | some m =>
            have := (atoi_of_numV hn).1
            rw [← hul, HA.out] at this
            simp only [NumEnd.ok.injEq] at this
            omega
        clear hul v0 v1 HA
        have h0' : v < 0 := by omega
        go_enter Tryz.func34, Tryz.ntmps34
        go_wp2_with (first
          | (go_at_call 79; refine cT'.mono ?_; rintro e w' ⟨rfl, rfl⟩)
          | (go_at_call 80; refine cA.mono ?_; rintro e w1 ⟨rfl, hb⟩)
          | (go_at_call 28; refine (cI _ (HW.out.below hb)).mono ?_; rintro e w2 ⟨rfl, hb2⟩))
        go_ret2
        rw [HS.out]
        exact ⟨_, rfl, (fun m h => by cases h), hb.trans (hb2.mono hb.size)⟩
    · have HS : Hid (signV s.data.toList = none) := by
        refine sign_none ?_
        cases hn : numV (trimPrefix s.data.toList [45]) with
        | none => rfl
        | some m =>
          exfalso
          obtain ⟨h1, h2, _⟩ := atoi_of_numV hn
          rw [← hul, HA.out] at h1
          simp only [NumEnd.ok.injEq] at h1
          rw [← hul, ← h1] at h2
          exact hI (by rw [toList_data]; exact h2)
      clear hul v0 v1 HA
      have hI' : (itoa v == u.toList) = false := beq_eq_false_iff_ne.2 hI
      go_enter Tryz.func34, Tryz.ntmps34
      go_wp2_with (first
        | (go_at_call 79; refine cT'.mono ?_; rintro e w' ⟨rfl, rfl⟩)
        | (go_at_call 80; refine cA.mono ?_; rintro e w1 ⟨rfl, hb⟩)
        | (go_at_call 28; refine (cI _ (HW.out.below hb)).mono ?_; rintro e w2 ⟨rfl, hb2⟩))
      go_ret2
      rw [HS.out]
      exact ⟨_, rfl, (fun m h => by cases h), hb.trans (hb2.mono hb.size)⟩
  | _ =>
    have hbad : ∀ v, atoiAll u.data.toList ≠ .ok v := fun v h => by rw [ha] at h; cases h
    have cA := atoi_bad u (by omega) hbad w hw
    have HS : Hid (signV s.data.toList = none) := by
      refine sign_none ?_
      cases hn : numV (trimPrefix s.data.toList [45]) with
      | none => rfl
      | some m => exact absurd (by rw [hul]; exact (atoi_of_numV hn).1) (hbad m)
    clear ha hbad hul hw
    go_enter Tryz.func34, Tryz.ntmps34
    go_wp2_with (first
      | (go_at_call 79; refine cT'.mono ?_; rintro e w' ⟨rfl, rfl⟩)
      | (go_at_call 80; refine cA.mono ?_; rintro e w1 ⟨n, N, rfl, hb⟩))
    go_ret2
    rw [HS.out]
    exact ⟨_, rfl, (fun m h => by cases h), hb⟩
end Go.Proofs.Rin
end

section
namespace Go.Proofs.Rin
open Go.RowKit Go.Rin Go.Lib

set_option maxHeartbeats 1000000 in
set_option maxRecDepth 100000 in
theorem same_name (s t : ByteArray) (a : Option Addr) (l c b : Nat) (w : World) (hb : w.cell? ⟨b, 0, none⟩ = some (.string t)) (hbl : b < w.heap.size) :
    Calls Tryz.prog 37 #[.agg #[.string s, .slice a l c], .pointer (some ⟨b, 0, none⟩)] w fun e w' => e = .returned (.bool (s.toList == t.toList)) ∧ Below w.heap.size w w' := by
  have c1 : (w.alloc (.cells #[.string s, .slice a l c] 32)).cell? ⟨b, 0, none⟩ = some (.string t) := by
    rw [((Below.refl w.heap.size w).alloc (Nat.le_refl _) _).cell (p := ⟨b, 0, none⟩) hbl]; exact hb
  have c0 : (w.alloc (.cells #[.string s, .slice a l c] 32)).cell? ⟨w.heap.size, 0, none⟩ = some (.string s) := by
    rw [World.cell?_alloc_at _ _ _ _ rfl]; rfl
  go_enter Tryz.func37, Tryz.ntmps37
  go_wp2
  go_ret
  exact ⟨rfl, (Below.refl _ _).alloc (Nat.le_refl _) _⟩


set_option maxHeartbeats 1000000 in
set_option maxRecDepth 100000 in
theorem inputs_index (va : Option Addr) (vc : Nat) (C : List CInp) (B b : Nat) (t : ByteArray) (w : World) (hC : InpsAt w B 32 (.slice va C.length vc) C) (hbig : C.length ≤ 1001) (hb : w.cell? ⟨b, 0, none⟩ = some (.string t)) (hbl : b < w.heap.size) :
    Calls Tryz.prog 84 #[.slice va C.length vc, .func (.func 37) #[] #[.pointer (some ⟨b, 0, none⟩)]] w fun e w' => ∃ r : Int, e = .returned (.int .i64 r) ∧ decide (0 ≤ r) = (absL C).any (fun x => x.1 == t.data.toList) ∧ Below w.heap.size w w' := by
  have HC := Lib.hid hC
  have HB := Lib.hid hb
  clear hC hb
  go_enter Tryz.func84, Tryz.ntmps84
  go_wp2
  go_loopg [8] C.length (fun g i wx => ∃ k : Nat, k + g = C.length ∧ i = .int .i64 k ∧ Hid (((absL C).take k).any (fun x => x.1 == t.data.toList) = false) ∧ Below w.heap.size w wx)
  case atStart => exact ⟨0, by omega, rfl, Lib.hid (by simp), Below.refl _ _⟩
  case round =>
    obtain ⟨k, hk, rfl, HA, hb⟩ := hrel
    have hbs := hb.size
    cases gk with
    | zero =>
      have hk' : k = C.length := by omega
      subst hk'
      have HO : Hid ((absL C).any (fun x => x.1 == t.data.toList) = false) := by
        have := HA.out
        rwa [List.take_of_length_le (by simp [absL])] at this
      clear HA hk
      go_wp2
      go_ret
      exact ⟨-1, rfl, by rw [HO.out]; rfl, hb⟩
    | succ g =>
      have hjl : k < C.length := by omega
      obtain ⟨gl, cl, hgl, _, hglw, _, _, hcl⟩ := own_cell HC.out.1 (by omega)
      obtain ⟨rfl, rfl⟩ : va = some ⟨gl, 0, none⟩ ∧ vc = cl := by
        simp only [Value.slice.injEq] at hgl
        exact ⟨hgl.1, hgl.2.2⟩
      obtain ⟨x, hx⟩ : ∃ x, C[k]? = some x := ⟨_, List.getElem?_eq_getElem hjl⟩
      obtain ⟨xa, xc, hxv⟩ := own_form (HC.out.2 x (List.mem_of_getElem? hx))
      have cj : wr.cell? ⟨gl, k * 2, none⟩ = some (.string x.1) := by
        rw [hb.cell (p := ⟨gl, k * 2, none⟩) hglw]
        exact hcl _ _ (inpCells_at C k x hx).1
      have cj1 : wr.cell? ⟨gl, k * 2 + 1, none⟩ = some (.slice xa x.2.2.length xc) := by
        rw [hb.cell (p := ⟨gl, k * 2 + 1, none⟩) hglw, ← hxv]
        exact hcl _ _ (inpCells_at C k x hx).2
      have HX : Hid ((absL C)[k]? = some (x.1.data.toList, x.2.2)) := by show _ = _; unfold absL; rw [List.getElem?_map, hx]; rfl
      have cS := same_name x.1 t xa x.2.2.length xc b wr (by rw [hb.cell (p := ⟨b, 0, none⟩) hbl]; exact HB.out) (by omega)
      clear hgl hcl hx hxv
      cases hh : (x.1.toList == t.toList) with
      | true =>
        have HO : Hid ((absL C).any (fun x => x.1 == t.data.toList) = true) := by
          show List.any _ _ = true
          rw [List.any_eq_true]
          exact ⟨_, List.mem_of_getElem? HX.out, by rw [← toList_data, ← toList_data]; exact hh⟩
        rw [hh] at cS
        clear HA hh
        go_wp2_with (go_at_call 37; refine cS.mono ?_; rintro e w' ⟨rfl, hb2⟩)
        go_ret
        exact ⟨(k : Int), rfl, by rw [HO.out]; simp, hb.trans (hb2.mono hbs)⟩
      | false =>
        have HB2 := Lib.hid (any_take' (p := fun x => x.1 == t.data.toList) _ k _ HA.out HX.out (by rw [← toList_data, ← toList_data]; exact hh))
        rw [hh] at cS
        clear HA HX hh
        go_wp2_with (go_at_call 37; refine cS.mono ?_; rintro e w' ⟨rfl, hb2⟩)
        go_roundg g
        case measure => omega
        case rel => exact ⟨k + 1, by omega, by go_num, HB2, hb.trans (hb2.mono hbs)⟩

theorem inputs_contains (va : Option Addr) (vc : Nat) (C : List CInp) (B b : Nat) (t : ByteArray) (w : World) (hC : InpsAt w B 32 (.slice va C.length vc) C) (hbig : C.length ≤ 1001) (hb : w.cell? ⟨b, 0, none⟩ = some (.string t)) (hbl : b < w.heap.size) :
    Calls Tryz.prog 36 #[.slice va C.length vc, .func (.func 37) #[] #[.pointer (some ⟨b, 0, none⟩)]] w fun e w' => e = .returned (.bool ((absL C).any (fun x => x.1 == t.data.toList))) ∧ Below w.heap.size w w' := by
  have cI := inputs_index va vc C B b t w hC hbig hb hbl
  generalize (absL C).any (fun x => x.1 == t.data.toList) = r at cI ⊢
  clear hC hb
  go_enter Tryz.func36, Tryz.ntmps36
  go_wp2_with (go_at_call 84; refine cI.mono ?_; rintro e w' ⟨x, rfl, hx, hb2⟩)
  go_ret
  exact ⟨rfl, hb2⟩

end Go.Proofs.Rin
end

section
namespace Go.Proofs.Rin
open Go.RowKit Go.Rin Go.Lib

theorem rows8 {W : World} {N : Nat} {T : TypeId} {a0 a1 b0 b1 : Value} (hR : W.heap[N]? = some (.cells #[a0, a1] T)) (hX : W.heap[N + 1]? = some (.cells #[b0, b1] T)) :
    (W.cell? ⟨N, 0, none⟩ = some a0 ∧ W.cell? ⟨N, 1, none⟩ = some a1 ∧ W.cell? ⟨N + 1, 0, none⟩ = some b0 ∧ W.cell? ⟨N + 1, 1, none⟩ = some b1) ∧
    (W.frozen? ⟨N, 0, none⟩ = false ∧ W.frozen? ⟨N, 1, none⟩ = false ∧ W.frozen? ⟨N + 1, 0, none⟩ = false ∧ W.frozen? ⟨N + 1, 1, none⟩ = false) := by
  refine ⟨⟨?_, ?_, ?_, ?_⟩, frozen_of hR 0, frozen_of hR 1, frozen_of hX 0, frozen_of hX 1⟩
  · rw [cell_of hR 0]; rfl
  · rw [cell_of hR 1]; rfl
  · rw [cell_of hX 0]; rfl
  · rw [cell_of hX 1]; rfl

set_option maxHeartbeats 4000000 in
set_option maxRecDepth 1000000 in
theorem input_any (v wv : Value) (C : List CInp) (ss : List ByteArray) (w : World) (B B' : Nat) (hF : WF w) (hC : InpsAt w B 32 v C) (hW : w.ownsRow B' 9 1 wv ss.length (ss.map Value.string)) (hn : 1 ≤ ss.length)
    (hs : ∀ x ∈ ss, x.size ≤ 1000) (hl : ss.length ≤ 1001) (hc : C.length ≤ 1001) :
    Calls Tryz.prog 13 #[v, wv] w (InPost w (absL C) (ss.map (·.data.toList))) := by
  obtain ⟨i0, hi, hz0, hz1, hz2⟩ := info_parts Tryz_info3
  obtain ⟨g, cap, rfl, _, hgw, hncap, hcapm, hcell⟩ := own_cell hW (by omega)
  have HCELL : Hid (∀ (W : World), Below w.heap.size w W → ∀ j x, ss[j]? = some x → W.cell? ⟨g, j, none⟩ = some (.string x)) := by
    intro W hb j x hx
    rw [hb.cell (p := ⟨g, j, none⟩) hgw]
    exact hcell j _ (by rw [List.getElem?_map, hx]; rfl)
  have HS := Lib.hid hs
  obtain ⟨va, vc, rfl⟩ := own_form hC.1
  have HC := Lib.hid hC
  have HF := Lib.hid hF
  obtain ⟨s0, hs0⟩ : ∃ s0, ss[0]? = some s0 := ⟨_, List.getElem?_eq_getElem (by omega)⟩
  have c0 := hcell 0 (.string s0) (by rw [List.getElem?_map, hs0]; rfl)
  have H0 := Lib.hid hs0
  clear hcell hs hC hW hs0 hF
  go_enter Tryz.func13, Tryz.ntmps13
  go_wp2
  all_goals
    go_loopg [18] (ss.length - 1) (fun gf i wx => ∃ (k : Nat) (u : Value) (ns : List Int), k + gf = ss.length - 1 ∧ i = .int .i64 k ∧ Hid (numsV (((ss.map (·.data.toList)).drop 1).take k) = some ns) ∧ ns.length ≤ k ∧
      wx.heap[w.heap.size]? = some (.cells #[.string ⟨#[]⟩, .slice none 0 0] 32) ∧ wx.heap[w.heap.size + 1]? = some (.cells #[.string s0, u] 32) ∧ wx.ownsRow w.heap.size 3 1 u ns.length (ints ns) ∧ Below w.heap.size w wx)
    case atStart => exact ⟨0, .slice none 0 0, [], by omega, rfl, Lib.hid (by rw [List.take_zero]; rfl), by simp, by
      rw [Below.heap_alloc _ _ _ (by simp)]; exact heap_alloc_new _ _, by
      have := heap_alloc_new (w.alloc (Obj.cells #[Value.string { data := #[] }, Value.slice none 0 0] 32)) (Obj.cells #[Value.string s0, Value.slice none 0 0] 32)
      simpa using this, World.ownsRow_nil _ _ _ _, ((Below.refl _ _).alloc (Nat.le_refl _) _).alloc (by simp) _⟩
    case round =>
      obtain ⟨k, u, ns, hk, rfl, HN, hnl, hR, hX, hown, hb⟩ := hrel
      obtain ⟨ua, ul, uc, rfl⟩ := own_slice hown
      have hbs := hb.size
      have lx := lt_of hX
      obtain ⟨⟨r0, r1, x0, x1⟩, fr0, fr1, fx0, fx1⟩ := rows8 hR hX
      have HRX := Lib.hid (And.intro hR hX)
      clear hR hX
      cases gf' : gk with
      | zero =>
        subst gf'
        have hk' : k = ss.length - 1 := by omega
        subst hk'
        have HNS : Hid (numsV ((ss.map (·.data.toList)).drop 1) = some ns) := by
          have := HN.out
          rwa [List.take_of_length_le (by simp)] at this
        have HHD : Hid ((ss.map (·.data.toList)).headD [] = s0.data.toList) := by
          have := H0.out
          cases ss with
          | nil => simp at this
          | cons a r => simp at this; subst this; rfl
        have hFr := (HF.out).below (hb.mono (Nat.le_refl _))
        obtain ⟨mx, hmx⟩ := hFr.max
        have cI := ident_any2 s0 mx wr (HS.out s0 (List.mem_of_getElem? H0.out)) hmx (by omega)
        clear hmx hFr HN
        cases hid : identB s0.data.toList with
        | false =>
          rw [hid] at cI
          have HI := Lib.hid hid
          clear hid
          go_wp2_with (go_at_call 35; refine cI.mono ?_; rintro e W2 ⟨rfl, hb2⟩; clear r0 r1 x0 x1 fr0 fr1 fx0 fx1; obtain ⟨⟨z0, z1, y0, y1⟩, fz0, fz1, fy0, fy1⟩ := rows8 ((hb2.block _ (lt_of HRX.out.1)).trans HRX.out.1) ((hb2.block _ (lt_of HRX.out.2)).trans HRX.out.2))
          obtain ⟨e0, e1⟩ := two_cells z0 z1 (.string s0) (.slice ua ul uc)
          refine bodyPost_ret (v := .tuple #[.agg #[.string s0, .slice ua ul uc], .int .i64 3]) (by simp [results, Tryz.results13, go_sem, e0, e1]) rfl ?_
          refine in_post (hb.trans (hb2.mono hbs)) ?_ (by decide)
          rw [input_name HNS.out (by rw [HHD.out]; exact HI.out)]
        | true =>
          rw [hid] at cI
          have HI := Lib.hid hid
          have cC := fun (W : World) (hbw : Below w.heap.size w W) (hy : W.cell? ⟨w.heap.size + 1, 0, none⟩ = some (.string s0)) (hl : w.heap.size + 1 < W.heap.size) =>
            inputs_contains va vc C B (w.heap.size + 1) s0 W (HC.out.below hbw) hc hy hl
          have HO : Hid ((absL C).any (fun x => x.1 == s0.data.toList) = (absL C).any (fun x => x.1 == s0.data.toList)) := rfl
          clear hid
          generalize hq : (absL C).any (fun x => x.1 == s0.data.toList) = q at cC
          have HQ := Lib.hid hq
          clear hq HO
          cases q with
          | true =>
            go_wp2_with (first
              | (go_at_call 35; refine cI.mono ?_; rintro e W2 ⟨rfl, hb2⟩; clear r0 r1 x0 x1 fr0 fr1 fx0 fx1; obtain ⟨⟨z0, z1, y0, y1⟩, fz0, fz1, fy0, fy1⟩ := rows8 ((hb2.block _ (lt_of HRX.out.1)).trans HRX.out.1) ((hb2.block _ (lt_of HRX.out.2)).trans HRX.out.2))
              | (go_at_call 36; refine (cC _ (hb.trans (hb2.mono hbs)) y0 (by have := hb2.size; omega)).mono ?_; rintro e W3 ⟨rfl, hb3⟩; clear z0 z1 y0 y1 fz0 fz1 fy0 fy1; have hb4 := hb2.trans (hb3.mono hb2.size); obtain ⟨⟨z0, z1, y0, y1⟩, fz0, fz1, fy0, fy1⟩ := rows8 ((hb4.block _ (lt_of HRX.out.1)).trans HRX.out.1) ((hb4.block _ (lt_of HRX.out.2)).trans HRX.out.2)))
            obtain ⟨e0, e1⟩ := two_cells z0 z1 (.string s0) (.slice ua ul uc)
            refine bodyPost_ret (v := .tuple #[.agg #[.string s0, .slice ua ul uc], .int .i64 4]) (by simp [results, Tryz.results13, go_sem, e0, e1]) rfl ?_
            refine in_post (hb.trans (hb4.mono hbs)) ?_ (by decide)
            rw [input_there HNS.out (by rw [HHD.out]; exact HI.out) (by rw [HHD.out]; exact HQ.out)]
          | false =>
            go_wp2_with (first
              | (go_at_call 35; refine cI.mono ?_; rintro e W2 ⟨rfl, hb2⟩; clear r0 r1 x0 x1 fr0 fr1 fx0 fx1; obtain ⟨⟨z0, z1, y0, y1⟩, fz0, fz1, fy0, fy1⟩ := rows8 ((hb2.block _ (lt_of HRX.out.1)).trans HRX.out.1) ((hb2.block _ (lt_of HRX.out.2)).trans HRX.out.2))
              | (go_at_call 36; refine (cC _ (hb.trans (hb2.mono hbs)) y0 (by have := hb2.size; omega)).mono ?_; rintro e W3 ⟨rfl, hb3⟩; clear z0 z1 y0 y1 fz0 fz1 fy0 fy1; have hb4 := hb2.trans (hb3.mono hb2.size); obtain ⟨⟨z0, z1, y0, y1⟩, fz0, fz1, fy0, fy1⟩ := rows8 ((hb4.block _ (lt_of HRX.out.1)).trans HRX.out.1) ((hb4.block _ (lt_of HRX.out.2)).trans HRX.out.2)))
            obtain ⟨e0, e1⟩ := two_cells z0 z1 (.string s0) (.slice ua ul uc)
            refine bodyPost_ret (v := .tuple #[.agg #[.string s0, .slice ua ul uc], .int .i64 0]) (by simp [results, Tryz.results13, go_sem, e0, e1]) rfl ?_
            exact in_ok rfl (by decide) (hb.trans (hb4.mono hbs)) ((hb4.block _ (lt_of HRX.out.1)).trans HRX.out.1) (own_below hown hb4) (input_ok HNS.out (by rw [HHD.out]; exact HI.out) (by rw [HHD.out]; exact HQ.out)) HHD.out.symm
      | succ g' =>
        subst gf'
        first
        | (exfalso; omega)
        | (have hlt : k < ss.length - 1 := by omega
           obtain ⟨x, hx⟩ : ∃ x, ss[k + 1]? = some x := ⟨_, List.getElem?_eq_getElem (by omega)⟩
           have ck : wr.cell? ⟨g, 1 + k, none⟩ = some (.string x) := by rw [Nat.add_comm]; exact HCELL.out wr hb (k + 1) x hx
           have cN := refnum_any2 x wr (HS.out x (List.mem_of_getElem? hx)) (HF.out.below hb)
           have HX := Lib.hid hx
           clear hx
           cases hv : signV x.data.toList with
           | none =>
             rw [hv] at cN
             have HV := Lib.hid hv
             clear hv
             go_wp2_with (go_at_call 34; refine cN.mono ?_; rintro e W2 ⟨n, rfl, _, hb2⟩; clear r0 r1 x0 x1 fr0 fr1 fx0 fx1; obtain ⟨⟨z0, z1, y0, y1⟩, fz0, fz1, fy0, fy1⟩ := rows8 ((hb2.block _ (lt_of HRX.out.1)).trans HRX.out.1) ((hb2.block _ (lt_of HRX.out.2)).trans HRX.out.2))
             obtain ⟨e0, e1⟩ := two_cells z0 z1 (.string s0) (.slice ua ul uc)
             refine bodyPost_ret (v := .tuple #[.agg #[.string s0, .slice ua ul uc], .int .i64 2]) (by simp [results, Tryz.results13, go_sem, e0, e1]) rfl ?_
             refine in_post (hb.trans (hb2.mono hbs)) ?_ (by decide)
             rw [input_form (nums_none HN.out (by rw [List.getElem?_drop, List.getElem?_map, Nat.add_comm, HX.out]; rfl) HV.out)]
           | some n =>
             rw [hv] at cN
             have HV := Lib.hid hv
             clear hv
             go_wp2_with (first
               | (go_at_call 34; refine cN.mono ?_; rintro e W2 ⟨m, rfl, hm, hb2⟩; obtain rfl := hm _ rfl; clear r0 r1 x0 x1 fr0 fr1 fx0 fx1; have hR2 := (hb2.block _ (lt_of HRX.out.1)).trans HRX.out.1; have hX2 := (hb2.block _ (lt_of HRX.out.2)).trans HRX.out.2; obtain ⟨⟨z0, z1, y0, y1⟩, fz0, fz1, fy0, fy1⟩ := rows8 hR2 hX2; have HRX2 := Lib.hid (And.intro hR2 hX2); clear hR2 hX2; have hown2 := own_below hown hb2; have hb2s := hb2.size)
               | (at_builtin; go_loud (refine wpList_append_own _ rfl (.tmp 31) (.tmp 33) 30 rfl w.heap.size 3 i0 (.int .i64 0) 1 8 Tryz.underlying30 hi hz0 hz1 hz2 rfl (by decide) _ _ _ rfl (hown2.alloc _) ⟨W2.heap.size, 0, none⟩ 1 1 [.int .i64 m] rfl rfl (cell_one_new _ _ _) (by intro u hu; simp at hu; subst hu; rfl) (by unfold maxLen; omega) (by omega) (by simp; omega) ?_); intro v1 w1 hown1 hgrow1 hnil1; obtain ⟨⟨g1, q1, hv1⟩, hX1⟩ := after_app (v := .slice ua ul uc) (by decide) HRX2.out.2 hown2 hown1 hgrow1; have y0 := cell_of hX1 0; have y1 := cell_of hX1 1; simp only [List.getElem?_toArray, List.getElem?_cons_zero, List.getElem?_cons_succ] at y0 y1; have fy1 := frozen_of hX1 1; rw [hv1]; have HX1 := Lib.hid hX1; clear hX1; have HV1 := Lib.hid hv1; clear hv1; have HO1 := Lib.hid (And.intro hown1 hgrow1); clear hown1 hgrow1 hnil1))
             go_roundg g'
             case measure => omega
             case rel =>
               obtain ⟨q1', q2', q3', q4'⟩ := number_kept (by decide) (hb.trans (hb2.mono hbs)) HRX2.out.1 HRX2.out.2 hown2 HO1.out.1 HO1.out.2
               rw [HV1.out] at q1' q2' q3' q4'
               refine ⟨k + 1, _, ns ++ [m], by omega, by go_num, ?_, by simp; omega, q1', q2', q3', q4'⟩
               exact nums_step HN.out (by rw [List.getElem?_drop, List.getElem?_map, Nat.add_comm, HX.out]; rfl) HV.out)

end Go.Proofs.Rin
end

section
namespace Go.Proofs.Rin
open Go.RowKit Go.Rin Go.Lib

theorem lines_len : ∀ (l cur : List UInt8), ∀ x ∈ linesGo l cur, x.length ≤ cur.length + l.length
  | [], cur, x, h => by
    rw [linesGo] at h
    simp at h; subst h; omega
  | c :: r, cur, x, h => by
    rw [linesGo] at h
    split at h
    · rcases List.mem_cons.1 h with h | h
      · subst h; simp
      · have := lines_len r [] x h; simp at this ⊢; omega
    · have := lines_len r (cur ++ [c]) x h; simp at this ⊢; omega

theorem lines_count : ∀ (l cur : List UInt8), (linesGo l cur).length ≤ l.length + 1
  | [], cur => by rw [linesGo]; simp
  | c :: r, cur => by
    rw [linesGo]
    have h1 := lines_count r []
    have h2 := lines_count r (cur ++ [c])
    split
    · simp; omega
    · simp; omega

theorem split_any (s : ByteArray) (w : World) (hF : WF w) (hs : s.size ≤ 1000) : Calls Tryz.prog 9 #[.string s, .string { data := #[10] }] w fun e w' =>
    ∃ L : List ByteArray, e = .returned (.slice (some ⟨w.heap.size, 0, none⟩) L.length L.length) ∧ L.map (·.data.toList) = linesGo s.data.toList [] ∧ Below w.heap.size w w' ∧ w'.heap.size = w.heap.size + 1 ∧
      ∀ j x, L[j]? = some x → w'.cell? ⟨w.heap.size, j, none⟩ = some (.string x) := by
  obtain ⟨m, hm⟩ := hF.max
  refine (Tryz.strings_Split s { data := #[10] } m w (by omega) hm (by decide)).mono ?_
  rintro e w' ⟨rfl, rfl⟩
  have hlen := splitB_all { data := #[10] } (by decide) 0 _ s rfl
  refine ⟨splitB { data := #[10] } 0 (countB s { data := #[10] }) s, ?_, split_eq s _ rfl, (Below.refl _ _).alloc (Nat.le_refl _) _, by simp, ?_⟩
  · rw [hlen]
  · intro j x hx
    rw [World.cell?_alloc_at _ _ _ _ rfl]
    simp [hx]

theorem cut_any (l : ByteArray) (w : World) (hF : WF w) (hs : l.size ≤ 1000) : Calls Tryz.prog 10 #[.string l, .string { data := #[35] }] w fun e w' =>
    ∃ (b a : ByteArray) (f : Bool), e = .returned (.tuple #[.string b, .string a, .bool f]) ∧ Rin.fieldsGo b.data.toList [] = wordsV l.data.toList ∧ b.size ≤ 1000 ∧ Below w.heap.size w w' := by
  obtain ⟨m, hm⟩ := hF.max
  refine (Tryz.strings_Cut l { data := #[35] } m w (by omega) hm).mono ?_
  rintro e w' ⟨rfl, n, rfl⟩
  refine ⟨_, _, _, rfl, ?_, ?_, below_drewN (Below.refl _ _) n⟩
  · rw [words_cut]
  · rw [size_eq]
    show (cut l.data.toList [35]).1.length ≤ 1000
    have := size_eq l
    unfold cut
    split
    · show (List.take _ _).length ≤ _; rw [List.length_take]; omega
    · show l.data.toList.length ≤ _; omega

theorem fields_any (b : ByteArray) (w : World) (hs : b.size ≤ 1000) : Calls Tryz.prog 11 #[.string b, .func (.func 12) #[] #[]] w fun e w' =>
    ∃ (A : Nat) (ss : List ByteArray), e = .returned (.slice (some ⟨A, 0, none⟩) ss.length ss.length) ∧ ss.map (·.data.toList) = Rin.fieldsGo b.data.toList [] ∧ w'.ownsRow w.heap.size 9 1 (.slice (some ⟨A, 0, none⟩) ss.length ss.length) ss.length (ss.map Value.string) ∧ Below w.heap.size w w' := by
  refine (Tryz.strings_FieldsFunc_runes 12 #[] (enters_of Tryz.func12 (by kernel_rfl) rfl) sepR b w (by omega) (sep_pays w)).mono ?_
  rintro e w' ⟨A, rfl, _, ho, hb⟩
  exact ⟨A, _, rfl, fields_eq b, ho, hb⟩


set_option maxHeartbeats 4000000 in
set_option maxRecDepth 1000000 in
theorem inputs_any (s : ByteArray) (w : World) (hs : s.size ≤ 1000) (hF : WF w) : Calls Tryz.prog 5 #[.string s] w (InsPost w 32 s.data.toList) := by
  obtain ⟨i0, hi, hz0, hz1, hz2⟩ := info_parts Tryz_info32
  have hlen : s.data.toList.length = s.size := (size_eq s).symm
  have cS := split_any s w hF hs
  have HF := Lib.hid hF
  have HL := Lib.hid hlen
  clear hlen hF
  go_enter Tryz.func5, Tryz.ntmps5
  go_wp2_with (go_at_call 9; refine cS.mono ?_; rintro e w1 ⟨L, rfl, hL, hb1, hsz1, hcell⟩)
  have HF1 := Lib.hid (HF.out.below hb1)
  have HCELL := Lib.hid hcell
  have HLS := Lib.hid hL
  have hcount : L.length ≤ 1001 := by
    have := lines_count s.data.toList []
    rw [← hL, List.length_map] at this
    have := HL.out
    omega
  have HLEN : Hid (∀ x ∈ L, x.size ≤ 1000) := by
    intro x hx
    have := lines_len s.data.toList [] x.data.toList (by rw [← hL]; exact List.mem_map.2 ⟨x, hx, rfl⟩)
    rw [size_eq]
    have := HL.out
    simp at this
    simp_all
    omega
  clear hcell hL
  go_loopg [5, 6, 21] L.length (fun g o at' i wx => ∃ (k a : Nat) (oa : Option Addr) (oc : Nat) (C : List CInp), k + g = L.length ∧ i = .int .i64 k ∧ at' = .int .i64 a ∧ o = .slice oa C.length oc ∧ a ≤ k * 1001 ∧ C.length ≤ k ∧
    Hid (inputsGo ((linesGo s.data.toList []).drop k) a (absL C) = inputsV s.data.toList) ∧
    InpsAt wx w1.heap.size 32 (.slice oa C.length oc) C ∧ Below w1.heap.size w1 wx)
  case atStart => exact ⟨0, 0, none, 0, [], by omega, rfl, rfl, rfl, by omega, by simp, rfl, InpsAt.nil _ _ _, Below.refl _ _⟩
  case round =>
    obtain ⟨k, a, oa, oc, C, hk, rfl, rfl, rfl, hak, hcl, HI, hin, hb⟩ := hrel
    have hbs := hb.size
    cases gk with
    | zero =>
      have hk' : k = L.length := by omega
      subst hk'
      have HE : Hid (inputsV s.data.toList = (absL C, 0, 0)) := by
        show _ = _
        rw [← HI.out, List.drop_of_length_le (by rw [← HLS.out, List.length_map]; exact Nat.le_refl _)]
        rfl
      clear HI hk
      go_wp2
      go_ret3
      exact ⟨_, C, 0, 0, rfl, hb1.trans (hb.mono hb1.size), ⟨own_base hin.1 hb1.size, fun x hx => own_base (hin.2 x hx) hb1.size⟩, HE.out.symm⟩
    | succ g =>
      have hlt : k < L.length := by omega
      obtain ⟨x, hx⟩ : ∃ x, L[k]? = some x := ⟨_, List.getElem?_eq_getElem hlt⟩
      have ck : wr.cell? ⟨w.heap.size, k, none⟩ = some (.string x) := by
        rw [hb.cell (p := ⟨w.heap.size, k, none⟩) (by show w.heap.size < _; omega)]
        exact HCELL.out k x hx
      have hxs := HLEN.out x (List.mem_of_getElem? hx)
      have HD : Hid ((linesGo s.data.toList []).drop k = x.data.toList :: (linesGo s.data.toList []).drop (k + 1)) := by
        show _ = _
        have h1 : (linesGo s.data.toList [])[k]? = some x.data.toList := by rw [← HLS.out, List.getElem?_map, hx]; rfl
        have h2 := List.getElem?_eq_some_iff.1 h1
        rw [← h2.2]
        exact List.drop_eq_getElem_cons h2.1
      have hxl : x.data.toList.length = x.size := (size_eq x).symm
      have HR1 : Hid (inputsGo (x.data.toList :: (linesGo s.data.toList []).drop (k + 1)) a (absL C) = inputsV s.data.toList) := by
        show _ = _
        rw [← HD.out]; exact HI.out
      have hFr := HF1.out.below hb
      have cC := cut_any x wr hFr hxs
      clear hx HI hFr
      go_wp2_with (go_at_call 10; refine cC.mono ?_; rintro e w2 ⟨b, a2, f, rfl, hbw, hbsz, hb2⟩)
      refine (fields_any b w2 hbsz).mono ?_
      rintro e w3 ⟨A, ss, rfl, hss, hown3, hb3⟩
      have HSS : Hid (ss.map (·.data.toList) = wordsV x.data.toList) := by show _ = _; rw [hss, hbw]
      obtain ⟨hsz, hct⟩ := words_sizes HSS.out (by rw [hxl]; exact hxs)
      have hb3' := hb2.trans (hb3.mono hb2.size)
      have hb3s := hb3'.size
      clear hss hbw
      by_cases h0 : ss.length = 0
      · have hW : wordsV x.data.toList = [] := by
          rw [← HSS.out]
          rw [List.eq_nil_of_length_eq_zero h0]; rfl
        have HNEW : Hid (inputsGo ((linesGo s.data.toList []).drop (k + 1)) (a + x.size + 1) (absL C) = inputsV s.data.toList) := by
          show _ = _
          rw [← HR1.out, inputs_skip hW, hxl]
        have hnp : ¬ (0 : Int) < (ss.length : Int) := by omega
        have HIN := Lib.hid (hin.below hb3')
        have HBB := Lib.hid (hb.trans (hb3'.mono hbs))
        clear h0 hW hin hown3 hsz hb2 hb3 hb3'
        go_wp2
        go_roundg g
        case measure => omega
        case rel => exact ⟨k + 1, a + x.size + 1, oa, oc, C, by omega, by go_num, by go_num, rfl, by omega, by omega, HNEW.out, HIN.out, HBB.out⟩
      · have hpos : (0 : Int) < (ss.length : Int) := by omega
        have hW : wordsV x.data.toList ≠ [] := by
          rw [← HSS.out]
          intro h
          have := congrArg List.length h
          simp at this
          exact h0 (by rw [this]; rfl)
        have HW := Lib.hid hW
        have HSZ := Lib.hid hsz
        have hF3 := HF1.out.below (hb.trans (hb3'.mono hbs))
        clear hW hsz
        go_wp2_with fail
        refine (input_any (.slice oa C.length oc) (.slice (some ⟨A, 0, none⟩) ss.length ss.length) C ss w3 _ _ hF3 (hin.below hb3') hown3 (by omega) HSZ.out (by omega) (by omega)).mono ?_
        rintro e w4 ⟨s0, ua, ul, uc, kk, rfl, hb4, hkk, hres⟩
        have HKK : Hid (kk = (inputV (absL C) (wordsV x.data.toList)).1) := by show kk = _; rw [hkk, HSS.out]
        have hb4s := hb4.size
        by_cases hk0 : kk = 0
        · obtain ⟨hr1, hr2⟩ := hres hk0
          subst hk0
          rw [HSS.out] at hr1 hr2
          have HR3 := Lib.hid hr1
          have HNEW : Hid (inputsGo ((linesGo s.data.toList []).drop (k + 1)) (a + x.size + 1) (absL C ++ [(inputV (absL C) (wordsV x.data.toList)).2]) = inputsV s.data.toList) := by
            show _ = _
            rw [← HR1.out, inputs_good HW.out HKK.out.symm, hxl]
          have hin2 := (hin.below hb3').below hb4
          have hown2 := hin2.1
          have HIN2 := Lib.hid hin2
          have hb5 := (hb.trans (hb3'.mono hbs)).trans (hb4.mono (by omega))
          have hlen2 : (inpCells C).length = C.length * 2 := inpCells_length C
          clear hr1 hkk hres hin hin2 hown3 hb2 hb3 hb3' hb4 hb
          go_wp2_with (at_builtin; refine wpList_append_own _ rfl (.tmp 46) (.tmp 48) 23 rfl w1.heap.size 32 i0 (.agg #[.string ⟨#[]⟩, .slice none 0 0]) 2 40 Tryz.underlying23 hi hz0 hz1 hz2 rfl (by decide) _ _ _ rfl ((hown2.alloc _).alloc _) ⟨w4.heap.size + 1, 0, none⟩ 1 1 [.string s0, .slice ua ul uc] rfl rfl (two_new _ _ _ _ _) (by intro u hu; simp at hu; rcases hu with rfl | rfl <;> rfl) (by unfold maxLen; omega) (by omega) (by simp; omega) ?_; intro v3 w5 hown5 hgrow5 hnil5; obtain ⟨oa3, oc3, hv3⟩ := own_form hown5; rw [hv3])
          go_roundg g
          case measure => omega
          case rel =>
            have hI := push_step (w := w4) (x := (s0, .slice ua ul uc, (inputV (absL C) (wordsV x.data.toList)).2.2)) (by decide) HIN2.out (own_base hr2 (by omega)) hown5 hgrow5
            rw [hv3] at hI
            refine ⟨k + 1, a + x.size + 1, oa3, oc3, C ++ [(s0, .slice ua ul uc, (inputV (absL C) (wordsV x.data.toList)).2.2)], by omega, by go_num, by go_num, by simp, by omega, by simp; omega, ?_, by simpa using hI, ?_⟩
            · have := HNEW.out
              rw [absL_snoc, HR3.out]
              exact this
            · exact ((hb5.alloc (by omega) _).alloc (by simp; omega) _).grown hgrow5 (by simp; omega) (fun j hj => (hown2.lt j hj).1)
        · have hkne : (kk != 0) = true := by simpa using hk0
          have HNEW : Hid (inputsV s.data.toList = ([], a, kk)) := by
            show _ = _
            rw [← HR1.out, inputs_bad HW.out (by rw [← HKK.out]; exact hk0), ← HKK.out]
          have hb5 := (hb.trans (hb3'.mono hbs)).trans (hb4.mono (by omega))
          clear hk0 hkk hres hin hown3 hb hb2 hb3 hb3' hb4
          go_wp2
          go_ret3
          refine ⟨_, [], a, kk, rfl, ?_, InpsAt.nil _ _ _, HNEW.out.symm⟩
          exact hb1.trans ((hb5.alloc (by omega) _).mono hb1.size)

end Go.Proofs.Rin
end
