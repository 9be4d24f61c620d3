/- Part of the proof that ReportInputs gives true at every text: walk: Inputs of the document's answer. -/
import Derived.Test.YtdidhokilifakaaGreatDoorRiP1
namespace Go.Proofs.Rin
open Go.RowKit Go.Rin Go.Lib

/-- what 'Words' gives, the value written out -/
def WordsPost2 (w : World) (l : List UInt8) (e : Ending) (w' : World) : Prop :=
  ∃ (a : Option Addr) (c : Nat) (ss : List ByteArray), e = .returned (.slice a ss.length c) ∧ ss.map (·.data.toList) = wordsV l ∧ w'.ownsRow w.heap.size 9 1 (.slice a ss.length c) ss.length (ss.map Value.string) ∧ Below w.heap.size w w'

theorem words_two {w w' : World} {l : List UInt8} {e : Ending} (h : WordsPost w l e w') : WordsPost2 w l e w' := by
  obtain ⟨v, ss, he, hm, ho, hb⟩ := h
  obtain ⟨a, c, rfl⟩ := own_form ho
  exact ⟨a, c, ss, he, hm, ho, hb⟩

theorem Tryz_info33 : (Tryz.prog.info? 33).map (fun i => (i.zero, i.size, i.bytes)) = some (some (.agg #[.string ⟨#[]⟩, .slice none 0 0]), 2, 40) := by kernel_rfl
theorem Tryz_info32 : (Tryz.prog.info? 32).map (fun i => (i.zero, i.size, i.bytes)) = some (some (.agg #[.string ⟨#[]⟩, .slice none 0 0]), 2, 40) := by kernel_rfl

theorem words_len : ∀ (l cur : List UInt8) , ∀ x ∈ wordsGo l cur, x.length ≤ cur.length + l.length
  | [], cur, x, h => by
    rw [wordsGo] at h
    split at h
    · cases h
    · simp at h; subst h; omega
  | c :: r, cur, x, h => by
    rw [wordsGo] at h
    split at h
    · split at h
      · cases h
      · simp at h; subst h; simp
    · split at h
      · split at h
        · have := words_len r [] x h; simp at this ⊢; omega
        · rcases List.mem_cons.1 h with h | h
          · subst h; simp
          · have := words_len r [] x h; simp at this ⊢; omega
      · have := words_len r (cur ++ [c]) x h; simp at this ⊢; omega

theorem words_count : ∀ (l cur : List UInt8), (wordsGo l cur).length ≤ l.length + 1
  | [], cur => by rw [wordsGo]; split <;> simp
  | c :: r, cur => by
    rw [wordsGo]
    have h1 := words_count r []
    have h2 := words_count r (cur ++ [c])
    split
    · split <;> simp
    · split
      · split
        · simp; omega
        · simp; omega
      · simp; omega

theorem words_sizes {ss : List ByteArray} {l : List UInt8} (h : ss.map (·.data.toList) = wordsV l) (hl : l.length ≤ 1000) : (∀ x ∈ ss, x.size ≤ 1000) ∧ ss.length ≤ 1001 := by
  constructor
  · intro x hx
    have : x.data.toList ∈ wordsV l := by rw [← h]; exact List.mem_map.2 ⟨x, hx, rfl⟩
    have := words_len l [] _ this
    rw [size_eq]
    simp at this
    simp
    omega
  · have := words_count l []
    have h2 := congrArg List.length h
    rw [List.length_map] at h2
    unfold wordsV at h2
    omega

theorem two_new (w : World) (x y : Value) (o : Obj) (t : TypeId) : ∀ j u, [x, y][j]? = some u → ((w.alloc o).alloc (.cells #[x, y] t)).cell? ((⟨w.heap.size + 1, 0, none⟩ : Addr).add j) = some u := by
  intro j u hj
  have e : (⟨w.heap.size + 1, 0, none⟩ : Addr) = ⟨(w.alloc o).heap.size, 0, none⟩ := by simp
  rw [e]
  match j, hj with
  | 0, hj => simp at hj; subst hj; simp [Addr.add]
  | 1, hj => simp at hj; subst hj; simp [Addr.add]
  | (j + 2), hj => simp at hj

theorem push_step {w w' : World} {B : Nat} {T : TypeId} {v v' : Value} {C : List CInp} {x : CInp} {o o' : Obj} (hT : T ≠ 3) (h : InpsAt w B T v C) (hx : w.ownsRow B 3 1 x.2.1 x.2.2.length (ints x.2.2))
    (hown : w'.ownsRow B T 2 v' (C.length + 1) (inpCells C ++ [Value.string x.1, x.2.1])) (hg : ((w.alloc o).alloc o').grownBy w' v.ownBlock) : InpsAt w' B T v' (C ++ [x]) :=
  InpsAt.push hT (C := C) (w := (w.alloc o).alloc o') ⟨(h.1.alloc _).alloc _, fun y hy => ((h.2 y hy).alloc _).alloc _⟩ ((hx.alloc _).alloc _) hown hg

set_option maxHeartbeats 4000000 in
set_option maxRecDepth 1000000 in
theorem refinputs_any (s : ByteArray) (w : World) (hs : s.size ≤ 1000) : Calls Tryz.prog 6 #[.string s] w (InsPost w 33 s.data.toList) := by
  obtain ⟨i0, hi, hz0, hz1, hz2⟩ := info_parts Tryz_info33
  have hlen : s.data.toList.length = s.size := (size_eq s).symm
  have HL := Lib.hid hlen
  clear hlen
  go_enter Tryz.func6, Tryz.ntmps6
  go_wp2
  go_loopg [5, 6, 7] (s.size + 1) (fun g o at' i wx => ∃ (k a : Nat) (oa : Option Addr) (oc : Nat) (C : List CInp), k + g = s.size + 1 ∧ i = .int .i64 k ∧ at' = .int .i64 a ∧ o = .slice oa C.length oc ∧ a ≤ k ∧ C.length ≤ k ∧
    Hid (if k ≤ s.size then inputsGo (linesGo (s.data.toList.drop k) (pieceU s.data.toList a k)) a (absL C) = inputsV s.data.toList else inputsV s.data.toList = (absL C, 0, 0)) ∧
    InpsAt wx w.heap.size 33 (.slice oa C.length oc) C ∧ Below w.heap.size w wx)
  case atStart => exact ⟨0, 0, none, 0, [], by omega, rfl, rfl, rfl, by omega, by simp, by show ite _ _ _; rw [if_pos (Nat.zero_le _)]; simp [inputsV, Rin.piece_nil, absL], InpsAt.nil _ _ _, Below.refl _ _⟩
  case round =>
    obtain ⟨k, a, oa, oc, C, hk, rfl, rfl, rfl, hak, hcl, HI, hin, hb⟩ := hrel
    have hbs := hb.size
    cases gk with
    | zero =>
      have hk' : k = s.size + 1 := by omega
      subst hk'
      have HE : Hid (inputsV s.data.toList = (absL C, 0, 0)) := by
        have := HI.out
        rwa [if_neg (by omega)] at this
      clear HI hk
      go_wp2
      go_ret3
      exact ⟨_, C, 0, 0, rfl, hb, hin, HE.out.symm⟩
    | succ g =>
      have hle : k ≤ s.size := by omega
      have HI2 : Hid (inputsGo (linesGo (s.data.toList.drop k) (pieceU s.data.toList a k)) a (absL C) = inputsV s.data.toList) := by
        have := HI.out
        rwa [if_pos hle] at this
      clear HI
      have HEX := Lib.hid (And.intro (extract_piece s a k) hle)
      by_cases hlt : k < s.size
      · have HC := Lib.hid (get_at s k hlt)
        cases h10 : ((s[k].toNat : Int) == 10) with
        | false =>
          have h10' : ((s[k].toNat : Int) != 10) = true := by simp only [bne, h10, Bool.not_false]
          have HS : Hid (linesGo (s.data.toList.drop k) (pieceU s.data.toList a k) = linesGo (s.data.toList.drop (k + 1)) (pieceU s.data.toList a (k + 1))) :=
            lines_plain hak HC.out (by intro h; rw [h] at h10; exact absurd h10 (by decide))
          go_wp2
          go_roundg g
          case measure => omega
          case rel => exact ⟨k + 1, a, oa, oc, C, by omega, by go_num, rfl, rfl, by omega, by omega, by show ite _ _ _; rw [if_pos (by omega), ← HS.out]; exact HI2.out, hin, hb⟩
        | true =>
          have h10' : ((s[k].toNat : Int) != 10) = false := by simp only [bne, h10, Bool.not_true]
          have HC2 : Hid (s.data.toList[k]? = some 10) := by
            show _ = _
            rw [HC.out]
            congr 1
            apply UInt8.toNat_inj.1
            simp only [beq_iff_eq] at h10
            have : s[k].toNat = 10 := by omega
            rw [this]; rfl
          obtain ⟨R, HR1, HR2⟩ : ∃ R, Hid (inputsGo (pieceU s.data.toList a k :: R) a (absL C) = inputsV s.data.toList) ∧ Hid (∀ X, inputsGo R (k + 1) X = inputsV s.data.toList → (if k + 1 ≤ s.size then inputsGo (linesGo (s.data.toList.drop (k + 1)) (pieceU s.data.toList (k + 1) (k + 1))) (k + 1) X = inputsV s.data.toList else inputsV s.data.toList = (X, 0, 0))) := by
            refine ⟨linesGo (s.data.toList.drop (k + 1)) (pieceU s.data.toList (k + 1) (k + 1)), ?_, ?_⟩
            · show _ = _; rw [← HI2.out, lines_nl HC2.out]
            · intro X hX; rw [if_pos (by omega)]; exact hX
          go_wp2_with fail
          refine (words_any (s.extract a k) wr (by rw [ByteArray.size_extract]; omega)).mono ?_
          rintro e w1 hh
          obtain ⟨wa, wc, ss, rfl, hss, hown1, hb1⟩ := words_two hh
          have HSS : Hid (ss.map (·.data.toList) = wordsV (pieceU s.data.toList a k)) := by show _ = _; rw [hss, extract_piece]
          obtain ⟨hsz, hct⟩ := words_sizes HSS.out (by rw [piece_length (by rw [HL.out]; exact hle)]; omega)
          clear hh hss
          have hb1s := hb1.size
          by_cases h0 : ss.length = 0
          · have hW : wordsV (pieceU s.data.toList a k) = [] := by
              rw [← HSS.out]
              rw [List.eq_nil_of_length_eq_zero h0]; rfl
            have HNEW : Hid (inputsGo R (k + 1) (absL C) = inputsV s.data.toList) := by
              show _ = _
              rw [← HR1.out, inputs_skip hW, piece_length (by rw [HL.out]; exact hle), show a + (k - a) + 1 = k + 1 by omega]
            have hnp : ¬ (0 : Int) < (ss.length : Int) := by omega
            have HIN := Lib.hid (hin.below hb1)
            have HBB := Lib.hid (hb.trans (hb1.mono hbs))
            clear h0 hW hin hown1 hsz
            go_wp2
            go_roundg g
            case measure => omega
            case rel => exact ⟨k + 1, k + 1, oa, oc, C, by omega, by go_num, by go_num, rfl, by omega, by omega, HR2.out _ HNEW.out, HIN.out, HBB.out⟩
          · have hpos : (0 : Int) < (ss.length : Int) := by omega
            have hW : wordsV (pieceU s.data.toList a k) ≠ [] := by
              rw [← HSS.out]
              intro h
              have := congrArg List.length h
              simp at this
              exact h0 (by rw [this]; rfl)
            have HW := Lib.hid hW
            have HSZ := Lib.hid hsz
            clear hW hsz
            go_wp2_with fail
            refine (refinput_any (.slice oa C.length oc) (.slice wa ss.length wc) C ss w1 _ _ (hin.below hb1) hown1 (by omega) HSZ.out (by omega) (by omega)).mono ?_
            rintro e w2 ⟨s0, ua, ul, uc, kk, rfl, hb2, hkk, hres⟩
            have HKK : Hid (kk = (inputV (absL C) (wordsV (pieceU s.data.toList a k))).1) := by show kk = _; rw [hkk, HSS.out]
            have hb2s := hb2.size
            by_cases hk0 : kk = 0
            · obtain ⟨hr1, hr2⟩ := hres hk0
              subst hk0
              rw [HSS.out] at hr1 hr2
              have HR3 := Lib.hid hr1
              have HNEW : Hid (inputsGo R (k + 1) (absL C ++ [(inputV (absL C) (wordsV (pieceU s.data.toList a k))).2]) = inputsV s.data.toList) := by
                show _ = _
                rw [← HR1.out, inputs_good HW.out HKK.out.symm, piece_length (by rw [HL.out]; exact hle), show a + (k - a) + 1 = k + 1 by omega]
              have hin2 := (hin.below hb1).below hb2
              have hown2 := hin2.1
              have HIN2 := Lib.hid hin2
              have hb3 := (hb.trans (hb1.mono hbs)).trans (hb2.mono (by omega))
              have hlen2 : (inpCells C).length = C.length * 2 := inpCells_length C
              clear hr1 hkk hres hin hin2 hown1 hb1 hb
              go_wp2_with (at_builtin; refine wpList_append_own _ rfl (.tmp 48) (.tmp 50) 27 rfl w.heap.size 33 i0 (.agg #[.string ⟨#[]⟩, .slice none 0 0]) 2 40 Tryz.underlying27 hi hz0 hz1 hz2 rfl (by decide) _ _ _ rfl ((hown2.alloc _).alloc _) ⟨w2.heap.size + 1, 0, none⟩ 1 1 [.string s0, .slice ua ul uc] rfl rfl (two_new _ _ _ _ _) (by intro u hu; simp at hu; rcases hu with rfl | rfl <;> rfl) (by unfold maxLen; omega) (by omega) (by simp; omega) ?_; intro v3 w3 hown3 hgrow3 hnil3; obtain ⟨oa3, oc3, hv3⟩ := own_form hown3; rw [hv3])
              go_roundg g
              case measure => omega
              case rel =>
                have hI := push_step (w := w2) (x := (s0, .slice ua ul uc, (inputV (absL C) (wordsV (pieceU s.data.toList a k))).2.2)) (by decide) HIN2.out (own_base hr2 (by omega)) hown3 hgrow3
                rw [hv3] at hI
                refine ⟨k + 1, k + 1, oa3, oc3, C ++ [(s0, .slice ua ul uc, (inputV (absL C) (wordsV (pieceU s.data.toList a k))).2.2)], by omega, by go_num, by go_num, by simp, by omega, by simp; omega, HR2.out _ ?_, by simpa using hI, ?_⟩
                · have := HNEW.out
                  rw [absL_snoc, HR3.out]
                  exact this
                · exact ((hb3.alloc (by omega) _).alloc (by simp; omega) _).grown hgrow3 (by simp; omega) (fun j hj => (hown2.lt j hj).1)
            · have hkne : (kk != 0) = true := by simpa using hk0
              have HNEW : Hid (inputsV s.data.toList = ([], a, kk)) := by
                show _ = _
                rw [← HR1.out, inputs_bad HW.out (by rw [← HKK.out]; exact hk0), ← HKK.out]
              have hb3 := (hb.trans (hb1.mono hbs)).trans (hb2.mono (by omega))
              clear hk0 hkk hres hin hown1 hb1 hb hb2
              go_wp2
              go_ret3
              refine ⟨_, [], a, kk, rfl, ?_, InpsAt.nil _ _ _, HNEW.out.symm⟩
              exact hb3.alloc (by omega) _

      · have hge : ¬ (k : Int) < (s.size : Int) := by omega
        obtain ⟨R, HR1, HR2⟩ : ∃ R, Hid (inputsGo (pieceU s.data.toList a k :: R) a (absL C) = inputsV s.data.toList) ∧ Hid (∀ X, inputsGo R (k + 1) X = inputsV s.data.toList → (if k + 1 ≤ s.size then inputsGo (linesGo (s.data.toList.drop (k + 1)) (pieceU s.data.toList (k + 1) (k + 1))) (k + 1) X = inputsV s.data.toList else inputsV s.data.toList = (X, 0, 0))) := by
          have hks : s.size = k := by omega
          refine ⟨[], ?_, ?_⟩
          · show _ = _
            rw [← HI2.out]
            have := lines_end (l := s.data.toList) (a := a)
            rw [HL.out, hks] at this
            rw [this]
          · intro X hX; rw [if_neg (by omega)]; rw [← hX]; rfl
        go_wp2_with fail
        refine (words_any (s.extract a k) wr (by rw [ByteArray.size_extract]; omega)).mono ?_
        rintro e w1 hh
        obtain ⟨wa, wc, ss, rfl, hss, hown1, hb1⟩ := words_two hh
        have HSS : Hid (ss.map (·.data.toList) = wordsV (pieceU s.data.toList a k)) := by show _ = _; rw [hss, extract_piece]
        obtain ⟨hsz, hct⟩ := words_sizes HSS.out (by rw [piece_length (by rw [HL.out]; exact hle)]; omega)
        clear hh hss
        have hb1s := hb1.size
        by_cases h0 : ss.length = 0
        · have hW : wordsV (pieceU s.data.toList a k) = [] := by
            rw [← HSS.out]
            rw [List.eq_nil_of_length_eq_zero h0]; rfl
          have HNEW : Hid (inputsGo R (k + 1) (absL C) = inputsV s.data.toList) := by
            show _ = _
            rw [← HR1.out, inputs_skip hW, piece_length (by rw [HL.out]; exact hle), show a + (k - a) + 1 = k + 1 by omega]
          have hnp : ¬ (0 : Int) < (ss.length : Int) := by omega
          have HIN := Lib.hid (hin.below hb1)
          have HBB := Lib.hid (hb.trans (hb1.mono hbs))
          clear h0 hW hin hown1 hsz
          go_wp2
          go_roundg g
          case measure => omega
          case rel => exact ⟨k + 1, k + 1, oa, oc, C, by omega, by go_num, by go_num, rfl, by omega, by omega, HR2.out _ HNEW.out, HIN.out, HBB.out⟩
        · have hpos : (0 : Int) < (ss.length : Int) := by omega
          have hW : wordsV (pieceU s.data.toList a k) ≠ [] := by
            rw [← HSS.out]
            intro h
            have := congrArg List.length h
            simp at this
            exact h0 (by rw [this]; rfl)
          have HW := Lib.hid hW
          have HSZ := Lib.hid hsz
          clear hW hsz
          go_wp2_with fail
          refine (refinput_any (.slice oa C.length oc) (.slice wa ss.length wc) C ss w1 _ _ (hin.below hb1) hown1 (by omega) HSZ.out (by omega) (by omega)).mono ?_
          rintro e w2 ⟨s0, ua, ul, uc, kk, rfl, hb2, hkk, hres⟩
          have HKK : Hid (kk = (inputV (absL C) (wordsV (pieceU s.data.toList a k))).1) := by show kk = _; rw [hkk, HSS.out]
          have hb2s := hb2.size
          by_cases hk0 : kk = 0
          · obtain ⟨hr1, hr2⟩ := hres hk0
            subst hk0
            rw [HSS.out] at hr1 hr2
            have HR3 := Lib.hid hr1
            have HNEW : Hid (inputsGo R (k + 1) (absL C ++ [(inputV (absL C) (wordsV (pieceU s.data.toList a k))).2]) = inputsV s.data.toList) := by
              show _ = _
              rw [← HR1.out, inputs_good HW.out HKK.out.symm, piece_length (by rw [HL.out]; exact hle), show a + (k - a) + 1 = k + 1 by omega]
            have hin2 := (hin.below hb1).below hb2
            have hown2 := hin2.1
            have HIN2 := Lib.hid hin2
            have hb3 := (hb.trans (hb1.mono hbs)).trans (hb2.mono (by omega))
            have hlen2 : (inpCells C).length = C.length * 2 := inpCells_length C
            clear hr1 hkk hres hin hin2 hown1 hb1 hb
            go_wp2_with (at_builtin; refine wpList_append_own _ rfl (.tmp 48) (.tmp 50) 27 rfl w.heap.size 33 i0 (.agg #[.string ⟨#[]⟩, .slice none 0 0]) 2 40 Tryz.underlying27 hi hz0 hz1 hz2 rfl (by decide) _ _ _ rfl ((hown2.alloc _).alloc _) ⟨w2.heap.size + 1, 0, none⟩ 1 1 [.string s0, .slice ua ul uc] rfl rfl (two_new _ _ _ _ _) (by intro u hu; simp at hu; rcases hu with rfl | rfl <;> rfl) (by unfold maxLen; omega) (by omega) (by simp; omega) ?_; intro v3 w3 hown3 hgrow3 hnil3; obtain ⟨oa3, oc3, hv3⟩ := own_form hown3; rw [hv3])
            go_roundg g
            case measure => omega
            case rel =>
              have hI := push_step (w := w2) (x := (s0, .slice ua ul uc, (inputV (absL C) (wordsV (pieceU s.data.toList a k))).2.2)) (by decide) HIN2.out (own_base hr2 (by omega)) hown3 hgrow3
              rw [hv3] at hI
              refine ⟨k + 1, k + 1, oa3, oc3, C ++ [(s0, .slice ua ul uc, (inputV (absL C) (wordsV (pieceU s.data.toList a k))).2.2)], by omega, by go_num, by go_num, by simp, by omega, by simp; omega, HR2.out _ ?_, by simpa using hI, ?_⟩
              · have := HNEW.out
                rw [absL_snoc, HR3.out]
                exact this
              · exact ((hb3.alloc (by omega) _).alloc (by simp; omega) _).grown hgrow3 (by simp; omega) (fun j hj => (hown2.lt j hj).1)
          · have hkne : (kk != 0) = true := by simpa using hk0
            have HNEW : Hid (inputsV s.data.toList = ([], a, kk)) := by
              show _ = _
              rw [← HR1.out, inputs_bad HW.out (by rw [← HKK.out]; exact hk0), ← HKK.out]
            have hb3 := (hb.trans (hb1.mono hbs)).trans (hb2.mono (by omega))
            clear hk0 hkk hres hin hown1 hb1 hb hb2
            go_wp2
            go_ret3
            refine ⟨_, [], a, kk, rfl, ?_, InpsAt.nil _ _ _, HNEW.out.symm⟩
            exact hb3.alloc (by omega) _


end Go.Proofs.Rin
