/- Part of the proof that ReportInputs gives true at every text. -/
import Derived.Test.YtdidhokilifakaaGreatDoorAbP1

section
namespace Go.Ab
open Go.RowKit
variable {P : Program} {B : Nat} {φ : Ren} {h h' : AHeap} {w w' : World}

def UpTo (v : Option Value) (dflt n i : Nat) : Prop := (v = none ∧ i = dflt) ∨ (∃ k, v = some (.int k (i : Int)) ∧ i ≤ n)

theorem upTo_inv {lo : Option Operand} {ρA ρC : Operand → Value} (hρ : ∀ x, lo = some x → VR φ (ρA x) (ρC x)) {d n i : Nat} (e : upTo (lo.map ρA) d n = some i) : UpTo (lo.map ρC) d n i := by
  cases lo with
  | none => simp [upTo] at e; exact .inl ⟨rfl, e.symm⟩
  | some x =>
    simp only [Option.map_some, upTo, Option.bind_eq_some_iff] at e
    obtain ⟨j, hj, e⟩ := e
    obtain ⟨k, hk⟩ := natOf_inv (hρ x rfl) hj
    cases hb : Nat.ble j n with
    | false => rw [hb] at e; cases e
    | true => rw [hb] at e; cases e; exact .inr ⟨k, by simp [hk], Nat.le_of_ble_eq_true hb⟩

theorem UpTo.mono {v : Option Value} {d n m i : Nat} (hu : UpTo v d n i) (hn : n ≤ m) : UpTo v d m i := by
  rcases hu with ⟨a, b⟩ | ⟨k, a, b⟩
  · exact .inl ⟨a, b⟩
  · exact .inr ⟨k, a, by omega⟩
theorem UpTo.le {v : Option Value} {d n i : Nat} (hu : UpTo v d n i) (hd : d ≤ n) : i ≤ n := by
  rcases hu with ⟨a, b⟩ | ⟨k, a, b⟩ <;> omega

theorem run_sliceBound {k : IntKind} {i n : Nat} {c : BoundsCode} (hi : i ≤ n) : (Instr.sliceBound (.int k (i : Int)) n c).run P w = .ok i w := by
  unfold Instr.sliceBound
  rw [run_bind_ok run_asIntOf]
  simp only [Sem.run_ite]
  rw [if_pos ⟨by omega, by omega⟩]
  simp

theorem run_sliceBounds {b : Bool} {len cap : Nat} {lo hi mx : Option Value} {l hh m : Nat} (hm : UpTo mx cap cap m) (hh' : UpTo hi len m hh) (hl : UpTo lo 0 hh l) (hmx : mx.isSome = true → hi.isSome = true) :
    (Instr.sliceBounds b len cap lo hi mx).run P w = .ok (l, hh, m) w := by
  unfold Instr.sliceBounds
  rcases hm with ⟨rfl, rfl⟩ | ⟨k, rfl, hm⟩
  · rcases hh' with ⟨rfl, rfl⟩ | ⟨k2, rfl, hh'⟩
    · rcases hl with ⟨rfl, rfl⟩ | ⟨k3, rfl, hl⟩
      · simp
      · simp [run_sliceBound hl]
    · rcases hl with ⟨rfl, rfl⟩ | ⟨k3, rfl, hl⟩
      · simp [run_sliceBound hh']
      · simp [run_sliceBound hl, run_sliceBound hh']
  · rcases hh' with ⟨rfl, rfl⟩ | ⟨k2, rfl, hh'⟩
    · simp at hmx
    · rcases hl with ⟨rfl, rfl⟩ | ⟨k3, rfl, hl⟩
      · simp [run_sliceBound hm, run_sliceBound hh']
      · simp [run_sliceBound hm, run_sliceBound hl, run_sliceBound hh']

theorem bl_extract (s : ByteArray) (a b : Nat) : mk (((bl s).drop a).take (b - a)) = s.extract a b := by
  apply ByteArray.ext
  simp [mk, bl, List.extract_eq_take_drop, ← Array.toList_inj]

theorem addr_if (m l : Nat) (b o sz : Nat) : (if m = l then some (⟨b, o, none⟩ : Addr) else (some ⟨b, o, none⟩ : Option Addr).map (·.add (l * sz))) = some ⟨b, if m = l then o else o + l * sz, none⟩ := by
  by_cases e : m = l <;> simp [e, add_none]

theorem sliceV_sound (H : HR B φ h w) {t : TypeId} {x : Operand} {lo hi mx : Option Operand} {ρA ρC : Operand → Value} {v : Value}
    (hx : VR φ (ρA x) (ρC x)) (hlo : ∀ y, lo = some y → VR φ (ρA y) (ρC y)) (hhi : ∀ y, hi = some y → VR φ (ρA y) (ρC y)) (hmx : ∀ y, mx = some y → VR φ (ρA y) (ρC y))
    (e : sliceV P h t (ρA x) (lo.map ρA) (hi.map ρA) (mx.map ρA) = some v) :
    ∃ v', (Instr.sliceAt t (ρC x) (lo.map ρC) (hi.map ρC) (mx.map ρC)).run P w = .ok v' w ∧ VR φ v v' := by
  generalize hxA : ρA x = xA at hx e
  generalize hxC : ρC x = xC at hx
  clear hxA hxC
  unfold sliceV at e
  cases hg : ((mx.map ρA).isNone || (hi.map ρA).isSome) with
  | false => rw [hg] at e; cases e
  | true =>
  rw [hg] at e
  have hms : (mx.map ρC).isSome = true → (hi.map ρC).isSome = true := by
    intro hs
    cases mx with
    | none => simp at hs
    | some y => cases hi with
      | none => simp at hg
      | some z => simp
  clear hg
  simp only [cond_true] at e
  split at e
  · -- a string
    obtain rfl := hx.str_inv
    rename_i s
    split at e
    · rename_i _ _ hmn hu
      simp only [Option.bind_eq_some_iff, Option.map_eq_some_iff] at e
      obtain ⟨hh, e1, l, e2, rfl⟩ := e
      have hmx' : mx = none := by cases mx with | none => rfl | some y => simp at hmn
      subst hmx'
      have u1 := upTo_inv hhi e1
      have u2 := upTo_inv hlo e2
      refine ⟨_, ?_, by rw [str, bl_extract]; exact .string _⟩
      have hsz : (bl s).length = s.size := by simp [bl]
      rw [hsz] at u1
      unfold Instr.sliceAt
      rw [run_bind_ok (run_und hu)]
      unfold Instr.slice
      simp only [Option.map_none, Option.isSome_none, Bool.false_eq_true, if_false]
      rw [run_bind_ok (run_und hu)]
      have := run_sliceBounds (P := P) (w := w) (b := false) (mx := none) (.inl ⟨rfl, rfl⟩) u1 u2 (by simp)
      simp [this]
    · cases e
  · -- the nil slice
    obtain ⟨_, _, rfl⟩ := hx.nilSlice_inv
    split at e
    · rename_i el hu
      simp only [Option.bind_eq_some_iff, Option.map_eq_some_iff] at e
      obtain ⟨sz, hs, m, e0, hh, e1, l, e2, rfl⟩ := e
      have u0 := upTo_inv hmx e0
      have u1 := upTo_inv hhi e1
      have u2 := upTo_inv hlo e2
      have hm0 : m = 0 := by have := u0.le (Nat.le_refl _); omega
      subst hm0
      have hh0 : hh = 0 := by have := u1.le (Nat.le_refl _); omega
      subst hh0
      have hl0 : l = 0 := by have := u2.le (Nat.le_refl _); omega
      subst hl0
      refine ⟨.slice none 0 0, ?_, .nilSlice⟩
      unfold Instr.sliceAt
      rw [run_bind_ok (run_und hu)]
      unfold Instr.slice
      simp only
      rw [run_bind_ok (run_und hu)]
      simp only
      rw [run_bind_ok (run_sliceBounds u0 u1 u2 hms), run_bind_ok (run_size hs)]
      rfl
    · cases e
  · -- a slice
    rename_i a len cap
    split at e
    · rename_i el hu
      simp only [Option.bind_eq_some_iff] at e
      obtain ⟨sz, hs, e⟩ := e
      obtain ⟨i, o', c', hii, ha, rfl, hcase⟩ := hx.slice_inv
      have go : ∀ {m hh l : Nat}, UpTo (mx.map ρC) c' c' m → UpTo (hi.map ρC) len m hh → UpTo (lo.map ρC) 0 hh l →
          (Instr.sliceAt t (.slice (some ⟨i.blk, o', none⟩) len c') (lo.map ρC) (hi.map ρC) (mx.map ρC)).run P w =
            .ok (.slice (some ⟨i.blk, if m = l then o' else o' + l * sz, none⟩) (hh - l) (m - l)) w := by
        intro m hh l u0 u1 u2
        unfold Instr.sliceAt
        rw [run_bind_ok (run_und hu)]
        unfold Instr.slice
        simp only
        rw [run_bind_ok (run_und hu)]
        simp only
        rw [run_bind_ok (run_sliceBounds u0 u1 u2 hms), run_bind_ok (run_size hs)]
        simp only [Sem.run_pure]
        rw [addr_if]
      split at e
      · -- its capacity is known
        rename_i c hk
        have hc : cap = 2 * c ∧ c = c' ∧ o' = i.base + a.off := by
          unfold knownCap at hk
          cases hb : Nat.beq (cap % 2) 0 with
          | false => rw [hb] at hk; cases hk
          | true =>
            rw [hb] at hk; cases hk
            have := Nat.eq_of_beq_eq_true hb
            rcases hcase with ⟨h1, h2⟩ | ⟨lb, h1, _⟩
            · exact ⟨by omega, by omega, h2⟩
            · omega
        obtain ⟨rfl, rfl, rfl⟩ := hc
        simp only [Option.bind_eq_some_iff, Option.map_eq_some_iff] at e
        obtain ⟨m, e0, hh, e1, l, e2, rfl⟩ := e
        refine ⟨_, go (upTo_inv hmx e0) (upTo_inv hhi e1) (upTo_inv hlo e2), ?_⟩
        have := VR.sliceK (φ := φ) (b := a.block) (o := if m = l then a.off else a.off + l * sz) (n := hh - l) (c := m - l) hii
        cases hml : Nat.beq m l with
        | true =>
          have := Nat.eq_of_beq_eq_true hml
          subst this
          rw [ha]
          simpa using this
        | false =>
          have hne := Nat.ne_of_beq_eq_false hml
          rw [ha]
          simpa [hne, Nat.add_assoc] using this
      · -- it is not
        rename_i hk
        have hc : ∃ lb, cap = 2 * lb + 1 ∧ lb ≤ c' ∧ len ≤ lb ∧ (0 < lb → o' = i.base + a.off) ∧ o' + c' * i.stride ≤ i.size := by
          rcases hcase with ⟨h1, h2⟩ | h1
          · unfold knownCap at hk
            rw [show Nat.beq (cap % 2) 0 = true by rw [show cap % 2 = 0 by omega]; rfl] at hk
            cases hk
          · exact h1
        obtain ⟨lb, rfl, hlb, hlen, hoff, hsize⟩ := hc
        rw [show (2 * lb + 1) / 2 = lb by omega] at e
        cases hst : strideOk h a.block sz with
        | false => rw [hst] at e; cases e
        | true =>
          rw [hst] at e
          simp only [cond_true] at e
          have hstr : i.stride = sz := by
            unfold strideOk at hst
            split at hst
            · rename_i c e' s ro x hb
              have ho := H.obj _ _ _ hb hii
              cases ho with
              | cells _ _ h3 => rw [h3]; exact Nat.eq_of_beq_eq_true hst
            · cases hst
          split at e
          · rename_i hmn
            have hmx' : mx = none := by cases mx with | none => rfl | some y => simp at hmn
            subst hmx'
            simp only [Option.bind_eq_some_iff, Option.map_eq_some_iff] at e
            obtain ⟨hh, e1, l, e2, rfl⟩ := e
            have u1 := upTo_inv hhi e1
            have u2 := upTo_inv hlo e2
            refine ⟨_, go (m := c') (.inl ⟨rfl, rfl⟩) (u1.mono hlb) u2, ?_⟩
            have k1 := u1.le hlen
            have k2 := u2.le (Nat.zero_le _)
            have hsp : a.spot = none := by rw [ha]
            rw [hsp]
            have g1 : lb - l ≤ c' - l := by omega
            have g2 : hh - l ≤ lb - l := by omega
            refine VR.sliceU (φ := φ) (lb := lb - l) hii g1 g2 ?_ ?_
            · intro hpos
              rw [if_neg (by omega), hoff (by omega)]
              omega
            · rw [hstr] at hsize ⊢
              by_cases hcl : c' = l
              · rw [if_pos hcl]; subst hcl; simp; omega
              · rw [if_neg hcl]
                have : l * sz + (c' - l) * sz = c' * sz := by rw [← Nat.add_mul]; congr 1; omega
                omega
          · rename_i y hmn
            simp only [Option.bind_eq_some_iff] at e
            obtain ⟨m, e0, hh, e1, l, e2, e⟩ := e
            have u0 := upTo_inv hmx e0
            have u1 := upTo_inv hhi e1
            have u2 := upTo_inv hlo e2
            have u0' : UpTo (mx.map ρC) c' c' m := by
              rcases u0 with ⟨z, _⟩ | ⟨k, z, hm⟩
              · cases mx with
                | none => simp at hmn
                | some q => simp at z
              · exact .inr ⟨k, z, by omega⟩
            refine ⟨_, go u0' u1 u2, ?_⟩
            have hm : m ≤ lb := by
              rcases u0 with ⟨z, _⟩ | ⟨k, z, hm⟩
              · cases mx with
                | none => simp at hmn
                | some q => simp at z
              · exact hm
            cases hpos : Nat.blt 0 lb with
            | true =>
              rw [hpos] at e
              cases e
              have hpos' : 0 < lb := by simpa [Nat.blt_eq] using hpos
              rw [hoff hpos']
              have := VR.sliceK (φ := φ) (b := a.block) (o := if m = l then a.off else a.off + l * sz) (n := hh - l) (c := m - l) hii
              cases hml : Nat.beq m l with
              | true =>
                have := Nat.eq_of_beq_eq_true hml
                subst this
                rw [ha]
                simpa using this
              | false =>
                have hne := Nat.ne_of_beq_eq_false hml
                rw [ha]
                simpa [hne, Nat.add_assoc] using this
            | false =>
              rw [hpos] at e
              cases e
              have hpos' : lb = 0 := by
                have : ¬ 0 < lb := by intro h; rw [← Nat.blt_eq] at h; rw [h] at hpos; cases hpos
                omega
              have hm0 : m = 0 := by omega
              have hh0 : hh = 0 := by
                rcases u1 with ⟨_, z⟩ | ⟨k, _, z⟩ <;> omega
              have hl0 : l = 0 := by
                rcases u2 with ⟨_, z⟩ | ⟨k, _, z⟩ <;> omega
              subst hm0; subst hh0; subst hl0
              rw [ha]
              have := VR.sliceU (φ := φ) (b := a.block) (o := a.off) (n := 0) (lb := 0) (o' := o') (c := 0) hii (Nat.le_refl _) (Nat.le_refl _) (by omega) (by omega)
              simpa using this
    · cases e
  · -- an array behind a pointer
    rename_i a
    obtain ⟨i, hii, ha, rfl⟩ := hx.ptr_inv
    have fin : ∀ {n sz : Nat} (m hh l : Nat), ∃ v', Value.slice (some ⟨i.blk, if m = l then i.base + a.off else i.base + a.off + l * sz, none⟩) (hh - l) (m - l) = v' ∧
        VR φ (.slice (some (cond (Nat.beq m l) a { a with off := a.off + l * sz })) (hh - l) (2 * (m - l))) v' := by
      intro n sz m hh l
      refine ⟨_, rfl, ?_⟩
      have := VR.sliceK (φ := φ) (b := a.block) (o := if m = l then a.off else a.off + l * sz) (n := hh - l) (c := m - l) hii
      cases hml : Nat.beq m l with
      | true =>
        have := Nat.eq_of_beq_eq_true hml
        subst this
        rw [ha]
        simpa using this
      | false =>
        have hne := Nat.ne_of_beq_eq_false hml
        rw [ha]
        simpa [hne, Nat.add_assoc] using this
    have addr1 : ∀ m l sz : Nat, (some (if m = l then (⟨i.blk, i.base + a.off, none⟩ : Addr) else Addr.add ⟨i.blk, i.base + a.off, none⟩ (l * sz))) = some ⟨i.blk, if m = l then i.base + a.off else i.base + a.off + l * sz, none⟩ := by
      intro m l sz
      by_cases e : m = l <;> simp [e, add_none]
    split at e
    · rename_i n el hu
      simp only [Option.bind_eq_some_iff, Option.map_eq_some_iff] at e
      obtain ⟨sz, hs, m, e0, hh, e1, l, e2, rfl⟩ := e
      obtain ⟨v', ev, hv⟩ := fin (n := n) (sz := sz) m hh l
      refine ⟨v', ?_, hv⟩
      unfold Instr.sliceAt
      rw [run_bind_ok (run_und hu)]
      simp only [Instr.sureAddr]
      rw [run_bind_ok (run_pure _ _), run_bind_ok (run_sliceBounds (upTo_inv hmx e0) (upTo_inv hhi e1) (upTo_inv hlo e2) hms), run_bind_ok (run_size hs)]
      simp only [Sem.run_pure]
      rw [addr1, ev]
    · rename_i arr hu
      split at e
      · rename_i n el hu2
        simp only [Option.bind_eq_some_iff, Option.map_eq_some_iff] at e
        obtain ⟨sz, hs, m, e0, hh, e1, l, e2, rfl⟩ := e
        obtain ⟨v', ev, hv⟩ := fin (n := n) (sz := sz) m hh l
        refine ⟨v', ?_, hv⟩
        unfold Instr.sliceAt
        rw [run_bind_ok (run_und hu)]
        unfold Instr.slice
        simp only
        rw [run_bind_ok (run_und hu)]
        simp only [asAddr]
        rw [run_bind_ok (run_pure _ _), run_bind_ok (run_und hu2)]
        simp only
        rw [run_bind_ok (run_sliceBounds (upTo_inv hmx e0) (upTo_inv hhi e1) (upTo_inv hlo e2) hms), run_bind_ok (run_size hs)]
        simp only [Sem.run_pure]
        rw [addr1, ev]
      · cases e
    · cases e
  · cases e
end Go.Ab
end

section
namespace Go.Ab
open Go.RowKit
variable {P : Program} {B : Nat} {φ : Ren} {h h' : AHeap} {w w' : World}

/-! ## maps -/
theorem keyOk_sound (n : Nat) : ∀ (d : Nat) (t : TypeId) (v v' : Value) (em : Bool), VR φ v v' → keyOk P n t v = true → (Instr.checkKey em (n + d) t v').run P w = .ok () w := by
  induction n with
  | zero => intro d t v v' em _ e; simp [keyOk] at e
  | succ n ih =>
    intro d t v v' em hv e
    rw [show n + 1 + d = (n + d) + 1 by omega]
    unfold keyOk at e
    split at e
    · rename_i hu; obtain rfl := hv.int_inv; simp [Instr.checkKey, run_und hu]
    · rename_i hu; obtain rfl := hv.str_inv; simp [Instr.checkKey, run_und hu]
    · rename_i hu; obtain rfl := hv.bool_inv; simp [Instr.checkKey, run_und hu]
    · rename_i fs cs hu
      obtain ⟨cs', rfl, hcs⟩ := hv.agg_inv
      simp only [Instr.checkKey, Sem.run_bind, run_und hu, Result.andThen_ok]
      rw [← Array.forIn_toList]
      generalize fs.toList = l at e
      clear hu
      induction l with
      | nil => simp
      | cons f l ihl =>
        simp only [List.all_cons, Bool.and_eq_true, Bool.or_eq_true, beq_iff_eq] at e
        obtain ⟨e1, e2⟩ := e
        simp only [List.forIn_cons, Sem.run_bind, Sem.run_ite]
        by_cases hn : f.name = "_"
        · rw [if_neg (by simp [hn])]
          simp only [Sem.run_pure, Result.andThen_ok]
          exact ihl (by simpa using e2)
        · rw [if_pos hn]
          rcases e1 with e1 | e1
          · exact absurd e1 hn
          · split at e1
            · rename_i u hu'
              obtain ⟨u', eu, hu'⟩ := part_sound (P := P) (w := w) hcs hu'
              simp only [eu, Result.andThen_ok, ih d _ _ _ em hu' e1, Sem.run_pure]
              exact ihl (by simpa using e2)
            · cases e1
    · cases e

theorem sameNow_eq {D : Nat} {t : TypeId} {d : TypeDesc} {x y : Value} {b c : Bool} (hu : P.underlying t = some d) (hs : Instr.sameNow d x y = some c) (he : (Op.equalIn (D + 1) t x y).run P w = .ok b w) : b = c := by
  unfold Instr.sameNow at hs
  split at hs
  · rename_i k a k' b'
    by_cases hk : k = k'
    · subst hk
      simp at hs
      rw [run_equalIn_int _ _ _ _ _ _ _ hu] at he
      simp at he; rw [← he, hs]
    · simp [hk] at hs
  · rw [run_equalIn_string _ _ _ _ _ hu] at he
    simp at hs he
    rw [← he, ← hs, beq_toListBytes]
  · rw [run_equalIn_bool' _ _ _ _ _ hu] at he
    simp at hs he; rw [← he, hs]
  · cases hs

/-- the first entry of a key stands at j -/
def First (P : Program) (t : TypeId) (k : Value) (es : List MapEntry) (j : Nat) (e : MapEntry) : Prop :=
  es[j]? = some e ∧ keyEq P t k e.key = some true ∧ ∀ i, i < j → ∃ e0, es[i]? = some e0 ∧ keyEq P t k e0.key = some false

def Found (P : Program) (t : TypeId) (k : Value) (φ : Ren) (es : List MapEntry) (es' : List MapEntry) (r : Option MapEntry) (r' : Option (Nat × Value)) (off : Nat) : Prop :=
  match r with
  | none => r' = none
  | some e => ∃ j e', First P t k es j e ∧ es'[j]? = some e' ∧ ER φ e e' ∧ r' = some (off + j, e'.val)

theorem First.zero {t : TypeId} {k : Value} {e : MapEntry} {es : List MapEntry} (hq : keyEq P t k e.key = some true) : First P t k (e :: es) 0 e :=
  ⟨rfl, hq, fun _i hi => absurd hi (Nat.not_lt_zero _)⟩
theorem First.succ {t : TypeId} {k : Value} {e x : MapEntry} {es : List MapEntry} {j : Nat} (hq : keyEq P t k e.key = some false) (hf : First P t k es j x) : First P t k (e :: es) (j + 1) x := by
  refine ⟨by simpa using hf.1, hf.2.1, fun i hi => ?_⟩
  cases i with
  | zero => exact ⟨e, rfl, hq⟩
  | succ i => simpa using hf.2.2 i (by omega)

theorem findNow_sound {t : TypeId} {d : TypeDesc} {k k' : Value} (hu : P.underlying t = some d) (hk : VR φ k k') : ∀ (es es' : List MapEntry) (r : Option MapEntry) (r' : Option (Nat × Value)) (i : Nat),
    ERL φ es es' → findK P t k es = some r → Instr.findNow d k' es' i = some r' → Found P t k φ es es' r r' i := by
  intro es
  induction es with
  | nil =>
    intro es' r r' i he e1 e2
    cases he
    simp [findK] at e1; subst e1
    simp [Instr.findNow] at e2; subst e2
    rfl
  | cons e es ih =>
    intro es' r r' i he e1 e2
    cases he with
    | cons h1 h2 =>
      rename_i e' es'
      unfold findK at e1
      unfold Instr.findNow at e2
      split at e1
      · rename_i hq
        cases e1
        have := eqV_sound (P := P) (w := default) eqDepth 9994 t k e.key k' e'.key true hk h1.1 hq
        split at e2
        · cases e2
          exact ⟨0, e', First.zero hq, rfl, h1, rfl⟩
        · rename_i hs
          cases sameNow_eq hu hs this
        · cases e2
      · rename_i hq
        have := eqV_sound (P := P) (w := default) eqDepth 9994 t k e.key k' e'.key false hk h1.1 hq
        split at e2
        · rename_i hs
          cases sameNow_eq hu hs this
        · have := ih es' r r' (i + 1) h2 e1 e2
          cases r with
          | none => exact this
          | some x =>
            obtain ⟨j, x', g1, g2, g3, g4⟩ := this
            exact ⟨j + 1, x', First.succ hq g1, by simpa using g2, g3, by rw [g4]; congr 2; omega⟩
        · cases e2
      · cases e1

theorem findAsking_sound {t : TypeId} {k k' : Value} (hk : VR φ k k') : ∀ (es es' : List MapEntry) (r : Option MapEntry) (i : Nat),
    ERL φ es es' → findK P t k es = some r → ∃ r', (Instr.findAsking t k' es' i).run P w = .ok r' w ∧ Found P t k φ es es' r r' i := by
  intro es
  induction es with
  | nil =>
    intro es' r i he e1
    cases he
    simp [findK] at e1; subst e1
    exact ⟨none, by simp [Instr.findAsking], rfl⟩
  | cons e es ih =>
    intro es' r i he e1
    cases he with
    | cons h1 h2 =>
      rename_i e' es'
      unfold findK at e1
      unfold Instr.findAsking
      split at e1
      · rename_i hq
        cases e1
        have : (Op.equal t k' e'.key).run P w = .ok true w := eqV_sound (P := P) (w := w) eqDepth 9994 t k e.key k' e'.key true hk h1.1 hq
        exact ⟨some (i, e'.val), by rw [run_bind_ok this]; rfl, 0, e', First.zero hq, rfl, h1, rfl⟩
      · rename_i hq
        have : (Op.equal t k' e'.key).run P w = .ok false w := eqV_sound (P := P) (w := w) eqDepth 9994 t k e.key k' e'.key false hk h1.1 hq
        obtain ⟨r', g0, g⟩ := ih es' r (i + 1) h2 e1
        refine ⟨r', by rw [run_bind_ok this]; simpa using g0, ?_⟩
        cases r with
        | none => exact g
        | some x =>
          obtain ⟨j, x', g1, g2, g3, g4⟩ := g
          exact ⟨j + 1, x', First.succ hq g1, by simpa using g2, g3, by rw [g4]; congr 2; omega⟩
      · cases e1

theorem findKey_sound {t : TypeId} {d : TypeDesc} {k k' : Value} (hu : P.underlying t = some d) (hk : VR φ k k') {es es' : List MapEntry} {r : Option MapEntry} (he : ERL φ es es') (e : findK P t k es = some r) :
    ∃ r', (Instr.findKey t k' es').run P w = .ok r' w ∧ Found P t k φ es es' r r' 0 := by
  unfold Instr.findKey
  rw [run_bind_ok (run_und hu)]
  cases hf : Instr.findNow d k' es' 0 with
  | some r' => exact ⟨r', by simp, findNow_sound hu hk es es' r r' 0 he e hf⟩
  | none => simpa using findAsking_sound (P := P) (w := w) hk es es' r 0 he e

theorem ERL.length {es es' : List MapEntry} (he : ERL φ es es') : es.length = es'.length := by
  induction he with
  | nil => rfl
  | cons _ _ ih => simp [ih]

theorem keyOk_und {n : Nat} {t : TypeId} {v : Value} (e : keyOk P n t v = true) : ∃ d, P.underlying t = some d := by
  cases n with
  | zero => simp [keyOk] at e
  | succ n =>
    unfold keyOk at e
    split at e
    · exact ⟨_, by assumption⟩
    · exact ⟨_, by assumption⟩
    · exact ⟨_, by assumption⟩
    · exact ⟨_, by assumption⟩
    · cases e

theorem lookup_sound (H : HR B φ h w) {t : TypeId} {x k x' k' v : Value} {ok : Bool} (hx : VR φ x x') (hk : VR φ k k') (e : lookupV P h t x k ok = some v) :
    ∃ v', (Instr.lookup t x' k' ok).run P w = .ok v' w ∧ VR φ v v' := by
  unfold lookupV at e
  split at e
  · rename_i kt et hu
    cases hko : keyOk P 3 kt k with
    | false => rw [hko] at e; cases e
    | true =>
      rw [hko] at e
      simp only [cond_true, Option.bind_eq_some_iff, Option.map_eq_some_iff] at e
      obtain ⟨r, hr, p, hp, rfl⟩ := e
      obtain ⟨u, b⟩ := p
      obtain ⟨dk, hdk⟩ := keyOk_und hko
      have hck : ∀ em, (Instr.checkKey em 10000 kt k').run P w = .ok () w := fun em => keyOk_sound 3 9997 kt k k' em hk hko
      have fin : ∀ (es' : Array MapEntry) (es : List MapEntry) (r' : Option (Nat × Value)), (Instr.findKey kt k' es'.toList).run P w = .ok r' w → Found P kt k φ es es'.toList r r' 0 →
          ∃ v', (do
            let (v, ok') ← match ← Instr.findKey kt k' es'.toList with
              | some (_, v) => pure (v, true)
              | none => pure (← zeroValue et, false)
            pure (if ok then Value.tuple #[v, .bool ok'] else v) : Sem Value).run P w = .ok v' w ∧ VR φ (cond ok (.tuple #[u, .bool b]) u) v' := by
        intro es' es r' hf hF
        cases r with
        | none =>
          cases hF
          simp only [Option.map_eq_some_iff] at hp
          obtain ⟨z, hz, hp⟩ := hp
          cases hp
          have hzv := zero_vr (φ := φ) hz
          refine ⟨if ok then .tuple #[u, .bool false] else u, ?_, ?_⟩
          · rw [run_bind_ok hf]
            simp [run_zero hz]
          · cases ok
            · exact hzv
            · exact .tuple (.cons hzv (.cons (.bool _) .nil))
        | some e0 =>
          obtain ⟨j, e', g1, g2, g3, g4⟩ := hF
          cases hp
          subst g4
          refine ⟨if ok then .tuple #[e'.val, .bool true] else e'.val, ?_, ?_⟩
          · rw [run_bind_ok hf]
            simp
          · cases ok
            · exact g3.2.1
            · exact .tuple (.cons g3.2.1 (.cons (.bool _) .nil))
      unfold Instr.lookup
      rw [run_bind_ok (run_und hu)]
      simp only
      split at hr
      · cases hr
        obtain rfl := hx.nilMap_inv
        obtain ⟨r', hf, hF⟩ := findKey_sound (P := P) (w := w) hdk hk (ERL.nil (φ := φ)) (r := none) (by simp [findK])
        rw [run_bind_ok (run_pure _ _)]
        rw [run_bind_ok (hck _)]
        exact fin #[] [] r' hf hF
      · rename_i m
        obtain ⟨i, hi, rfl⟩ := hx.map_inv
        split at hr
        · rename_i es clock hb
          have ho := H.obj _ _ _ hb hi
          cases ho with
          | map h1 h2 =>
            rename_i es'
            obtain ⟨r', hf, hF⟩ := findKey_sound (P := P) (w := w) hdk hk h2 hr
            have hg : (getObj i.blk).run P w = .ok (.map es' clock) w := by simp [getObj, Sem.run, h1]
            simp only [Sem.run_bind, hg, Result.andThen_ok, Sem.run_pure, hck]
            have := fin es' es r' hf hF
            simp only [Sem.run_bind] at this
            exact this
        · cases hr
      · cases hr
  · cases e

end Go.Ab
end

section
namespace Go.Ab
open Go.RowKit
variable {A : AProg} {P : Program} {B : Nat} {φ : Ren} {h h' : AHeap} {w w' : World}

theorem cells_vr {v v' : Value} (hv : VR φ v v') (hn : notAny v = true) : VRL φ (cellsL v) v'.cells.toList := by
  cases hv with
  | any => simp [notAny, any] at hn
  | anyInt => simp [notAny, anyI] at hn
  | agg h => exact h
  | bool => exact .cons (.bool _) .nil
  | int => exact .cons (.int _ _) .nil
  | string => exact .cons (.string _) .nil
  | nilPtr => exact .cons .nilPtr .nil
  | ptr e => exact .cons (.ptr e) .nil
  | nilSlice => exact .cons .nilSlice .nil
  | sliceK e => exact .cons (.sliceK e) .nil
  | sliceU e a b c d => exact .cons (.sliceU e a b c d) .nil
  | nilMap => exact .cons .nilMap .nil
  | map e => exact .cons (.map e) .nil
  | nilFunc => exact .cons .nilFunc .nil
  | nilIface => exact .cons .nilIface .nil
  | func a b c => exact .cons (.func a b c) .nil
  | iface e => exact .cons (.iface e) .nil
  | tuple e => exact .cons (.tuple e) .nil

theorem foldl_over (off : Nat) : ∀ (l : List Value) (k : Nat) (arr : Array Value), off + k + l.length ≤ arr.size →
    (l.zipIdx k).foldl (fun cs (c, j) => cs.setIfInBounds (off + j) c) arr = over arr (off + k) l := by
  intro l
  induction l with
  | nil => intro k arr _; simp [over_nil]
  | cons x l ih =>
    intro k arr hn
    simp only [List.length_cons] at hn
    simp only [List.zipIdx_cons, List.foldl_cons]
    rw [ih (k + 1) _ (by simp; omega), show off + (k + 1) = off + k + 1 by omega, over_cons (by omega)]

theorem splice_vr {off : Nat} {vs vs' c c' : List Value} {arr : Array Value} (hs : splice off vs c = some c') (hv : VRL φ vs vs') (hc : VRL φ c arr.toList) (hne : vs ≠ [] ∨ off ≤ c.length) :
    VRL φ c' (over arr off vs').toList := by
  obtain ⟨s1, s2, s3⟩ := splice_eq _ _ _ _ hs
  have hl := hv.length
  have hcl := hc.length
  simp only [Array.length_toList] at hcl
  have hfit : off + vs'.length ≤ arr.size := by
    rcases hne with hne | hne
    · have := s1 hne; omega
    · by_cases h0 : vs = []
      · subst h0; simp at hl; rw [← hl]; simp; omega
      · have := s1 h0; omega
  refine VRL.of_get ?_ ?_
  · rw [s2, hcl, ← over_size hfit, Array.length_toList]
  · intro k v e
    rw [s3] at e
    rw [Array.getElem?_toList, over_get hfit]
    by_cases k1 : k < off
    · rw [if_pos k1] at e; rw [if_pos k1, ← Array.getElem?_toList]; exact hc.get e
    · rw [if_neg k1] at e; rw [if_neg k1]
      by_cases k2 : k < off + vs.length
      · rw [if_pos k2] at e; rw [if_pos (by omega)]; exact hv.get e
      · rw [if_neg k2] at e; rw [if_neg (by omega), ← Array.getElem?_toList]; exact hc.get e

theorem fill_sound {place : Nat → Option (Nat × Nat)} {ρA ρC : Operand → Value} : ∀ (ps : List (Nat × Operand)) (c c' : List Value) (arr : Array Value), (∀ p ∈ ps, VR φ (ρA p.2) (ρC p.2)) → VRL φ c arr.toList →
    fillV place (ps.map fun (i, x) => (i, ρA x)) c = some c' → ∃ arr', Instr.fill place arr (ps.map fun (i, x) => (i, ρC x)) = some arr' ∧ VRL φ c' arr'.toList := by
  intro ps
  induction ps with
  | nil => intro c c' arr _ hc e; simp [fillV] at e; subst e; exact ⟨arr, rfl, hc⟩
  | cons p ps ih =>
    intro c c' arr hp hc e
    obtain ⟨i, x⟩ := p
    simp only [List.map_cons, fillV] at e
    simp only [List.map_cons, Instr.fill]
    cases hpl : place i with
    | none => rw [hpl] at e; cases e
    | some q =>
      obtain ⟨off, n⟩ := q
      rw [hpl] at e
      simp only at e
      cases hg : (notAny (ρA x) && Nat.beq (cellsL (ρA x)).length n && Nat.blt 0 n) with
      | false => rw [hg] at e; cases e
      | true =>
        rw [hg] at e
        simp only [cond_true, Option.bind_eq_some_iff] at e
        obtain ⟨c1, hs, e⟩ := e
        simp only [Bool.and_eq_true] at hg
        have hx : VR φ (ρA x) (ρC x) := hp (i, x) (by simp)
        have hcl := cells_vr hx hg.1.1
        have hn := Nat.eq_of_beq_eq_true hg.1.2
        have hpos : 0 < n := by simpa [Nat.blt_eq] using hg.2
        have hl := hcl.length
        simp only [Array.length_toList] at hl
        obtain ⟨s1, s2, s3⟩ := splice_eq _ _ _ _ hs
        have hcs := hc.length
        simp only [Array.length_toList] at hcs
        simp only
        have h0 : cellsL (ρA x) ≠ [] := by intro h0; rw [h0] at hn; simp at hn; omega
        have hfit := s1 h0
        rw [if_neg (by simp; omega)]
        have : (ρC x).cells.zipIdx.foldl (fun cs (c, j) => cs.setIfInBounds (off + j) c) arr = over arr off (ρC x).cells.toList := by
          have := foldl_over off (ρC x).cells.toList 0 arr (by simp; omega)
          rw [Nat.add_zero] at this
          rw [← this, ← Array.foldl_toList]
          simp
        rw [this]
        exact ih _ _ _ (fun p hp' => hp p (by simp [hp'])) (splice_vr hs hcl hc (.inl h0)) e

theorem run_places (fs : Array Field) (hs : ∀ f ∈ fs.toList, ∃ n, size? P f.type = some n) :
    (fs.mapM fun f => do pure (f.offset, ← sizeOf f.type) : Sem (Array (Nat × Nat))).run P w = .ok (fs.map fun f => (f.offset, (size? P f.type).getD 0)) w := by
  rw [Array.mapM_eq_mapM_toList]
  have : ∀ l : List Field, (∀ f ∈ l, ∃ n, size? P f.type = some n) → (l.mapM fun f => do pure (f.offset, ← sizeOf f.type) : Sem (List (Nat × Nat))).run P w = .ok (l.map fun f => (f.offset, (size? P f.type).getD 0)) w := by
    intro l
    induction l with
    | nil => intro _; rfl
    | cons f l ih =>
      intro hs
      obtain ⟨n, hn⟩ := hs f (by simp)
      simp only [List.mapM_cons, Sem.run_bind, run_size hn, Result.andThen_ok, Sem.run_pure, ih (fun g hg => hs g (by simp [hg]))]
      simp [hn]
  rw [map_eq_pure_bind, run_bind_ok (this _ hs)]
  simp only [Sem.run_pure]
  congr 1
  rw [← Array.toList_inj]
  simp


theorem build_sound {t : TypeId} {ps : List (Nat × Operand)} {ρA ρC : Operand → Value} {v : Value} (hp : ∀ p ∈ ps, VR φ (ρA p.2) (ρC p.2)) (e : buildV P t (ps.map fun (i, x) => (i, ρA x)) = some v) :
    ∃ v', (Instr.build t (ps.map fun (i, x) => (i, ρC x)).toArray).run P w = .ok v' w ∧ VR φ v v' := by
  unfold buildV at e
  simp only [Option.bind_eq_some_iff] at e
  obtain ⟨z, hz, e⟩ := e
  have hzn : notAny z = true := by
    have := (zero_inv hz).1
    cases z <;> first | rfl | (simp [constOk, constCell] at this)
  have hzc := cells_vr (zero_vr (φ := φ) hz) hzn
  split at e
  · rename_i fs hu
    cases hall : fs.toList.all (fun (f : Field) => (size? P f.type).isSome) with
    | false => rw [hall] at e; cases e
    | true =>
      rw [hall] at e
      simp only [cond_true, Option.map_eq_some_iff] at e
      obtain ⟨l, hl, rfl⟩ := e
      have hs : ∀ f ∈ fs.toList, ∃ n, size? P f.type = some n := by
        intro f hf
        have := List.all_eq_true.1 hall f hf
        exact Option.isSome_iff_exists.1 this
      have hpl : ∀ i : Nat, ((fs.toList[i]?).bind fun (f : Field) => (size? P f.type).map fun n => (f.offset, n)) = (fs.map fun (f : Field) => (f.offset, (size? P f.type).getD 0))[i]? := by
        intro i
        rw [Array.getElem?_map, ← Array.getElem?_toList]
        cases hg : fs.toList[i]? with
        | none => rfl
        | some f =>
          obtain ⟨n, hn⟩ := hs f (List.mem_of_getElem? hg)
          simp [hn]
      have hpl' : (fun (i : Nat) => (fs.toList[i]?).bind fun (f : Field) => (size? P f.type).map fun n => (f.offset, n)) = fun (i : Nat) => (fs.map fun (f : Field) => (f.offset, (size? P f.type).getD 0))[i]? := funext hpl
      rw [hpl'] at hl
      obtain ⟨arr', e', hv⟩ := fill_sound ps _ _ z.cells hp hzc hl
      refine ⟨.agg arr', ?_, .agg (by simpa using hv)⟩
      unfold Instr.build
      rw [run_bind_ok (run_zero hz), run_bind_ok (run_und hu)]
      simp only
      rw [run_bind_ok (run_places fs hs)]
      simp only [e']
      rfl
  · rename_i n el hu
    simp only [Option.bind_eq_some_iff, Option.map_eq_some_iff] at e
    obtain ⟨sz, hs, l, hl, rfl⟩ := e
    obtain ⟨arr', e', hv⟩ := fill_sound ps _ _ z.cells hp hzc hl
    refine ⟨.agg arr', ?_, .agg (by simpa using hv)⟩
    unfold Instr.build
    rw [run_bind_ok (run_zero hz), run_bind_ok (run_und hu)]
    simp only
    rw [run_bind_ok (run_size hs)]
    simp only [e']
    rfl
  · cases e

theorem run_getObj {b : Nat} {es : Array MapEntry} {c : Nat} (e : w.heap[b]? = some (.map es c)) : (getObj b).run P w = .ok (.map es c) w := by simp [getObj, Sem.run, e]

theorem len_sound (H : HR B φ h w) {ts : Array TypeId} {ty : TypeId} {args : List Operand} {ρA ρC : Operand → Value} {v : Value} (hp : ∀ x ∈ args, VR φ (ρA x) (ρC x))
    (e : lenV P h ts.toList (args.map ρA) = some v) : (Builtin.len_ ts ty (args.map ρC).toArray).run P w = .ok v w ∧ VR φ v v := by
  unfold lenV at e
  split at e
  · rename_i t tl x xl ht hx
    have ht0 : ts[0]? = some t := by rw [← Array.getElem?_toList, ht]; rfl
    cases args with
    | nil => simp at hx
    | cons y ys =>
      simp only [List.map_cons, List.cons.injEq] at hx
      obtain ⟨rfl, rfl⟩ := hx
      have hy := hp y (by simp)
      have ha0 : (((y :: ys).map ρC).toArray)[0]? = some (ρC y) := by simp
      unfold Builtin.len_
      rw [ht0, ha0]
      simp only
      generalize ρA y = xA at hy e
      generalize ρC y = xC at hy
      split at e
      · rename_i s hu; cases e; obtain rfl := hy.str_inv
        rw [run_bind_ok (run_und hu)]; exact ⟨by simp [goInt, bl], .int _ _⟩
      · rename_i n _ hu; cases e
        rw [run_bind_ok (run_und hu)]; exact ⟨by simp [goInt], .int _ _⟩
      · rename_i _ a n c hu; cases e
        refine ⟨?_, .int _ _⟩
        rw [run_bind_ok (run_und hu)]
        cases a with
        | none => obtain ⟨rfl, _, rfl⟩ := hy.nilSlice_inv; simp [goInt]
        | some a => obtain ⟨i, o', c', _, _, rfl, _⟩ := hy.slice_inv; simp [goInt]
      · rename_i hu; cases e; obtain rfl := hy.nilMap_inv
        rw [run_bind_ok (run_und hu)]; exact ⟨by simp [goInt], .int _ _⟩
      · rename_i r hu
        obtain ⟨i, hi, rfl⟩ := hy.map_inv
        split at e
        · rename_i es clock hb
          cases e
          have ho := H.obj _ _ _ hb hi
          cases ho with
          | map h1 h2 =>
            rw [run_bind_ok (run_und hu)]
            simp only
            rw [run_bind_ok (run_getObj h1)]
            exact ⟨by simp [goInt, h2.length], .int _ _⟩
        · cases e
      · rename_i arr _ hu
        split at e
        · rename_i n el hu2
          cases e
          refine ⟨?_, .int _ _⟩
          rw [run_bind_ok (run_und hu)]
          simp only
          rw [run_bind_ok (run_und hu2)]
          rfl
        · cases e
      · cases e
  · cases e

end Go.Ab
end

section
namespace Go.Ab
open Go.RowKit
variable {A : AProg} {P : Program} {B : Nat} {φ : Ren} {h h' : AHeap} {w w' : World}

theorem cap_sound {ts : Array TypeId} {ty : TypeId} {args : List Operand} {ρA ρC : Operand → Value} {v : Value} (hp : ∀ x ∈ args, VR φ (ρA x) (ρC x))
    (e : capV P ts.toList (args.map ρA) = some v) : (Builtin.cap_ ts ty (args.map ρC).toArray).run P w = .ok v w ∧ VR φ v v := by
  unfold capV at e
  split at e
  · rename_i t tl x xl ht hx
    have ht0 : ts[0]? = some t := by rw [← Array.getElem?_toList, ht]; rfl
    cases args with
    | nil => simp at hx
    | cons y ys =>
      simp only [List.map_cons, List.cons.injEq] at hx
      obtain ⟨rfl, rfl⟩ := hx
      have hy := hp y (by simp)
      have ha0 : (((y :: ys).map ρC).toArray)[0]? = some (ρC y) := by simp
      unfold Builtin.cap_
      rw [ht0, ha0]
      simp only
      generalize ρA y = xA at hy e
      generalize ρC y = xC at hy
      split at e
      · rename_i el a n c hu
        simp only [Option.map_eq_some_iff] at e
        obtain ⟨c0, hk, rfl⟩ := e
        have hc : c = 2 * c0 := by
          unfold knownCap at hk
          cases hb : Nat.beq (c % 2) 0 with
          | false => rw [hb] at hk; cases hk
          | true => rw [hb] at hk; cases hk; have := Nat.eq_of_beq_eq_true hb; omega
        subst hc
        refine ⟨?_, .int _ _⟩
        rw [run_bind_ok (run_und hu)]
        cases a with
        | none => obtain ⟨_, h0, rfl⟩ := hy.nilSlice_inv; have : c0 = 0 := by omega
                  subst this; simp [goInt]
        | some a =>
          obtain ⟨i, o', c', _, _, rfl, hcase⟩ := hy.slice_inv
          rcases hcase with ⟨h1, _⟩ | ⟨lb, h1, _⟩
          · have : c' = c0 := by omega
            subst this; simp [goInt]
          · omega
      · rename_i n el _ hu
        cases e
        rw [run_bind_ok (run_und hu)]; exact ⟨by simp [goInt], .int _ _⟩
      · cases e
  · cases e

theorem minmax_sound {b : Bool} {ts : Array TypeId} {ty : TypeId} {args : List Operand} {ρA ρC : Operand → Value} {v : Value} (hp : ∀ x ∈ args, VR φ (ρA x) (ρC x))
    (e : minmaxV b (args.map ρA) = some v) : ((if b then Builtin.max_ else Builtin.min_) ts ty (args.map ρC).toArray).run P w = .ok v w ∧ VR φ v v := by
  unfold minmaxV at e
  split at e
  · rename_i k a k' c hx
    rcases args with _ | ⟨x, _ | ⟨y, _ | ⟨z, l⟩⟩⟩ <;> simp at hx
    have h1 := hp x (by simp); have h2 := hp y (by simp)
    rw [hx.1] at h1; rw [hx.2] at h2
    have e1 := h1.int_inv; have e2 := h2.int_inv
    cases e
    refine ⟨?_, .int _ _⟩
    cases b
    · simp only [Bool.false_eq_true, if_false, cond_false, List.map_cons, List.map_nil, e1, e2, Builtin.min_, List.foldlM, Builtin.min2, ilt_eq]
      by_cases hlt : c < a <;> simp [hlt]
    · simp only [if_true, cond_true, List.map_cons, List.map_nil, e1, e2, Builtin.max_, List.foldlM, Builtin.max2, ilt_eq]
      by_cases hlt : a < c <;> simp [hlt]
  · cases e

theorem run_v {s : Sem Value} {v : Value} (e : s.run P w = .ok v w') : (do pure (Next.value (← s)) : Sem Next).run P w = .ok (.value v) w' := by
  rw [run_bind_ok e]; rfl

theorem binV_notAny {op : BinOp} {t : TypeId} {x y v : Value} (e : binV P op t x y = some v) : notAny x = true ∧ notAny y = true := by
  unfold binV at e
  split at e
  · exact ⟨rfl, rfl⟩
  · exact ⟨rfl, rfl⟩
  · have key : ∀ b, eqV P eqDepth t x y = some b → notAny x = true ∧ notAny y = true := by
      intro b eb
      obtain ⟨_, s2, _, s4⟩ := eqV_shape eb
      constructor
      · cases x <;> first | rfl | exact absurd rfl (s2 _ _ _)
      · cases y <;> first | rfl | exact absurd rfl (s4 _ _ _)
    split at e
    · simp only [Option.map_eq_some_iff] at e
      obtain ⟨b, eb, _⟩ := e
      exact key b eb
    · simp only [Option.map_eq_some_iff] at e
      obtain ⟨b, eb, _⟩ := e
      exact key b eb
    · cases e

theorem guard_sound {op : BinOp} {t : TypeId} {x y : Operand} {a b a' b' : Value} (ha : VR φ a a') (hb : VR φ b b') (hg : guardOk P op t x y a b = true) (na : notAny a = true) (nb : notAny b = true) :
    (eqGuard op t x y a' b').run P w = .ok () w := by
  have key : (op = .eql ∨ op = .neq) → (eqGuard op t x y a' b').run P w = .ok () w := by
    intro hop
    have hg' : guardIn P t x y a b = true := by rcases hop with rfl | rfl <;> exact hg
    unfold guardIn at hg'
    cases ha with
    | any => simp [notAny, any] at na
    | nilIface =>
      cases hb with
      | any => simp [notAny, any] at nb
      | nilIface =>
        simp only at hg'
        rcases hop with rfl | rfl <;> cases x <;> cases y <;> first | (simp [isC] at hg'; done) | rfl
      | _ => rcases hop with rfl | rfl <;> rfl
    | agg =>
      cases hb with
      | any => simp [notAny, any] at nb
      | agg =>
        simp only at hg'
        have : P.eqGuardType P.depth t = false := by simpa using hg'
        rcases hop with rfl | rfl <;> simp [eqGuard, this]
      | _ => rcases hop with rfl | rfl <;> rfl
    | _ => rcases hop with rfl | rfl <;> rfl
  cases op <;> first | rfl | exact key (.inl rfl) | exact key (.inr rfl)

theorem quiet_sound (H : HR B φ h w) {o : Oper} {ty : TypeId} {ρA ρC : Operand → Value} {v : Value} (hρ : ∀ x ∈ o.op.operands.toList, VR φ (ρA x) (ρC x))
    (e : quietV A ρA h o.op ty = some v) : ∃ v', (execOp ρC o).run A.P w = .ok (.value v') w ∧ VR φ v v' := by
  obtain ⟨dst, op, type, pos, after, guard⟩ := o
  simp only at hρ e
  unfold quietV at e
  split at e
  · -- move
    rename_i x
    cases e
    exact ⟨ρC x, rfl, hρ x (by simp [Op.operands])⟩
  · -- pick
    rename_i c a b
    split at e
    · rename_i bb hb
      have hc := hρ c (by simp [Op.operands])
      rw [hb] at hc
      have := hc.bool_inv
      cases e
      refine ⟨if bb then ρC a else ρC b, ?_, ?_⟩
      · simp only [execOp, this, asBool]
        rw [run_bind_ok (run_pure _ _)]; rfl
      · cases bb
        · exact hρ b (by simp [Op.operands])
        · exact hρ a (by simp [Op.operands])
    · cases e
  · -- build
    rename_i t ps
    have hp : ∀ p ∈ ps.toList, VR φ (ρA p.2) (ρC p.2) := fun p hp => hρ p.2 (by simp only [Op.operands, List.mem_map]; exact ⟨p, hp, rfl⟩)
    obtain ⟨v', e', hv⟩ := build_sound (P := A.P) (w := w) hp e
    refine ⟨v', ?_, hv⟩
    simp only [execOp]
    refine run_v ?_
    rw [← e']
    congr 2
    rw [← Array.toList_inj]; simp
  · -- load
    rename_i t x
    split at e
    · rename_i a ha
      have hx := hρ x (by simp [Op.operands])
      rw [ha] at hx
      obtain ⟨i, hi, _, hx⟩ := hx.ptr_inv
      obtain ⟨v', e', hv⟩ := loadV_sound (P := A.P) H hi e
      refine ⟨v', ?_, hv⟩
      simp only [execOp, hx, Instr.loadAt, Instr.sureAddr]
      refine run_v ?_
      rw [run_bind_ok (run_pure _ _)]
      exact e'
    · cases e
  · -- nilCheck
    rename_i x
    have hx := hρ x (by simp [Op.operands])
    cases hn : notAny (ρA x) with
    | false => rw [hn] at e; cases e
    | true =>
      rw [hn] at e
      simp only [cond_true] at e
      obtain ⟨rfl, h2⟩ := nilChk_sound (P := A.P) (w := w) hx e (fun k a c hh => by rw [hh] at hn; simp [notAny] at hn)
      exact ⟨ρC x, h2 _ ρC x rfl rfl, hx⟩
  · -- binOp
    rename_i op t x y _
    have hx := hρ x (by simp [Op.operands])
    have hy := hρ y (by simp [Op.operands])
    cases hg : guardOk A.P op t x y (ρA x) (ρA y) with
    | false => rw [hg] at e; cases e
    | true =>
      rw [hg] at e
      simp only [cond_true] at e
      obtain ⟨e', hv⟩ := binV_sound (P := A.P) (w := w) hx hy e
      refine ⟨v, run_v ?_, hv⟩
      rw [run_bind_ok (guard_sound hx hy hg (binV_notAny e).1 (binV_notAny e).2)]
      exact e'
  · -- unOp
    rename_i op _ x
    obtain ⟨e', hv⟩ := unV_sound (P := A.P) (w := w) (hρ x (by simp [Op.operands])) e
    exact ⟨v, run_v e', hv⟩
  · -- makeInterface
    rename_i t x
    split at e
    · cases e
    · rename_i d hd hu
      cases e
      refine ⟨.iface t (ρC x), ?_, .iface (hρ x (by simp [Op.operands]))⟩
      simp only [execOp, Instr.makeInterface]
      refine run_v ?_
      rw [run_bind_ok (run_und hu)]
      cases d <;> first | rfl | (rename_i ms; exact absurd rfl (hd ms))
    · cases e
  · -- makeFunc
    rename_i fn fs cs
    have hl : ∀ (l : List Operand), (∀ x ∈ l, VR φ (ρA x) (ρC x)) → VRL φ (l.map ρA) (l.map ρC) := by
      intro l
      induction l with
      | nil => intro _; exact .nil
      | cons x l ih => intro h; exact .cons (h x (by simp)) (ih fun y hy => h y (by simp [hy]))
    split at e
    · rename_i f
      cases e
      refine ⟨.func (.func f) (fs.map ρC) (cs.map ρC), rfl, .func (.func f) ?_ ?_⟩
      · simpa using hl fs.toList fun x hx => hρ x (by simp only [Op.operands, Array.toList_append, List.mem_append]; exact .inl hx)
      · simpa using hl cs.toList fun x hx => hρ x (by simp only [Op.operands, Array.toList_append, List.mem_append]; exact .inr hx)
    · cases e
  · -- slice
    rename_i t x lo hi mx
    have g : ∀ {o : Option Operand} (y : Operand), o = some y → (∀ z ∈ o.toArray.toList, VR φ (ρA z) (ρC z)) → VR φ (ρA y) (ρC y) := by
      intro o y ho hz; subst ho; exact hz y (by simp)
    have hall := hρ
    simp only [Op.operands, Array.toList_append, List.mem_append] at hall
    obtain ⟨v', e', hv⟩ := sliceV_sound (P := A.P) H (hall x (by simp)) (fun y hy => hall y (by subst hy; simp)) (fun y hy => hall y (by subst hy; simp)) (fun y hy => hall y (by subst hy; simp)) e
    exact ⟨v', run_v e', hv⟩
  · -- fieldAddr
    rename_i s x f
    obtain ⟨v', e', hv⟩ := fieldAddr_sound (P := A.P) (w := w) (hρ x (by simp [Op.operands])) e
    exact ⟨v', run_v e', hv⟩
  · -- field
    rename_i t x f
    obtain ⟨v', e', hv⟩ := field_sound (P := A.P) (w := w) (hρ x (by simp [Op.operands])) e
    exact ⟨v', run_v e', hv⟩
  · -- indexAddr
    rename_i t x i
    obtain ⟨v', e', hv⟩ := indexAddr_sound (P := A.P) (w := w) (hρ x (by simp [Op.operands])) (hρ i (by simp [Op.operands])) e
    exact ⟨v', run_v e', hv⟩
  · -- index
    rename_i t x i
    obtain ⟨v', e', hv⟩ := index_sound (P := A.P) (w := w) (hρ x (by simp [Op.operands])) (hρ i (by simp [Op.operands])) e
    exact ⟨v', run_v e', hv⟩
  · -- lookup
    rename_i t x k ok
    obtain ⟨v', e', hv⟩ := lookup_sound (P := A.P) H (hρ x (by simp [Op.operands])) (hρ k (by simp [Op.operands])) e
    exact ⟨v', run_v e', hv⟩
  · -- extract
    rename_i t i
    obtain ⟨v', e', hv⟩ := extract_sound (P := A.P) (w := w) (hρ t (by simp [Op.operands])) e
    exact ⟨v', run_v e', hv⟩
  · -- len
    rename_i args ts
    have hp : ∀ x ∈ args.toList, VR φ (ρA x) (ρC x) := fun x hx => hρ x (by simpa [Op.operands, Call.operands] using hx)
    obtain ⟨e', hv⟩ := len_sound (P := A.P) (ty := type) H hp e
    refine ⟨v, ?_, hv⟩
    simp only [execOp, resolve]
    rw [run_bind_ok (run_pure _ _)]
    simp only [invoke, builtin]
    refine run_v ?_
    rw [← e']; congr 2; rw [← Array.toList_inj]; simp
  · -- cap
    rename_i args ts
    have hp : ∀ x ∈ args.toList, VR φ (ρA x) (ρC x) := fun x hx => hρ x (by simpa [Op.operands, Call.operands] using hx)
    obtain ⟨e', hv⟩ := cap_sound (P := A.P) (w := w) (ty := type) hp e
    refine ⟨v, ?_, hv⟩
    simp only [execOp, resolve]
    rw [run_bind_ok (run_pure _ _)]
    simp only [invoke, builtin]
    refine run_v ?_
    rw [← e']; congr 2; rw [← Array.toList_inj]; simp
  · -- min
    rename_i args ts
    have hp : ∀ x ∈ args.toList, VR φ (ρA x) (ρC x) := fun x hx => hρ x (by simpa [Op.operands, Call.operands] using hx)
    obtain ⟨e', hv⟩ := minmax_sound (P := A.P) (w := w) (ts := ts) (ty := type) hp e
    refine ⟨v, ?_, hv⟩
    simp only [execOp, resolve]
    rw [run_bind_ok (run_pure _ _)]
    simp only [invoke, builtin]
    refine run_v ?_
    rw [← e']; simp only [Bool.false_eq_true, if_false]; congr 2; rw [← Array.toList_inj]; simp
  · -- max
    rename_i args ts
    have hp : ∀ x ∈ args.toList, VR φ (ρA x) (ρC x) := fun x hx => hρ x (by simpa [Op.operands, Call.operands] using hx)
    obtain ⟨e', hv⟩ := minmax_sound (P := A.P) (w := w) (ts := ts) (ty := type) hp e
    refine ⟨v, ?_, hv⟩
    simp only [execOp, resolve]
    rw [run_bind_ok (run_pure _ _)]
    simp only [invoke, builtin]
    refine run_v ?_
    rw [← e']; simp only [if_true]; congr 2; rw [← Array.toList_inj]; simp
  · cases e

end Go.Ab
end

section
namespace Go.Ab
open Go.RowKit
variable {A : AProg} {P : Program} {B : Nat} {φ : Ren} {h h' : AHeap} {w w' : World}

theorem rep_zero (z : List Value) : rep 0 z = [] := rfl
theorem rep_succ (n : Nat) (z : List Value) : rep (n + 1) z = z ++ rep n z := rfl
theorem rep_length (n : Nat) (z : List Value) : (rep n z).length = n * z.length := by
  induction n with
  | zero => simp [rep_zero]
  | succ n ih => rw [rep_succ, List.length_append, ih, Nat.add_mul]; omega

theorem rep_get (n : Nat) (z : List Value) (k : Nat) : (rep n z)[k]? = if k < n * z.length then z[k % z.length]? else none := by
  induction n generalizing k with
  | zero => simp [rep_zero]
  | succ n ih =>
    rw [rep_succ]
    by_cases h1 : k < z.length
    · rw [List.getElem?_append_left h1, if_pos (by rw [Nat.add_mul]; omega), Nat.mod_eq_of_lt h1]
    · rw [List.getElem?_append_right (by omega), ih]
      rw [show (n + 1) * z.length = n * z.length + z.length by rw [Nat.add_mul]; omega]
      by_cases h2 : k - z.length < n * z.length
      · rw [if_pos h2, if_pos (by omega), ← Nat.mod_eq_sub_mod (by omega)]
      · rw [if_neg h2, if_neg (by omega)]

theorem VRL.rep {z z' : List Value} (hz : VRL φ z z') (n : Nat) : VRL φ (Ab.rep n z) (Ab.rep n z') := by
  induction n with
  | zero => exact .nil
  | succ n ih => exact hz.append ih

theorem range_rep (c : Nat) (z : Array Value) : ((Array.range (c * z.size)).map (z[· % z.size]!)).toList = rep c z.toList := by
  apply List.ext_getElem?
  intro k
  rw [rep_get]
  simp only [Array.toList_map, Array.toList_range, List.getElem?_map, Array.length_toList]
  by_cases hk : k < c * z.size
  · rw [if_pos hk, List.getElem?_range hk]
    have hpos : 0 < z.size := by
      rcases Nat.eq_zero_or_pos z.size with h0 | h0
      · rw [h0] at hk; simp at hk
      · exact h0
    have := Nat.mod_lt k hpos
    simp [getElem!_pos z (k % z.size) this]
  · rw [if_neg hk]
    simp; omega

theorem run_newObj (o : Obj) : (newObj o).run P w = .ok w.heap.size { w with heap := w.heap.push o } := rfl

theorem noFrozen0 (n : Nat) : NoFrozen (0, 0) n := fun _k _ h => Nat.not_lt_zero _ h.2

/-- a row of cells that has just been made -/
theorem OR.row {ψ : Ren} {c : List Value} {arr : Array Value} {e : TypeId} {s : Nat} {x : Bool} (hc : VRL ψ c arr.toList) :
    OR ψ { w with heap := w.heap.push (.cells arr e) } ⟨w.heap.size, 0, arr.size, s⟩ (.cells c e s false x) := by
  have hl := hc.length
  simp only [Array.length_toList] at hl
  refine .cells (arr := arr) (fr := (0, 0)) (by simp) rfl rfl (by simp; omega) ?_ (fun _ => noFrozen0 _) (fun _ => ⟨rfl, hl.symm⟩)
  intro k v e
  obtain ⟨v', e', hv⟩ := hc.get e
  exact ⟨v', by simpa using e', hv⟩

theorem run_newRow (e : TypeId) (arr : Array Value) : (newRow e arr).run P w = .ok ⟨w.heap.size, 0, none⟩ { w with heap := w.heap.push (.cells arr e) } := rfl

theorem fresh_core {o : Oper} {ρA ρC : Operand → Value} {obj : AObj} {f : Nat → Value} (hρ : ∀ x ∈ o.op.operands.toList, VR φ (ρA x) (ρC x)) (e : freshV A ρA o.op = some (obj, f)) :
    ∃ O i v', i.blk = w.heap.size ∧ (execOp ρC o).run A.P w = .ok (.value v') { w with heap := w.heap.push O } ∧
      ∀ (ψ : Ren) (b : Nat), φ.le ψ → ψ b = some i → OR ψ { w with heap := w.heap.push O } i obj ∧ VR ψ (f b) v' := by
  obtain ⟨dst, op, type, pos, after, guard⟩ := o
  simp only at hρ e
  unfold freshV at e
  split at e
  · -- alloc
    rename_i t
    simp only [Option.map_eq_some_iff] at e
    obtain ⟨z, hz, e⟩ := e
    cases e
    have hzn : notAny z = true := by
      have := (zero_inv hz).1
      cases z <;> first | rfl | (simp [constOk, constCell] at this)
    refine ⟨.cells z.cells t, ⟨w.heap.size, 0, z.cells.size, (cellsL z).length⟩, .pointer (some ⟨w.heap.size, 0, none⟩), rfl, ?_, ?_⟩
    · simp only [execOp]
      refine run_v ?_
      unfold Instr.alloc
      rw [run_bind_ok (run_zero hz)]
      simp only [newVar]
      rw [run_bind_ok (run_newRow _ _)]; rfl
    · intro ψ b hle hb
      refine ⟨OR.row (cells_vr (zero_vr hz) hzn), ?_⟩
      have := VR.ptr (φ := ψ) (o := 0) hb
      simpa using this
  · -- box
    rename_i t x
    have hx := hρ x (by simp [Op.operands])
    cases hn : notAny (ρA x) with
    | false => rw [hn] at e; cases e
    | true =>
      rw [hn] at e
      cases e
      refine ⟨.cells (ρC x).cells t, ⟨w.heap.size, 0, (ρC x).cells.size, (cellsL (ρA x)).length⟩, .pointer (some ⟨w.heap.size, 0, none⟩), rfl, ?_, ?_⟩
      · simp only [execOp]
        refine run_v ?_
        unfold Instr.box newVar
        rw [run_bind_ok (run_newRow _ _)]; rfl
      · intro ψ b hle hb
        refine ⟨OR.row (cells_vr (hx.mono hle) hn), ?_⟩
        have := VR.ptr (φ := ψ) (o := 0) hb
        simpa using this
  · -- buildSlice
    rename_i t len ps
    split at e
    · rename_i el hu
      simp only [Option.bind_eq_some_iff] at e
      obtain ⟨sz, hs, z, hz, e⟩ := e
      cases hg : (Nat.blt (len * sz) 65536 && Nat.blt 0 sz && Nat.beq (cellsL z).length sz) with
      | false => rw [hg] at e; cases e
      | true =>
        rw [hg] at e
        simp only [cond_true, Option.map_eq_some_iff] at e
        obtain ⟨c, hc, e⟩ := e
        cases e
        simp only [Bool.and_eq_true, Nat.blt_eq] at hg
        obtain ⟨⟨g1, g2⟩, g3⟩ := hg
        have g3 := Nat.eq_of_beq_eq_true g3
        have hzn : notAny z = true := by
          have := (zero_inv hz).1
          cases z <;> first | rfl | (simp [constOk, constCell] at this)
        have hzc := cells_vr (zero_vr (φ := φ) hz) hzn
        have hzl := hzc.length
        simp only [Array.length_toList] at hzl
        have hp : ∀ p ∈ ps.toList, VR φ (ρA p.2) (ρC p.2) := fun p hp => hρ p.2 (by simp only [Op.operands, List.mem_map]; exact ⟨p, hp, rfl⟩)
        have hbase : VRL φ (rep len (cellsL z)) ((Array.range (len * sz)).map (z.cells[· % z.cells.size]!)).toList := by
          have hsz : sz = z.cells.size := by omega
          rw [hsz, range_rep]
          exact hzc.rep len
        obtain ⟨arr', e', hv⟩ := fill_sound ps.toList _ _ _ hp hbase hc
        refine ⟨.cells arr' el, ⟨w.heap.size, 0, arr'.size, sz⟩, .slice (some ⟨w.heap.size, 0, none⟩) len len, rfl, ?_, ?_⟩
        · simp only [execOp]
          refine run_v ?_
          unfold Instr.buildSlice
          rw [run_bind_ok (run_und hu)]
          simp only
          rw [run_bind_ok (run_size hs)]
          rw [if_neg (by omega)]
          by_cases h0 : len * sz = 0
          · simp only [h0, if_true]
            rw [run_bind_ok (run_pure _ _)]
            have hl0 : len = 0 := by rcases Nat.mul_eq_zero.1 h0 with h | h <;> omega
            have he : ((Array.range 0).map ((#[] : Array Value)[· % (#[] : Array Value).size]!)) = (Array.range (len * sz)).map (z.cells[· % z.cells.size]!) := by
              rw [h0]; exact Array.ext (by simp) (by intro i h1 h2; simp at h1)
            rw [he]
            have e'' : Instr.fill (fun i => some (i * sz, sz)) ((Array.range (len * sz)).map (z.cells[· % z.cells.size]!)) (ps.map fun (i, x) => (i, ρC x)).toList = some arr' := by
              rw [← e']; congr 1; simp
            simp only [e'']
            rw [run_bind_ok (run_newRow _ _)]; rfl
          · rw [if_neg h0]
            rw [run_bind_ok (run_zero hz), run_bind_ok (run_pure _ _)]
            have e'' : Instr.fill (fun i => some (i * sz, sz)) ((Array.range (len * sz)).map (z.cells[· % z.cells.size]!)) (ps.map fun (i, x) => (i, ρC x)).toList = some arr' := by
              rw [← e']; congr 1; simp
            simp only [e'']
            rw [run_bind_ok (run_newRow _ _)]; rfl
        · intro ψ b hle hb
          refine ⟨OR.row (hv.mono hle), ?_⟩
          have := VR.sliceK (φ := ψ) (o := 0) (n := len) (c := len) hb
          simpa using this
    · cases e
  · -- makeSlice
    rename_i t l c
    have hl := hρ l (by simp [Op.operands])
    have hc := hρ c (by simp [Op.operands])
    split at e
    · rename_i el kl ln kc cn hu el' ec'
      rw [el'] at hl; rw [ec'] at hc
      have hl := hl.int_inv; have hc := hc.int_inv
      simp only [Option.bind_eq_some_iff] at e
      obtain ⟨sz, hs, z, hz, e⟩ := e
      cases hg : (Nat.ble ln cn && Nat.blt cn 65536 && Nat.blt (A.P.bytesOf el) 65536 && Nat.blt 0 sz && Nat.beq (cellsL z).length sz) with
      | false => rw [hg] at e; cases e
      | true =>
        rw [hg] at e
        cases e
        simp only [Bool.and_eq_true, Nat.blt_eq] at hg
        obtain ⟨⟨⟨⟨g1, g2⟩, g3⟩, g4⟩, g5⟩ := hg
        have g1 := Nat.le_of_ble_eq_true g1
        have g5 := Nat.eq_of_beq_eq_true g5
        have hzn : notAny z = true := by
          have := (zero_inv hz).1
          cases z <;> first | rfl | (simp [constOk, constCell] at this)
        have hzc := cells_vr (zero_vr (φ := φ) hz) hzn
        have hzl := hzc.length
        simp only [Array.length_toList] at hzl
        obtain ⟨inf, hinf, hinfs⟩ := info_of_size hs
        have hbytes : inf.bytes < 65536 := by
          have : A.P.bytesOf el = inf.bytes := by unfold Program.bytesOf; rw [hinf]; rfl
          omega
        have hsz : sz = z.cells.size := by omega
        refine ⟨.cells ((Array.range (cn * sz)).map (z.cells[· % z.cells.size]!)) el, ⟨w.heap.size, 0, ((Array.range (cn * sz)).map (z.cells[· % z.cells.size]!)).size, sz⟩,
          .slice (some ⟨w.heap.size, 0, none⟩) ln cn, rfl, ?_, ?_⟩
        · simp only [execOp, hl, hc]
          refine run_v ?_
          unfold Instr.makeSlice
          rw [run_bind_ok (run_und hu)]
          simp only [asInt]
          have hmul : inf.bytes * cn ≤ 4294967296 := Nat.le_trans (Nat.mul_le_mul (Nat.le_of_lt hbytes) (Nat.le_of_lt g2)) (by decide)
          have w1 : IntKind.i64.wrap (ln : Int) = ln := wrap_nat (k := .i64) (Nat.lt_of_lt_of_le (show ln < 65536 by omega) (by decide)) (fun _ => Nat.lt_of_lt_of_le (show ln < 65536 by omega) (by decide))
          have w2 : IntKind.i64.wrap (cn : Int) = cn := wrap_nat (k := .i64) (Nat.lt_of_lt_of_le (show cn < 65536 by omega) (by decide)) (fun _ => Nat.lt_of_lt_of_le (show cn < 65536 by omega) (by decide))
          have hmul2 : (inf.bytes : Int) * (cn : Int) ≤ 4294967296 := by rw [← Int.natCast_mul]; omega
          rw [run_bind_ok (show (do pure (← asIntOf (.int kl (Int.ofNat ln))).2 : Sem Int).run A.P w = .ok (ln : Int) w from rfl)]
          rw [run_bind_ok (show (do pure (← asIntOf (.int kc (Int.ofNat cn))).2 : Sem Int).run A.P w = .ok (cn : Int) w from rfl)]
          rw [run_bind_ok (run_info hinf)]
          simp only [w1, w2]
          have hcond : (decide ((cn : Int) < 0) || decide ((inf.bytes : Int) * (cn : Int) > 2 ^ 48) || decide ((ln : Int) < 0) || decide ((ln : Int) > (cn : Int))) = false := by
            simp only [Bool.or_eq_false_iff, decide_eq_false_iff_not]
            refine ⟨⟨⟨by omega, by omega⟩, by omega⟩, by omega⟩
          rw [hcond]
          simp only [Bool.false_eq_true, if_false, Int.toNat_natCast]
          have hroom : (askRoom (cn * inf.bytes)).run A.P w = .ok () w := by
            unfold askRoom roomBytes
            rw [if_neg (by rw [Nat.mul_comm]; omega)]; rfl
          rw [run_bind_ok hroom, run_bind_ok (run_size hs)]
          by_cases h0 : cn * sz = 0
          · rw [if_pos h0, run_bind_ok (run_pure _ _)]
            have he : ((Array.range (cn * sz)).map ((#[] : Array Value)[· % (#[] : Array Value).size]!)) = (Array.range (cn * sz)).map (z.cells[· % z.cells.size]!) := by
              rw [h0]; exact Array.ext (by simp) (by intro i h1 h2; simp at h1)
            rw [he, run_bind_ok (run_newRow _ _)]; rfl
          · rw [if_neg h0, run_bind_ok (run_zero hz), run_bind_ok (run_pure _ _), run_bind_ok (run_newRow _ _)]; rfl
        · intro ψ b hle hb
          refine ⟨OR.row ?_, ?_⟩
          · rw [hsz, range_rep]; exact (hzc.mono hle).rep cn
          · have := VR.sliceK (φ := ψ) (o := 0) (n := ln) (c := cn) hb
            simpa using this
    · cases e
  · -- makeMap
    rename_i t
    cases e
    refine ⟨.map #[] 0, ⟨w.heap.size, 0, 0, 0⟩, .map (some w.heap.size), rfl, ?_, ?_⟩
    · simp only [execOp]
      refine run_v ?_
      unfold Instr.makeMap
      simp only [Option.map_none]
      rfl
    · intro ψ b hle hb
      exact ⟨.map (es' := #[]) (by simp) .nil, .map hb⟩
  · cases e

end Go.Ab
end

section
namespace Go.Ab
open Go.RowKit
variable {A : AProg} {P : Program} {B : Nat} {φ : Ren} {h h' : AHeap} {w w' : World}

/-- what an operation that may write does: its value, and how heap and world stand behind it -/
structure Did (B : Nat) (φ : Ren) (h h' : AHeap) (w : World) (v : Value) (v' : Value) (w' : World) (ψ : Ren) : Prop where
  hr : HR B ψ h' w'
  le : φ.le ψ
  old : ∀ b, b < h.next → ψ b = φ b
  val : VR ψ v v'
  below : Below B w w'
  next : h.next ≤ h'.next
  bnd : h'.next ≤ bound

theorem new_bound {o : AObj} {b : Nat} (e : h.new o = some (b, h')) : h'.next ≤ bound := by
  obtain ⟨_, h1, h2, _⟩ := AHeap.new_eq e; omega

theorem Did.push (H : HR B φ h w) {o : AObj} {b : Nat} {O : Obj} {i : Info} {f : Nat → Value} {v' : Value} (hnew : h.new o = some (b, h')) (hB : B ≤ w.heap.size) (hib : i.blk = w.heap.size)
    (ho : ∀ (ψ : Ren), φ.le ψ → ψ b = some i → OR ψ { w with heap := w.heap.push O } i o ∧ VR ψ (f b) v') :
    Did B φ h h' w (f b) v' { w with heap := w.heap.push O } (φ.add b i) := by
  obtain ⟨hb, hlt, hnx, _⟩ := AHeap.new_eq hnew
  have hfree : φ b = none := by
    cases e : φ b with
    | none => rfl
    | some j => have := H.fresh _ _ e; omega
  have h2 := ho (φ.add b i) (Ren.le_add hfree) (Ren.add_self b i)
  obtain ⟨g1, g2, g3⟩ := H.push hnew hB hib h2.1
  refine ⟨g1, g2, ?_, h2.2, below_push _ hB, by omega, by omega⟩
  intro c hc
  unfold Ren.add
  rw [if_neg (by omega)]

theorem HR.drew (H : HR B φ h w) : HR B φ h { w with drawn := w.drawn + 1 } := H.world (Nat.le_refl _) (fun _ _ _ => rfl)
theorem below_drew : Below B w { w with drawn := w.drawn + 1 } := ⟨rfl, rfl, rfl, Nat.le_refl _, fun _ _ => rfl⟩

theorem Did.after {w1 : World} {v v' : Value} {ψ : Ren} (hb : Below B w w1) (hd : Did B φ h h' w1 v v' w' ψ) : Did B φ h h' w v v' w' ψ :=
  ⟨hd.hr, hd.le, hd.old, hd.val, hb.trans hd.below, hd.next, hd.bnd⟩

/-- a slice grows in its place, and what stood there is named anew -/
theorem HR.regrow (H : HR B φ h w) (hn : h.next ≤ bound) {b b' : Nat} {c : List Value} {e : TypeId} {s : Nat} {x : Bool} {i j : Info} {o : AObj} {O : Obj} (hb : h.get b = some (.cells c e s false x)) (hi : φ b = some i)
    (hnew : (h.kill b).new o = some (b', h')) (hj : j.blk = i.blk) (_hro : isRo o = false) (hO : OR (φ.add b' j) { w with heap := w.heap.setIfInBounds i.blk O } j o) :
    HR B (φ.add b' j) h' { w with heap := w.heap.setIfInBounds i.blk O } ∧ φ.le (φ.add b' j) ∧ (∀ c, c < h.next → (φ.add b' j) c = φ c) ∧ h.next ≤ h'.next ∧ h'.next ≤ bound := by
  obtain ⟨hb', hlt, hnx, get⟩ := AHeap.new_eq hnew
  have hkn : (h.kill b).next = h.next := rfl
  rw [hkn] at hb' hlt hnx get
  have hbb : b < bound := Nat.lt_of_lt_of_le (H.live _ _ hb) hn
  have kget : ∀ c, (h.kill b).get c = if c = b then none else h.get c := fun c => AHeap.get_kill h b c hbb
  have hfree : φ b' = none := by
    cases e : φ b' with
    | none => rfl
    | some k => have := H.fresh _ _ e; omega
  have hle := Ren.le_add (φ := φ) (i := j) hfree
  have old : ∀ c k, (φ.add b' j) c = some k → c ≠ b' → φ c = some k := by
    intro c k e hc; unfold Ren.add at e; rwa [if_neg hc] at e
  have live : ∀ c p, h'.get c = some p → c ≠ b' → c ≠ b ∧ h.get c = some p := by
    intro c p e hc
    rw [get, if_neg (by omega), kget] at e
    by_cases hcb : c = b
    · rw [if_pos hcb] at e; cases e
    · rw [if_neg hcb] at e; exact ⟨hcb, e⟩
  refine ⟨⟨?_, ?_, ?_, ?_, ?_, ?_⟩, hle, ?_, by omega, by omega⟩
  · intro c k e
    by_cases hc : c = b'
    · omega
    · have := H.fresh _ _ (old _ _ e hc); omega
  · intro c p e
    by_cases hc : c = b'
    · omega
    · have := H.live _ _ (live _ _ e hc).2; omega
  · intro c k e
    simp only [Array.size_setIfInBounds]
    by_cases hc : c = b'
    · subst hc; rw [Ren.add_self] at e; cases e; rw [hj]; exact H.inW _ _ hi
    · exact H.inW _ _ (old _ _ e hc)
  · intro c p k e ek
    by_cases hc : c = b'
    · subst hc
      rw [get, if_pos hb'] at e; cases e
      rw [Ren.add_self] at ek; cases ek
      exact hO
    · obtain ⟨hcb, e'⟩ := live _ _ e hc
      have ek' := old _ _ ek hc
      refine (H.obj _ _ _ e' ek').move hle ?_
      simp only
      rw [Array.getElem?_setIfInBounds_ne (H.sep _ _ _ _ _ _ hb e' hi ek' rfl (Ne.symm hcb))]
  · intro c p k e ek hp
    by_cases hc : c = b'
    · subst hc; rw [Ren.add_self] at ek; cases ek; rw [hj]; exact H.own _ _ _ hb hi rfl
    · exact H.own _ _ _ (live _ _ e hc).2 (old _ _ ek hc) hp
  · intro c d p q k l e f ek el hp hcd
    by_cases hc : c = b'
    · subst hc
      rw [Ren.add_self] at ek; cases ek
      have hd : d ≠ c := Ne.symm hcd
      obtain ⟨hdb, f'⟩ := live _ _ f hd
      rw [hj]
      exact H.sep _ _ _ _ _ _ hb f' hi (old _ _ el hd) rfl (Ne.symm hdb)
    · obtain ⟨hcb, e'⟩ := live _ _ e hc
      have ek' := old _ _ ek hc
      by_cases hd : d = b'
      · subst hd
        rw [Ren.add_self] at el; cases el
        rw [hj]
        exact H.sep _ _ _ _ _ _ e' hb ek' hi hp hcb
      · exact H.sep _ _ _ _ _ _ e' (live _ _ f hd).2 ek' (old _ _ el hd) hp hcd
  · intro c hc
    unfold Ren.add
    rw [if_neg (by omega)]

theorem run_askRoom (n : Nat) : (askRoom n).run P w = .ok () w := by
  unfold askRoom
  by_cases hn : n > roomBytes
  · rw [if_pos hn]; rfl
  · rw [if_neg hn]; rfl

theorem run_cap {need old : Nat} {e : TypeId} (_hn : need < 2 ^ 63) : ∃ c, need ≤ c ∧ (choose (.appendCap need old e)).run P w = .ok c { w with drawn := w.drawn + 1 } :=
  ⟨_, Nat.le_add_right _ _, rfl⟩

theorem growBy_le (need : Nat) : ∀ (r c : Nat), c ≤ 2 * need + 768 → Builtin.growBy need r c ≤ 2 * need + 768 := by
  intro r
  induction r with
  | zero => intro c hc; exact hc
  | succ r ih =>
    intro c hc
    unfold Builtin.growBy
    by_cases h1 : c ≥ need
    · rw [if_pos h1]; exact hc
    · rw [if_neg h1]; exact ih _ (by omega)

theorem nextcap_le {need old : Nat} (h1 : old < need) : Builtin.nextslicecap need old ≤ 2 * need + 768 := by
  unfold Builtin.nextslicecap
  by_cases h2 : need > 2 * old
  · rw [if_pos h2]; omega
  · rw [if_neg h2]
    by_cases h3 : old < 256
    · rw [if_pos h3]; omega
    · rw [if_neg h3]; exact growBy_le _ _ _ (by omega)

theorem zeroCells_eq (z : Array Value) (n : Nat) : (Builtin.zeroCells z n).toList = rep n z.toList := range_rep n z

end Go.Ab
end

section
namespace Go.Ab
open Go.RowKit
variable {A : AProg} {P : Program} {B : Nat} {φ : Ren} {h h' : AHeap} {w w' : World}

/-- the tail of an append, behind the count of what is appended -/
def appTail (elem : TypeId) (size : Nat) (zeros : Bool) (n : Nat) (x : Value) (base : Option Addr) (s : Value) (sLen sCap : Nat) : Sem Value := do
  let appended : Sem (Array Value) :=
    if !zeros then Builtin.firstCells size n x
    else if n * size = 0 then pure #[]
    else do pure (Builtin.zeroCells (← zeroValue elem).cells n)
  let need := sLen + n
  if need ≤ sCap then
    let new ← appended
    if let some a := base then storeCells (a.add (sLen * size)) new.toList
    pure (.slice base need sCap)
  else
    if (need : Int) > IntKind.i64.max ∧ (zeros ∨ (← typeInfo elem).bytes = 0) then runtimePanic (.error "growslice: len out of range")
    if Builtin.nextslicecap need sCap * (← typeInfo elem).bytes > 2 ^ 48 then (if zeros then runtimePanic (.error "growslice: len out of range") else do
      if !(← Builtin.mayShare size sLen n base x) then mark .noRoom
      unsupported (.resourceLimit "append: a slice or a string whose bytes no memory bears"))
    let newCap ← choose (.appendCap need sCap elem)
    askRoom (newCap * (← typeInfo elem).bytes)
    let old ← Builtin.firstCells size sLen s
    let new ← appended
    let rest := Builtin.zeroCells (← zeroValue elem).cells (newCap - need)
    pure (.slice (some (← newRow elem (old ++ new ++ rest))) need newCap)

theorem run_append_head {ts : Array TypeId} {ty st elem : TypeId} {at1 : List TypeId} {args : Array Value} {base : Option Addr} {sLen sCap n sz : Nat} {x : Value} {zs : Bool} {r : List Value} (ht : ts.toList = st :: at1)
    (ha : args.toList = .slice base sLen sCap :: x :: r) (hu : P.underlying st = some (.slice elem)) (hs : size? P elem = some sz) (hz : zerosV P at1 = some zs) (hb : P.bytesOf elem < 65536)
    (hn : (zs = false ∧ (Builtin.lenOf x).run P w = .ok n w) ∨ (zs = true ∧ x = .int .i64 (n : Int) ∧ n < 65536)) :
    (Builtin.append_ ts ty args).run P w = (appTail elem sz zs n x base (.slice base sLen sCap) sLen sCap).run P w := by
  have t0 : ts[0]? = some st := by rw [← Array.getElem?_toList, ht]; rfl
  have h1 : ts[1]? = at1[0]? := by rw [← Array.getElem?_toList, ht]; rfl
  have a0 : args[0]? = some (.slice base sLen sCap) := by rw [← Array.getElem?_toList, ha]; rfl
  have a1 : args[1]? = some x := by rw [← Array.getElem?_toList, ha]; rfl
  obtain ⟨inf, hinf, hinfs⟩ := info_of_size hs
  have hbytes : inf.bytes < 65536 := by
    have : P.bytesOf elem = inf.bytes := by unfold Program.bytesOf; rw [hinf]; rfl
    omega
  unfold Builtin.append_
  rw [t0, a0, a1]
  simp only
  rw [run_bind_ok (run_und hu)]
  simp only
  rw [run_bind_ok (run_size hs), h1]
  cases at1 with
  | nil =>
    simp [zerosV] at hz; subst hz
    rcases hn with ⟨_, hn⟩ | ⟨h, _⟩
    · simp only [List.getElem?_nil]
      rw [run_bind_ok (run_pure _ _)]
      rw [if_neg (show ¬((false : Bool) = true) by decide), run_bind_ok hn]
      rfl
    · cases h
  | cons xt tl =>
    simp only [zerosV, Option.map_eq_some_iff] at hz
    obtain ⟨d, hd, hz⟩ := hz
    simp only [List.getElem?_cons_zero]
    rw [run_bind_ok (run_und hd), run_bind_ok (run_pure _ _)]
    rcases hn with ⟨rfl, hn⟩ | ⟨rfl, rfl, hn⟩
    · cases d <;> first
        | (cases hz; done)
        | (dsimp only
           rw [if_neg (show ¬((false : Bool) = true) by decide), run_bind_ok hn]
           rfl)
    · cases d <;> first | (cases hz; done) | skip
      dsimp only
      rw [if_pos (show ((true : Bool) = true) by decide)]
      have w1 : IntKind.i64.wrap (n : Int) = n := wrap_nat (k := .i64) (Nat.lt_of_lt_of_le (show n < 65536 by omega) (by decide)) (fun _ => Nat.lt_of_lt_of_le (show n < 65536 by omega) (by decide))
      have hmul : n * inf.bytes ≤ 4294967296 := Nat.le_trans (Nat.mul_le_mul (Nat.le_of_lt hn) (Nat.le_of_lt hbytes)) (by decide)
      have hmul2 : (n : Int) * (inf.bytes : Int) ≤ 4294967296 := by rw [← Int.natCast_mul]; omega
      rw [run_bind_ok (show (asInt (.int .i64 (n : Int))).run P w = .ok (n : Int) w from rfl)]
      rw [w1, if_neg (show ¬((n : Int) < 0) by omega)]
      rw [run_bind_ok (run_info hinf), if_neg (show ¬((n : Int) * (inf.bytes : Int) > 2 ^ 48) by omega)]
      rw [run_bind_ok (run_pure _ _), Int.toNat_natCast]
      rfl

end Go.Ab
end

section
namespace Go.Ab
open Go.RowKit
variable {A : AProg} {P : Program} {B : Nat} {φ : Ren} {h h' : AHeap} {w w' : World}

theorem run_loadCells0 (a : Addr) : (loadCells a 0).run P w = .ok #[] w := rfl

theorem loadN_zero {b off : Nat} {l : List Value} (e : Ab.loadN h b off 0 = some l) : l = [] := by
  unfold Ab.loadN at e
  split at e
  · simp only at e
    cases hb : Nat.beq ((List.drop off _).take 0).length 0 with
    | false => rw [hb] at e; cases e
    | true => rw [hb] at e; cases e; simp
  · cases e

/-- the cells of the first elements of a slice -/
theorem HR.slice (H : HR B φ h w) {a : Addr} {len cap m : Nat} {x' : Value} {l : List Value} (hx : VR φ (.slice (some a) len cap) x') (e : Ab.loadN h a.block a.off m = some l) (hm : len = 0 → m = 0) :
    ∃ i o' c', φ a.block = some i ∧ x' = .slice (some ⟨i.blk, o', none⟩) len c' ∧ ∃ l' : List Value, (loadCells ⟨i.blk, o', none⟩ m).run P w = .ok l'.toArray w ∧ VRL φ l l' := by
  obtain ⟨i, o', c', hi, _, rfl, hcase⟩ := hx.slice_inv
  refine ⟨i, o', c', hi, rfl, ?_⟩
  have key : o' = i.base + a.off ∨ m = 0 := by
    rcases hcase with ⟨_, h2⟩ | ⟨lb, _, _, h3, h4, _⟩
    · exact .inl h2
    · by_cases h0 : 0 < lb
      · exact .inl (h4 h0)
      · exact .inr (hm (by omega))
  rcases key with rfl | rfl
  · exact H.loadN e hi
  · have := loadN_zero e
    subst this
    exact ⟨[], rfl, .nil⟩

theorem newV_sound (H : HR B φ h w) {e sz n : Nat} {zs : Bool} {x x' : Value} {cs : List Value} (hx : VR φ x x') (he : newV' P h e sz zs x = some (n, cs)) :
    (zs = false ∧ (Builtin.lenOf x').run P w = .ok n w ∧ ∃ new : Array Value, (Builtin.firstCells sz n x').run P w = .ok new w ∧ VRL φ cs new.toList) ∨
    (zs = true ∧ x' = .int .i64 (n : Int) ∧ n < 65536 ∧ ∃ z, zero? P e = some z ∧ cs = rep n (cellsL z)) := by
  unfold newV' at he
  split at he
  · rename_i m c
    obtain ⟨rfl, rfl, rfl⟩ := hx.nilSlice_inv
    cases he
    exact .inl ⟨rfl, rfl, #[], rfl, .nil⟩
  · rename_i b m c
    simp only [Option.map_eq_some_iff] at he
    obtain ⟨l, hl, he⟩ := he
    cases he
    obtain ⟨i, o', c', hi, rfl, l', e', hv⟩ := H.slice (P := P) hx hl (fun h0 => by rw [h0]; simp)
    exact .inl ⟨rfl, rfl, l'.toArray, e', by simpa using hv⟩
  · rename_i s
    obtain rfl := hx.str_inv
    cases hb : Nat.beq sz 1 with
    | false => rw [hb] at he; cases he
    | true =>
      rw [hb] at he; cases he
      refine .inl ⟨rfl, rfl, s.data.map fun b => .int .u8 b.toNat, ?_, ?_⟩
      · have : s.extract 0 (bl s).length = s := by
          have := bl_extract s 0 (bl s).length
          simp only [List.drop_zero, Nat.sub_zero, List.take_length] at this
          rw [← this]; rfl
        simp only [Builtin.firstCells, this]
        rfl
      · simp only [Array.toList_map]
        unfold bl
        generalize s.data.toList = l
        induction l with
        | nil => exact .nil
        | cons b l ih => exact .cons (.int _ _) ih
  · rename_i m
    cases hb : Nat.blt m 65536 with
    | false => rw [hb] at he; cases he
    | true =>
      rw [hb] at he
      simp only [cond_true, Option.map_eq_some_iff] at he
      obtain ⟨z, hz, he⟩ := he
      cases he
      exact .inr ⟨rfl, hx.int_inv, by simpa [Nat.blt_eq] using hb, z, hz, rfl⟩
  · cases he

/-- what is appended, as the model gets it -/
theorem appended_run {e sz n : Nat} {zs : Bool} {x' : Value} {cs : List Value} {z : Value} (hz0 : zero? P e = some z) (hzl : (cellsL z).length = sz)
    (hd : (zs = false ∧ (Builtin.lenOf x').run P w = .ok n w ∧ ∃ new : Array Value, (Builtin.firstCells sz n x').run P w = .ok new w ∧ VRL φ cs new.toList) ∨
      (zs = true ∧ x' = .int .i64 (n : Int) ∧ n < 65536 ∧ ∃ z, zero? P e = some z ∧ cs = rep n (cellsL z))) :
    ∃ new : Array Value, (if !zs then Builtin.firstCells sz n x' else if n * sz = 0 then pure #[] else do pure (Builtin.zeroCells (← zeroValue e).cells n) : Sem (Array Value)).run P w = .ok new w ∧ VRL φ cs new.toList := by
  rcases hd with ⟨rfl, _, new, h1, h2⟩ | ⟨rfl, _, _, z', hz, rfl⟩
  · exact ⟨new, h1, h2⟩
  · rw [hz0] at hz; cases hz
    have hzn : notAny z = true := by
      have := (zero_inv hz0).1
      cases z <;> first | rfl | (simp [constOk, constCell] at this)
    have hzc := cells_vr (zero_vr (φ := φ) hz0) hzn
    rw [if_neg (by decide)]
    by_cases h0 : n * sz = 0
    · rw [if_pos h0]
      refine ⟨#[], rfl, ?_⟩
      have : rep n (cellsL z) = [] := by
        apply List.eq_nil_of_length_eq_zero
        rw [rep_length, hzl, h0]
      rw [this]; exact .nil
    · rw [if_neg h0]
      refine ⟨Builtin.zeroCells z.cells n, ?_, ?_⟩
      · rw [run_bind_ok (run_zero hz0)]; rfl
      · rw [zeroCells_eq]; exact hzc.rep n

end Go.Ab
end

section
namespace Go.Ab
open Go.RowKit
variable {A : AProg} {P : Program} {B : Nat} {φ : Ren} {h h' : AHeap} {w w' : World}

theorem tail_in {e sz n : Nat} {zs : Bool} {x s : Value} {base : Option Addr} {sLen sCap : Nat} {new : Array Value} {w1 : World} (hle : sLen + n ≤ sCap)
    (ha : (if !zs then Builtin.firstCells sz n x else if n * sz = 0 then pure #[] else do pure (Builtin.zeroCells (← zeroValue e).cells n) : Sem (Array Value)).run P w = .ok new w)
    (hst : ∀ a, base = some a → (storeCells (a.add (sLen * sz)) new.toList).run P w = .ok () w1) (hno : base = none → w1 = w) :
    (appTail e sz zs n x base s sLen sCap).run P w = .ok (.slice base (sLen + n) sCap) w1 := by
  unfold appTail
  rw [if_pos hle, run_bind_ok ha]
  cases base with
  | none => rw [hno rfl]; rfl
  | some a => dsimp only; rw [run_bind_ok (hst a rfl)]; rfl

theorem tail_grow {e sz n : Nat} {zs : Bool} {x s z : Value} {base : Option Addr} {sLen sCap : Nat} {new old : Array Value} {inf : TypeInfo} (hle : ¬ sLen + n ≤ sCap) (hneed : sLen + n < 1048576)
    (hinf : P.info? e = some inf) (hb0 : inf.bytes < 65536) (hz : zero? P e = some z) (cap : Nat) (hcap : (choose (.appendCap (sLen + n) sCap e)).run P w = .ok cap { w with drawn := w.drawn + 1 })
    (ho : (Builtin.firstCells sz sLen s).run P { w with drawn := w.drawn + 1 } = .ok old { w with drawn := w.drawn + 1 })
    (ha : (if !zs then Builtin.firstCells sz n x else if n * sz = 0 then pure #[] else do pure (Builtin.zeroCells (← zeroValue e).cells n) : Sem (Array Value)).run P { w with drawn := w.drawn + 1 } = .ok new { w with drawn := w.drawn + 1 }) :
    (appTail e sz zs n x base s sLen sCap).run P w = .ok (.slice (some ⟨w.heap.size, 0, none⟩) (sLen + n) cap)
      { w with drawn := w.drawn + 1, heap := w.heap.push (.cells (old ++ new ++ Builtin.zeroCells z.cells (cap - (sLen + n))) e) } := by
  unfold appTail
  have hmax : ¬ (((sLen + n : Nat) : Int) > IntKind.i64.max) := by
    have : IntKind.i64.max = 9223372036854775807 := by decide
    rw [this]; omega
  rw [if_neg hle, run_bind_ok (run_info hinf)]
  rw [if_neg (fun hh => hmax hh.1), run_bind_ok (run_info hinf)]
  have hnc := nextcap_le (need := sLen + n) (old := sCap) (by omega)
  have hmul : Builtin.nextslicecap (sLen + n) sCap * inf.bytes ≤ 4194304 * 65536 := Nat.mul_le_mul (by omega) (Nat.le_of_lt hb0)
  rw [if_neg (by omega), run_bind_ok hcap, run_bind_ok (run_info hinf), run_bind_ok (run_askRoom _), run_bind_ok ho, run_bind_ok ha, run_bind_ok (run_zero hz), run_bind_ok (run_newRow _ _)]
  rfl

/-- a slice that has grown into a new block -/
theorem grown (H : HR B φ h w) (hB : B ≤ w.heap.size) {e sz need cap b : Nat} {old new rest : Array Value} {co cn : List Value} (ho : VRL φ co old.toList) (hn : VRL φ cn new.toList)
    (hnew : h.new (.cells (co ++ cn) e sz false false) = some (b, h')) (hlen : co.length + cn.length = need * sz) (hrest : rest.size = (cap - need) * sz) (hcap : need ≤ cap) :
    ∃ ψ, Did B φ h h' w (.slice (some ⟨b, 0, none⟩) need (2 * need + 1)) (.slice (some ⟨w.heap.size, 0, none⟩) need cap) { w with heap := w.heap.push (.cells (old ++ new ++ rest) e) } ψ := by
  have h1 := ho.length
  have h2 := hn.length
  simp only [Array.length_toList] at h1 h2
  have hsz : (old ++ new ++ rest).size = cap * sz := by
    simp only [Array.size_append]
    have : need * sz + (cap - need) * sz = cap * sz := by rw [← Nat.add_mul]; congr 1; omega
    omega
  refine ⟨_, Did.push (i := ⟨w.heap.size, 0, (old ++ new ++ rest).size, sz⟩) (f := fun b => .slice (some ⟨b, 0, none⟩) need (2 * need + 1)) H hnew hB rfl ?_⟩
  intro ψ hle hb
  constructor
  · refine .cells (arr := old ++ new ++ rest) (fr := (0, 0)) (by simp) rfl rfl ?_ ?_ (fun _ => noFrozen0 _) (by simp)
    · simp only [List.length_append, Array.size_append]; omega
    · intro k v ek
      have hcat := (ho.mono hle).append (hn.mono hle)
      obtain ⟨v', e', hv⟩ := hcat.get ek
      refine ⟨v', ?_, hv⟩
      have hk : k < (co ++ cn).length := by
        rcases Nat.lt_or_ge k (co ++ cn).length with hh | hh
        · exact hh
        · rw [List.getElem?_eq_none hh] at ek; cases ek
      have hk' : k < (old ++ new).size := by simp at hk ⊢; omega
      rw [Nat.zero_add, Array.getElem?_append_left hk']
      rw [← Array.getElem?_toList, Array.toList_append]
      exact e'
  · have := VR.sliceU (φ := ψ) (b := b) (o := 0) (n := need) (lb := need) (o' := 0) (c := cap) hb hcap (Nat.le_refl _) (fun _ => rfl) (by simp only [Nat.zero_add]; rw [hsz]; exact Nat.le_refl _)
    simpa using this

theorem loadN_len {b off n : Nat} {l : List Value} (e : Ab.loadN h b off n = some l) : l.length = n := by
  unfold Ab.loadN at e
  split at e
  · simp only at e
    cases hb : Nat.beq ((List.drop off _).take n).length n with
    | false => rw [hb] at e; cases e
    | true => rw [hb] at e; cases e; exact Nat.eq_of_beq_eq_true hb
  · cases e

theorem newV_len {e sz n : Nat} {zs : Bool} {x : Value} {cs : List Value} {z : Value} (hz : zero? P e = some z) (hzl : (cellsL z).length = sz) (he : newV' P h e sz zs x = some (n, cs)) : cs.length = n * sz := by
  unfold newV' at he
  split at he
  · rename_i m c
    cases hb : Nat.beq m 0 with
    | false => rw [hb] at he; cases he
    | true => rw [hb] at he; cases he; simp
  · simp only [Option.map_eq_some_iff] at he
    obtain ⟨l, hl, he⟩ := he
    cases he
    exact loadN_len hl
  · cases hb : Nat.beq sz 1 with
    | false => rw [hb] at he; cases he
    | true => rw [hb] at he; cases he; have := Nat.eq_of_beq_eq_true hb; simp [this]
  · rename_i m
    cases hb : Nat.blt m 65536 with
    | false => rw [hb] at he; cases he
    | true =>
      rw [hb] at he
      simp only [cond_true, Option.map_eq_some_iff] at he
      obtain ⟨z', hz', he⟩ := he
      cases he
      rw [hz] at hz'; cases hz'
      rw [rep_length, hzl]
  · cases he

end Go.Ab
end

section
namespace Go.Ab
open Go.RowKit
variable {A : AProg} {P : Program} {B : Nat} {φ : Ren} {h h' : AHeap} {w w' : World}

theorem Did.same (H : HR B φ h w) (hn : h.next ≤ bound) {v v' : Value} (hv : VR φ v v') : Did B φ h h w v v' w φ :=
  ⟨H, Ren.le.refl φ, fun _ _ => rfl, hv, Below.refl _ _, Nat.le_refl _, hn⟩

theorem knownCap_inv {c n : Nat} (e : knownCap c = some n) : c = 2 * n := by
  unfold knownCap at e
  cases hb : Nat.beq (c % 2) 0 with
  | false => rw [hb] at e; cases e
  | true => rw [hb] at e; cases e; have := Nat.eq_of_beq_eq_true hb; omega
theorem knownCap_even (n : Nat) : knownCap (2 * n) = some n := by
  unfold knownCap
  rw [show Nat.beq (2 * n % 2) 0 = true by rw [show 2 * n % 2 = 0 by omega]; rfl]
  simp
theorem knownCap_odd {c : Nat} (e : knownCap c = none) : ¬ ∃ n, c = 2 * n := by
  rintro ⟨n, rfl⟩
  rw [knownCap_even] at e; cases e

theorem append_sound (H : HR B φ h w) (hn : h.next ≤ bound) (hB : B ≤ w.heap.size) {ts : Array TypeId} {ty : TypeId} {args : List Operand} {ρA ρC : Operand → Value} {v : Value} (hp : ∀ x ∈ args, VR φ (ρA x) (ρC x))
    (e : appendV P h ts.toList (args.map ρA) = some (v, h')) : ∃ v' w' ψ, (Builtin.append_ ts ty (args.map ρC).toArray).run P w = .ok v' w' ∧ Did B φ h h' w v v' w' ψ := by
  unfold appendV at e
  split at e
  case h_2 => cases e
  rename_i st at1 base len cap x r ht hx
  rcases args with _ | ⟨y, _ | ⟨y2, ys⟩⟩
  · simp at hx
  · simp at hx
  simp only [List.map_cons, List.cons.injEq] at hx
  obtain ⟨hx1, hx2, hx3⟩ := hx
  have hs := hp y (by simp)
  have hxx := hp y2 (by simp)
  rw [hx1] at hs
  rw [hx2] at hxx
  clear hx1 hx2 hx3
  generalize hsC : ρC y = s' at hs
  split at e
  case h_2 => cases e
  rename_i el hu
  simp only [Option.bind_eq_some_iff] at e
  obtain ⟨sz, hsz, z, hz, zs, hzs, p, hnew, e⟩ := e
  obtain ⟨n, cs⟩ := p
  cases hg : (Nat.blt (len + n) 1048576 && Nat.blt 0 sz && Nat.blt (P.bytesOf el) 65536 && Nat.beq (cellsL z).length sz) with
  | false => rw [hg] at e; cases e
  | true =>
  rw [hg] at e
  simp only [Bool.and_eq_true, Nat.blt_eq] at hg
  obtain ⟨⟨⟨g1, g2⟩, g3⟩, g4⟩ := hg
  have g4 := Nat.eq_of_beq_eq_true g4
  simp only [cond_true] at e
  have hd := newV_sound (P := P) H hxx hnew
  have hd2 := newV_sound (P := P) (w := { w with drawn := w.drawn + 1 }) H.drew hxx hnew
  obtain ⟨new, ha, hva⟩ := appended_run hz g4 hd
  obtain ⟨new2, ha2, hva2⟩ := appended_run hz g4 hd2
  have hcl := newV_len hz g4 hnew
  have hhead : ∀ (b : Option Addr) (c' : Nat), s' = .slice b len c' →
      (Builtin.append_ ts ty (s' :: ρC y2 :: ys.map ρC).toArray).run P w = (appTail el sz zs n (ρC y2) b s' len c').run P w := by
    intro b c' hs'
    subst hs'
    refine run_append_head (r := ys.map ρC) ht rfl hu hsz hzs g3 ?_
    rcases hd with ⟨a, b, _⟩ | ⟨a, b, c, _⟩
    · exact .inl ⟨a, b⟩
    · exact .inr ⟨a, b, c⟩
  simp only [List.map_cons]
  rw [hsC]
  clear hsC
  obtain ⟨inf, hinf, hinfs⟩ := info_of_size hsz
  have hbytes : inf.bytes < 65536 := by
    have : P.bytesOf el = inf.bytes := by unfold Program.bytesOf; rw [hinf]; rfl
    omega
  have hzn : notAny z = true := by
    have := (zero_inv hz).1
    cases z <;> first | rfl | (simp [constOk, constCell] at this)
  have hzc := cells_vr (zero_vr (φ := φ) hz) hzn
  have hzsz : z.cells.size = sz := by have := hzc.length; simp only [Array.length_toList] at this; omega
  have hrest : ∀ m, (Builtin.zeroCells z.cells m).size = m * sz := by
    intro m; unfold Builtin.zeroCells; simp [hzsz]
  unfold appendIn at e
  cases base with
  | none =>
    obtain ⟨rfl, rfl, rfl⟩ := hs.nilSlice_inv
    simp only at e
    cases hn0 : Nat.beq n 0 with
    | true =>
      rw [hn0] at e
      cases e
      have hn0 := Nat.eq_of_beq_eq_true hn0
      subst hn0
      refine ⟨.slice none 0 0, w, φ, ?_, Did.same H hn .nilSlice⟩
      rw [hhead none 0 rfl]
      exact tail_in (by omega) ha (by simp) (fun _ => rfl)
    | false =>
      rw [hn0] at e
      have hn0 := Nat.ne_of_beq_eq_false hn0
      simp only [cond_false, Option.map_eq_some_iff] at e
      obtain ⟨q, hq, e⟩ := e
      obtain ⟨b, h1⟩ := q
      cases e
      obtain ⟨c, hc1, hc2⟩ := run_cap (P := P) (w := w) (need := 0 + n) (old := 0) (e := el) (by omega)
      have hrun := tail_grow (base := none) (s := .slice none 0 0) (old := #[]) (sCap := 0) (by omega) g1 hinf hbytes hz c hc2 rfl ha2
      obtain ⟨ψ, hdid⟩ := grown (w := { w with drawn := w.drawn + 1 }) (old := #[]) (co := []) (cn := cs) (new := new2) (rest := Builtin.zeroCells z.cells (c - (0 + n))) H.drew hB .nil hva2 hq (by simpa using hcl) (hrest _) hc1
      exact ⟨_, _, ψ, by rw [hhead none 0 rfl]; exact hrun, hdid.after below_drew⟩
  | some a =>
    obtain ⟨i, o', c', hi, haa, rfl, hcase⟩ := hs.slice_inv
    simp only at e
    split at e
    · -- a known capacity
      rename_i c hk
      have hk := knownCap_inv hk
      have hkk : c' = c ∧ o' = i.base + a.off := by
        rcases hcase with ⟨h1, h2⟩ | ⟨lb, h1, _⟩
        · exact ⟨by omega, h2⟩
        · omega
      obtain ⟨rfl, rfl⟩ := hkk
      cases hle : Nat.ble (len + n) c' with
      | true =>
        rw [hle] at e
        have hle := Nat.le_of_ble_eq_true hle
        simp only [cond_true, Option.map_eq_some_iff] at e
        obtain ⟨h1, hst, e⟩ := e
        cases e
        obtain ⟨w1, hr1, hr2, hr3, hr4, hr5⟩ := H.storeN (P := P) hn hst hi hva
        refine ⟨.slice (some ⟨i.blk, i.base + a.off, none⟩) (len + n) c', w1, φ, ?_, hr2, Ren.le.refl φ, fun _ _ => rfl, ?_, hr3, by omega, by omega⟩
        · rw [hhead (some ⟨i.blk, i.base + a.off, none⟩) c' rfl]
          exact tail_in hle ha (fun a' ha' => by cases ha'; rw [add_none, Nat.add_assoc]; exact hr1) (by simp)
        · rw [hk, haa]; exact .sliceK hi
      | false =>
        rw [hle] at e
        have hle : ¬ len + n ≤ c' := by intro hh; rw [Nat.ble_eq_true_of_le hh] at hle; cases hle
        simp only [cond_false, Option.bind_eq_some_iff, Option.map_eq_some_iff] at e
        obtain ⟨co, hco, q, hq, e⟩ := e
        obtain ⟨b, h1⟩ := q
        cases e
        obtain ⟨c, hc1, hc2⟩ := run_cap (P := P) (w := w) (need := len + n) (old := c') (e := el) (by omega)
        obtain ⟨old', ho1, ho2⟩ := (H.drew).loadN (P := P) hco hi
        have hrun := tail_grow (base := some ⟨i.blk, i.base + a.off, none⟩) (s := .slice (some ⟨i.blk, i.base + a.off, none⟩) len c') (old := old'.toArray) hle g1 hinf hbytes hz c hc2 ho1 ha2
        obtain ⟨ψ, hdid⟩ := grown (w := { w with drawn := w.drawn + 1 }) (old := old'.toArray) (co := co) (cn := cs) (new := new2) (rest := Builtin.zeroCells z.cells (c - (len + n))) H.drew hB (by simpa using ho2) hva2 hq
          (by rw [loadN_len hco, hcl, Nat.add_mul]) (hrest _) hc1
        exact ⟨_, _, ψ, by rw [hhead _ c' rfl]; exact hrun, hdid.after below_drew⟩
    · -- an unknown one
      rename_i hk
      have hk := knownCap_odd hk
      have hkk : ∃ lb, cap = 2 * lb + 1 ∧ lb ≤ c' ∧ len ≤ lb ∧ (0 < lb → o' = i.base + a.off) ∧ o' + c' * i.stride ≤ i.size := by
        rcases hcase with ⟨h1, _⟩ | h1
        · exact absurd ⟨_, h1⟩ hk
        · exact h1
      obtain ⟨lb, rfl, hlb, hlen, hoff, hsize⟩ := hkk
      cases hn0 : Nat.beq n 0 with
      | true =>
        rw [hn0] at e
        have hn0 := Nat.eq_of_beq_eq_true hn0
        subst hn0
        cases e
        have hcs : cs = [] := List.eq_nil_of_length_eq_zero (by rw [hcl]; simp)
        subst hcs
        have hnn : new = #[] := by
          have h0 := hva.length
          rw [← Array.size_eq_zero_iff]
          simpa using h0.symm
        refine ⟨.slice (some ⟨i.blk, o', none⟩) (len + 0) c', w, φ, ?_, Did.same H hn ?_⟩
        · rw [hhead (some ⟨i.blk, o', none⟩) c' rfl]
          exact tail_in (by omega) ha (fun a' ha' => by rw [hnn]; rfl) (by simp)
        · rw [haa]; exact .sliceU hi hlb (by omega) hoff hsize
      | false =>
        rw [hn0] at e
        have hn0 := Nat.ne_of_beq_eq_false hn0
        rw [show (2 * lb + 1) / 2 = lb by omega] at e
        simp only [cond_false] at e
        cases hle : Nat.ble (len + n) lb with
        | true =>
          rw [hle] at e
          have hle := Nat.le_of_ble_eq_true hle
          simp only [cond_true, Option.map_eq_some_iff] at e
          obtain ⟨h1, hst, e⟩ := e
          cases e
          have ho' := hoff (by omega)
          obtain ⟨w1, hr1, hr2, hr3, hr4, hr5⟩ := H.storeN (P := P) hn hst hi hva
          refine ⟨.slice (some ⟨i.blk, o', none⟩) (len + n) c', w1, φ, ?_, hr2, Ren.le.refl φ, fun _ _ => rfl, ?_, hr3, by omega, by omega⟩
          · rw [hhead (some ⟨i.blk, o', none⟩) c' rfl]
            exact tail_in (by omega) ha (fun a' ha' => by cases ha'; rw [add_none, ho', Nat.add_assoc]; exact hr1) (by simp)
          · rw [haa]; exact .sliceU hi hlb hle hoff hsize
        | false =>
          rw [hle] at e
          simp only [cond_false] at e
          split at e
          case h_2 => cases e
          rename_i cc e' s x hb
          cases hgg : (Nat.beq s sz && Nat.beq e' el && cs.all cellOk) with
          | false => rw [hgg] at e; cases e
          | true =>
          rw [hgg] at e
          simp only [Bool.and_eq_true] at hgg
          obtain ⟨⟨hg1, hg2⟩, hg3⟩ := hgg
          have hg1 := Nat.eq_of_beq_eq_true hg1
          have hg2 := Nat.eq_of_beq_eq_true hg2
          subst hg1; subst hg2
          simp only [cond_true, Option.bind_eq_some_iff, Option.map_eq_some_iff] at e
          obtain ⟨co, hco, q, hq, e⟩ := e
          obtain ⟨b, h1⟩ := q
          cases e
          have hob := H.obj _ _ _ hb hi
          have hown := H.own _ _ _ hb hi rfl
          have hcolen := loadN_len hco
          have hstr : i.stride = s := by cases hob with | cells _ _ h3 => exact h3
          rw [hstr] at hsize
          have hfit : ∀ m, m ≤ c' → o' + m * s ≤ i.size := fun m hm => Nat.le_trans (Nat.add_le_add_left (Nat.mul_le_mul_right s hm) o') hsize
          by_cases hin : len + n ≤ c'
          · -- it grows in its place
            have hold : ∃ arr fr, w.heap[i.blk]? = some (.cells arr e' fr) ∧ arr.size = i.size ∧ NoFrozen fr i.size ∧ VRL φ co ((arr.toList.drop o').take (len * s)) := by
              have hread := hob
              cases hob with
              | cells h1 h2 h3 h4 h5 h6 h7 =>
                rename_i arr fr
                refine ⟨arr, fr, h1, h2, h6 rfl, ?_⟩
                by_cases h0 : len = 0
                · subst h0
                  have : co = [] := List.eq_nil_of_length_eq_zero (by rw [hcolen]; simp)
                  subst this
                  simp; exact .nil
                · have ho' := hoff (by omega)
                  obtain ⟨c1, e1, s1, ro1, x1, ⟨hb1, hl1, hn1⟩ | ⟨_, _, _, _, _, hb1, hz1, hl1⟩⟩ := loadN_inv hco
                  · rw [hb] at hb1; cases hb1
                    obtain ⟨arr2, fr2, g1', g2', g3'⟩ := hread.read hn1
                    rw [h1] at g1'; cases g1'
                    rw [ho', hl1]; exact g3'
                  · have : len * s = 0 := hz1
                    rcases Nat.mul_eq_zero.1 this with hh | hh <;> omega
            obtain ⟨arr, fr, h1, h2, h6, hold⟩ := hold
            have hnl := hva.length
            have hnl' : new.toList.length = n * s := by rw [← hnl, hcl]
            have hsum : o' + len * s + n * s ≤ i.size := by have := hfit _ hin; rw [Nat.add_mul] at this; omega
            have hst : (storeCells (Addr.add ⟨i.blk, o', none⟩ (len * s)) new.toList).run P w = .ok () { w with heap := w.heap.setIfInBounds i.blk (.cells (over arr (o' + len * s) new.toList) e' fr) } := by
              rw [add_none]
              have := run_storeCells (P := P) new.toList w arr 0 (o := o' + len * s) h1 (by omega) (by rw [h2]; exact h6) (hva.cellOk hg3)
              simpa using this
            have hq2 := AHeap.new_eq hq
            have hbfree : φ b = none := by
              cases e : φ b with
              | none => rfl
              | some k => have := H.fresh _ _ e; have := hq2.1; have : (h.kill a.block).next = h.next := rfl; omega
            have hov : (over arr (o' + len * s) new.toList).size = arr.size := over_size (by omega)
            have hO : OR (φ.add b ⟨i.blk, o', i.size, i.stride⟩) { w with heap := w.heap.setIfInBounds i.blk (.cells (over arr (o' + len * s) new.toList) e' fr) } ⟨i.blk, o', i.size, i.stride⟩ (.cells (co ++ cs) e' s false false) := by
              have hb' := heap_lt h1
              refine .cells (arr := over arr (o' + len * s) new.toList) (fr := fr) (by simp [hb']) (by simp only; omega) hstr ?_ ?_ (fun _ => h6) (by simp)
              · simp only [List.length_append]; omega
              · intro k u ek
                have hle' := Ren.le_add (φ := φ) (i := ⟨i.blk, o', i.size, i.stride⟩) hbfree
                rw [over_get (by omega)]
                by_cases hk : k < len * s
                · rw [if_pos (show o' + k < o' + len * s by omega)]
                  rw [List.getElem?_append_left (by omega)] at ek
                  obtain ⟨v', e1, e2⟩ := hold.get ek
                  refine ⟨v', ?_, e2.mono hle'⟩
                  rw [List.getElem?_take, if_pos hk, List.getElem?_drop, Array.getElem?_toList] at e1
                  exact e1
                · rw [if_neg (show ¬ o' + k < o' + len * s by omega)]
                  have hkl : k < (co ++ cs).length := by
                    rcases Nat.lt_or_ge k (co ++ cs).length with hh | hh
                    · exact hh
                    · rw [List.getElem?_eq_none hh] at ek; cases ek
                  simp only [List.length_append] at hkl
                  rw [if_pos (show o' + k < o' + len * s + new.toList.length by omega)]
                  rw [List.getElem?_append_right (by omega)] at ek
                  obtain ⟨v', e1, e2⟩ := hva.get ek
                  refine ⟨v', ?_, e2.mono hle'⟩
                  rw [show o' + k - (o' + len * s) = k - co.length by omega]
                  exact e1
            obtain ⟨r1, r2, r3, r4, r5⟩ := H.regrow (j := ⟨i.blk, o', i.size, i.stride⟩) hn hb hi hq rfl rfl hO
            refine ⟨.slice (some ⟨i.blk, o', none⟩) (len + n) c', _, _, ?_, r1, r2, r3, ?_, below_set _ hown, r4, r5⟩
            · rw [hhead (some ⟨i.blk, o', none⟩) c' rfl]
              exact tail_in hin ha (fun a' ha' => by cases ha'; exact hst) (by simp)
            · have := VR.sliceU (φ := φ.add b ⟨i.blk, o', i.size, i.stride⟩) (b := b) (o := 0) (n := len + n) (lb := len + n) (o' := o') (c := c') (Ren.add_self _ _) hin (Nat.le_refl _) (fun _ => rfl) (by simp only; rw [hstr]; exact hsize)
              exact this
          · -- it grows elsewhere
            obtain ⟨i2, o2, c2, hi2, hx2, old', ho1, ho2⟩ := (H.drew).slice (P := P) hs hco (fun h0 => by rw [h0]; simp)
            rw [hi] at hi2; cases hi2
            cases hx2
            have hkill := H.drew.kill (Nat.lt_of_lt_of_le (H.live _ _ hb) hn)
            obtain ⟨c, hc1, hc2⟩ := run_cap (P := P) (w := w) (need := len + n) (old := c') (e := e') (by omega)
            have hrun := tail_grow (base := some ⟨i.blk, o', none⟩) (s := .slice (some ⟨i.blk, o', none⟩) len c') (old := old'.toArray) hin g1 hinf hbytes hz c hc2 ho1 ha2
            obtain ⟨ψ, hdid⟩ := grown (w := { w with drawn := w.drawn + 1 }) (old := old'.toArray) (co := co) (cn := cs) (new := new2) (rest := Builtin.zeroCells z.cells (c - (len + n))) hkill hB (by simpa using ho2) hva2 hq
              (by rw [loadN_len hco, hcl, Nat.add_mul]) (hrest _) hc1
            have hdid' := hdid.after below_drew
            exact ⟨_, _, ψ, by rw [hhead _ c' rfl]; exact hrun, hdid'.hr, hdid'.le, hdid'.old, hdid'.val, hdid'.below, hdid'.next, hdid'.bnd⟩

end Go.Ab
end

section
namespace Go.Ab
open Go.RowKit
variable {A : AProg} {P : Program} {B : Nat} {φ : Ren} {h h' : AHeap} {w w' : World}

theorem store_sound (H : HR B φ h w) (hn : h.next ≤ bound) {t : TypeId} {x y x' y' v : Value} (hx : VR φ x x') (hy : VR φ y y') (e : storeV A h t x y = some (v, h')) :
    ∃ w', (Instr.storeAt t x' y').run A.P w = .ok () w' ∧ v = undef ∧ Did B φ h h' w undef undef w' φ := by
  unfold storeV at e
  cases x with
  | pointer a =>
    cases a with
    | none => cases e
    | some a =>
      simp only at e
      cases hg : (notAny y && sizeIs A t (cellsL y).length) with
      | false => rw [hg] at e; cases e
      | true =>
        rw [hg] at e
        simp only [cond_true, Option.map_eq_some_iff] at e
        obtain ⟨h1, hst, e⟩ := e
        cases e
        simp only [Bool.and_eq_true] at hg
        obtain ⟨hg1, hg2⟩ := hg
        obtain ⟨i, hi, _, rfl⟩ := hx.ptr_inv
        have hc := cells_vr hy hg1
        obtain ⟨w1, r1, r2, r3, r4, r5⟩ := H.storeN (P := A.P) hn hst hi hc
        refine ⟨w1, ?_, rfl, ⟨r2, Ren.le.refl φ, fun _ _ => rfl, .tuple .nil, r3, by omega, by omega⟩⟩
        unfold sizeIs at hg2
        split at hg2
        · rename_i n hs
          have hg2 := Nat.eq_of_beq_eq_true hg2
          have hl := hc.length
          simp only [Array.length_toList] at hl
          unfold Instr.storeAt Instr.sureAddr
          rw [run_bind_ok (run_pure _ _)]
          unfold storeVar
          rw [run_bind_ok (run_size hs), if_neg (by simp; omega)]
          exact r1
        · cases hg2
  | _ => cases e

theorem copy_sound (H : HR B φ h w) (hn : h.next ≤ bound) {ts : Array TypeId} {ty : TypeId} {args : List Operand} {ρA ρC : Operand → Value} {v : Value} (hp : ∀ x ∈ args, VR φ (ρA x) (ρC x))
    (e : copyV P h ts.toList (args.map ρA) = some (v, h')) : ∃ w', (Builtin.copy_ ts ty (args.map ρC).toArray).run P w = .ok v w' ∧ Did B φ h h' w v v w' φ := by
  unfold copyV at e
  split at e
  case h_2 => cases e
  rename_i dt tl base dl dc x r ht hx
  rcases args with _ | ⟨y, _ | ⟨y2, ys⟩⟩
  · simp at hx
  · simp at hx
  simp only [List.map_cons, List.cons.injEq] at hx
  obtain ⟨hx1, hx2, hx3⟩ := hx
  have hs := hp y (by simp)
  have hxx := hp y2 (by simp)
  rw [hx1] at hs
  rw [hx2] at hxx
  clear hx1 hx2 hx3
  simp only [List.map_cons]
  generalize ρC y = s' at hs ⊢
  generalize ρC y2 = x' at hxx ⊢
  split at e
  case h_2 => cases e
  rename_i el hu
  simp only [Option.bind_eq_some_iff] at e
  obtain ⟨sz, hsz, p, hsrc, e⟩ := e
  obtain ⟨m, cs⟩ := p
  have t0 : ts[0]? = some dt := by rw [← Array.getElem?_toList, ht]; rfl
  -- what is copied
  have hread : ∃ n, (Builtin.lenOf x').run P w = .ok n w ∧ Nat.min n dl = m ∧ (m = 0 → cs = []) ∧ ∃ new : Array Value, (Builtin.firstCells sz m x').run P w = .ok new w ∧ VRL φ cs new.toList := by
    split at hsrc
    · cases hsrc
      obtain ⟨rfl, _, rfl⟩ := hxx.nilSlice_inv
      exact ⟨0, rfl, by simp, fun _ => rfl, #[], rfl, .nil⟩
    · rename_i b n _
      simp only [Option.map_eq_some_iff] at hsrc
      obtain ⟨l, hl, hsrc⟩ := hsrc
      cases hsrc
      obtain ⟨i, o', c', hi, rfl, l', e', hv⟩ := H.slice (P := P) hxx hl (fun h0 => by rw [h0]; simp)
      exact ⟨n, rfl, rfl, fun h0 => by rw [show min n dl = 0 from h0, Nat.zero_mul] at hl; exact loadN_zero hl, l'.toArray, e', by simpa using hv⟩
    · rename_i s
      obtain rfl := hxx.str_inv
      cases hsrc
      refine ⟨s.size, rfl, by simp [bl], fun h0 => by rw [h0]; rfl, (s.extract 0 (min (bl s).length dl)).data.map fun b => .int .u8 b.toNat, rfl, ?_⟩
      have : (s.extract 0 (min (bl s).length dl)).data.toList = (bl s).take (min (bl s).length dl) := by
        have := bl_extract s 0 (min (bl s).length dl)
        simp only [List.drop_zero, Nat.sub_zero] at this
        rw [← this]; rfl
      simp only [Array.toList_map, this]
      generalize (bl s).take (min (bl s).length dl) = l
      induction l with
      | nil => exact .nil
      | cons b l ih => exact .cons (.int _ _) ih
    · cases hsrc
  obtain ⟨n, hn1, hn2, hm0, new, hn3, hn4⟩ := hread
  have go : ∀ (b' : Option Addr) (w1 : World) (dc' : Nat), s' = .slice b' dl dc' → (∀ a, b' = some a → (storeCells a new.toList).run P w = .ok () w1) → (b' = none → w1 = w) →
      (Builtin.copy_ ts ty (s' :: x' :: ys.map ρC).toArray).run P w = .ok (.int .i64 (m : Int)) w1 := by
    intro b' w1 dc' hs' h1 h2
    subst hs'
    unfold Builtin.copy_
    rw [t0, show ((Value.slice b' dl dc' :: x' :: ys.map ρC).toArray)[0]? = some (.slice b' dl dc') by simp, show ((Value.slice b' dl dc' :: x' :: ys.map ρC).toArray)[1]? = some x' by simp]
    dsimp only
    rw [run_bind_ok (run_und hu)]
    dsimp only
    rw [run_bind_ok hn1, hn2, run_bind_ok (run_size hsz), run_bind_ok hn3]
    cases b' with
    | none => rw [h2 rfl]; rfl
    | some a => dsimp only; rw [run_bind_ok (h1 a rfl)]; rfl
  split at e
  · cases e
    obtain ⟨rfl, _, rfl⟩ := hs.nilSlice_inv
    have hm : m = 0 := by rw [← hn2]; simp
    subst hm
    exact ⟨w, go none w 0 rfl (by simp) (fun _ => rfl), Did.same H hn (.int _ _)⟩
  · rename_i a
    obtain ⟨i, o', c', hi, haa, rfl, hcase⟩ := hs.slice_inv
    cases hm : Nat.beq m 0 with
    | true =>
      rw [hm] at e; cases e
      have hm := Nat.eq_of_beq_eq_true hm
      subst hm
      have hne : new = #[] := by
        rw [hm0 rfl] at hn4
        have h0 := hn4.length
        rw [← Array.size_eq_zero_iff]
        simpa using h0.symm
      exact ⟨w, go _ w c' rfl (fun a ha => by rw [hne]; rfl) (by simp), Did.same H hn (.int _ _)⟩
    | false =>
      rw [hm] at e
      have hm := Nat.ne_of_beq_eq_false hm
      simp only [cond_false, Option.map_eq_some_iff] at e
      obtain ⟨h1, hst, e⟩ := e
      cases e
      have ho : o' = i.base + a.off := by
        rcases hcase with ⟨_, h2⟩ | ⟨lb, _, _, h3, h4, _⟩
        · exact h2
        · have : m ≤ dl := by rw [← hn2]; exact Nat.min_le_right _ _
          exact h4 (by omega)
      obtain ⟨w1, r1, r2, r3, r4, r5⟩ := H.storeN (P := P) hn hst hi hn4
      refine ⟨w1, go _ w1 c' rfl (fun a' ha => by cases ha; rw [ho]; exact r1) (by simp), ⟨r2, Ren.le.refl φ, fun _ _ => rfl, .int _ _, r3, by omega, by omega⟩⟩


theorem clear_sound (H : HR B φ h w) (hn : h.next ≤ bound) {ts : Array TypeId} {ty : TypeId} {args : List Operand} {ρA ρC : Operand → Value} {v : Value} (hp : ∀ x ∈ args, VR φ (ρA x) (ρC x))
    (e : clearV P h ts.toList (args.map ρA) = some (v, h')) : ∃ w', (Builtin.clear_ ts ty (args.map ρC).toArray).run P w = .ok v w' ∧ Did B φ h h' w v v w' φ := by
  unfold clearV at e
  split at e
  · rename_i t tl n c r ht hx
    rcases args with _ | ⟨y, ys⟩
    · simp at hx
    simp only [List.map_cons, List.cons.injEq] at hx
    have hs := hp y (by simp)
    rw [hx.1] at hs
    obtain ⟨rfl, rfl, hy⟩ := hs.nilSlice_inv
    have t0 : ts[0]? = some t := by rw [← Array.getElem?_toList, ht]; rfl
    split at e
    · rename_i el hu
      cases e
      refine ⟨w, ?_, Did.same H hn (.tuple .nil)⟩
      unfold Builtin.clear_
      rw [t0, show ((y :: ys).map ρC).toArray[0]? = some (.slice none 0 0) by simp [hy]]
      dsimp only
      rw [run_bind_ok (run_und hu)]
      rfl
    · cases e
  · rename_i t tl a n c r ht hx
    rcases args with _ | ⟨y, ys⟩
    · simp at hx
    simp only [List.map_cons, List.cons.injEq] at hx
    have hs := hp y (by simp)
    rw [hx.1] at hs
    obtain ⟨i, o', c', hi, haa, hy, hcase⟩ := hs.slice_inv
    have t0 : ts[0]? = some t := by rw [← Array.getElem?_toList, ht]; rfl
    split at e
    · rename_i el hu
      cases hn0 : Nat.beq n 0 with
      | true =>
        rw [hn0] at e; cases e
        have hn0 := Nat.eq_of_beq_eq_true hn0
        subst hn0
        refine ⟨w, ?_, Did.same H hn (.tuple .nil)⟩
        unfold Builtin.clear_
        rw [t0, show ((y :: ys).map ρC).toArray[0]? = some (.slice (some ⟨i.blk, o', none⟩) 0 c') by simp [hy]]
        dsimp only
        rw [run_bind_ok (run_und hu)]
        rfl
      | false =>
        rw [hn0] at e
        have hn0 := Nat.ne_of_beq_eq_false hn0
        simp only [cond_false, Option.bind_eq_some_iff, Option.map_eq_some_iff] at e
        obtain ⟨z, hz, h1, hst, e⟩ := e
        cases e
        have hzn : notAny z = true := by
          have := (zero_inv hz).1
          cases z <;> first | rfl | (simp [constOk, constCell] at this)
        have hzc := cells_vr (zero_vr (φ := φ) hz) hzn
        have ho : o' = i.base + a.off := by
          rcases hcase with ⟨_, h2⟩ | ⟨lb, _, _, h3, h4, _⟩
          · exact h2
          · exact h4 (by omega)
        obtain ⟨w1, r1, r2, r3, r4, r5⟩ := H.storeN (P := P) hn hst hi (hzc.rep n)
        refine ⟨w1, ?_, ⟨r2, Ren.le.refl φ, fun _ _ => rfl, .tuple .nil, r3, by omega, by omega⟩⟩
        unfold Builtin.clear_
        rw [t0, show ((y :: ys).map ρC).toArray[0]? = some (.slice (some ⟨i.blk, o', none⟩) n c') by simp [hy]]
        dsimp only
        obtain ⟨m, rfl⟩ : ∃ m, n = m + 1 := ⟨n - 1, by omega⟩
        rw [run_bind_ok (run_und hu)]
        simp [run_zero hz, zeroCells_eq, ho, r1]
    · cases e
  · cases e

theorem ERL.get {es es' : List MapEntry} (he : ERL φ es es') : ∀ {k : Nat} {e : MapEntry}, es[k]? = some e → ∃ e', es'[k]? = some e' ∧ ER φ e e' := by
  induction he with
  | nil => intro k e h; simp at h
  | cons h1 _ ih =>
    intro k e h
    cases k with
    | zero => simp at h; subst h; exact ⟨_, rfl, h1⟩
    | succ k => simpa using ih (by simpa using h)

theorem ERL.append {a a' b b' : List MapEntry} (h1 : ERL φ a a') (h2 : ERL φ b b') : ERL φ (a ++ b) (a' ++ b') := by
  induction h1 with
  | nil => exact h2
  | cons h _ ih => exact .cons h ih

theorem run_setObj {b : Nat} {o O : Obj} (e : w.heap[b]? = some o) (hc : ∀ c t f, o ≠ .cells c t f) : (setObj b O).run P w = .ok () { w with heap := w.heap.setIfInBounds b O } := by
  unfold setObj
  simp only [Sem.run, e]
  try (cases o <;> first | rfl | exact absurd rfl (hc _ _ _))

end Go.Ab
end

section
namespace Go.Ab
open Go.RowKit
variable {A : AProg} {P : Program} {B : Nat} {φ : Ren} {h h' : AHeap} {w w' : World}

theorem addr_ext {a b : Addr} (h1 : a.block = b.block) (h2 : a.off = b.off) (h3 : a.spot = none) (h4 : b.spot = none) : a = b := by
  cases a; cases b; simp at *; exact ⟨h1, h2, by rw [h3, h4]⟩

theorem same1_eq {x y : Value} (e : same1 x y = true) : x = y := by
  unfold same1 at e
  split at e
  · simp only [Bool.and_eq_true] at e
    have := kbeq_eq e.1
    have h2 := e.2
    rw [ieq_eq] at h2
    simp at h2
    subst this; subst h2; rfl
  · simp at e; subst e; rfl
  · rw [lbeq_eq] at e
    simp only [beq_iff_eq] at e
    congr 1
    exact ByteArray.ext (by rw [← Array.toList_inj]; exact e)
  · simp only [Bool.and_eq_true, Option.isNone_iff_eq_none] at e
    obtain ⟨⟨⟨h1, h2⟩, h3⟩, h4⟩ := e
    rw [addr_ext (Nat.eq_of_beq_eq_true h1) (Nat.eq_of_beq_eq_true h2) h3 h4]
  all_goals first
    | rfl
    | (cases e; done)
    | skip
  · simp only [Bool.and_eq_true, Option.isNone_iff_eq_none] at e
    obtain ⟨⟨⟨⟨⟨h1, h2⟩, h3⟩, h4⟩, h5⟩, h6⟩ := e
    rw [addr_ext (Nat.eq_of_beq_eq_true h1) (Nat.eq_of_beq_eq_true h2) h5 h6, Nat.eq_of_beq_eq_true h3, Nat.eq_of_beq_eq_true h4]
  · simp only [Bool.and_eq_true] at e
    rw [Nat.eq_of_beq_eq_true e.1, Nat.eq_of_beq_eq_true e.2]
  · rw [Nat.eq_of_beq_eq_true e]

theorem sameL_eq (n : Nat) : ∀ {x y : Value}, sameL n x y = true → x = y := by
  induction n with
  | zero => intro x y e; simp [sameL] at e
  | succ n ih =>
    have lists : ∀ (a b : List Value), a.length = b.length → ((a.zip b).all fun (x, y) => sameL n x y) = true → a = b := by
      intro a
      induction a with
      | nil => intro b hl _; cases b with | nil => rfl | cons => simp at hl
      | cons x a iha =>
        intro b hl e
        cases b with
        | nil => simp at hl
        | cons y b =>
          simp only [List.zip_cons_cons, List.all_cons, Bool.and_eq_true] at e
          rw [ih e.1, iha b (by simpa using hl) e.2]
    intro x y e
    unfold sameL at e
    split at e
    · simp only [Bool.and_eq_true] at e
      rw [Array.toList_inj.1 (lists _ _ (Nat.eq_of_beq_eq_true e.1) e.2)]
    · simp only [Bool.and_eq_true] at e
      rw [Array.toList_inj.1 (lists _ _ (Nat.eq_of_beq_eq_true e.1) e.2)]
    · simp only [Bool.and_eq_true] at e
      rw [Nat.eq_of_beq_eq_true e.1, ih e.2]
    · simp only [Bool.and_eq_true] at e
      obtain ⟨⟨⟨⟨h1, h2⟩, h3⟩, h4⟩, h5⟩ := e
      rw [Nat.eq_of_beq_eq_true h1, Array.toList_inj.1 (lists _ _ (Nat.eq_of_beq_eq_true h2) h4), Array.toList_inj.1 (lists _ _ (Nat.eq_of_beq_eq_true h3) h5)]
    · exact same1_eq e

theorem putK_some {t : TypeId} {k v : Value} : ∀ {es es2 : List MapEntry}, putK P t k v es = some (some es2) →
    ∃ j e, First P t k es j e ∧ e.key = k ∧ es2.length = es.length ∧ ∀ i : Nat, es2[i]? = if i = j then some { e with key := k, val := v } else es[i]? := by
  intro es
  induction es with
  | nil => intro es2 e; simp [putK] at e
  | cons x es ih =>
    intro es2 e
    unfold putK at e
    split at e
    · rename_i hq
      cases hs : sameL 3 k x.key with
      | false => rw [hs] at e; cases e
      | true =>
        rw [hs] at e
        cases e
        refine ⟨0, x, First.zero hq, (sameL_eq 3 hs).symm, rfl, fun i => ?_⟩
        cases i <;> simp
    · rename_i hq
      simp only [Option.map_eq_some_iff] at e
      obtain ⟨r, hr, e⟩ := e
      obtain ⟨es3, rfl, rfl⟩ := e
      obtain ⟨j, x', h1, h2, h3, h4⟩ := ih hr
      refine ⟨j + 1, x', First.succ hq h1, h2, by simp [h3], fun i => ?_⟩
      cases i with
      | zero => simp
      | succ i => simpa using h4 i
    · cases e

theorem putK_none {t : TypeId} {k v : Value} : ∀ {es : List MapEntry}, putK P t k v es = some none → findK P t k es = some none := by
  intro es
  induction es with
  | nil => intro _; rfl
  | cons x es ih =>
    intro e
    unfold putK at e
    unfold findK
    split at e
    · cases hs : sameL 3 k x.key with
      | false => rw [hs] at e; cases e
      | true => rw [hs] at e; cases e
    · rename_i hq
      simp only [Option.map_eq_some_iff] at e
      obtain ⟨r, hr, e⟩ := e
      cases r with
      | some => cases e
      | none => exact ih hr
    · cases e

theorem First.find {t : TypeId} {k : Value} : ∀ {es : List MapEntry} {j : Nat} {e : MapEntry}, First P t k es j e → findK P t k es = some (some e) := by
  intro es
  induction es with
  | nil => intro j e hf; have := hf.1; simp at this
  | cons x es ih =>
    intro j e hf
    cases j with
    | zero =>
      have := hf.1
      simp at this; subst this
      unfold findK
      rw [hf.2.1]
    | succ j =>
      obtain ⟨e0, h0, h1⟩ := hf.2.2 0 (by omega)
      simp at h0; subst h0
      unfold findK
      rw [h1]
      exact ih ⟨by simpa using hf.1, hf.2.1, fun i hi => by simpa using hf.2.2 (i + 1) (by omega)⟩

theorem First.unique {t : TypeId} {k : Value} {es : List MapEntry} {j j' : Nat} {e e' : MapEntry} (h1 : First P t k es j e) (h2 : First P t k es j' e') : j = j' := by
  rcases Nat.lt_trichotomy j j' with hh | hh | hh
  · obtain ⟨e0, g1, g2⟩ := h2.2.2 j hh
    rw [h1.1] at g1; cases g1
    rw [h1.2.1] at g2; cases g2
  · exact hh
  · obtain ⟨e0, g1, g2⟩ := h1.2.2 j' hh
    rw [h2.1] at g1; cases g1
    rw [h2.2.1] at g2; cases g2

theorem ERL.of_get {l l' : List MapEntry} (hn : l.length = l'.length) (h : ∀ (k : Nat) (v : MapEntry), l[k]? = some v → ∃ v', l'[k]? = some v' ∧ ER φ v v') : ERL φ l l' := by
  induction l generalizing l' with
  | nil => cases l' with | nil => exact .nil | cons => simp at hn
  | cons x l ih =>
    cases l' with
    | nil => simp at hn
    | cons y l' =>
      obtain ⟨v', e, hv⟩ := h 0 x rfl
      simp at e; subst e
      exact .cons hv (ih (by simpa using hn) fun k v e => by simpa using h (k + 1) v (by simpa using e))

theorem run_keyStays (old new : Value) : ∃ k w1, (Instr.keyThatStays old new).run P w = .ok k w1 ∧ (k = old ∨ k = new) ∧ (w1 = w ∨ w1 = { w with drawn := w.drawn + 1 }) := by
  unfold Instr.keyThatStays
  by_cases hs : Instr.sameBits 10000 old new = true
  · rw [if_pos hs]; exact ⟨new, w, rfl, .inr rfl, .inl rfl⟩
  · rw [if_neg hs]
    have hc : ∃ c, (choose (.extern "map.whichKeyStays" 2)).run P w = .ok c { w with drawn := w.drawn + 1 } := ⟨_, rfl⟩
    obtain ⟨c, hc⟩ := hc
    rw [run_bind_ok hc]
    by_cases h0 : c = 0
    · exact ⟨new, _, by rw [if_pos h0]; rfl, .inr rfl, .inr rfl⟩
    · exact ⟨old, _, by rw [if_neg h0]; rfl, .inl rfl, .inr rfl⟩

theorem mapPut_sound (H : HR B φ h w) (hn : h.next ≤ bound) {t : TypeId} {x k v x' k' v' : Value} (hx : VR φ x x') (hk : VR φ k k') (hv : VR φ v v') (e : mapPutV P h t x k v = some h') :
    ∃ w', (Instr.mapUpdate t x' k' v').run P w = .ok () w' ∧ Did B φ h h' w undef undef w' φ := by
  unfold mapPutV at e
  split at e
  case h_2 => cases e
  rename_i kt et r hu
  obtain ⟨i, hi, rfl⟩ := hx.map_inv
  cases hko : keyOk P 3 kt k with
  | false => rw [hko] at e; cases e
  | true =>
  rw [hko] at e
  simp only [cond_true] at e
  split at e
  case h_2 => cases e
  rename_i es clock hb
  have ho := H.obj _ _ _ hb hi
  have hown := H.own _ _ _ hb hi rfl
  cases ho with
  | map h1 h2 =>
  rename_i es'
  obtain ⟨dk, hdk⟩ := keyOk_und hko
  have hck : (Instr.checkKey false 10000 kt k').run P w = .ok () w := keyOk_sound 3 9997 kt k k' false hk hko
  have hlt := heap_lt h1
  unfold Instr.mapUpdate
  rw [run_bind_ok (run_und hu)]
  dsimp only
  rw [run_bind_ok (run_getObj h1)]
  dsimp only
  rw [run_bind_ok hck]
  simp only [Option.bind_eq_some_iff] at e
  obtain ⟨pr, hp, e⟩ := e
  cases pr with
  | none =>
    cases e
    obtain ⟨r', hf, hF⟩ := findKey_sound (P := P) (w := w) hdk hk h2 (putK_none hp)
    have hF : r' = none := hF
    subst hF
    rw [run_bind_ok hf]
    dsimp only
    have hset : (setObj i.blk (.map (es'.push { key := k', val := v', born := clock }) (clock + 1))).run P w = .ok () { w with heap := w.heap.setIfInBounds i.blk (.map (es'.push { key := k', val := v', born := clock }) (clock + 1)) } :=
      run_setObj h1 (by intro c t f hh; cases hh)
    refine ⟨_, hset, ?_, Ren.le.refl φ, fun _ _ => rfl, .tuple .nil, below_set _ hown, Nat.le_refl _, hn⟩
    refine H.put hb hi rfl hn ?_
    refine .map (es' := es'.push { key := k', val := v', born := clock }) (by simp [hlt]) ?_
    rw [Array.toList_push]
    exact h2.append (.cons ⟨hk, hv, rfl⟩ .nil)
  | some es2 =>
    cases e
    obtain ⟨j, e0, p1, p2, p3, p4⟩ := putK_some hp
    obtain ⟨r', hf, hF⟩ := findKey_sound (P := P) (w := w) hdk hk h2 p1.find
    obtain ⟨j', e', q1, q2, q3, q4⟩ := hF
    obtain rfl := p1.unique q1
    subst q4
    rw [run_bind_ok hf]
    dsimp only
    rw [Nat.zero_add]
    have hgk : ((es'[j]?).map (·.key)).getD k' = e'.key := by rw [← Array.getElem?_toList, q2]; rfl
    rw [hgk]
    obtain ⟨ck, w1, k1, k2, k3⟩ := run_keyStays (P := P) (w := w) e'.key k'
    rw [run_bind_ok k1]
    have hck' : VR φ k ck := by
      rcases k2 with rfl | rfl
      · rw [← p2]; exact q3.1
      · exact hk
    have hw1 : HR B φ h w1 ∧ Below B w w1 ∧ w1.heap = w.heap := by
      rcases k3 with rfl | rfl
      · exact ⟨H, Below.refl _ _, rfl⟩
      · exact ⟨H.drew, below_drew, rfl⟩
    obtain ⟨H1, hb1, hh1⟩ := hw1
    have h1' : w1.heap[i.blk]? = some (.map es' clock) := by rw [hh1]; exact h1
    refine ⟨_, run_setObj h1' (by intro c t f hh; cases hh), ?_, Ren.le.refl φ, fun _ _ => rfl, .tuple .nil, hb1.trans (below_set _ hown), Nat.le_refl _, hn⟩
    refine H1.put hb hi rfl hn ?_
    refine .map (es' := es'.modify j fun e => { e with key := ck, val := v' }) (by simp [hh1, hlt]) ?_
    have hlen := h2.length
    refine ERL.of_get (by rw [p3, hlen]; simp) ?_
    intro m u eu
    rw [p4] at eu
    rw [Array.getElem?_toList, Array.getElem?_modify]
    by_cases hm : m = j
    · subst hm
      rw [if_pos rfl] at eu
      cases eu
      rw [if_pos rfl]
      rw [Array.getElem?_toList] at q2
      rw [q2]
      exact ⟨_, rfl, hck', hv, q3.2.2⟩
    · rw [if_neg hm] at eu
      rw [if_neg (Ne.symm hm), ← Array.getElem?_toList]
      exact h2.get eu

end Go.Ab
end

section
namespace Go.Ab
open Go.RowKit
variable {A : AProg} {P : Program} {B : Nat} {φ : Ren} {h h' : AHeap} {w w' : World}

theorem range_sound (H : HR B φ h w) (hB : B ≤ w.heap.size) {t : TypeId} {x x' v : Value} (hx : VR φ x x') (e : rangeV A h t x = some (v, h')) :
    ∃ v' w' ψ, (Instr.range t x').run A.P w = .ok v' w' ∧ Did B φ h h' w v v' w' ψ := by
  unfold rangeV at e
  split at e
  · rename_i s hu
    simp only [Option.map_eq_some_iff] at e
    obtain ⟨q, hq, e⟩ := e
    obtain ⟨b, h1⟩ := q
    cases e
    obtain rfl := hx.str_inv
    refine ⟨.pointer (some ⟨w.heap.size, 0, none⟩), _, _, ?_, Did.push (i := ⟨w.heap.size, 0, 0, 0⟩) (O := .stringIter s 0) (f := fun b => .pointer (some ⟨b, 0, none⟩)) H hq hB rfl ?_⟩
    · unfold Instr.range
      rw [run_bind_ok (run_und hu)]
      dsimp only
      rw [run_bind_ok (run_pure _ _), run_bind_ok (run_newObj _)]
      rfl
    · intro ψ hle hb
      exact ⟨.strIter (s' := s) (by simp) rfl rfl, by simpa using VR.ptr (φ := ψ) (o := 0) hb⟩
  · rename_i hu
    simp only [Option.map_eq_some_iff] at e
    obtain ⟨q, hq, e⟩ := e
    obtain ⟨b, h1⟩ := q
    cases e
    obtain rfl := hx.nilMap_inv
    refine ⟨.pointer (some ⟨w.heap.size, 0, none⟩), _, _, ?_, Did.push (i := ⟨w.heap.size, 0, 0, 0⟩) (O := .mapIter none 0 #[] 0) (f := fun b => .pointer (some ⟨b, 0, none⟩)) H hq hB rfl ?_⟩
    · unfold Instr.range
      rw [run_bind_ok (run_und hu)]
      dsimp only
      rw [run_bind_ok (run_pure _ _), run_bind_ok (run_newObj _)]
      rfl
    · intro ψ hle hb
      exact ⟨.mapIterN (seen' := #[]) (by simp) rfl rfl, by simpa using VR.ptr (φ := ψ) (o := 0) hb⟩
  · rename_i m hu
    split at e
    · rename_i es clock hb
      simp only [Option.map_eq_some_iff] at e
      obtain ⟨q, hq, e⟩ := e
      obtain ⟨b, h1⟩ := q
      cases e
      obtain ⟨i, hi, rfl⟩ := hx.map_inv
      have ho := H.obj _ _ _ hb hi
      cases ho with
      | map g1 g2 =>
        refine ⟨.pointer (some ⟨w.heap.size, 0, none⟩), _, _, ?_, Did.push (i := ⟨w.heap.size, 0, 0, 0⟩) (O := .mapIter (some i.blk) clock #[] clock) (f := fun b => .pointer (some ⟨b, 0, none⟩)) H hq hB rfl ?_⟩
        · unfold Instr.range
          rw [run_bind_ok (run_und hu)]
          dsimp only
          have : (do let .map _ clock ← getObj i.blk | stuck "Range: map expected"
                     pure (Obj.mapIter (some i.blk) clock #[] clock) : Sem Obj).run A.P w = .ok (.mapIter (some i.blk) clock #[] clock) w := by
            rw [run_bind_ok (run_getObj g1)]; rfl
          simp only [Sem.run_bind, run_getObj g1, Result.andThen_ok, Sem.run_pure, run_newObj]
        · intro ψ hle hb
          exact ⟨.mapIter (seen' := #[]) (hle _ _ hi) (by simp) rfl rfl, by simpa using VR.ptr (φ := ψ) (o := 0) hb⟩
    · cases e
  · cases e

theorem run_getIter {b : Nat} {o : Obj} (e : w.heap[b]? = some o) (hc : ∀ c t f, o ≠ .cells c t f) : (getObj b).run P w = .ok o w := by
  unfold getObj
  simp only [Sem.run, e]
  try (cases o <;> first | rfl | exact absurd rfl (hc _ _ _))

theorem assert_sound {t xt : TypeId} {x x' v : Value} {ok : Bool} (hx : VR φ x x') (e : assertV A x t ok = some v) : ∃ v', (Instr.typeAssert x' xt t ok).run A.P w = .ok v' w ∧ VR φ v v' := by
  have hfail : ∀ {s d : Option TypeId} {m : String}, (cond ok ((zero? A.P t).map fun z => Value.tuple #[z, .bool false]) none) = some v →
      ∃ v', (if ok then (do pure (.tuple #[← zeroValue t, .bool false])) else runtimePanic (.typeAssertion s d t m) : Sem Value).run A.P w = .ok v' w ∧ VR φ v v' := by
    intro s d m e
    cases ok with
    | false => cases e
    | true =>
      simp only [cond_true, Option.map_eq_some_iff] at e
      obtain ⟨z, hz, rfl⟩ := e
      refine ⟨.tuple #[z, .bool false], ?_, .tuple (.cons (zero_vr hz) (.cons (.bool _) .nil))⟩
      rw [if_pos rfl, run_bind_ok (run_zero hz)]; rfl
  have hhold : ∀ {u u' : Value}, VR φ u u' → some (cond ok (Value.tuple #[u, .bool true]) u) = some v → ∃ v', (pure (if ok then .tuple #[u', .bool true] else u') : Sem Value).run A.P w = .ok v' w ∧ VR φ v v' := by
    intro u u' hu e
    cases e
    cases ok
    · exact ⟨u', rfl, hu⟩
    · exact ⟨_, rfl, .tuple (.cons hu (.cons (.bool _) .nil))⟩
  unfold assertV at e
  unfold Instr.typeAssert
  split at e
  · rename_i ms hu
    obtain rfl := hx.nilIface_inv
    rw [run_bind_ok (run_und hu)]
    exact hfail e
  · cases e
  · rename_i d hd hu
    obtain rfl := hx.nilIface_inv
    rw [run_bind_ok (run_und hu)]
    cases d <;> first | exact hfail e | exact absurd rfl (hd _)
  · rename_i d t' u hd hu
    obtain ⟨u', rfl, hu'⟩ := hx.iface_inv
    rw [run_bind_ok (run_und hu)]
    cases hb : Nat.beq t' t with
    | true =>
      rw [hb] at e
      have hb := Nat.eq_of_beq_eq_true hb
      subst hb
      cases d <;> first | exact absurd rfl (hd _) | (dsimp only; rw [if_pos rfl]; exact hhold hu' e)
    | false =>
      rw [hb] at e
      have hb := Nat.ne_of_beq_eq_false hb
      cases d <;> first | exact absurd rfl (hd _) | (dsimp only; rw [if_neg hb]; exact hfail e)
  · cases e


theorem ERL.filter {p q : MapEntry → Bool} (hpq : ∀ e e', ER φ e e' → p e = q e') {es es' : List MapEntry} (he : ERL φ es es') : ERL φ (es.filter p) (es'.filter q) := by
  induction he with
  | nil => exact .nil
  | cons h1 _ ih =>
    simp only [List.filter_cons]
    rw [hpq _ _ h1]
    split
    · exact .cons h1 ih
    · exact ih

theorem ERL.all {p q : MapEntry → Bool} (hpq : ∀ e e', ER φ e e' → p e = q e') {es es' : List MapEntry} (he : ERL φ es es') : es.all p = es'.all q := by
  induction he with
  | nil => rfl
  | cons h1 _ ih => simp only [List.all_cons, ih, hpq _ _ h1]

theorem ERL.isEmpty {es es' : List MapEntry} (he : ERL φ es es') : es.isEmpty = es'.isEmpty := by cases he <;> rfl

/-- the model's own list of what may come next -/
def candsM (es : Array MapEntry) (since : Nat) (seen : Array Nat) : Array (Option MapEntry) :=
  let left := es.filter fun e => !seen.contains e.born
  let old := left.filter (·.born < since)
  let new := left.filter (·.born ≥ since)
  (if old.isEmpty then #[none] else #[]) ++ (old ++ new).map some

def CR (φ : Ren) : Option MapEntry → Option MapEntry → Prop
  | none, none => True
  | some e, some e' => ER φ e e'
  | _, _ => False

inductive CRL (φ : Ren) : List (Option MapEntry) → List (Option MapEntry) → Prop
  | nil : CRL φ [] []
  | cons {e e' l l'} : CR φ e e' → CRL φ l l' → CRL φ (e :: l) (e' :: l')

theorem CRL.append {a a' b b' : List (Option MapEntry)} (h1 : CRL φ a a') (h2 : CRL φ b b') : CRL φ (a ++ b) (a' ++ b') := by
  induction h1 with
  | nil => exact h2
  | cons h _ ih => exact .cons h ih
theorem CRL.map {es es' : List MapEntry} (he : ERL φ es es') : CRL φ (es.map some) (es'.map some) := by
  induction he with
  | nil => exact .nil
  | cons h _ ih => exact .cons h ih
theorem CRL.length {a a' : List (Option MapEntry)} (h : CRL φ a a') : a.length = a'.length := by
  induction h with
  | nil => rfl
  | cons _ _ ih => simp [ih]
theorem CRL.get {a a' : List (Option MapEntry)} (h : CRL φ a a') : ∀ {k : Nat} {c' : Option MapEntry}, a'[k]? = some c' → ∃ c, a[k]? = some c ∧ CR φ c c' := by
  induction h with
  | nil => intro k c e; simp at e
  | cons h1 _ ih =>
    intro k c e
    cases k with
    | zero => simp at e; subst e; exact ⟨_, rfl, h1⟩
    | succ k => simpa using ih (by simpa using e)

theorem cands_rel {es : List MapEntry} {es' : Array MapEntry} (he : ERL φ es es'.toList) {since : Nat} {seen' : Array Nat} : CRL φ (cands es since seen'.toList) (candsM es' since seen').toList := by
  unfold cands candsM
  have h1 : ERL φ (es.filter fun e => !(seen'.toList.any fun b => Nat.beq b e.born)) (es'.filter fun e => !seen'.contains e.born).toList := by
    rw [Array.toList_filter]
    refine he.filter fun e e' h => ?_
    rw [h.2.2]
    congr 1
    rw [← Array.contains_toList, List.contains_eq_any_beq]
    congr 1
    funext b
    cases hbb : Nat.beq b e'.born with
    | true => have := Nat.eq_of_beq_eq_true hbb; subst this; simp
    | false => have := Nat.ne_of_beq_eq_false hbb; symm; simpa using Ne.symm this
  have h2 : ERL φ ((es.filter fun e => !(seen'.toList.any fun b => Nat.beq b e.born)).filter fun e => Nat.blt e.born since) ((es'.filter fun e => !seen'.contains e.born).filter (·.born < since)).toList := by
    rw [Array.toList_filter]
    refine h1.filter fun e e' h => ?_
    rw [h.2.2, Bool.eq_iff_iff]; simp [Nat.blt_eq]
  have h3 : ERL φ ((es.filter fun e => !(seen'.toList.any fun b => Nat.beq b e.born)).filter fun e => !Nat.blt e.born since) ((es'.filter fun e => !seen'.contains e.born).filter (·.born ≥ since)).toList := by
    rw [Array.toList_filter]
    refine h1.filter fun e e' h => ?_
    rw [h.2.2, Bool.eq_iff_iff]
    cases hb : Nat.blt e'.born since with
    | true => have : e'.born < since := by simpa [Nat.blt_eq] using hb
              simp; omega
    | false => have : ¬ e'.born < since := by intro hh; rw [← Nat.blt_eq] at hh; rw [hh] at hb; cases hb
               simp; omega
  simp only
  rw [Array.toList_append, Array.toList_map, Array.toList_append]
  refine CRL.append ?_ (CRL.map (h2.append h3))
  have hem : (((es'.filter fun e => !seen'.contains e.born).filter (·.born < since))).isEmpty = ((es.filter fun e => !(seen'.toList.any fun b => Nat.beq b e.born)).filter fun e => Nat.blt e.born since).isEmpty := by
    rw [h2.isEmpty, Array.isEmpty_toList]
  rw [hem]
  cases ((es.filter fun e => !(seen'.toList.any fun b => Nat.beq b e.born)).filter fun e => Nat.blt e.born since).isEmpty
  · exact .nil
  · exact .cons trivial .nil


theorem next_core (H : HR B φ h w) (hn : h.next ≤ bound) {r mb since stepped clock : Nat} {seen : List Nat} {es : List MapEntry} {i j : Info} {ty : TypeId}
    (hr : h.get r = some (.mapIter (some mb) since seen stepped)) (hm : h.get mb = some (.map es clock)) (hi : φ r = some i) (hj : φ mb = some j)
    (hg : (!seen.isEmpty && !es.isEmpty && es.all fun e => Nat.ble stepped e.born) = false) :
    ∃ c, c ∈ cands es since seen ∧ ∃ v' w', (Instr.next (.pointer (some ⟨i.blk, 0, none⟩)) false ty).run P w = .ok v' w' ∧ Did B φ h (nextC h r mb since seen clock c).2 w (nextC h r mb since seen clock c).1 v' w' φ := by
  have o1 := H.obj _ _ _ hr hi
  have o2 := H.obj _ _ _ hm hj
  have hown := H.own _ _ _ hr hi rfl
  cases o1 with
  | mapIter q0 q1 q2 q3 =>
  rename_i j' seen'
  rw [hj] at q0; cases q0
  cases o2 with
  | map p1 p2 =>
  rename_i es'
  subst q2
  have hcr := cands_rel p2 (since := since) (seen' := seen')
  have hlen := hcr.length
  have hgM : (!seen'.isEmpty && !es'.isEmpty && es'.all (·.born ≥ stepped)) = false := by
    rw [← hg]
    have e1 : seen'.isEmpty = seen'.toList.isEmpty := by rw [Array.isEmpty_toList]
    have e2 : es'.isEmpty = es.isEmpty := by rw [p2.isEmpty, Array.isEmpty_toList]
    have e3 : es'.all (·.born ≥ stepped) = es.all fun e => Nat.ble stepped e.born := by
      rw [← Array.all_toList]
      symm
      refine p2.all fun e e' h => ?_
      rw [h.2.2, Bool.eq_iff_iff]; simp
    rw [e1, e2, e3]
  have hpos : 0 < (candsM es' since seen').size := by
    unfold candsM
    simp only [Array.size_append, Array.size_map]
    by_cases he : ((es'.filter fun e => !seen'.contains e.born).filter (·.born < since)).isEmpty
    · rw [if_pos he]; simp; omega
    · rw [if_neg he]
      have : ((es'.filter fun e => !seen'.contains e.born).filter (·.born < since)).size ≠ 0 := by
        intro h0
        rw [Array.size_eq_zero_iff] at h0
        rw [h0] at he; simp at he
      omega
  obtain ⟨k, w1, hk, hkr, hw1⟩ : ∃ k w1, k < (candsM es' since seen').size ∧ (choose (.mapNext (candsM es' since seen').size)).run P w = .ok k w1 ∧ (w1 = w ∨ w1 = { w with drawn := w.drawn + 1 }) := by
    by_cases hf : (candsM es' since seen').size ≤ 1
    · refine ⟨0, w, hpos, ?_, .inl rfl⟩
      simp [choose, Sem.run, Question.forced, hf]
    · refine ⟨_, { w with drawn := w.drawn + 1 }, ?_, by simp [choose, Sem.run, Question.forced, hf]; rfl, .inr rfl⟩
      simp only [Question.cut]
      exact Nat.mod_lt _ hpos
  have hH1 : HR B φ h w1 ∧ Below B w w1 ∧ w1.heap = w.heap := by
    rcases hw1 with rfl | rfl
    · exact ⟨H, Below.refl _ _, rfl⟩
    · exact ⟨H.drew, below_drew, rfl⟩
  obtain ⟨H1, hb1, hh1⟩ := hH1
  have hck : (candsM es' since seen').toList[k]? = some (candsM es' since seen')[k] := by
    rw [Array.getElem?_toList, Array.getElem?_eq_getElem hk]
  obtain ⟨c, hc1, hc2⟩ := hcr.get hck
  refine ⟨c, List.mem_of_getElem? hc1, ?_⟩
  have hrun : (Instr.next (.pointer (some ⟨i.blk, 0, none⟩)) false ty).run P w =
      ((match (candsM es' since seen')[k]? with
        | some (some e) => do
          setObj i.blk (.mapIter (some j.blk) since (seen'.push e.born) clock)
          pure (.tuple #[.bool true, e.key, e.val])
        | some none => pure (.tuple #[.bool false])
        | none => stuck "Next: no such candidate" : Sem Value)).run P w1 := by
    unfold Instr.next
    change Sem.run P (getObj i.blk >>= _) w = _
    rw [run_bind_ok (run_getIter q1 (by intro c t f hh; cases hh))]
    change Sem.run P (getObj j.blk >>= _) w = _
    rw [run_bind_ok (run_getObj p1)]
    dsimp only
    rw [hgM]
    rw [if_neg (by decide)]
    have := run_bind_ok (f := fun k => (match (candsM es' since seen')[k]? with
        | some (some e) => do
          setObj i.blk (.mapIter (some j.blk) since (seen'.push e.born) clock)
          pure (.tuple #[.bool true, e.key, e.val])
        | some none => pure (.tuple #[.bool false])
        | none => stuck "Next: no such candidate" : Sem Value)) hkr
    exact this
  rw [hrun, Array.getElem?_eq_getElem hk]
  cases hcv : (candsM es' since seen')[k] with
  | none =>
    rw [hcv] at hc2
    cases c with
    | some e => exact hc2.elim
    | none =>
      exact ⟨_, w1, rfl, ⟨H1, Ren.le.refl φ, fun _ _ => rfl, .tuple (.cons (.bool _) .nil), hb1, Nat.le_refl _, hn⟩⟩
  | some e' =>
    rw [hcv] at hc2
    cases c with
    | none => exact hc2.elim
    | some e =>
      have q1' : w1.heap[i.blk]? = some (.mapIter (some j.blk) since seen' stepped) := by rw [hh1]; exact q1
      have hlt := heap_lt q1'
      refine ⟨.tuple #[.bool true, e'.key, e'.val], _, by
        dsimp only
        rw [run_bind_ok (run_setObj q1' (by intro c t f hh; cases hh))]; rfl, ?_, Ren.le.refl φ, fun _ _ => rfl, .tuple (.cons (.bool _) (.cons hc2.1 (.cons hc2.2.1 .nil))), hb1.trans (below_set _ hown), Nat.le_refl _, hn⟩
      refine H1.put hr hi rfl hn ?_
      refine .mapIter (seen' := seen'.push e'.born) hj (by simp [hlt]) ?_ q3
      rw [Array.toList_push, hc2.2.2]

end Go.Ab
end
