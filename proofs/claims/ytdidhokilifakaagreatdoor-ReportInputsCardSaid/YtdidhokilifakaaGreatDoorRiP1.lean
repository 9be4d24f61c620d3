/- Part of the proof that ReportInputs gives true at every text: plain law: numbers of a line: strconv's words beside the document's; plain law: words, lines, names: the library's words beside the document's; walks: digit, part, Kept, Ident, Number, number of the document's answer; memory: what there is to take, as it lies; steps of it; plain law: what a round of the document's loops does; walk: Words of the document's answer; walks: Number and number of the document's answer; walk: input of the document's answer; walks: the closures, slices.ContainsFunc at bytes and at inputs, token's names; walks: token.Kept, token.Ident: the report's side of a name. -/
import Derived.Lib.AtoiAll
import Derived.Lib.AtoiAllCases
import Derived.Lib.ItoaNum
import Derived.Lib.Strings
import GoSem.Op.String
import Derived.Lib.Split
import Derived.Lib.SplitLaws
import Derived.Lib.FieldsP
import Derived.Test.YtdidhokilifakaaGreatDoorProg
import Derived.WalkKit
import Derived.WalkSpells
import Derived.WalkLawsBesides
import Derived.Deep.LoopGhost
import Derived.Lib.Hide
import Derived.Lib.IndexBytes
import Derived.Deep.QuietTactic
import Derived.BigQuiet
import Derived.Test.YtdidhokilifakaaGreatDoorShelf

section
namespace Go.Rin
open Go.Lib

def isDig (c : UInt8) : Bool := decide (48 ≤ c.toNat) && decide (c.toNat ≤ 57)

theorem isDig_iff {c : UInt8} : isDig c = true ↔ 48 ≤ c.toNat ∧ c.toNat ≤ 57 := by simp [isDig]

def decV (a : Nat) (l : List UInt8) : Nat := l.foldl (fun a c => a * 10 + (c.toNat - 48)) a
theorem decV_nil (a : Nat) : decV a [] = a := by unfold decV; rw [List.foldl_nil]
theorem decV_cons (c : UInt8) (l : List UInt8) (a : Nat) : decV a (c :: l) = decV (a * 10 + (c.toNat - 48)) l := by unfold decV; rw [List.foldl_cons]

theorem decV_append (l r : List UInt8) (a : Nat) : decV a (l ++ r) = decV (decV a l) r := by unfold decV; rw [List.foldl_append]

theorem decV_snoc (l : List UInt8) (c : UInt8) (a : Nat) : decV a (l ++ [c]) = decV a l * 10 + (c.toNat - 48) := by
  rw [decV_append, decV_cons, decV_nil]

theorem decV_ge : ∀ (l : List UInt8) (a : Nat), a ≤ decV a l
  | [], a => by rw [decV_nil]; exact Nat.le_refl a
  | c :: l, a => by
    have := decV_ge l (a * 10 + (c.toNat - 48))
    simp only [decV_cons]
    omega

theorem decV_ge_pow : ∀ (l : List UInt8) (a : Nat), a * 10 ^ l.length ≤ decV a l
  | [], a => by simp [decV_nil]
  | c :: l, a => by
    have ih := decV_ge_pow l (a * 10 + (c.toNat - 48))
    have : a * 10 ^ (l.length + 1) ≤ (a * 10 + (c.toNat - 48)) * 10 ^ l.length := by
      rw [Nat.pow_succ, Nat.add_mul, Nat.mul_assoc, Nat.mul_comm (10 ^ l.length) 10]
      exact Nat.le_add_right _ _
    simp only [decV_cons, List.length_cons]
    omega

theorem decV_lt_pow : ∀ (l : List UInt8) (a : Nat), l.all isDig = true → decV a l < (a + 1) * 10 ^ l.length
  | [], a, _ => by simp [decV_nil]
  | c :: l, a, h => by
    simp only [List.all_cons, Bool.and_eq_true] at h
    have hd := isDig_iff.1 h.1
    have ih := decV_lt_pow l (a * 10 + (c.toNat - 48)) h.2
    have : (a * 10 + (c.toNat - 48) + 1) * 10 ^ l.length ≤ (a + 1) * 10 ^ (l.length + 1) := by
      rw [Nat.pow_succ, Nat.mul_comm (10 ^ l.length) 10, ← Nat.mul_assoc]
      exact Nat.mul_le_mul_right _ (by omega)
    simp only [decV_cons, List.length_cons]
    omega

theorem decV_take_le (l : List UInt8) (k : Nat) : decV 0 (l.take k) ≤ decV 0 l := by
  have := decV_append (l.take k) (l.drop k) 0
  rw [List.take_append_drop] at this
  rw [this]
  exact decV_ge _ _

theorem parse_ok : ∀ (l : List UInt8) (a : Nat), l.all isDig = true → decV a l < 18446744073709551616 → parseUint10 a l = .ok (decV a l)
  | [], a, _, _ => by rw [decV_nil]; rfl
  | c :: l, a, h, hb => by
    simp only [List.all_cons, Bool.and_eq_true] at h
    have hd := isDig_iff.1 h.1
    simp only [decV_cons] at hb ⊢
    have hge := decV_ge l (a * 10 + (c.toNat - 48))
    simp only [parseUint10]
    rw [if_pos hd, if_neg (by omega), if_neg (by omega)]
    exact parse_ok l _ h.2 hb

theorem parse_inv : ∀ (l : List UInt8) (a u : Nat), parseUint10 a l = .ok u → l.all isDig = true ∧ u = decV a l
  | [], a, u, h => by
    simp only [parseUint10] at h
    injection h with h
    exact ⟨rfl, by rw [decV_nil]; exact h.symm⟩
  | c :: l, a, u, h => by
    simp only [parseUint10] at h
    split at h
    · rename_i hd
      split at h
      · cases h
      · split at h
        · cases h
        · have := parse_inv l _ u h
          refine ⟨?_, this.2⟩
          rw [List.all_cons, this.1, isDig_iff.2 hd]
          rfl
    · cases h

theorem decDigits_small {u : Nat} (h : u < 10) : decDigits u = [UInt8.ofNat (48 + u)] := by rw [decDigits, dif_pos h]
theorem decDigits_big {u : Nat} (h : ¬ u < 10) : decDigits u = decDigits (u / 10) ++ [UInt8.ofNat (48 + u % 10)] := by rw [decDigits, dif_neg h]

theorem ofNat_toNat {d : Nat} (h : d < 10) : (UInt8.ofNat (48 + d)).toNat = 48 + d := by
  rw [UInt8.toNat_ofNat']
  omega

theorem head_append {l r : List UInt8} (h : l ≠ []) : (l ++ r).head? = l.head? := by
  cases l with
  | nil => exact absurd rfl h
  | cons a l => rfl

theorem decDigits_spec (u : Nat) : (decDigits u).all isDig = true ∧ decDigits u ≠ [] ∧ ((decDigits u).head? = some 48 → (decDigits u).length = 1) ∧ decV 0 (decDigits u) = u := by
  induction u using Nat.strongRecOn with
  | _ u ih =>
    by_cases h : u < 10
    · rw [decDigits_small h]
      have := ofNat_toNat h
      refine ⟨?_, by simp, fun _ => rfl, ?_⟩
      · simp only [List.all_cons, List.all_nil, Bool.and_true]
        rw [isDig_iff, this]
        omega
      · simp only [decV_nil, decV_cons, this]
        omega
    · rw [decDigits_big h]
      obtain ⟨h1, h2, h3, h4⟩ := ih (u / 10) (by omega)
      have hd : u % 10 < 10 := Nat.mod_lt _ (by decide)
      have ho := ofNat_toNat hd
      refine ⟨?_, by simp, ?_, ?_⟩
      · rw [List.all_append, h1, Bool.true_and]
        simp only [List.all_cons, List.all_nil, Bool.and_true]
        rw [isDig_iff, ho]
        omega
      · rw [head_append h2]
        intro hh
        exfalso
        have hl := h3 hh
        match hm : decDigits (u / 10), hl, hh with
        | [c], _, hh =>
          simp only [List.head?_cons, Option.some.injEq] at hh
          subst hh
          rw [hm] at h4
          simp [decV_nil, decV_cons] at h4
          omega
      · rw [decV_snoc, h4, ho]
        omega

theorem decDigits_of : ∀ (n : Nat) (l : List UInt8), l.length = n → l.all isDig = true → l ≠ [] → (l.head? = some 48 → l.length = 1) → decDigits (decV 0 l) = l
  | 0, l, hn, _, hne, _ => absurd (List.eq_nil_of_length_eq_zero hn) hne
  | n + 1, l, hn, hd, hne, hz => by
    obtain ⟨r, c, rfl⟩ : ∃ r c, l = r ++ [c] := ⟨l.dropLast, l.getLast hne, (List.dropLast_concat_getLast hne).symm⟩
    rw [List.all_append] at hd
    simp only [List.all_cons, List.all_nil, Bool.and_true, Bool.and_eq_true] at hd
    have hc := isDig_iff.1 hd.2
    rw [decV_snoc]
    have hof : UInt8.ofNat (48 + (c.toNat - 48)) = c := by
      apply UInt8.toNat_inj.1
      rw [UInt8.toNat_ofNat']
      have := UInt8.toNat_lt c
      omega
    cases r with
    | nil =>
      simp only [decV_nil, Nat.zero_mul, Nat.zero_add, List.nil_append]
      rw [decDigits_small (by omega), hof]
    | cons a r =>
      have ha : a.toNat ≠ 48 := by
        intro h48
        have ha48 : a = 48 := UInt8.toNat_inj.1 (by rw [h48]; rfl)
        have := hz (by rw [ha48]; rfl)
        simp at this
      have hda := hd.1
      simp only [List.all_cons, Bool.and_eq_true] at hda
      have hda' := isDig_iff.1 hda.1
      have hge := decV_ge r (0 * 10 + (a.toNat - 48))
      have hpos : 1 ≤ decV 0 (a :: r) := by simp only [decV_cons]; omega
      rw [decDigits_big (by omega)]
      have e1 : (decV 0 (a :: r) * 10 + (c.toNat - 48)) / 10 = decV 0 (a :: r) := by omega
      have e2 : (decV 0 (a :: r) * 10 + (c.toNat - 48)) % 10 = c.toNat - 48 := by omega
      rw [e1, e2, hof, decDigits_of n (a :: r) (by simpa using hn) hd.1 (by simp) (fun hh => absurd (by simpa using congrArg (Option.map UInt8.toNat) hh) ha)]

def numOk (l : List UInt8) : Prop := l ≠ [] ∧ l.all isDig = true ∧ (l.head? = some 48 → l.length = 1) ∧ decV 0 l ≤ 9223372036854775807
instance (l : List UInt8) : Decidable (numOk l) := by unfold numOk; exact inferInstance
/-- the number that a row of digits is; none: it is none -/
def numV (l : List UInt8) : Option Nat := if numOk l then some (decV 0 l) else none

theorem numV_some {l : List UInt8} (h : numOk l) : numV l = some (decV 0 l) := if_pos h
theorem numV_none {l : List UInt8} (h : ¬ numOk l) : numV l = none := if_neg h
theorem numV_inv {l : List UInt8} {m : Nat} (h : numV l = some m) : numOk l ∧ m = decV 0 l := by
  unfold numV at h
  split at h
  · rename_i hk; exact ⟨hk, (Option.some.inj h).symm⟩
  · cases h

theorem itoa_nonneg {n : Int} (h : 0 ≤ n) : itoa n = decDigits n.toNat := by
  unfold itoa
  rw [if_neg (by omega)]

theorem atoi_of_numV {l : List UInt8} {m : Nat} (h : numV l = some m) : atoiAll l = .ok (m : Int) ∧ itoa (m : Int) = l ∧ m ≤ 9223372036854775807 := by
  obtain ⟨⟨h1, h2, h3, h4⟩, rfl⟩ := numV_inv h
  refine ⟨?_, ?_, h4⟩
  · match l, h1, h2, h4 with
    | c :: r, h1, h2, h4 =>
      have hc : isDig c = true := by simp only [List.all_cons, Bool.and_eq_true] at h2; exact h2.1
      have hc := isDig_iff.1 hc
      have hp : parseMag (c :: r) = .ok (decV 0 (c :: r)) := by
        unfold parseMag
        rw [if_neg (by simp), parse_ok _ _ h2 (by omega)]
      unfold atoiAll
      simp only
      rw [if_neg (by omega), hp]
      simp only
      rw [if_neg (by omega), if_neg (by omega), if_neg (by omega)]
  · rw [itoa_nonneg (by omega), Int.toNat_natCast]
    exact decDigits_of _ l rfl h2 h1 h3

theorem numV_of_atoi {l : List UInt8} {n : Int} (h : atoiAll l = .ok n) (h0 : 0 ≤ n) (hi : itoa n = l) : numV l = some n.toNat := by
  rw [itoa_nonneg h0] at hi
  obtain ⟨g1, g2, g3, g4⟩ := decDigits_spec n.toNat
  rw [hi] at g1 g2 g3 g4
  have hb := atoiAll_bounds h
  rw [numV_some ⟨g2, g1, g3, by omega⟩, g4]

/-- .. which may have one - ahead -/
def signV (l : List UInt8) : Option Int := if l.head? = some 45 then (numV (l.drop 1)).map fun m => -(m : Int) else (numV l).map fun m => (m : Int)

theorem trim_eq (l : List UInt8) : trimPrefix l [45] = if l.head? = some 45 then l.drop 1 else l := by
  cases l with
  | nil => rfl
  | cons c r =>
    unfold trimPrefix hasPrefix
    by_cases h : c = 45
    · subst h; simp [List.isPrefixOf]
    · have h' : ¬ (45 : UInt8) = c := fun e => h e.symm
      simp [List.isPrefixOf, h, h']

theorem sign_some {l : List UInt8} {m : Nat} (h : numV (trimPrefix l [45]) = some m) :
    signV l = some (if (trimPrefix l [45]).length < l.length then -(m : Int) else (m : Int)) := by
  unfold signV
  rw [trim_eq] at h ⊢
  by_cases hh : l.head? = some 45
  · simp only [hh, if_true] at h ⊢
    rw [h]
    have : (l.drop 1).length < l.length := by
      cases l with
      | nil => cases hh
      | cons c r => simp
    rw [if_pos this]
    rfl
  · rw [if_neg hh] at h ⊢
    rw [h, if_neg hh, if_neg (by omega)]
    rfl

theorem sign_none {l : List UInt8} (h : numV (trimPrefix l [45]) = none) : signV l = none := by
  unfold signV
  rw [trim_eq] at h
  by_cases hh : l.head? = some 45
  · rw [if_pos hh] at h ⊢; rw [h]; rfl
  · rw [if_neg hh] at h ⊢; rw [h]; rfl

/-! the document's own tests -/
theorem num_nodig {l : List UInt8} {k : Nat} {c : UInt8} (hk : l[k]? = some c) (hc : isDig c = false) : numV l = none := by
  refine numV_none fun h => ?_
  have := List.all_eq_true.1 h.2.1 c (List.mem_of_getElem? hk)
  rw [hc] at this; cases this

theorem num_nil : numV [] = none := numV_none fun h => h.1 rfl

theorem num_zero {l : List UInt8} (h1 : 1 < l.length) (h : l.head? = some 48) : numV l = none :=
  numV_none fun hk => by have := hk.2.2.1 h; omega

theorem big_of_long {l : List UInt8} (hd : l.all isDig = true) (h19 : 19 < l.length) (hz : l.head? ≠ some 48) : 9223372036854775807 < decV 0 l := by
  match l, hd, h19, hz with
  | c :: r, hd, h19, hz =>
    have hc : isDig c = true := by simp only [List.all_cons, Bool.and_eq_true] at hd; exact hd.1
    have hc := isDig_iff.1 hc
    have hc48 : c.toNat ≠ 48 := fun h => hz (by rw [show c = 48 from UInt8.toNat_inj.1 (by rw [h]; rfl)]; rfl)
    have hp := decV_ge_pow r (0 * 10 + (c.toNat - 48))
    have hl : 10 ^ 19 ≤ 10 ^ r.length := Nat.pow_le_pow_right (by decide) (by simp at h19; omega)
    have h1 : 1 * 10 ^ 19 ≤ (0 * 10 + (c.toNat - 48)) * 10 ^ r.length := Nat.mul_le_mul (by omega) hl
    simp only [decV_cons]
    omega

theorem num_long {l : List UInt8} (hd : l.all isDig = true) (h19 : 19 < l.length) (hz : l.head? ≠ some 48) : numV l = none :=
  numV_none fun hk => by have := big_of_long hd h19 hz; have := hk.2.2.2; omega

theorem less_dec : ∀ (x y : List UInt8) (a : Nat), x.length = y.length → x.all isDig = true → y.all isDig = true → (Op.bytesLess x y = true ↔ decV a x < decV a y)
  | [], [], a, _, _, _ => by simp [Op.bytesLess]
  | c :: x, [], a, h, _, _ => by simp at h
  | [], c :: y, a, h, _, _ => by simp at h
  | c :: x, d :: y, a, h, hx, hy => by
    simp only [List.all_cons, Bool.and_eq_true] at hx hy
    have hc := isDig_iff.1 hx.1
    have hd := isDig_iff.1 hy.1
    have hl : x.length = y.length := by simpa using h
    have mono : ∀ (x y : List UInt8) (a b : Nat), x.length = y.length → x.all isDig = true → a < b → decV a x < decV b y := by
      intro x y a b hl hx hab
      have h1 := decV_lt_pow x a hx
      have h2 := decV_ge_pow y b
      have h3 : (a + 1) * 10 ^ x.length ≤ b * 10 ^ y.length := by rw [hl]; exact Nat.mul_le_mul_right _ hab
      omega
    simp only [Op.bytesLess, decV_cons, Bool.or_eq_true, Bool.and_eq_true, decide_eq_true_eq, beq_iff_eq, UInt8.lt_iff_toNat_lt]
    rcases Nat.lt_trichotomy c.toNat d.toNat with hcd | hcd | hcd
    · exact ⟨fun _ => mono _ _ _ _ hl hx.2 (by omega), fun _ => .inl hcd⟩
    · have e : c = d := UInt8.toNat_inj.1 hcd
      subst e
      rw [← less_dec x y (a * 10 + (c.toNat - 48)) hl hx.2 hy.2]
      exact ⟨fun hh => hh.elim (fun h => absurd h (Nat.lt_irrefl _)) (·.2), fun hh => .inr ⟨rfl, hh⟩⟩
    · refine ⟨fun hh => ?_, fun hh => ?_⟩
      · rcases hh with hh | ⟨hh, _⟩
        · omega
        · subst hh; omega
      · have := mono y x (a * 10 + (d.toNat - 48)) (a * 10 + (c.toNat - 48)) hl.symm hy.2 (by omega)
        omega

def great : List UInt8 := [57, 50, 50, 51, 51, 55, 50, 48, 51, 54, 56, 53, 52, 55, 55, 53, 56, 48, 55]
theorem decV_great : decV 0 great = 9223372036854775807 := by decide
theorem great_dig : great.all isDig = true := by decide

/-- 's > great' as the model says it -/
def gtGreat (l : List UInt8) : Bool := !(Op.bytesLess l great || l == great)

theorem gtGreat_iff {l : List UInt8} (hd : l.all isDig = true) (h19 : l.length = 19) : gtGreat l = true ↔ 9223372036854775807 < decV 0 l := by
  have h1 := less_dec l great 0 (by rw [h19]; rfl) hd great_dig
  have h2 := less_dec great l 0 (by rw [h19]; rfl) great_dig hd
  rw [decV_great] at h1 h2
  have h3 : l = great ∨ Op.bytesLess l great = true ∨ Op.bytesLess great l = true := by
    have : ∀ (x y : List UInt8), x.length = y.length → x = y ∨ Op.bytesLess x y = true ∨ Op.bytesLess y x = true := by
      intro x
      induction x with
      | nil => intro y hy; cases y with | nil => exact .inl rfl | cons => simp at hy
      | cons a x ih =>
        intro y hy
        cases y with
        | nil => simp at hy
        | cons b y =>
          simp only [Op.bytesLess, Bool.or_eq_true, Bool.and_eq_true, decide_eq_true_eq, beq_iff_eq, UInt8.lt_iff_toNat_lt]
          rcases Nat.lt_trichotomy a.toNat b.toNat with hab | hab | hab
          · exact .inr (.inl (.inl hab))
          · have e : a = b := UInt8.toNat_inj.1 hab
            subst e
            rcases ih y (by simpa using hy) with h | h | h
            · exact .inl (by rw [h])
            · exact .inr (.inl (.inr ⟨rfl, h⟩))
            · exact .inr (.inr (.inr ⟨rfl, h⟩))
          · exact .inr (.inr (.inl hab))
    exact this l great (by rw [h19]; rfl)
  unfold gtGreat
  simp only [Bool.not_eq_true', Bool.or_eq_false_iff]
  constructor
  · rintro ⟨g1, g2⟩
    rcases h3 with h | h | h
    · subst h; simp at g2
    · rw [h] at g1; cases g1
    · exact h2.1 h
  · intro hlt
    refine ⟨?_, ?_⟩
    · rw [Bool.eq_false_iff]; intro hh; have := h1.1 hh; omega
    · rw [beq_eq_false_iff_ne]; intro hh; subst hh; rw [decV_great] at hlt; omega

theorem num_great {l : List UInt8} (hd : l.all isDig = true) (h19 : l.length = 19) (hg : gtGreat l = true) : numV l = none :=
  numV_none fun hk => by have := (gtGreat_iff hd h19).1 hg; have := hk.2.2.2; omega

theorem num_ok {l : List UInt8} (hne : l ≠ []) (hd : l.all isDig = true) (hz : ¬ (1 < l.length ∧ l.head? = some 48)) (h19 : l.length ≤ 19) (hg : l.length = 19 → gtGreat l = false) :
    numV l = some (decV 0 l) ∧ decV 0 l ≤ 9223372036854775807 := by
  have hb : decV 0 l ≤ 9223372036854775807 := by
    by_cases h : l.length = 19
    · have := gtGreat_iff hd h
      rw [hg h] at this
      have : ¬ 9223372036854775807 < decV 0 l := fun hh => by have := this.2 hh; cases this
      omega
    · have h1 := decV_lt_pow l 0 hd
      have h2 : 10 ^ l.length ≤ 10 ^ 18 := Nat.pow_le_pow_right (by decide) (by omega)
      omega
  refine ⟨numV_some ⟨hne, hd, fun hh => ?_, hb⟩, hb⟩
  have : l.length ≠ 0 := fun h => hne (List.eq_nil_of_length_eq_zero h)
  by_cases h1 : 1 < l.length
  · exact absurd ⟨h1, hh⟩ hz
  · omega

end Go.Rin
end

section
namespace Go.Rin
open Go.Lib

/-! ### names -/
def isPart (c : UInt8) : Bool := isDig c || (decide (97 ≤ c.toNat) && decide (c.toNat ≤ 122)) || (decide (65 ≤ c.toNat) && decide (c.toNat ≤ 90)) || c.toNat == 95

def keptL : List (List UInt8) :=
  [[118, 97, 114], [112, 114, 111, 99], [105, 110, 116], [98, 111, 111, 108], [97, 114, 114], [102, 117, 110], [105, 110], [111, 117, 116], [105, 102], [101, 108, 115, 101],
   [119, 104, 105, 108, 101], [99, 97, 108, 108], [114, 101, 116, 117, 114, 110], [116, 104, 114, 111, 119], [116, 114, 121], [99, 97, 116, 99, 104], [110, 101, 119], [108, 101, 110], [116, 114, 117, 101], [102, 97, 108, 115, 101]]
def keptB (l : List UInt8) : Bool := keptL.any fun w => w == l

/-- the words, a blank ahead of each, and one at the end -/
def blanked : List (List UInt8) → List UInt8
  | [] => [32]
  | w :: r => 32 :: (w ++ blanked r)

theorem blanked_head (W : List (List UInt8)) : ∃ t, blanked W = 32 :: t := by
  cases W with
  | nil => exact ⟨[], rfl⟩
  | cons w r => exact ⟨w ++ blanked r, rfl⟩

theorem contains_nil (p : List UInt8) : contains [] p = p.isEmpty := by
  unfold contains index
  cases p <;> simp

theorem contains_cons (a : UInt8) (s p : List UInt8) : contains (a :: s) p = (p.isPrefixOf (a :: s) || contains s p) := by
  unfold contains
  rw [index]
  have hge := index_ge s p
  cases hp : p.isPrefixOf (a :: s) with
  | true => simp
  | false =>
    simp only [Bool.false_eq_true, if_false, Bool.false_or]
    by_cases hm : index s p = -1
    · simp [hm]
    · have hb : (index s p == -1) = false := by rw [beq_eq_false_iff_ne]; exact hm
      rw [hb]
      simp only [Bool.false_eq_true, if_false]
      rw [decide_eq_decide]
      omega

theorem contains_skip : ∀ (w t q : List UInt8), 32 ∉ w → contains (w ++ t) (32 :: q) = contains t (32 :: q)
  | [], t, q, _ => rfl
  | c :: w, t, q, h => by
    simp only [List.mem_cons, not_or] at h
    rw [List.cons_append, contains_cons, contains_skip w t q h.2]
    have : ((32 : UInt8) == c) = false := by rw [beq_eq_false_iff_ne]; exact h.1
    simp [List.isPrefixOf, this]

theorem prefix_word : ∀ (l w t : List UInt8), 32 ∉ l → 32 ∉ w → (l ++ [32]).isPrefixOf (w ++ 32 :: t) = (w == l)
  | [], [], t, _, _ => by simp [List.isPrefixOf]
  | [], c :: w, t, _, hw => by
    simp only [List.mem_cons, not_or] at hw
    have : ((32 : UInt8) == c) = false := by rw [beq_eq_false_iff_ne]; exact hw.1
    simp [List.isPrefixOf, this]
  | a :: l, [], t, hl, _ => by
    simp only [List.mem_cons, not_or] at hl
    have : (a == (32 : UInt8)) = false := by rw [beq_eq_false_iff_ne]; exact fun e => hl.1 e.symm
    simp [List.isPrefixOf, this]
  | a :: l, c :: w, t, hl, hw => by
    simp only [List.mem_cons, not_or] at hl hw
    rw [List.cons_append, List.cons_append, List.isPrefixOf, prefix_word l w t hl.2 hw.2]
    rw [Bool.eq_iff_iff]
    simp only [Bool.and_eq_true, beq_iff_eq, List.cons.injEq]
    constructor
    · rintro ⟨h1, h2⟩; exact ⟨h1.symm, h2⟩
    · rintro ⟨h1, h2⟩; exact ⟨h1.symm, h2⟩

theorem contains_blanked : ∀ (W : List (List UInt8)) (l : List UInt8), (∀ w ∈ W, 32 ∉ w) → 32 ∉ l → contains (blanked W) (32 :: (l ++ [32])) = W.any fun w => w == l
  | [], l, _, _ => by
    simp only [blanked, List.any_nil]
    rw [contains_cons, contains_nil]
    cases l with
    | nil => simp [List.isPrefixOf]
    | cons a l => simp [List.isPrefixOf]
  | w :: r, l, hW, hl => by
    obtain ⟨t, ht⟩ := blanked_head r
    have hw : 32 ∉ w := hW w (by simp)
    have ih := contains_blanked r l (fun x hx => hW x (by simp [hx])) hl
    simp only [blanked, List.any_cons]
    rw [contains_cons, contains_skip w _ _ hw, ih]
    have : (32 :: (l ++ [32])).isPrefixOf (32 :: (w ++ blanked r)) = (w == l) := by
      rw [List.isPrefixOf, ht, prefix_word l w t hl hw]
      simp
    rw [this]

/-- token's constant 'kept' -/
def keptStr : List UInt8 := [32, 118, 97, 114, 32, 112, 114, 111, 99, 32, 105, 110, 116, 32, 98, 111, 111, 108, 32, 97, 114, 114, 32, 102, 117, 110, 32, 105, 110, 32, 111, 117, 116, 32, 105, 102, 32, 101, 108, 115, 101, 32, 119, 104, 105, 108, 101, 32, 99, 97, 108, 108, 32, 114, 101, 116, 117, 114, 110, 32, 116, 104, 114, 111, 119, 32, 116, 114, 121, 32, 99, 97, 116, 99, 104, 32, 110, 101, 119, 32, 108, 101, 110, 32, 116, 114, 117, 101, 32, 102, 97, 108, 115, 101, 32]
theorem keptStr_eq : keptStr = blanked keptL := by decide

theorem index_none_iff (l : List UInt8) (c : UInt8) : indexByte l c < 0 ↔ c ∉ l := by
  induction l with
  | nil => simp [indexByte]
  | cons b l ih =>
    have hge := indexByte_ge l c
    unfold indexByte
    by_cases hb : b = c
    · subst hb; simp
    · have hb' : (b == c) = false := by rw [beq_eq_false_iff_ne]; exact hb
      rw [hb']
      simp only [Bool.false_eq_true, if_false, List.mem_cons, not_or]
      by_cases hm : indexByte l c = -1
      · rw [hm]
        simp only [beq_self_eq_true, if_true]
        have := ih.1 (by omega)
        exact ⟨fun _ => ⟨fun e => hb e.symm, this⟩, fun _ => by decide⟩
      · have hm' : (indexByte l c == -1) = false := by rw [beq_eq_false_iff_ne]; exact hm
        rw [hm']
        simp only [Bool.false_eq_true, if_false]
        constructor
        · intro h; omega
        · rintro ⟨_, h⟩; have := ih.2 h; omega

theorem kept_eq {l : List UInt8} (hl : 32 ∉ l) : contains keptStr (32 :: (l ++ [32])) = keptB l := by
  rw [keptStr_eq]
  exact contains_blanked keptL l (by decide) hl

theorem kept_blank {l : List UInt8} (hl : 32 ∈ l) : keptB l = false := by
  unfold keptB
  rw [List.any_eq_false]
  intro w hw
  simp only [beq_iff_eq]
  rintro rfl
  exact (by decide : ∀ w ∈ keptL, 32 ∉ w) w hw hl

theorem kept_nil : keptB [] = false := by decide

def identB (l : List UInt8) : Bool := decide (1 ≤ l.length) && decide (l.length ≤ 20) && l.all isPart && !(isDig (l.headD 0)) && !keptB l

/-! ### words -/
def isSep (c : UInt8) : Bool := c == 32 || c == 9
def fieldsGo : List UInt8 → List UInt8 → List (List UInt8)
  | [], cur => if cur = [] then [] else [cur]
  | c :: r, cur => if isSep c = true then (if cur = [] then fieldsGo r [] else cur :: fieldsGo r []) else fieldsGo r (cur ++ [c])
def wordsGo : List UInt8 → List UInt8 → List (List UInt8)
  | [], cur => if cur = [] then [] else [cur]
  | c :: r, cur => if c = 35 then (if cur = [] then [] else [cur]) else if isSep c = true then (if cur = [] then wordsGo r [] else cur :: wordsGo r []) else wordsGo r (cur ++ [c])
/-- the words of a line -/
def wordsV (l : List UInt8) : List (List UInt8) := wordsGo l []

theorem words_take : ∀ (l cur : List UInt8), wordsGo l cur = fieldsGo (l.takeWhile fun c => c != 35) cur
  | [], cur => rfl
  | c :: r, cur => by
    by_cases h : c = 35
    · subst h; simp [wordsGo, fieldsGo]
    · have h' : (c != 35) = true := by simpa using h
      rw [List.takeWhile_cons_of_pos (p := fun c => c != 35) h', wordsGo, fieldsGo, if_neg h, words_take r [], words_take r (cur ++ [c])]

theorem cut_take : ∀ (l : List UInt8) (c : UInt8), (cut l [c]).1 = l.takeWhile fun x => x != c
  | [], c => by simp [cut, index]
  | a :: l, c => by
    have ih := cut_take l c
    have hge := index_ge l [c]
    unfold cut at ih ⊢
    by_cases h : a = c
    · subst h
      have : index (a :: l) [a] = 0 := by unfold index; simp [List.isPrefixOf]
      rw [this]
      simp
    · have hp : ([c] : List UInt8).isPrefixOf (a :: l) = false := by simp [List.isPrefixOf]; exact fun e => h e.symm
      have h' : (a != c) = true := by simpa using h
      rw [List.takeWhile_cons_of_pos (p := fun x => x != c) h', ← ih]
      have hix : index (a :: l) [c] = if index l [c] == -1 then -1 else index l [c] + 1 := by rw [index, hp]; simp
      by_cases hm : index l [c] = -1
      · rw [hix, if_pos (beq_iff_eq.2 hm), hm]
        simp
      · rw [hix, if_neg (fun e => hm (beq_iff_eq.1 e)), if_pos (by omega), if_pos (by omega)]
        simp only
        rw [show (index l [c] + 1).toNat = (index l [c]).toNat + 1 by omega, List.take_succ_cons]

theorem words_cut (l : List UInt8) : wordsV l = fieldsGo (cut l [35]).1 [] := by
  unfold wordsV
  rw [words_take, cut_take]

theorem fields_skip : ∀ (x r cur : List UInt8), (∀ c ∈ x, isSep c = false) → fieldsGo (x ++ r) cur = fieldsGo r (cur ++ x)
  | [], r, cur, _ => by simp
  | c :: x, r, cur, h => by
    rw [List.cons_append, fieldsGo, if_neg (by rw [h c (by simp)]; simp), fields_skip x r _ (fun d hd => h d (by simp [hd]))]
    simp

def sepR (r : Nat) : Bool := r == 32 || r == 9

theorem get_list (s : ByteArray) (i : Nat) : s.get! i = s.data.toList.getD i 0 := by
  obtain ⟨⟨l⟩⟩ := s
  unfold ByteArray.get!
  simp [getElem!_def, List.getD]
  cases l[i]? <;> rfl

theorem decode_sep (s : ByteArray) (pos : Nat) (h : sepR (Utf8.decode s pos).1 = true) : (Utf8.decode s pos).2 = 1 ∧ isSep (s.data.toList.getD pos 0) = true := by
  rw [decode_at] at h ⊢
  rw [← get_list]
  generalize s.get! pos = b0 at *
  unfold sepR at h
  simp only [Bool.or_eq_true, beq_iff_eq] at h
  have key : b0.toNat < 128 := by
    unfold decodeN at h
    repeat' split at h
    all_goals (simp only at h; omega)
  have e : decodeN (s.size - pos) b0.toNat (s.get! (pos + 1)).toNat (s.get! (pos + 2)).toNat (s.get! (pos + 3)).toNat = (b0.toNat, 1) := by
    unfold decodeN; rw [if_pos key]
  rw [e] at h ⊢
  refine ⟨rfl, ?_⟩
  unfold isSep
  simp only [Bool.or_eq_true, beq_iff_eq]
  simp only at h
  rcases h with h | h
  · exact .inl (UInt8.toNat_inj.1 (by rw [h]; rfl))
  · exact .inr (UInt8.toNat_inj.1 (by rw [h]; rfl))

theorem isSep_big {c : UInt8} (h : 128 ≤ c.toNat) : isSep c = false := by
  unfold isSep
  rw [Bool.or_eq_false_iff, beq_eq_false_iff_ne, beq_eq_false_iff_ne]
  constructor <;> (rintro rfl; revert h; decide)

theorem decode_nosep (s : ByteArray) (pos : Nat) (h : sepR (Utf8.decode s pos).1 = false) : ∀ k, k < (Utf8.decode s pos).2 → isSep (s.data.toList.getD (pos + k) 0) = false := by
  rw [decode_at] at h ⊢
  intro k hk
  rw [← get_list]
  generalize hb0 : s.get! pos = b0 at *
  generalize hb1 : s.get! (pos + 1) = b1 at *
  generalize hb2 : s.get! (pos + 2) = b2 at *
  generalize hb3 : s.get! (pos + 3) = b3 at *
  by_cases hs : b0.toNat < 128
  · have e : decodeN (s.size - pos) b0.toNat b1.toNat b2.toNat b3.toNat = (b0.toNat, 1) := by unfold decodeN; rw [if_pos hs]
    rw [e] at h hk
    simp only at h hk
    obtain rfl : k = 0 := by omega
    rw [Nat.add_zero, hb0]
    unfold sepR at h
    unfold isSep
    rw [Bool.or_eq_false_iff, beq_eq_false_iff_ne, beq_eq_false_iff_ne] at h ⊢
    constructor
    · rintro rfl; exact h.1 rfl
    · rintro rfl; exact h.2 rfl
  · have h0 : 128 ≤ b0.toNat := by omega
    have hk4 : k = 0 ∨ (k = 1 ∧ b1.toNat / 64 = 2) ∨ (k = 2 ∧ b2.toNat / 64 = 2) ∨ (k = 3 ∧ b3.toNat / 64 = 2) := by
      unfold decodeN at hk
      rw [if_neg hs] at hk
      repeat' split at hk
      all_goals (simp only at hk; omega)
    rcases hk4 with rfl | ⟨rfl, hh⟩ | ⟨rfl, hh⟩ | ⟨rfl, hh⟩
    · rw [Nat.add_zero, hb0]; exact isSep_big h0
    · rw [hb1]; exact isSep_big (by omega)
    · rw [hb2]; exact isSep_big (by omega)
    · rw [hb3]; exact isSep_big (by omega)

theorem drop_split (l : List UInt8) (pos K : Nat) : l.drop pos = (l.drop pos).take K ++ l.drop (pos + K) := by
  rw [← List.drop_drop, List.take_append_drop]

theorem take_nosep (s : ByteArray) (pos K : Nat) (h : ∀ k, k < K → isSep (s.data.toList.getD (pos + k) 0) = false) : ∀ c ∈ (s.data.toList.drop pos).take K, isSep c = false := by
  intro c hc
  obtain ⟨k, hk⟩ := List.mem_iff_getElem?.1 hc
  rw [List.getElem?_take] at hk
  split at hk
  · rename_i hlt
    rw [List.getElem?_drop] at hk
    have := h k hlt
    rw [List.getD_eq_getElem?_getD, hk] at this
    simpa using this
  · cases hk

/-- the pass over the runes cuts where the pass over the bytes does -/
theorem spans_fields (s : ByteArray) : ∀ (f pos : Nat) (st : Option Nat) (acc : List (Nat × Nat)), s.size ≤ pos + f → pos ≤ s.size → (∀ a, st = some a → a < pos) →
    (closeSpans s (spansFromP sepR s f pos st acc)).map (fun p => pieceU s.data.toList p.1 p.2) = acc.map (fun p => pieceU s.data.toList p.1 p.2) ++ fieldsGo (s.data.toList.drop pos) (openPiece s.data.toList st pos) := by
  have endcase : ∀ (f : Nat) (st : Option Nat) (acc : List (Nat × Nat)), (∀ a, st = some a → a < s.size) →
      (closeSpans s (spansFromP sepR s f s.size st acc)).map (fun p => pieceU s.data.toList p.1 p.2) = acc.map (fun p => pieceU s.data.toList p.1 p.2) ++ fieldsGo (s.data.toList.drop s.size) (openPiece s.data.toList st s.size) := by
    intro f st acc hst
    have hd : s.data.toList.drop s.size = [] := List.drop_eq_nil_of_le (by rw [← size_eq]; exact Nat.le_refl _)
    rw [hd, spansFromP_end sepR s _ _ _ _ (Nat.lt_irrefl _)]
    cases st with
    | none => simp [closeSpans, openPiece, fieldsGo]
    | some a =>
      have := pieceU_ne s.data.toList a s.size (hst a rfl) (by rw [← size_eq]; exact Nat.le_refl _)
      simp [closeSpans, openPiece, fieldsGo, this]
  intro f
  induction f with
  | zero =>
    intro pos st acc h hp hst
    obtain rfl : pos = s.size := by omega
    exact endcase 0 st acc hst
  | succ f ih =>
    intro pos st acc h hp hst
    by_cases hlt : pos < s.size
    · have hw := width_pos s pos
      have hwn : pos + (Utf8.decode s pos).2 ≤ s.size := by
        have := decodeN_le_n' (s.size - pos) (s.get! pos).toNat (s.get! (pos + 1)).toNat (s.get! (pos + 2)).toNat (s.get! (pos + 3)).toNat (by omega)
        rw [← decode_at] at this
        omega
      have hlen : pos < s.data.toList.length := by rw [← size_eq]; exact hlt
      simp only [spansFromP, if_pos hlt]
      cases hsp : sepR (Utf8.decode s pos).1 with
      | true =>
        obtain ⟨hK, hsep⟩ := decode_sep s pos hsp
        have hcons : s.data.toList.drop pos = s.data.toList.getD pos 0 :: s.data.toList.drop (pos + 1) := by
          rw [List.drop_eq_getElem_cons hlen, List.getD_eq_getElem?_getD, List.getElem?_eq_getElem hlen]
          rfl
        rw [hK]
        rw [hK] at hwn
        simp only [if_true]
        rw [hcons, fieldsGo, if_pos hsep]
        cases st with
        | none =>
          have := ih (pos + 1) none acc (by omega) hwn (fun a h => by cases h)
          simpa [openPiece] using this
        | some a =>
          have hpn := pieceU_ne s.data.toList a pos (hst a rfl) (by rw [← size_eq]; omega)
          have := ih (pos + 1) none (acc ++ [(a, pos)]) (by omega) hwn (fun a h => by cases h)
          simpa [openPiece, hpn] using this
      | false =>
        have hno := take_nosep s pos _ (decode_nosep s pos hsp)
        rw [drop_split s.data.toList pos (Utf8.decode s pos).2, fields_skip _ _ _ hno]
        simp only [Bool.false_eq_true, if_false]
        cases st with
        | none =>
          have := ih (pos + (Utf8.decode s pos).2) (some pos) acc (by omega) hwn (fun a h => by cases h; omega)
          have e : ([] : List UInt8) ++ (s.data.toList.drop pos).take (Utf8.decode s pos).2 = pieceU s.data.toList pos (pos + (Utf8.decode s pos).2) := by
            unfold pieceU
            rw [List.nil_append, Nat.add_sub_cancel_left]
          simp only [openPiece] at this ⊢
          rw [e]
          exact this
        | some a =>
          have := ih (pos + (Utf8.decode s pos).2) (some a) acc (by omega) hwn (fun b h => by cases h; have := hst a rfl; omega)
          simp only [openPiece] at this ⊢
          rw [pieceU_grow _ _ _ _ (Nat.le_of_lt (hst a rfl))]
          exact this
    · obtain rfl : pos = s.size := by omega
      exact endcase _ st acc hst

theorem fields_eq (s : ByteArray) : (goFieldsP sepR s).map (·.data.toList) = fieldsGo s.data.toList [] := by
  have := spans_fields s s.size 0 none [] (by omega) (Nat.zero_le _) (fun a h => by cases h)
  simp only [List.map_nil, List.nil_append, List.drop_zero, openPiece] at this
  rw [← this]
  unfold goFieldsP spansOfP
  rw [List.map_map]
  refine List.map_congr_left fun p _ => ?_
  exact extract_data s p.1 p.2

/-! ### lines -/
def linesGo : List UInt8 → List UInt8 → List (List UInt8)
  | [], cur => [cur]
  | c :: r, cur => if c = 10 then cur :: linesGo r [] else linesGo r (cur ++ [c])

theorem index_at {cur r : List UInt8} {c : UInt8} (h : c ∉ cur) : index (cur ++ c :: r) [c] = (cur.length : Int) := by
  refine index_first (by simp) ?_ ?_
  · simp [occAt, List.isPrefixOf]
  · intro j hj
    unfold occAt
    rw [List.drop_append_of_le_length (by omega), List.drop_eq_getElem_cons hj]
    simp only [List.cons_append, List.isPrefixOf, Bool.and_true]
    rw [beq_eq_false_iff_ne]
    rintro e
    exact h (e ▸ List.getElem_mem hj)

theorem split_lines : ∀ (l cur : List UInt8), 10 ∉ cur → splitK [10] 0 (count (cur ++ l) [10]) (cur ++ l) = linesGo l cur
  | [], cur, h => by
    have : count (cur ++ []) [10] = 0 := by rw [count_one, List.append_nil]; exact List.count_eq_zero.2 h
    rw [this, List.append_nil]
    rfl
  | c :: r, cur, h => by
    by_cases hc : c = 10
    · subst hc
      have hcount : count (cur ++ 10 :: r) [10] = count r [10] + 1 := by
        rw [count_one, count_one, List.count_append, List.count_eq_zero.2 h, List.count_cons_self]
        omega
      have hix := index_at (r := r) h
      rw [hcount, splitK, if_neg (by rw [hix]; simp), hix, linesGo, if_pos rfl]
      have ih := split_lines r [] (by simp)
      rw [List.nil_append] at ih
      congr 1
      · simp
      · simp only [Int.toNat_natCast, List.length_cons, List.length_nil]
        rw [List.drop_append, List.drop_eq_nil_of_le (by omega), List.nil_append, show cur.length + (0 + 1) - cur.length = 1 by omega]
        exact ih
    · rw [linesGo, if_neg hc, ← split_lines r (cur ++ [c]) (by simp [h]; exact fun e => hc e.symm)]
      simp

theorem split_eq (s : ByteArray) (sep : ByteArray) (hs : sep.data.toList = [10]) : (splitB sep 0 (countB s sep) s).map (·.data.toList) = linesGo s.data.toList [] := by
  rw [splitB_data, hs]
  have := split_lines s.data.toList [] (by simp)
  rw [List.nil_append] at this
  rw [← this]
  unfold countB
  rw [hs]

/-! ### what there is to take -/
abbrev Inp := List UInt8 × List Int

/-- what a line of words is: an input, or what is wrong -/
def numsV : List (List UInt8) → Option (List Int)
  | [] => some []
  | x :: r => match signV x with
    | none => none
    | some n => (numsV r).map (n :: ·)

def inputV (out : List Inp) (w : List (List UInt8)) : Int × Inp :=
  match numsV (w.drop 1) with
  | none => (2, ([], []))
  | some ns => if identB (w.headD []) = false then (3, ([], [])) else if out.any (fun x => x.1 == w.headD []) = true then (4, ([], [])) else (0, (w.headD [], ns))

def inputsGo : List (List UInt8) → Nat → List Inp → List Inp × Nat × Int
  | [], _, out => (out, 0, 0)
  | l :: r, at', out =>
    if wordsV l = [] then inputsGo r (at' + l.length + 1) out
    else if (inputV out (wordsV l)).1 = 0 then inputsGo r (at' + l.length + 1) (out ++ [(inputV out (wordsV l)).2])
    else ([], at', (inputV out (wordsV l)).1)

def inputsV (s : List UInt8) : List Inp × Nat × Int := inputsGo (linesGo s []) 0 []

end Go.Rin
end

section
namespace Go.Proofs.Rin
open Go.RowKit Go.Rin Go.Lib

theorem get_at (s : ByteArray) (k : Nat) (h : k < s.size) : s.data.toList[k]? = some s[k] := by
  rw [List.getElem?_eq_getElem (by simpa using h)]; rfl

theorem all_take {p : UInt8 → Bool} (l : List UInt8) (k : Nat) (c : UInt8) (h : (l.take k).all p = true) (hk : l[k]? = some c) (hc : p c = true) : (l.take (k + 1)).all p = true := by
  rw [List.take_add_one, hk, List.all_append, h]
  simp [hc]

theorem not_all {p : UInt8 → Bool} (l : List UInt8) (k : Nat) (c : UInt8) (hk : l[k]? = some c) (hc : p c = false) : l.all p = false := by
  rw [List.all_eq_false]
  exact ⟨c, List.mem_of_getElem? hk, by simp [hc]⟩

theorem ret_bool {a b : Bool} (h : a = b) : Ending.returned (.bool a) = .returned (.bool b) := by rw [h]

/-! ### digit -/
theorem digit_any (c : UInt8) (w : World) : Calls Tryz.prog 88 #[.int .u8 (c.toNat : Int)] w fun e w' => e = .returned (.bool (isDig c)) ∧ w = w' := by
  by_cases h1 : (48 : Int) ≤ (c.toNat : Int)
  · by_cases h2 : (c.toNat : Int) ≤ 57
    · have HD : Hid (isDig c = true) := isDig_iff.2 ⟨by omega, by omega⟩
      go_enter Tryz.func88, Tryz.ntmps88
      go_wp2
      go_ret
      exact ⟨ret_bool HD.out.symm, rfl⟩
    · have HD : Hid (isDig c = false) := by show isDig c = false; rw [Bool.eq_false_iff]; intro h; have := isDig_iff.1 h; omega
      go_enter Tryz.func88, Tryz.ntmps88
      go_wp2
      go_ret
      exact ⟨ret_bool HD.out.symm, rfl⟩
  · have HD : Hid (isDig c = false) := by show isDig c = false; rw [Bool.eq_false_iff]; intro h; have := isDig_iff.1 h; omega
    go_enter Tryz.func88, Tryz.ntmps88
    go_wp2
    go_ret
    exact ⟨ret_bool HD.out.symm, rfl⟩

/-! ### part -/
theorem part_any (c : UInt8) (w : World) : Calls Tryz.prog 86 #[.int .u8 (c.toNat : Int)] w fun e w' => e = .returned (.bool (isPart c)) ∧ w = w' := by
  have cD := digit_any c w
  by_cases hd : isDig c = true
  · have hp : isPart c = true := by simp [isPart, hd]
    rw [hd] at cD
    clear hd
    go_enter Tryz.func86, Tryz.ntmps86
    go_wp2_with (go_at_call 88; refine cD.mono ?_; rintro e w' ⟨rfl, rfl⟩)
    go_ret
    exact ⟨ret_bool hp.symm, rfl⟩
  · have hd : isDig c = false := by simpa using hd
    rw [hd] at cD
    have key : ∀ b : Bool, isPart c = b → Calls Tryz.prog 86 #[.int .u8 (c.toNat : Int)] w fun e w' => e = .returned (.bool b) ∧ w = w' := by
      intro b hb
      have hI : isPart c = ((decide (97 ≤ c.toNat) && decide (c.toNat ≤ 122)) || (decide (65 ≤ c.toNat) && decide (c.toNat ≤ 90)) || c.toNat == 95) := by
        unfold isPart; rw [hd]; rfl
      have HB : Hid (((decide (97 ≤ c.toNat) && decide (c.toNat ≤ 122)) || (decide (65 ≤ c.toNat) && decide (c.toNat ≤ 90)) || c.toNat == 95) = b) := hI ▸ hb
      clear hI hb hd
      by_cases a1 : (97 : Int) ≤ (c.toNat : Int) <;> by_cases a2 : (c.toNat : Int) ≤ 122 <;> by_cases a3 : (65 : Int) ≤ (c.toNat : Int) <;> by_cases a4 : (c.toNat : Int) ≤ 90 <;> by_cases a5 : ((c.toNat : Int) == 95) = true
      all_goals first | (exfalso; simp at a5; omega) | skip
      all_goals
        go_enter Tryz.func86, Tryz.ntmps86
        go_wp2_with (go_at_call 88; refine cD.mono ?_; rintro e w' ⟨rfl, rfl⟩)
        go_ret
        refine ⟨ret_bool ?_, rfl⟩
        rw [← HB.out]
        simp only [beq_iff_eq] at a5
        rw [Bool.eq_iff_iff]
        simp only [Bool.or_eq_true, Bool.and_eq_true, decide_eq_true_eq, beq_iff_eq, true_iff, false_iff, Bool.false_eq_true]
        omega
    exact key _ rfl

end Go.Proofs.Rin
end

section
namespace Go.Proofs.Rin
open Go.RowKit Go.Rin Go.Lib

/-! ### Kept -/
def keptA : List ByteArray := keptL.map fun l => ⟨l.toArray⟩
theorem keptA_len : keptA.length = 20 := by decide

theorem any_take {p : List UInt8 → Bool} (L : List (List UInt8)) (k : Nat) (x : List UInt8) (h : (L.take k).any p = false) (hk : L[k]? = some x) (hx : p x = false) : (L.take (k + 1)).any p = false := by
  rw [List.take_add_one, hk, List.any_append, h]
  simp [hx]

theorem keptA_vals : (keptA.map Value.string) = [Value.string { data := #[118, 97, 114] }, Value.string { data := #[112, 114, 111, 99] },
      Value.string { data := #[105, 110, 116] }, Value.string { data := #[98, 111, 111, 108] },
      Value.string { data := #[97, 114, 114] }, Value.string { data := #[102, 117, 110] },
      Value.string { data := #[105, 110] }, Value.string { data := #[111, 117, 116] },
      Value.string { data := #[105, 102] }, Value.string { data := #[101, 108, 115, 101] },
      Value.string { data := #[119, 104, 105, 108, 101] }, Value.string { data := #[99, 97, 108, 108] },
      Value.string { data := #[114, 101, 116, 117, 114, 110] }, Value.string { data := #[116, 104, 114, 111, 119] },
      Value.string { data := #[116, 114, 121] }, Value.string { data := #[99, 97, 116, 99, 104] },
      Value.string { data := #[110, 101, 119] }, Value.string { data := #[108, 101, 110] },
      Value.string { data := #[116, 114, 117, 101] }, Value.string { data := #[102, 97, 108, 115, 101] }] := by kernel_rfl

theorem kept_cell (w : World) (k : Nat) (x : ByteArray) (hx : keptA[k]? = some x) : (w.alloc (Obj.cells #[Value.string { data := #[118, 97, 114] }, Value.string { data := #[112, 114, 111, 99] },
      Value.string { data := #[105, 110, 116] }, Value.string { data := #[98, 111, 111, 108] },
      Value.string { data := #[97, 114, 114] }, Value.string { data := #[102, 117, 110] },
      Value.string { data := #[105, 110] }, Value.string { data := #[111, 117, 116] },
      Value.string { data := #[105, 102] }, Value.string { data := #[101, 108, 115, 101] },
      Value.string { data := #[119, 104, 105, 108, 101] }, Value.string { data := #[99, 97, 108, 108] },
      Value.string { data := #[114, 101, 116, 117, 114, 110] }, Value.string { data := #[116, 104, 114, 111, 119] },
      Value.string { data := #[116, 114, 121] }, Value.string { data := #[99, 97, 116, 99, 104] },
      Value.string { data := #[110, 101, 119] }, Value.string { data := #[108, 101, 110] },
      Value.string { data := #[116, 114, 117, 101] }, Value.string { data := #[102, 97, 108, 115, 101] }] 9)).cell? ⟨w.heap.size, k, none⟩ = some (.string x) := by
  rw [World.cell?_alloc_at _ _ _ _ rfl]
  have : (keptA.map Value.string)[k]? = some (.string x) := by rw [List.getElem?_map, hx]; rfl
  rw [keptA_vals] at this
  simpa using this

theorem kept_at (k : Nat) (x : ByteArray) (hx : keptA[k]? = some x) : keptL[k]? = some x.data.toList := by
  unfold keptA at hx
  rw [List.getElem?_map] at hx
  simp only [Option.map_eq_some_iff] at hx
  obtain ⟨l, hl, rfl⟩ := hx
  rw [hl]

theorem kept_hit {l : List UInt8} {k : Nat} {x : List UInt8} (hx : keptL[k]? = some x) (h : (x == l) = true) : keptB l = true := by
  unfold keptB
  rw [List.any_eq_true]
  exact ⟨x, List.mem_of_getElem? hx, h⟩

set_option maxHeartbeats 1000000 in
set_option maxRecDepth 100000 in
theorem kept_any (s : ByteArray) (w : World) : Calls Tryz.prog 87 #[.string s] w fun e w' => e = .returned (.bool (keptB s.data.toList)) ∧ Below w.heap.size w w' := by
  have hcell := kept_cell w
  go_enter Tryz.func87, Tryz.ntmps87
  go_wp2
  go_loopg [4] 20 (fun g i wx => ∃ k : Nat, k + g = 20 ∧ i = .int .i64 k ∧ Hid ((keptL.take k).any (fun x => x == s.data.toList) = false) ∧ w.alloc (Obj.cells #[Value.string { data := #[118, 97, 114] }, Value.string { data := #[112, 114, 111, 99] },
      Value.string { data := #[105, 110, 116] }, Value.string { data := #[98, 111, 111, 108] },
      Value.string { data := #[97, 114, 114] }, Value.string { data := #[102, 117, 110] },
      Value.string { data := #[105, 110] }, Value.string { data := #[111, 117, 116] },
      Value.string { data := #[105, 102] }, Value.string { data := #[101, 108, 115, 101] },
      Value.string { data := #[119, 104, 105, 108, 101] }, Value.string { data := #[99, 97, 108, 108] },
      Value.string { data := #[114, 101, 116, 117, 114, 110] }, Value.string { data := #[116, 104, 114, 111, 119] },
      Value.string { data := #[116, 114, 121] }, Value.string { data := #[99, 97, 116, 99, 104] },
      Value.string { data := #[110, 101, 119] }, Value.string { data := #[108, 101, 110] },
      Value.string { data := #[116, 114, 117, 101] }, Value.string { data := #[102, 97, 108, 115, 101] }] 9) = wx)
  case atStart => exact ⟨0, by omega, rfl, Lib.hid (by simp), rfl⟩
  case round =>
    obtain ⟨k, hk, rfl, HA, rfl⟩ := hrel
    cases gk with
    | zero =>
      have hk' : k = 20 := by omega
      subst hk'
      have HN : Hid (keptB s.data.toList = false) := by
        have := HA.out
        rwa [List.take_of_length_le (by decide)] at this
      clear HA hcell
      go_wp2
      go_ret
      exact ⟨ret_bool HN.out.symm, (Below.refl _ _).alloc (Nat.le_refl _) _⟩
    | succ g =>
      have hlt : k < 20 := by omega
      obtain ⟨x, hx⟩ : ∃ x, keptA[k]? = some x := ⟨_, List.getElem?_eq_getElem (by rw [keptA_len]; exact hlt)⟩
      have hc := hcell k x hx
      have hx' := Lib.hid (kept_at k x hx)
      clear hcell hx
      cases hh : (x.toList == s.toList) with
      | true =>
        have HN : Hid (keptB s.data.toList = true) := kept_hit hx'.out (by rw [← toList_data, ← toList_data]; exact hh)
        clear HA
        go_wp2
        go_ret
        exact ⟨ret_bool HN.out.symm, (Below.refl _ _).alloc (Nat.le_refl _) _⟩
      | false =>
        have HB := Lib.hid (any_take (p := fun x => x == s.data.toList) _ k _ HA.out hx'.out (by rw [← toList_data, ← toList_data]; exact hh))
        clear HA hx'
        go_wp2
        go_roundg g
        case measure => omega
        case rel => exact ⟨k + 1, by omega, by go_num, HB, rfl⟩

/-! ### Ident -/
set_option maxHeartbeats 1000000 in
set_option maxRecDepth 100000 in
theorem ident_any (s : ByteArray) (w : World) (hs : s.size ≤ maxLen) : Calls Tryz.prog 39 #[.string s] w fun e w' => e = .returned (.bool (identB s.data.toList)) ∧ Below w.heap.size w w' := by
  unfold maxLen at hs
  go_enter Tryz.func39, Tryz.ntmps39
  go_wp2
  go_loopg [3] s.size (fun g i wx => ∃ k : Nat, k + g = s.size ∧ i = .int .i64 k ∧ Hid ((s.data.toList.take k).all isPart = true) ∧ w = wx)
  case atStart => exact ⟨0, by omega, rfl, Lib.hid (by simp), rfl⟩
  case round =>
    obtain ⟨k, hk, rfl, HA, rfl⟩ := hrel
    cases gk with
    | zero =>
      have hk' : k = s.size := by omega
      subst hk'
      have hall := HA.out
      rw [List.take_of_length_le (by rw [← size_eq]; exact Nat.le_refl _)] at hall
      have HL := Lib.hid hall
      clear HA hall hk
      have cK := kept_any s w
      have hsz : s.data.toList.length = s.size := (size_eq s).symm
      by_cases hgood : (1 ≤ s.size ∧ s.size ≤ 20) ∧ keptB s.data.toList = false
      · obtain ⟨⟨h1, h20⟩, hkp⟩ := hgood
        rw [hkp] at cK
        have hhd : s.data.toList.headD 0 = s[0] := by
          have := get_at s 0 (by omega)
          cases hl : s.data.toList with
          | nil => rw [hl] at this; simp at this
          | cons a r => rw [hl] at this; simpa using this
        cases hd : isDig s[0] with
        | true =>
          have HN : Hid (identB s.data.toList = false) := by
            show identB _ = false
            unfold identB; rw [hhd, hd]; simp
          have cD := fun W => digit_any s[0] W
          simp only [hd] at cD
          clear hkp hsz hhd hd
          go_wp2_with (first
            | (go_at_call 87; refine cK.mono ?_; rintro e w' ⟨rfl, hb⟩)
            | (go_at_call 88; refine (cD _).mono ?_; rintro e w'' ⟨rfl, rfl⟩))
          go_ret
          exact ⟨ret_bool HN.out.symm, hb⟩
        | false =>
          have HN : Hid (identB s.data.toList = true) := by
            show identB _ = true
            unfold identB; rw [hhd, hd, HL.out, hkp, hsz]; simp; omega
          have cD := fun W => digit_any s[0] W
          simp only [hd] at cD
          clear hkp hsz hhd hd
          go_wp2_with (first
            | (go_at_call 87; refine cK.mono ?_; rintro e w' ⟨rfl, hb⟩)
            | (go_at_call 88; refine (cD _).mono ?_; rintro e w'' ⟨rfl, rfl⟩))
          go_ret
          exact ⟨ret_bool HN.out.symm, hb⟩
      · have HN : Hid (identB s.data.toList = false) := by
          show identB _ = false
          unfold identB
          rw [hsz]
          by_cases g1 : 1 ≤ s.size
          · by_cases g2 : s.size ≤ 20
            · have : keptB s.data.toList = true := by
                cases hh : keptB s.data.toList with
                | true => rfl
                | false => exact absurd ⟨⟨g1, g2⟩, hh⟩ hgood
              rw [this]; simp
            · simp [g2]
          · simp [g1]
        have HG := Lib.hid hgood
        clear hgood hsz
        by_cases g1 : 1 ≤ s.size
        · by_cases g2 : s.size ≤ 20
          · have hkp : keptB s.data.toList = true := by
              cases hh : keptB s.data.toList with
              | true => rfl
              | false => exact absurd ⟨⟨g1, g2⟩, hh⟩ HG.out
            rw [hkp] at cK
            clear hkp
            go_wp2_with (first
              | (go_at_call 87; refine cK.mono ?_; rintro e w' ⟨rfl, hb⟩)
              | (go_at_call 88; refine (digit_any _ _).mono ?_; rintro e w'' ⟨rfl, rfl⟩))
            all_goals
              go_ret
              exact ⟨ret_bool HN.out.symm, hb⟩
          · go_wp2_with (go_at_call 87; refine cK.mono ?_; rintro e w' ⟨rfl, hb⟩)
            all_goals
              go_ret
              exact ⟨ret_bool HN.out.symm, hb⟩
        · go_wp2_with (go_at_call 87; refine cK.mono ?_; rintro e w' ⟨rfl, hb⟩)
          all_goals
            go_ret
            exact ⟨ret_bool HN.out.symm, hb⟩
    | succ g =>
      have hlt : k < s.size := by omega
      have cP := part_any s[k] w
      cases hp : isPart s[k] with
      | true =>
        rw [hp] at cP
        have HB := Lib.hid (all_take _ k _ HA.out (get_at s k hlt) hp)
        clear hp HA
        go_wp2_with (go_at_call 86; refine cP.mono ?_; rintro e w' ⟨rfl, rfl⟩)
        go_roundg g
        case measure => omega
        case rel => exact ⟨k + 1, by omega, by go_num, HB, rfl⟩
      | false =>
        rw [hp] at cP
        have HN : Hid (identB s.data.toList = false) := by
          show identB _ = false
          unfold identB
          rw [not_all _ k _ (get_at s k hlt) hp]
          simp
        clear hp HA
        go_wp2_with (go_at_call 86; refine cP.mono ?_; rintro e w' ⟨rfl, rfl⟩)
        go_ret
        exact ⟨ret_bool HN.out.symm, Below.refl _ _⟩

end Go.Proofs.Rin
end

section
namespace Go.Proofs.Rin
open Go.RowKit Go.Rin Go.Lib

/-- an input as it lies: the channel's text, the slice of numbers, the numbers -/
abbrev CInp := ByteArray × Value × List Int
def inpCells (C : List CInp) : List Value := C.flatMap fun x => [Value.string x.1, x.2.1]
def absL (C : List CInp) : List Inp := C.map fun x => (x.1.data.toList, x.2.2)
def ints (l : List Int) : List Value := l.map (Value.int .i64)

theorem absL_snoc (C : List CInp) (x : CInp) : absL (C ++ [x]) = absL C ++ [(x.1.data.toList, x.2.2)] := by simp [absL]
theorem inpCells_length (C : List CInp) : (inpCells C).length = C.length * 2 := by
  induction C with
  | nil => rfl
  | cons x t ih => simp [inpCells, List.flatMap_cons] at ih ⊢; omega
theorem inpCells_snoc (C : List CInp) (x : CInp) : inpCells (C ++ [x]) = inpCells C ++ [Value.string x.1, x.2.1] := by simp [inpCells]
theorem inpCells_at : ∀ (C : List CInp) (j : Nat) (x : CInp), C[j]? = some x → (inpCells C)[j * 2]? = some (Value.string x.1) ∧ (inpCells C)[j * 2 + 1]? = some x.2.1
  | [], j, x, h => by simp at h
  | y :: t, 0, x, h => by
    simp at h
    subst h
    simp [inpCells]
  | y :: t, j + 1, x, h => by
    have ih := inpCells_at t j x (by simpa using h)
    have e : inpCells (y :: t) = Value.string y.1 :: y.2.1 :: inpCells t := by simp [inpCells]
    rw [e, show (j + 1) * 2 = j * 2 + 1 + 1 by omega, show j * 2 + 1 + 1 + 1 = (j * 2 + 1) + 1 + 1 by omega]
    simpa using ih

/-- the inputs lie in w, in rows of the call's own -/
def InpsAt (w : World) (B : Nat) (T : TypeId) (v : Value) (C : List CInp) : Prop :=
  w.ownsRow B T 2 v C.length (inpCells C) ∧ ∀ x ∈ C, w.ownsRow B 3 1 x.2.1 x.2.2.length (ints x.2.2)

/-- rows of different types are different blocks -/
theorem own_ne {w : World} {B B' e e' s s' n m : Nat} {v u : Value} {xs ys : List Value} (h : w.ownsRow B e s v n xs) (h' : w.ownsRow B' e' s' u m ys) (hne : e ≠ e') : u.ownBlock = none ∨ u.ownBlock ≠ v.ownBlock := by
  rcases h'.2 with ⟨rfl, _⟩ | ⟨g', c', cur', rfl, _, hg', _⟩
  · exact .inl rfl
  · rcases h.2 with ⟨rfl, _⟩ | ⟨g, c, cur, rfl, _, hg, _⟩
    · exact .inr (by simp [Value.ownBlock])
    · refine .inr fun he => ?_
      simp only [Value.ownBlock, Option.some.injEq] at he
      subst he
      rw [hg] at hg'
      cases hg'
      exact hne rfl

theorem own_ne_block {w : World} {B e s n g : Nat} {v : Value} {xs : List Value} {c : Array Value} {t : TypeId} {fr : Nat × Nat} (h : w.ownsRow B e s v n xs) (hg : w.heap[g]? = some (.cells c t fr)) (hne : e ≠ t) : v.ownBlock = none ∨ v.ownBlock ≠ some g := by
  rcases h.2 with ⟨rfl, _⟩ | ⟨g', c', cur', rfl, _, hg', _⟩
  · exact .inl rfl
  · refine .inr fun he => ?_
    simp only [Value.ownBlock, Option.some.injEq] at he
    subst he
    rw [hg] at hg'
    cases hg'
    exact hne rfl

theorem grown_of_below {w w' : World} (h : Below w.heap.size w w') : w.grownBy w' none := ⟨h.os, h.tape, h.output, h.size, fun k hk _ => h.block k hk⟩

theorem own_below {w w' : World} {B e s n : Nat} {v : Value} {xs : List Value} (h : w.ownsRow B e s v n xs) (hb : Below w.heap.size w w') : w'.ownsRow B e s v n xs :=
  h.kept (grown_of_below hb) (by cases v.ownBlock <;> simp)

theorem InpsAt.below {w w' : World} {B : Nat} {T : TypeId} {v : Value} {C : List CInp} (h : InpsAt w B T v C) (hb : Below w.heap.size w w') : InpsAt w' B T v C :=
  ⟨own_below h.1 hb, fun x hx => own_below (h.2 x hx) hb⟩

theorem InpsAt.nil (w : World) (B : Nat) (T : TypeId) : InpsAt w B T (.slice none 0 0) [] :=
  ⟨World.ownsRow_nil w B T 2, fun x hx => by cases hx⟩

theorem own_base {w : World} {B B' e s n : Nat} {v : Value} {xs : List Value} (h : w.ownsRow B e s v n xs) (hB : B' ≤ B) : w.ownsRow B' e s v n xs := by
  refine ⟨h.1, ?_⟩
  rcases h.2 with h0 | ⟨g, c, cur, hv, hb, rest⟩
  · exact .inl h0
  · exact .inr ⟨g, c, cur, hv, Nat.le_trans hB hb, rest⟩

/-- one input more -/
theorem InpsAt.push {w w' : World} {B : Nat} {T : TypeId} {v v' : Value} {C : List CInp} {x : CInp} (hT : T ≠ 3) (h : InpsAt w B T v C) (hx : w.ownsRow B 3 1 x.2.1 x.2.2.length (ints x.2.2))
    (hown : w'.ownsRow B T 2 v' (C.length + 1) (inpCells C ++ [Value.string x.1, x.2.1])) (hg : w.grownBy w' v.ownBlock) : InpsAt w' B T v' (C ++ [x]) := by
  refine ⟨?_, fun y hy => ?_⟩
  · rw [List.length_append, inpCells_snoc]; exact hown
  · have key : ∀ y : CInp, w.ownsRow B 3 1 y.2.1 y.2.2.length (ints y.2.2) → w'.ownsRow B 3 1 y.2.1 y.2.2.length (ints y.2.2) := fun y hy => hy.kept hg (own_ne h.1 hy hT)
    rcases List.mem_append.1 hy with hy | hy
    · exact key y (h.2 y hy)
    · simp at hy; subst hy; exact key _ hx

/-- a cell of an owned row -/
theorem own_cell {w : World} {B e s n : Nat} {v : Value} {xs : List Value} (h : w.ownsRow B e s v n xs) (hn : n ≠ 0) : ∃ g cap, v = .slice (some ⟨g, 0, none⟩) n cap ∧ B ≤ g ∧ g < w.heap.size ∧ n ≤ cap ∧ cap ≤ maxLen ∧ ∀ j u, xs[j]? = some u → w.cell? ⟨g, j, none⟩ = some u := by
  rcases h.2 with ⟨_, h0⟩ | ⟨g, cap, cur, rfl, hb, hg, hc, hm, hs, ht⟩
  · exact absurd h0 hn
  · refine ⟨g, cap, rfl, hb, (Array.getElem?_eq_some_iff.1 hg).1, hc, hm, fun j u hu => ?_⟩
    rw [cell_of_row w g j cur e (0, 0) hg]
    rw [← ht, List.getElem?_take] at hu
    split at hu
    · simpa using hu
    · cases hu

/-- what 'input' gives -/
def InPost (w : World) (out : List Inp) (ws : List (List UInt8)) (e : Ending) (w' : World) : Prop :=
  ∃ (s0 : ByteArray) (ua : Option Addr) (ul uc : Nat) (k : Int), e = .returned (.tuple #[.agg #[.string s0, .slice ua ul uc], .int .i64 k]) ∧ Below w.heap.size w w' ∧ k = (inputV out ws).1 ∧
    (k = 0 → s0.data.toList = (inputV out ws).2.1 ∧ w'.ownsRow w.heap.size 3 1 (.slice ua ul uc) (inputV out ws).2.2.length (ints (inputV out ws).2.2))

/-- what 'Inputs' gives -/
def InsPost (w : World) (T : TypeId) (s : List UInt8) (e : Ending) (w' : World) : Prop :=
  ∃ (v : Value) (C : List CInp) (a : Nat) (k : Int), e = .returned (.tuple #[v, .int .i64 a, .int .i64 k]) ∧ Below w.heap.size w w' ∧ InpsAt w' w.heap.size T v C ∧ (absL C, a, k) = inputsV s

/-- what 'Words' gives -/
def WordsPost (w : World) (l : List UInt8) (e : Ending) (w' : World) : Prop :=
  ∃ (v : Value) (ss : List ByteArray), e = .returned v ∧ ss.map (·.data.toList) = wordsV l ∧ w'.ownsRow w.heap.size 9 1 v ss.length (ss.map Value.string) ∧ Below w.heap.size w w'

end Go.Proofs.Rin
end

section
namespace Go.Rin
open Go.Lib

theorem piece_nil (l : List UInt8) (k : Nat) : pieceU l k k = [] := by unfold pieceU; simp
theorem piece_snoc {l : List UInt8} {a k : Nat} {c : UInt8} (ha : a ≤ k) (hk : l[k]? = some c) : pieceU l a (k + 1) = pieceU l a k ++ [c] := by
  unfold pieceU
  rw [show k + 1 - a = (k - a) + 1 by omega, List.take_add_one, List.getElem?_drop, show a + (k - a) = k by omega, hk]
  rfl
theorem piece_ne {l : List UInt8} {a k : Nat} (ha : a < k) (hk : k ≤ l.length) : pieceU l a k ≠ [] := pieceU_ne l a k ha hk
theorem drop_cons {l : List UInt8} {k : Nat} {c : UInt8} (hk : l[k]? = some c) : l.drop k = c :: l.drop (k + 1) := by
  obtain ⟨h, e⟩ := List.getElem?_eq_some_iff.1 hk
  rw [List.drop_eq_getElem_cons h, e]

theorem words_plain {l : List UInt8} {a k : Nat} {c : UInt8} (ha : a ≤ k) (hk : l[k]? = some c) (h35 : c ≠ 35) (hs : isSep c = false) :
    wordsGo (l.drop k) (pieceU l a k) = wordsGo (l.drop (k + 1)) (pieceU l a (k + 1)) := by
  rw [drop_cons hk, wordsGo, if_neg h35, if_neg (by rw [hs]; simp), piece_snoc ha hk]
theorem words_sep {l : List UInt8} {a k : Nat} {c : UInt8} (ha : a < k) (hk : l[k]? = some c) (h35 : c ≠ 35) (hs : isSep c = true) :
    wordsGo (l.drop k) (pieceU l a k) = pieceU l a k :: wordsGo (l.drop (k + 1)) (pieceU l (k + 1) (k + 1)) := by
  have hl := (List.getElem?_eq_some_iff.1 hk).1
  rw [drop_cons hk, wordsGo, if_neg h35, if_pos hs, if_neg (piece_ne ha (by omega)), piece_nil]
theorem words_sep0 {l : List UInt8} {k : Nat} {c : UInt8} (hk : l[k]? = some c) (h35 : c ≠ 35) (hs : isSep c = true) :
    wordsGo (l.drop k) (pieceU l k k) = wordsGo (l.drop (k + 1)) (pieceU l (k + 1) (k + 1)) := by
  rw [drop_cons hk, wordsGo, if_neg h35, if_pos hs, piece_nil, piece_nil, if_pos rfl]
theorem words_hash {l : List UInt8} {a k : Nat} (ha : a < k) (hk : l[k]? = some 35) : wordsGo (l.drop k) (pieceU l a k) = [pieceU l a k] := by
  have hl := (List.getElem?_eq_some_iff.1 hk).1
  rw [drop_cons hk, wordsGo, if_pos rfl, if_neg (piece_ne ha (by omega))]
theorem words_hash0 {l : List UInt8} {k : Nat} (hk : l[k]? = some 35) : wordsGo (l.drop k) (pieceU l k k) = [] := by
  rw [drop_cons hk, wordsGo, if_pos rfl, piece_nil, if_pos rfl]
theorem words_end {l : List UInt8} {a : Nat} (ha : a < l.length) : wordsGo (l.drop l.length) (pieceU l a l.length) = [pieceU l a l.length] := by
  rw [List.drop_length, wordsGo, if_neg (piece_ne ha (Nat.le_refl _))]
theorem words_end0 {l : List UInt8} : wordsGo (l.drop l.length) (pieceU l l.length l.length) = [] := by
  rw [List.drop_length, piece_nil]; rfl

theorem lines_nl {l : List UInt8} {a k : Nat} (hk : l[k]? = some 10) : linesGo (l.drop k) (pieceU l a k) = pieceU l a k :: linesGo (l.drop (k + 1)) (pieceU l (k + 1) (k + 1)) := by
  rw [drop_cons hk, linesGo, if_pos rfl, piece_nil]
theorem lines_plain {l : List UInt8} {a k : Nat} {c : UInt8} (ha : a ≤ k) (hk : l[k]? = some c) (h : c ≠ 10) : linesGo (l.drop k) (pieceU l a k) = linesGo (l.drop (k + 1)) (pieceU l a (k + 1)) := by
  rw [drop_cons hk, linesGo, if_neg h, piece_snoc ha hk]
theorem lines_end {l : List UInt8} {a : Nat} : linesGo (l.drop l.length) (pieceU l a l.length) = [pieceU l a l.length] := by
  rw [List.drop_length]; rfl
theorem piece_length {l : List UInt8} {a k : Nat} (hk : k ≤ l.length) : (pieceU l a k).length = k - a := by
  unfold pieceU
  rw [List.length_take, List.length_drop]
  omega

theorem inputs_skip {x : List UInt8} {r : List (List UInt8)} {a : Nat} {out : List Inp} (h : wordsV x = []) : inputsGo (x :: r) a out = inputsGo r (a + x.length + 1) out := by
  rw [inputsGo, if_pos h]
theorem inputs_good {x : List UInt8} {r : List (List UInt8)} {a : Nat} {out : List Inp} (h : wordsV x ≠ []) (hk : (inputV out (wordsV x)).1 = 0) : inputsGo (x :: r) a out = inputsGo r (a + x.length + 1) (out ++ [(inputV out (wordsV x)).2]) := by
  rw [inputsGo, if_neg h, if_pos hk]
theorem inputs_bad {x : List UInt8} {r : List (List UInt8)} {a : Nat} {out : List Inp} (h : wordsV x ≠ []) (hk : (inputV out (wordsV x)).1 ≠ 0) : inputsGo (x :: r) a out = ([], a, (inputV out (wordsV x)).1) := by
  rw [inputsGo, if_neg h, if_neg hk]

/-! the numbers of a line -/
theorem nums_none {l : List (List UInt8)} {k : Nat} {x : List UInt8} {ns : List Int} (hp : numsV (l.take k) = some ns) (hk : l[k]? = some x) (hx : signV x = none) : numsV l = none := by
  induction l generalizing k ns with
  | nil => simp at hk
  | cons y t ih =>
    cases k with
    | zero =>
      simp only [List.getElem?_cons_zero, Option.some.injEq] at hk
      subst hk
      rw [numsV, hx]
    | succ k =>
      rw [List.take_succ_cons, numsV] at hp
      rw [numsV]
      cases hy : signV y with
      | none => rfl
      | some n =>
        rw [hy] at hp
        simp only [Option.map_eq_some_iff] at hp
        obtain ⟨ns', hp', _⟩ := hp
        simp only
        rw [ih hp' (by simpa using hk)]
        rfl
theorem nums_snoc {l : List (List UInt8)} {x : List UInt8} {n : Int} {ns : List Int} (hp : numsV l = some ns) (hx : signV x = some n) : numsV (l ++ [x]) = some (ns ++ [n]) := by
  induction l generalizing ns with
  | nil =>
    rw [numsV] at hp
    cases hp
    rw [List.nil_append, numsV, hx]
    rfl
  | cons y t ih =>
    rw [numsV] at hp
    rw [List.cons_append, numsV]
    cases hy : signV y with
    | none => rw [hy] at hp; cases hp
    | some m =>
      rw [hy] at hp
      simp only [Option.map_eq_some_iff] at hp
      obtain ⟨ns', hp', rfl⟩ := hp
      simp only
      rw [ih hp']
      rfl
theorem nums_step {l : List (List UInt8)} {k : Nat} {x : List UInt8} {n : Int} {ns : List Int} (hp : numsV (l.take k) = some ns) (hk : l[k]? = some x) (hx : signV x = some n) : numsV (l.take (k + 1)) = some (ns ++ [n]) := by
  rw [List.take_add_one, hk]
  exact nums_snoc hp hx
theorem nums_length : ∀ {l : List (List UInt8)} {ns : List Int}, numsV l = some ns → ns.length = l.length
  | [], ns, h => by rw [numsV] at h; cases h; rfl
  | y :: t, ns, h => by
    rw [numsV] at h
    split at h
    · cases h
    · simp only [Option.map_eq_some_iff] at h
      obtain ⟨ns', h', rfl⟩ := h
      simp [nums_length h']

theorem input_form {out : List Inp} {ws : List (List UInt8)} (h : numsV (ws.drop 1) = none) : inputV out ws = (2, ([], [])) := by unfold inputV; rw [h]
theorem input_name {out : List Inp} {ws : List (List UInt8)} {ns : List Int} (h : numsV (ws.drop 1) = some ns) (hi : identB (ws.headD []) = false) : inputV out ws = (3, ([], [])) := by
  unfold inputV; rw [h]; simp only; rw [if_pos hi]
theorem input_there {out : List Inp} {ws : List (List UInt8)} {ns : List Int} (h : numsV (ws.drop 1) = some ns) (hi : identB (ws.headD []) = true) (ho : out.any (fun x => x.1 == ws.headD []) = true) : inputV out ws = (4, ([], [])) := by
  unfold inputV; rw [h]; simp only; rw [if_neg (by rw [hi]; simp), if_pos ho]
theorem input_ok {out : List Inp} {ws : List (List UInt8)} {ns : List Int} (h : numsV (ws.drop 1) = some ns) (hi : identB (ws.headD []) = true) (ho : out.any (fun x => x.1 == ws.headD []) = false) : inputV out ws = (0, (ws.headD [], ns)) := by
  unfold inputV; rw [h]; simp only; rw [if_neg (by rw [hi]; simp), if_neg (by rw [ho]; simp)]

end Go.Rin
end

section
namespace Go.Proofs.Rin
open Go.RowKit Go.Rin Go.Lib

theorem Tryz_info9 : (Tryz.prog.info? 9).map (fun i => (i.zero, i.size, i.bytes)) = some (some (.string ⟨#[]⟩), 1, 16) := by kernel_rfl

theorem extract_piece (s : ByteArray) (a k : Nat) : (s.extract a k).data.toList = pieceU s.data.toList a k := extract_data s a k

theorem sep_of {c : UInt8} (h32 : ((c.toNat : Int) == 32) = false) (h9 : ((c.toNat : Int) == 9) = false) : isSep c = false := by
  unfold isSep
  rw [Bool.or_eq_false_iff, beq_eq_false_iff_ne, beq_eq_false_iff_ne]
  constructor <;> (rintro rfl; revert h32 h9; decide)

set_option maxHeartbeats 2000000 in
set_option maxRecDepth 1000000 in
theorem words_any (s : ByteArray) (w : World) (hs : s.size ≤ 1000) : Calls Tryz.prog 14 #[.string s] w (WordsPost w s.data.toList) := by
  obtain ⟨i0, hi, hz0, hz1, hz2⟩ := info_parts Tryz_info9
  have hlen : s.data.toList.length = s.size := (size_eq s).symm
  have HL := Lib.hid hlen
  clear hlen
  go_enter Tryz.func14, Tryz.ntmps14
  go_wp2
  go_loopg [3, 4, 5] (s.size + 1) (fun g o at' i wx => ∃ (k a : Nat) (ss : List ByteArray), k + g = s.size + 1 ∧ i = .int .i64 k ∧ at' = .int .i64 a ∧ a ≤ k ∧ ss.length ≤ k ∧
    Hid (if k ≤ s.size then ss.map (·.data.toList) ++ wordsGo (s.data.toList.drop k) (pieceU s.data.toList a k) = wordsV s.data.toList else ss.map (·.data.toList) = wordsV s.data.toList) ∧
    wx.ownsRow w.heap.size 9 1 o ss.length (ss.map Value.string) ∧ Below w.heap.size w wx)
  case atStart => exact ⟨0, 0, [], by omega, rfl, rfl, by omega, by simp, by show ite _ _ _; rw [if_pos (Nat.zero_le _)]; simp [wordsV, Rin.piece_nil], World.ownsRow_nil _ _ _ _, Below.refl _ _⟩
  case round =>
    obtain ⟨k, a, ss, hk, rfl, rfl, hak, hsl, HI, hown, hb⟩ := hrel
    have hbs := hb.size
    cases gk with
    | zero =>
      have hk' : k = s.size + 1 := by omega
      subst hk'
      have HE : Hid (ss.map (·.data.toList) = wordsV s.data.toList) := by
        have := HI.out
        rwa [if_neg (by omega)] at this
      clear HI hk
      go_wp2
      go_ret
      exact ⟨_, ss, rfl, HE.out, hown, hb⟩
    | succ g =>
      have hle : k ≤ s.size := by omega
      have HI2 : Hid (ss.map (·.data.toList) ++ wordsGo (s.data.toList.drop k) (pieceU s.data.toList a k) = wordsV s.data.toList) := by
        have := HI.out
        rwa [if_pos hle] at this
      clear HI
      by_cases hlt : k < s.size
      · have HC := Lib.hid (get_at s k hlt)
        cases h35 : ((s[k].toNat : Int) == 35) with
        | true =>
          have HC2 : Hid (s.data.toList[k]? = some 35) := by
            show _ = _
            rw [HC.out]
            congr 1
            apply UInt8.toNat_inj.1
            simp only [beq_iff_eq] at h35
            have : s[k].toNat = 35 := by omega
            rw [this]; rfl
          have h35' : ((s[k].toNat : Int) != 35) = false := by simp only [bne, h35, Bool.not_true]
          have h32 : ((s[k].toNat : Int) == 32) = false := by simp only [beq_iff_eq] at h35; rw [beq_eq_false_iff_ne]; omega
          have h9 : ((s[k].toNat : Int) == 9) = false := by simp only [beq_iff_eq] at h35; rw [beq_eq_false_iff_ne]; omega
          have h32' : ((s[k].toNat : Int) != 32) = true := by simp only [bne, h32, Bool.not_false]
          have h9' : ((s[k].toNat : Int) != 9) = true := by simp only [bne, h9, Bool.not_false]
          by_cases hlak : a < k
          · have HP : Hid ((s.extract a k).data.toList = pieceU s.data.toList a k) := extract_piece s a k
            have HS : Hid (wordsGo (s.data.toList.drop k) (pieceU s.data.toList a k) = [pieceU s.data.toList a k]) := words_hash hlak HC2.out
            go_wp2_with (at_builtin; refine wpList_append_own _ rfl (.tmp 37) (.tmp 42) 37 rfl w.heap.size 9 i0 (.string ⟨#[]⟩) 1 16 Tryz.underlying37 hi hz0 hz1 hz2 rfl (by decide) _ _ _ rfl (hown.alloc _) ⟨wr.heap.size, 0, none⟩ 1 1 [.string (s.extract a k)] rfl rfl (cell_one_new _ _ _) (by intro u hu; simp at hu; subst hu; rfl) (by unfold maxLen; omega) (by omega) (by simp; omega) ?_; intro v1 w1 hown1 hgrow1 hnil1)
            have hb1 : Below w.heap.size w w1 := (hb.alloc hbs _).grown hgrow1 (by simp; omega) (fun j hj => (hown.lt j hj).1)
            have hown2 : w1.ownsRow w.heap.size 9 1 v1 (ss ++ [s.extract a k]).length ((ss ++ [s.extract a k]).map Value.string) := by rw [List.length_append, List.map_append]; exact hown1
            clear hown1 hgrow1 hnil1 hown hb
            go_wp2
            go_ret
            refine ⟨_, ss ++ [s.extract a k], rfl, ?_, hown2, hb1⟩
            rw [List.map_append, ← HI2.out, HS.out, List.map_cons, HP.out]
            rfl
          · have hak3 : a = k := by omega
            subst hak3
            have HS : Hid (wordsGo (s.data.toList.drop a) (pieceU s.data.toList a a) = []) := words_hash0 HC2.out
            go_wp2
            go_ret
            exact ⟨_, ss, rfl, by rw [← HI2.out, HS.out, List.append_nil], hown, hb⟩
        | false =>
          cases hsp : (((s[k].toNat : Int) == 32) || ((s[k].toNat : Int) == 9)) with
          | false =>
            simp only [Bool.or_eq_false_iff] at hsp
            obtain ⟨h32, h9⟩ := hsp
            have h32' : ((s[k].toNat : Int) != 32) = true := by simp only [bne, h32, Bool.not_false]
            have h9' : ((s[k].toNat : Int) != 9) = true := by simp only [bne, h9, Bool.not_false]
            have h35' : ((s[k].toNat : Int) != 35) = true := by simp only [bne, h35, Bool.not_false]
            have HS : Hid (wordsGo (s.data.toList.drop k) (pieceU s.data.toList a k) = wordsGo (s.data.toList.drop (k + 1)) (pieceU s.data.toList a (k + 1))) :=
              words_plain hak HC.out (by intro h; rw [h] at h35; exact absurd h35 (by decide)) (sep_of h32 h9)
            go_wp2
            go_roundg g
            case measure => omega
            case rel => exact ⟨k + 1, a, ss, by omega, by go_num, rfl, by omega, by omega, by show ite _ _ _; rw [if_pos (by omega), ← HS.out]; exact HI2.out, hown, hb⟩
          | true =>
            have HSEP : Hid (isSep s[k] = true) := by
              show isSep _ = true
              unfold isSep
              simp only [Bool.or_eq_true, beq_iff_eq] at hsp ⊢
              rcases hsp with h | h
              · left; apply UInt8.toNat_inj.1
                have : s[k].toNat = 32 := by omega
                rw [this]; rfl
              · right; apply UInt8.toNat_inj.1
                have : s[k].toNat = 9 := by omega
                rw [this]; rfl
            have H35 : Hid (s[k] ≠ 35) := by intro h; rw [h] at h35; exact absurd h35 (by decide)
            cases h32 : ((s[k].toNat : Int) == 32) with
            | true =>
              have h32' : ((s[k].toNat : Int) != 32) = false := by simp only [bne, h32, Bool.not_true]
              clear hsp
              by_cases hlak : a < k
              · have HP : Hid ((s.extract a k).data.toList = pieceU s.data.toList a k) := extract_piece s a k
                have HS : Hid (wordsGo (s.data.toList.drop k) (pieceU s.data.toList a k) = pieceU s.data.toList a k :: wordsGo (s.data.toList.drop (k + 1)) (pieceU s.data.toList (k + 1) (k + 1))) := words_sep hlak HC.out H35.out HSEP.out
                go_wp2_with (at_builtin; refine wpList_append_own _ rfl (.tmp 37) (.tmp 42) 37 rfl w.heap.size 9 i0 (.string ⟨#[]⟩) 1 16 Tryz.underlying37 hi hz0 hz1 hz2 rfl (by decide) _ _ _ rfl (hown.alloc _) ⟨wr.heap.size, 0, none⟩ 1 1 [.string (s.extract a k)] rfl rfl (cell_one_new _ _ _) (by intro u hu; simp at hu; subst hu; rfl) (by unfold maxLen; omega) (by omega) (by simp; omega) ?_; intro v1 w1 hown1 hgrow1 hnil1)
                have hb1 : Below w.heap.size w w1 := (hb.alloc hbs _).grown hgrow1 (by simp; omega) (fun j hj => (hown.lt j hj).1)
                have hown2 : w1.ownsRow w.heap.size 9 1 v1 (ss ++ [s.extract a k]).length ((ss ++ [s.extract a k]).map Value.string) := by rw [List.length_append, List.map_append]; exact hown1
                clear hown1 hgrow1 hnil1 hown hb
                go_wp2
                go_roundg g
                case measure => omega
                case rel => exact ⟨k + 1, k + 1, ss ++ [s.extract a k], by omega, by go_num, by go_num, by omega, by simp; omega, by show ite _ _ _; rw [if_pos (by omega), List.map_append, ← HI2.out, HS.out, List.map_cons, HP.out, List.append_assoc]; rfl, hown2, hb1⟩
              · have hak3 : a = k := by omega
                subst hak3
                have HS : Hid (wordsGo (s.data.toList.drop a) (pieceU s.data.toList a a) = wordsGo (s.data.toList.drop (a + 1)) (pieceU s.data.toList (a + 1) (a + 1))) := words_sep0 HC.out H35.out HSEP.out
                go_wp2
                go_roundg g
                case measure => omega
                case rel => exact ⟨a + 1, a + 1, ss, by omega, by go_num, by go_num, by omega, by omega, by show ite _ _ _; rw [if_pos (by omega), ← HS.out]; exact HI2.out, hown, hb⟩
            | false =>
              have h32' : ((s[k].toNat : Int) != 32) = true := by simp only [bne, h32, Bool.not_false]
              have h9 : ((s[k].toNat : Int) == 9) = true := by rw [h32] at hsp; simpa using hsp
              have h9' : ((s[k].toNat : Int) != 9) = false := by simp only [bne, h9, Bool.not_true]
              clear hsp
              by_cases hlak : a < k
              · have HP : Hid ((s.extract a k).data.toList = pieceU s.data.toList a k) := extract_piece s a k
                have HS : Hid (wordsGo (s.data.toList.drop k) (pieceU s.data.toList a k) = pieceU s.data.toList a k :: wordsGo (s.data.toList.drop (k + 1)) (pieceU s.data.toList (k + 1) (k + 1))) := words_sep hlak HC.out H35.out HSEP.out
                go_wp2_with (at_builtin; refine wpList_append_own _ rfl (.tmp 37) (.tmp 42) 37 rfl w.heap.size 9 i0 (.string ⟨#[]⟩) 1 16 Tryz.underlying37 hi hz0 hz1 hz2 rfl (by decide) _ _ _ rfl (hown.alloc _) ⟨wr.heap.size, 0, none⟩ 1 1 [.string (s.extract a k)] rfl rfl (cell_one_new _ _ _) (by intro u hu; simp at hu; subst hu; rfl) (by unfold maxLen; omega) (by omega) (by simp; omega) ?_; intro v1 w1 hown1 hgrow1 hnil1)
                have hb1 : Below w.heap.size w w1 := (hb.alloc hbs _).grown hgrow1 (by simp; omega) (fun j hj => (hown.lt j hj).1)
                have hown2 : w1.ownsRow w.heap.size 9 1 v1 (ss ++ [s.extract a k]).length ((ss ++ [s.extract a k]).map Value.string) := by rw [List.length_append, List.map_append]; exact hown1
                clear hown1 hgrow1 hnil1 hown hb
                go_wp2
                go_roundg g
                case measure => omega
                case rel => exact ⟨k + 1, k + 1, ss ++ [s.extract a k], by omega, by go_num, by go_num, by omega, by simp; omega, by show ite _ _ _; rw [if_pos (by omega), List.map_append, ← HI2.out, HS.out, List.map_cons, HP.out, List.append_assoc]; rfl, hown2, hb1⟩
              · have hak3 : a = k := by omega
                subst hak3
                have HS : Hid (wordsGo (s.data.toList.drop a) (pieceU s.data.toList a a) = wordsGo (s.data.toList.drop (a + 1)) (pieceU s.data.toList (a + 1) (a + 1))) := words_sep0 HC.out H35.out HSEP.out
                go_wp2
                go_roundg g
                case measure => omega
                case rel => exact ⟨a + 1, a + 1, ss, by omega, by go_num, by go_num, by omega, by omega, by show ite _ _ _; rw [if_pos (by omega), ← HS.out]; exact HI2.out, hown, hb⟩
      · have HK2 : Hid (s.size = k) := by show s.size = k; omega
        have hge : ¬ (k : Int) < (s.size : Int) := by omega
        have hKs := HK2.out
        have hks1 : s.size ≤ k := by omega
        clear hKs
        by_cases hlak : a < k
        · have HP : Hid ((s.extract a k).data.toList = pieceU s.data.toList a k) := extract_piece s a k
          have HS : Hid (wordsGo (s.data.toList.drop k) (pieceU s.data.toList a k) = [pieceU s.data.toList a k]) := by
            show wordsGo _ _ = _
            have := words_end (l := s.data.toList) (a := a) (by rw [HL.out]; omega)
            rw [HL.out] at this
            rw [← HK2.out]
            exact this
          go_wp2_with (at_builtin; refine wpList_append_own _ rfl (.tmp 37) (.tmp 42) 37 rfl w.heap.size 9 i0 (.string ⟨#[]⟩) 1 16 Tryz.underlying37 hi hz0 hz1 hz2 rfl (by decide) _ _ _ rfl (hown.alloc _) ⟨wr.heap.size, 0, none⟩ 1 1 [.string (s.extract a k)] rfl rfl (cell_one_new _ _ _) (by intro u hu; simp at hu; subst hu; rfl) (by unfold maxLen; omega) (by omega) (by simp; omega) ?_; intro v1 w1 hown1 hgrow1 hnil1)
          have hb1 : Below w.heap.size w w1 := (hb.alloc hbs _).grown hgrow1 (by simp; omega) (fun j hj => (hown.lt j hj).1)
          have hown2 : w1.ownsRow w.heap.size 9 1 v1 (ss ++ [s.extract a k]).length ((ss ++ [s.extract a k]).map Value.string) := by rw [List.length_append, List.map_append]; exact hown1
          clear hown1 hgrow1 hnil1 hown hb
          go_wp2
          go_roundg g
          case measure => omega
          case rel => exact ⟨k + 1, k + 1, ss ++ [s.extract a k], by omega, by go_num, by go_num, by omega, by simp; omega, by show ite _ _ _; rw [if_neg (by omega), List.map_append, ← HI2.out, HS.out, List.map_cons, HP.out]; rfl, hown2, hb1⟩
        · have hak3 : a = k := by omega
          subst hak3
          have HS : Hid (wordsGo (s.data.toList.drop a) (pieceU s.data.toList a a) = []) := by
            show wordsGo _ _ = _
            have := words_end0 (l := s.data.toList)
            rw [HL.out] at this
            rw [← HK2.out]
            exact this
          go_wp2
          go_roundg g
          case measure => omega
          case rel => exact ⟨a + 1, a + 1, ss, by omega, by go_num, by go_num, by omega, by omega, by show ite _ _ _; rw [if_neg (by omega), ← HI2.out, HS.out, List.append_nil], hown, hb⟩

end Go.Proofs.Rin
end

section
namespace Go.Proofs.Rin
open Go.RowKit Go.Rin Go.Lib

theorem ret_num {a b : Int} {x y : Bool} (h : a = b) (k : x = y) : Ending.returned (.tuple #[.int .i64 a, .bool x]) = .returned (.tuple #[.int .i64 b, .bool y]) := by rw [h, k]

/-- what Number gives -/
def NumPost (w : World) (o : Option Nat) (e : Ending) (w' : World) : Prop := e = .returned (.tuple #[.int .i64 (match o with | some m => (m : Int) | none => 0), .bool o.isSome]) ∧ w = w'
def SignPost (w : World) (o : Option Int) (e : Ending) (w' : World) : Prop := ∃ n : Int, e = .returned (.tuple #[.int .i64 n, .bool o.isSome]) ∧ (∀ m, o = some m → n = m) ∧ w = w'

theorem decV_step (l : List UInt8) (k : Nat) (c : UInt8) (hk : l[k]? = some c) : decV 0 (l.take (k + 1)) = decV 0 (l.take k) * 10 + (c.toNat - 48) := by
  rw [List.take_add_one, hk]
  exact decV_snoc _ _ _

theorem dig_at {l : List UInt8} {k : Nat} {c : UInt8} (hd : l.all isDig = true) (hk : l[k]? = some c) : 48 ≤ c.toNat ∧ c.toNat ≤ 57 :=
  isDig_iff.1 (List.all_eq_true.1 hd c (List.mem_of_getElem? hk))

theorem num_bound {l : List UInt8} {k : Nat} {c : UInt8} (hd : l.all isDig = true) (hb : decV 0 l ≤ 9223372036854775807) (hk : l[k]? = some c) :
    (10 : Int) * (decV 0 (l.take k) : Int) + ((c.toNat : Int) - 48) ≤ 9223372036854775807 ∧ (48 : Int) ≤ (c.toNat : Int) ∧ (c.toNat : Int) ≤ 57 ∧
    (10 : Int) * (decV 0 (l.take k) : Int) + ((c.toNat : Int) - 48) = (decV 0 (l.take (k + 1)) : Int) := by
  have h1 := decV_step l k c hk
  have h2 := decV_take_le l (k + 1)
  have h3 := dig_at hd hk
  omega

set_option maxHeartbeats 2000000 in
set_option maxRecDepth 1000000 in
theorem number_any (s : ByteArray) (w : World) (hs : s.size ≤ 1000) : Calls Tryz.prog 85 #[.string s] w (NumPost w (numV s.data.toList)) := by
  go_enter Tryz.func85, Tryz.ntmps85
  go_wp2
  go_loopg [5] s.size (fun g i wx => ∃ k : Nat, k + g = s.size ∧ i = .int .i64 k ∧ Hid ((s.data.toList.take k).all isDig = true) ∧ w = wx)
  case atStart => exact ⟨0, by omega, rfl, Lib.hid (by simp), rfl⟩
  case round =>
    obtain ⟨k, hk, rfl, HA, rfl⟩ := hrel
    cases gk with
    | succ g =>
      have hlt : k < s.size := by omega
      have cD := digit_any s[k] w
      cases hp : isDig s[k] with
      | true =>
        rw [hp] at cD
        have HB := Lib.hid (all_take _ k _ HA.out (get_at s k hlt) hp)
        clear hp HA
        go_wp2_with (go_at_call 88; refine cD.mono ?_; rintro e w' ⟨rfl, rfl⟩)
        go_roundg g
        case measure => omega
        case rel => exact ⟨k + 1, by omega, by go_num, HB, rfl⟩
      | false =>
        rw [hp] at cD
        have HN := Lib.hid (num_nodig (get_at s k hlt) hp)
        clear hp HA
        go_wp2_with (go_at_call 88; refine cD.mono ?_; rintro e w' ⟨rfl, rfl⟩)
        go_ret2
        show NumPost _ _ _ _
        rw [HN.out]
        exact ⟨rfl, rfl⟩
    | zero =>
      have hk' : k = s.size := by omega
      subst hk'
      have hall : s.data.toList.all isDig = true := by have := HA.out; rwa [List.take_of_length_le (by rw [← size_eq]; exact Nat.le_refl _)] at this
      have HL := Lib.hid hall
      clear HA hk hall
      have HS : Hid (s.data.toList.length = s.size) := (size_eq s).symm
      by_cases h0 : s.size = 0
      · have hemp : s.toList.isEmpty = true := by
          rw [toList_data, List.isEmpty_iff]
          exact List.eq_nil_of_length_eq_zero (by rw [HS.out]; exact h0)
        have HN : Hid (numV s.data.toList = none) := by
          show numV _ = none
          have : s.data.toList = [] := List.eq_nil_of_length_eq_zero (by rw [HS.out]; exact h0)
          rw [this]; exact num_nil
        clear h0
        go_wp2
        go_ret2
        show NumPost _ _ _ _
        rw [HN.out]
        exact ⟨rfl, rfl⟩
      · have hpos : 0 < s.size := by omega
        clear h0
        have hemp : s.toList.isEmpty = false := by
          rw [toList_data, List.isEmpty_eq_false_iff]
          intro h
          have := HS.out
          rw [h] at this
          simp at this
          omega
        have hhd : s.data.toList.head? = some s[0] := by
          rw [List.head?_eq_getElem?]; exact get_at s 0 hpos
        have HH := Lib.hid hhd
        clear hhd
        have h48 : ∀ b, ((s[0].toNat : Int) == 48) = b → (b = true → s.data.toList.head? = some 48) ∧ (b = false → s.data.toList.head? ≠ some 48) := by
          intro b hb
          rw [HH.out]
          constructor
          · intro h; subst h
            have : s[0] = 48 := UInt8.toNat_inj.1 (by simp only [beq_iff_eq] at hb; have : s[0].toNat = 48 := by omega
                                                      rw [this]; rfl)
            rw [this]
          · intro h; subst h
            intro hh
            simp only [Option.some.injEq] at hh
            rw [hh] at hb
            exact absurd hb (by decide)
        have hgr : gtGreat s.data.toList = (!(Op.bytesLess s.toList [57, 50, 50, 51, 51, 55, 50, 48, 51, 54, 56, 53, 52, 55, 55, 53, 56, 48, 55] || s.toList == [57, 50, 50, 51, 51, 55, 50, 48, 51, 54, 56, 53, 52, 55, 55, 53, 56, 48, 55])) := by
          unfold gtGreat; rw [toList_data]; rfl
        by_cases hbad : numV s.data.toList = none
        · -- no number
          have HN := Lib.hid hbad
          have key : (1 < s.size ∧ ((s[0].toNat : Int) == 48) = true) ∨ (((s[0].toNat : Int) == 48) = false ∧ 19 < s.size) ∨ (((s[0].toNat : Int) == 48) = false ∧ s.size = 19 ∧ Op.bytesLess s.toList [57, 50, 50, 51, 51, 55, 50, 48, 51, 54, 56, 53, 52, 55, 55, 53, 56, 48, 55] = false ∧ (s.toList == [57, 50, 50, 51, 51, 55, 50, 48, 51, 54, 56, 53, 52, 55, 55, 53, 56, 48, 55]) = false) := by
            by_cases g1 : 1 < s.size ∧ ((s[0].toNat : Int) == 48) = true
            · exact .inl g1
            · by_cases g2 : 19 < s.size
              · have : ((s[0].toNat : Int) == 48) = false := by
                  rw [Bool.eq_false_iff]; intro h; exact g1 ⟨by omega, h⟩
                exact .inr (.inl ⟨this, g2⟩)
              · by_cases g3 : s.size = 19
                · have hz : ((s[0].toNat : Int) == 48) = false := by
                    rw [Bool.eq_false_iff]; intro h; exact g1 ⟨by omega, h⟩
                  have hg : gtGreat s.data.toList = true := by
                    rw [← Bool.not_eq_false]
                    intro hg
                    have := num_ok (l := s.data.toList) (by intro h; have := HS.out; rw [h] at this; simp at this; omega) HL.out (fun h => (h48 _ hz).2 rfl h.2) (by rw [HS.out]; omega) (fun _ => hg)
                    rw [hbad] at this
                    cases this.1
                  rw [hgr] at hg
                  simp only [Bool.not_eq_true', Bool.or_eq_false_iff] at hg
                  exact .inr (.inr ⟨hz, g3, hg.1, hg.2⟩)
                · exfalso
                  have := num_ok (l := s.data.toList) (by intro h; have := HS.out; rw [h] at this; simp at this; omega) HL.out (fun h => g1 ⟨by rw [← HS.out]; exact h.1, by
                    cases hz : ((s[0].toNat : Int) == 48) with
                    | true => rfl
                    | false => exact absurd h.2 ((h48 _ hz).2 rfl)⟩) (by rw [HS.out]; omega) (fun h => by rw [HS.out] at h; omega)
                  rw [hbad] at this
                  cases this.1
          clear hbad hgr h48
          rcases key with ⟨g1, g2⟩ | ⟨g1, g2⟩ | ⟨g1, g2, g3, g4⟩
          · go_wp2
            all_goals
              go_ret2
              show NumPost _ _ _ _
              rw [HN.out]
              exact ⟨rfl, rfl⟩
          · go_wp2
            all_goals
              go_ret2
              show NumPost _ _ _ _
              rw [HN.out]
              exact ⟨rfl, rfl⟩
          · have g5 : ((s.size : Int) == 19) = true := by simp [g2]
            have g6 : ((19 : Int) < (s.size : Int)) = False := by simp [g2]
            have g7 : (1 : Int) < (s.size : Int) := by omega
            have HG := Lib.hid g2
            clear g2 g6
            go_wp2
            all_goals
              go_ret2
              show NumPost _ _ _ _
              rw [HN.out]
              exact ⟨rfl, rfl⟩
        · -- a number
          obtain ⟨m, hm⟩ := Option.ne_none_iff_exists'.1 hbad
          obtain ⟨hok, hmv⟩ := numV_inv hm
          have HN := Lib.hid hm
          have HV := Lib.hid hmv
          have HB := Lib.hid hok.2.2.2
          have key : (((s[0].toNat : Int) == 48) = true ∧ s.size = 1) ∨ (((s[0].toNat : Int) == 48) = false ∧ s.size < 19) ∨ (((s[0].toNat : Int) == 48) = false ∧ s.size = 19 ∧ (Op.bytesLess s.toList [57, 50, 50, 51, 51, 55, 50, 48, 51, 54, 56, 53, 52, 55, 55, 53, 56, 48, 55] = true ∨ (s.toList == [57, 50, 50, 51, 51, 55, 50, 48, 51, 54, 56, 53, 52, 55, 55, 53, 56, 48, 55]) = true)) := by
            cases hz : ((s[0].toNat : Int) == 48) with
            | true => exact .inl ⟨rfl, by rw [← HS.out]; exact hok.2.2.1 ((h48 _ hz).1 rfl)⟩
            | false =>
              have hnz := (h48 _ hz).2 rfl
              by_cases g2 : s.size < 19
              · exact .inr (.inl ⟨rfl, g2⟩)
              · by_cases g3 : s.size = 19
                · refine .inr (.inr ⟨rfl, g3, ?_⟩)
                  have : gtGreat s.data.toList = false := by
                    rw [Bool.eq_false_iff]
                    intro hg
                    have := num_great HL.out (by rw [HS.out]; exact g3) hg
                    rw [this] at hm; cases hm
                  rw [hgr] at this
                  cases hbl : Op.bytesLess s.toList [57, 50, 50, 51, 51, 55, 50, 48, 51, 54, 56, 53, 52, 55, 55, 53, 56, 48, 55] with
                  | true => exact .inl rfl
                  | false => rw [hbl] at this; exact .inr (by simpa using this)
                · have := num_long HL.out (by rw [HS.out]; omega) hnz
                  rw [this] at hm; cases hm
          clear hbad hgr h48 hm hmv hok
          rcases key with ⟨g1, g2⟩ | ⟨g1, g2⟩ | ⟨g1, g2, g3⟩
          · have g7 : ¬ (1 : Int) < (s.size : Int) := by omega
            have g8 : ¬ (19 : Int) < (s.size : Int) := by omega
            have g9 : ((s.size : Int) == 19) = false := by rw [beq_eq_false_iff_ne]; omega
            clear g2
            go_wp2
            go_loopg [4, 6] s.size (fun g n i wx => ∃ k : Nat, k + g = s.size ∧ i = .int .i64 k ∧ n = .int .i64 ((decV 0 (s.data.toList.take k) : Nat) : Int) ∧ w = wx)
            case atStart => exact ⟨0, by omega, rfl, by simp [decV_nil], rfl⟩
            case round =>
              obtain ⟨k, hk, rfl, rfl, rfl⟩ := hrel
              cases gk with
              | zero =>
                have hk' : k = s.size := by omega
                subst hk'
                have HE : Hid (m = decV 0 (s.data.toList.take s.size)) := by
                  show m = _
                  rw [List.take_of_length_le (by rw [HS.out]; exact Nat.le_refl _)]; exact HV.out
                clear hk
                go_wp2
                go_ret2
                show NumPost _ _ _ _
                rw [HN.out, HE.out]
                exact ⟨rfl, rfl⟩
              | succ g =>
                have hlt : k < s.size := by omega
                obtain ⟨b1, b2, b3, b4⟩ := num_bound HL.out HB.out (get_at s k hlt)
                have HE := Lib.hid b4
                obtain ⟨N, hN⟩ : ∃ N : Nat, decV 0 (s.data.toList.take k) = N := ⟨_, rfl⟩
                obtain ⟨N', hN'⟩ : ∃ N : Nat, decV 0 (s.data.toList.take (k + 1)) = N := ⟨_, rfl⟩
                rw [hN] at b1
                have HK : Hid ((10 : Int) * (N : Int) + ((s[k].toNat : Int) - 48) = N') := by rw [← hN, ← hN']; exact HE.out
                rw [hN]
                have HN2 := Lib.hid hN'
                clear b4 HE hN hN'
                go_wp2
                go_roundg g
                case measure => omega
                case rel => exact ⟨k + 1, by omega, by go_num, by rw [HN2.out, ← HK.out], rfl⟩
          · have g8 : ¬ (19 : Int) < (s.size : Int) := by omega
            have g9 : ((s.size : Int) == 19) = false := by rw [beq_eq_false_iff_ne]; omega
            clear g2
            by_cases g7 : (1 : Int) < (s.size : Int)
            · go_wp2
              go_loopg [4, 6] s.size (fun g n i wx => ∃ k : Nat, k + g = s.size ∧ i = .int .i64 k ∧ n = .int .i64 ((decV 0 (s.data.toList.take k) : Nat) : Int) ∧ w = wx)
              case atStart => exact ⟨0, by omega, rfl, by simp [decV_nil], rfl⟩
              case round =>
                obtain ⟨k, hk, rfl, rfl, rfl⟩ := hrel
                cases gk with
                | zero =>
                  have hk' : k = s.size := by omega
                  subst hk'
                  have HE : Hid (m = decV 0 (s.data.toList.take s.size)) := by
                    show m = _
                    rw [List.take_of_length_le (by rw [HS.out]; exact Nat.le_refl _)]; exact HV.out
                  clear hk
                  go_wp2
                  go_ret2
                  show NumPost _ _ _ _
                  rw [HN.out, HE.out]
                  exact ⟨rfl, rfl⟩
                | succ g =>
                  have hlt : k < s.size := by omega
                  obtain ⟨b1, b2, b3, b4⟩ := num_bound HL.out HB.out (get_at s k hlt)
                  have HE := Lib.hid b4
                  obtain ⟨N, hN⟩ : ∃ N : Nat, decV 0 (s.data.toList.take k) = N := ⟨_, rfl⟩
                  obtain ⟨N', hN'⟩ : ∃ N : Nat, decV 0 (s.data.toList.take (k + 1)) = N := ⟨_, rfl⟩
                  rw [hN] at b1
                  have HK : Hid ((10 : Int) * (N : Int) + ((s[k].toNat : Int) - 48) = N') := by rw [← hN, ← hN']; exact HE.out
                  rw [hN]
                  have HN2 := Lib.hid hN'
                  clear b4 HE hN hN'
                  go_wp2
                  go_roundg g
                  case measure => omega
                  case rel => exact ⟨k + 1, by omega, by go_num, by rw [HN2.out, ← HK.out], rfl⟩
            · go_wp2
              go_loopg [4, 6] s.size (fun g n i wx => ∃ k : Nat, k + g = s.size ∧ i = .int .i64 k ∧ n = .int .i64 ((decV 0 (s.data.toList.take k) : Nat) : Int) ∧ w = wx)
              case atStart => exact ⟨0, by omega, rfl, by simp [decV_nil], rfl⟩
              case round =>
                obtain ⟨k, hk, rfl, rfl, rfl⟩ := hrel
                cases gk with
                | zero =>
                  have hk' : k = s.size := by omega
                  subst hk'
                  have HE : Hid (m = decV 0 (s.data.toList.take s.size)) := by
                    show m = _
                    rw [List.take_of_length_le (by rw [HS.out]; exact Nat.le_refl _)]; exact HV.out
                  clear hk
                  go_wp2
                  go_ret2
                  show NumPost _ _ _ _
                  rw [HN.out, HE.out]
                  exact ⟨rfl, rfl⟩
                | succ g =>
                  have hlt : k < s.size := by omega
                  obtain ⟨b1, b2, b3, b4⟩ := num_bound HL.out HB.out (get_at s k hlt)
                  have HE := Lib.hid b4
                  obtain ⟨N, hN⟩ : ∃ N : Nat, decV 0 (s.data.toList.take k) = N := ⟨_, rfl⟩
                  obtain ⟨N', hN'⟩ : ∃ N : Nat, decV 0 (s.data.toList.take (k + 1)) = N := ⟨_, rfl⟩
                  rw [hN] at b1
                  have HK : Hid ((10 : Int) * (N : Int) + ((s[k].toNat : Int) - 48) = N') := by rw [← hN, ← hN']; exact HE.out
                  rw [hN]
                  have HN2 := Lib.hid hN'
                  clear b4 HE hN hN'
                  go_wp2
                  go_roundg g
                  case measure => omega
                  case rel => exact ⟨k + 1, by omega, by go_num, by rw [HN2.out, ← HK.out], rfl⟩
          · have g5 : ((s.size : Int) == 19) = true := by simp [g2]
            have g7 : (1 : Int) < (s.size : Int) := by omega
            have g8 : ¬ (19 : Int) < (s.size : Int) := by omega
            have HG := Lib.hid g2
            clear g2
            rcases g3 with g3 | g3
            · go_wp2
              go_loopg [4, 6] s.size (fun g n i wx => ∃ k : Nat, k + g = s.size ∧ i = .int .i64 k ∧ n = .int .i64 ((decV 0 (s.data.toList.take k) : Nat) : Int) ∧ w = wx)
              case atStart => exact ⟨0, by omega, rfl, by simp [decV_nil], rfl⟩
              case round =>
                obtain ⟨k, hk, rfl, rfl, rfl⟩ := hrel
                cases gk with
                | zero =>
                  have hk' : k = s.size := by omega
                  subst hk'
                  have HE : Hid (m = decV 0 (s.data.toList.take s.size)) := by
                    show m = _
                    rw [List.take_of_length_le (by rw [HS.out]; exact Nat.le_refl _)]; exact HV.out
                  clear hk
                  go_wp2
                  go_ret2
                  show NumPost _ _ _ _
                  rw [HN.out, HE.out]
                  exact ⟨rfl, rfl⟩
                | succ g =>
                  have hlt : k < s.size := by omega
                  obtain ⟨b1, b2, b3, b4⟩ := num_bound HL.out HB.out (get_at s k hlt)
                  have HE := Lib.hid b4
                  obtain ⟨N, hN⟩ : ∃ N : Nat, decV 0 (s.data.toList.take k) = N := ⟨_, rfl⟩
                  obtain ⟨N', hN'⟩ : ∃ N : Nat, decV 0 (s.data.toList.take (k + 1)) = N := ⟨_, rfl⟩
                  rw [hN] at b1
                  have HK : Hid ((10 : Int) * (N : Int) + ((s[k].toNat : Int) - 48) = N') := by rw [← hN, ← hN']; exact HE.out
                  rw [hN]
                  have HN2 := Lib.hid hN'
                  clear b4 HE hN hN'
                  go_wp2
                  go_roundg g
                  case measure => omega
                  case rel => exact ⟨k + 1, by omega, by go_num, by rw [HN2.out, ← HK.out], rfl⟩
            · go_wp2
              go_loopg [4, 6] s.size (fun g n i wx => ∃ k : Nat, k + g = s.size ∧ i = .int .i64 k ∧ n = .int .i64 ((decV 0 (s.data.toList.take k) : Nat) : Int) ∧ w = wx)
              case atStart => exact ⟨0, by omega, rfl, by simp [decV_nil], rfl⟩
              case round =>
                obtain ⟨k, hk, rfl, rfl, rfl⟩ := hrel
                cases gk with
                | zero =>
                  have hk' : k = s.size := by omega
                  subst hk'
                  have HE : Hid (m = decV 0 (s.data.toList.take s.size)) := by
                    show m = _
                    rw [List.take_of_length_le (by rw [HS.out]; exact Nat.le_refl _)]; exact HV.out
                  clear hk
                  go_wp2
                  go_ret2
                  show NumPost _ _ _ _
                  rw [HN.out, HE.out]
                  exact ⟨rfl, rfl⟩
                | succ g =>
                  have hlt : k < s.size := by omega
                  obtain ⟨b1, b2, b3, b4⟩ := num_bound HL.out HB.out (get_at s k hlt)
                  have HE := Lib.hid b4
                  obtain ⟨N, hN⟩ : ∃ N : Nat, decV 0 (s.data.toList.take k) = N := ⟨_, rfl⟩
                  obtain ⟨N', hN'⟩ : ∃ N : Nat, decV 0 (s.data.toList.take (k + 1)) = N := ⟨_, rfl⟩
                  rw [hN] at b1
                  have HK : Hid ((10 : Int) * (N : Int) + ((s[k].toNat : Int) - 48) = N') := by rw [← hN, ← hN']; exact HE.out
                  rw [hN]
                  have HN2 := Lib.hid hN'
                  clear b4 HE hN hN'
                  go_wp2
                  go_roundg g
                  case measure => omega
                  case rel => exact ⟨k + 1, by omega, by go_num, by rw [HN2.out, ← HK.out], rfl⟩

theorem sign_minus {l : List UInt8} (h : l.head? = some 45) : signV l = (numV (l.drop 1)).map fun m => -(m : Int) := by unfold signV; rw [if_pos h]
theorem sign_plain {l : List UInt8} (h : l.head? ≠ some 45) : signV l = (numV l).map fun m => (m : Int) := by unfold signV; rw [if_neg h]
theorem numV_le {l : List UInt8} {m : Nat} (h : numV l = some m) : m ≤ 9223372036854775807 := by
  obtain ⟨hok, rfl⟩ := numV_inv h
  exact hok.2.2.2

set_option maxHeartbeats 1000000 in
set_option maxRecDepth 1000000 in
theorem refnum_any (s : ByteArray) (w : World) (hs : s.size ≤ 1000) : Calls Tryz.prog 38 #[.string s] w (SignPost w (signV s.data.toList)) := by
  by_cases hpos : 0 < s.size
  · have hhd : s.data.toList.head? = some s[0] := by
      rw [List.head?_eq_getElem?]; exact get_at s 0 hpos
    cases hz : ((s[0].toNat : Int) == 45) with
    | true =>
      have h45 : s[0] = 45 := UInt8.toNat_inj.1 (by
        simp only [beq_iff_eq] at hz
        have : s[0].toNat = 45 := by omega
        rw [this]; rfl)
      have hS : signV s.data.toList = (numV (s.extract 1 s.size).data.toList).map fun m => -(m : Int) := by
        rw [extract_to_end]
        exact sign_minus (by rw [hhd, h45])
      rw [hS]
      have cN := number_any (s.extract 1 s.size) w (by rw [ByteArray.size_extract]; omega)
      cases hv : numV (s.extract 1 s.size).data.toList with
      | none =>
        rw [hv] at cN
        clear hhd h45 hS hv
        go_enter Tryz.func38, Tryz.ntmps38
        go_wp2_with (go_at_call 85; refine cN.mono ?_; rintro e w' ⟨rfl, rfl⟩)
        go_ret2
        exact ⟨_, rfl, (fun m h => by cases h), rfl⟩
      | some m =>
        have hm := numV_le hv
        rw [hv] at cN
        have h0 : (0 : Int) ≤ (m : Int) := by omega
        have h1 : (m : Int) ≤ 9223372036854775807 := by omega
        clear hhd h45 hS hv hm
        go_enter Tryz.func38, Tryz.ntmps38
        go_wp2_with (go_at_call 85; refine cN.mono ?_; rintro e w' ⟨rfl, rfl⟩)
        go_ret2
        exact ⟨_, rfl, (fun k h => by cases h; rfl), rfl⟩
    | false =>
      have h45 : s.data.toList.head? ≠ some 45 := by
        rw [hhd]
        intro h
        simp only [Option.some.injEq] at h
        rw [h] at hz
        exact absurd hz (by decide)
      rw [sign_plain h45]
      have cN := number_any s w hs
      clear hhd h45
      cases hv : numV s.data.toList with
      | none =>
        rw [hv] at cN
        clear hv
        go_enter Tryz.func38, Tryz.ntmps38
        go_wp2_with (go_at_call 85; refine cN.mono ?_; rintro e w' ⟨rfl, rfl⟩)
        go_ret2
        exact ⟨_, rfl, (fun m h => by cases h), rfl⟩
      | some m =>
        rw [hv] at cN
        clear hv
        go_enter Tryz.func38, Tryz.ntmps38
        go_wp2_with (go_at_call 85; refine cN.mono ?_; rintro e w' ⟨rfl, rfl⟩)
        go_ret2
        exact ⟨_, rfl, (fun k h => by cases h; rfl), rfl⟩
  · have hnil : s.data.toList = [] := List.eq_nil_of_length_eq_zero (by rw [← size_eq]; omega)
    have hS : signV s.data.toList = none := by rw [hnil, sign_plain (by simp), num_nil]; rfl
    have hN : numV s.data.toList = none := by rw [hnil]; exact num_nil
    have cN := number_any s w hs
    rw [hN] at cN
    rw [hS]
    clear hnil hS hN
    go_enter Tryz.func38, Tryz.ntmps38
    go_wp2_with (go_at_call 85; refine cN.mono ?_; rintro e w' ⟨rfl, rfl⟩)
    go_ret2
    exact ⟨_, rfl, (fun m h => by cases h), rfl⟩

end Go.Proofs.Rin
end

section
namespace Go.Proofs.Rin
open Go.RowKit Go.Rin Go.Lib

theorem Tryz_info3 : (Tryz.prog.info? 3).map (fun i => (i.zero, i.size, i.bytes)) = some (some (.int .i64 0), 1, 8) := by kernel_rfl

theorem own_slice {w : World} {B e s n : Nat} {v : Value} {xs : List Value} (h : w.ownsRow B e s v n xs) : ∃ a l c, v = .slice a l c := by
  rcases h.2 with ⟨rfl, _⟩ | ⟨g, cap, cur, rfl, _⟩
  · exact ⟨_, _, _, rfl⟩
  · exact ⟨_, _, _, rfl⟩

theorem cell_of {w : World} {b : Nat} {c : Array Value} {t : TypeId} (h : w.heap[b]? = some (.cells c t)) (j : Nat) : w.cell? ⟨b, j, none⟩ = c[j]? := by
  unfold World.cell?; rw [h]; rfl
theorem frozen_of {w : World} {b : Nat} {c : Array Value} {t : TypeId} (h : w.heap[b]? = some (.cells c t)) (j : Nat) : w.frozen? ⟨b, j, none⟩ = false := frozen_of_row w b j c t h
theorem lt_of {w : World} {b : Nat} {o : Obj} (h : w.heap[b]? = some o) : b < w.heap.size := (Array.getElem?_eq_some_iff.1 h).1

theorem two_cells {w : World} {N : Nat} {a b : Value} (h0 : w.cell? ⟨N, 0, none⟩ = some a) (h1 : w.cell? ⟨N, 1, none⟩ = some b) (x y : Value) :
    (w.setCell ⟨N, 0, none⟩ x).cell? ⟨N, 0, none⟩ = some x ∧ ((w.setCell ⟨N, 0, none⟩ x).setCell ⟨N, 1, none⟩ y).cell? ⟨N, 1, none⟩ = some y := by
  have h1' : (w.setCell ⟨N, 0, none⟩ x).cell? ⟨N, 1, none⟩ = some b := by
    rw [World.cell?_setCell_other _ _ _ _ (by simp)]
    exact h1
  exact ⟨World.cell?_setCell_same _ _ _ h0, World.cell?_setCell_same _ _ _ h1'⟩

theorem in_post {w wr : World} {s0 : ByteArray} {ua : Option Addr} {ul uc : Nat} {x y : Value} {k : Int} {out : List Inp} {ws : List (List UInt8)} (hb : Below w.heap.size w wr) (hk : k = (inputV out ws).1) (hne : k ≠ 0) :
    InPost w out ws (.returned (.tuple #[.agg #[.string s0, .slice ua ul uc], .int .i64 k])) ((wr.setCell ⟨w.heap.size, 0, none⟩ x).setCell ⟨w.heap.size, 1, none⟩ y) := by
  unfold InPost
  have b1 := hb.setCell (p := ⟨w.heap.size, 0, none⟩) (Nat.le_refl _) x
  have b2 := b1.setCell (p := ⟨w.heap.size, 1, none⟩) (Nat.le_refl _) y
  exact ⟨s0, ua, ul, uc, k, rfl, b2, hk, fun h => absurd h hne⟩

/-- behind an append to the call's own numbers -/
theorem after_app {wr w1 : World} {B N n : Nat} {v v1 : Value} {xs ys : List Value} {o : Obj} {c : Array Value} {t : TypeId} (ht : (3 : Nat) ≠ t) (hX : wr.heap[N]? = some (.cells c t)) (hown : wr.ownsRow B 3 1 v n ys)
    (hown1 : w1.ownsRow B 3 1 v1 (n + 1) xs) (hg : (wr.alloc o).grownBy w1 v.ownBlock) : (∃ g1 c1, v1 = .slice (some ⟨g1, 0, none⟩) (n + 1) c1) ∧ w1.heap[N]? = some (.cells c t) := by
  obtain ⟨g1, c1, hv1, _⟩ := own_cell hown1 (by omega)
  refine ⟨⟨g1, c1, hv1⟩, ?_⟩
  have hl := lt_of hX
  rw [hg.block N (by simp; omega) ?_, Below.heap_alloc _ _ _ hl]
  · exact hX
  · intro h
    rcases own_ne_block hown hX ht with h0 | h0
    · rw [h0] at h; cases h
    · exact h0 h.symm

theorem grown_setCell (w : World) (a : Addr) (u : Value) : w.grownBy (w.setCell a u) (some a.block) :=
  ⟨rfl, rfl, rfl, by simp [World.setCell], fun k _ hk => Below.heap_setCell _ _ _ _ (fun e => hk (by rw [e]))⟩

theorem own_set {w : World} {B e s n b j : Nat} {v u : Value} {xs : List Value} {c : Array Value} {t : TypeId} (h : w.ownsRow B e s v n xs) (hX : w.heap[b]? = some (.cells c t)) (hne : e ≠ t) : (w.setCell ⟨b, j, none⟩ u).ownsRow B e s v n xs :=
  h.kept (grown_setCell w ⟨b, j, none⟩ u) (own_ne_block h hX hne)

/-- what a round that takes a number does to what holds of the round's world -/
theorem number_kept {w wr w1 : World} {m : Int} {T : TypeId} {ns : List Int} {v v1 : Value} {o : Obj} {s0 : ByteArray} {rc : Array Value} (hT : (3 : Nat) ≠ T) (hb : Below w.heap.size w wr)
    (hR : wr.heap[w.heap.size]? = some (.cells rc T)) (hX : wr.heap[w.heap.size + 1]? = some (.cells #[.string s0, v] T)) (hown : wr.ownsRow w.heap.size 3 1 v ns.length (ints ns))
    (hown1 : w1.ownsRow w.heap.size 3 1 v1 (ns.length + 1) (ints ns ++ [.int .i64 m])) (hg : (wr.alloc o).grownBy w1 v.ownBlock) :
    (w1.setCell ⟨w.heap.size + 1, 1, none⟩ v1).heap[w.heap.size]? = some (.cells rc T) ∧ (w1.setCell ⟨w.heap.size + 1, 1, none⟩ v1).heap[w.heap.size + 1]? = some (.cells #[.string s0, v1] T) ∧
    (w1.setCell ⟨w.heap.size + 1, 1, none⟩ v1).ownsRow w.heap.size 3 1 v1 (ns ++ [m]).length (ints (ns ++ [m])) ∧ Below w.heap.size w (w1.setCell ⟨w.heap.size + 1, 1, none⟩ v1) := by
  have hR1 := (after_app hT hR hown hown1 hg).2
  have hX1 := (after_app hT hX hown hown1 hg).2
  have hbs := hb.size
  refine ⟨?_, ?_, ?_, ?_⟩
  · rw [Below.heap_setCell _ _ _ _ (by simp)]; exact hR1
  · have := heap_setCell_same w1 (w.heap.size + 1) 1 _ T v1 hX1
    rw [this]
    rfl
  · rw [List.length_append]
    have e : ints (ns ++ [m]) = ints ns ++ [.int .i64 m] := by simp [ints]
    rw [e]
    exact own_set hown1 hX1 hT
  · exact ((hb.alloc hbs _).grown hg (by simp; omega) (fun j hj => (hown.lt j hj).1)).setCell (by simp) _

theorem in_ok {w W : World} {N : Nat} {T : TypeId} {s0 : ByteArray} {ua : Option Addr} {ul uc : Nat} {x y : Value} {out : List Inp} {ws : List (List UInt8)} {l0 : List UInt8} {ns : List Int} {rc : Array Value} (hN : N = w.heap.size) (hT : (3 : Nat) ≠ T) (hb : Below w.heap.size w W)
    (hR : W.heap[N]? = some (.cells rc T)) (hown : W.ownsRow w.heap.size 3 1 (.slice ua ul uc) ns.length (ints ns)) (hI : inputV out ws = (0, (l0, ns))) (h0 : s0.data.toList = l0) :
    InPost w out ws (.returned (.tuple #[.agg #[.string s0, .slice ua ul uc], .int .i64 0])) ((W.setCell ⟨N, 0, none⟩ x).setCell ⟨N, 1, none⟩ y) := by
  subst hN
  unfold InPost
  have b1 := hb.setCell (p := ⟨w.heap.size, 0, none⟩) (Nat.le_refl _) x
  have b2 := b1.setCell (p := ⟨w.heap.size, 1, none⟩) (Nat.le_refl _) y
  refine ⟨s0, ua, ul, uc, 0, rfl, b2, by rw [hI], fun _ => ?_⟩
  rw [hI]
  exact ⟨h0, own_set (own_set hown hR hT) (heap_setCell_same W w.heap.size 0 _ T x hR) hT⟩

theorem any_take' {p : Inp → Bool} (L : List Inp) (k : Nat) (x : Inp) (h : (L.take k).any p = false) (hk : L[k]? = some x) (hx : p x = false) : (L.take (k + 1)).any p = false := by
  rw [List.take_add_one, hk, List.any_append, h]
  simp [hx]

theorem own_form {w : World} {B e s n : Nat} {v : Value} {xs : List Value} (h : w.ownsRow B e s v n xs) : ∃ a c, v = .slice a n c := by
  rcases h.2 with ⟨rfl, rfl⟩ | ⟨g, cap, cur, rfl, _⟩
  · exact ⟨_, _, rfl⟩
  · exact ⟨_, _, rfl⟩

theorem drewN_cell (w : World) (q : Nat) (a : Addr) : (w.drewN q).cell? a = w.cell? a := rfl
theorem drewN_frozen (w : World) (q : Nat) (a : Addr) : (w.drewN q).frozen? a = w.frozen? a := rfl
theorem below_drewN {B : Nat} {a w : World} (h : Below B a w) (q : Nat) : Below B a (w.drewN q) := ⟨h.os, h.tape, h.output, h.size, h.block⟩

theorem take_drop_at {α : Type} {l : List α} {k : Nat} {x : α} (hk : 1 ≤ k) (hx : l[k]? = some x) : (l.drop 1)[k - 1]? = some x := by
  rw [List.getElem?_drop, show 1 + (k - 1) = k by omega]; exact hx

set_option maxHeartbeats 4000000 in
set_option maxRecDepth 1000000 in
theorem refinput_any (v wv : Value) (C : List CInp) (ss : List ByteArray) (w : World) (B B' : Nat) (hC : InpsAt w B 33 v C) (hW : w.ownsRow B' 9 1 wv ss.length (ss.map Value.string)) (hn : 1 ≤ ss.length)
    (hs : ∀ x ∈ ss, x.size ≤ 1000) (hl : ss.length ≤ 1001) (hc : C.length ≤ 1001) :
    Calls Tryz.prog 15 #[v, wv] w (InPost w (absL C) (ss.map (·.data.toList))) := by
  obtain ⟨i0, hi, hz0, hz1, hz2⟩ := info_parts Tryz_info3
  obtain ⟨g, cap, rfl, _, hgw, _, _, hcell⟩ := own_cell hW (by omega)
  have HCELL : Hid (∀ (W : World), Below w.heap.size w W → ∀ j x, ss[j]? = some x → W.cell? ⟨g, j, none⟩ = some (.string x)) := by
    intro W hb j x hx
    rw [hb.cell (p := ⟨g, j, none⟩) hgw]
    exact hcell j _ (by rw [List.getElem?_map, hx]; rfl)
  have HS := Lib.hid hs
  obtain ⟨va, vc, rfl⟩ := own_form hC.1
  have HC := Lib.hid hC
  obtain ⟨s0, hs0⟩ : ∃ s0, ss[0]? = some s0 := ⟨_, List.getElem?_eq_getElem (by omega)⟩
  have c0 := hcell 0 (.string s0) (by rw [List.getElem?_map, hs0]; rfl)
  have H0 := Lib.hid hs0
  clear hcell hs hC hW hs0
  go_enter Tryz.func15, Tryz.ntmps15
  go_wp2
  go_loopg [7] (ss.length - 1) (fun gf i wx => ∃ (k : Nat) (u : Value) (ns : List Int), 1 ≤ k ∧ k + gf = ss.length ∧ i = .int .i64 k ∧ Hid (numsV (((ss.map (·.data.toList)).drop 1).take (k - 1)) = some ns) ∧ ns.length ≤ k ∧
    wx.heap[w.heap.size]? = some (.cells #[.string ⟨#[]⟩, .slice none 0 0] 33) ∧ wx.heap[w.heap.size + 1]? = some (.cells #[.string s0, u] 33) ∧ wx.ownsRow w.heap.size 3 1 u ns.length (ints ns) ∧ Below w.heap.size w wx)
  case atStart => exact ⟨1, .slice none 0 0, [], by omega, by omega, rfl, Lib.hid (by rw [Nat.sub_self, List.take_zero]; rfl), by simp, by
    rw [Below.heap_alloc _ _ _ (by simp)]; exact heap_alloc_new _ _, by
    have := heap_alloc_new (w.alloc (Obj.cells #[Value.string { data := #[] }, Value.slice none 0 0] 33)) (Obj.cells #[Value.string s0, Value.slice none 0 0] 33)
    simpa using this, World.ownsRow_nil _ _ _ _, ((Below.refl _ _).alloc (Nat.le_refl _) _).alloc (by simp) _⟩
  case round =>
    obtain ⟨k, u, ns, hk1, hk, rfl, HN, hnl, hR, hX, hown, hb⟩ := hrel
    obtain ⟨ua, ul, uc, rfl⟩ := own_slice hown
    have hbs := hb.size
    have x0 := cell_of hX 0
    have x1 := cell_of hX 1
    simp only [List.getElem?_toArray, List.getElem?_cons_zero, List.getElem?_cons_succ] at x0 x1
    have r0 := cell_of hR 0
    have r1 := cell_of hR 1
    simp only [List.getElem?_toArray, List.getElem?_cons_zero, List.getElem?_cons_succ] at r0 r1
    have fx0 := frozen_of hX 0
    have fx1 := frozen_of hX 1
    have fr0 := frozen_of hR 0
    have fr1 := frozen_of hR 1
    have lx := lt_of hX
    cases gf' : gk with
    | zero =>
      subst gf'
      have hk' : k = ss.length := by omega
      subst hk'
      have HNS : Hid (numsV ((ss.map (·.data.toList)).drop 1) = some ns) := by
        have := HN.out
        rwa [List.take_of_length_le (by simp)] at this
      have HHD : Hid ((ss.map (·.data.toList)).headD [] = s0.data.toList) := by
        have := H0.out
        cases ss with
        | nil => simp at this
        | cons a r => simp at this; subst this; rfl
      have ck := HCELL.out wr hb 0 s0 H0.out
      have cI := ident_any s0 wr (by have := HS.out s0 (List.mem_of_getElem? H0.out); unfold maxLen; omega)
      have HRX := Lib.hid (And.intro hR hX)
      clear hR hX HN
      cases hid : identB s0.data.toList with
      | false =>
        rw [hid] at cI
        have HI := Lib.hid hid
        clear hid
        go_wp2_with (go_at_call 39; refine cI.mono ?_; rintro e W2 ⟨rfl, hb2⟩; have hR2 := (hb2.block _ (lt_of HRX.out.1)).trans HRX.out.1; have hX2 := (hb2.block _ (lt_of HRX.out.2)).trans HRX.out.2; have y0 := cell_of hX2 0; have y1 := cell_of hX2 1; have z0 := cell_of hR2 0; have z1 := cell_of hR2 1; simp only [List.getElem?_toArray, List.getElem?_cons_zero, List.getElem?_cons_succ] at y0 y1 z0 z1; have fz0 := frozen_of hR2 0; have fz1 := frozen_of hR2 1; clear x0 x1 r0 r1 fx0 fx1 fr0 fr1 ck hR2 hX2)
        obtain ⟨e0, e1⟩ := two_cells z0 z1 (.string s0) (.slice ua ul uc)
        refine bodyPost_ret (v := .tuple #[.agg #[.string s0, .slice ua ul uc], .int .i64 3]) (by simp [results, Tryz.results15, go_sem, e0, e1]) rfl ?_
        refine in_post (hb.trans (hb2.mono hbs)) ?_ (by decide)
        rw [input_name HNS.out (by rw [HHD.out]; exact HI.out)]
      | true =>
        rw [hid] at cI
        have HI := Lib.hid hid
        clear hid
        go_wp2_with (go_at_call 39; refine cI.mono ?_; rintro e W2 ⟨rfl, hb2⟩; have hR2 := (hb2.block _ (lt_of HRX.out.1)).trans HRX.out.1; have hX2 := (hb2.block _ (lt_of HRX.out.2)).trans HRX.out.2; have y0 := cell_of hX2 0; have y1 := cell_of hX2 1; have z0 := cell_of hR2 0; have z1 := cell_of hR2 1; simp only [List.getElem?_toArray, List.getElem?_cons_zero, List.getElem?_cons_succ] at y0 y1 z0 z1; have fz0 := frozen_of hR2 0; have fz1 := frozen_of hR2 1; clear x0 x1 r0 r1 fx0 fx1 fr0 fr1 ck; have HR2 := Lib.hid hR2; clear hR2 hX2)
        have hb3 := hb.trans (hb2.mono hbs)
        have ck2 : W2.cell? ⟨g, 0, none⟩ = some (.string s0) := HCELL.out W2 hb3 0 s0 H0.out
        have HZ : Hid (W2.heap[w.heap.size]? = _ ∧ W2.cell? ⟨w.heap.size, 0, none⟩ = _ ∧ W2.cell? ⟨w.heap.size, 1, none⟩ = _ ∧ W2.cell? ⟨w.heap.size + 1, 0, none⟩ = _ ∧ W2.cell? ⟨w.heap.size + 1, 1, none⟩ = _) := ⟨HR2.out, z0, z1, y0, y1⟩
        have HF : Hid (W2.frozen? ⟨w.heap.size, 0, none⟩ = _ ∧ W2.frozen? ⟨w.heap.size, 1, none⟩ = _) := ⟨fz0, fz1⟩
        have hown2 := own_below hown hb2
        have hlt2 : w.heap.size + 1 < W2.heap.size := by have := hb2.size; omega
        obtain ⟨W2', hW2'⟩ : ∃ W, W2 = W := ⟨_, rfl⟩
        clear y0 y1 z0 z1 fz0 fz1 HRX hown
        go_loopg [11] C.length (fun gf i wx => ∃ (j : Nat), j + gf = C.length ∧ i = .int .i64 j ∧ Hid (((absL C).take j).any (fun x => x.1 == s0.data.toList) = false) ∧ Below W2.heap.size W2 wx)
        case atStart => exact ⟨0, by omega, rfl, Lib.hid (by simp), Below.refl _ _⟩
        case round =>
          obtain ⟨j, hj, rfl, HA, hb4⟩ := hrel
          have hb5 := hb3.trans (hb4.mono (by have := hb3.size; omega))
          obtain ⟨p1, p2, p3, p4, p5⟩ := HZ.out
          obtain ⟨f1, f2⟩ := HF.out
          have z0 := (hb4.cell (p := ⟨w.heap.size, 0, none⟩) (by show w.heap.size < _; omega)).trans p2
          have z1 := (hb4.cell (p := ⟨w.heap.size, 1, none⟩) (by show w.heap.size < _; omega)).trans p3
          have y0 := (hb4.cell (p := ⟨w.heap.size + 1, 0, none⟩) (by show w.heap.size + 1 < _; omega)).trans p4
          have y1 := (hb4.cell (p := ⟨w.heap.size + 1, 1, none⟩) (by show w.heap.size + 1 < _; omega)).trans p5
          have fz0 := (hb4.frozen (p := ⟨w.heap.size, 0, none⟩) (by show w.heap.size < _; omega)).trans f1
          have fz1 := (hb4.frozen (p := ⟨w.heap.size, 1, none⟩) (by show w.heap.size < _; omega)).trans f2
          have HRW := Lib.hid ((hb4.block w.heap.size (by omega)).trans p1)
          clear p1 p2 p3 p4 p5 f1 f2
          cases gk with
          | zero =>
            have hj' : j = C.length := by omega
            subst hj'
            have HO : Hid ((absL C).any (fun x => x.1 == s0.data.toList) = false) := by
              have := HA.out
              rwa [List.take_of_length_le (by simp [absL])] at this
            clear HA
            go_wp2
            obtain ⟨e0, e1⟩ := two_cells z0 z1 (.string s0) (.slice ua ul uc)
            refine bodyPost_ret (v := .tuple #[.agg #[.string s0, .slice ua ul uc], .int .i64 0]) (by simp [results, Tryz.results15, go_sem, e0, e1]) rfl ?_
            exact in_ok rfl (by decide) hb5 HRW.out (own_below hown2 hb4) (input_ok HNS.out (by rw [HHD.out]; exact HI.out) (by rw [HHD.out]; exact HO.out)) HHD.out.symm
          | succ g2 =>
            have hjl : j < C.length := by omega
            obtain ⟨gl, cl, hgl, _, hglw, _, _, hcl⟩ := own_cell HC.out.1 (by omega)
            obtain ⟨rfl, rfl⟩ : va = some ⟨gl, 0, none⟩ ∧ vc = cl := by
              simp only [Value.slice.injEq] at hgl
              exact ⟨hgl.1, hgl.2.2⟩
            obtain ⟨x, hx⟩ : ∃ x, C[j]? = some x := ⟨_, List.getElem?_eq_getElem hjl⟩
            have cj : wr.cell? ⟨gl, j * 2, none⟩ = some (.string x.1) := by
              rw [hb5.cell (p := ⟨gl, j * 2, none⟩) hglw]
              exact hcl _ _ (inpCells_at C j x hx).1
            have ck3 : wr.cell? ⟨g, 0, none⟩ = some (.string s0) := HCELL.out wr hb5 0 s0 H0.out
            have HX : Hid ((absL C)[j]? = some (x.1.data.toList, x.2.2)) := by show _ = _; unfold absL; rw [List.getElem?_map, hx]; rfl
            clear hgl hcl hx ck2
            cases hh : (x.1.toList == s0.toList) with
            | true =>
              have HO : Hid ((absL C).any (fun x => x.1 == s0.data.toList) = true) := by
                show List.any _ _ = true
                rw [List.any_eq_true]
                exact ⟨_, List.mem_of_getElem? HX.out, by rw [← toList_data, ← toList_data]; exact hh⟩
              clear HA
              go_wp2
              go_quiet (fail)
              go_wp2
              obtain ⟨e0, e1⟩ := two_cells (w := wr.drewN nq) z0 z1 (.string s0) (.slice ua ul uc)
              refine bodyPost_ret (v := .tuple #[.agg #[.string s0, .slice ua ul uc], .int .i64 4]) (by simp [results, Tryz.results15, go_sem, e0, e1]) rfl ?_
              refine in_post (below_drewN hb5 _) ?_ (by decide)
              rw [input_there HNS.out (by rw [HHD.out]; exact HI.out) (by rw [HHD.out]; exact HO.out)]
            | false =>
              have HB := Lib.hid (any_take' (p := fun x => x.1 == s0.data.toList) _ j _ HA.out HX.out (by rw [← toList_data, ← toList_data]; exact hh))
              clear HA HX
              go_wp2
              go_quiet (fail)
              go_wp2
              go_roundg g2
              case measure => omega
              case rel => exact ⟨j + 1, by omega, by go_num, HB, below_drewN hb4 _⟩
    | succ g' =>
      subst gf'
      have hlt : k < ss.length := by omega
      obtain ⟨x, hx⟩ : ∃ x, ss[k]? = some x := ⟨_, List.getElem?_eq_getElem hlt⟩
      have ck := HCELL.out wr hb k x hx
      have cN := refnum_any x wr (HS.out x (List.mem_of_getElem? hx))
      have HX := Lib.hid hx
      have HRX := Lib.hid (And.intro hR hX)
      clear hx hR hX
      cases hv : signV x.data.toList with
      | none =>
        rw [hv] at cN
        have HV := Lib.hid hv
        clear hv
        go_wp2_with (go_at_call 38; refine cN.mono ?_; rintro e w' ⟨n, rfl, _, rfl⟩)
        obtain ⟨e0, e1⟩ := two_cells r0 r1 (.string s0) (.slice ua ul uc)
        refine bodyPost_ret (v := .tuple #[.agg #[.string s0, .slice ua ul uc], .int .i64 2]) (by simp [results, Tryz.results15, go_sem, e0, e1]) rfl ?_
        refine in_post hb ?_ (by decide)
        rw [input_form (nums_none HN.out (take_drop_at hk1 (by rw [List.getElem?_map, HX.out]; rfl)) HV.out)]
      | some n =>
        rw [hv] at cN
        have HV := Lib.hid hv
        clear hv
        go_wp2_with (first
          | (go_at_call 38; refine cN.mono ?_; rintro e w' ⟨m, rfl, hm, rfl⟩; obtain rfl := hm _ rfl)
          | (at_builtin; go_loud (refine wpList_append_own _ rfl (.tmp 34) (.tmp 36) 30 rfl w.heap.size 3 i0 (.int .i64 0) 1 8 Tryz.underlying30 hi hz0 hz1 hz2 rfl (by decide) _ _ _ rfl (hown.alloc _) ⟨wr.heap.size, 0, none⟩ 1 1 [.int .i64 m] rfl rfl (cell_one_new _ _ _) (by intro u hu; simp at hu; subst hu; rfl) (by unfold maxLen; omega) (by omega) (by simp; omega) ?_); intro v1 w1 hown1 hgrow1 hnil1; obtain ⟨⟨g1, q1, hv1⟩, hX1⟩ := after_app (v := .slice ua ul uc) (by decide) HRX.out.2 hown hown1 hgrow1; have y0 := cell_of hX1 0; have y1 := cell_of hX1 1; simp only [List.getElem?_toArray, List.getElem?_cons_zero, List.getElem?_cons_succ] at y0 y1; have fy1 := frozen_of hX1 1; rw [hv1]; clear x0 x1 fx0 fx1; have HX1 := Lib.hid hX1; clear hX1; have HV1 := Lib.hid hv1; clear hv1; have HO1 := Lib.hid (And.intro hown1 hgrow1); clear hown1 hgrow1 hnil1))
        go_roundg g'
        case measure => omega
        case rel =>
          obtain ⟨q1', q2', q3', q4'⟩ := number_kept (by decide) hb HRX.out.1 HRX.out.2 hown HO1.out.1 HO1.out.2
          rw [HV1.out] at q1' q2' q3' q4'
          refine ⟨k + 1, _, ns ++ [m], by omega, by omega, by go_num, ?_, by simp; omega, q1', q2', q3', q4'⟩
          have := nums_step HN.out (take_drop_at hk1 (by rw [List.getElem?_map, HX.out]; rfl)) HV.out
          rw [show k - 1 + 1 = k + 1 - 1 by omega] at this
          exact this

end Go.Proofs.Rin
end

section
namespace Go.Proofs.Rin
open Go.RowKit Go.Rin Go.Lib

/-! ### 'func(c rune) bool { return c == ' ' || c == '\t' }' -/
theorem sep_pays (w : World) : PredAtRunes Tryz.prog 12 #[] sepR w := by
  intro W x hx hb
  show Calls Tryz.prog 12 #[.int .i32 (x : Int)] W _
  have HS : Hid (sepR x = (((x : Int) == 32) || ((x : Int) == 9))) := by
    show sepR x = _
    unfold sepR
    rw [Bool.eq_iff_iff]
    simp only [Bool.or_eq_true, beq_iff_eq]
    omega
  cases h1 : ((x : Int) == 32) <;> cases h2 : ((x : Int) == 9)
  all_goals
    go_enter Tryz.func12, Tryz.ntmps12
    go_wp2
    go_ret
    refine ⟨ret_bool ?_, 0, rfl⟩
    rw [HS.out, h1]
    first | rfl | (rw [h2]; rfl)

/-! ### bytes of a set -/
def inSet (t : ByteArray) (c : UInt8) : Bool := decide (c ∈ t.data.toList)

theorem toNat_u8 (c : UInt8) : ((c.toNat : Int)).toNat.toUInt8 = c := by
  rw [Int.toNat_natCast]
  exact UInt8.ofNat_toNat

theorem only1 (t : ByteArray) (c : UInt8) (a : Addr) (w : World) (ha : w.cell? a = some (.string t)) :
    Calls Tryz.prog 166 #[.int .u8 (c.toNat : Int), .pointer (some a)] w fun e w' => e = .returned (.bool (!inSet t c)) ∧ w = w' := by
  have cI := Tryz.strings_IndexByte t (c.toNat : Int) w
  rw [toNat_u8] at cI
  have HI : Hid (inSet t c = !(decide (indexByte t.data.toList c < 0))) := by
    show inSet t c = _
    unfold inSet
    rw [Bool.eq_iff_iff]
    simp only [decide_eq_true_eq, Bool.not_eq_true', decide_eq_false_iff_not, index_none_iff]
    exact Decidable.not_not.symm
  generalize indexByte t.data.toList c = r at cI HI
  by_cases hr : r < 0
  · go_enter Tryz.func166, Tryz.ntmps166
    go_wp2_with (go_at_call 82; refine cI.mono ?_; rintro e w' ⟨rfl, rfl⟩)
    go_ret
    exact ⟨ret_bool (by rw [HI.out]; simp [hr]), rfl⟩
  · go_enter Tryz.func166, Tryz.ntmps166
    go_wp2_with (go_at_call 82; refine cI.mono ?_; rintro e w' ⟨rfl, rfl⟩)
    go_ret
    exact ⟨ret_bool (by rw [HI.out]; simp), rfl⟩

/-! ### slices.IndexFunc, ContainsFunc at bytes, with that closure -/
theorem bytes_index (b n cap : Nat) (zs : List UInt8) (t : ByteArray) (a : Addr) (w : World) (hn : zs.length = n) (hbig : n ≤ 1000) (ha : w.cell? a = some (.string t))
    (hc : ∀ j x, zs[j]? = some x → w.cell? ⟨b, j, none⟩ = some (.int .u8 (x.toNat : Int))) :
    Calls Tryz.prog 266 #[.slice (some ⟨b, 0, none⟩) n cap, .func (.func 166) #[] #[.pointer (some a)]] w fun e w' => ∃ r : Int, e = .returned (.int .i64 r) ∧ decide (0 ≤ r) = zs.any (fun c => !inSet t c) ∧ w = w' := by
  have HC := Lib.hid hc
  have HN := Lib.hid hn
  clear hc hn
  go_enter Tryz.func266, Tryz.ntmps266
  go_wp2
  go_loopg [8] n (fun g i wx => ∃ k : Nat, k + g = n ∧ i = .int .i64 k ∧ Hid ((zs.take k).any (fun c => !inSet t c) = false) ∧ w = wx)
  case atStart => exact ⟨0, by omega, rfl, Lib.hid (by simp), rfl⟩
  case round =>
    obtain ⟨k, hk, rfl, HA, rfl⟩ := hrel
    cases gk with
    | zero =>
      have hk' : k = n := by omega
      subst hk'
      have HE : Hid (zs.any (fun c => !inSet t c) = false) := by
        have := HA.out
        rwa [List.take_of_length_le (by rw [HN.out]; exact Nat.le_refl _)] at this
      clear HA hk
      go_wp2
      go_ret
      exact ⟨-1, rfl, by rw [HE.out]; rfl, rfl⟩
    | succ g =>
      have hlt : k < n := by omega
      obtain ⟨x, hx⟩ : ∃ x, zs[k]? = some x := ⟨_, List.getElem?_eq_getElem (by rw [HN.out]; exact hlt)⟩
      have ck := HC.out k x hx
      have HX := Lib.hid hx
      have cO := only1 t x a w ha
      clear hx
      cases hh : inSet t x with
      | false =>
        rw [hh] at cO
        have HH := Lib.hid hh
        clear hh HA
        go_wp2_with (go_at_call 166; refine cO.mono ?_; rintro e w' ⟨rfl, rfl⟩)
        go_ret
        refine ⟨(k : Int), rfl, ?_, rfl⟩
        have : zs.any (fun c => !inSet t c) = true := by
          rw [List.any_eq_true]
          exact ⟨x, List.mem_of_getElem? HX.out, by rw [HH.out]; rfl⟩
        rw [this]
        simp
      | true =>
        rw [hh] at cO
        have HB : Hid ((zs.take (k + 1)).any (fun c => !inSet t c) = false) := by
          show List.any _ _ = false
          rw [List.take_add_one, HX.out, List.any_append, HA.out]
          simp [hh]
        clear hh HA
        go_wp2_with (go_at_call 166; refine cO.mono ?_; rintro e w' ⟨rfl, rfl⟩)
        go_roundg g
        case measure => omega
        case rel => exact ⟨k + 1, by omega, by go_num, HB, rfl⟩

theorem bytes_contains (b n cap : Nat) (zs : List UInt8) (t : ByteArray) (a : Addr) (w : World) (hn : zs.length = n) (hbig : n ≤ 1000) (ha : w.cell? a = some (.string t))
    (hc : ∀ j x, zs[j]? = some x → w.cell? ⟨b, j, none⟩ = some (.int .u8 (x.toNat : Int))) :
    Calls Tryz.prog 165 #[.slice (some ⟨b, 0, none⟩) n cap, .func (.func 166) #[] #[.pointer (some a)]] w fun e w' => e = .returned (.bool (zs.any (fun c => !inSet t c))) ∧ w = w' := by
  have cI := bytes_index b n cap zs t a w hn hbig ha hc
  generalize zs.any (fun c => !inSet t c) = r at cI ⊢
  clear hc hn
  go_enter Tryz.func165, Tryz.ntmps165
  go_wp2_with (go_at_call 266; refine cI.mono ?_; rintro e w' ⟨x, rfl, hx, rfl⟩)
  go_ret
  exact ⟨rfl, rfl⟩

/-! ### token.only -/
set_option maxHeartbeats 1000000 in
set_option maxRecDepth 100000 in
theorem only_any (s t : ByteArray) (w : World) (hs : s.size ≤ 1000) :
    Calls Tryz.prog 81 #[.string s, .string t] w fun e w' => e = .returned (.bool (s.data.toList.all (inSet t))) ∧ Below w.heap.size w w' := by
  have kc := fun (W : World) (s : ByteArray) => Lib.run_convert_string_bytes (P := Tryz.prog) W 9 82 5 s Tryz.underlying9 Tryz.underlying82 Tryz.underlying5
  obtain ⟨W0, hW0⟩ : ∃ W0, w.alloc (.cells #[.string t] 9) = W0 := ⟨_, rfl⟩
  have hsz0 : W0.heap.size = w.heap.size + 1 := by rw [← hW0]; simp
  have hbox : (bytesWorld W0 5 s).cell? ⟨w.heap.size, 0, none⟩ = some (.string t) := by
    rw [bytesWorld_old W0 5 s _ (by show w.heap.size < _; omega), ← hW0]
    exact World.cell?_alloc_at _ _ _ _ rfl
  have hbel : Below w.heap.size w (bytesWorld W0 5 s) := by
    refine ⟨?_, ?_, ?_, by rw [bytesWorld_size]; omega, fun k hk => ?_⟩
    · rw [← hW0]; rfl
    · rw [← hW0]; rfl
    · rw [← hW0]; rfl
    · rw [bytesWorld_at_old _ _ _ _ (by omega), ← hW0]; exact Below.heap_alloc _ _ _ hk
  have cB := bytes_contains W0.heap.size s.size (grownCap W0 s.size 0 5) s.data.toList t ⟨w.heap.size, 0, none⟩ (bytesWorld W0 5 s) (size_eq s).symm hs hbox (by
    intro j x hx
    have hj : j < s.size := by rw [size_eq]; exact (List.getElem?_eq_some_iff.1 hx).1
    rw [bytesWorld_cell W0 5 s j hj, List.getD_eq_getElem?_getD, hx]
    rfl)
  have HA : Hid (s.data.toList.all (inSet t) = !(s.data.toList.any fun c => !inSet t c)) := by
    show List.all _ _ = _
    rw [List.all_eq_not_any_not]
  generalize s.data.toList.any (fun c => !inSet t c) = r at cB HA
  rw [hsz0] at cB
  subst hW0
  clear hsz0 hbox
  go_enter Tryz.func81, Tryz.ntmps81
  go_wp2_with (go_at_call 165; refine cB.mono ?_; rintro e w' ⟨rfl, rfl⟩)
  go_ret
  exact ⟨ret_bool HA.out.symm, hbel⟩

end Go.Proofs.Rin
end

section
namespace Go.Proofs.Rin
open Go.RowKit Go.Rin Go.Lib

theorem keptStr_data : (([32, 118, 97, 114, 32, 112, 114, 111, 99, 32, 105, 110, 116, 32, 98, 111, 111, 108, 32, 97, 114, 114, 32, 102, 117, 110, 32, 105, 110, 32, 111, 117, 116, 32, 105, 102, 32, 101, 108, 115, 101, 32, 119, 104, 105, 108, 101].append [32, 99, 97, 108, 108, 32, 114, 101, 116, 117, 114, 110, 32, 116, 104, 114, 111, 119, 32, 116, 114, 121, 32, 99, 97, 116, 99, 104, 32, 110, 101, 119, 32, 108, 101, 110, 32, 116, 114, 117, 101, 32, 102, 97, 108, 115, 101, 32] : List UInt8).toArray : Array UInt8).toList = keptStr := by
  rfl

theorem blank_data (s : ByteArray) : ((({ data := #[32] } : ByteArray) ++ s) ++ ({ data := #[32] } : ByteArray)).data.toList = 32 :: (s.data.toList ++ [32]) := by
  simp [ByteArray.data_append]

set_option maxHeartbeats 1000000 in
set_option maxRecDepth 100000 in
theorem kept_any2 (s : ByteArray) (m : Int) (w : World) (hs : s.size ≤ 1000) (hm : w.cell? ⟨0, 0, none⟩ = some (.int .i64 m)) : Calls Tryz.prog 83 #[.string s] w fun e w' => e = .returned (.bool (keptB s.data.toList)) ∧ w = w' := by
  have cI := Tryz.strings_IndexByte s 32 w
  have cC := Tryz.strings_Contains { data := ([32, 118, 97, 114, 32, 112, 114, 111, 99, 32, 105, 110, 116, 32, 98, 111, 111, 108, 32, 97, 114, 114, 32, 102, 117, 110, 32, 105, 110, 32, 111, 117, 116, 32, 105, 102, 32, 101, 108, 115, 101, 32, 119, 104, 105, 108, 101].append [32, 99, 97, 108, 108, 32, 114, 101, 116, 117, 114, 110, 32, 116, 104, 114, 111, 119, 32, 116, 114, 121, 32, 99, 97, 116, 99, 104, 32, 110, 101, 119, 32, 108, 101, 110, 32, 116, 114, 117, 101, 32, 102, 97, 108, 115, 101, 32]).toArray } ((({ data := #[32] } : ByteArray) ++ s) ++ ({ data := #[32] } : ByteArray)) m w (by decide) hm
  rw [keptStr_data, blank_data] at cC
  have e32 : (32 : Int).toNat.toUInt8 = 32 := by decide
  rw [e32] at cI
  have HI : Hid (indexByte s.data.toList 32 < 0 ↔ (32 : UInt8) ∉ s.data.toList) := index_none_iff _ _
  generalize indexByte s.data.toList 32 = r at cI HI
  cases h0 : s.toList.isEmpty with
  | true =>
    have HK : Hid (keptB s.data.toList = false) := by
      show keptB _ = false
      rw [toList_data, List.isEmpty_iff] at h0
      rw [h0]; exact kept_nil
    clear cC
    go_enter Tryz.func83, Tryz.ntmps83
    go_wp2_with (go_at_call 82; refine cI.mono ?_; rintro e w' ⟨rfl, rfl⟩)
    go_ret
    exact ⟨ret_bool HK.out.symm, rfl⟩
  | false =>
    by_cases hr : r < 0
    · have HK : Hid (contains keptStr (32 :: (s.data.toList ++ [32])) = keptB s.data.toList) := kept_eq (HI.out.1 hr)
      generalize contains keptStr (32 :: (s.data.toList ++ [32])) = q at cC HK
      go_enter Tryz.func83, Tryz.ntmps83
      go_wp2_with (first | (go_at_call 82; refine cI.mono ?_; rintro e w' ⟨rfl, rfl⟩) | (go_at_call 167; refine cC.mono ?_; rintro e w' ⟨rfl, rfl⟩))
      go_ret
      exact ⟨ret_bool HK.out, rfl⟩
    · have HK : Hid (keptB s.data.toList = false) := kept_blank (Decidable.not_not.1 (fun h => hr (HI.out.2 h)))
      clear cC
      go_enter Tryz.func83, Tryz.ntmps83
      go_wp2_with (go_at_call 82; refine cI.mono ?_; rintro e w' ⟨rfl, rfl⟩)
      go_ret
      exact ⟨ret_bool HK.out.symm, rfl⟩


theorem byte_all {p : UInt8 → Prop} (h : ∀ n, n < 256 → p (UInt8.ofNat n)) (c : UInt8) : p c := by
  have := h c.toNat (UInt8.toNat_lt c)
  rwa [UInt8.ofNat_toNat] at this

set_option maxRecDepth 100000 in
theorem set_part (c : UInt8) : inSet { data := #[97, 98, 99, 100, 101, 102, 103, 104, 105, 106, 107, 108, 109, 110, 111, 112, 113, 114, 115, 116, 117, 118, 119, 120, 121, 122, 65, 66, 67, 68, 69, 70, 71, 72, 73, 74, 75, 76, 77, 78, 79, 80, 81, 82, 83, 84, 85, 86, 87, 88, 89, 90, 95, 48, 49, 50, 51, 52, 53, 54, 55, 56, 57] } c = isPart c := byte_all (p := fun c => inSet { data := #[97, 98, 99, 100, 101, 102, 103, 104, 105, 106, 107, 108, 109, 110, 111, 112, 113, 114, 115, 116, 117, 118, 119, 120, 121, 122, 65, 66, 67, 68, 69, 70, 71, 72, 73, 74, 75, 76, 77, 78, 79, 80, 81, 82, 83, 84, 85, 86, 87, 88, 89, 90, 95, 48, 49, 50, 51, 52, 53, 54, 55, 56, 57] } c = isPart c) (by decide) c

set_option maxRecDepth 100000 in
theorem set_dig (c : UInt8) : (c ∉ ([48, 49, 50, 51, 52, 53, 54, 55, 56, 57] : List UInt8)) ↔ isDig c = false :=
  byte_all (p := fun c => (c ∉ ([48, 49, 50, 51, 52, 53, 54, 55, 56, 57] : List UInt8)) ↔ isDig c = false) (by decide) c

theorem only_part (l : List UInt8) : l.all (inSet { data := #[97, 98, 99, 100, 101, 102, 103, 104, 105, 106, 107, 108, 109, 110, 111, 112, 113, 114, 115, 116, 117, 118, 119, 120, 121, 122, 65, 66, 67, 68, 69, 70, 71, 72, 73, 74, 75, 76, 77, 78, 79, 80, 81, 82, 83, 84, 85, 86, 87, 88, 89, 90, 95, 48, 49, 50, 51, 52, 53, 54, 55, 56, 57] }) = l.all isPart := by
  congr 1
  funext c
  exact set_part c

set_option maxHeartbeats 1000000 in
set_option maxRecDepth 100000 in
theorem ident_any2 (s : ByteArray) (m : Int) (w : World) (hs : s.size ≤ 1000) (hm : w.cell? ⟨0, 0, none⟩ = some (.int .i64 m)) (hb0 : 0 < w.heap.size) :
    Calls Tryz.prog 35 #[.string s] w fun e w' => e = .returned (.bool (identB s.data.toList)) ∧ Below w.heap.size w w' := by
  have hsz : s.data.toList.length = s.size := (size_eq s).symm
  cases h0 : s.toList.isEmpty with
  | true =>
    have HK : Hid (identB s.data.toList = false) := by
      show identB _ = false
      rw [toList_data, List.isEmpty_iff] at h0
      rw [h0]; decide
    clear hsz hb0
    go_enter Tryz.func35, Tryz.ntmps35
    go_wp2
    go_ret
    exact ⟨ret_bool HK.out.symm, Below.refl _ _⟩
  | false =>
    have h1 : 1 ≤ s.size := by
      rw [toList_data, List.isEmpty_eq_false_iff] at h0
      have := List.length_pos_iff.2 h0
      omega
    by_cases h20 : s.size ≤ 20
    · have cO := only_any s { data := #[97, 98, 99, 100, 101, 102, 103, 104, 105, 106, 107, 108, 109, 110, 111, 112, 113, 114, 115, 116, 117, 118, 119, 120, 121, 122, 65, 66, 67, 68, 69, 70, 71, 72, 73, 74, 75, 76, 77, 78, 79, 80, 81, 82, 83, 84, 85, 86, 87, 88, 89, 90, 95, 48, 49, 50, 51, 52, 53, 54, 55, 56, 57] } w hs
      rw [only_part] at cO
      cases ha : s.data.toList.all isPart with
      | false =>
        rw [ha] at cO
        have HK : Hid (identB s.data.toList = false) := by
          show identB _ = false
          unfold identB; rw [ha]; simp
        clear hsz hb0 ha hm
        go_enter Tryz.func35, Tryz.ntmps35
        go_wp2_with (go_at_call 81; refine cO.mono ?_; rintro e w' ⟨rfl, hb⟩)
        go_ret
        exact ⟨ret_bool HK.out.symm, hb⟩
      | true =>
        rw [ha] at cO
        have hhd : s.data.toList.headD 0 = s[0] := by
          have := get_at s 0 (by omega)
          cases hl : s.data.toList with
          | nil => rw [hl] at this; simp at this
          | cons a r => rw [hl] at this; simpa using this
        have cI := fun W => Tryz.strings_IndexByte { data := #[48, 49, 50, 51, 52, 53, 54, 55, 56, 57] } (s[0].toNat : Int) W
        simp only [toNat_u8] at cI
        have HI : Hid (indexByte [48, 49, 50, 51, 52, 53, 54, 55, 56, 57] s[0] < 0 ↔ isDig s[0] = false) := (index_none_iff _ _).trans (set_dig _)
        generalize indexByte [48, 49, 50, 51, 52, 53, 54, 55, 56, 57] s[0] = r at cI HI
        by_cases hr : r < 0
        · have HK : Hid (identB s.data.toList = !keptB s.data.toList) := by
            show identB _ = _
            unfold identB
            rw [ha, hhd, HI.out.1 hr, hsz]
            simp [h1, h20]
          have cK := fun W => kept_any2 s m W hs
          clear hsz ha hhd
          generalize keptB s.data.toList = q at cK HK
          go_enter Tryz.func35, Tryz.ntmps35
          go_wp2_with (first
            | (go_at_call 81; refine cO.mono ?_; rintro e w' ⟨rfl, hb⟩)
            | (go_at_call 82; refine (cI _).mono ?_; rintro e w'' ⟨rfl, rfl⟩)
            | (go_at_call 83; refine (cK _ ((hb.cell hb0).trans hm)).mono ?_; rintro e w'' ⟨rfl, rfl⟩))
          go_ret
          exact ⟨ret_bool HK.out.symm, hb⟩
        · have HK : Hid (identB s.data.toList = false) := by
            show identB _ = false
            have : isDig s[0] = true := by
              cases hd : isDig s[0] with
              | true => rfl
              | false => exact absurd (HI.out.2 hd) hr
            unfold identB
            rw [hhd, this]; simp
          clear hsz ha hhd hb0 hm
          go_enter Tryz.func35, Tryz.ntmps35
          go_wp2_with (first
            | (go_at_call 81; refine cO.mono ?_; rintro e w' ⟨rfl, hb⟩)
            | (go_at_call 82; refine (cI _).mono ?_; rintro e w'' ⟨rfl, rfl⟩))
          go_ret
          exact ⟨ret_bool HK.out.symm, hb⟩
    · have HK : Hid (identB s.data.toList = false) := by
        show identB _ = false
        unfold identB; rw [hsz]; simp [h20]
      clear hsz hb0 hm
      go_enter Tryz.func35, Tryz.ntmps35
      go_wp2
      go_ret
      exact ⟨ret_bool HK.out.symm, Below.refl _ _⟩

end Go.Proofs.Rin
end
