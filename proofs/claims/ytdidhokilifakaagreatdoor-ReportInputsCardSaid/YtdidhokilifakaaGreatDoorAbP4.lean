/- Part of the proof that ReportInputs gives true at every text. -/
import Derived.Test.YtdidhokilifakaaGreatDoorAbP3
import Derived.Orders

section
namespace Go.Ab
open Go.RowKit

def bf (all : Array Oper) (i : Nat) : Nat := (Region.before all).getD i 0

def bstep (acc : Array Nat) (o : Oper) : Array Nat :=
  acc.push (o.after.foldl (fun s e => if Region.binds .any e then s ||| 2 ^ e.on ||| acc.getD e.on 0 else s) 0)

theorem before_fold (all : Array Oper) : Region.before all = all.toList.foldl bstep #[] := by
  unfold Region.before
  rw [← Array.foldl_toList]
  rfl

theorem bfold_size : ∀ (l : List Oper) (acc : Array Nat), (l.foldl bstep acc).size = acc.size + l.length
  | [], acc => by simp
  | o :: l, acc => by rw [List.foldl_cons, bfold_size l]; simp [bstep]; omega

theorem bfold_old : ∀ (l : List Oper) (acc : Array Nat) (k : Nat), k < acc.size → (l.foldl bstep acc).getD k 0 = acc.getD k 0
  | [], acc, k, _ => rfl
  | o :: l, acc, k, hk => by
    rw [List.foldl_cons, bfold_old l _ k (by simp [bstep]; omega)]
    simp [bstep, Array.getD_eq_getD_getElem?, Array.getElem?_push_lt hk, Array.getElem?_eq_getElem hk]

theorem bfold_get : ∀ (l : List Oper) (acc : Array Nat) (k : Nat) (o : Oper), l[k]? = some o →
    ∃ acc' : Array Nat, (l.foldl bstep acc).getD (acc.size + k) 0 = o.after.foldl (fun s e => if Region.binds .any e then s ||| 2 ^ e.on ||| acc'.getD e.on 0 else s) 0 ∧
      acc'.size = acc.size + k ∧ ∀ m, m < acc.size + k → acc'.getD m 0 = (l.foldl bstep acc).getD m 0
  | [], acc, k, o, e => by simp at e
  | x :: l, acc, 0, o, e => by
    simp at e; subst e
    refine ⟨acc, ?_, rfl, ?_⟩
    · rw [List.foldl_cons, Nat.add_zero, bfold_old l _ acc.size (by simp [bstep])]
      simp [bstep, Array.getD_eq_getD_getElem?]
    · intro m hm
      rw [List.foldl_cons, bfold_old l _ m (by simp [bstep]; omega)]
      simp [bstep, Array.getD_eq_getD_getElem?, Array.getElem?_push_lt (show m < acc.size by omega), Array.getElem?_eq_getElem (show m < acc.size by omega)]
  | x :: l, acc, k + 1, o, e => by
    simp at e
    obtain ⟨acc', h1, h2, h3⟩ := bfold_get l (bstep acc x) k o e
    have hs : (bstep acc x).size = acc.size + 1 := by simp [bstep]
    refine ⟨acc', ?_, by omega, ?_⟩
    · rw [List.foldl_cons, show acc.size + (k + 1) = (bstep acc x).size + k by omega]; exact h1
    · intro m hm; rw [List.foldl_cons]; exact h3 m (by omega)

theorem or_fold {α : Type} (g : α → Nat) (c : α → Bool) (j : Nat) : ∀ (l : List α) (s : Nat),
    (l.foldl (fun s e => if c e then s ||| g e else s) s).testBit j = true ↔ s.testBit j = true ∨ ∃ e ∈ l, c e = true ∧ (g e).testBit j = true
  | [], s => by simp
  | x :: l, s => by
    rw [List.foldl_cons, or_fold g c j l]
    by_cases hx : c x
    · simp [hx, or_assoc]
    · simp [hx]

/-- what must be done ahead of an operation -/
theorem bf_spec {all : Array Oper} {i : Nat} {o : Oper} (ho : all[i]? = some o) (hA : ∀ e, e ∈ o.after.toList → Region.binds .any e = true → e.on < i) (j : Nat) :
    (bf all i).testBit j = true ↔ ∃ e ∈ o.after.toList, Region.binds .any e = true ∧ (e.on = j ∨ (bf all e.on).testBit j = true) := by
  obtain ⟨acc', h1, h2, h3⟩ := bfold_get all.toList #[] i o (by simpa using ho)
  simp only [List.size_toArray, List.length_nil, Nat.zero_add] at h1 h2 h3
  have hb : bf all i = o.after.toList.foldl (fun s e => if Region.binds .any e then s ||| (2 ^ e.on ||| acc'.getD e.on 0) else s) 0 := by
    unfold bf
    rw [before_fold, h1, ← Array.foldl_toList]
    simp only [Nat.or_assoc]
  rw [hb, or_fold (fun e : Edge => 2 ^ e.on ||| acc'.getD e.on 0)]
  simp only [Nat.zero_testBit, Bool.false_eq_true, false_or, Nat.testBit_or, Bool.or_eq_true, Nat.testBit_two_pow, decide_eq_true_eq]
  have hbe : ∀ e ∈ o.after.toList, Region.binds .any e = true → acc'.getD e.on 0 = bf all e.on := by
    intro e he hbd
    rw [h3 e.on (hA e he hbd)]
    unfold bf
    rw [before_fold]
  constructor
  · rintro ⟨e, he, hbd, hh⟩
    exact ⟨e, he, hbd, hh.imp id fun hh => by rwa [← hbe e he hbd]⟩
  · rintro ⟨e, he, hbd, hh⟩
    exact ⟨e, he, hbd, hh.imp id fun hh => by rwa [hbe e he hbd]⟩

theorem mem_zipIdx {l : List Oper} {o : Oper} {i : Nat} (h : l[i]? = some o) : (o, i) ∈ l.zipIdx := by
  rw [List.mem_iff_getElem?]
  exact ⟨i, by simp [List.getElem?_zipIdx, h]⟩

/-- what `drOk` says -/
structure Dr (all : Array Oper) : Prop where
  after : ∀ {i : Nat} {o : Oper}, all[i]? = some o → ∀ e, e ∈ o.after.toList → Region.binds .any e = true → e.on < i
  guard : ∀ {i : Nat} {o : Oper} {g : Nat} {w : Bool}, all[i]? = some o → o.guard = some (g, w) → (bf all i).testBit g = true
  dst : ∀ {i : Nat} {o : Oper}, all[i]? = some o → isEager o.op = true → isQuiet o.op = false → ∃ d, o.dst = some d
  self : ∀ {i : Nat} {o : Oper} {t : Tmp}, all[i]? = some o → isEager o.op = true → o.dst = some t → t ∉ namesOf o
  eager : ∀ {i j : Nat} {o p : Oper} {t : Tmp}, all[i]? = some o → all[j]? = some p → i ≠ j → isEager o.op = true → o.dst = some t →
    p.dst ≠ some t ∧ (t ∈ namesOf p → (bf all j).testBit i = true) ∧ (∀ w, p.guard = some (i, w) → (bf all j).testBit i = true)
  reads : ∀ {i j : Nat} {o p : Oper} {t : Tmp}, all[i]? = some o → all[j]? = some p → i ≠ j → p.dst = some t → t ∈ namesOf o →
    ((bf all j).testBit i = true ∧ isEager p.op = false) ∨ (bf all i).testBit j = true
  loud : ∀ {i j : Nat} {o p : Oper}, all[i]? = some o → all[j]? = some p → i ≠ j → isEager o.op = false → isEager p.op = false → (bf all j).testBit i = true ∨ (bf all i).testBit j = true

theorem wm_bit (t : Nat) : ∀ (l : List Oper) (j : Nat), (wm t l).testBit j = true ↔ ∃ p, l[j]? = some p ∧ p.dst = some t
  | [], j => by simp [wm]
  | o :: l, 0 => by
    unfold wm
    rw [Nat.testBit_zero]
    have hd : dstBit t o = 0 ∨ dstBit t o = 1 := by
      unfold dstBit
      split
      · cases Nat.beq _ t <;> simp
      · exact .inl rfl
    simp only [List.getElem?_cons_zero, Option.some.injEq, exists_eq_left']
    have : (dstBit t o + 2 * wm t l) % 2 = dstBit t o := by omega
    rw [this]
    unfold dstBit
    cases ho : o.dst with
    | none => simp
    | some d =>
      simp only [Option.some.injEq]
      by_cases hdt : d = t
      · subst hdt
        simp only [Nat.beq_refl, cond_true]
        simp
      · have hb : Nat.beq d t = false := by rw [← Bool.not_eq_true, Nat.beq_eq]; exact hdt
        simp only [hb, cond_false]
        simp [hdt]
  | o :: l, j + 1 => by
    unfold wm
    rw [Nat.testBit_succ, List.getElem?_cons_succ, ← wm_bit t l j]
    have hd : dstBit t o = 0 ∨ dstBit t o = 1 := by
      unfold dstBit
      split
      · cases Nat.beq _ t <;> simp
      · exact .inl rfl
    have : (dstBit t o + 2 * wm t l) / 2 = wm t l := by omega
    rw [this]

theorem ne_bit : ∀ (l : List Oper) (j : Nat) (p : Oper), l[j]? = some p → isEager p.op = false → (ne l).testBit j = true
  | [], j, p, h, _ => by simp at h
  | o :: l, 0, p, h, he => by
    simp at h; subst h
    unfold ne
    rw [he, Nat.testBit_zero]
    simp
  | o :: l, j + 1, p, h, he => by
    simp at h
    unfold ne
    rw [Nat.testBit_succ]
    have : (cond (isEager o.op) 0 1 + 2 * ne l) / 2 = ne l := by cases isEager o.op <;> simp <;> omega
    rw [this]
    exact ne_bit l j p h he

theorem sub_bit {x b j : Nat} (h : subB x b = true) (hj : x.testBit j = true) : b.testBit j = true := by
  unfold subB at h
  have h := Nat.eq_of_beq_eq_true h
  have h : x &&& b = x := h
  rw [← h, Nat.testBit_and] at hj
  simp only [Bool.and_eq_true] at hj
  exact hj.2

theorem names_bit {all : List Oper} {o : Oper} {b : Nat} : ∀ {l : List Tmp}, namesB all o b l = true → ∀ t, t ∈ l → subB (wm t all) b = true
  | [], _, t, ht => by cases ht
  | x :: l, h, t, ht => by
    unfold namesB at h
    simp only [Bool.and_eq_true] at h
    rcases List.mem_cons.mp ht with hh | hh
    · subst hh; exact h.1
    · exact names_bit h.2 t hh

theorem allB_one {all : List Oper} {N : Nat} {bs : Array Nat} : ∀ {l : List Oper} {n : Nat}, allB all N bs l n = true → ∀ j o, l[j]? = some o → oneB all N o (n + j) (bs.getD (n + j) 0) = true
  | [], n, _, j, o, ho => by simp at ho
  | x :: l, n, h, 0, o, ho => by
    simp at ho; subst ho
    unfold allB at h
    simp only [Bool.and_eq_true] at h
    exact h.1
  | x :: l, n, h, j + 1, o, ho => by
    simp at ho
    unfold allB at h
    simp only [Bool.and_eq_true] at h
    have := allB_one h.2 j o ho
    rw [show n + (j + 1) = n + 1 + j by omega]
    exact this

theorem bf_lt {all : Array Oper} (hA : ∀ {i : Nat} {o : Oper}, all[i]? = some o → ∀ e, e ∈ o.after.toList → Region.binds .any e = true → e.on < i) : ∀ {i j : Nat}, (bf all i).testBit j = true → i < all.size → j < i := by
  intro i
  induction i using Nat.strongRecOn with
  | _ i ih =>
    intro j h hi
    have ho : all[i]? = some all[i] := Array.getElem?_eq_getElem hi
    rw [bf_spec ho (hA ho)] at h
    obtain ⟨e, he, hb, h | h⟩ := h
    · subst h; exact hA ho e he hb
    · have := hA ho e he hb
      exact Nat.lt_trans (ih e.on this h (by omega)) this

theorem pow_bit {i j : Nat} (h : (2 ^ i).testBit j = true) : i = j := by
  rw [Nat.testBit_two_pow] at h
  simpa using h

theorem dr_fast {all : Array Oper} (h : drFast all = true) : Dr all := by
  unfold drFast at h
  have one : ∀ {i : Nat} {o : Oper}, all[i]? = some o → oneB all.toList (ne all.toList) o i (bf all i) = true := by
    intro i o ho
    have := allB_one h i o (by simpa using ho)
    simpa [bf] using this
  have parts : ∀ {i : Nat} {o : Oper}, all[i]? = some o → (∀ e, e ∈ o.after.toList → Region.binds .any e = true → e.on < i) ∧ (∀ g w, o.guard = some (g, w) → (bf all i).testBit g = true) ∧
      (isEager o.op = true → isQuiet o.op = false → ∃ d, o.dst = some d) ∧ (∀ t, isEager o.op = true → o.dst = some t → wm t all.toList = 2 ^ i) ∧ (∀ t, t ∈ namesOf o → subB (wm t all.toList) (bf all i) = true) ∧
      (isEager o.op = false → subB (Nat.land (ne all.toList) (2 ^ i - 1)) (bf all i) = true) := by
    intro i o ho
    have := one ho
    unfold oneB at this
    simp only [Bool.and_eq_true] at this
    obtain ⟨⟨⟨⟨⟨h1, h2⟩, h3⟩, h4⟩, h5⟩, h6⟩ := this
    refine ⟨?_, ?_, ?_, ?_, names_bit h5, ?_⟩
    · intro e he hb
      rw [List.all_eq_true] at h1
      have := h1 e he
      simpa [hb, Nat.blt_eq] using this
    · intro g w hg
      rw [hg] at h2; exact h2
    · intro e1 e2
      rw [e1, e2] at h3
      simpa [Option.isSome_iff_exists] using h3
    · intro t e1 e2
      rw [e2, e1] at h4
      exact Nat.eq_of_beq_eq_true (by simpa using h4)
    · intro e1
      rw [e1] at h6
      simpa using h6
  have hlt : ∀ {i j : Nat}, (bf all i).testBit j = true → i < all.size → j < i := bf_lt fun ho => (parts ho).1
  have hsz : ∀ {i : Nat} {o : Oper}, all[i]? = some o → i < all.size := by
    intro i o ho
    rcases Nat.lt_or_ge i all.size with hh | hh
    · exact hh
    · rw [Array.getElem?_eq_none hh] at ho; cases ho
  have hw : ∀ {j : Nat} {p : Oper} {t : Tmp}, all[j]? = some p → p.dst = some t → (wm t all.toList).testBit j = true := by
    intro j p t hp hd
    rw [wm_bit]
    exact ⟨p, by simpa using hp, hd⟩
  refine ⟨fun ho => (parts ho).1, fun ho hg => (parts ho).2.1 _ _ hg, fun ho h1 h2 => (parts ho).2.2.1 h1 h2, ?_, ?_, ?_, ?_⟩
  · intro i o t ho h1 h2 h3
    have q1 := (parts ho).2.2.2.1 t h1 h2
    have q2 := (parts ho).2.2.2.2.1 t h3
    rw [q1] at q2
    have := sub_bit q2 (j := i) (by rw [Nat.testBit_two_pow]; simp)
    exact absurd (hlt this (hsz ho)) (Nat.lt_irrefl _)
  · intro i j o p t ho hp hij h1 h2
    have q1 := (parts ho).2.2.2.1 t h1 h2
    refine ⟨?_, ?_, ?_⟩
    · intro hd
      have := hw hp hd
      rw [q1] at this
      exact hij (pow_bit this)
    · intro hn
      have q2 := (parts hp).2.2.2.2.1 t hn
      rw [q1] at q2
      exact sub_bit q2 (by rw [Nat.testBit_two_pow]; simp)
    · intro w hg
      exact (parts hp).2.1 _ _ hg
  · intro i j o p t ho hp hij h1 h2
    have q2 := (parts ho).2.2.2.2.1 t h2
    exact .inr (sub_bit q2 (hw hp h1))
  · intro i j o p ho hp hij h1 h2
    have n1 := ne_bit all.toList i o (by simpa using ho) h1
    have n2 := ne_bit all.toList j p (by simpa using hp) h2
    rcases Nat.lt_or_ge i j with hh | hh
    · left
      refine sub_bit ((parts hp).2.2.2.2.2 h2) ?_
      show (ne all.toList &&& (2 ^ j - 1)).testBit i = true
      rw [Nat.testBit_and, n1, Nat.testBit_two_pow_sub_one]
      simpa using hh
    · right
      refine sub_bit ((parts ho).2.2.2.2.2 h1) ?_
      show (ne all.toList &&& (2 ^ i - 1)).testBit j = true
      rw [Nat.testBit_and, n2, Nat.testBit_two_pow_sub_one]
      have : j < i := by omega
      simpa using this

theorem dr_of {all : Array Oper} (h : drOk all = true) : Dr all := by
  cases hf : drFast all with
  | true => exact dr_fast hf
  | false =>
  unfold drOk at h
  rw [hf, cond_false] at h
  simp only [List.all_eq_true, Bool.and_eq_true, Prod.forall] at h
  have hm : ∀ {i o}, all[i]? = some o → (o, i) ∈ all.toList.zipIdx := fun ho => mem_zipIdx (by simpa using ho)
  have hne : ∀ {i j : Nat}, i ≠ j → Nat.beq i j = false := fun h => by rw [← Bool.not_eq_true, Nat.beq_eq]; exact h
  refine ⟨?_, ?_, ?_, ?_, ?_, ?_, ?_⟩
  · intro i o ho e he hb
    have := (h o i (hm ho)).1.1.1 e he
    simpa [hb, Nat.blt_eq] using this
  · intro i o g w ho hg
    have := (h o i (hm ho)).1.1.2
    rw [hg] at this
    exact this
  · intro i o ho h1 h2
    have := (h o i (hm ho)).1.2
    rw [h1, h2] at this
    simpa [Option.isSome_iff_exists] using this
  · intro i o t ho h1 h2
    have := (h o i (hm ho)).2 o i (hm ho)
    rw [show Nat.beq i i = true from Nat.beq_refl i, h2, h1] at this
    simpa using this
  · intro i j o p t ho hp hij h1 h2
    have := (h o i (hm ho)).2 p j (hm hp)
    rw [hne hij, h2, h1] at this
    simp only [cond_true, cond_false, Bool.and_eq_true, bne_iff_ne, ne_eq, Bool.or_eq_true, Bool.not_eq_true', List.contains_eq_mem, decide_eq_false_iff_not] at this
    obtain ⟨⟨⟨⟨h3, h4⟩, h5⟩, _⟩, _⟩ := this
    refine ⟨h3, fun hh => h4.resolve_left (not_not_intro hh), fun w hg => ?_⟩
    rw [hg] at h5
    simpa [bf] using h5
  · intro i j o p t ho hp hij h1 h2
    have := (h o i (hm ho)).2 p j (hm hp)
    rw [hne hij] at this
    simp only [cond_false, Bool.and_eq_true] at this
    have := this.1.2
    rw [h1] at this
    simp only [Bool.or_eq_true, Bool.not_eq_true', List.contains_eq_mem, decide_eq_false_iff_not, Bool.and_eq_true] at this
    rcases this with (h3 | h3) | h3
    · exact absurd h2 h3
    · exact .inl h3
    · exact .inr h3
  · intro i j o p ho hp hij h1 h2
    have := (h o i (hm ho)).2 p j (hm hp)
    rw [hne hij] at this
    simp only [cond_false, Bool.and_eq_true] at this
    have := this.2
    rw [h1, h2] at this
    simp only [Bool.false_or, Bool.or_eq_true] at this
    exact this

theorem Dr.lt {all : Array Oper} (D : Dr all) : ∀ {i j : Nat}, (bf all i).testBit j = true → i < all.size → j < i := by
  intro i
  induction i using Nat.strongRecOn with
  | _ i ih =>
    intro j h hi
    have ho : all[i]? = some all[i] := Array.getElem?_eq_getElem hi
    rw [bf_spec ho (D.after ho)] at h
    obtain ⟨e, he, hb, h | h⟩ := h
    · subst h; exact D.after ho e he hb
    · have := D.after ho e he hb
      exact Nat.lt_trans (ih e.on this h (by omega)) this

/-- the numbers in an order that the rows allow -/
def Listed (all : Array Oper) (listed : Array Bool) : Prop := listed.size = all.size ∧ ∀ i o, all[i]? = some o → listed.getD i false = true → ∀ e ∈ o.after.toList, Region.binds .any e = true → listed.getD e.on false = true

theorem listed_bf {all : Array Oper} (D : Dr all) {listed : Array Bool} (hl : Listed all listed) : ∀ {i j : Nat}, i < all.size →
    (∀ e ∈ (all.getD i default).after.toList, Region.binds .any e = true → listed.getD e.on false = true) → (bf all i).testBit j = true → listed.getD j false = true := by
  intro i
  induction i using Nat.strongRecOn with
  | _ i ih =>
    intro j hi hr h
    have ho : all[i]? = some all[i] := Array.getElem?_eq_getElem hi
    have hd : all.getD i default = all[i] := by simp [Array.getD, hi]
    rw [hd] at hr
    rw [bf_spec ho (D.after ho)] at h
    obtain ⟨e, he, hb, h | h⟩ := h
    · subst h; exact hr e he hb
    · have hlt := D.after ho e he hb
      have hes : e.on < all.size := by omega
      have hl' := hr e he hb
      refine ih e.on hlt hes ?_ h
      have heo : all[e.on]? = some all[e.on] := Array.getElem?_eq_getElem hes
      have hd' : all.getD e.on default = all[e.on] := by simp [Array.getD, hes]
      rw [hd']
      exact hl.2 _ _ heo hl'

theorem ready_mem {all : Array Oper} {listed : Array Bool} {i : Nat} (h : i ∈ Region.ready .any all listed) :
    ∃ o, all[i]? = some o ∧ listed.getD i true = false ∧ ∀ e ∈ o.after.toList, Region.binds .any e = true → listed.getD e.on false = true := by
  unfold Region.ready at h
  rw [List.mem_filter] at h
  obtain ⟨h1, h2⟩ := h
  have hi : i < all.size := by simpa using h1
  have ho : all[i]? = some all[i] := Array.getElem?_eq_getElem hi
  simp only [ho, Option.map_some, Option.getD_some, Bool.and_eq_true, Bool.not_eq_true'] at h2
  refine ⟨all[i], ho, h2.1, ?_⟩
  intro e he hb
  have := h2.2
  rw [Array.all_eq_true_iff_forall_mem] at this
  have := this e (by simpa using he)
  simpa [hb] using this

theorem ready_some {all : Array Oper} (D : Dr all) {listed : Array Bool} (hs : listed.size = all.size) {i : Nat} (hi : i < all.size) (hn : listed.getD i true = false) : Region.ready .any all listed ≠ [] := by
  -- the least number that is not yet listed
  induction i using Nat.strongRecOn with
  | _ i ih =>
    by_cases hex : ∃ k, k < i ∧ listed.getD k true = false
    · obtain ⟨k, hk, hkn⟩ := hex
      exact ih k hk (by omega) hkn
    · intro hnil
      have ho : all[i]? = some all[i] := Array.getElem?_eq_getElem hi
      have : i ∈ Region.ready .any all listed := by
        unfold Region.ready
        rw [List.mem_filter]
        refine ⟨by simpa using hi, ?_⟩
        simp only [ho, Option.map_some, Option.getD_some, hn, Bool.not_false, Bool.true_and]
        rw [Array.all_eq_true_iff_forall_mem]
        intro e he
        by_cases hb : Region.binds .any e = true
        · have hlt := D.after ho e (by simpa using he) hb
          have : listed.getD e.on true = true := by
            cases hx : listed.getD e.on true with
            | true => rfl
            | false => exact absurd ⟨e.on, hlt, hx⟩ hex
          have hsz : e.on < listed.size := by omega
          simp [Array.getD_eq_getD_getElem?, Array.getElem?_eq_getElem hsz] at this ⊢
          exact .inr this
        · simp [hb]
      rw [hnil] at this
      cases this

theorem getD_tf {listed : Array Bool} {i : Nat} (h : i < listed.size) : listed.getD i true = listed.getD i false := by
  simp [Array.getD, h]

/-- every order that may be drawn -/
theorem linearise_ord {all : Array Oper} (D : Dr all) : ∀ (fuel t : Nat) (listed : Array Bool), Listed all listed →
    (((List.range all.size).filter fun i => !listed.getD i true).length ≤ fuel) →
    Ord all (Region.linearise.go .any all fuel t listed []) ∧ ∀ j, j ∈ Region.linearise.go .any all fuel t listed [] ↔ (j < all.size ∧ listed.getD j true = false) := by
  intro fuel
  induction fuel with
  | zero =>
    intro t listed hl hf
    have hnil : ∀ j, j < all.size → listed.getD j true = true := by
      intro j hj
      cases hx : listed.getD j true with
      | true => rfl
      | false =>
        have : j ∈ (List.range all.size).filter fun i => !listed.getD i true := by rw [List.mem_filter]; exact ⟨by simpa using hj, by simp [hx]⟩
        rw [List.eq_nil_of_length_eq_zero (Nat.le_zero.mp hf)] at this
        cases this
    refine ⟨by simp [Region.linearise.go]; exact .nil, fun j => ?_⟩
    simp only [Region.linearise.go, List.reverse_nil, List.not_mem_nil, false_iff]
    rintro ⟨h1, h2⟩
    rw [hnil j h1] at h2; cases h2
  | succ fuel ih =>
    intro t listed hl hf
    simp only [Region.linearise.go]
    change Ord all (match (Region.ready .any all listed)[t % (Region.ready .any all listed).length]? with
      | some i => Region.linearise.go .any all fuel (t / (Region.ready .any all listed).length) (listed.setIfInBounds i true) [i]
      | none => [].reverse) ∧ ∀ j, j ∈ (match (Region.ready .any all listed)[t % (Region.ready .any all listed).length]? with
      | some i => Region.linearise.go .any all fuel (t / (Region.ready .any all listed).length) (listed.setIfInBounds i true) [i]
      | none => [].reverse) ↔ _
    cases hi : (Region.ready .any all listed)[t % (Region.ready .any all listed).length]? with
    | none =>
      have hnil : Region.ready .any all listed = [] := by
        cases hr : Region.ready .any all listed with
        | nil => rfl
        | cons x xs =>
          rw [hr] at hi
          have hlt : t % (x :: xs).length < (x :: xs).length := Nat.mod_lt _ (by simp)
          simp at hi
          simp at hlt
          omega
      simp only [List.reverse_nil]
      refine ⟨.nil, fun j => ?_⟩
      simp only [List.not_mem_nil, false_iff]
      rintro ⟨h1, h2⟩
      exact ready_some D hl.1 h1 h2 hnil
    | some i =>
      simp only []
      rw [linearise_go_acc, List.reverse_singleton, List.singleton_append]
      obtain ⟨o, ho, hni, hready⟩ := ready_mem (List.mem_of_getElem? hi)
      have hisz : i < all.size := by
        rcases Nat.lt_or_ge i all.size with h | h
        · exact h
        · rw [Array.getElem?_eq_none h] at ho; cases ho
      have hil : i < listed.size := by rw [hl.1]; exact hisz
      have hset : ∀ j d, (listed.setIfInBounds i true).getD j d = if j = i then true else listed.getD j d := by
        intro j d
        by_cases hj : j = i
        · subst hj
          simp [Array.getD_eq_getD_getElem?, Array.getElem?_setIfInBounds_self_of_lt hil]
        · simp [Array.getD_eq_getD_getElem?, Array.getElem?_setIfInBounds_ne (Ne.symm hj), hj]
      have hl' : Listed all (listed.setIfInBounds i true) := by
        refine ⟨by simpa using hl.1, ?_⟩
        intro k p hp hk e he hb
        rw [hset] at hk ⊢
        by_cases hki : k = i
        · subst hki
          rw [ho] at hp; cases hp
          by_cases hei : e.on = k
          · simp [hei]
          · rw [if_neg hei]; exact hready e he hb
        · rw [if_neg hki] at hk
          by_cases hei : e.on = i
          · simp [hei]
          · rw [if_neg hei]; exact hl.2 k p hp hk e he hb
      have hlen : ((List.range all.size).filter fun j => !(listed.setIfInBounds i true).getD j true).length ≤ fuel := by
        have hsub : ((List.range all.size).filter fun j => !(listed.setIfInBounds i true).getD j true) = ((List.range all.size).filter fun j => !listed.getD j true).filter (fun j => j != i) := by
          rw [List.filter_filter]
          apply List.filter_congr
          intro j _
          rw [hset]
          by_cases hj : j = i <;> simp [hj]
        rw [hsub]
        have hmem : i ∈ (List.range all.size).filter fun j => !listed.getD j true := by
          rw [List.mem_filter]; exact ⟨by simpa using hisz, by simp [hni]⟩
        have : (((List.range all.size).filter fun j => !listed.getD j true).filter (fun j => j != i)).length < ((List.range all.size).filter fun j => !listed.getD j true).length := by
          rw [List.length_filter_lt_length_iff_exists]
          exact ⟨i, hmem, by simp⟩
        omega
      obtain ⟨g1, g2⟩ := ih (t / (Region.ready .any all listed).length) _ hl' hlen
      have hnotin : i ∉ Region.linearise.go .any all fuel (t / (Region.ready .any all listed).length) (listed.setIfInBounds i true) [] := by
        rw [g2, hset, if_pos rfl]
        rintro ⟨_, h⟩; cases h
      refine ⟨.cons hisz hnotin ?_ g1, fun j => ?_⟩
      · intro b hb
        rw [g2, hset] at hb
        obtain ⟨hb1, hb2⟩ := hb
        by_cases hbi : b = i
        · rw [if_pos hbi] at hb2; cases hb2
        · rw [if_neg hbi] at hb2
          cases hx : ((Region.before all).getD i 0).testBit b with
          | false => rfl
          | true =>
            have := listed_bf D hl (i := i) (j := b) hisz (by
              have hd : all.getD i default = o := by rw [Array.getD_eq_getD_getElem?, ho]; rfl
              rw [hd]; exact hready) hx
            rw [getD_tf (by rw [hl.1]; exact hb1)] at hb2
            rw [hb2] at this; cases this
      · rw [List.mem_cons, g2, hset]
        by_cases hj : j = i
        · subst hj; simp [hisz, hni]
        · simp [hj]

end Go.Ab
end

section
namespace Go.Ab
open Go.RowKit
variable {A : AProg} {P : Program} {B : Nat} {φ ψ : Ren} {h h' : AHeap} {w w' : World}

/-- all that the one heap holds the other one holds too -/
def AHeap.sub (h h' : AHeap) : Prop := ∀ b o, h.get b = some o → h'.get b = some o

theorem loadN_sub (hs : h.sub h') {b off n : Nat} {l : List Value} (e : loadN h b off n = some l) : loadN h' b off n = some l := by
  unfold loadN at e ⊢
  split at e
  · rename_i c _ _ _ _ hg
    rw [hs _ _ hg]; exact e
  · cases e

theorem loadV_sub (hs : h.sub h') {t : TypeId} {a : Addr} {v : Value} (e : loadV P h t a = some v) : loadV P h' t a = some v := by
  unfold loadV at e ⊢
  split at e
  · simp only [Option.bind_eq_some_iff, Option.map_eq_some_iff] at e ⊢
    obtain ⟨n, h1, l, h2, h3⟩ := e
    exact ⟨n, h1, l, loadN_sub hs h2, h3⟩
  · simp only [Option.bind_eq_some_iff] at e ⊢
    obtain ⟨l, h2, h3⟩ := e
    exact ⟨l, loadN_sub hs h2, h3⟩
  · cases e

theorem strideOk_sub (hs : h.sub h') {b sz : Nat} (e : strideOk h b sz = true) : strideOk h' b sz = true := by
  unfold strideOk at e ⊢
  split at e
  · rename_i hg; rw [hs _ _ hg]; exact e
  · cases e

theorem sliceV_sub (hs : h.sub h') {t : TypeId} {x : Value} {lo hi mx : Option Value} {v : Value} (e : sliceV P h t x lo hi mx = some v) : sliceV P h' t x lo hi mx = some v := by
  unfold sliceV at e ⊢
  obtain ⟨hc, e⟩ := cond_some e
  rw [hc, cond_true]
  split at e
  · exact e
  · exact e
  · split at e
    · simp only [Option.bind_eq_some_iff] at e ⊢
      obtain ⟨sz, h1, e⟩ := e
      refine ⟨sz, h1, ?_⟩
      split at e
      · exact e
      · obtain ⟨hc, e⟩ := cond_some e
        rw [strideOk_sub hs hc, cond_true]
        exact e
    · cases e
  · exact e
  · cases e

theorem lookupV_sub (hs : h.sub h') {t : TypeId} {x k : Value} {ok : Bool} {v : Value} (e : lookupV P h t x k ok = some v) : lookupV P h' t x k ok = some v := by
  unfold lookupV at e ⊢
  split at e
  · obtain ⟨hc, e⟩ := cond_some e
    rw [hc, cond_true]
    simp only [Option.bind_eq_some_iff] at e ⊢
    obtain ⟨r, h1, e⟩ := e
    refine ⟨r, ?_, e⟩
    split at h1
    · exact h1
    · split at h1
      · rename_i hg; simp only [hs _ _ hg]; exact h1
      · cases h1
    · cases h1
  · cases e

theorem lenV_sub (hs : h.sub h') {ts : List TypeId} {args : List Value} {v : Value} (e : lenV P h ts args = some v) : lenV P h' ts args = some v := by
  unfold lenV at e ⊢
  split at e
  · split at e
    · exact e
    · exact e
    · exact e
    · exact e
    · split at e
      · rename_i hg; simp only [hs _ _ hg]; exact e
      · cases e
    · exact e
    · cases e
  · cases e

theorem map_agree {ρ ρ' : Operand → Value} : ∀ {l : List Operand}, (∀ x ∈ l, ρ' x = ρ x) → l.map ρ' = l.map ρ
  | [], _ => rfl
  | x :: l, h => by rw [List.map_cons, List.map_cons, h x (by simp), map_agree fun y hy => h y (by simp [hy])]

theorem parts_agree {ρ ρ' : Operand → Value} : ∀ {l : List (Nat × Operand)}, (∀ p ∈ l, ρ' p.2 = ρ p.2) → (l.map fun (i, x) => (i, ρ' x)) = (l.map fun (i, x) => (i, ρ x))
  | [], _ => rfl
  | x :: l, h => by
    have := parts_agree (l := l) fun y hy => h y (by simp [hy])
    obtain ⟨i, y⟩ := x
    have h1 := h (i, y) (by simp)
    simp only at h1
    rw [List.map_cons, List.map_cons, this]
    simp only [h1]

theorem omap_agree {ρ ρ' : Operand → Value} {x : Option Operand} (h : ∀ y, x = some y → ρ' y = ρ y) : x.map ρ' = x.map ρ := by
  cases x with
  | none => rfl
  | some y => simp [h y rfl]

theorem guardOk_agree {op : BinOp} {t : TypeId} {x y : Operand} {a b : Value} : guardOk P op t x y a b = guardOk P op t x y a b := rfl

theorem quietV_sub (hs : h.sub h') {ρ ρ' : Operand → Value} {o : Op} {ty : TypeId} {v : Value} (hρ : ∀ x ∈ o.operands.toList, ρ' x = ρ x) (e : quietV A ρ h o ty = some v) :
    quietV A ρ' h' o ty = some v := by
  unfold quietV at e
  split at e
  · rename_i x
    have := hρ x (by simp [Op.operands])
    simp only [quietV, this]; exact e
  · rename_i c a b
    have h1 := hρ c (by simp [Op.operands]); have h2 := hρ a (by simp [Op.operands]); have h3 := hρ b (by simp [Op.operands])
    simp only [quietV, h1, h2, h3]; exact e
  · rename_i t ps
    have : (ps.toList.map fun (i, x) => (i, ρ' x)) = (ps.toList.map fun (i, x) => (i, ρ x)) := parts_agree fun p hp => hρ p.2 (by
      simp only [Op.operands, List.mem_map]; exact ⟨p, hp, rfl⟩)
    simp only [quietV, this]; exact e
  · rename_i t x
    have h1 := hρ x (by simp [Op.operands])
    simp only [quietV, h1]
    split at e
    · exact loadV_sub hs e
    · cases e
  · rename_i x
    have h1 := hρ x (by simp [Op.operands])
    simp only [quietV, h1]; exact e
  · rename_i op t x y _
    have h1 := hρ x (by simp [Op.operands]); have h2 := hρ y (by simp [Op.operands])
    simp only [quietV, h1, h2]; exact e
  · rename_i op _ x
    have h1 := hρ x (by simp [Op.operands])
    simp only [quietV, h1]; exact e
  · rename_i t x
    have h1 := hρ x (by simp [Op.operands])
    simp only [quietV, h1]; exact e
  · rename_i fn fs cs
    have h1 : fs.toList.map ρ' = fs.toList.map ρ := map_agree fun x hx => hρ x (by simp [Op.operands] at hx ⊢; exact .inl hx)
    have h2 : cs.toList.map ρ' = cs.toList.map ρ := map_agree fun x hx => hρ x (by simp [Op.operands] at hx ⊢; exact .inr hx)
    simp only [quietV, h1, h2]; exact e
  · rename_i t x lo hi mx
    have h1 := hρ x (by simp [Op.operands])
    have h2 : lo.map ρ' = lo.map ρ := omap_agree fun y hy => hρ y (by subst hy; simp [Op.operands])
    have h3 : hi.map ρ' = hi.map ρ := omap_agree fun y hy => hρ y (by subst hy; simp [Op.operands])
    have h4 : mx.map ρ' = mx.map ρ := omap_agree fun y hy => hρ y (by subst hy; simp [Op.operands])
    simp only [quietV, h1, h2, h3, h4]
    exact sliceV_sub hs e
  · rename_i s x f
    have h1 := hρ x (by simp [Op.operands])
    simp only [quietV, h1]; exact e
  · rename_i t x f
    have h1 := hρ x (by simp [Op.operands])
    simp only [quietV, h1]; exact e
  · rename_i t x i
    have h1 := hρ x (by simp [Op.operands]); have h2 := hρ i (by simp [Op.operands])
    simp only [quietV, h1, h2]; exact e
  · rename_i t x i
    have h1 := hρ x (by simp [Op.operands]); have h2 := hρ i (by simp [Op.operands])
    simp only [quietV, h1, h2]; exact e
  · rename_i t x k ok
    have h1 := hρ x (by simp [Op.operands]); have h2 := hρ k (by simp [Op.operands])
    simp only [quietV, h1, h2]
    exact lookupV_sub hs e
  · rename_i t i
    have h1 := hρ t (by simp [Op.operands])
    simp only [quietV, h1]; exact e
  · rename_i args ats
    have h1 : args.toList.map ρ' = args.toList.map ρ := map_agree fun x hx => hρ x (by simpa [Op.operands, Call.operands] using hx)
    simp only [quietV, h1]
    exact lenV_sub hs e
  · rename_i args ats
    have h1 : args.toList.map ρ' = args.toList.map ρ := map_agree fun x hx => hρ x (by simpa [Op.operands, Call.operands] using hx)
    simp only [quietV, h1]; exact e
  · rename_i args ats
    have h1 : args.toList.map ρ' = args.toList.map ρ := map_agree fun x hx => hρ x (by simpa [Op.operands, Call.operands] using hx)
    simp only [quietV, h1]; exact e
  · rename_i args ats
    have h1 : args.toList.map ρ' = args.toList.map ρ := map_agree fun x hx => hρ x (by simpa [Op.operands, Call.operands] using hx)
    simp only [quietV, h1]; exact e
  · cases e

theorem freshV_agree {ρ ρ' : Operand → Value} {o : Op} (hρ : ∀ x ∈ o.operands.toList, ρ' x = ρ x) : freshV A ρ' o = freshV A ρ o := by
  cases o <;> try rfl
  case box t x =>
    have h1 := hρ x (by simp [Op.operands])
    simp only [freshV, h1]
  case buildSlice t n ps =>
    have : (ps.toList.map fun (i, x) => (i, ρ' x)) = (ps.toList.map fun (i, x) => (i, ρ x)) := parts_agree fun p hp => hρ p.2 (by
      simp only [Op.operands, List.mem_map]; exact ⟨p, hp, rfl⟩)
    simp only [freshV, this]
  case makeSlice t l c =>
    have h1 := hρ l (by simp [Op.operands]); have h2 := hρ c (by simp [Op.operands])
    simp only [freshV, h1, h2]
  case makeMap t r => cases r <;> rfl

/-- the address of what has been made -/
theorem freshV_block {ρ : Operand → Value} {o : Op} {obj : AObj} {g : Nat → Value} (e : freshV A ρ o = some (obj, g)) (b : Nat) : blockOf (g b) = some b := by
  unfold freshV at e
  split at e
  · simp only [Option.map_eq_some_iff] at e
    obtain ⟨z, _, e⟩ := e; cases e; rfl
  · obtain ⟨_, e⟩ := cond_some e; cases e; rfl
  · split at e
    · simp only [Option.bind_eq_some_iff] at e
      obtain ⟨sz, _, z, _, e⟩ := e
      obtain ⟨_, e⟩ := cond_some e
      simp only [Option.map_eq_some_iff] at e
      obtain ⟨z, _, e⟩ := e; cases e; rfl
    · cases e
  · split at e
    · simp only [Option.bind_eq_some_iff] at e
      obtain ⟨sz, _, z, _, e⟩ := e
      obtain ⟨_, e⟩ := cond_some e
      cases e; rfl
    · cases e
  · cases e; rfl
  · cases e

theorem sameObj_eq {a b : AObj} (e : sameObj a b = true) : a = b := by
  unfold sameObj at e
  split at e
  · rename_i c e1 s r x c' e2 s' r' x'
    simp only [Bool.and_eq_true, Nat.beq_eq, beq_iff_eq] at e
    obtain ⟨⟨⟨⟨⟨h1, h2⟩, h3⟩, h4⟩, h5⟩, h6⟩ := e
    subst h1; subst h2; subst h3; subst h4
    have : c = c' := by
      apply List.ext_getElem? 
      intro k
      rw [List.all_eq_true] at h6
      rcases Nat.lt_or_ge k c.length with hk | hk
      · have hk' : k < c'.length := by omega
        have hm : (c[k], c'[k]) ∈ c.zip c' := by
          rw [List.mem_iff_getElem?]
          exact ⟨k, by rw [List.getElem?_zip_eq_some]; exact ⟨List.getElem?_eq_getElem hk, List.getElem?_eq_getElem hk'⟩⟩
        have := sameL_eq 6 (h6 _ hm)
        rw [List.getElem?_eq_getElem hk, List.getElem?_eq_getElem hk']
        simp only at this
        rw [this]
      · rw [List.getElem?_eq_none hk, List.getElem?_eq_none (by omega)]
    subst this
    rfl
  · rename_i c d
    have := Nat.eq_of_beq_eq_true e
    subst this; rfl
  · cases e

end Go.Ab
end

section
namespace Go.Ab
open Go.RowKit
variable {A : AProg} {P : Program} {B : Nat} {φ ψ : Ren} {h h' : AHeap} {w w' : World}

theorem put_get {f f' : AFrame} {d : Option Nat} {v : Value} (e : f.put d v = some f') :
    (∀ k, f'.tmps.get k = if d = some k then some v else f.tmps.get k) ∧ f' = { f with tmps := f'.tmps } ∧ (∀ k, d = some k → k < f.nt) := by
  unfold AFrame.put at e
  cases d with
  | none => cases e; exact ⟨fun k => by simp, rfl, fun k hk => by cases hk⟩
  | some d =>
    obtain ⟨hc, e⟩ := cond_some e
    cases e
    simp only [Bool.and_eq_true, Nat.blt_eq] at hc
    refine ⟨fun k => ?_, rfl, fun k hk => by cases hk; exact hc.1⟩
    simp only
    rw [T.get_put' _ _ _ _ (by omega)]
    by_cases hk : k = d
    · subst hk; simp
    · rw [if_neg hk, if_neg (by simp; exact Ne.symm hk)]

theorem any_not_same : sameL 6 any any = false := rfl

theorem still_of {f : AFrame} {all : Array Oper} {bs : List Nat} {o : Oper} (_he : isEager o.op = true)
    (hfr : ∀ d v b, isQuiet o.op = false → o.dst = some d → f.tmps.get d = some v → blockOf v = some b → b ∈ bs)
    (e : holdsStill A f h all o = true) : Still A f h all bs o := by
  unfold holdsStill at e
  have hget : ∀ {d : Nat} {v : Value}, sameL 6 v ((f.tmps.get d).getD any) = true → f.tmps.get d = some v := by
    intro d v hs
    cases hg : f.tmps.get d with
    | none =>
      rw [hg] at hs
      simp only [Option.getD_none] at hs
      have := sameL_eq 6 hs
      subst this
      rw [any_not_same] at hs; cases hs
    | some u =>
      rw [hg] at hs
      simp only [Option.getD_some] at hs
      rw [sameL_eq 6 hs]
  cases hw : wantedA all f o with
  | none => rw [hw] at e; cases e
  | some c =>
    rw [hw] at e
    simp only at e
    cases hd : o.dst with
    | none =>
      rw [hd] at e
      simp only at e
      cases c with
      | false => exact .no hw fun d hdd => by rw [hd] at hdd; cases hdd
      | true =>
        simp only [cond_true, Bool.and_eq_true, Option.isSome_iff_exists] at e
        obtain ⟨h1, v, h2⟩ := e
        exact .quiet hw h1 h2 fun d hdd => by rw [hd] at hdd; cases hdd
    | some d =>
      rw [hd] at e
      simp only at e
      cases c with
      | false =>
        simp only [cond_false] at e
        exact .no hw fun d' hdd => by rw [hd] at hdd; cases hdd; exact hget e
      | true =>
        simp only [cond_true] at e
        cases hq : isQuiet o.op with
        | true =>
          rw [hq] at e
          simp only [cond_true] at e
          split at e
          · rename_i v hv
            exact .quiet hw hq hv fun d' hdd => by rw [hd] at hdd; cases hdd; exact hget e
          · cases e
        | false =>
          rw [hq] at e
          simp only [cond_false] at e
          unfold freshStill at e
          split at e
          · rename_i obj g b hr hb
            simp only [Bool.and_eq_true] at e
            obtain ⟨h1, h2⟩ := e
            split at h2
            · rename_i o' ho'
              have hobj := sameObj_eq h2
              subst hobj
              cases hg : f.tmps.get d with
              | none => rw [hg] at hb; cases hb
              | some u =>
                rw [hg] at h1 hb
                simp only [Option.getD_some] at h1 hb
                have hu := sameL_eq 6 h1
                have hbm := hfr d u b hq hd hg hb
                exact .fresh hw hq hd hr (by rw [hg, hu]) ho' hbm
            · cases h2
          · cases e

theorem finish_draw {f f' : AFrame} {fr : Frame} {bs : List Nat} {all : Array Oper} {i : Nat} {o : Oper} {left quiet : List (Nat × Oper)} {k : List AItem} {is : List Nat} {k' : List Item} {v v' : Value}
    (htd : f.todo = .draw all ((i, o) :: left) quiet :: k) (hfr : fr.todo = .inRegion all (i :: is) :: k') (hf : FrR φ h f fr bs) (hv : VR φ v v') (e : finishOps A f h v = some f') :
    FrR φ h f' (fr.finish v') bs ∧ Valid A f' h (fr.finish v') bs := by
  have htodo := hf.todo
  rw [htd, hfr] at htodo
  cases htodo with
  | plain _ hi => cases hi with | cons hx _ => cases hx
  | draw D hk =>
  have Q := dr_of D.ok
  have hoi := (D.lft i o (by simp)).1
  unfold finishOps at e
  rw [htd] at e
  simp only [Option.bind_eq_some_iff] at e
  obtain ⟨f1, hp, e⟩ := e
  obtain ⟨hall, e⟩ := cond_some e
  cases e
  obtain ⟨p1, p2, p3⟩ := put_get hp
  have hfin : fr.finish v' = { fr with tmps := putD fr.tmps o.dst v', todo := .inRegion all is :: k' } := by
    unfold Frame.finish
    rw [hfr]
    simp only [hoi, Option.bind_some]
    rfl
  have hord : i ∉ is ∧ ∀ b, b ∈ is → (bf all i).testBit b = false := by
    have := D.ord
    cases this with
    | cons h1 h2 h3 h4 => exact ⟨h2, h3⟩
  have hordt : Ord all is := by
    have := D.ord
    cases this with
    | cons h1 h2 h3 h4 => exact h4
  have hqi : ∀ j p, (j, p) ∈ quiet → j ≠ i := by
    intro j p hj hji
    subst hji
    exact (D.qt j p hj).2.2 o (by simp)
  let q := quiet.filter fun x => !((Region.before all).getD i 0).testBit x.1
  have hq : ∀ j p, (j, p) ∈ quiet → j ∈ is → (j, p) ∈ q := by
    intro j p hj hji
    refine List.mem_filter.mpr ⟨hj, ?_⟩
    have := hord.2 j hji
    unfold bf at this
    rw [this]
    rfl
  have hq' : ∀ j p, (j, p) ∈ q → (j, p) ∈ quiet := fun j p hj => (List.mem_filter.mp hj).1
  -- what is pending is not written
  have hkeep : ∀ j p d, (j, p) ∈ quiet → p.dst = some d → f1.tmps.get d = f.tmps.get d := by
    intro j p d hj hd
    rw [p1]
    have := (Q.eager (D.qt j p hj).1 hoi (hqi j p hj) (D.qt j p hj).2.1 hd).1
    rw [if_neg this]
  have hnd := D.nd
  simp only [List.map_cons, List.nodup_cons] at hnd
  have hD : DrR φ h f1.tmps (putD fr.tmps o.dst v') all left q is bs := by
    refine ⟨D.ok, hordt, hnd.2, ?_, ?_, fun j p i' o' hj hi' => D.rdy j p i' o' (hq' j p hj) (by simp [hi']), fun j p d hj hd => by rw [putD_size]; exact D.lt j p d (hq' j p hj) hd, ?_, ?_, D.new, ?_, ?_⟩
    · intro j p hj
      have := D.lft j p (by simp [hj])
      refine ⟨this.1, ?_⟩
      rcases List.mem_cons.mp this.2 with hh | hh
      · subst hh
        exact absurd (List.mem_map.mpr ⟨(j, p), hj, rfl⟩) hnd.1
      · exact hh
    · intro j p hj
      have := D.qt j p (hq' j p hj)
      exact ⟨this.1, this.2.1, fun p' hp' => this.2.2 p' (by simp [hp'])⟩
    · intro j hj
      obtain ⟨p, hp' | hp'⟩ := D.both j (by simp [hj])
      · rcases List.mem_cons.mp hp' with hh | hh
        · cases hh; exact absurd hj hord.1
        · exact ⟨p, .inl hh⟩
      · exact ⟨p, .inr (hq j p hp' hj)⟩
    · intro t u hu
      rw [p1] at hu
      by_cases hd : o.dst = some t
      · rw [if_pos hd] at hu
        cases hu
        right
        refine ⟨v', ?_, hv⟩
        rw [hd]
        have hlt : t < fr.tmps.size := by rw [hf.nt]; exact p3 t hd
        simp [putD, Array.getElem?_setIfInBounds_self_of_lt hlt]
      · rw [if_neg hd] at hu
        rcases D.tr t u hu with ⟨j, p, hj, hji, hjd⟩ | ⟨u', h1, h2⟩
        · left
          rcases List.mem_cons.mp hji with hh | hh
          · exact absurd hh (hqi j p hj)
          · exact ⟨j, p, hq j p hj hh, hh, hjd⟩
        · right
          refine ⟨u', ?_, h2⟩
          cases hod : o.dst with
          | none => exact h1
          | some d =>
            have : d ≠ t := fun hh => hd (by rw [hod, hh])
            simp only [putD]
            rw [Array.getElem?_setIfInBounds_ne this]
            exact h1
    · intro j p d hj hji hn hd
      have hj' := hq' j p hj
      rw [hkeep j p d hj' hd]
      exact D.frs j p d hj' (by simp [hji]) hn hd
    · intro j p d u j' p' d' u' b hj hji hn hd hu hb hj2 hji2 hn2 hd2 hu2 hb2
      have hj' := hq' j p hj
      have hj2' := hq' j' p' hj2
      rw [hkeep j p d hj' hd] at hu
      rw [hkeep j' p' d' hj2' hd2] at hu2
      exact D.inj j p d u j' p' d' u' b hj' (by simp [hji]) hn hd hu hb hj2' (by simp [hji2]) hn2 hd2 hu2 hb2
  rw [hfin]
  have hmode : f1.mode = f.mode := by rw [p2]
  refine ⟨⟨?_, ?_, ?_, ?_, ?_, ?_, .draw hD hk, ?_⟩, ?_⟩
  · rw [p2]; exact hf.fn
  · simp only [putD_size]; rw [p2]; exact hf.nt
  · rw [p2]; exact hf.mode
  · rw [p2]; exact hf.kind
  · rw [p2]; exact hf.defers
  · rw [p2]; exact hf.round
  · rcases hf.tr with hh | hh
    · exact .inl (hmode.trans hh)
    · right
      intro t u hu
      simp only at hu
      rw [p1] at hu
      by_cases hd : o.dst = some t
      · rw [if_pos hd] at hu
        cases hu
        refine ⟨v', ?_, hv⟩
        rw [hd]
        have hlt : t < fr.tmps.size := by rw [hf.nt]; exact p3 t hd
        simp [putD, Array.getElem?_setIfInBounds_self_of_lt hlt]
      · rw [if_neg hd] at hu
        obtain ⟨u', h1, h2⟩ := hh t u hu
        refine ⟨u', ?_, h2⟩
        cases hod : o.dst with
        | none => exact h1
        | some d =>
          have : d ≠ t := fun hh => hd (by rw [hod, hh])
          simp only [putD]
          rw [Array.getElem?_setIfInBounds_ne this]
          exact h1
  · intro _ all2 left2 quiet2 k2 is2 k2' h1 h2 j p hj hji
    simp only [List.cons.injEq, AItem.draw.injEq, Item.inRegion.injEq] at h1 h2
    obtain ⟨⟨rfl, rfl, rfl⟩, rfl⟩ := h1
    obtain ⟨⟨_, rfl⟩, rfl⟩ := h2
    have hst : holdsStill A f1 h all p = true := by
      rw [List.all_eq_true] at hall
      exact hall (j, p) hj
    have hs : Still A f1 h all bs p := by
      refine still_of (D.qt j p (hq' j p hj)).2.1 ?_ hst
      intro d u b hn hd hu hb
      rcases hD.frs j p d hj hji hn hd with hh | ⟨u2, b2, g1, g2, g3⟩
      · rw [hu] at hh; cases hh; cases hb
      · rw [hu] at g1; cases g1; rw [hb] at g2; cases g2; exact g3
    cases hs with
    | no a1 a2 => exact .no a1 a2
    | quiet a1 a2 a3 a4 => exact .quiet a1 a2 a3 a4
    | fresh a1 a2 a3 a4 a5 a6 a7 => exact .fresh a1 a2 a3 a4 a5 a6 a7

theorem waits_of_plain {f : AFrame} {fr : Frame} (h : ∀ all left quiet k, f.todo ≠ .draw all left quiet :: k) : Waits f fr :=
  fun all left quiet k _ _ e _ => absurd e (h all left quiet k)

/-- a value is handed to a frame that waits for it -/
theorem finish_any {f f' : AFrame} {fr : Frame} {bs : List Nat} {v v' : Value} (hf : FrR φ h f fr bs) (hw : Waits f fr) (hv : VR φ v v') (e : finishOps A f h v = some f') :
    FrR φ h f' (fr.finish v') bs ∧ Valid A f' h (fr.finish v') bs := by
  have htodo := hf.todo
  generalize hA : f.todo = ta at htodo
  generalize hC : fr.todo = tc at htodo
  cases htodo with
  | plain ht hi =>
    have hi' : IRL φ f.todo fr.todo := by rw [hA, hC]; exact hi
    obtain ⟨f1, f2, f3⟩ := finish_plain ⟨hf.fn, hf.nt, hf.mode, hf.kind, hf.defers, hf.round, .plain ht hi', .inr ht⟩ ht hi' hv e
    exact ⟨f1, valid_plain f3⟩
  | draw D hk =>
    obtain ⟨i, o, left', is', rfl, rfl⟩ := hw _ _ _ _ _ _ hA hC
    exact finish_draw hA hC hf hv e

end Go.Ab
end

section
namespace Go.Ab
open Go.RowKit
variable {A : AProg} {P : Program} {B : Nat} {φ ψ : Ren} {h h' : AHeap} {w w' : World}

/-- both machines stand at one operation of the top frame -/
structure Head (φ : Ren) (f : AFrame) (fr : Frame) (all : Array Oper) (o : Oper) : Prop where
  at' : ∃ i is k', fr.todo = .inRegion all (i :: is) :: k' ∧ all[i]? = some o
  waits : Waits f fr
  opnd : ∀ t v, t ∈ namesOf o → f.tmps.get t = some v → ∃ v', fr.tmps[t]? = some v' ∧ VR φ v v'
  guard : ∀ j want oj d v, o.guard = some (j, want) → all[j]? = some oj → oj.dst = some d → f.tmps.get d = some v → ∃ v', fr.tmps[d]? = some v' ∧ VR φ v v'

theorem Head.ev {f : AFrame} {fr : Frame} {all : Array Oper} {o : Oper} (Hd : Head φ f fr all o) (hg : Globs A φ) {x : Operand} (hx : x ∈ o.op.operands.toList) : VR φ (Ab.ev A f x) (fr.eval x) :=
  ev_sound hg fun k v e hk => Hd.opnd k v (by
    subst e
    unfold namesOf
    exact List.mem_filterMap.mpr ⟨.tmp k, hx, rfl⟩) hk

theorem Head.wanted {f : AFrame} {fr : Frame} {all : Array Oper} {o : Oper} (Hd : Head φ f fr all o) {c : Bool} (e : wantedA all f o = some c) : Region.wanted o (yielded all fr.tmps) = c :=
  wanted_sound Hd.guard e

theorem Head.plain {f : AFrame} {fr : Frame} (ht : TR φ f.tmps fr.tmps) (hi : IRL φ f.todo fr.todo) {all : Array Oper} {i : Nat} {o : Oper} {rest : List Oper} {k : List AItem} (htd : f.todo = .ops all i (o :: rest) :: k) :
    Head φ f fr all o := by
  obtain ⟨is, k', h1, h2⟩ := head_plain hi htd
  exact ⟨⟨i, is, k', h1, h2⟩, waits_plain hi, fun t v _ e => ht t v e, fun j want oj d v _ _ _ e => ht d v e⟩

variable {base : List Frame} {S : AState} {fr : Frame} {cs : List Frame} {bs bs' : List Nat} {all : Array Oper} {o : Oper}

theorem SR.fmode (R : SR A base B φ S fr cs w bs bs') (hm : S.top.mode = .run) : fr.mode = .run := (show MR φ .run fr.mode from hm ▸ R.top.mode).run_inv

theorem after_head (R : SR A base B φ S fr cs w bs bs') (hw : Waits S.top fr) {v v' : Value} {t : AFrame} (hd : Did B φ S.heap h' w v v' w' ψ) (e : finishOps A S.top h' v = some t)
    (hs : step A.P (lone fr cs w) = .next (lone (fr.finish v') cs w')) : Follows A base B φ fr cs w { S with top := t, heap := h' } := by
  obtain ⟨f1, f2⟩ := finish_any (R.top.mono hd.le hd.old hd.next) hw hd.val e
  exact ⟨fr.finish v', cs, w', ψ, bs, bs', .one hs, ⟨hd.hr, hd.bnd, Nat.le_trans R.hB hd.below.size, R.glob.mono hd.le, f1, R.low.mono hd.le hd.old hd.next, R.nodup, f2⟩, hd.le, hd.below⟩

theorem exec_head (Hd : Head φ S.top fr all o) (hw : Region.wanted o (yielded all fr.tmps) = true) (hd : fr.roundOf = none ∨ ∀ c, o.op ≠ .defer c) :
    (stepG.exec A.P true true fr cs none w) = stepG.apply A.P true fr cs none (execOp fr.eval o) w := by
  obtain ⟨i, is, k', h1, h2⟩ := Hd.at'
  exact exec_oper h1 h2 hw hd

/-- an operation that is not wanted -/
theorem skip_head (R : SR A base B φ S fr cs w bs bs') (hm : S.top.mode = .run) (Hd : Head φ S.top fr all o) (hw : wantedA all S.top o = some false) {t : AFrame} (ef : finishOps A S.top S.heap undef = some t) :
    Follows A base B φ fr cs w { S with top := t } := by
  obtain ⟨i, is, k', h1, h2⟩ := Hd.at'
  exact after_head R Hd.waits (Did.same R.hr R.bnd (.tuple .nil)) ef (step_exec (R.fmode hm) (exec_finish h1 h2 (Hd.wanted hw)))

/-- an operation that calls nothing -/
theorem value_head (R : SR A base B φ S fr cs w bs bs') (hm : S.top.mode = .run) (Hd : Head φ S.top fr all o) (hw : wantedA all S.top o = some true) {v : Value} {t : AFrame} (hdef : ∀ c, o.op ≠ .defer c)
    (e : (isQuiet o.op = true ∧ quietV A (ev A S.top) S.heap o.op o.type = some v ∧ h' = S.heap) ∨ activeV A (ev A S.top) S.heap o.op o.type = some (v, h'))
    (ef : finishOps A S.top h' v = some t) : Follows A base B φ fr cs w { S with top := t, heap := h' } := by
  have hfm := R.fmode hm
  have hwc := Hd.wanted hw
  rcases e with ⟨hq, hv, rfl⟩ | hv
  · obtain ⟨v', h1, h2⟩ := quiet_sound R.hr (fun x hx => Hd.ev R.glob hx) hv
    refine after_head R Hd.waits (Did.same R.hr R.bnd h2) ef (step_exec hfm ?_)
    rw [exec_head Hd hwc (.inr hdef)]
    exact apply_gives h1 (.value _)
  · obtain ⟨nx, v', w', ψ, h1, h2, h3⟩ := active_sound R.hr R.bnd R.hB (fun x hx => Hd.ev R.glob hx) hv
    refine after_head R Hd.waits h3 ef (step_exec hfm ?_)
    rw [exec_head Hd hwc (.inr hdef)]
    exact apply_gives h1 h2

/-- a summary of a function tells what a call of it does -/
def SumOk (A : AProg) : Prop := ∀ (f : FuncId) (args : List Value) (h : AHeap) (v : Value), A.sum f args h = some v →
  (∃ fn c, A.P.funcs[f]? = some fn ∧ fn.body = some c) ∧
  ∀ (B : Nat) (φ : Ren) (w : World) (args' : Array Value) (fr : Frame) (cs : List Frame), HR B φ h w → h.next ≤ bound → B ≤ w.heap.size → Globs A φ → VRL φ args args'.toList →
    ∃ v' w', Steps A.P (lone (Frame.enter A.P f args' .normal) (fr :: cs) w) (lone (fr.finish v') cs w') ∧ VR φ v v' ∧ HR B φ h w' ∧ Below B w w'

/-- a frame is entered -/
theorem push_frame (R : SR A base B φ S fr cs w bs bs') (hw : Waits S.top fr) {t : AFrame} {fr' : Frame} (e1 : FrR φ S.heap t fr' []) (e2 : Valid A t S.heap fr' [])
    (hs : Steps A.P (lone fr cs w) (lone fr' (fr :: cs) w)) : Follows A base B φ fr cs w { S with top := t, callers := S.top :: S.callers } :=
  ⟨fr', fr :: cs, w, φ, [], bs ++ bs', hs, ⟨R.hr, R.bnd, R.hB, R.glob, e1, .cons R.top hw R.low, by simpa using R.nodup, e2⟩, Ren.le.refl φ, Below.refl _ _⟩

/-- a call of a function that is known: by a summary, by a row of the model, or of a body -/
theorem call_head (hN : NamesOk A.P) (hE : ExtOk A) (hS : SumOk A) (R : SR A base B φ S fr cs w bs bs') (hm : S.top.mode = .run) (Hd : Head φ S.top fr all o) (hw : wantedA all S.top o = some true)
    (hdef : ∀ c, o.op ≠ .defer c) {f : FuncId} {args : List Value} {args' : Array Value} (hargs : VRL φ args args'.toList) (hrun : (execOp fr.eval o).run A.P w = (callFunc f args').run A.P w)
    {S' : AState} (e : callA A S f args = some S') : Follows A base B φ fr cs w S' := by
  have hfm := R.fmode hm
  have hwc := Hd.wanted hw
  have hex := exec_head (cs := cs) (w := w) (A := A) Hd hwc (.inr hdef)
  unfold callA at e
  split at e
  · rename_i v hv
    simp only [Option.map_eq_some_iff] at e
    obtain ⟨t, ef, rfl⟩ := e
    obtain ⟨⟨fn, c, hf, hb⟩, hcall⟩ := hS f args S.heap v hv
    obtain ⟨v', w', hst, hvr, hr', hbl⟩ := hcall B φ w args' fr cs R.hr R.bnd R.hB R.glob hargs
    rw [run_callFunc hN hf hb] at hrun
    obtain ⟨i, is, k', h1, h2⟩ := Hd.at'
    have hstep : step A.P (lone fr cs w) = .next (lone (Frame.enter A.P f args' .normal) (fr :: cs) w) := by
      refine step_exec hfm ?_
      rw [hex]
      exact apply_enter h1 hrun
    obtain ⟨f1, f2⟩ := finish_any R.top Hd.waits hvr ef
    exact ⟨fr.finish v', cs, w', φ, bs, bs', .trans (.one hstep) hst, ⟨hr', R.bnd, Nat.le_trans R.hB hbl.size, R.glob, f1, R.low, R.nodup, f2⟩, Ren.le.refl φ, hbl⟩
  · split at e
    · rename_i e0 he0
      simp only [Option.bind_eq_some_iff, Option.map_eq_some_iff] at e
      obtain ⟨⟨v, h2⟩, hv, t, ef, rfl⟩ := e
      obtain ⟨fn, r, hf, hb, hn, hxn, hfd, hrow⟩ := hE f e0 he0
      obtain ⟨v', w', ψ, g1, g2⟩ := ext_sound R.hr R.bnd R.hB hf hrow hargs hv
      refine after_head R Hd.waits g2 ef (step_exec hfm ?_)
      rw [hex]
      refine apply_gives (nx := .value v') ?_ (.value _)
      rw [hrun]
      exact run_callExt hf hb hn hxn hfd g1
    · simp only [Option.map_eq_some_iff] at e
      obtain ⟨t, e, rfl⟩ := e
      obtain ⟨fn, c, hf, hb⟩ := enter_body e
      rw [run_callFunc hN hf hb] at hrun
      obtain ⟨e1, e2, e3, e4⟩ := enter_sound (h := S.heap) hargs e
      obtain ⟨i, is, k', h1, h2⟩ := Hd.at'
      refine push_frame R Hd.waits e1 (valid_plain e3) (.one (step_exec hfm ?_))
      rw [hex]
      exact apply_enter h1 hrun

end Go.Ab
end

section
namespace Go.Ab
open Go.RowKit
variable {A : AProg} {P : Program} {B : Nat} {φ ψ : Ren} {h h' : AHeap} {w w' : World}

theorem run_setO {r : Nat} {o x : Obj} (e : w.heap[r]? = some x) (hc : ∀ c t f, x ≠ .cells c t f) : (setObj r o).run P w = .ok () { w with heap := w.heap.setIfInBounds r o } := by
  have hlt := heap_lt e
  simp only [setObj, Sem.run, e]
  try (cases x <;> first | exact absurd rfl (hc _ _ _) | rfl)

theorem run_getLoop {r : Nat} {l : Loop} (e : w.heap[r]? = some (.loop l)) : (Instr.getLoop r).run P w = .ok l w := by
  unfold Instr.getLoop
  rw [run_bind_ok (run_getIter e (by intro c t f h; cases h))]
  rfl

theorem foldl_tr : ∀ (l : List (Tmp × Value)) (l' : List (Tmp × Value)) (t : T Value) (a : Array Value), l.map (·.1) = l'.map (·.1) → VRL φ (l.map (·.2)) (l'.map (·.2)) → TR φ t a →
    (∀ p ∈ l, p.1 < a.size ∧ p.1 < bound) →
    TR φ (l.foldl (fun t (p : Tmp × Value) => T.put depth t p.1 (some p.2)) t) (l'.foldl (fun (a : Array Value) (p : Tmp × Value) => a.setIfInBounds p.1 p.2) a) ∧
      (l'.foldl (fun (a : Array Value) (p : Tmp × Value) => a.setIfInBounds p.1 p.2) a).size = a.size
  | [], l', t, a, h1, _, h3, _ => by
    cases l' with
    | nil => exact ⟨h3, rfl⟩
    | cons => simp at h1
  | (p, v) :: l, [], t, a, h1, _, _, _ => by simp at h1
  | (p, v) :: l, (p', v') :: l', t, a, h1, h2, h3, h4 => by
    simp only [List.map_cons, List.cons.injEq] at h1 h2
    obtain ⟨rfl, h1⟩ := h1
    cases h2 with
    | cons hv h2 =>
    have hp := h4 (p, v) (by simp)
    simp only at hp
    obtain ⟨g1, g2⟩ := foldl_tr l l' (T.put depth t p (some v)) (a.setIfInBounds p v') h1 h2 (h3.put hp.2 hp.1 hv) (fun q hq => by
      have := h4 q (by simp [hq])
      simpa using this)
    refine ⟨g1, ?_⟩
    simp only [List.foldl_cons]
    rw [g2]
    simp

theorem zip_fst : ∀ (l : List Tmp) (m : List Value), l.length = m.length → (l.zip m).map (·.1) = l
  | [], m, _ => by simp
  | x :: l, [], h => by simp at h
  | x :: l, y :: m, h => by simp at h; simp [zip_fst l m h]
theorem zip_snd : ∀ (l : List Tmp) (m : List Value), l.length = m.length → (l.zip m).map (·.2) = m
  | [], m, h => by cases m with | nil => rfl | cons => simp at h
  | x :: l, [], h => by simp at h
  | x :: l, y :: m, h => by simp at h; simp [zip_snd l m h]

variable {base : List Frame} {S : AState} {fr : Frame} {cs : List Frame} {bs bs' : List Nat} {all : Array Oper} {o : Oper}

theorem apply_round {ops : Array Oper} {is : List Nat} {k : List Item} {s : Sem Next} {l : Nat} {f : FuncId} {tmps : Array Value} {assign body : Code} (_hfr : fr.todo = .inRegion ops is :: k)
    (hs : s.run P w = .ok (.round l f tmps assign body) w') :
    (stepG.apply P true fr cs none s w).bare = .go { frame := Frame.round l f tmps assign body .normal, callers := fr :: cs, status := .running, dying := none } w' := by
  unfold stepG.apply
  simp only [if_true, Sem.runT_eq, hs]
  simp

theorem apply_recover {s : Sem Next} (hro : fr.roundOf = none) (htr : tryRecover fr cs = none)
    (hs : s.run P w = .ok .recover w') : 
    (stepG.apply P true fr cs none s w).bare = .go { frame := fr.finish .nilIface, callers := cs, status := .running, dying := none } w' := by
  unfold stepG.apply
  simp [Sem.runT_eq, hs, hro, htr]

/-- a call of a yield: a round of the loop's body -/
theorem yield_head (R : SR A base B φ S fr cs w bs bs') (hm : S.top.mode = .run) (Hd : Head φ S.top fr all o) (hw : wantedA all S.top o = some true) (hdef : ∀ c, o.op ≠ .defer c)
    {l : Nat} {first captured : Array Value} {first' : Array Value} {i : Info} {args : List Value} {args' : Array Value} (hl : φ l = some i) (hfirst : VRL φ first.toList first'.toList)
    (hargs : VRL φ args args'.toList) (hrun : (execOp fr.eval o).run A.P w = (Instr.yield i.blk (first' ++ args')).run A.P w)
    {S' : AState} (e : invokeA A S (.func (.yield l) first captured) args = some S') : Follows A base B φ fr cs w S' := by
  have hfm := R.fmode hm
  have hwc := Hd.wanted hw
  have hex := exec_head (cs := cs) (w := w) (A := A) Hd hwc (.inr hdef)
  unfold invokeA at e
  simp only at e
  split at e
  · rename_i st pending fn nt tmps params assign body ds hg
    obtain ⟨hlen, e⟩ := cond_some e
    obtain ⟨hpar, e⟩ := cond_some e
    cases e
    have hlen : (first.toList ++ args).length = params.size := Nat.eq_of_beq_eq_true hlen
    have hobj := R.hr.obj _ _ _ hg hl
    cases hobj with
    | loop hds hsz htr hheap =>
    rename_i j arr
    have hA : VRL φ (first.toList ++ args) (first' ++ args').toList := by
      rw [Array.toList_append]; exact hfirst.append hargs
    have hlen' : (first' ++ args').toList.length = params.size := by rw [← hA.length]; exact hlen
    have hpl : params.toList.length = (first.toList ++ args).length := by simp [hlen]
    have hpl' : params.toList.length = (first' ++ args').toList.length := by rw [hlen']; simp
    have hcond : ∀ p ∈ params.toList.zip (first.toList ++ args), p.1 < arr.size ∧ p.1 < bound := by
      intro p hp
      have := (List.of_mem_zip hp).1
      rw [List.all_eq_true] at hpar
      have := hpar _ this
      simpa [Nat.blt_eq, hsz] using this
    obtain ⟨g1, g2⟩ := foldl_tr (φ := φ) (params.toList.zip (first.toList ++ args)) (params.toList.zip (first' ++ args').toList) tmps arr (by rw [zip_fst _ _ hpl, zip_fst _ _ hpl'])
      (by rw [zip_snd _ _ hpl, zip_snd _ _ hpl']; exact hA) htr hcond
    have hrun2 : (execOp fr.eval o).run A.P w = .ok (.round i.blk fn ((params.toList.zip (first' ++ args').toList).foldl (fun (a : Array Value) (p : Tmp × Value) => a.setIfInBounds p.1 p.2) arr) assign body) w := by
      rw [hrun]
      unfold Instr.yield
      rw [run_bind_ok (run_getLoop hheap)]
      have hsz' : (first' ++ args').size = params.size := by simpa using hlen'
      simp only [hsz', ne_eq, not_true_eq_false, if_false]
      rw [← Array.foldl_toList, Array.toList_zip]
      rfl
    obtain ⟨ii, is, k', h1, h2⟩ := Hd.at'
    refine push_frame R Hd.waits (fr' := Frame.round i.blk fn ((params.toList.zip (first' ++ args').toList).foldl (fun (a : Array Value) (p : Tmp × Value) => a.setIfInBounds p.1 p.2) arr) assign body .normal) ?_ ?_ (.one (step_exec hfm ?_))
    · have hi : IRL φ [.code assign, .beginRound, .code body] [.code assign, .beginRound, .code body] := .cons (.code _) (.cons .beginRound (.cons (.code _) .nil))
      refine ⟨rfl, ?_, .run, rfl, .nil, .some hl, .plain g1 hi, .inl rfl⟩
      simp only [Frame.round]
      rw [g2, hsz]
    · exact valid_plain (φ := φ) (.cons (.code _) (.cons .beginRound (.cons (.code _) .nil)))
    · rw [hex]
      exact apply_round h1 hrun2
  · cases e

/-- one operation of the top frame -/
theorem oper_head (hN : NamesOk A.P) (hE : ExtOk A) (hS : SumOk A) (R : SR A base B φ S fr cs w bs bs') (hm : S.top.mode = .run) (Hd : Head φ S.top fr all o) (hw : wantedA all S.top o = some true)
    {S' : AState} (e : operA A S o = some S') : Follows A base B φ fr cs w S' := by
  have hfm := R.fmode hm
  have hwc := Hd.wanted hw
  have hro : ∀ {x}, S.top.roundOf = x → x = none → fr.roundOf = none := by
    intro x h1 h2
    have := R.top.round
    rw [h1, h2] at this
    generalize fr.roundOf = q at this
    cases this; rfl
  unfold operA at e
  dsimp only at e
  split at e
  · -- a call
    rename_i x args ats ho
    have hdef : ∀ c, o.op ≠ .defer c := fun c hc => by rw [ho] at hc; cases hc
    have hx := Hd.ev R.glob (x := x) (by rw [ho]; simp [Op.operands, Call.operands])
    have hargs : VRL φ (args.toList.map (ev A S.top)) (args.map fr.eval).toList := by
      rw [Array.toList_map]
      exact vrl_map fun y hy => Hd.ev R.glob (by rw [ho]; simp [Op.operands, Call.operands] at hy ⊢; exact .inr hy)
    cases hv : ev A S.top x with
    | func fn first captured =>
      rw [hv] at e hx
      obtain ⟨fn', a', c', hx', hF, h1, h2⟩ := hx.func_inv
      cases hF with
      | func f =>
        refine call_head hN hE hS R hm Hd hw hdef (args := first.toList ++ args.toList.map (ev A S.top) ++ captured.toList) (args' := a' ++ args.map fr.eval ++ c') ?_ (run_call ho hx') e
        rw [Array.toList_append, Array.toList_append]
        exact (h1.append hargs).append h2
      | yield hl =>
        refine yield_head R hm Hd hw hdef hl h1 hargs ?_ e
        unfold execOp
        rw [ho]
        simp only [resolve, Deferred.ofValue, hx']
        rw [run_bind_ok (run_pure _ _)]
        rfl
    | _ => rw [hv] at e; cases e
  · -- recover
    rename_i args ats ho
    have hdef : ∀ c, o.op ≠ .defer c := fun c hc => by rw [ho] at hc; cases hc
    have hex := exec_head (cs := cs) (w := w) (A := A) Hd hwc (.inr hdef)
    have hrun : (execOp fr.eval o).run A.P w = .ok .recover w := by
      unfold execOp
      rw [ho]
      rfl
    split at e
    · rename_i h1 h2
      simp only [Option.map_eq_some_iff] at e
      obtain ⟨t, ef, rfl⟩ := e
      have htr : tryRecover fr cs = none := by
        unfold tryRecover
        rw [R.top.kind, h2]
      refine after_head R Hd.waits (Did.same R.hr R.bnd .nilIface) ef (step_exec hfm ?_)
      rw [hex]
      exact apply_recover (hro rfl h1) htr hrun
    · rename_i c rest h1 h2 h3
      split at e
      · cases e
      · rename_i hnp
        simp only [Option.map_eq_some_iff] at e
        obtain ⟨t, ef, rfl⟩ := e
        have htr : tryRecover fr cs = none := by
          have hlow := R.low
          rw [h3] at hlow
          obtain ⟨frc, csr, b1, b2, rfl, rfl, g1, _, g2⟩ := hlow.cons_inv
          unfold tryRecover
          rw [R.top.kind, h2]
          have hmm := g1.mode
          have hnp' : ∀ x, frc.mode ≠ .panicking x := by
            intro x hx
            rw [hx] at hmm
            generalize hcm : c.mode = cm at hmm
            cases hmm with | panicking hp => exact hnp _ hcm
          cases hfmode : frc.mode with
          | run => simp [hfmode]
          | returning => simp [hfmode]
          | panicking x => exact absurd hfmode (hnp' x)
        refine after_head R Hd.waits (Did.same R.hr R.bnd .nilIface) ef (step_exec hfm ?_)
        rw [hex]
        exact apply_recover (hro rfl h1) htr hrun
    · cases e
  · -- defer
    rename_i x args ats ho
    split at e
    · rename_i fn first captured h1 hv
      simp only [Option.map_eq_some_iff] at e
      obtain ⟨t, ef, rfl⟩ := e
      have hx := Hd.ev R.glob (x := x) (by rw [ho]; simp [Op.operands, Call.operands])
      have hargs : VRL φ (args.toList.map (ev A S.top)) (args.map fr.eval).toList := by
        rw [Array.toList_map]
        exact vrl_map fun y hy => Hd.ev R.glob (by rw [ho]; simp [Op.operands, Call.operands] at hy ⊢; exact .inr hy)
      rw [hv] at hx
      obtain ⟨fn', a', c', hx', hF, g1, g2⟩ := hx.func_inv
      let d : Deferred := { target := .fn fn' c', args := a' ++ args.map fr.eval }
      have hrun : (execOp fr.eval o).run A.P w = .ok (.defer d) w := by
        unfold execOp
        rw [ho]
        simp only [resolve, Deferred.ofValue, hx']
        rfl
      have hd : DRL φ ({ target := .fn fn captured, args := ⟨first.toList ++ args.toList.map (ev A S.top)⟩ } :: S.top.defers) (d :: fr.defers) := by
        refine .cons ⟨.fn hF g2, ?_⟩ R.top.defers
        simp only [d, Array.toList_append]
        exact g1.append hargs
      have hf0 : FrR φ S.heap { S.top with defers := { target := .fn fn captured, args := ⟨first.toList ++ args.toList.map (ev A S.top)⟩ } :: S.top.defers } { fr with defers := d :: fr.defers } bs :=
        ⟨R.top.fn, R.top.nt, R.top.mode, R.top.kind, hd, R.top.round, R.top.todo, R.top.tr⟩
      obtain ⟨f1, f2⟩ := finish_any hf0 Hd.waits (.tuple .nil) ef
      refine ⟨_, cs, w, φ, bs, bs', .one (step_exec hfm ?_), ⟨R.hr, R.bnd, R.hB, R.glob, f1, R.low, R.nodup, f2⟩, Ren.le.refl φ, Below.refl _ _⟩
      rw [exec_head Hd hwc (.inl (hro rfl h1))]
      exact apply_skip hrun
    · cases e
  · rename_i op h1 h2 h3
    have hdef : ∀ c, o.op ≠ .defer c := by
      intro c hc
      obtain ⟨ce, ar, at'⟩ := c
      cases ce with
      | value x => exact h3 _ _ _ hc
      | builtin b =>
        rw [hc] at e
        simp [isQuiet, activeV] at e
      | invoke r n =>
        rw [hc] at e
        simp [isQuiet, activeV] at e
    cases hq : isQuiet o.op with
    | true =>
      rw [hq] at e
      simp only [cond_true, Option.bind_eq_some_iff, Option.map_eq_some_iff] at e
      obtain ⟨v, hv, t, ef, rfl⟩ := e
      exact value_head R hm Hd hw hdef (.inl ⟨hq, hv, rfl⟩) ef
    | false =>
      rw [hq] at e
      simp only [cond_false, Option.bind_eq_some_iff, Option.map_eq_some_iff] at e
      obtain ⟨⟨v, h2⟩, hv, t, ef, rfl⟩ := e
      exact value_head R hm Hd hw hdef (.inr hv) ef

end Go.Ab
end

section
namespace Go.Ab
open Go.RowKit
variable {A : AProg} {P : Program} {B : Nat} {φ ψ : Ren} {h h' : AHeap} {w w' : World}

theorem nodup_mid {l1 l2 : List Nat} {x : Nat} (h : (l1 ++ x :: l2).Nodup) : x ∉ l1 ++ l2 ∧ (l1 ++ l2).Nodup := by
  rw [List.nodup_append] at h
  obtain ⟨h1, h2, h3⟩ := h
  rw [List.nodup_cons] at h2
  refine ⟨?_, ?_⟩
  · intro hx
    rcases List.mem_append.mp hx with hh | hh
    · exact h3 x hh x (by simp) rfl
    · exact h2.1 hh
  · rw [List.nodup_append]
    exact ⟨h1, h2.2, fun a ha b hb => h3 a ha b (by simp [hb])⟩

theorem ready_spec {all : Array Oper} {left : List (Nat × Oper)} {i : Nat} : ready all left i = true ↔ ∀ j p, (j, p) ∈ left → (bf all i).testBit j = false := by
  unfold ready bf
  simp only [Bool.not_eq_true', List.any_eq_false, Prod.forall, Bool.not_eq_true]

theorem take_some {all : Array Oper} {left : List (Nat × Oper)} : ∀ {l l' : List (Nat × Oper)} {i : Nat} {o : Oper}, takeReady all left l = some ((i, o), l') →
    isEager o.op = true ∧ ready all left i = true ∧ ∃ l1 l2, l = l1 ++ (i, o) :: l2 ∧ l' = l1 ++ l2
  | [], l', i, o, e => by simp [takeReady] at e
  | (j, p) :: l, l', i, o, e => by
    unfold takeReady at e
    cases hc : (isEager p.op && ready all left j) with
    | true =>
      rw [hc, cond_true] at e
      cases e
      simp only [Bool.and_eq_true] at hc
      exact ⟨hc.1, hc.2, [], l, rfl, rfl⟩
    | false =>
      rw [hc, cond_false] at e
      simp only [Option.map_eq_some_iff] at e
      obtain ⟨⟨x, l2⟩, h1, e⟩ := e
      cases e
      obtain ⟨g1, g2, l1, l3, g3, g4⟩ := take_some h1
      exact ⟨g1, g2, (j, p) :: l1, l3, by simp [g3], by simp [g4]⟩

theorem take_none {all : Array Oper} {left : List (Nat × Oper)} : ∀ {l : List (Nat × Oper)}, takeReady all left l = none → ∀ i o, (i, o) ∈ l → isEager o.op = true → ready all left i = false
  | [], _, i, o, hm, _ => by cases hm
  | (j, p) :: l, e, i, o, hm, he => by
    unfold takeReady at e
    cases hc : (isEager p.op && ready all left j) with
    | true => rw [hc, cond_true] at e; cases e
    | false =>
      rw [hc, cond_false] at e
      simp only [Option.map_eq_none_iff] at e
      rcases List.mem_cons.mp hm with hh | hh
      · cases hh
        rw [he, Bool.true_and] at hc
        exact hc
      · exact take_none e i o hh he

theorem wantedA_agree {all : Array Oper} {f f' : AFrame} {o : Oper} (hg : ∀ j want oj d, o.guard = some (j, want) → all[j]? = some oj → oj.dst = some d → f'.tmps.get d = f.tmps.get d) :
    wantedA all f' o = wantedA all f o := by
  unfold wantedA
  cases hgu : o.guard with
  | none => rfl
  | some jw =>
    obtain ⟨j, want⟩ := jw
    simp only
    cases hj : all.toList[j]? with
    | none => rfl
    | some oj =>
      simp only
      cases hd : oj.dst with
      | none => rfl
      | some d =>
        simp only
        rw [hg j want oj d hgu (by simpa using hj) hd]

theorem ev_agree {f f' : AFrame} {o : Oper} (hn : ∀ t, t ∈ namesOf o → f'.tmps.get t = f.tmps.get t) : ∀ x ∈ o.op.operands.toList, ev A f' x = ev A f x := by
  intro x hx
  cases x with
  | tmp t =>
    have := hn t (List.mem_filterMap.mpr ⟨.tmp t, hx, rfl⟩)
    simp only [ev, this]
  | const v => rfl
  | global g => rfl
  | func f => rfl

theorem still_put {all : Array Oper} {f f' : AFrame} {o : Oper} {bs bs2 : List Nat} (hst : Still A f h all bs o) (hs : h.sub h') (hb : ∀ b, b ∈ bs → b ∈ bs2)
    (hn : ∀ t, t ∈ namesOf o → f'.tmps.get t = f.tmps.get t) (hd : ∀ d, o.dst = some d → f'.tmps.get d = f.tmps.get d)
    (hg : ∀ j want oj d, o.guard = some (j, want) → all[j]? = some oj → oj.dst = some d → f'.tmps.get d = f.tmps.get d) : Still A f' h' all bs2 o := by
  cases hst with
  | no a1 a2 => exact .no (by rw [wantedA_agree hg]; exact a1) fun d hdd => by rw [hd d hdd]; exact a2 d hdd
  | quiet a1 a2 a3 a4 => exact .quiet (by rw [wantedA_agree hg]; exact a1) a2 (quietV_sub hs (ev_agree hn) a3) fun d hdd => by rw [hd d hdd]; exact a4 d hdd
  | fresh a1 a2 a3 a4 a5 a6 a7 => exact .fresh (by rw [wantedA_agree hg]; exact a1) a2 a3 (by rw [freshV_agree (ev_agree hn)]; exact a4) (by rw [hd _ a3]; exact a5) (hs _ _ a6) (hb _ a7)

/-- a block that is made, and has no address yet -/
theorem HR.free (H : HR B φ h w) {o : AObj} {b : Nat} (hnew : h.new o = some (b, h')) : HR B φ h' w ∧ h.sub h' ∧ φ b = none ∧ b = h.next ∧ h'.next = h.next + 1 ∧ h'.get b = some o ∧ h'.next ≤ bound := by
  obtain ⟨rfl, hlt, hnx, get⟩ := AHeap.new_eq hnew
  have hfree : φ h.next = none := by
    cases e : φ h.next with
    | none => rfl
    | some j => exact absurd (H.fresh _ _ e) (Nat.lt_irrefl _)
  have old : ∀ c p i, h'.get c = some p → φ c = some i → h.get c = some p := by
    intro c p i e ei
    rw [get] at e
    by_cases hc : c = h.next
    · subst hc; rw [hfree] at ei; cases ei
    · rwa [if_neg hc] at e
  refine ⟨⟨?_, ?_, H.inW, ?_, ?_, ?_⟩, ?_, hfree, rfl, hnx, by rw [get, if_pos rfl], by omega⟩
  · intro c i e; rw [hnx]; exact Nat.lt_succ_of_lt (H.fresh _ _ e)
  · intro c p e
    rw [get] at e; rw [hnx]
    by_cases hc : c = h.next
    · omega
    · rw [if_neg hc] at e; exact Nat.lt_succ_of_lt (H.live _ _ e)
  · intro c p i e ei; exact H.obj c p i (old c p i e ei) ei
  · intro c p i e ei hr; exact H.own c p i (old c p i e ei) ei hr
  · intro c d p q i j e f ei ej hr hcd; exact H.sep c d p q i j (old c p i e ei) (old d q j f ej) ei ej hr hcd
  · intro c p e
    rw [get]
    by_cases hc : c = h.next
    · subst hc; exact absurd (H.live _ _ e) (Nat.lt_irrefl _)
    · rw [if_neg hc]; exact e

theorem AHeap.sub_refl (h : AHeap) : h.sub h := fun _ _ e => e

/-- what `eagerV` gives -/
theorem eager_inv {f : AFrame} {o : Oper} {all : Array Oper} {c : Bool} {v : Value} (H : HR B φ h w) (hn : h.next ≤ bound) (hw : wantedA all f o = some c)
    (e : cond c (eagerV A (ev A f) h o.op o.type) (some (undef, h)) = some (v, h')) :
    HR B φ h' w ∧ h'.next ≤ bound ∧ h.sub h' ∧ h.next ≤ h'.next ∧
    ((h' = h ∧ ((wantedA all f o = some false ∧ v = undef) ∨ (wantedA all f o = some true ∧ isQuiet o.op = true ∧ quietV A (ev A f) h o.op o.type = some v))) ∨
     (wantedA all f o = some true ∧ isQuiet o.op = false ∧ ∃ obj g b, freshV A (ev A f) o.op = some (obj, g) ∧ v = g b ∧ h'.get b = some obj ∧ φ b = none ∧ b = h.next ∧ h'.next = h.next + 1)) := by
  cases c with
  | false =>
    simp only [cond_false, Option.some.injEq, Prod.mk.injEq] at e
    obtain ⟨rfl, rfl⟩ := e
    exact ⟨H, hn, h.sub_refl, Nat.le_refl _, .inl ⟨rfl, .inl ⟨hw, rfl⟩⟩⟩
  | true =>
    simp only [cond_true] at e
    unfold eagerV at e
    cases hq : isQuiet o.op with
    | true =>
      rw [hq, cond_true] at e
      simp only [Option.map_eq_some_iff, Prod.mk.injEq] at e
      obtain ⟨u, hu, rfl, rfl⟩ := e
      exact ⟨H, hn, h.sub_refl, Nat.le_refl _, .inl ⟨rfl, .inr ⟨hw, rfl, hu⟩⟩⟩
    | false =>
      rw [hq, cond_false] at e
      simp only [Option.bind_eq_some_iff, Option.map_eq_some_iff] at e
      obtain ⟨⟨obj, g⟩, hf, ⟨b, h2⟩, hnew, e⟩ := e
      simp only [Prod.mk.injEq] at e
      obtain ⟨rfl, rfl⟩ := e
      obtain ⟨g1, g2, g3, g4, g5, g6, g7⟩ := H.free hnew
      exact ⟨g1, g7, g2, by omega, .inr ⟨hw, rfl, obj, g, b, hf, rfl, g6, g3, g4, g5⟩⟩

variable {base : List Frame} {S : AState} {fr : Frame} {cs : List Frame} {bs bs' : List Nat} {all : Array Oper} {o : Oper}

theorem SR.draw (R : SR A base B φ S fr cs w bs bs') {left quiet : List (Nat × Oper)} {k : List AItem} (htd : S.top.todo = .draw all left quiet :: k) :
    ∃ is k', fr.todo = .inRegion all is :: k' ∧ DrR φ S.heap S.top.tmps fr.tmps all left quiet is bs ∧ IRL φ k k' := by
  have htodo := R.top.todo
  rw [htd] at htodo
  generalize hC : fr.todo = tc at htodo
  cases htodo with
  | plain _ hi => cases hi with | cons hx _ => cases hx
  | draw D hk => exact ⟨_, _, rfl, D, hk⟩

/-- the abstract machine does an operation ahead of time -/
theorem eager_step (R : SR A base B φ S fr cs w bs bs') (hm : S.top.mode = .run) {left quiet left' : List (Nat × Oper)} {k : List AItem} (htd : S.top.todo = .draw all left quiet :: k) {i : Nat}
    (ht : takeReady all left left = some ((i, o), left')) {c : Bool} (hw : wantedA all S.top o = some c) {v : Value}
    (hv : cond c (eagerV A (ev A S.top) S.heap o.op o.type) (some (undef, S.heap)) = some (v, h')) {f : AFrame} (hp : S.top.put o.dst v = some f) :
    ∃ bs2, SR A base B φ { S with top := { f with todo := .draw all left' ((i, o) :: quiet) :: k }, heap := h' } fr cs w bs2 bs' := by
  obtain ⟨is, k', hfr, D, hk⟩ := R.draw htd
  have Q := dr_of D.ok
  obtain ⟨heag, hrdy, l1, l2, hl, hl'⟩ := take_some ht
  rw [ready_spec] at hrdy
  have himem : (i, o) ∈ left := by rw [hl]; simp
  obtain ⟨hoi, hii⟩ := D.lft i o himem
  obtain ⟨p1, p2, p3⟩ := put_get hp
  obtain ⟨HR', hbnd, hsub, hnext, hcase⟩ := eager_inv R.hr R.bnd hw hv
  have hsubl : ∀ j p, (j, p) ∈ left' → (j, p) ∈ left := by
    intro j p hj; rw [hl'] at hj; rw [hl]; simp only [List.mem_append, List.mem_cons] at hj ⊢; rcases hj with hj | hj <;> simp [hj]
  have hnotin : ∀ p, (i, p) ∉ left' := by
    intro p hp
    have hnd := D.nd
    rw [hl] at hnd
    simp only [List.map_append, List.map_cons] at hnd
    apply (nodup_mid hnd).1
    rw [hl'] at hp
    rw [← List.map_append]
    exact List.mem_map.mpr ⟨(i, p), hp, rfl⟩
  have hnd' : (left'.map (·.1)).Nodup := by
    have hnd := D.nd
    rw [hl] at hnd
    simp only [List.map_append, List.map_cons] at hnd
    rw [hl', List.map_append]
    exact (nodup_mid hnd).2
  have hqi : ∀ j p, (j, p) ∈ quiet → j ≠ i := by
    intro j p hj hji
    subst hji
    exact (D.qt j p hj).2.2 o himem
  -- what was done before keeps its place
  have hkeep : ∀ j p d, (j, p) ∈ quiet → p.dst = some d → f.tmps.get d = S.top.tmps.get d := by
    intro j p d hj hd
    rw [p1, if_neg]
    exact (Q.eager (D.qt j p hj).1 hoi (hqi j p hj) (D.qt j p hj).2.1 hd).1
  have hself : ∀ d, o.dst = some d → f.tmps.get d = some v := by
    intro d hd; rw [p1, if_pos hd]
  -- the blocks that have no address
  obtain ⟨bs2, hbs2, hnew, hnod, hown, hblk⟩ : ∃ bs2 : List Nat, (∀ b, b ∈ bs → b ∈ bs2) ∧ (∀ b, b ∈ bs2 → φ b = none ∧ b < h'.next) ∧ (bs2 ++ bs').Nodup ∧
      (isQuiet o.op = false → v = undef ∨ ∃ b, blockOf v = some b ∧ b ∈ bs2 ∧ b = S.heap.next) ∧
      Still A { f with todo := .draw all left' ((i, o) :: quiet) :: k } h' all bs2 o := by
    have hnm : ∀ t, t ∈ namesOf o → f.tmps.get t = S.top.tmps.get t := by
      intro t htn
      rw [p1, if_neg]
      intro hd
      exact Q.self hoi heag hd htn
    have hgd : ∀ j want oj d, o.guard = some (j, want) → all[j]? = some oj → oj.dst = some d → f.tmps.get d = S.top.tmps.get d := by
      intro j want oj d hg hj hd
      rw [p1, if_neg]
      intro hod
      have hbit := Q.guard hoi hg
      have hlt := Q.lt hbit (by
        rcases Nat.lt_or_ge i all.size with hh | hh
        · exact hh
        · rw [Array.getElem?_eq_none hh] at hoi; cases hoi)
      exact (Q.eager hoi hj (by omega) heag hod).1 hd
    rcases hcase with ⟨rfl, hc⟩ | ⟨hwt, hq, obj, g, b, hfv, rfl, hget, hfree, hbn, hnx⟩
    · refine ⟨bs, fun b hb => hb, fun b hb => D.new b hb, R.nodup, ?_, ?_⟩
      · intro hq
        rcases hc with ⟨_, hv⟩ | ⟨_, hq', _⟩
        · exact .inl hv
        · rw [hq] at hq'; cases hq'
      · rcases hc with ⟨hwf, hv⟩ | ⟨hwt, hq', hqv⟩
        · exact .no (by rw [show wantedA all { f with todo := .draw all left' ((i, o) :: quiet) :: k } o = wantedA all f o from rfl, wantedA_agree hgd]; exact hwf) fun d hd => by rw [← hv]; exact hself d hd
        · exact .quiet (by rw [show wantedA all { f with todo := .draw all left' ((i, o) :: quiet) :: k } o = wantedA all f o from rfl, wantedA_agree hgd]; exact hwt) hq'
            (quietV_sub (AHeap.sub_refl _) (ev_agree (f := S.top) (f' := { f with todo := .draw all left' ((i, o) :: quiet) :: k }) hnm) hqv) fun d hd => hself d hd
    · refine ⟨b :: bs, fun b hb => by simp [hb], ?_, ?_, ?_, ?_⟩
      · intro b' hb'
        rcases List.mem_cons.mp hb' with hh | hh
        · subst hh; exact ⟨hfree, by omega⟩
        · exact ⟨(D.new b' hh).1, Nat.lt_of_lt_of_le (D.new b' hh).2 hnext⟩
      · rw [List.cons_append, List.nodup_cons]
        refine ⟨?_, R.nodup⟩
        intro hb
        rcases List.mem_append.mp hb with hh | hh
        · have := (D.new b hh).2; omega
        · have := (R.low.new b hh).2; omega
      · intro _
        exact .inr ⟨b, freshV_block hfv b, by simp, hbn⟩
      · obtain ⟨d, hd⟩ := Q.dst hoi heag hq
        exact .fresh (by rw [show wantedA all { f with todo := .draw all left' ((i, o) :: quiet) :: k } o = wantedA all f o from rfl, wantedA_agree hgd]; exact hwt) hq hd
          (by rw [freshV_agree (ev_agree (f := S.top) (f' := { f with todo := .draw all left' ((i, o) :: quiet) :: k }) hnm)]; exact hfv) (hself d hd) hget (by simp)
  have hD : DrR φ h' f.tmps fr.tmps all left' ((i, o) :: quiet) is bs2 := by
    refine ⟨D.ok, D.ord, hnd', fun j p hj => D.lft j p (hsubl j p hj), ?_, ?_, ?_, ?_, ?_, hnew, ?_, ?_⟩
    · intro j p hj
      rcases List.mem_cons.mp hj with hh | hh
      · cases hh; exact ⟨hoi, heag, hnotin⟩
      · exact ⟨(D.qt j p hh).1, (D.qt j p hh).2.1, fun p' hp' => (D.qt j p hh).2.2 p' (hsubl j p' hp')⟩
    · intro j p i' o' hj hi'
      rcases List.mem_cons.mp hj with hh | hh
      · cases hh; exact hrdy i' o' (hsubl i' o' hi')
      · exact D.rdy j p i' o' hh (hsubl i' o' hi')
    · intro j p d hj hd
      rcases List.mem_cons.mp hj with hh | hh
      · cases hh; rw [R.top.nt]; exact p3 d hd
      · exact D.lt j p d hh hd
    · intro j hj
      obtain ⟨p, hp' | hp'⟩ := D.both j hj
      · rw [hl] at hp'
        simp only [List.mem_append, List.mem_cons] at hp'
        rcases hp' with hh | hh | hh
        · exact ⟨p, .inl (by rw [hl']; simp [hh])⟩
        · exact ⟨p, .inr (by simp [hh])⟩
        · exact ⟨p, .inl (by rw [hl']; simp [hh])⟩
      · exact ⟨p, .inr (by simp [hp'])⟩
    · intro t u hu
      rw [p1] at hu
      by_cases hd : o.dst = some t
      · exact .inl ⟨i, o, by simp, hii, hd⟩
      · rw [if_neg hd] at hu
        rcases D.tr t u hu with ⟨j, p, hj, hji, hjd⟩ | hh
        · exact .inl ⟨j, p, by simp [hj], hji, hjd⟩
        · exact .inr hh
    · intro j p d hj hji hn hd
      rcases List.mem_cons.mp hj with hh | hh
      · cases hh
        rw [hself d hd]
        rcases hown hn with hv0 | ⟨b, hb1, hb2, _⟩
        · exact .inl (by rw [hv0])
        · exact .inr ⟨v, b, rfl, hb1, hb2⟩
      · rw [hkeep j p d hh hd]
        rcases D.frs j p d hh hji hn hd with hh2 | ⟨u, b, g1, g2, g3⟩
        · exact .inl hh2
        · exact .inr ⟨u, b, g1, g2, hbs2 b g3⟩
    · have hmix : ∀ j p d u d' u' b, (j, p) ∈ quiet → j ∈ is → isQuiet p.op = false → p.dst = some d → f.tmps.get d = some u → blockOf u = some b →
          isQuiet o.op = false → o.dst = some d' → f.tmps.get d' = some u' → blockOf u' = some b → False := by
        intro j p d u d' u' b hj hji hn hd hu hb hn2 hd2 hu2 hb2
        rw [hkeep j p d hj hd] at hu
        rw [hself d' hd2] at hu2
        cases hu2
        rcases D.frs j p d hj hji hn hd with hh | ⟨u3, b3, g1, g2, g3⟩
        · rw [hu] at hh; cases hh; cases hb
        · rw [hu] at g1; cases g1
          rw [hb] at g2; cases g2
          have hlt := (D.new b g3).2
          rcases hown hn2 with hv0 | ⟨b4, q1, _, q3⟩
          · subst hv0; cases hb2
          · rw [hb2] at q1; cases q1; omega
      intro j p d u j' p' d' u' b hj hji hn hd hu hb hj2 hji2 hn2 hd2 hu2 hb2
      rcases List.mem_cons.mp hj with hh | hh
      · cases hh
        rcases List.mem_cons.mp hj2 with hh2 | hh2
        · cases hh2; rfl
        · exact (hmix j' p' d' u' d u b hh2 hji2 hn2 hd2 hu2 hb2 hn hd hu hb).elim
      · rcases List.mem_cons.mp hj2 with hh2 | hh2
        · cases hh2; exact (hmix j p d u d' u' b hh hji hn hd hu hb hn2 hd2 hu2 hb2).elim
        · rw [hkeep j p d hh hd] at hu
          rw [hkeep j' p' d' hh2 hd2] at hu2
          exact D.inj j p d u j' p' d' u' b hh hji hn hd hu hb hh2 hji2 hn2 hd2 hu2 hb2
  refine ⟨bs2, ⟨HR', hbnd, R.hB, R.glob, ?_, R.low.mono (Ren.le.refl φ) (fun _ _ => rfl) hnext, hnod, ?_⟩⟩
  · refine ⟨?_, ?_, ?_, ?_, ?_, ?_, ?_, ?_⟩
    · simp only; rw [p2]; exact R.top.fn
    · simp only; rw [p2]; exact R.top.nt
    · simp only; rw [p2]; exact R.top.mode
    · simp only; rw [p2]; exact R.top.kind
    · simp only; rw [p2]; exact R.top.defers
    · simp only; rw [p2]; exact R.top.round
    · simp only; rw [hfr]; exact .draw hD hk
    · left; simp only; rw [p2]; exact hm
  · intro _ all2 left2 quiet2 k2 is2 k2' h1 h2 j p hj hji
    simp only [List.cons.injEq, AItem.draw.injEq] at h1
    obtain ⟨⟨rfl, rfl, rfl⟩, rfl⟩ := h1
    rw [hfr] at h2
    simp only [List.cons.injEq, Item.inRegion.injEq, true_and] at h2
    obtain ⟨rfl, rfl⟩ := h2
    rcases List.mem_cons.mp hj with hh | hh
    · cases hh; exact hblk
    · have hold := R.valid hm _ _ _ _ _ _ htd hfr j p hh hji
      have hjd := D.qt j p hh
      refine still_put hold hsub hbs2 ?_ ?_ ?_
      · intro t htn
        simp only
        rw [p1, if_neg]
        intro hd
        have := (Q.eager hoi hjd.1 (Ne.symm (hqi j p hh)) heag hd).2.1 htn
        have h2 := D.rdy j p i o hh himem
        unfold bf at this
        rw [this] at h2; cases h2
      · intro d hd
        exact hkeep j p d hh hd
      · intro g want og d hg hog hd
        simp only
        rw [p1, if_neg]
        intro hod
        by_cases hgi : g = i
        · subst hgi
          have := (Q.eager hoi hjd.1 (Ne.symm (hqi j p hh)) heag hod).2.2 want hg
          have h2 := D.rdy j p g o hh himem
          unfold bf at this
          rw [this] at h2; cases h2
        · exact (Q.eager hoi hog (Ne.symm hgi) heag hod).1 hd

end Go.Ab
end

section
namespace Go.Ab
open Go.RowKit
variable {A : AProg} {P : Program} {B : Nat} {φ ψ : Ren} {h h' : AHeap} {w w' : World}
variable {base : List Frame} {S : AState} {fr : Frame} {cs : List Frame} {bs bs' : List Nat} {all : Array Oper} {o : Oper}

theorem Ord.inv {j : Nat} {is : List Nat} (h : Ord all (j :: is)) : j < all.size ∧ j ∉ is ∧ (∀ b, b ∈ is → (bf all j).testBit b = false) ∧ Ord all is := by
  cases h with
  | cons h1 h2 h3 h4 => exact ⟨h1, h2, h3, h4⟩

/-- at what is pending the operands are known -/
theorem pend_head {tmps : T Value} {arr : Array Value} {left quiet : List (Nat × Oper)} {j : Nat} {is : List Nat} {p : Oper} (D : DrR φ h tmps arr all left quiet (j :: is) bs) (hpj : all[j]? = some p)
    (hself : isEager p.op = true ∨ (j, p) ∈ left) :
    (∀ t v, t ∈ namesOf p → tmps.get t = some v → ∃ v', arr[t]? = some v' ∧ VR φ v v') ∧
    (∀ g want og d v, p.guard = some (g, want) → all[g]? = some og → og.dst = some d → tmps.get d = some v → ∃ v', arr[d]? = some v' ∧ VR φ v v') := by
  have Q := dr_of D.ok
  obtain ⟨hjs, hjn, hbf, hord⟩ := D.ord.inv
  have hno : ∀ j0 p0, (j0, p0) ∈ quiet → j0 ∈ j :: is → j0 ≠ j → (bf all j).testBit j0 = false := by
    intro j0 p0 _ hj0 hne
    rcases List.mem_cons.mp hj0 with hh | hh
    · exact absurd hh hne
    · exact hbf j0 hh
  constructor
  · intro t v htn hv
    rcases D.tr t v hv with ⟨j0, p0, hj0, hji, hd⟩ | hh
    · exfalso
      obtain ⟨hp0, he0, hnl⟩ := D.qt j0 p0 hj0
      by_cases hjj : j0 = j
      · subst hjj
        rw [hpj] at hp0; cases hp0
        rcases hself with hs | hs
        · exact Q.self hpj hs hd htn
        · exact hnl _ hs
      · have := (Q.eager hp0 hpj hjj he0 hd).2.1 htn
        rw [hno j0 p0 hj0 hji hjj] at this; cases this
    · exact hh
  · intro g want og d v hg hog hd hv
    rcases D.tr d v hv with ⟨j0, p0, hj0, hji, hd0⟩ | hh
    · exfalso
      obtain ⟨hp0, he0, hnl⟩ := D.qt j0 p0 hj0
      have hbit := Q.guard hpj hg
      have hlt := Q.lt hbit hjs
      by_cases hgj : j0 = g
      · subst hgj
        rw [hno j0 p0 hj0 hji (by omega)] at hbit; cases hbit
      · exact (Q.eager hp0 hog hgj he0 hd0).1 hd
    · exact hh

/-- the concrete machine does what is pending -/
theorem pend_one (R : SR A base B φ S fr cs w bs bs') (hm : S.top.mode = .run) {left quiet : List (Nat × Oper)} {k : List AItem} (htd : S.top.todo = .draw all left quiet :: k) {j : Nat} {is : List Nat} {k' : List Item} {p : Oper}
    (hfr : fr.todo = .inRegion all (j :: is) :: k') (hj : (j, p) ∈ quiet) :
    ∃ fr' w' ψ bs2, step A.P (lone fr cs w) = .next (lone fr' cs w') ∧ SR A base B ψ S fr' cs w' bs2 bs' ∧ φ.le ψ ∧ Below B w w' ∧ fr'.todo = .inRegion all is :: k' := by
  obtain ⟨is0, k0, hfr0, D, hk⟩ := R.draw htd
  rw [hfr] at hfr0
  simp only [List.cons.injEq, Item.inRegion.injEq, true_and] at hfr0
  obtain ⟨rfl, rfl⟩ := hfr0
  have Q := dr_of D.ok
  obtain ⟨hjs, hjn, hbf, hord⟩ := D.ord.inv
  obtain ⟨hpj, hpe, hpl⟩ := D.qt j p hj
  obtain ⟨hop, hgu⟩ := pend_head D hpj (.inl hpe)
  have hfm := R.fmode hm
  have hev : ∀ x ∈ p.op.operands.toList, VR φ (ev A S.top x) (fr.eval x) := by
    intro x hx
    refine ev_sound R.glob fun t v e hv => hop t v ?_ hv
    subst e
    exact List.mem_filterMap.mpr ⟨.tmp t, hx, rfl⟩
  have hdef : ∀ c, p.op ≠ .defer c := by
    intro c hc
    rw [hc] at hpe; cases hpe
  have hst := R.valid hm _ _ _ _ _ _ htd hfr j p hj (by simp)
  have hfin : ∀ v', fr.finish v' = { fr with tmps := putD fr.tmps p.dst v', todo := .inRegion all is :: k' } := by
    intro v'
    unfold Frame.finish
    rw [hfr]
    simp only [hpj, Option.bind_some]
    rfl
  have hsame : ∀ j0 p0, (j0, p0) ∈ quiet → j0 = j → p0 = p := by
    intro j0 p0 h0 hh
    subst hh
    have := (D.qt j0 p0 h0).1
    rw [hpj] at this; cases this; rfl
  -- what is common to all three ways
  have key : ∀ (v v' : Value) (w' : World) (ψ : Ren) (bs2 : List Nat), (∀ d, p.dst = some d → S.top.tmps.get d = some v) → VR ψ v v' → φ.le ψ → HR B ψ S.heap w' → Below B w w' →
      step A.P (lone fr cs w) = .next (lone (fr.finish v') cs w') → (∀ b, b ∈ bs2 → ψ b = none ∧ b ∈ bs) → (∀ b, b ∈ bs' → ψ b = φ b) → bs2.Nodup →
      (∀ j' p' d u b, (j', p') ∈ quiet → j' ∈ is → isQuiet p'.op = false → p'.dst = some d → S.top.tmps.get d = some u → blockOf u = some b → b ∈ bs → b ∈ bs2) →
      ∃ fr' w' ψ bs2, step A.P (lone fr cs w) = .next (lone fr' cs w') ∧ SR A base B ψ S fr' cs w' bs2 bs' ∧ φ.le ψ ∧ Below B w w' ∧ fr'.todo = .inRegion all is :: k' := by
    intro v v' w' ψ bs2 hv0 hvr hle hr' hbl hstep hb2 hb' hbn hfrs
    refine ⟨fr.finish v', w', ψ, bs2, hstep, ⟨hr', R.bnd, Nat.le_trans R.hB hbl.size, R.glob.mono hle, ?_, R.low.mono' hle hb' (Nat.le_refl _), ?_, ?_⟩, hle, hbl, by rw [hfin]⟩
    · rw [hfin]
      refine ⟨R.top.fn, by simp only [putD_size]; exact R.top.nt, R.top.mode.mono hle, R.top.kind, R.top.defers.mono hle, R.top.round.mono hle, ?_, .inl hm⟩
      rw [htd]
      refine .draw ⟨D.ok, hord, D.nd, ?_, D.qt, D.rdy, fun j p d hj hd => by rw [putD_size]; exact D.lt j p d hj hd, fun j' hj' => D.both j' (by simp [hj']), ?_, ?_, ?_, ?_⟩ (hk.mono hle)
      · intro i o hi
        refine ⟨(D.lft i o hi).1, ?_⟩
        rcases List.mem_cons.mp (D.lft i o hi).2 with hh | hh
        · subst hh; exact absurd hi (hpl o)
        · exact hh
      · intro t u hu
        by_cases hd : p.dst = some t
        · right
          have := hv0 t hd
          rw [hu] at this; cases this
          refine ⟨v', ?_, hvr⟩
          rw [hd]
          have hlt : t < fr.tmps.size := D.lt j p t hj hd
          simp [putD, Array.getElem?_setIfInBounds_self_of_lt hlt]
        · rcases D.tr t u hu with ⟨j0, p0, hj0, hji, hd0⟩ | ⟨u', g1, g2⟩
          · left
            rcases List.mem_cons.mp hji with hh | hh
            · rw [hsame j0 p0 hj0 hh] at hd0; exact absurd hd0 hd
            · exact ⟨j0, p0, hj0, hh, hd0⟩
          · right
            refine ⟨u', ?_, g2.mono hle⟩
            cases hpd : p.dst with
            | none => exact g1
            | some d =>
              have : d ≠ t := fun hh => hd (by rw [hpd, hh])
              simp only [putD]
              rw [Array.getElem?_setIfInBounds_ne this]
              exact g1
      · intro b hb
        exact ⟨(hb2 b hb).1, (D.new b (hb2 b hb).2).2⟩
      · intro j' p' d hj' hji hn hd
        rcases D.frs j' p' d hj' (by simp [hji]) hn hd with hh | ⟨u, b, g1, g2, g3⟩
        · exact .inl hh
        · exact .inr ⟨u, b, g1, g2, hfrs j' p' d u b hj' hji hn hd g1 g2 g3⟩
      · intro j1 p1 d1 u1 j2 p2 d2 u2 b a1 a2 a3 a4 a5 a6 b1 b2 b3 b4 b5 b6
        exact D.inj j1 p1 d1 u1 j2 p2 d2 u2 b a1 (by simp [a2]) a3 a4 a5 a6 b1 (by simp [b2]) b3 b4 b5 b6
    · have hn := R.nodup
      rw [List.nodup_append] at hn ⊢
      exact ⟨hbn, hn.2.1, fun a ha b hb => hn.2.2 a (hb2 a ha).2 b hb⟩
    · intro _ all2 left2 quiet2 k2 is2 k2' h1 h2 j' p' hj' hji
      rw [htd] at h1
      rw [hfin] at h2
      simp only [List.cons.injEq, AItem.draw.injEq, Item.inRegion.injEq] at h1 h2
      obtain ⟨⟨rfl, rfl, rfl⟩, rfl⟩ := h1
      obtain ⟨⟨_, rfl⟩, rfl⟩ := h2
      have := R.valid hm _ _ _ _ _ _ htd hfr j' p' hj' (by simp [hji])
      cases this with
      | no a1 a2 => exact .no a1 a2
      | quiet a1 a2 a3 a4 => exact .quiet a1 a2 a3 a4
      | fresh a1 a2 a3 a4 a5 a6 a7 => exact .fresh a1 a2 a3 a4 a5 a6 (hfrs j' p' _ _ _ hj' hji a2 a3 a5 (freshV_block a4 _) a7)
  have hnbs : bs.Nodup := by
    have hn := R.nodup
    rw [List.nodup_append] at hn
    exact hn.1
  have keep : ∀ b, b ∈ bs → φ b = none ∧ b ∈ bs := fun b hb => ⟨(D.new b hb).1, hb⟩
  cases hst with
  | no a1 a2 =>
    refine key undef undef w φ bs a2 (.tuple .nil) (Ren.le.refl φ) R.hr (Below.refl _ _) (step_exec hfm ?_) keep (fun _ _ => rfl) hnbs (fun _ _ _ _ _ _ _ _ _ _ _ hb => hb)
    exact exec_finish hfr hpj (wanted_sound hgu a1)
  | quiet a1 a2 a3 a4 =>
    rename_i v
    obtain ⟨v', q1, q2⟩ := quiet_sound R.hr hev a3
    refine key v v' w φ bs a4 q2 (Ren.le.refl φ) R.hr (Below.refl _ _) (step_exec hfm ?_) keep (fun _ _ => rfl) hnbs (fun _ _ _ _ _ _ _ _ _ _ _ hb => hb)
    rw [exec_oper hfr hpj (wanted_sound hgu a1) (.inr hdef)]
    exact apply_gives q1 (.value _)
  | fresh a1 a2 a3 a4 a5 a6 a7 =>
    rename_i d obj g b
    obtain ⟨O, i, v', hib, hrun, hrel⟩ := fresh_core (w := w) hev a4
    have hfree := (D.new b a7).1
    have hle := Ren.le_add (φ := φ) (i := i) hfree
    obtain ⟨r1, r2⟩ := hrel (φ.add b i) b hle (Ren.add_self b i)
    obtain ⟨g1, _⟩ := R.hr.bind a6 hfree R.hB hib r1
    refine key (g b) v' _ (φ.add b i) (bs.erase b) (fun d' hd' => by rw [a3] at hd'; cases hd'; exact a5) r2 hle g1 (below_push _ R.hB) (step_exec hfm ?_) ?_ ?_ (hnbs.erase b) ?_
    · rw [exec_oper hfr hpj (wanted_sound hgu a1) (.inr hdef)]
      exact apply_gives hrun (.value _)
    · intro c hc
      rw [hnbs.mem_erase_iff] at hc
      refine ⟨?_, hc.2⟩
      unfold Ren.add
      rw [if_neg hc.1]
      exact (D.new c hc.2).1
    · intro c hc
      have hn := R.nodup
      rw [List.nodup_append] at hn
      unfold Ren.add
      rw [if_neg (Ne.symm (hn.2.2 b a7 c hc))]
    · intro j' p' d' u c hj' hji hn hd hu hc hcb
      rw [hnbs.mem_erase_iff]
      refine ⟨?_, hcb⟩
      intro hcc
      subst hcc
      have := D.inj j' p' d' u j p d (g c) c hj' (by simp [hji]) hn hd hu hc hj (by simp) a2 a3 a5 (freshV_block a4 c)
      subst this
      exact hjn hji

end Go.Ab
end

section
namespace Go.Ab
open Go.RowKit
variable {A : AProg} {P : Program} {B : Nat} {φ ψ : Ren} {h h' : AHeap} {w w' : World}
variable {base : List Frame} {S S' : AState} {fr fr' : Frame} {cs cs' : List Frame} {bs bs' : List Nat} {all : Array Oper} {o : Oper}

theorem Follows.after (hst : Steps A.P (lone fr cs w) (lone fr' cs' w')) (hle : φ.le ψ) (hb : Below B w w') (F : Follows A base B ψ fr' cs' w' S') : Follows A base B φ fr cs w S' := by
  obtain ⟨f2, c2, w2, χ, b1, b2, h1, h2, h3, h4⟩ := F
  exact ⟨f2, c2, w2, χ, b1, b2, hst.trans h1, h2, hle.trans h3, hb.trans h4⟩

theorem Follows.stay (R : SR A base B φ S' fr cs w bs bs') : Follows A base B φ fr cs w S' := ⟨fr, cs, w, φ, bs, bs', .refl _ _, R, Ren.le.refl φ, Below.refl _ _⟩

/-- all that is pending ahead of the next operation in common is done -/
theorem drain {left quiet : List (Nat × Oper)} {k : List AItem} (hm : S.top.mode = .run) (htd : S.top.todo = .draw all left quiet :: k) : ∀ (is : List Nat) (k' : List Item) (fr : Frame) (w : World) (φ : Ren) (bs : List Nat),
    SR A base B φ S fr cs w bs bs' → fr.todo = .inRegion all is :: k' →
    ∃ fr' w' ψ bs2 is' k', Steps A.P (lone fr cs w) (lone fr' cs w') ∧ SR A base B ψ S fr' cs w' bs2 bs' ∧ φ.le ψ ∧ Below B w w' ∧ fr'.todo = .inRegion all is' :: k' ∧ (∀ j rest, is' = j :: rest → ∃ o, (j, o) ∈ left)
  | [], k', fr, w, φ, bs, R, hfr => ⟨fr, w, φ, bs, [], k', .refl _ _, R, Ren.le.refl φ, Below.refl _ _, hfr, (fun j rest e => by cases e)⟩
  | j :: is, k', fr, w, φ, bs, R, hfr => by
    obtain ⟨is0, k0, hfr0, D, hk⟩ := R.draw htd
    rw [hfr] at hfr0
    simp only [List.cons.injEq, Item.inRegion.injEq, true_and] at hfr0
    obtain ⟨rfl, rfl⟩ := hfr0
    obtain ⟨p, hp | hp⟩ := D.both j (by simp)
    · exact ⟨fr, w, φ, bs, j :: is, k', .refl _ _, R, Ren.le.refl φ, Below.refl _ _, hfr, (fun j' rest e => by cases e; exact ⟨p, hp⟩)⟩
    · obtain ⟨fr1, w1, ψ, bs2, h1, h2, h3, h4, h5⟩ := pend_one R hm htd hfr hp
      obtain ⟨fr2, w2, χ, bs3, is', k2, g1, g2, g3, g4, g5, g6⟩ := drain hm htd is k' fr1 w1 ψ bs2 h2 h5
      exact ⟨fr2, w2, χ, bs3, is', k2, .head h1 g1, g2, h3.trans g3, h4.trans g4, g5, g6⟩

/-- at an operation in common -/
theorem joint (R : SR A base B φ S fr cs w bs bs') (hm : S.top.mode = .run) {left quiet : List (Nat × Oper)} {i : Nat} {k : List AItem} (htd : S.top.todo = .draw all ((i, o) :: left) quiet :: k)
    (ht : takeReady all ((i, o) :: left) ((i, o) :: left) = none) (hr : ready all ((i, o) :: left) i = true) :
    ∃ fr' w' ψ bs2, Steps A.P (lone fr cs w) (lone fr' cs w') ∧ SR A base B ψ S fr' cs w' bs2 bs' ∧ φ.le ψ ∧ Below B w w' ∧ Head ψ S.top fr' all o := by
  obtain ⟨is0, k0, hfr0, D0, hk0⟩ := R.draw htd
  obtain ⟨fr1, w1, ψ, bs2, is, k', h1, R1, h3, h4, hfr, h6⟩ := drain (base := base) (B := B) (bs' := bs') (cs := cs) hm htd is0 k0 fr w φ bs R hfr0
  obtain ⟨is1, k1, hfr1, D, hk⟩ := R1.draw htd
  rw [hfr] at hfr1
  simp only [List.cons.injEq, Item.inRegion.injEq, true_and] at hfr1
  obtain ⟨rfl, rfl⟩ := hfr1
  have Q := dr_of D.ok
  obtain ⟨hoi, hii⟩ := D.lft i o (by simp)
  cases is with
  | nil => cases hii
  | cons j rest =>
    obtain ⟨p, hp⟩ := h6 j rest rfl
    obtain ⟨hpj, _⟩ := D.lft j p hp
    obtain ⟨hjs, hjn, hbf, hord⟩ := D.ord.inv
    have hjr : ready all ((i, o) :: left) j = true := by
      rw [ready_spec]
      intro a q ha
      rcases List.mem_cons.mp (D.lft a q ha).2 with hh | hh
      · subst hh
        cases hb : (bf all a).testBit a with
        | false => rfl
        | true => exact absurd (Q.lt hb hjs) (Nat.lt_irrefl _)
      · exact hbf a hh
    have hje : isEager p.op = false := by
      cases he : isEager p.op with
      | false => rfl
      | true => have := take_none ht j p hp he; rw [hjr] at this; cases this
    have hie : isEager o.op = false := by
      cases he : isEager o.op with
      | false => rfl
      | true => have := take_none ht i o (by simp) he; rw [hr] at this; cases this
    rw [ready_spec] at hr hjr
    have hij : i = j := by
      by_cases hne : i = j
      · exact hne
      · exfalso
        rcases Q.loud hoi hpj hne hie hje with hh | hh
        · rw [hjr i o (by simp)] at hh; cases hh
        · rw [hr j p hp] at hh; cases hh
    subst hij
    obtain ⟨hop, hgu⟩ := pend_head D hoi (.inr (by simp))
    refine ⟨fr1, w1, ψ, bs2, h1, R1, h3, h4, ⟨⟨i, rest, k', hfr, hoi⟩, ?_, hop, fun g want og d v a b c e => hgu g want og d v a b c e⟩⟩
    intro all2 left2 quiet2 k2 is2 k2' e1 e2
    rw [htd] at e1
    rw [hfr] at e2
    simp only [List.cons.injEq, AItem.draw.injEq, Item.inRegion.injEq] at e1 e2
    obtain ⟨⟨_, rfl, _⟩, _⟩ := e1
    obtain ⟨⟨_, rfl⟩, _⟩ := e2
    exact ⟨i, o, left, rest, rfl, rfl⟩

/-- the end of a region that draws -/
theorem draw_end (R : SR A base B φ S fr cs w bs bs') (hm : S.top.mode = .run) {quiet : List (Nat × Oper)} {k : List AItem} (htd : S.top.todo = .draw all [] quiet :: k) :
    Follows A base B φ fr cs w { S with top := { S.top with todo := k } } := by
  obtain ⟨is0, k0, hfr0, D0, hk0⟩ := R.draw htd
  obtain ⟨fr1, w1, ψ, bs2, is, k', h1, R1, h3, h4, hfr, h6⟩ := drain (base := base) (B := B) (bs' := bs') (cs := cs) hm htd is0 k0 fr w φ bs R hfr0
  obtain ⟨is1, k1, hfr1, D, hk⟩ := R1.draw htd
  rw [hfr] at hfr1
  simp only [List.cons.injEq, Item.inRegion.injEq, true_and] at hfr1
  obtain ⟨rfl, rfl⟩ := hfr1
  have his : is = [] := by
    cases is with
    | nil => rfl
    | cons j rest => obtain ⟨p, hp⟩ := h6 j rest rfl; cases hp
  subst his
  refine Follows.after h1 h3 h4 (Follows.to R1 hm ?_ hk (by simp [stepG.exec, hfr]))
  intro t u hu
  rcases D.tr t u hu with ⟨j, p, _, hj, _⟩ | hh
  · cases hj
  · exact hh

/-- a region that draws is entered -/
theorem draw_start (hMix : A.P.follows .mixedOrders = true) (R : SR A base B φ S fr cs w bs bs') (hm : S.top.mode = .run) {id : Nat} {k : List AItem} (htd : S.top.todo = .code (.region id all true) :: k) (hok : drOk all = true) :
    Follows A base B φ fr cs w { S with top := { S.top with todo := .draw all (all.toList.zipIdx.map fun (o, i) => (i, o)) [] :: k } } := by
  obtain ⟨ht, hi, rfl⟩ := R.plain (fun all left quiet k e => by rw [htd] at e; cases e)
  rw [htd] at hi
  obtain ⟨x', k', hfr, hx, hk⟩ := hi.cons_inv
  obtain rfl := hx.code_inv
  have hfm := R.fmode hm
  have Q := dr_of hok
  obtain ⟨t, hch⟩ : ∃ t, (choose (.order fr.fn id)).run A.P w = .ok t { w with drawn := w.drawn + 1 } := ⟨_, rfl⟩
  have hl0 : Listed all (Array.replicate all.size false) := by
    refine ⟨by simp, ?_⟩
    intro i o _ hh
    rw [Array.getD_eq_getD_getElem?, Array.getElem?_replicate] at hh
    by_cases hlt : i < all.size
    · rw [if_pos hlt] at hh; cases hh
    · rw [if_neg hlt] at hh; cases hh
  obtain ⟨g1, g2⟩ := linearise_ord Q all.size t _ hl0 (by
    refine Nat.le_trans (List.length_filter_le _ _) ?_
    simp)
  have hmem : ∀ j, j ∈ Region.linearise.go .any all all.size t (Array.replicate all.size false) [] ↔ j < all.size := by
    intro j
    rw [g2]
    constructor
    · exact fun hh => hh.1
    · intro hj
      refine ⟨hj, ?_⟩
      rw [Array.getD_eq_getD_getElem?, Array.getElem?_replicate, if_pos hj]
      rfl
  have hzip : ∀ i o, (i, o) ∈ (all.toList.zipIdx.map fun (o, i) => (i, o)) ↔ all[i]? = some o := by
    intro i o
    constructor
    · intro hh
      obtain ⟨⟨o', i'⟩, h1, h2⟩ := List.mem_map.mp hh
      simp only [Prod.mk.injEq] at h2
      obtain ⟨rfl, rfl⟩ := h2
      rw [List.mem_iff_getElem?] at h1
      obtain ⟨n, hn⟩ := h1
      simp only [List.getElem?_zipIdx, Option.map_eq_some_iff, Prod.mk.injEq, Nat.zero_add] at hn
      obtain ⟨a, ha, rfl, rfl⟩ := hn
      simpa using ha
    · intro hh
      exact List.mem_map.mpr ⟨(o, i), mem_zipIdx (by simpa using hh), rfl⟩
  have hstep : step A.P (lone fr cs w) = .next (lone { fr with todo := .inRegion all (Region.linearise.go .any all all.size t (Array.replicate all.size false) []) :: k' } cs { w with drawn := w.drawn + 1 }) := by
    refine step_exec hfm ?_
    unfold stepG.exec
    simp only [hfr, Bool.not_true, Bool.false_eq_true, if_false, hch, Region.schedule, hMix, Bool.true_or, if_true, Region.linearise]
    rfl
  have hbel : Below B w { w with drawn := w.drawn + 1 } := below_drew
  refine ⟨_, cs, _, φ, [], bs', .one hstep, ⟨R.hr.drew, R.bnd, R.hB, R.glob, ?_, R.low, R.nodup, ?_⟩, Ren.le.refl φ, hbel⟩
  · refine ⟨R.top.fn, R.top.nt, R.top.mode, R.top.kind, R.top.defers, R.top.round, ?_, .inl hm⟩
    refine .draw ⟨hok, g1, ?_, ?_, (fun i o hh => by cases hh), (fun j p i o hh => by cases hh), (fun j o d hh => by cases hh), ?_, (fun t v e => .inr (ht t v e)), (fun b hb => by cases hb), (fun j o d hh => by cases hh), (fun j o d v j' o' d' v' b hh => by cases hh)⟩ hk
    · have : (all.toList.zipIdx.map fun (o, i) => (i, o)).map (·.1) = List.range all.size := by
        rw [List.map_map]
        apply List.ext_getElem?
        intro n
        simp only [List.getElem?_map, List.getElem?_zipIdx, Nat.zero_add, Option.map_map]
        rcases Nat.lt_or_ge n all.size with hn | hn
        · rw [List.getElem?_eq_getElem (by simpa using hn), List.getElem?_range hn]; rfl
        · rw [List.getElem?_eq_none (by simpa using hn), List.getElem?_eq_none (by simpa using hn)]; rfl
      rw [this]
      exact List.nodup_range
    · intro i o hh
      rw [hzip] at hh
      refine ⟨hh, ?_⟩
      rw [hmem]
      rcases Nat.lt_or_ge i all.size with hn | hn
      · exact hn
      · rw [Array.getElem?_eq_none hn] at hh; cases hh
    · intro j hj
      rw [hmem] at hj
      exact ⟨all[j], .inl ((hzip j _).mpr (Array.getElem?_eq_getElem hj))⟩
  · intro _ all2 left2 quiet2 k2 is2 k2' e1 e2 j p hj
    simp only [List.cons.injEq, AItem.draw.injEq] at e1
    obtain ⟨⟨_, _, rfl⟩, _⟩ := e1
    cases hj

end Go.Ab
end

section
namespace Go.Ab
open Go.RowKit
variable {A : AProg} {P : Program} {B : Nat} {φ ψ : Ren} {h h' : AHeap} {w w' : World}
variable {base : List Frame} {S S' : AState} {fr fr' : Frame} {cs cs' : List Frame} {bs bs' : List Nat} {all : Array Oper} {o : Oper}

theorem OR.loop_inv {i : Info} {st : LoopState} {pending : Option Code} {fn : FuncId} {nt : Nat} {tmps : T Value} {params : Array Tmp} {assign body : Code} {ds : Nat} (h : OR φ w i (.loop st pending fn nt tmps params assign body ds)) :
    ∃ j arr, φ ds = some j ∧ arr.size = nt ∧ TR φ tmps arr ∧ w.heap[i.blk]? = some (.loop { state := st, pending, fn, tmps := arr, params, assign, body, defers := j.blk }) := by
  cases h with
  | loop h1 h2 h3 h4 => exact ⟨_, _, h1, h2, h3, h4⟩

/-- a loop's state is set -/
theorem put_loop (R : SR A base B φ S fr cs w bs bs') {l : Nat} {i : Info} {st st' : LoopState} {pending pending' : Option Code} {fn : FuncId} {nt : Nat} {tmps : T Value} {params : Array Tmp} {assign body : Code} {ds : Nat}
    (hl : φ l = some i) (hg : S.heap.get l = some (.loop st pending fn nt tmps params assign body ds)) :
    ∃ arr j, w.heap[i.blk]? = some (.loop { state := st, pending, fn, tmps := arr, params, assign, body, defers := j }) ∧
      HR B φ (S.heap.set l (.loop st' pending' fn nt tmps params assign body ds)) { w with heap := w.heap.setIfInBounds i.blk (.loop { state := st', pending := pending', fn, tmps := arr, params, assign, body, defers := j }) } ∧
      Below B w { w with heap := w.heap.setIfInBounds i.blk (.loop { state := st', pending := pending', fn, tmps := arr, params, assign, body, defers := j }) } := by
  have ho := R.hr.obj _ _ _ hg hl
  obtain ⟨j, arr, h1, h2, h3, h4⟩ := ho.loop_inv
  refine ⟨arr, j.blk, h4, ?_, below_set _ (R.hr.own _ _ _ hg hl rfl)⟩
  refine R.hr.put hg hl rfl R.bnd (.loop h1 h2 h3 ?_)
  simp only
  rw [Array.getElem?_setIfInBounds_self_of_lt (heap_lt h4)]

theorem set_next (h : AHeap) (b : Nat) (o : AObj) : (h.set b o).next = h.next := rfl

/-- the heap turns, and what is left to do -/
theorem Follows.heap (R : SR A base B φ S fr cs w bs bs') (hbs : bs = []) {t : AFrame} {fr' : Frame} {h' : AHeap} {w' : World} (hr : HR B φ h' w') (hn : h'.next = S.heap.next) (hb : Below B w w')
    (hf : FrR φ S.heap t fr' []) (hv : Valid A t h' fr' []) (hs : step A.P (lone fr cs w) = .next (lone fr' cs w')) : Follows A base B φ fr cs w { S with top := t, heap := h' } := by
  subst hbs
  have hold : ∀ b, b < S.heap.next → φ b = φ b := fun _ _ => rfl
  have hle : S.heap.next ≤ h'.next := by omega
  exact ⟨fr', cs, w', φ, [], bs', .one hs, ⟨hr, by simp only; rw [hn]; exact R.bnd, Nat.le_trans R.hB hb.size, R.glob, hf.mono (Ren.le.refl φ) hold hle, R.low.mono (Ren.le.refl φ) hold hle, R.nodup, hv⟩, Ren.le.refl φ, hb⟩

theorem exec_sem {fr : Frame} {cs : List Frame} {s : Sem Next} (hs : s.run P w = .ok .skip w') :
    (stepG.apply P true fr cs none s w).bare = .go { frame := fr.finish undef, callers := cs, status := .running, dying := none } w' := by
  unfold stepG.apply
  simp [Sem.runT_eq, hs]

/-- a round begins -/
theorem begin_round (R : SR A base B φ S fr cs w bs bs') (hm : S.top.mode = .run) {k : List AItem} {l : Nat} (htd : S.top.todo = .beginRound :: k) (hro : S.top.roundOf = some l)
    {pending : Option Code} {fn : FuncId} {nt : Nat} {tmps : T Value} {params : Array Tmp} {assign body : Code} {ds : Nat} (hg : S.heap.get l = some (.loop .ready pending fn nt tmps params assign body ds)) :
    Follows A base B φ fr cs w { S with top := { S.top with todo := k }, heap := S.heap.set l (.loop .busy pending fn nt tmps params assign body ds) } := by
  obtain ⟨ht, hi, hbs⟩ := R.plain (fun all left quiet k e => by rw [htd] at e; cases e)
  rw [htd] at hi
  obtain ⟨x', k', hfr, hx, hk⟩ := hi.cons_inv
  cases hx
  obtain ⟨i, hl, hfro⟩ : ∃ i, φ l = some i ∧ fr.roundOf = some i.blk := by
    have := R.top.round
    rw [hro] at this
    generalize fr.roundOf = q at this
    cases this with
    | some e => exact ⟨_, e, rfl⟩
  obtain ⟨arr, j, g1, g2, g3⟩ := put_loop (st' := .busy) (pending' := pending) R hl hg
  have hfin : fr.finish undef = { fr with todo := k' } := by unfold Frame.finish; rw [hfr]
  refine Follows.heap R hbs g2 (set_next _ _ _) g3 ⟨R.top.fn, R.top.nt, R.top.mode, R.top.kind, R.top.defers, R.top.round, .plain ht hk, .inr ht⟩ (valid_plain hk) (fr' := { fr with todo := k' }) (step_exec (R.fmode hm) ?_)
  rw [← hfin]
  unfold stepG.exec
  simp only [hfr, hfro, Option.elim_some]
  refine exec_sem ?_
  unfold Instr.beginRound
  refine (run_bind_ok (a := ()) (w' := { w with heap := w.heap.setIfInBounds i.blk (.loop { state := .busy, pending := pending, fn, tmps := arr, params, assign, body, defers := j }) }) ?_).trans rfl
  rw [run_bind_ok (run_getLoop g1), run_bind_ok (run_setO g1 (by intro c t f hh; cases hh))]
  rfl

/-- the loop is left -/
theorem end_range (R : SR A base B φ S fr cs w bs bs') (hm : S.top.mode = .run) {k : List AItem} {l : Nat} (htd : S.top.todo = .endRangeFunc l :: k)
    {st : LoopState} {pending : Option Code} {fn : FuncId} {nt : Nat} {tmps : T Value} {params : Array Tmp} {assign body : Code} {ds : Nat} (hg : S.heap.get l = some (.loop st pending fn nt tmps params assign body ds)) (hst : st ≠ .busy) :
    Follows A base B φ fr cs w { S with top := { S.top with todo := pendTodo pending k }, heap := S.heap.set l (.loop .exhausted pending fn nt tmps params assign body ds) } := by
  obtain ⟨ht, hi, hbs⟩ := R.plain (fun all left quiet k e => by rw [htd] at e; cases e)
  rw [htd] at hi
  obtain ⟨x', k', hfr, hx, hk⟩ := hi.cons_inv
  obtain ⟨i, hl, rfl⟩ : ∃ i, φ l = some i ∧ x' = .endRangeFunc i.blk := by
    cases hx with
    | endRangeFunc e => exact ⟨_, e, rfl⟩
  obtain ⟨arr, j, g1, g2, g3⟩ := put_loop (st' := .exhausted) (pending' := pending) R hl hg
  have hk2 : IRL φ (pendTodo pending k) ((pending.map Item.code).toList ++ k') := by
    cases pending with
    | none => exact hk
    | some c => exact .cons (.code c) hk
  refine Follows.heap R hbs g2 (set_next _ _ _) g3 ⟨R.top.fn, R.top.nt, R.top.mode, R.top.kind, R.top.defers, R.top.round, .plain ht hk2, .inr ht⟩ (valid_plain hk2) (fr' := { fr with todo := (pending.map Item.code).toList ++ k' }) (step_exec (R.fmode hm) ?_)
  have hrun : (Instr.endLoop i.blk).run A.P w = .ok pending { w with heap := w.heap.setIfInBounds i.blk (.loop { state := .exhausted, pending := pending, fn, tmps := arr, params, assign, body, defers := j }) } := by
    unfold Instr.endLoop
    rw [run_bind_ok (run_getLoop g1)]
    have hb : (st == LoopState.busy) = false := by cases st <;> first | rfl | exact absurd rfl hst
    simp only [hb, Bool.false_eq_true, if_false]
    refine (run_bind_ok (run_setO g1 (by intro c t f hh; cases hh))).trans rfl
  unfold stepG.exec
  simp only [hfr, Sem.runT_eq, hrun]
  simp

/-- a value is handed to the caller -/
theorem return_any (R : SR A base B φ S fr cs w bs bs') {v v' : Value} (hv : VR φ v v') (e : returnA A S v = some S') {w₀ : World} {fr₀ : Frame} (hb : Below B w₀ w)
    (hs : ∀ fr2 cs2, (doReturn A.P true fr cs none v' w).bare = .go { frame := fr2, callers := cs2, status := .running, dying := none } w → step A.P (lone fr₀ cs w₀) = .next (lone fr2 cs2 w)) :
    Follows A base B φ fr₀ cs w₀ S' := by
  unfold returnA at e
  split at e
  · rename_i c rest hc
    have hlow := R.low
    rw [hc] at hlow
    obtain ⟨frc, csr, b1, b2, rfl, rfl, g1, gw, g2⟩ := hlow.cons_inv
    have hnd : (b1 ++ b2).Nodup := by
      have := R.nodup
      rw [List.nodup_append] at this
      exact this.2.1
    split at e
    · rename_i hk
      simp only [Option.map_eq_some_iff] at e
      obtain ⟨t, ef, rfl⟩ := e
      obtain ⟨f1, f2⟩ := finish_any g1 gw hv ef
      refine ⟨frc.finish v', csr, w, φ, b1, b2, .one (hs _ _ ?_), ⟨R.hr, R.bnd, R.hB, R.glob, f1, g2, hnd, f2⟩, Ren.le.refl φ, hb⟩
      unfold doReturn
      simp only [R.top.kind, hk]
      rfl
    · rename_i hk
      split at e
      · rename_i hcm
        cases e
        have hfcm : frc.mode = .returning := (show MR φ .returning frc.mode from hcm ▸ g1.mode).returning_inv
        refine ⟨frc, csr, w, φ, b1, b2, .one (hs _ _ ?_), ⟨R.hr, R.bnd, R.hB, R.glob, g1, g2, hnd, fun hh => by rw [hcm] at hh; cases hh⟩, Ren.le.refl φ, hb⟩
        unfold doReturn
        simp only [R.top.kind, hk, hfcm]
        rfl
      · cases e
    · cases e
  · cases e

theorem Follows.to_heap {h' : AHeap} (R : SR A base B φ S fr cs w bs bs') (hr : HR B φ h' w') (hn : h'.next = S.heap.next) (hb : Below B w w') (hv : Valid A S.top h' fr bs) : SR A base B φ { S with heap := h' } fr cs w' bs bs' := by
  have hold : ∀ b, b < S.heap.next → φ b = φ b := fun _ _ => rfl
  have hle : S.heap.next ≤ h'.next := by omega
  exact ⟨hr, by simp only; rw [hn]; exact R.bnd, Nat.le_trans R.hB hb.size, R.glob, R.top.mono (Ren.le.refl φ) hold hle, R.low.mono (Ren.le.refl φ) hold hle, R.nodup, hv⟩

/-- the body of a function, or a round, is left -/
theorem leave_any (R : SR A base B φ S fr cs w bs bs') (hm : S.top.mode = .run) {jump : Option Code} (e : leaveA A S jump = some S') (hpl : ∀ all left quiet k, S.top.todo ≠ .draw all left quiet :: k)
    (hx : fr.roundOf = none → jump = none ∨ jump = some .ret → (stepG.exec A.P true true fr cs none w).bare = .go { frame := { fr with mode := .returning }, callers := cs, status := .running, dying := none } w)
    (hy : ∀ l v w1, fr.roundOf = some l → (Instr.endRound l jump).run A.P w = .ok v w1 → (stepG.exec A.P true true fr cs none w).bare = (doReturn A.P true fr cs none v w1).bare) :
    Follows A base B φ fr cs w S' := by
  obtain ⟨ht, hi, hbs⟩ := R.plain hpl
  have hfm := R.fmode hm
  unfold leaveA at e
  split at e
  · rename_i hro
    have hfro : fr.roundOf = none := by
      have := R.top.round
      rw [hro] at this
      generalize fr.roundOf = q at this
      cases this; rfl
    have key : Follows A base B φ fr cs w { S with top := { S.top with mode := .returning } } → Follows A base B φ fr cs w { S with top := { S.top with mode := .returning } } := id
    have go : (jump = none ∨ jump = some .ret) → Follows A base B φ fr cs w { S with top := { S.top with mode := .returning } } := by
      intro hj
      subst hbs
      exact ⟨{ fr with mode := .returning }, cs, w, φ, [], bs', .one (step_exec hfm (hx hfro hj)), ⟨R.hr, R.bnd, R.hB, R.glob, ⟨R.top.fn, R.top.nt, .returning, R.top.kind, R.top.defers, R.top.round, .plain ht hi, .inr ht⟩, R.low, R.nodup,
        (fun hh => by cases hh)⟩, Ren.le.refl φ, Below.refl _ _⟩
    split at e
    · cases e; exact go (.inl rfl)
    · cases e; exact go (.inr rfl)
    · cases e
  · rename_i l hro
    split at e
    · rename_i st pending fn nt tmps params assign body ds hg
      obtain ⟨i, hl, hfro⟩ : ∃ i, φ l = some i ∧ fr.roundOf = some i.blk := by
        have := R.top.round
        rw [hro] at this
        generalize fr.roundOf = q at this
        cases this with
        | some e => exact ⟨_, e, rfl⟩
      obtain ⟨arr, j, g1, g2, g3⟩ := put_loop (st' := (endState jump)) (pending' := jump) R hl hg
      have hrun : (Instr.endRound i.blk jump).run A.P w = .ok (.bool jump.isNone) { w with heap := w.heap.setIfInBounds i.blk (.loop { state := (endState jump), pending := jump, fn, tmps := arr, params, assign, body, defers := j }) } := by
        unfold Instr.endRound
        rw [run_bind_ok (run_getLoop g1)]
        cases jump with
        | none => refine (run_bind_ok (run_setO g1 (by intro c t f hh; cases hh))).trans rfl
        | some c => refine (run_bind_ok (run_setO g1 (by intro c t f hh; cases hh))).trans rfl
      have R2 := Follows.to_heap (h' := S.heap.set l (.loop (endState jump) jump fn nt tmps params assign body ds)) R g2 (set_next _ _ _) g3 (by rw [hbs]; exact valid_plain hi)
      refine return_any R2 (.bool _) e g3 (fun fr2 cs2 hd => ?_)
      refine step_exec hfm ?_
      rw [hy _ _ _ hfro hrun]
      exact hd
    · cases e

end Go.Ab
end

section
namespace Go.Ab
open Go.RowKit
variable {A : AProg} {P : Program} {B : Nat} {φ ψ : Ren} {h h' : AHeap} {w w' : World}
variable {base : List Frame} {S S' : AState} {fr fr' : Frame} {cs cs' : List Frame} {bs bs' : List Nat} {all : Array Oper} {o : Oper}

theorem roR_some {l : Nat} {q : Option Nat} (h : RoR φ (some l) q) : ∃ i, φ l = some i ∧ q = some i.blk := by
  cases h with
  | some e => exact ⟨_, e, rfl⟩
theorem roR_none {q : Option Nat} (h : RoR φ none q) : q = none := by cases h; rfl

/-- the loop of a range over a function is made -/
theorem enter_loop (R : SR A base B φ S fr cs w bs bs') (ht : TR φ S.top.tmps fr.tmps) {params : Array Tmp} {assign body : Code} {ds : Nat} {mark : List Deferred} {h1 h2 : AHeap} {l : Nat}
    (e1 : (match S.top.roundOf with
        | some l => match S.heap.get l with | some (.loop _ _ _ _ _ _ _ _ ds) => some (ds, ([] : List Deferred), S.heap) | _ => none
        | none => (S.heap.new (.deferred (some []))).map fun (r, h) => (r, [{ target := .collected r, args := #[] }], h)) = some (ds, mark, h1))
    (e2 : h1.new (.loop .ready none S.top.fn S.top.nt S.top.tmps params assign body ds) = some (l, h2)) :
    ∃ i mark' w' ψ, ψ l = some i ∧ (Instr.enterLoop fr.fn fr.tmps params assign body fr.roundOf).run A.P w = .ok (i.blk, mark') w' ∧ HR B ψ h2 w' ∧ φ.le ψ ∧ (∀ b, b < S.heap.next → ψ b = φ b) ∧ S.heap.next ≤ h2.next ∧ h2.next ≤ bound ∧
      Below B w w' ∧ DRL ψ mark mark' := by
  have hround := R.top.round
  -- the second block
  have snd : ∀ {χ : Ren} {w1 : World} {j : Info}, HR B χ h1 w1 → φ.le χ → B ≤ w1.heap.size → χ ds = some j → 
      HR B (χ.add l ⟨w1.heap.size, 0, 0, 0⟩) h2 { w1 with heap := w1.heap.push (.loop { state := .ready, pending := none, fn := fr.fn, tmps := fr.tmps, params, assign, body, defers := j.blk }) } ∧
      χ.le (χ.add l ⟨w1.heap.size, 0, 0, 0⟩) ∧ h2.next = h1.next + 1 ∧ l = h1.next ∧ h2.next ≤ bound := by
    intro χ w1 j hr1 hle1 hB1 hds
    obtain ⟨hb, hlt, hnx, _⟩ := AHeap.new_eq e2
    have hfree : χ l = none := by
      cases e : χ l with
      | none => rfl
      | some j => have := hr1.fresh _ _ e; omega
    have hle2 : χ.le (χ.add l ⟨w1.heap.size, 0, 0, 0⟩) := Ren.le_add hfree
    obtain ⟨g1, g2, g3⟩ := hr1.push (i := ⟨w1.heap.size, 0, 0, 0⟩) (O := .loop { state := .ready, pending := none, fn := fr.fn, tmps := fr.tmps, params, assign, body, defers := j.blk }) e2 hB1 rfl (by
      rw [← R.top.fn]
      exact .loop (hle2 _ _ hds) R.top.nt (ht.mono (hle1.trans hle2)) (by simp))
    exact ⟨g1, g2, g3, hb, by omega⟩
  split at e1
  · rename_i l0 hro
    split at e1
    · rename_i st pending fn nt tmps ps as bd ds0 hg
      cases e1
      rw [hro] at hround
      obtain ⟨i, hl, hfro⟩ := roR_some hround
      obtain ⟨j, arr, q1, q2, q3, q4⟩ := (R.hr.obj _ _ _ hg hl).loop_inv
      obtain ⟨g1, g2, g3, g4, g5⟩ := snd R.hr (Ren.le.refl φ) R.hB q1
      refine ⟨_, [], _, _, Ren.add_self _ _, ?_, g1, g2, ?_, by omega, g5, below_push _ R.hB, .nil⟩
      · unfold Instr.enterLoop
        rw [hfro]
        simp only []
        refine (run_bind_ok (run_getLoop q4)).trans ?_
        refine (run_bind_ok (run_pure _ _)).trans ?_
        refine (run_bind_ok (run_newObj _)).trans ?_
        rfl
      · intro b hb
        unfold Ren.add
        rw [if_neg (by omega)]
    · cases e1
  · rename_i hro
    rw [hro] at hround
    have hfro := roR_none hround
    simp only [Option.map_eq_some_iff] at e1
    obtain ⟨⟨r, h3⟩, hnew, e1⟩ := e1
    simp only [Prod.mk.injEq] at e1
    obtain ⟨rfl, rfl, rfl⟩ := e1
    obtain ⟨hb, hlt, hnx, _⟩ := AHeap.new_eq hnew
    have hfree : φ r = none := by
      cases e : φ r with
      | none => rfl
      | some j => have := R.hr.fresh _ _ e; omega
    obtain ⟨p1, p2, p3⟩ := R.hr.push (i := ⟨w.heap.size, 0, 0, 0⟩) (O := .deferred (some [])) hnew R.hB rfl (.deferred (l' := []) (by simp) .nil)
    obtain ⟨g1, g2, g3, g4, g5⟩ := snd (w1 := { w with heap := w.heap.push (.deferred (some [])) }) (j := ⟨w.heap.size, 0, 0, 0⟩) p1 p2 (by simp only [Array.size_push]; exact Nat.le_succ_of_le R.hB) (Ren.add_self _ _)
    have b1 : Below B w { w with heap := w.heap.push (.deferred (some [])) } := below_push _ R.hB
    refine ⟨_, [{ target := .collected w.heap.size, args := #[] }], _, _, Ren.add_self _ _, ?_, g1, p2.trans g2, ?_, by omega, g5, b1.trans (below_push _ (by simp only [Array.size_push]; exact Nat.le_succ_of_le R.hB)), ?_⟩
    · unfold Instr.enterLoop
      rw [hfro]
      simp only []
      refine (run_bind_ok (run_newObj _)).trans ?_
      refine (run_bind_ok (run_pure _ _)).trans ?_
      refine (run_bind_ok (run_newObj _)).trans ?_
      rfl
    · intro b hb'
      unfold Ren.add
      rw [if_neg (by omega), if_neg (by omega)]
    · refine .cons ⟨.collected (i := ⟨w.heap.size, 0, 0, 0⟩) (g2 _ _ (Ren.add_self _ _)), .nil⟩ .nil

theorem run_iter {f : FuncId} {ρ : Operand → Value} {x : Operand} {y : Value} {first captured : Array Value} (hx : ρ x = .func (.func f) first captured) (hy : ρ (.const y) = y) :
    (do let d ← resolve ρ { callee := .value x, args := #[.const y], argTypes := #[] } 0; invoke d.target d.args : Sem Next).run P w = (callFunc f (first ++ #[y] ++ captured)).run P w := by
  have hm : (#[.const y] : Array Operand).map ρ = #[y] := by simp [hy]
  simp only [resolve, hm, Deferred.ofValue, hx]
  rw [run_bind_ok (run_pure _ _)]
  rfl

theorem apply_enter_any {s : Sem Next} {f : FuncId} {args : Array Value} {l : Nat} {k : List Item} (hfr : fr.todo = .inRangeFunc l :: k) (hs : s.run P w = .ok (.enter f args) w') :
    (stepG.apply P true fr cs none s w).bare = .go { frame := Frame.enter P f args .normal, callers := fr :: cs, status := .running, dying := none } w' := by
  unfold stepG.apply
  simp only [if_true, Sem.runT_eq, hs, hfr]
  simp

/-- a range over a function begins -/
theorem range_func (hN : NamesOk A.P) (R : SR A base B φ S fr cs w bs bs') (hm : S.top.mode = .run) {fo : Operand} {params : Array Tmp} {assign body : Code} {k : List AItem} (htd : S.top.todo = .code (.rangeFunc fo params assign body) :: k)
    {ds : Nat} {mark : List Deferred} {h1 h2 : AHeap} {l : Nat}
    (e1 : (match S.top.roundOf with
        | some l => match S.heap.get l with | some (.loop _ _ _ _ _ _ _ _ ds) => some (ds, ([] : List Deferred), S.heap) | _ => none
        | none => (S.heap.new (.deferred (some []))).map fun (r, h) => (r, [{ target := .collected r, args := #[] }], h)) = some (ds, mark, h1))
    (e2 : h1.new (.loop .ready none S.top.fn S.top.nt S.top.tmps params assign body ds) = some (l, h2)) {g : FuncId} {fs cs0 : Array Value} (hv : ev A S.top fo = .func (.func g) fs cs0) {t : AFrame}
    (e3 : enterA A g (fs.toList ++ [.func (.yield l) #[] #[]] ++ cs0.toList) .normal = some t) :
    Follows A base B φ fr cs w { top := t, callers := { S.top with todo := .inRangeFunc l :: k, defers := mark ++ S.top.defers } :: S.callers, heap := h2 } := by
  obtain ⟨ht, hi, rfl⟩ := R.plain (fun all left quiet k e => by rw [htd] at e; cases e)
  obtain ⟨i, mark', w', ψ, q1, q2, q3, q4, q5, q6, q7, q8, q9⟩ := enter_loop R ht e1 e2
  rw [htd] at hi
  obtain ⟨x', k', hfr, hx, hk⟩ := hi.cons_inv
  obtain rfl := hx.code_inv
  have hfov : VR φ (ev A S.top fo) (fr.eval fo) := ev_sound R.glob fun k v _ e => ht k v e
  rw [hv] at hfov
  obtain ⟨fn', a', c', hx', hF, g1, g2⟩ := hfov.func_inv
  cases hF
  obtain ⟨fn, c, hf, hb⟩ := enter_body e3
  let fr1 : Frame := { fr with todo := .inRangeFunc i.blk :: k', defers := mark' ++ fr.defers }
  have hargs : VRL ψ (fs.toList ++ [.func (.yield l) #[] #[]] ++ cs0.toList) (a' ++ #[Value.func (.yield i.blk) #[] #[]] ++ c').toList := by
    have hy : VRL ψ [Value.func (.yield l) #[] #[]] [Value.func (.yield i.blk) #[] #[]] := VRL.cons (VR.func (FR.yield q1) VRL.nil VRL.nil) VRL.nil
    simp only [Array.toList_append]
    exact ((g1.mono q4).append hy).append (g2.mono q4)
  obtain ⟨r1, r2, r3, r4⟩ := enter_sound (h := h2) hargs e3
  have hrun : (do let d ← resolve fr1.eval { callee := .value fo, args := #[.const (.func (.yield i.blk) #[] #[])], argTypes := #[] } 0; invoke d.target d.args : Sem Next).run A.P w' = .ok (.enter g (a' ++ #[Value.func (.yield i.blk) #[] #[]] ++ c')) w' := by
    have he : fr1.eval fo = fr.eval fo := by cases fo <;> rfl
    rw [run_iter (he.trans hx') rfl]
    exact run_callFunc hN hf hb
  have hi1 : IRL ψ (.inRangeFunc l :: k) (.inRangeFunc i.blk :: k') := .cons (.inRangeFunc q1) (hk.mono q4)
  refine ⟨_, fr1 :: cs, w', ψ, [], bs', .one (step_exec (R.fmode hm) ?_), ⟨q3, q7, Nat.le_trans R.hB q8.size, R.glob.mono q4, r1, ?_, by simpa using R.low_nodup, valid_plain r3⟩, q4, q8⟩
  · unfold stepG.exec
    simp only [hfr, Sem.runT_eq, q2, GStep.bare_after]
    exact apply_enter_any (fr := fr1) rfl hrun
  · refine CsR.cons (bs := []) ?_ (waits_plain (f := { S.top with todo := .inRangeFunc l :: k, defers := mark ++ S.top.defers }) (fr := fr1) hi1) (R.low.mono q4 q5 q6)
    exact ⟨R.top.fn, R.top.nt, R.top.mode.mono q4, R.top.kind, q9.append (R.top.defers.mono q4), R.top.round.mono q4, .plain (ht.mono q4) hi1, .inr (ht.mono q4)⟩

theorem DRL.cons_inv {d : Deferred} {l l' : List Deferred} (h : DRL φ (d :: l) l') : ∃ d' k, l' = d' :: k ∧ DR φ d d' ∧ DRL φ l k := by
  cases h with | cons h1 h2 => exact ⟨_, _, rfl, h1, h2⟩

theorem tgR_coll {r : Nat} {t : Target} (h : TgR φ (.collected r) t) : ∃ i, φ r = some i ∧ t = .collected i.blk := by
  cases h with | collected e => exact ⟨_, e, rfl⟩
theorem tgR_fn {f : Fn} {c : Array Value} {t : Target} (h : TgR φ (.fn f c) t) : ∃ f' c', t = .fn f' c' ∧ FR φ f f' ∧ VRL φ c.toList c'.toList := by
  cases h with | fn h1 h2 => exact ⟨_, _, rfl, h1, h2⟩

/-- a frame that is left -/
theorem unwind_sound (hN : NamesOk A.P) (R : SR A base B φ S fr cs w bs bs') (hm : S.top.mode ≠ .run) (e : unwindA A S = some S') : Follows A base B φ fr cs w S' := by
  have hfm : fr.mode ≠ .run := by
    intro hh
    have := R.top.mode
    rw [hh] at this
    generalize S.top.mode = q at this hm
    cases this
    exact hm rfl
  have hTR : TR φ S.top.tmps fr.tmps := by
    rcases R.top.tr with hh | hh
    · exact absurd hh hm
    · exact hh
  unfold unwindA at e
  dsimp only at e
  split at e
  · -- a mark
    rename_i r args ds hd
    split at e
    · rename_i l hg
      cases e
      have hdr := R.top.defers
      rw [hd] at hdr
      obtain ⟨d', k', hfd, ⟨htg, _⟩, hk⟩ := hdr.cons_inv
      obtain ⟨tg', args'⟩ := d'
      simp only at htg
      obtain ⟨i, hr, rfl⟩ := tgR_coll htg
      obtain ⟨l', hl1, hl2⟩ : ∃ l', w.heap[i.blk]? = some (.deferred (some l')) ∧ DRL φ l l' := by
        have := R.hr.obj _ _ _ hg hr
        cases this with
        | deferred a b => exact ⟨_, a, b⟩
      have hput : HR B φ (S.heap.set r (.deferred none)) { w with heap := w.heap.setIfInBounds i.blk (.deferred none) } :=
        R.hr.put hg hr rfl R.bnd (.taken (by simp only; rw [Array.getElem?_setIfInBounds_self_of_lt (heap_lt hl1)]))
      have hbel : Below B w { w with heap := w.heap.setIfInBounds i.blk (.deferred none) } := below_set _ (R.hr.own _ _ _ hg hr rfl)
      have hold : ∀ b, b < S.heap.next → φ b = φ b := fun _ _ => rfl
      refine ⟨{ fr with defers := l' ++ k' }, cs, _, φ, bs, bs', .one (step_unwind hfm ?_), ⟨hput, R.bnd, Nat.le_trans R.hB hbel.size, R.glob, ?_, R.low.mono (Ren.le.refl φ) hold (Nat.le_refl _), R.nodup, fun hh => absurd hh hm⟩, Ren.le.refl φ, hbel⟩
      · unfold unwind
        have hrun : (Instr.takeDeferred i.blk).run A.P w = .ok l' { w with heap := w.heap.setIfInBounds i.blk (.deferred none) } := by
          unfold Instr.takeDeferred
          rw [run_bind_ok (run_getIter hl1 (by intro c t f hh; cases hh))]
          refine (run_bind_ok (run_setO hl1 (by intro c t f hh; cases hh))).trans rfl
        simp only [hfd, Sem.runT_eq, hrun]
        simp
      · have hm2 := R.top.todo.mono' (h' := S.heap.set r (.deferred none)) (Ren.le.refl φ) (fun _ _ => rfl) (Nat.le_refl _)
        exact ⟨R.top.fn, R.top.nt, R.top.mode, R.top.kind, hl2.append hk, R.top.round, hm2, .inr hTR⟩
    · cases e
  · -- a deferred call
    rename_i g captured args ds hd
    split at e
    · cases e
    · rename_i hpl
      simp only [Option.map_eq_some_iff] at e
      obtain ⟨t, e, rfl⟩ := e
      have hdr := R.top.defers
      rw [hd] at hdr
      obtain ⟨d', k', hfd, ⟨htg, hag⟩, hk⟩ := hdr.cons_inv
      obtain ⟨tg', args'⟩ := d'
      simp only at htg hag
      obtain ⟨f', c', rfl, hF, hc⟩ := tgR_fn htg
      cases hF
      obtain ⟨fn, c, hf, hb⟩ := enter_body e
      obtain ⟨e1, e2, e3, e4⟩ := enter_sound (h := S.heap) (args' := args' ++ c') (by rw [Array.toList_append]; exact hag.append hc) e
      have htop : FrR φ S.heap { S.top with defers := ds } { fr with defers := k' } bs := ⟨R.top.fn, R.top.nt, R.top.mode, R.top.kind, hk, R.top.round, R.top.todo, .inr hTR⟩
      have hwt : Waits { S.top with defers := ds } { fr with defers := k' } := waits_of_plain hpl
      refine ⟨Frame.enter A.P g (args' ++ c') .deferred, { fr with defers := k' } :: cs, w, φ, [], bs ++ bs', .one (step_unwind hfm ?_), ⟨R.hr, R.bnd, R.hB, R.glob, e1, .cons htop hwt R.low, by simpa using R.nodup, valid_plain e3⟩, Ren.le.refl φ, Below.refl _ _⟩
      unfold unwind
      simp only [hfd]
      unfold callDeferred
      have hrun : (invoke (.fn (.func g) c') args').run A.P w = .ok (.enter g (args' ++ c')) w := run_callFunc hN hf hb
      simp [Sem.runT_eq, hrun]
  · cases e
  · rename_i hd
    split at e
    · cases e
    · cases e
    · rename_i hret
      split at e
      · rename_i fn hf
        simp only [Option.bind_eq_some_iff] at e
        obtain ⟨v, hv, e⟩ := e
        obtain ⟨v', h1, h2⟩ := results_sound R.hr hTR hv
        have hfd : fr.defers = [] := (show DRL φ [] fr.defers from hd ▸ R.top.defers).nil_inv
        have hfret : fr.mode = .returning := (show MR φ .returning fr.mode from hret ▸ R.top.mode).returning_inv
        refine return_any R h2 e (Below.refl _ _) (fun fr2 cs2 hh => step_unwind hfm ?_)
        rw [unwind_results hfret hfd (by rw [R.top.fn]; exact hf) h1]
        exact hh
      · cases e

end Go.Ab
end

section
namespace Go.Ab
open Go.RowKit
variable {A : AProg} {P : Program} {B : Nat} {φ ψ : Ren} {h h' : AHeap} {w w' : World}
variable {base : List Frame} {S S' : AState} {fr fr' : Frame} {cs cs' : List Frame} {bs bs' : List Nat} {all : Array Oper} {o : Oper}

/-- what the program must be like -/
structure AOk (A : AProg) : Prop where
  names : NamesOk A.P
  ext : ExtOk A
  sum : SumOk A
  mix : A.P.follows .mixedOrders = true

theorem exec_sound (K : AOk A) (R : SR A base B φ S fr cs w bs bs') (hm : S.top.mode = .run) (e : execA A S = some S') : Follows A base B φ fr cs w S' := by
  have hfm := R.fmode hm
  unfold execA at e
  dsimp only at e
  cases htd : S.top.todo with
  | nil =>
    rw [htd] at e
    simp only at e
    have hpl : ∀ all left quiet k, S.top.todo ≠ .draw all left quiet :: k := fun _ _ _ _ hh => by rw [htd] at hh; cases hh
    obtain ⟨ht, hi, hbs⟩ := R.plain hpl
    rw [htd] at hi
    have hfr := hi.nil_inv
    refine leave_any R hm e hpl ?_ ?_
    · intro hro _
      simp [stepG.exec, hfr, hro]
    · intro l v w1 hro hrun
      simp [stepG.exec, hfr, hro, Sem.runT_eq, hrun]
  | cons x k =>
    rw [htd] at e
    have plain : (∀ all left quiet k', x :: k ≠ .draw all left quiet :: k') → TR φ S.top.tmps fr.tmps ∧ IRL φ (x :: k) fr.todo ∧ bs = [] := by
      intro hpl
      have := R.plain (fun all left quiet k' hh => hpl all left quiet k' (by rw [← htd]; exact hh))
      rw [htd] at this
      exact this
    have ctl : ∀ {t : List AItem}, (∀ all left quiet k', x :: k ≠ .draw all left quiet :: k') → controlA (A := A) S.top (x :: k) = some t → Follows A base B φ fr cs w { S with top := { S.top with todo := t } } := by
      intro t hpl hc
      obtain ⟨ht, hi, _⟩ := plain hpl
      exact control_sound R hm ht (by rw [htd]; exact hi) (by rw [htd]; exact hc)
    cases x with
    | code c =>
      have hpl : ∀ all left quiet k', AItem.code c :: k ≠ .draw all left quiet :: k' := fun _ _ _ _ hh => by cases hh
      have hpl' : ∀ all left quiet k', S.top.todo ≠ .draw all left quiet :: k' := fun all left quiet k' hh => by rw [htd] at hh; cases hh
      obtain ⟨ht, hi, hbs⟩ := plain hpl
      obtain ⟨x', k', hfr, hx, hk⟩ := hi.cons_inv
      obtain rfl := hx.code_inv
      simp only at e
      cases c with
      | ret =>
        simp only at e
        refine leave_any R hm e hpl' ?_ ?_
        · intro hro _
          simp [stepG.exec, hfr, hro]
        · intro l v w1 hro hrun
          simp [stepG.exec, hfr, hro, Sem.runT_eq, hrun]
      | skip => simp only at e; cases e; exact ctl hpl rfl
      | label l => simp only at e; cases e; exact ctl hpl rfl
      | seq a b => simp only at e; cases e; exact ctl hpl rfl
      | cond c a b =>
        simp only at e
        split at e
        · rename_i t hc
          cases e
          refine ctl hpl ?_
          simp only [controlA, hc]
        · cases e
      | block id body => simp only at e; cases e; exact ctl hpl rfl
      | loop body => simp only at e; cases e; exact ctl hpl rfl
      | scope body => simp only at e; cases e; exact ctl hpl rfl
      | exit id =>
        simp only at e
        split at e
        · rename_i k2 hk2
          cases e
          exact ctl hpl hk2
        · rename_i hno
          have hno' := (exit_sound hk).2 hno
          refine leave_any R hm e hpl' ?_ ?_
          · intro hro hj
            rcases hj with hj | hj <;> cases hj
          · intro l v w1 hro hrun
            simp [stepG.exec, hfr, hro, hno', Sem.runT_eq, hrun]
      | goto l =>
        simp only at e
        split at e
        · rename_i k2 hk2
          cases e
          exact ctl hpl hk2
        · rename_i hno
          have hno' := (goto_sound hk).2 hno
          refine leave_any R hm e hpl' ?_ ?_
          · intro hro hj
            rcases hj with hj | hj <;> cases hj
          · intro l v w1 hro hrun
            simp [stepG.exec, hfr, hro, hno', Sem.runT_eq, hrun]
      | rangeFunc fo params assign body =>
        simp only at e
        split at e
        · rename_i ds mark h1 he1
          simp only [Option.bind_eq_some_iff] at e
          obtain ⟨⟨l, h2⟩, he2, e⟩ := e
          split at e
          · rename_i g fs cs0 hv
            simp only [Option.map_eq_some_iff] at e
            obtain ⟨t, he3, rfl⟩ := e
            exact range_func K.names R hm htd he1 he2 hv he3
          · cases e
        · cases e
      | region id ops draw =>
        cases draw with
        | false => simp only at e; cases e; exact ctl hpl rfl
        | true =>
          simp only at e
          obtain ⟨hok, e⟩ := cond_some e
          cases e
          exact draw_start K.mix R hm htd hok
      | refuse why => simp only at e; cases e
    | inBlock id => simp only at e; cases e; exact ctl (fun _ _ _ _ hh => by cases hh) rfl
    | inScope b => simp only at e; cases e; exact ctl (fun _ _ _ _ hh => by cases hh) rfl
    | inLoop b => simp only at e; cases e; exact ctl (fun _ _ _ _ hh => by cases hh) rfl
    | ops all i rest =>
      have hpl : ∀ al left quiet k', AItem.ops all i rest :: k ≠ .draw al left quiet :: k' := fun _ _ _ _ hh => by cases hh
      cases rest with
      | nil => simp only at e; cases e; exact ctl hpl rfl
      | cons o rest =>
        obtain ⟨ht, hi, hbs⟩ := plain hpl
        have Hd : Head φ S.top fr all o := Head.plain ht (by rw [htd]; exact hi) htd
        simp only [Option.bind_eq_some_iff] at e
        obtain ⟨c, hw, e⟩ := e
        cases c with
        | true => exact oper_head K.names K.ext K.sum R hm Hd hw e
        | false =>
          simp only [cond_false, Option.map_eq_some_iff] at e
          obtain ⟨t, ef, rfl⟩ := e
          exact skip_head R hm Hd hw ef
    | draw all left quiet =>
      cases left with
      | nil => simp only at e; cases e; exact draw_end R hm htd
      | cons io left =>
        obtain ⟨i, o⟩ := io
        simp only at e
        split at e
        · rename_i i2 o2 left' htake
          simp only [Option.bind_eq_some_iff, Option.map_eq_some_iff] at e
          obtain ⟨⟨v, h2⟩, ⟨c, hw, hv⟩, f, hp, rfl⟩ := e
          obtain ⟨bs2, R2⟩ := eager_step R hm htd htake hw hv hp
          exact Follows.stay R2
        · rename_i htake
          obtain ⟨hr, e⟩ := cond_some e
          simp only [Option.bind_eq_some_iff] at e
          obtain ⟨c, hw, e⟩ := e
          obtain ⟨fr1, w1, ψ, bs2, h1, R1, h3, h4, Hd⟩ := joint R hm htd htake hr
          refine Follows.after h1 h3 h4 ?_
          cases c with
          | true => exact oper_head K.names K.ext K.sum R1 hm Hd hw e
          | false =>
            simp only [cond_false, Option.map_eq_some_iff] at e
            obtain ⟨t, ef, rfl⟩ := e
            exact skip_head R1 hm Hd hw ef
    | inRangeFunc l => simp only at e; cases e
    | endRangeFunc l =>
      simp only at e
      split at e
      · rename_i st pending fn nt tmps params assign body ds hg
        split at e
        · cases e
        · rename_i hst
          cases e
          exact end_range R hm htd hg (fun hh => hst hh)
      · cases e
    | beginRound =>
      simp only at e
      split at e
      · rename_i l hro
        split at e
        · rename_i pending fn nt tmps params assign body ds hg
          cases e
          exact begin_round R hm htd hro hg
        · cases e
      · cases e

theorem step_sound (K : AOk A) (R : SR A base B φ S fr cs w bs bs') (e : astep A S = some S') : Follows A base B φ fr cs w S' := by
  unfold astep at e
  cases hm : S.top.mode with
  | run => rw [hm] at e; exact exec_sound K R hm e
  | returning => rw [hm] at e; exact unwind_sound K.names R (by rw [hm]; intro hh; cases hh) e
  | panicking c => rw [hm] at e; exact unwind_sound K.names R (by rw [hm]; intro hh; cases hh) e

end Go.Ab
end
