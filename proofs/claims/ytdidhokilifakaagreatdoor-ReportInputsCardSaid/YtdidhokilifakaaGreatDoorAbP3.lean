/- Part of the proof that ReportInputs gives true at every text. -/
import Derived.Test.YtdidhokilifakaaGreatDoorAbP2
import GoSem.Extern.Table
import Derived.Calls

section
namespace Go.Ab
open Go.RowKit
variable {A : AProg} {P : Program} {B : Nat} {φ : Ren} {h h' : AHeap} {w w' : World}

theorem decode_ascii {s : ByteArray} {pos : Nat} {b : UInt8} (e : s.data.toList[pos]? = some b) (hb : b.toNat < 128) : Utf8.decode s pos = (b.toNat, 1) := by
  have hg : s.get! (pos + 0) = b := by
    rw [Nat.add_zero]
    have : s.data[pos]? = some b := by rw [← Array.getElem?_toList]; exact e
    show s.data[pos]! = b
    rw [getElem!_def, this]
  unfold Utf8.decode
  simp only [hg]
  rw [if_pos (by simpa using hb)]

theorem next_str {r : Nat} {s : List UInt8} {pos : Nat} {i : Info} {ty : TypeId} {v : Value} (H : HR B φ h w) (hn : h.next ≤ bound) (hr : h.get r = some (.strIter s pos)) (hi : φ r = some i)
    (e : (match s[pos]? with
      | some b => cond (Nat.blt b.toNat 128) (some (Value.tuple #[.bool true, .int .i64 (pos : Int), .int .i32 (.ofNat b.toNat)], h.set r (.strIter s (pos + 1)))) none
      | none => some (Value.tuple #[.bool false], h)) = some (v, h')) :
    ∃ v' w', (Instr.next (.pointer (some ⟨i.blk, 0, none⟩)) true ty).run P w = .ok v' w' ∧ Did B φ h h' w v v' w' φ := by
  have hown := H.own _ _ _ hr hi rfl
  have o1 := H.obj _ _ _ hr hi
  cases o1 with
  | strIter p1 p2 p3 =>
  rename_i s'
  subst p2
  have hsz : s'.size = s'.data.toList.length := (Array.length_toList).symm
  cases hb : s'.data.toList[pos]? with
  | none =>
    rw [hb] at e
    cases e
    refine ⟨.tuple #[.bool false], w, ?_, ⟨H, Ren.le.refl φ, fun _ _ => rfl, .tuple (.cons (.bool _) .nil), Below.refl _ _, Nat.le_refl _, hn⟩⟩
    have : ¬ pos < s'.size := by rw [hsz]; have := List.getElem?_eq_none_iff.mp hb; omega
    unfold Instr.next
    change Sem.run P (getObj i.blk >>= _) w = _
    rw [run_bind_ok (run_getIter p1 (by intro c t f hh; cases hh))]
    dsimp only
    rw [if_neg this]; rfl
  | some b =>
    rw [hb] at e
    simp only at e
    cases hlt : Nat.blt b.toNat 128 with
    | false => rw [hlt] at e; cases e
    | true =>
      rw [hlt] at e
      cases e
      have hlt : b.toNat < 128 := by simpa [Nat.blt_eq] using hlt
      have hps : pos < s'.size := by rw [hsz]; exact (List.getElem?_eq_some_iff.mp hb).1
      have hlt' := heap_lt p1
      refine ⟨.tuple #[.bool true, goInt pos, .int .i32 (b.toNat : Int)], { w with heap := w.heap.setIfInBounds i.blk (.stringIter s' (pos + 1)) }, ?_, ⟨?_, Ren.le.refl φ, fun _ _ => rfl, .tuple (.cons (.bool _) (.cons (.int _ _) (.cons (.int _ _) .nil))), below_set _ hown, Nat.le_refl _, hn⟩⟩
      · unfold Instr.next
        change Sem.run P (getObj i.blk >>= _) w = _
        rw [run_bind_ok (run_getIter p1 (by intro c t f hh; cases hh))]
        dsimp only
        rw [if_pos hps, decode_ascii hb hlt]
        dsimp only
        rw [run_bind_ok (run_setObj p1 (by intro c t f hh; cases hh))]; rfl
      · refine H.put hr hi rfl hn ?_
        exact .strIter (s' := s') (by simp [hlt']) rfl p3

theorem next_sound (H : HR B φ h w) (hn : h.next ≤ bound) {x x' v : Value} {isStr : Bool} {ty : TypeId} (hx : VR φ x x') (e : nextV h x isStr = some (v, h')) :
    ∃ v' w' ψ, (Instr.next x' isStr ty).run P w = .ok v' w' ∧ Did B φ h h' w v v' w' ψ := by
  unfold nextV at e
  split at e
  · rename_i a
    obtain ⟨i, hi, ha, rfl⟩ := hx.ptr_inv
    cases h0 : Nat.beq a.off 0 with
    | false => rw [h0] at e; cases e
    | true =>
      rw [h0] at e
      have h0 := Nat.eq_of_beq_eq_true h0
      rw [h0]
      simp only [cond_true] at e
      split at e
      · rename_i s pos hr
        cases isStr with
        | false => cases e
        | true =>
          have hb : i.base = 0 := by
            have o1 := H.obj _ _ _ hr hi
            cases o1 with | strIter _ _ p3 => exact p3
          rw [hb]
          obtain ⟨v', w', q⟩ := next_str (P := P) (ty := ty) H hn hr hi e
          exact ⟨v', w', φ, q⟩
      · rename_i m since seen stepped hr
        cases isStr with
        | true => cases e
        | false =>
          simp only [cond_false] at e
          unfold mapNextV at e
          have o1 := H.obj _ _ _ hr hi
          split at e
          · cases e
            cases o1 with
            | mapIterN p1 p2 p3 =>
            refine ⟨.tuple #[.bool false], w, φ, ?_, ⟨H, Ren.le.refl φ, fun _ _ => rfl, .tuple (.cons (.bool _) .nil), Below.refl _ _, Nat.le_refl _, hn⟩⟩
            rw [p3]
            unfold Instr.next
            change Sem.run P (getObj i.blk >>= _) w = _
            rw [run_bind_ok (run_getIter p1 (by intro c t f hh; cases hh))]
            rfl
          · rename_i mb
            split at e
            · rename_i es clock hm
              cases hg : (!seen.isEmpty && !es.isEmpty && es.all fun e => Nat.ble stepped e.born) with
              | true => rw [hg] at e; cases e
              | false =>
                rw [hg] at e
                simp only [cond_false] at e
                split at e
                · rename_i c hc
                  have e' := Option.some.inj e
                  cases o1 with
                  | mapIter p0 p1 p2 p3 =>
                    rename_i j seen'
                    obtain ⟨c', hc', v', w', q⟩ := next_core (P := P) (ty := ty) H hn hr hm hi p0 hg
                    rw [hc] at hc'
                    simp only [List.mem_singleton] at hc'
                    subst hc'
                    rw [p3]
                    rw [e'] at q
                    exact ⟨v', w', φ, q.1, q.2⟩
                · cases e
            · cases e
      · cases e
  · cases e

theorem ERL.find {es es' : List MapEntry} (he : ERL φ es es') {p q : MapEntry → Bool} (hpq : ∀ e e', ER φ e e' → p e = q e') {e : MapEntry} (h : es.find? p = some e) : ∃ e', es'.find? q = some e' ∧ ER φ e e' := by
  induction he with
  | nil => cases h
  | cons h1 _ ih =>
    simp only [List.find?_cons] at h ⊢
    rw [← hpq _ _ h1]
    split at h
    · cases h; exact ⟨_, rfl, h1⟩
    · exact ih h

theorem entry_sound (H : HR B φ h w) {x x' v : Value} (hx : VR φ x x') (e : entryV h x = some v) : ∃ v', (Instr.entry x').run P w = .ok v' w ∧ VR φ v v' := by
  unfold entryV at e
  split at e
  · rename_i a
    obtain ⟨i, hi, ha, rfl⟩ := hx.ptr_inv
    cases h0 : Nat.beq a.off 0 with
    | false => rw [h0] at e; cases e
    | true =>
      rw [h0] at e
      have h0 := Nat.eq_of_beq_eq_true h0
      rw [h0]
      simp only [cond_true] at e
      split at e
      · rename_i m since seen stepped hr
        have o1 := H.obj _ _ _ hr hi
        cases o1 with
        | mapIter p0 p1 p2 p3 =>
        rename_i j seen'
        rw [p3]
        split at e
        · rename_i es clock stamp hm hs
          have o2 := H.obj _ _ _ hm p0
          cases o2 with
          | map q1 q2 =>
          rename_i es'
          cases hc : Nat.beq clock stepped with
          | false => rw [hc] at e; cases e
          | true =>
            rw [hc] at e
            have hc := Nat.eq_of_beq_eq_true hc
            subst hc
            simp only [cond_true, Option.map_eq_some_iff] at e
            obtain ⟨en, hen, rfl⟩ := e
            obtain ⟨e', he', hE⟩ := q2.find (q := fun e => e.born == stamp) (fun a b hab => by rw [hab.2.2]) hen
            refine ⟨.tuple #[e'.key, e'.val], ?_, .tuple (.cons hE.1 (.cons hE.2.1 .nil))⟩
            unfold Instr.entry
            change Sem.run P (getObj i.blk >>= _) w = _
            rw [run_bind_ok (run_getIter p1 (by intro c t f hh; cases hh))]
            dsimp only
            have hbk : seen'.back? = some stamp := by
              rw [← Array.getLast?_toList, p2]; exact hs
            rw [hbk]
            dsimp only
            rw [run_bind_ok (run_getObj q1)]
            dsimp only
            rw [if_neg (by simp)]
            have hf : es'.find? (fun e => e.born == stamp) = some e' := by
              rw [← Array.find?_toList]; exact he'
            rw [hf]
            rfl
        · cases e
      · cases e
  · cases e

end Go.Ab
end

section
namespace Go.Ab
open Go.RowKit
variable {A : AProg} {P : Program} {B : Nat} {φ : Ren} {h h' : AHeap} {w w' : World}

theorem byteOf_inv {v v' : Value} {b : UInt8} (hv : VR φ v v') (e : byteOf? v = some b) : ∃ m : Nat, v' = .int .u8 (Int.ofNat m) ∧ b = UInt8.ofNat m := by
  unfold byteOf? at e
  split at e
  · rename_i m
    cases e
    obtain rfl := hv.int_inv
    exact ⟨m, rfl, rfl⟩
  · cases e

theorem bytes_loop : ∀ (l l' : List Value) (bs : List UInt8) (s : ByteArray), VRL φ l l' → l.mapM byteOf? = some bs →
    (forIn l' s fun (c : Value) (s : ByteArray) => (do
      let .int .u8 n := c | stuck "bytesToString: byte expected"
      pure (ForInStep.yield (s.push (UInt8.ofNat n.toNat))) : Sem (ForInStep ByteArray))).run P w = .ok (mk (s.data.toList ++ bs)) w := by
  intro l
  induction l with
  | nil =>
    intro l' bs s hl e
    cases hl
    simp at e
    subst e
    simp only [List.forIn_nil, List.append_nil]
    rfl
  | cons v l ih =>
    intro l' bs s hl e
    cases hl with
    | cons hv hl =>
      rw [List.mapM_cons] at e
      simp only [Option.bind_eq_bind, Option.bind_eq_some_iff] at e
      obtain ⟨b, hb, bs', hbs, e⟩ := e
      cases e
      obtain ⟨m, rfl, rfl⟩ := byteOf_inv hv hb
      rw [List.forIn_cons]
      rw [run_bind_ok (a := ForInStep.yield (s.push (UInt8.ofNat m))) (w' := w) rfl]
      dsimp only
      rw [ih _ _ _ hl hbs]
      congr 2
      simp [ByteArray.push]

theorem bytesToString_sound (H : HR B φ h w) {b off n : Nat} {l : List Value} {bs : List UInt8} {i : Info} (hl : loadN h b off n = some l) (hi : φ b = some i) (e : l.mapM byteOf? = some bs) (c : Nat) :
    (Conv.bytesToString (.slice (some ⟨i.blk, i.base + off, none⟩) n c)).run P w = .ok (str bs) w := by
  obtain ⟨l', h1, h2⟩ := H.loadN (P := P) hl hi
  unfold Conv.bytesToString
  dsimp only
  rw [run_bind_ok h1]
  rw [← Array.forIn_toList]
  have := bytes_loop (P := P) (w := w) l l' bs ByteArray.empty h2 e
  exact (run_bind_ok (w' := w) (a := mk (ByteArray.empty.data.toList ++ bs)) this).trans rfl

theorem run_mark {arr : Array Value} {e : TypeId} : (markStringish ⟨w.heap.size, 0, none⟩).run P { w with heap := w.heap.push (.cells arr e) } =
    .ok () { w with heap := w.heap.push (.cells arr e (arr.size, arr.size + 1)) } := by
  unfold markStringish shape freeze
  simp only [Sem.run_bind, Sem.run, World.shape?, Array.getElem?_push_size, Result.andThen_ok, World.freeze]
  simp only [Nat.one_ne_zero, if_false, Result.ok.injEq, World.mk.injEq, true_and, and_true]
  apply Array.ext
  · simp
  · intro k h1 h2
    simp only [Array.size_push] at h2
    rw [Array.getElem_modify, Array.getElem_push, Array.getElem_push]
    by_cases hk : k < w.heap.size
    · rw [if_neg (by omega), dif_pos hk, dif_pos hk]
    · rw [if_pos (by omega), dif_neg hk, dif_neg hk]
      simp
theorem run_cap2 (need old : Nat) (e : TypeId) : ∃ c, need ≤ c ∧ (choose (.appendCap need old e)).run P w = .ok c { w with drawn := w.drawn + 1 } :=
  ⟨_, Nat.le_add_right _ _, rfl⟩

theorem bytes_vr (l : List UInt8) : VRL φ (l.map fun b => Value.int .u8 (.ofNat b.toNat)) (l.map fun b => Value.int .u8 b.toNat) := by
  induction l with
  | nil => exact .nil
  | cons b l ih => exact .cons (.int _ _) ih

theorem toBytes_sound (H : HR B φ h w) (hB : B ≤ w.heap.size) {e b : Nat} {s : ByteArray}
    (hnew : h.new (.cells ((bl s).map fun b => .int .u8 (.ofNat b.toNat)) e 1 false false) = some (b, h')) :
    ∃ v' w' ψ, (Conv.stringToBytes e s).run P w = .ok v' w' ∧ Did B φ h h' w (.slice (some ⟨b, 0, none⟩) (bl s).length (2 * (bl s).length + 1)) v' w' ψ := by
  obtain ⟨c, hc1, hc2⟩ := run_cap2 (P := P) (w := w) s.size 0 e
  have hsl : (bl s).length = s.size := Array.length_toList
  let arr : Array Value := (s.data.map fun b => Value.int .u8 b.toNat) ++ Array.replicate (c - s.size) (.int .u8 0)
  have hsz : arr.size = c := by
    simp only [arr, Array.size_append, Array.size_map, Array.size_replicate]
    show s.size + (c - s.size) = c
    omega
  let w1 : World := { w with drawn := w.drawn + 1 }
  refine ⟨.slice (some ⟨w.heap.size, 0, none⟩) s.size c, { w1 with heap := w1.heap.push (.cells arr e (arr.size, arr.size + 1)) }, φ.add b ⟨w1.heap.size, 0, arr.size, 1⟩, ?_, ?_⟩
  · unfold Conv.stringToBytes
    rw [run_bind_ok hc2, run_bind_ok (run_newRow e arr)]
    rw [run_bind_ok (run_mark (w := w1))]
    rfl
  · refine Did.after (w1 := w1) below_drew (Did.push (f := fun b => .slice (some ⟨b, 0, none⟩) (bl s).length (2 * (bl s).length + 1)) (H.drew) hnew hB rfl ?_)
    intro ψ hle hb
    have hv := bytes_vr (φ := ψ) (bl s)
    constructor
    · refine .cells (arr := arr) (fr := (arr.size, arr.size + 1)) (by simp [w1]) rfl rfl ?_ ?_ ?_ (by simp)
      · simp only [List.length_map, hsl, hsz]; omega
      · intro k v ek
        obtain ⟨v', e', hv'⟩ := hv.get ek
        refine ⟨v', ?_, hv'⟩
        have hk : k < (bl s).length := by
          have := (List.getElem?_eq_some_iff.mp e').1
          simpa using this
        show arr[0 + k]? = some v'
        rw [Nat.zero_add]
        simp only [arr]
        rw [Array.getElem?_append_left (by rw [Array.size_map]; show k < s.size; omega)]
        rw [← Array.getElem?_toList, Array.toList_map]
        exact e'
      · intro _ k hk hh
        have hk : k < arr.size := hk
        have := hh.1
        simp only at this
        omega
    · rw [hsl]
      refine .sliceU hb hc1 (Nat.le_refl _) (fun _ => rfl) ?_
      simp only [hsz]; omega

theorem conv_sound (H : HR B φ h w) (hn : h.next ≤ bound) (hB : B ≤ w.heap.size) {s d : TypeId} {x x' v : Value} (hx : VR φ x x') (e : convV A.P h s d x = some (v, h')) :
    ∃ v' w' ψ, (convert s d x').run A.P w = .ok v' w' ∧ Did B φ h h' w v v' w' ψ := by
  unfold convV at e
  unfold convert
  split at e
  · -- numbers
    rename_i k0 k n0 n hu1 hu2
    cases e
    obtain rfl := hx.int_inv
    rw [run_bind_ok (run_und hu1), run_bind_ok (run_und hu2)]
    refine ⟨_, w, φ, rfl, Did.same H hn ?_⟩
    rw [wrapK_eq]; exact .int _ _
  · rename_i s0 hu1 hu2
    cases e
    obtain rfl := hx.str_inv
    rw [run_bind_ok (run_und hu1), run_bind_ok (run_und hu2)]
    exact ⟨_, w, φ, rfl, Did.same H hn (.string _)⟩
  · rename_i e0 s0 hu1 hu2
    obtain rfl := hx.str_inv
    rw [run_bind_ok (run_und hu1), run_bind_ok (run_und hu2)]
    split at e
    · rename_i hu3
      simp only [Option.map_eq_some_iff] at e
      obtain ⟨q, hq, e⟩ := e
      obtain ⟨b, h1⟩ := q
      cases e
      dsimp only
      rw [run_bind_ok (run_und hu3)]
      exact toBytes_sound H hB hq
    · cases e
  · rename_i e0 a n c hu1 hu2
    split at e
    · rename_i hu3
      split at e
      · cases e
        obtain ⟨rfl, rfl, rfl⟩ := hx.nilSlice_inv
        rw [run_bind_ok (run_und hu1), run_bind_ok (run_und hu2)]
        dsimp only
        rw [run_bind_ok (run_und hu3)]
        exact ⟨_, w, φ, rfl, Did.same H hn (.string _)⟩
      · rename_i a
        simp only [Option.bind_eq_some_iff, Option.map_eq_some_iff] at e
        obtain ⟨l, hl, bs, hbs, e⟩ := e
        cases e
        obtain ⟨i, o', c', hi, haa, rfl, hcase⟩ := hx.slice_inv
        rw [run_bind_ok (run_und hu1), run_bind_ok (run_und hu2)]
        dsimp only
        rw [run_bind_ok (run_und hu3)]
        refine ⟨_, w, φ, ?_, Did.same H hn (.string (mk bs))⟩
        by_cases h0 : n = 0
        · subst h0
          have : l = [] := by have := loadN_len hl; simpa using this
          subst this
          simp at hbs; subst hbs
          rfl
        · have ho : o' = i.base + a.off := by
            rcases hcase with ⟨_, h2⟩ | ⟨lb, _, _, h3, h4, _⟩
            · exact h2
            · exact h4 (by omega)
          rw [ho]
          exact bytesToString_sound H hl hi hbs c'
    · cases e
  · -- to unsafe.Pointer
    rename_i t a hu1 hu2
    split at e
    · rename_i c e0 s0 ro x m hg hs
      cases hlt : Nat.blt a.off c.length with
      | false => rw [hlt] at e; cases e
      | true =>
        rw [hlt] at e
        cases e
        have hlt : a.off < c.length := by simpa [Nat.blt_eq] using hlt
        obtain ⟨i, hi, haa, rfl⟩ := hx.ptr_inv
        rw [run_bind_ok (run_und hu1), run_bind_ok (run_und hu2)]
        have ho := H.obj _ _ _ hg hi
        cases ho with
        | cells h1 h2 h3 h4 h5 h6 h7 =>
        rename_i arr fr
        refine ⟨_, w, φ, ?_, Did.same H hn (by rw [haa]; exact .ptr hi)⟩
        show (Conv.unsafePointer s d (.pointer (some ⟨i.blk, i.base + a.off, none⟩))).run A.P w = _
        unfold Conv.unsafePointer
        rw [run_bind_ok (run_und hu1), run_bind_ok (run_und hu2)]
        dsimp only
        have hsh : w.shape? i.blk = some (e0, arr.size) := by simp [World.shape?, h1]
        rw [run_bind_ok (a := ⟨i.blk, i.base + a.off, none⟩) (w' := w) (by
          unfold Conv.seenAt viewAt
          simp only [Sem.run_bind, shape, Sem.run, hsh, Result.andThen_ok, Option.isSome_some, if_true]
          rfl)]
        rw [run_bind_ok (a := some arr.size) (w' := w) (by
          unfold cellsIn
          simp only [Sem.run_bind, shape, Sem.run, hsh, Result.andThen_ok]
          rfl)]
        dsimp only
        rw [run_bind_ok (run_size hs)]
        rw [if_neg (by simp; omega)]
        rfl
    · cases e
  · -- from unsafe.Pointer
    rename_i u a hu1 hu2
    split at e
    · rename_i c e0 s0 ro m hg hs
      cases hlt : liesAt A.P A.P.depth e0 (c.length / A.P.cellsOf e0) a.off u 1 with
      | false => rw [hlt] at e; cases e
      | true =>
        rw [hlt] at e
        cases e
        obtain ⟨i, hi, haa, rfl⟩ := hx.ptr_inv
        rw [run_bind_ok (run_und hu1), run_bind_ok (run_und hu2)]
        have ho := H.obj _ _ _ hg hi
        cases ho with
        | cells h1 h2 h3 h4 h5 h6 h7 =>
        rename_i arr fr
        obtain ⟨hb0, hbs⟩ := h7 rfl
        refine ⟨_, w, φ, ?_, Did.same H hn (by rw [haa]; exact .ptr hi)⟩
        show (Conv.unsafePointer s d (.pointer (some ⟨i.blk, i.base + a.off, none⟩))).run A.P w = _
        unfold Conv.unsafePointer
        rw [run_bind_ok (run_und hu1), run_bind_ok (run_und hu2)]
        dsimp only
        have hsh : w.shape? i.blk = some (e0, arr.size) := by simp [World.shape?, h1]
        rw [run_bind_ok (a := ⟨i.blk, i.base + a.off, none⟩) (w' := w) (by
          unfold Conv.seenAt viewAt
          simp only [Sem.run_bind, shape, Sem.run, hsh, Result.andThen_ok, Option.isSome_some, if_true]
          rfl)]
        rw [run_bind_ok (run_size hs)]
        rw [run_bind_ok (a := true) (w' := w) (by
          unfold variablesAt
          simp only [Sem.run_bind, shape, program, Sem.run, hsh, Result.andThen_ok]
          rw [h2, hbs, hb0, Nat.zero_add, hlt]; rfl)]
        rw [if_pos (by simp)]
        rfl
    · cases e
  · cases e

end Go.Ab
end

section
namespace Go.Ab
open Go.RowKit
variable {A : AProg} {P : Program} {B : Nat} {φ : Ren} {h h' : AHeap} {w w' : World}

theorem cond_some {α : Type} {c : Bool} {x : Option α} {v : α} (e : cond c x none = some v) : c = true ∧ x = some v := by
  cases c with
  | false => cases e
  | true => exact ⟨rfl, e⟩

theorem lies_bytes {e : TypeId} (hc : P.cellsOf e = 1) (count off n : Nat) (hn : off + n ≤ count) : liesAt P P.depth e count off e n = true := by
  unfold Program.depth
  rw [show 2 * (P.types.size + Made.depth) + 2 = (2 * (P.types.size + Made.depth) + 1) + 1 from rfl]
  generalize 2 * (P.types.size + Made.depth) + 1 = d
  unfold liesAt
  have hr : rowAt P (sameLayout P P.depth · e) P.depth e count off n = true := by
    unfold Program.depth
    rw [show 2 * (P.types.size + Made.depth) + 2 = (2 * (P.types.size + Made.depth) + 1) + 1 from rfl]
    generalize 2 * (P.types.size + Made.depth) + 1 = d
    unfold rowAt
    simp only [hc]
    rw [if_neg (by decide)]
    have hs : sameLayout P (d + 1) e e = true := by unfold sameLayout; simp
    simp [hs, hn, Nat.mod_one]
  rw [hr]; rfl

theorem run_loadBytes {b : Nat} {arr : Array Value} {e : TypeId} {fr : Nat × Nat} (hb : w.heap[b]? = some (.cells arr e fr)) :
    ∀ (n o : Nat) (acc : ByteArray) (l : List Value) (bs : List UInt8), o + n ≤ arr.size → VRL φ l ((arr.toList.drop o).take n) → l.mapM byteOf? = some bs →
      (loadBytes ⟨b, o, none⟩ acc n).run P w = .ok (mk (acc.data.toList ++ bs)) w := by
  intro n
  induction n with
  | zero =>
    intro o acc l bs _ hl e
    rw [List.take_zero] at hl
    cases hl
    simp at e; subst e
    simp only [List.append_nil]; rfl
  | succ n ih =>
    intro o acc l bs hn hl e
    have hlt : o < arr.size := by omega
    have hd : arr.toList.drop o = arr[o] :: arr.toList.drop (o + 1) := by
      rw [List.drop_eq_getElem_cons (by simpa using hlt)]; simp
    rw [hd, List.take_succ_cons] at hl
    cases hl with
    | cons hv hl =>
      rw [List.mapM_cons] at e
      simp only [Option.bind_eq_bind, Option.bind_eq_some_iff] at e
      obtain ⟨x, hx, bs', hbs, e⟩ := e
      cases e
      obtain ⟨m, hm, rfl⟩ := byteOf_inv hv hx
      unfold loadBytes
      rw [run_bind_ok (run_load (v := .int .u8 (Int.ofNat m)) (by rw [cell_of hb, ← hm]; simp [hlt]))]
      dsimp only
      have := ih (o + 1) (acc.push (Int.ofNat m).toNat.toUInt8) _ _ (by omega) hl hbs
      rw [add_none]
      rw [this]
      congr 2
      simp [ByteArray.push]

theorem sliceData_sound {args : List Value} {args' : Array Value} {ts : Array TypeId} {ty : TypeId} {v : Value} (_H : HR B φ h w) (ha : VRL φ args args'.toList) (e : sliceDataV args = some v) :
    ∃ v', (Builtin.unsafeSliceData_ ts ty args').run P w = .ok v' w ∧ VR φ v v' := by
  unfold sliceDataV at e
  obtain ⟨args'⟩ := args'
  simp only at ha
  split at e
  · cases e
    cases ha with
    | cons hv hl =>
      cases hl
      obtain ⟨rfl, rfl, rfl⟩ := hv.nilSlice_inv
      exact ⟨_, rfl, .nilPtr⟩
  · rename_i a n c
    cases hlt : Nat.blt 0 (c / 2) with
    | false => rw [hlt] at e; cases e
    | true =>
      rw [hlt] at e
      cases e
      have hlt : 0 < c / 2 := by simpa [Nat.blt_eq] using hlt
      cases ha with
      | cons hv hl =>
        cases hl
        obtain ⟨i, o', c', hi, haa, rfl, hcase⟩ := hv.slice_inv
        have : c' ≠ 0 ∧ o' = i.base + a.off := by
          rcases hcase with ⟨h1, h2⟩ | ⟨lb, h1, h2, h3, h4, _⟩
          · exact ⟨by omega, h2⟩
          · exact ⟨by omega, h4 (by omega)⟩
        refine ⟨.pointer (some ⟨i.blk, o', none⟩), ?_, by rw [haa, this.2]; exact .ptr hi⟩
        unfold Builtin.unsafeSliceData_
        change Sem.run P (if c' ≠ 0 then _ else _) w = _
        rw [if_pos this.1]; rfl
  · cases e

theorem unsafeString_sound {args : List Value} {args' : Array Value} {ts : Array TypeId} {ty : TypeId} {v : Value} (H : HR B φ h w) (hn : h.next ≤ bound) (ha : VRL φ args args'.toList)
    (e : unsafeStringV A h ts.toList args = some (v, h')) :
    ∃ v' w' ψ, (Builtin.unsafeString_ ts ty args').run A.P w = .ok v' w' ∧ Did B φ h h' w v v' w' ψ := by
  unfold unsafeStringV at e
  obtain ⟨args'⟩ := args'
  simp only at ha
  split at e
  · rename_i k n t0 at0 ht
    have t0 : ts[0]? = some t0 := by rw [← Array.getElem?_toList, ht]; rfl
    cases hz : ieq n 0 with
    | false => rw [hz] at e; cases e
    | true =>
      rw [hz] at e
      cases e
      have hz : n = 0 := by simpa [ieq_eq] using hz
      subst hz
      cases ha with
      | cons hv hl =>
        cases hl with
        | cons hv2 hl =>
        cases hl
        obtain rfl := hv.nilPtr_inv
        obtain rfl := hv2.int_inv
        refine ⟨.string .empty, w, φ, ?_, Did.same H hn (.string _)⟩
        unfold Builtin.unsafeString_
        change Sem.run A.P (asInt (.int k 0) >>= _) w = _
        rw [run_bind_ok (show (asInt (.int k 0)).run A.P w = .ok 0 w from rfl), t0]
        dsimp only
        rw [if_neg (by decide), if_neg (by decide)]
        simp only
        rw [if_pos trivial]; rfl
  · rename_i a k n tt at0 ht
    have t0 : ts[0]? = some tt := by rw [← Array.getElem?_toList, ht]; rfl
    cases ha with
    | cons hv hl =>
    cases hl with
    | cons hv2 hl =>
    cases hl
    obtain ⟨i, hi, haa, rfl⟩ := hv.ptr_inv
    obtain rfl := hv2.int_inv
    cases hz : Nat.beq n 0 with
    | true =>
      rw [hz] at e
      cases e
      have hz := Nat.eq_of_beq_eq_true hz
      subst hz
      refine ⟨.string .empty, w, φ, ?_, Did.same H hn (.string _)⟩
      unfold Builtin.unsafeString_
      change Sem.run A.P (asInt (.int k (Int.ofNat 0)) >>= _) w = _
      rw [run_bind_ok (show (asInt (.int k (Int.ofNat 0))).run A.P w = .ok 0 w from rfl), t0]
      dsimp only
      rw [if_neg (by decide), if_neg (by decide)]
      simp only
      rw [if_pos trivial]; rfl
    | false =>
      rw [hz] at e
      have hz := Nat.ne_of_beq_eq_false hz
      simp only [cond_false] at e
      cases hlt : Nat.blt n 1048576 with
      | false => rw [hlt] at e; cases e
      | true =>
        rw [hlt] at e
        have hlt : n < 1048576 := by simpa [Nat.blt_eq] using hlt
        simp only [cond_true] at e
        split at e
        · rename_i u c e0 x hu hg
          obtain ⟨hc, e⟩ := cond_some e
          simp only [Option.bind_eq_some_iff, Option.map_eq_some_iff] at e
          obtain ⟨l, hl, bs, hbs, e⟩ := e
          cases e
          rw [Bool.and_eq_true] at hc
          obtain ⟨hc1, hc2⟩ := hc
          have hc1 := Nat.eq_of_beq_eq_true hc1
          subst hc1
          have hsz : size? A.P u = some 1 := by
            split at hc2
            · assumption
            · cases hc2
          have hcell : A.P.cellsOf u = 1 := by
            obtain ⟨inf, h1, h2⟩ := info_of_size hsz
            unfold Program.cellsOf; rw [h1]; simpa using h2
          have ho := H.obj _ _ _ hg hi
          have hown := H.own _ _ _ hg hi rfl
          cases ho with
          | cells h1 h2 h3 h4 h5 h6 h7 =>
          rename_i arr fr
          have hread : i.base + a.off + n ≤ arr.size ∧ VRL φ l ((arr.toList.drop (i.base + a.off)).take n) := by
            obtain ⟨c2, e2, s2, ro2, x2, ⟨hb2, rfl, hn2⟩ | ⟨_, _, _, _, _, hb2, rfl, rfl⟩⟩ := loadN_inv hl
            · rw [hg] at hb2; cases hb2
              obtain ⟨arr2, fr2, k1, k2, k3⟩ := (H.obj _ _ _ hg hi).read hn2
              rw [h1] at k1; cases k1
              exact ⟨k2, k3⟩
            · exact absurd rfl hz
          have hblt := heap_lt h1
          let fr' : Nat × Nat := if fr.1 == fr.2 then (i.base + a.off, i.base + a.off + n) else (min fr.1 (i.base + a.off), max fr.2 (i.base + a.off + n))
          have hfr : w.freeze ⟨i.blk, i.base + a.off, none⟩ n = { w with heap := w.heap.setIfInBounds i.blk (.cells arr u fr') } := by
            unfold World.freeze
            rw [if_neg hz]
            congr 1
            apply Array.ext
            · simp
            · intro k h1' h2'
              rw [Array.getElem_modify, Array.getElem_setIfInBounds]
              · by_cases hk : i.blk = k
                · subst hk
                  have : w.heap[i.blk] = .cells arr u fr := by
                    have := h1; rw [Array.getElem?_eq_getElem hblt] at this; exact Option.some.inj this
                  simp [this, fr']
                · simp [hk]
              · simpa using h2'
          refine ⟨.string (mk bs), { w with heap := w.heap.setIfInBounds i.blk (.cells arr u fr') }, φ, ?_, ⟨?_, Ren.le.refl φ, fun _ _ => rfl, .string _, below_set _ hown, Nat.le_refl _, hn⟩⟩
          · unfold Builtin.unsafeString_
            change Sem.run A.P (asInt (.int k (Int.ofNat n)) >>= _) w = _
            rw [run_bind_ok (show (asInt (.int k (Int.ofNat n))).run A.P w = .ok (n : Int) w from rfl), t0]
            dsimp only
            rw [if_neg (by omega), if_neg (by have : IntKind.i64.max = 9223372036854775807 := by decide
                                              omega)]
            rw [if_neg (by omega)]
            have hel : (elemOf tt).run A.P w = .ok u w := by
              unfold elemOf
              rw [run_bind_ok (run_und hu)]; rfl
            rw [run_bind_ok hel]
            have hsh : w.shape? i.blk = some (u, arr.size) := by simp [World.shape?, h1]
            rw [run_bind_ok (a := true) (w' := w) (by
              unfold variablesAt
              simp only [Sem.run_bind, shape, program, Sem.run, hsh, Result.andThen_ok]
              rw [hcell, Nat.div_one, Int.toNat_natCast, lies_bytes hcell _ _ _ hread.1]; rfl)]
            rw [if_pos rfl]
            rw [Int.toNat_natCast]
            rw [run_bind_ok (run_loadBytes (φ := φ) h1 n (i.base + a.off) .empty l bs hread.1 hread.2 hbs)]
            rw [run_bind_ok (show (freeze ⟨i.blk, i.base + a.off, none⟩ n).run A.P w = .ok () (w.freeze ⟨i.blk, i.base + a.off, none⟩ n) from rfl), hfr]
            rfl
          · refine H.put hg hi rfl hn ?_
            refine .cells (arr := arr) (fr := fr') (by simp [hblt]) h2 h3 h4 h5 (fun hh => by cases hh) h7
        · cases e
  · cases e

end Go.Ab
end

section
namespace Go.Ab
open Go.RowKit
variable {A : AProg} {P : Program} {B : Nat} {φ : Ren} {h h' : AHeap} {w w' : World}

/-- which row of the model a table entry stands for -/
def RowIs (e : Ext) (ps rs : Array TypeId) (r : Array Value → Sem Value) : Prop :=
  match e with
  | .loadInt k => r = Extern.Atomic.loadT (.int k)
  | .store => r = Extern.Atomic.storeT
  | .cas k => r = Extern.Atomic.casT (.int k)
  | .addInt k => r = Extern.Atomic.update (Op.intArith .add) k true
  | .indexByte => r = Extern.BytealgIndexByte.indexByte
  | .count => r = Extern.BytealgCount.count
  | .same => r = Extern.AbiNoEscape.same
  | .mark0 => ∃ m, r = fun _ => do mark m; pure (.tuple #[])
  | .mark1 => ∃ m, r = Extern.Race.marked m
  | .makeNoZero => r = Extern.BytealgMakeNoZero.makeNoZero ps rs

theorem HR.cell (H : HR B φ h w) {b off : Nat} {v : Value} {i : Info} (e : Ab.loadN h b off 1 = some [v]) (hi : φ b = some i) :
    ∃ v', w.cell? ⟨i.blk, i.base + off, none⟩ = some v' ∧ VR φ v v' := by
  obtain ⟨c, e', s, ro, x, ⟨hb, hl, hn⟩ | ⟨_, _, _, _, _, hb, h0, hl⟩⟩ := loadN_inv e
  · obtain ⟨arr, fr, h1, h2, h3⟩ := (H.obj _ _ _ hb hi).read hn
    rw [← hl] at h3
    have hlt : i.base + off < arr.size := by omega
    have hd : (arr.toList.drop (i.base + off)).take 1 = [arr[i.base + off]] := by
      rw [List.drop_eq_getElem_cons (by simpa using hlt)]; simp
    rw [hd] at h3
    cases h3 with
    | cons hv _ => exact ⟨_, by rw [cell_of h1]; simp [hlt], hv⟩
  · cases h0

theorem run_loadA {a : Addr} {v : Value} {m : Mode} (h : w.cell? a = some v) : (load a m).run P w = .ok v w := by
  simp [load, Sem.run, h]

theorem HR.store1 (H : HR B φ h w) (hn : h.next ≤ bound) {b off : Nat} {v v' : Value} {i : Info} (e : Ab.storeN h b off [v] = some h') (hi : φ b = some i) (hv : VR φ v v') (m : Mode) :
    w.frozen? ⟨i.blk, i.base + off, none⟩ = false ∧ w.shape? i.blk ≠ none ∧
    ∃ w', (store ⟨i.blk, i.base + off, none⟩ v' m).run P w = .ok () w' ∧ HR B φ h' w' ∧ Below B w w' ∧ h'.next = h.next := by
  have hcell : (∃ x, w.cell? ⟨i.blk, i.base + off, none⟩ = some x) ∧ w.frozen? ⟨i.blk, i.base + off, none⟩ = false ∧ w.shape? i.blk ≠ none := by
    unfold Ab.storeN at e
    split at e
    · rename_i c e' s x hb
      obtain ⟨_, e⟩ := cond_some e
      simp only [Option.map_eq_some_iff] at e
      obtain ⟨c', hs, _⟩ := e
      have hfit := (splice_eq _ _ _ _ hs).1 (by simp)
      simp only [List.length_singleton] at hfit
      have ho := H.obj _ _ _ hb hi
      cases ho with
      | cells h1 h2 h3 h4 h5 h6 h7 =>
        rename_i arr fr
        refine ⟨⟨arr[i.base + off]'(by omega), by rw [cell_of h1]; simp⟩, ?_, by simp [World.shape?, h1]⟩
        rw [frozen_of h1]
        have := h6 rfl (i.base + off) (by omega)
        simp only [Bool.and_eq_false_iff, decide_eq_false_iff_not]; omega
    · cases e
  obtain ⟨⟨x, hx⟩, hf, hsh⟩ := hcell
  obtain ⟨w', h1, h2, h3, h4, _⟩ := H.storeN (P := P) hn e hi (.cons hv .nil)
  refine ⟨hf, hsh, w', ?_, h2, h3, h4⟩
  have hs : (store ⟨i.blk, i.base + off, none⟩ v' .plain).run P w = .ok () w' := by
    unfold storeCells at h1
    rw [run_bind] at h1
    have h0 : Addr.add ⟨i.blk, i.base + off, none⟩ 0 = ⟨i.blk, i.base + off, none⟩ := rfl
    rw [h0] at h1
    cases hr : (store ⟨i.blk, i.base + off, none⟩ v').run P w with
    | ok u w1 => rw [hr] at h1; exact h1
    | halt a w1 => rw [hr] at h1; cases h1
  rw [← hs]
  unfold store
  cases v' <;> first | rfl | (simp only [Sem.run, hx])

theorem read_sound (H : HR B φ h w) {b off : Nat} {k : IntKind} {n : Int} {i : Info} (e : loadN h b off 1 = some [.int k n]) (hi : φ b = some i) :
    (Extern.Atomic.read (.int k) ⟨i.blk, i.base + off, none⟩).run P w = .ok (.int k n) w := by
  obtain ⟨v', h1, h2⟩ := H.cell e hi
  obtain rfl := h2.int_inv
  unfold Extern.Atomic.read
  rw [run_bind_ok (run_loadA h1)]
  dsimp only
  rw [if_pos rfl]; rfl

theorem find_index (s : ByteArray) (c : UInt8) : ∀ (l : List UInt8) (n : Nat), l = s.data.toList.drop n → 
    indexOf c.toNat l n = (match (List.range' n l.length).find? fun i => s[i]! == c with | some i => (i : Int) | none => -1) := by
  intro l
  induction l with
  | nil => intro n _; rfl
  | cons b l ih =>
    intro n hl
    have hlt : n < s.data.toList.length := by
      rcases Nat.lt_or_ge n s.data.toList.length with hh | hh
      · exact hh
      · rw [List.drop_eq_nil_of_le hh] at hl; cases hl
    rw [List.drop_eq_getElem_cons hlt] at hl
    injection hl with hb hl
    have hb' : s[n]! = b := by
      have h1 : n < s.size := by simpa using hlt
      rw [getElem!_pos s n h1, hb]
      rfl
    unfold indexOf
    rw [List.length_cons, List.range'_succ, List.find?_cons, hb']
    cases hc : Nat.beq b.toNat c.toNat with
    | true =>
      have : b = c := UInt8.toNat.inj (Nat.eq_of_beq_eq_true hc)
      subst this; simp
    | false =>
      have hne := Nat.ne_of_beq_eq_false hc
      have : (b == c) = false := by
        rw [beq_eq_false_iff_ne]; intro hh; exact hne (by rw [hh])
      rw [this]
      simpa using ih (n + 1) hl

theorem fold_count (c : UInt8) : ∀ (l : List UInt8) (n : Nat), (countOf c.toNat l n : Int) = l.foldl (fun (n : Int) x => if x == c then n + 1 else n) (n : Int) := by
  intro l
  induction l with
  | nil => intro n; rfl
  | cons b l ih =>
    intro n
    unfold countOf
    rw [List.foldl_cons, ih]
    congr 1
    cases hc : Nat.beq b.toNat c.toNat with
    | true =>
      have : b = c := UInt8.toNat.inj (Nat.eq_of_beq_eq_true hc)
      subst this; simp
    | false =>
      have hne := Nat.ne_of_beq_eq_false hc
      have : (b == c) = false := by
        rw [beq_eq_false_iff_ne]; intro hh; exact hne (by rw [hh])
      rw [this]; rfl

theorem storeT_eq (x y : Value) : Extern.Atomic.storeT #[x, y] = (do store (← asAddr x) y .atomic; pure (.tuple #[])) := rfl
theorem casT_eq (t : Extern.Atomic.T) (x old new : Value) : Extern.Atomic.casT t #[x, old, new] = (do
    let a ← asAddr x
    if ← Extern.Atomic.touchesFrozen a then unsupported (.unsafePointer "a write to bytes that a string shares")
    let eq ← match t, ← Extern.Atomic.read t a, old with
      | _, .int _ x, .int _ y => pure (x == y)
      | .ptr, .pointer x, .pointer y => samePointer x y
      | .int _, .pointer (some _), .int _ 0 | .int _, .int _ 0, .pointer (some _) => pure false
      | .int _, .pointer (some _), _ | .int _, _, .pointer (some _) => unsupported .addressObserved
      | _, _, _ => stuck "atomic.CompareAndSwap: old is no T"
    if eq then store a new .atomic
    pure (.bool eq)) := rfl
theorem update_eq (op : IntKind → Int → Int → Sem Value) (k : IntKind) (b : Bool) (x y : Value) : Extern.Atomic.update op k b #[x, y] = (do
    let a ← asAddr x
    let old ← Extern.Atomic.read (.int k) a
    let new ← op k (← asInt old) (← asInt y)
    store a new .atomic
    pure (if b then new else old)) := rfl

theorem run_viewAt {r : Nat} {q : TypeId × Nat} (e : w.shape? r = some q) : (viewAt r).run P w = .ok none w := by
  unfold viewAt
  simp only [Sem.run_bind, shape, Sem.run, e, Result.andThen_ok, Option.isSome_some, if_true]
  rfl

theorem foldl_loop {β : Type} (s : ByteArray) (f : β → UInt8 → β) (hs : s.size ≤ s.size) : ∀ (i j : Nat) (n : β), j + i = s.size →
    (ByteArray.foldlM.loop (m := _root_.Id) (fun a b => pure (f a b)) s s.size hs i j n : _root_.Id β) = (s.data.toList.drop j).foldl f n := by
  intro i
  induction i with
  | zero =>
    intro j n h
    unfold ByteArray.foldlM.loop
    rw [dif_neg (by omega)]
    rw [List.drop_eq_nil_of_le (by rw [Array.length_toList]; show s.size ≤ j; omega)]
    rfl
  | succ i ih =>
    intro j n h
    unfold ByteArray.foldlM.loop
    have hlt : j < s.size := by omega
    rw [dif_pos hlt]
    have hlt' : j < s.data.toList.length := by rw [Array.length_toList]; exact hlt
    rw [List.drop_eq_getElem_cons hlt', List.foldl_cons]
    have := ih (j + 1) (f n s[j]) (by omega)
    exact this

theorem bl_foldl {β : Type} (s : ByteArray) (f : β → UInt8 → β) (n : β) : s.foldl f n = s.data.toList.foldl f n := by
  have := foldl_loop s f (Nat.le_refl _) s.size 0 n (by omega)
  rw [List.drop_zero] at this
  rw [← this]
  unfold ByteArray.foldl ByteArray.foldlM
  rw [dif_pos (Nat.le_refl _)]
  rfl

theorem indexByte_run (s : ByteArray) {c : Nat} (hc : c < 256) : (Extern.BytealgIndexByte.indexByte #[.string s, .int .u8 (Int.ofNat c)]).run P w = .ok (.int .i64 (indexOf c (bl s) 0)) w := by
  have h0 := find_index s (UInt8.ofNat c) (bl s) 0 rfl
  have hcc : (UInt8.ofNat c).toNat = c := by simp; omega
  rw [hcc] at h0
  rw [h0]
  have hl : (bl s).length = s.size := Array.length_toList
  rw [hl, ← List.range_eq_range']
  show Sem.run P (match (List.range s.size).find? fun i => s[i]! == UInt8.ofNat c with | some i => pure (goInt i) | none => pure (goInt (-1))) w = _
  split <;> rfl
theorem count_run (s : ByteArray) {c : Nat} (hc : c < 256) : (Extern.BytealgCount.count #[.string s, .int .u8 (Int.ofNat c)]).run P w = .ok (.int .i64 (countOf c (bl s) 0)) w := by
  have h0 := fold_count (UInt8.ofNat c) (bl s) 0
  have hcc : (UInt8.ofNat c).toNat = c := by simp; omega
  rw [hcc] at h0
  rw [h0]
  show Result.ok (goInt (s.foldl (fun (n : Int) x => if x == UInt8.ofNat c then n + 1 else n) ((0 : Nat) : Int))) w = _
  rw [bl_foldl]
  rfl

theorem digits_size : ∀ (n t : Nat) (acc : Array Value), (Extern.BytealgMakeNoZero.digits n t acc).size = acc.size + n := by
  intro n
  induction n with
  | zero => intro t acc; rfl
  | succ n ih => intro t acc; unfold Extern.BytealgMakeNoZero.digits; rw [ih, Array.size_push]; omega

theorem noZero_sound (H : HR B φ h w) (hB : B ≤ w.heap.size) {n b e0 t : Nat} {ps rs : Array TypeId} (hq : h.new (.cells (rep n [any]) e0 1 false false) = some (b, h')) (ht : rs[0]? = some t) (hu : P.underlying t = some (.slice e0)) (hlt : n < 65536) :
    ∃ v' w' ψ, (Extern.BytealgMakeNoZero.makeNoZero ps rs #[.int .i64 (Int.ofNat n)]).run P w = .ok v' w' ∧ Did B φ h h' w (.slice (some ⟨b, 0, none⟩) n (2 * n + 1)) v' w' ψ := by
  obtain ⟨c, hc1, hc2⟩ := run_cap2 (P := P) (w := w) n 0 e0
  let w1 : World := { w with drawn := w.drawn + 1 }
  obtain ⟨x, w2, hx, hw2⟩ : ∃ x w2, (choose (.extern "internal/bytealg.MakeNoZero.bytes" 0)).run P w1 = .ok x w2 ∧ (w2 = w1 ∨ w2 = { w1 with drawn := w1.drawn + 1 }) := by
    unfold choose
    simp only [Sem.run]
    split
    · exact ⟨_, _, rfl, .inl rfl⟩
    · exact ⟨_, _, rfl, .inr rfl⟩
  have hH2 : HR B φ h w2 ∧ Below B w w2 ∧ B ≤ w2.heap.size := by
    rcases hw2 with rfl | rfl
    · exact ⟨H.drew, below_drew, hB⟩
    · exact ⟨H.drew.drew, below_drew.trans below_drew, hB⟩
  obtain ⟨H2, hb2, hB2⟩ := hH2
  let arr := Extern.BytealgMakeNoZero.digits c x #[]
  have hsz : arr.size = c := by simp only [arr]; rw [digits_size]; simp
  refine ⟨.slice (some ⟨w2.heap.size, 0, none⟩) n c, _, φ.add b ⟨w2.heap.size, 0, arr.size, 1⟩, ?_, Did.after (w1 := w2) hb2 (Did.push (O := .cells arr e0) (f := fun b => .slice (some ⟨b, 0, none⟩) n (2 * n + 1)) H2 hq hB2 rfl ?_)⟩
  · unfold Extern.BytealgMakeNoZero.makeNoZero
    rw [ht]
    change Sem.run P (underlying t >>= _) w = _
    rw [run_bind_ok (run_und hu)]
    dsimp only
    rw [if_neg (by simp; omega)]
    rw [show (Int.ofNat n).toNat = n from rfl, run_bind_ok hc2, run_bind_ok (run_askRoom c), run_bind_ok hx, run_bind_ok (run_newRow e0 arr)]
    rfl
  · intro ψ hle hb
    constructor
    · refine .cells (arr := arr) (fr := (0, 0)) (by simp) rfl rfl ?_ ?_ (fun _ => noFrozen0 _) (by simp)
      · rw [rep_length]; simp [hsz]; omega
      · intro k v ek
        rw [rep_get] at ek
        by_cases hk : k < n * [any].length
        · rw [if_pos hk] at ek
          simp only [List.length_singleton, Nat.mod_one, List.getElem?_cons_zero] at ek
          cases ek
          simp only [List.length_singleton] at hk
          have hlt : 0 + k < arr.size := by omega
          exact ⟨arr[0 + k], by simp, .any _⟩
        · rw [if_neg hk] at ek; cases ek
    · refine .sliceU hb hc1 (Nat.le_refl _) (fun _ => rfl) ?_
      simp only [hsz]; omega

theorem ext_sound (H : HR B φ h w) (hn : h.next ≤ bound) (hB : B ≤ w.heap.size) {e : Ext} {f : FuncId} {fn : Func} {r : Array Value → Sem Value} {args : List Value} {args' : Array Value} {v : Value}
    (hf : A.P.funcs[f]? = some fn) (hr : RowIs e fn.params fn.resultTypes r) (ha : VRL φ args args'.toList) (he : extV A e f h args = some (v, h')) :
    ∃ v' w' ψ, (r args').run A.P w = .ok v' w' ∧ Did B φ h h' w v v' w' ψ := by
  obtain ⟨args'⟩ := args'
  simp only at ha
  unfold extV at he
  unfold RowIs at hr
  split at he
  · -- load
    rename_i k a
    subst hr
    cases ha with
    | cons h1 ha => cases ha with
      | nil =>
    obtain ⟨i, hi, haa, rfl⟩ := h1.ptr_inv
    simp only [Option.bind_eq_some_iff] at he
    obtain ⟨l, hl, he⟩ := he
    split at he
    · rename_i k' n
      have hco := cond_some he; clear he; obtain ⟨hk, he⟩ := hco
      obtain rfl := kbeq_eq hk
      cases he
      exact ⟨_, w, φ, read_sound H hl hi, Did.same H hn (.int _ _)⟩
    · cases he
  · -- store
    rename_i a k n
    subst hr
    cases ha with
    | cons h1 ha => cases ha with
      | cons h2 ha => cases ha with
        | nil =>
    obtain ⟨i, hi, haa, rfl⟩ := h1.ptr_inv
    obtain rfl := h2.int_inv
    simp only [Option.map_eq_some_iff] at he
    obtain ⟨h1', hs, he⟩ := he
    cases he
    obtain ⟨_, _, w', k1, k2, k3, k4⟩ := H.store1 (P := A.P) hn hs hi (.int k n) .atomic
    refine ⟨.tuple #[], w', φ, ?_, k2, Ren.le.refl φ, fun _ _ => rfl, .tuple .nil, k3, by omega, by omega⟩
    rw [storeT_eq]
    rw [run_bind_ok (show (asAddr (.pointer (some ⟨i.blk, i.base + a.off, none⟩))).run A.P w = .ok ⟨i.blk, i.base + a.off, none⟩ w from rfl), run_bind_ok k1]
    rfl
  · -- compare and swap
    rename_i K a k old k' new
    subst hr
    cases ha with
    | cons h1 ha => cases ha with
      | cons h2 ha => cases ha with
        | cons h3 ha => cases ha with
          | nil =>
    obtain ⟨i, hi, haa, rfl⟩ := h1.ptr_inv
    obtain rfl := h2.int_inv
    obtain rfl := h3.int_inv
    simp only [Option.bind_eq_some_iff] at he
    obtain ⟨l, hl, he⟩ := he
    split at he
    · rename_i k'' n
      have hco := cond_some he; clear he; obtain ⟨hk, he⟩ := hco
      simp only [Bool.and_eq_true] at hk
      obtain ⟨⟨hk1, hk2⟩, hk3⟩ := hk
      obtain rfl := kbeq_eq hk1
      obtain rfl := kbeq_eq hk2
      obtain rfl := kbeq_eq hk3
      split at he
      · rename_i c e0 s x hg
        have hread := read_sound (P := A.P) H hl hi
        have ho := H.obj _ _ _ hg hi
        have hsh : ∃ q, w.shape? i.blk = some q := by
          cases ho with
          | cells p1 _ _ _ _ _ _ =>
            rename_i arr fr _ _ _ _ _ _
            exact ⟨(e0, arr.size), by simp [World.shape?, p1]⟩
        obtain ⟨q, hsh⟩ := hsh
        have hfz : w.frozen? ⟨i.blk, i.base + a.off, none⟩ = false := by
          have hb := loadN_inv hl
          cases ho with
          | cells p1 p2 p3 p4 p5 p6 p7 =>
            rename_i arr fr
            rw [frozen_of p1]
            obtain ⟨c2, e2, s2, ro2, x2, ⟨hb2, _, hn2⟩ | ⟨_, _, _, _, _, hb2, h0, _⟩⟩ := hb
            · rw [hg] at hb2; cases hb2
              have := p6 rfl (i.base + a.off) (by omega)
              simp only [Bool.and_eq_false_iff, decide_eq_false_iff_not]; omega
            · cases h0
        have htouch : (Extern.Atomic.touchesFrozen ⟨i.blk, i.base + a.off, none⟩).run A.P w = .ok false w := by
          unfold Extern.Atomic.touchesFrozen
          rw [run_bind_ok (run_viewAt hsh)]
          show Result.ok (w.frozen? _) w = _
          rw [hfz]
        cases hcmp : ieq n old with
        | true =>
          rw [hcmp] at he
          have hcmp : n = old := by simpa [ieq_eq] using hcmp
          subst hcmp
          simp only [cond_true, Option.map_eq_some_iff] at he
          obtain ⟨h1', hs, he⟩ := he
          cases he
          obtain ⟨_, _, w', k1, k2, k3, k4⟩ := H.store1 (P := A.P) hn hs hi (.int _ new) .atomic
          refine ⟨.bool true, w', φ, ?_, k2, Ren.le.refl φ, fun _ _ => rfl, .bool _, k3, by omega, by omega⟩
          rw [casT_eq]
          rw [run_bind_ok (show (asAddr (.pointer (some ⟨i.blk, i.base + a.off, none⟩))).run A.P w = .ok ⟨i.blk, i.base + a.off, none⟩ w from rfl), run_bind_ok htouch, if_neg (by decide), run_bind_ok hread]
          dsimp only
          rw [run_bind_ok (run_pure _ _)]
          rw [if_pos (by simp), run_bind_ok k1]
          simp [Sem.run_pure]
        | false =>
          rw [hcmp] at he
          have hcmp : ¬ n = old := by intro hh; subst hh; simp [ieq_eq] at hcmp
          cases he
          refine ⟨.bool false, w, φ, ?_, Did.same H hn (.bool _)⟩
          rw [casT_eq]
          rw [run_bind_ok (show (asAddr (.pointer (some ⟨i.blk, i.base + a.off, none⟩))).run A.P w = .ok ⟨i.blk, i.base + a.off, none⟩ w from rfl), run_bind_ok htouch, if_neg (by decide), run_bind_ok hread]
          dsimp only
          rw [run_bind_ok (run_pure _ _)]
          rw [if_neg (by simpa using hcmp)]
          simp [hcmp]
      · cases he
    · cases he
  · -- add
    rename_i k a k0 y
    subst hr
    cases ha with
    | cons h1 ha => cases ha with
      | cons h2 ha => cases ha with
        | nil =>
    obtain ⟨i, hi, haa, rfl⟩ := h1.ptr_inv
    obtain rfl := h2.int_inv
    simp only [Option.bind_eq_some_iff] at he
    obtain ⟨l, hl, he⟩ := he
    split at he
    · rename_i k' n
      have hco := cond_some he; clear he; obtain ⟨hk, he⟩ := hco
      obtain rfl := kbeq_eq hk
      simp only [Option.map_eq_some_iff] at he
      obtain ⟨h1', hs, he⟩ := he
      cases he
      have hread := read_sound (P := A.P) H hl hi
      obtain ⟨_, _, w', k1, k2, k3, k4⟩ := H.store1 (P := A.P) hn hs hi (.int k (wrapK k (n + y))) .atomic
      refine ⟨.int k (wrapK k (n + y)), w', φ, ?_, k2, Ren.le.refl φ, fun _ _ => rfl, .int _ _, k3, by omega, by omega⟩
      rw [update_eq]
      rw [run_bind_ok (show (asAddr (.pointer (some ⟨i.blk, i.base + a.off, none⟩))).run A.P w = .ok ⟨i.blk, i.base + a.off, none⟩ w from rfl), run_bind_ok hread]
      rw [run_bind_ok (show (asInt (.int k n)).run A.P w = .ok n w from rfl), run_bind_ok (show (asInt (.int k0 y)).run A.P w = .ok y w from rfl)]
      rw [run_bind_ok (show (Op.intArith .add k n y).run A.P w = .ok (.int k (k.wrap (n + y))) w from rfl)]
      rw [wrapK_eq] at k1
      rw [run_bind_ok k1, wrapK_eq]
      rfl
    · cases he
  · -- index of a byte
    rename_i s c
    subst hr
    cases ha with
    | cons h1 ha => cases ha with
      | cons h2 ha => cases ha with
        | nil =>
    obtain rfl := h1.str_inv
    obtain rfl := h2.int_inv
    obtain ⟨hc, he⟩ := cond_some he
    have hc : c < 256 := by simpa [Nat.blt_eq] using hc
    cases he
    refine ⟨_, w, φ, ?_, Did.same H hn (.int _ _)⟩
    exact indexByte_run s hc
  · -- count
    rename_i s c
    subst hr
    cases ha with
    | cons h1 ha => cases ha with
      | cons h2 ha => cases ha with
        | nil =>
    obtain rfl := h1.str_inv
    obtain rfl := h2.int_inv
    obtain ⟨hc, he⟩ := cond_some he
    have hc : c < 256 := by simpa [Nat.blt_eq] using hc
    cases he
    refine ⟨_, w, φ, ?_, Did.same H hn (.int _ _)⟩
    exact count_run s hc
  · -- the same
    subst hr
    cases ha with
    | cons h1 ha => cases ha with
      | nil =>
    cases he
    exact ⟨_, w, φ, rfl, Did.same H hn h1⟩
  · obtain ⟨m, rfl⟩ := hr
    cases he
    exact ⟨_, w, φ, rfl, Did.same H hn (.tuple .nil)⟩
  · obtain ⟨m, rfl⟩ := hr
    cases ha with
    | cons h1 ha => cases ha with
      | nil =>
    obtain ⟨i, hi, haa, rfl⟩ := h1.ptr_inv
    cases he
    exact ⟨_, w, φ, rfl, Did.same H hn (.tuple .nil)⟩
  · -- a row of bytes
    rename_i n
    subst hr
    cases ha with
    | cons h1 ha => cases ha with
      | nil =>
    obtain rfl := h1.int_inv
    simp only [Option.bind_eq_some_iff] at he
    obtain ⟨t, ⟨fn', hf', ht⟩, he⟩ := he
    rw [hf] at hf'
    cases hf'
    split at he
    · rename_i e0 hu
      obtain ⟨hlt, he⟩ := cond_some he
      have hlt : n < 65536 := by simpa [Nat.blt_eq] using hlt
      simp only [Option.map_eq_some_iff] at he
      obtain ⟨q, hq, he⟩ := he
      obtain ⟨b, h1'⟩ := q
      cases he
      exact noZero_sound H hB hq ht hu hlt
    · cases he
  · cases he

end Go.Ab
end

section
namespace Go.Ab
open Go.RowKit
variable {A : AProg} {P : Program} {B : Nat} {φ : Ren} {h h' : AHeap} {w w' : World}

/-- what an operation hands on -/
inductive Gives : Next → Value → Prop
  | value (v) : Gives (.value v) v
  | skip : Gives .skip undef

theorem run_u {s : Sem Unit} (e : s.run P w = .ok () w') : (do s; pure Next.skip : Sem Next).run P w = .ok .skip w' := by
  rw [run_bind_ok e]; rfl

theorem fresh_sound (H : HR B φ h w) (hB : B ≤ w.heap.size) {o : Oper} {ρA ρC : Operand → Value} {v : Value} (hρ : ∀ x ∈ o.op.operands.toList, VR φ (ρA x) (ρC x))
    (e : ((freshV A ρA o.op).bind fun (obj, f) => (h.new obj).map fun (b, h) => (f b, h)) = some (v, h')) :
    ∃ v' w' ψ, (execOp ρC o).run A.P w = .ok (.value v') w' ∧ Did B φ h h' w v v' w' ψ := by
  simp only [Option.bind_eq_some_iff, Option.map_eq_some_iff] at e
  obtain ⟨q, hq, q2, hq2, e⟩ := e
  obtain ⟨obj, f⟩ := q
  obtain ⟨b, h1⟩ := q2
  cases e
  obtain ⟨O, i, v', hib, hrun, hrel⟩ := fresh_core (w := w) hρ hq
  exact ⟨v', _, _, hrun, Did.push (f := f) H hq2 hB hib (fun ψ hle hb => hrel ψ b hle hb)⟩

theorem vrl_map {ρA ρC : Operand → Value} : ∀ {l : List Operand}, (∀ x ∈ l, VR φ (ρA x) (ρC x)) → VRL φ (l.map ρA) (l.map ρC)
  | [], _ => .nil
  | x :: l, h => .cons (h x (by simp)) (vrl_map fun y hy => h y (by simp [hy]))

theorem active_sound (H : HR B φ h w) (hn : h.next ≤ bound) (hB : B ≤ w.heap.size) {o : Oper} {ty : TypeId} {ρA ρC : Operand → Value} {v : Value} (hρ : ∀ x ∈ o.op.operands.toList, VR φ (ρA x) (ρC x))
    (e : activeV A ρA h o.op ty = some (v, h')) : ∃ nx v' w' ψ, (execOp ρC o).run A.P w = .ok nx w' ∧ Gives nx v' ∧ Did B φ h h' w v v' w' ψ := by
  have hfresh : ∀ {v}, ((freshV A ρA o.op).bind fun (obj, f) => (h.new obj).map fun (b, h) => (f b, h)) = some (v, h') → ∃ nx v' w' ψ, (execOp ρC o).run A.P w = .ok nx w' ∧ Gives nx v' ∧ Did B φ h h' w v v' w' ψ := by
    intro v e
    obtain ⟨v', w', ψ, h1, h2⟩ := fresh_sound H hB hρ e
    exact ⟨_, v', w', ψ, h1, .value _, h2⟩
  obtain ⟨dst, op, type, pos, after, guard⟩ := o
  simp only at hρ e hfresh
  unfold activeV at e
  split at e
  · -- assign
    rename_i x
    cases e
    exact ⟨_, ρC x, w, φ, rfl, .value _, Did.same H hn (hρ x (by simp [Op.operands]))⟩
  · exact hfresh e
  · exact hfresh e
  · exact hfresh e
  · exact hfresh e
  · exact hfresh e
  · -- store
    rename_i t x y
    obtain ⟨w', h1, rfl, h2⟩ := store_sound H hn (hρ x (by simp [Op.operands])) (hρ y (by simp [Op.operands])) e
    exact ⟨.skip, undef, w', φ, run_u h1, .skip, h2⟩
  · -- convert
    rename_i s d x
    obtain ⟨v', w', ψ, h1, h2⟩ := conv_sound H hn hB (hρ x (by simp [Op.operands])) e
    exact ⟨.value v', v', w', ψ, run_v h1, .value _, h2⟩
  · -- makeMap
    rename_i t x
    split at e
    · rename_i kt et k n hu hx
      have hv := hρ x (by simp [Op.operands])
      rw [hx] at hv
      simp only [Option.map_eq_some_iff] at e
      obtain ⟨q, hq, e⟩ := e
      obtain ⟨b, h1⟩ := q
      cases e
      refine ⟨.value (.map (some w.heap.size)), .map (some w.heap.size), _, _, ?_, .value _, Did.push (i := ⟨w.heap.size, 0, 0, 0⟩) (O := .map #[] 0) (f := fun b => .map (some b)) H hq hB rfl ?_⟩
      · refine run_v ?_
        rw [Option.map_some, hv.int_inv]
        unfold Instr.makeMap
        simp only
        rw [run_bind_ok (run_und hu)]
        dsimp only
        rw [run_bind_ok (show (asInt (.int k n)).run A.P w = .ok n w from rfl), run_bind_ok (run_newObj _)]
        rfl
      · intro ψ hle hb
        exact ⟨.map (es' := #[]) (by simp) .nil, .map hb⟩
    · cases e
  · rename_i t m k x
    simp only [Option.map_eq_some_iff] at e
    obtain ⟨h1, hm, e⟩ := e
    cases e
    obtain ⟨w', h1, h2⟩ := mapPut_sound (P := A.P) H hn (hρ m (by simp [Op.operands])) (hρ k (by simp [Op.operands])) (hρ x (by simp [Op.operands])) hm
    exact ⟨.skip, undef, w', φ, run_u h1, .skip, h2⟩
  · rename_i t m k x
    simp only [Option.map_eq_some_iff] at e
    obtain ⟨h1, hm, e⟩ := e
    cases e
    obtain ⟨w', h1, h2⟩ := mapPut_sound (P := A.P) H hn (hρ m (by simp [Op.operands])) (hρ k (by simp [Op.operands])) (hρ x (by simp [Op.operands])) hm
    exact ⟨.skip, undef, w', φ, run_u h1, .skip, h2⟩
  · rename_i t x
    obtain ⟨v', w', ψ, h1, h2⟩ := range_sound H hB (hρ x (by simp [Op.operands])) e
    exact ⟨.value v', v', w', ψ, run_v h1, .value _, h2⟩
  · rename_i it isStr
    obtain ⟨v', w', ψ, h1, h2⟩ := next_sound (P := A.P) (ty := type) H hn (hρ it (by simp [Op.operands])) e
    exact ⟨.value v', v', w', ψ, run_v h1, .value _, h2⟩
  · rename_i it
    simp only [Option.map_eq_some_iff] at e
    obtain ⟨x, hx, e⟩ := e
    cases e
    obtain ⟨v', h1, h2⟩ := entry_sound (P := A.P) H (hρ it (by simp [Op.operands])) hx
    exact ⟨.value v', v', w, φ, run_v h1, .value _, Did.same H hn h2⟩
  · rename_i x xt t ok
    simp only [Option.map_eq_some_iff] at e
    obtain ⟨y, hy, e⟩ := e
    cases e
    obtain ⟨v', h1, h2⟩ := assert_sound (w := w) (xt := xt) (hρ x (by simp [Op.operands])) hy
    exact ⟨.value v', v', w, φ, run_v h1, .value _, Did.same H hn h2⟩
  · rename_i args ts
    have hp : ∀ x ∈ args.toList, VR φ (ρA x) (ρC x) := fun x hx => hρ x (by simpa [Op.operands, Call.operands] using hx)
    obtain ⟨v', w', ψ, h1, h2⟩ := append_sound (P := A.P) (ty := type) H hn hB hp e
    refine ⟨.value v', v', w', ψ, ?_, .value _, h2⟩
    simp only [execOp, resolve]
    rw [run_bind_ok (run_pure _ _)]
    simp only [invoke, builtin]
    refine run_v ?_
    rw [← h1]; congr 2; rw [← Array.toList_inj]; simp
  · rename_i args ts
    have hp : ∀ x ∈ args.toList, VR φ (ρA x) (ρC x) := fun x hx => hρ x (by simpa [Op.operands, Call.operands] using hx)
    obtain ⟨w', h1, h2⟩ := copy_sound (P := A.P) (ty := type) H hn hp e
    refine ⟨.value v, v, w', φ, ?_, .value _, h2⟩
    simp only [execOp, resolve]
    rw [run_bind_ok (run_pure _ _)]
    simp only [invoke, builtin]
    refine run_v ?_
    rw [← h1]; congr 2; rw [← Array.toList_inj]; simp
  · rename_i args ts
    have hp : ∀ x ∈ args.toList, VR φ (ρA x) (ρC x) := fun x hx => hρ x (by simpa [Op.operands, Call.operands] using hx)
    obtain ⟨w', h1, h2⟩ := clear_sound (P := A.P) (ty := type) H hn hp e
    refine ⟨.value v, v, w', φ, ?_, .value _, h2⟩
    simp only [execOp, resolve]
    rw [run_bind_ok (run_pure _ _)]
    simp only [invoke, builtin]
    refine run_v ?_
    rw [← h1]; congr 2; rw [← Array.toList_inj]; simp
  · rename_i args ts
    have hp : ∀ x ∈ args.toList, VR φ (ρA x) (ρC x) := fun x hx => hρ x (by simpa [Op.operands, Call.operands] using hx)
    simp only [Option.map_eq_some_iff] at e
    obtain ⟨y, hy, e⟩ := e
    cases e
    obtain ⟨v', h1, h2⟩ := sliceData_sound (P := A.P) (args' := (args.map ρC)) (ts := ts) (ty := type) H (by simpa using vrl_map hp) hy
    refine ⟨.value v', v', w, φ, ?_, .value _, Did.same H hn h2⟩
    simp only [execOp, resolve]
    rw [run_bind_ok (run_pure _ _)]
    simp only [invoke, builtin]
    exact run_v h1
  · rename_i args ts
    have hp : ∀ x ∈ args.toList, VR φ (ρA x) (ρC x) := fun x hx => hρ x (by simpa [Op.operands, Call.operands] using hx)
    obtain ⟨v', w', ψ, h1, h2⟩ := unsafeString_sound (A := A) (args' := (args.map ρC)) (ty := type) H hn (by simpa using vrl_map hp) e
    refine ⟨.value v', v', w', ψ, ?_, .value _, h2⟩
    simp only [execOp, resolve]
    rw [run_bind_ok (run_pure _ _)]
    simp only [invoke, builtin]
    exact run_v h1
  · cases e

end Go.Ab
end

section
namespace Go.Ab
open Go.RowKit
variable {A : AProg} {P : Program} {B : Nat} {φ ψ : Ren} {h h' : AHeap} {w w' : World}

/-- the entries of a chain of panics -/
def PR (φ : Ren) (p p' : PanicEntry) : Prop := VR φ p.v p'.v ∧ p.recovered = p'.recovered ∧ p.goexit = p'.goexit
inductive PRL (φ : Ren) : List PanicEntry → List PanicEntry → Prop
  | nil : PRL φ [] []
  | cons {p p' l l'} : PR φ p p' → PRL φ l l' → PRL φ (p :: l) (p' :: l')
inductive MR (φ : Ren) : FrameMode → FrameMode → Prop
  | run : MR φ .run .run
  | returning : MR φ .returning .returning
  | panicking {c c'} : PRL φ c c' → MR φ (.panicking c) (.panicking c')

theorem PR.mono (hle : φ.le ψ) {p p' : PanicEntry} (h : PR φ p p') : PR ψ p p' := ⟨h.1.mono hle, h.2⟩
theorem PRL.mono (hle : φ.le ψ) {p p' : List PanicEntry} (h : PRL φ p p') : PRL ψ p p' := by
  induction h with
  | nil => exact .nil
  | cons h _ ih => exact .cons (h.mono hle) ih
theorem MR.mono (hle : φ.le ψ) {m m' : FrameMode} (h : MR φ m m') : MR ψ m m' := by
  cases h with
  | run => exact .run
  | returning => exact .returning
  | panicking h => exact .panicking (h.mono hle)
theorem PRL.append {a a' b b' : List PanicEntry} (h : PRL φ a a') (k : PRL φ b b') : PRL φ (a ++ b) (a' ++ b') := by
  induction h with
  | nil => exact k
  | cons h _ ih => exact .cons h ih

inductive RoR (φ : Ren) : Option Nat → Option Nat → Prop
  | none : RoR φ none none
  | some {l i} : φ l = some i → RoR φ (some l) (some i.blk)
theorem RoR.mono (hle : φ.le ψ) {m m' : Option Nat} (h : RoR φ m m') : RoR ψ m m' := by
  cases h with
  | none => exact .none
  | some e => exact .some (hle _ _ e)

/-- one item of what is left to do, regions that draw apart -/
inductive IR (φ : Ren) : AItem → Item → Prop
  | code (c) : IR φ (.code c) (.code c)
  | inBlock (id) : IR φ (.inBlock id) (.inBlock id)
  | inLoop (b) : IR φ (.inLoop b) (.inLoop b)
  | inScope (b) : IR φ (.inScope b) (.inScope b)
  | ops {all : Array Oper} {i : Nat} {rest : List Oper} : rest = all.toList.drop i → IR φ (.ops all i rest) (.inRegion all (List.range' i (all.size - i)))
  | inRangeFunc {l i} : φ l = some i → IR φ (.inRangeFunc l) (.inRangeFunc i.blk)
  | endRangeFunc {l i} : φ l = some i → IR φ (.endRangeFunc l) (.endRangeFunc i.blk)
  | beginRound : IR φ .beginRound .beginRound
inductive IRL (φ : Ren) : List AItem → List Item → Prop
  | nil : IRL φ [] []
  | cons {x x' l l'} : IR φ x x' → IRL φ l l' → IRL φ (x :: l) (x' :: l')
theorem IR.mono (hle : φ.le ψ) {x : AItem} {x' : Item} (h : IR φ x x') : IR ψ x x' := by
  cases h with
  | code c => exact .code c
  | inBlock c => exact .inBlock c
  | inLoop c => exact .inLoop c
  | inScope c => exact .inScope c
  | ops e => exact .ops e
  | inRangeFunc e => exact .inRangeFunc (hle _ _ e)
  | endRangeFunc e => exact .endRangeFunc (hle _ _ e)
  | beginRound => exact .beginRound
theorem IRL.mono (hle : φ.le ψ) {x : List AItem} {x' : List Item} (h : IRL φ x x') : IRL ψ x x' := by
  induction h with
  | nil => exact .nil
  | cons h _ ih => exact .cons (h.mono hle) ih

/-- what is done by the abstract machine, and not yet by the concrete one -/
def isPend (is : List Nat) (quiet : List (Nat × Oper)) (k : Nat) : Prop := ∃ j o, (j, o) ∈ quiet ∧ j ∈ is ∧ o.dst = some k

/-- the numbers left of a region stand in an order that its rows allow -/
inductive Ord (all : Array Oper) : List Nat → Prop
  | nil : Ord all []
  | cons {j is} : j < all.size → j ∉ is → (∀ b, b ∈ is → ((Region.before all).getD j 0).testBit b = false) → Ord all is → Ord all (j :: is)

/-- a region that draws its order; `bs`: the blocks that were made and do not yet stand -/
structure DrR (φ : Ren) (h : AHeap) (tmps : T Value) (arr : Array Value) (all : Array Oper) (left quiet : List (Nat × Oper)) (is : List Nat) (bs : List Nat) : Prop where
  ok : drOk all = true
  ord : Ord all is
  nd : (left.map (·.1)).Nodup
  lft : ∀ i o, (i, o) ∈ left → all[i]? = some o ∧ i ∈ is
  qt : ∀ i o, (i, o) ∈ quiet → all[i]? = some o ∧ isEager o.op = true ∧ ∀ p, (i, p) ∉ left
  rdy : ∀ j p i o, (j, p) ∈ quiet → (i, o) ∈ left → ((Region.before all).getD j 0).testBit i = false
  lt : ∀ j o d, (j, o) ∈ quiet → o.dst = some d → d < arr.size
  both : ∀ j, j ∈ is → ∃ o, (j, o) ∈ left ∨ (j, o) ∈ quiet
  tr : ∀ k v, tmps.get k = some v → isPend is quiet k ∨ ∃ v', arr[k]? = some v' ∧ VR φ v v'
  new : ∀ b, b ∈ bs → φ b = none ∧ b < h.next
  frs : ∀ j o d, (j, o) ∈ quiet → j ∈ is → isQuiet o.op = false → o.dst = some d → tmps.get d = some undef ∨ ∃ v b, tmps.get d = some v ∧ blockOf v = some b ∧ b ∈ bs
  inj : ∀ j o d v j' o' d' v' b, (j, o) ∈ quiet → j ∈ is → isQuiet o.op = false → o.dst = some d → tmps.get d = some v → blockOf v = some b →
    (j', o') ∈ quiet → j' ∈ is → isQuiet o'.op = false → o'.dst = some d' → tmps.get d' = some v' → blockOf v' = some b → j = j'

end Go.Ab
end

section
namespace Go.Ab
open Go.RowKit
variable {A : AProg} {P : Program} {B : Nat} {φ ψ : Ren} {h h' : AHeap} {w w' : World}

inductive TdR (φ : Ren) (h : AHeap) (tmps : T Value) (arr : Array Value) : List AItem → List Item → List Nat → Prop
  | plain {t t'} : TR φ tmps arr → IRL φ t t' → TdR φ h tmps arr t t' []
  | draw {all left quiet is bs k k'} : DrR φ h tmps arr all left quiet is bs → IRL φ k k' → TdR φ h tmps arr (.draw all left quiet :: k) (.inRegion all is :: k') bs

structure FrR (φ : Ren) (h : AHeap) (f : AFrame) (fr : Frame) (bs : List Nat) : Prop where
  fn : fr.fn = f.fn
  nt : fr.tmps.size = f.nt
  mode : MR φ f.mode fr.mode
  kind : fr.kind = f.kind
  defers : DRL φ f.defers fr.defers
  round : RoR φ f.roundOf fr.roundOf
  todo : TdR φ h f.tmps fr.tmps f.todo fr.todo bs
  tr : f.mode = .run ∨ TR φ f.tmps fr.tmps

theorem DrR.mono' {tmps : T Value} {arr : Array Value} {all : Array Oper} {left quiet : List (Nat × Oper)} {is bs : List Nat} (hd : DrR φ h tmps arr all left quiet is bs)
    (hle : φ.le ψ) (hold : ∀ b, b ∈ bs → ψ b = φ b) (hn : h.next ≤ h'.next) : DrR ψ h' tmps arr all left quiet is bs :=
  ⟨hd.ok, hd.ord, hd.nd, hd.lft, hd.qt, hd.rdy, hd.lt, hd.both, fun k v e => (hd.tr k v e).imp id fun ⟨v', h1, h2⟩ => ⟨v', h1, h2.mono hle⟩,
    fun b hb => ⟨by rw [hold b hb]; exact (hd.new b hb).1, Nat.lt_of_lt_of_le (hd.new b hb).2 hn⟩, hd.frs, hd.inj⟩

theorem TdR.mono' {tmps : T Value} {arr : Array Value} {t : List AItem} {t' : List Item} {bs : List Nat} (hd : TdR φ h tmps arr t t' bs)
    (hle : φ.le ψ) (hold : ∀ b, b ∈ bs → ψ b = φ b) (hn : h.next ≤ h'.next) : TdR ψ h' tmps arr t t' bs := by
  cases hd with
  | plain h1 h2 => exact .plain (h1.mono hle) (h2.mono hle)
  | draw h1 h2 => exact .draw (h1.mono' hle hold hn) (h2.mono hle)

theorem FrR.mono' {f : AFrame} {fr : Frame} {bs : List Nat} (hf : FrR φ h f fr bs) (hle : φ.le ψ) (hold : ∀ b, b ∈ bs → ψ b = φ b) (hn : h.next ≤ h'.next) : FrR ψ h' f fr bs :=
  ⟨hf.fn, hf.nt, hf.mode.mono hle, hf.kind, hf.defers.mono hle, hf.round.mono hle, hf.todo.mono' hle hold hn, hf.tr.imp id fun h => h.mono hle⟩

theorem TdR.new {tmps : T Value} {arr : Array Value} {t : List AItem} {t' : List Item} {bs : List Nat} (hd : TdR φ h tmps arr t t' bs) : ∀ b, b ∈ bs → φ b = none ∧ b < h.next := by
  cases hd with
  | plain h1 h2 => intro b hb; cases hb
  | draw h1 h2 => exact h1.new

theorem FrR.mono {f : AFrame} {fr : Frame} {bs : List Nat} (hf : FrR φ h f fr bs) (hle : φ.le ψ) (hold : ∀ b, b < h.next → ψ b = φ b) (hn : h.next ≤ h'.next) : FrR ψ h' f fr bs :=
  hf.mono' hle (fun b hb => hold b (hf.todo.new b hb).2) hn

/-- a caller that stands at a region that draws: both machines stand at one operation -/
def Waits (f : AFrame) (fr : Frame) : Prop :=
  ∀ all left quiet k is k', f.todo = .draw all left quiet :: k → fr.todo = .inRegion all is :: k' → ∃ i o left' is', left = (i, o) :: left' ∧ is = i :: is'

/-- the frames below -/
inductive CsR (φ : Ren) (h : AHeap) (base : List Frame) : List AFrame → List Frame → List Nat → Prop
  | nil : CsR φ h base [] base []
  | cons {f fr l l' bs bs'} : FrR φ h f fr bs → Waits f fr → CsR φ h base l l' bs' → CsR φ h base (f :: l) (fr :: l') (bs ++ bs')

theorem CsR.mono' {base : List Frame} {l : List AFrame} {l' : List Frame} {bs : List Nat} (hc : CsR φ h base l l' bs) (hle : φ.le ψ) (hold : ∀ b, b ∈ bs → ψ b = φ b) (hn : h.next ≤ h'.next) : CsR ψ h' base l l' bs := by
  induction hc with
  | nil => exact .nil
  | cons h1 h2 _ ih => exact .cons (h1.mono' hle (fun b hb => hold b (by simp [hb])) hn) h2 (ih fun b hb => hold b (by simp [hb]))

theorem CsR.new {base : List Frame} {l : List AFrame} {l' : List Frame} {bs : List Nat} (hc : CsR φ h base l l' bs) : ∀ b, b ∈ bs → φ b = none ∧ b < h.next := by
  induction hc with
  | nil => intro b hb; cases hb
  | cons h1 h2 _ ih =>
    intro b hb
    rcases List.mem_append.mp hb with hb | hb
    · exact h1.todo.new b hb
    · exact ih b hb

theorem CsR.mono {base : List Frame} {l : List AFrame} {l' : List Frame} {bs : List Nat} (hc : CsR φ h base l l' bs) (hle : φ.le ψ) (hold : ∀ b, b < h.next → ψ b = φ b) (hn : h.next ≤ h'.next) : CsR ψ h' base l l' bs :=
  hc.mono' hle (fun b hb => hold b (hc.new b hb).2) hn

/-- the block of each package-level variable is at its own place -/
def Globs (A : AProg) (φ : Ren) : Prop := ∀ g, g < A.ng → ∃ i, φ g = some i ∧ i.blk = g ∧ i.base = 0

theorem Globs.mono (hg : Globs A φ) (hle : φ.le ψ) : Globs A ψ := fun g h => let ⟨i, h1, h2⟩ := hg g h; ⟨i, hle _ _ h1, h2⟩

/-- an operand's value -/
theorem ev_sound (hg : Globs A φ) {f : AFrame} {fr : Frame} {x : Operand} (ht : ∀ k v, x = .tmp k → f.tmps.get k = some v → ∃ v', fr.tmps[k]? = some v' ∧ VR φ v v') : VR φ (ev A f x) (fr.eval x) := by
  cases x with
  | tmp k =>
    show VR φ ((f.tmps.get k).getD any) (fr.tmps.getD k undef)
    cases e : f.tmps.get k with
    | none => exact .any _
    | some v =>
      obtain ⟨v', h1, h2⟩ := ht k v rfl e
      rw [Array.getD_eq_getD_getElem?, h1]
      exact h2
  | const v =>
    show VR φ (cond (constOk v) v any) v
    cases hc : constOk v with
    | true => exact constOk_vr hc
    | false => exact .any _
  | global g =>
    show VR φ (cond (Nat.blt g A.ng) (.pointer (some ⟨g, 0, none⟩)) any) (.pointer (some ⟨g, 0, none⟩))
    cases hb : Nat.blt g A.ng with
    | true =>
      obtain ⟨i, h1, h2, h3⟩ := hg g (by simpa [Nat.blt_eq] using hb)
      have := VR.ptr (φ := φ) (o := 0) h1
      rw [h2, h3] at this
      exact this
    | false => exact .any _
  | func f => exact .func (.func f) .nil .nil

end Go.Ab
end

section
namespace Go.Ab
open Go.RowKit
variable {A : AProg} {P : Program} {B : Nat} {φ ψ : Ren} {h h' : AHeap} {w w' : World}

def putD (a : Array Value) (d : Option Nat) (v : Value) : Array Value := match d with
  | some d => a.setIfInBounds d v
  | none => a
theorem putD_size (a : Array Value) (d : Option Nat) (v : Value) : (putD a d v).size = a.size := by cases d <;> simp [putD]

theorem put_sound {f f' : AFrame} {tmps : Array Value} {d : Option Nat} {v v' : Value} (e : f.put d v = some f') (hn : tmps.size = f.nt) (hv : VR φ v v') (ht : TR φ f.tmps tmps) :
    TR φ f'.tmps (putD tmps d v') ∧ f' = { f with tmps := f'.tmps } := by
  unfold AFrame.put at e
  cases d with
  | none => cases e; exact ⟨ht, rfl⟩
  | some d =>
    obtain ⟨hc, e⟩ := cond_some e
    cases e
    simp only [Bool.and_eq_true, Nat.blt_eq] at hc
    exact ⟨ht.put (by omega) (by omega) hv, rfl⟩

theorem finish_plain {f f' : AFrame} {fr : Frame} {v v' : Value} (hf : FrR φ h f fr []) (ht : TR φ f.tmps fr.tmps) (hi : IRL φ f.todo fr.todo)
    (hv : VR φ v v') (e : finishOps A f h v = some f') : FrR φ h f' (fr.finish v') [] ∧ TR φ f'.tmps (fr.finish v').tmps ∧ IRL φ f'.todo (fr.finish v').todo := by
  unfold finishOps at e
  split at e
  · rename_i all i o rest k' htd
    rw [htd] at hi
    simp only [Option.map_eq_some_iff] at e
    obtain ⟨f1, hp, e⟩ := e
    cases hi' : fr.todo with
    | nil => rw [hi'] at hi; cases hi
    | cons x l =>
      rw [hi'] at hi
      cases hi with
      | cons hx hl =>
        cases hx with
        | ops hr =>
          have hlt : i < all.toList.length := by
            rcases Nat.lt_or_ge i all.toList.length with hh | hh
            · exact hh
            · rw [List.drop_eq_nil_of_le hh] at hr; cases hr
          rw [List.drop_eq_getElem_cons hlt] at hr
          injection hr with ho hr
          have hlt' : i < all.size := by simpa using hlt
          have hrange : List.range' i (all.size - i) = i :: List.range' (i + 1) (all.size - (i + 1)) := by
            rw [show all.size - i = (all.size - (i + 1)) + 1 by omega, List.range'_succ]
          have hoi : all[i]? = some o := by rw [← Array.getElem?_toList, List.getElem?_eq_getElem hlt, ← ho]
          obtain ⟨h1, h2⟩ := put_sound hp hf.nt hv ht
          have hfin : fr.finish v' = { fr with tmps := putD fr.tmps o.dst v', todo := .inRegion all (List.range' (i + 1) (all.size - (i + 1))) :: l } := by
            unfold Frame.finish
            rw [hi', hrange]
            simp only [hoi, Option.bind_some]
            rfl
          rw [hfin, ← e, h2]
          refine ⟨⟨hf.fn, ?_, hf.mode, hf.kind, hf.defers, hf.round, .plain h1 (.cons (.ops hr) hl), .inr h1⟩, h1, .cons (.ops hr) hl⟩
          simp only [putD_size]
          exact hf.nt
  · rename_i all i o left quiet k' htd
    rw [htd] at hi
    cases hi' : fr.todo with
    | nil => rw [hi'] at hi; cases hi
    | cons x l => rw [hi'] at hi; cases hi with | cons hx hl => cases hx
  · rename_i l k' htd
    rw [htd] at hi
    cases e
    cases hi' : fr.todo with
    | nil => rw [hi'] at hi; cases hi
    | cons x l =>
      rw [hi'] at hi
      cases hi with
      | cons hx hl =>
        cases hx with
        | inRangeFunc hli =>
          have hfin : ∀ i : Nat, fr.todo = .inRangeFunc i :: l → fr.finish v' = { fr with todo := .endRangeFunc i :: l } := by
            intro i hh; unfold Frame.finish; rw [hh]
          rw [hfin _ hi']
          exact ⟨⟨hf.fn, hf.nt, hf.mode, hf.kind, hf.defers, hf.round, .plain ht (.cons (.endRangeFunc hli) hl), .inr ht⟩, ht, .cons (.endRangeFunc hli) hl⟩
  · rename_i k' htd
    rw [htd] at hi
    cases e
    cases hi' : fr.todo with
    | nil => rw [hi'] at hi; cases hi
    | cons x l =>
      rw [hi'] at hi
      cases hi with
      | cons hx hl =>
        cases hx with
        | beginRound =>
          have hfin : fr.finish v' = { fr with todo := l } := by
            unfold Frame.finish; rw [hi']
          rw [hfin]
          exact ⟨⟨hf.fn, hf.nt, hf.mode, hf.kind, hf.defers, hf.round, .plain ht hl, .inr ht⟩, ht, hl⟩
  · cases e

end Go.Ab
end

section
namespace Go.Ab
open Go.RowKit
variable {A : AProg} {P : Program} {B : Nat} {φ ψ : Ren} {h h' : AHeap} {w w' : World}

theorem step_exec {fr fr' : Frame} {cs cs' : List Frame} (hm : fr.mode = .run)
    (h : (stepG.exec P true true fr cs none w).bare = .go { frame := fr', callers := cs', status := .running, dying := none } w') :
    step P (lone fr cs w) = .next (lone fr' cs' w') := by
  refine step_lone_go ?_
  unfold stepG
  simp only
  rw [hm]
  exact h

theorem MR.run_inv {m : FrameMode} (h : MR φ .run m) : m = .run := by cases h; rfl

/-- what a pending operation would give is what it gave -/
inductive Still (A : AProg) (f : AFrame) (h : AHeap) (all : Array Oper) (bs : List Nat) (o : Oper) : Prop
  | no : wantedA all f o = some false → (∀ d, o.dst = some d → f.tmps.get d = some undef) → Still A f h all bs o
  | quiet {v} : wantedA all f o = some true → isQuiet o.op = true → quietV A (ev A f) h o.op o.type = some v → (∀ d, o.dst = some d → f.tmps.get d = some v) → Still A f h all bs o
  | fresh {d obj g b} : wantedA all f o = some true → isQuiet o.op = false → o.dst = some d → freshV A (ev A f) o.op = some (obj, g) → f.tmps.get d = some (g b) → h.get b = some obj → b ∈ bs → Still A f h all bs o

def Valid (A : AProg) (f : AFrame) (h : AHeap) (fr : Frame) (bs : List Nat) : Prop :=
  f.mode = .run → ∀ all left quiet k is k', f.todo = .draw all left quiet :: k → fr.todo = .inRegion all is :: k' → ∀ j o, (j, o) ∈ quiet → j ∈ is → Still A f h all bs o

structure SR (A : AProg) (base : List Frame) (B : Nat) (φ : Ren) (S : AState) (fr : Frame) (cs : List Frame) (w : World) (bs bs' : List Nat) : Prop where
  hr : HR B φ S.heap w
  bnd : S.heap.next ≤ bound
  hB : B ≤ w.heap.size
  glob : Globs A φ
  top : FrR φ S.heap S.top fr bs
  low : CsR φ S.heap base S.callers cs bs'
  nodup : (bs ++ bs').Nodup
  valid : Valid A S.top S.heap fr bs

/-- the concrete machine follows -/
def Follows (A : AProg) (base : List Frame) (B : Nat) (φ : Ren) (fr : Frame) (cs : List Frame) (w : World) (S' : AState) : Prop :=
  ∃ fr' cs' w' ψ bs bs', Steps A.P (lone fr cs w) (lone fr' cs' w') ∧ SR A base B ψ S' fr' cs' w' bs bs' ∧ φ.le ψ ∧ Below B w w'

theorem Follows.to {base : List Frame} {S : AState} {fr : Frame} {cs : List Frame} {bs bs' : List Nat} (R : SR A base B φ S fr cs w bs bs') (hm : S.top.mode = .run)
    {t : List AItem} {t' : List Item} (ht : TR φ S.top.tmps fr.tmps) (hi : IRL φ t t')
    (hs : (stepG.exec A.P true true fr cs none w).bare = .go { frame := { fr with todo := t' }, callers := cs, status := .running, dying := none } w) :
    Follows A base B φ fr cs w { S with top := { S.top with todo := t } } := by
  have hfm : fr.mode = .run := (show MR φ .run fr.mode from hm ▸ R.top.mode).run_inv
  refine ⟨{ fr with todo := t' }, cs, w, φ, [], bs', .one (step_exec hfm hs), ?_, Ren.le.refl φ, Below.refl _ _⟩
  refine ⟨R.hr, R.bnd, R.hB, R.glob, ⟨R.top.fn, R.top.nt, R.top.mode, R.top.kind, R.top.defers, R.top.round, .plain ht hi, .inr ht⟩, R.low, ?_, ?_⟩
  · have := R.nodup
    rw [List.nodup_append] at this
    simpa using this.2.1
  · intro _ all left quiet k is k' h1 h2
    simp only at h1 h2
    rw [h1, h2] at hi
    cases hi with | cons hx _ => cases hx

theorem IRL.nil_inv {t' : List Item} (h : IRL φ [] t') : t' = [] := by cases h; rfl
theorem IRL.cons_inv {x : AItem} {t : List AItem} {t' : List Item} (h : IRL φ (x :: t) t') : ∃ x' k', t' = x' :: k' ∧ IR φ x x' ∧ IRL φ t k' := by
  cases h with | cons h1 h2 => exact ⟨_, _, rfl, h1, h2⟩
theorem IR.code_inv {c : Code} {x' : Item} (h : IR φ (.code c) x') : x' = .code c := by cases h; rfl

theorem exit_sound {id : Nat} : ∀ {t : List AItem} {t' : List Item}, IRL φ t t' → (∀ k, exitA id t = some k → ∃ k', exitTo id t' = some k' ∧ IRL φ k k') ∧ (exitA id t = none → exitTo id t' = none) := by
  intro t
  induction t with
  | nil => intro t' h; obtain rfl := h.nil_inv; exact ⟨(fun k e => nomatch e), fun _ => rfl⟩
  | cons x t ih =>
    intro t' h
    obtain ⟨x', k', rfl, hx, hk⟩ := h.cons_inv
    have := ih hk
    cases hx <;> (first
      | (exact this)
      | skip)
    · rename_i id'
      unfold exitA exitTo
      cases hb : Nat.beq id' id with
      | true =>
        have := Nat.eq_of_beq_eq_true hb
        subst this
        simp only [cond_true, beq_self_eq_true, if_true]
        exact ⟨fun k e => by cases e; exact ⟨_, rfl, hk⟩, fun e => nomatch e⟩
      | false =>
        have hne := Nat.ne_of_beq_eq_false hb
        simp only [cond_false, beq_iff_eq, hne, if_false]
        exact this

theorem goto_sound {l : Nat} : ∀ {t : List AItem} {t' : List Item}, IRL φ t t' → (∀ k, gotoA l t = some k → ∃ k', gotoIn l t' = some k' ∧ IRL φ k k') ∧ (gotoA l t = none → gotoIn l t' = none) := by
  intro t
  induction t with
  | nil => intro t' h; obtain rfl := h.nil_inv; exact ⟨(fun k e => nomatch e), fun _ => rfl⟩
  | cons x t ih =>
    intro t' h
    obtain ⟨x', k', rfl, hx, hk⟩ := h.cons_inv
    have := ih hk
    cases hx <;> (first
      | (exact this)
      | skip)
    · rename_i body
      unfold gotoA gotoIn
      cases hb : findLabel body l with
      | none => simp only; exact this
      | some rest =>
        simp only
        exact ⟨fun k e => by cases e; exact ⟨_, rfl, .cons (.code _) (.cons (.inScope _) hk)⟩, fun e => nomatch e⟩

end Go.Ab
end

section
namespace Go.Ab
open Go.RowKit
variable {A : AProg} {P : Program} {B : Nat} {φ ψ : Ren} {h h' : AHeap} {w w' : World}

/-- what is no operation, and stays within the frame -/
def controlA (f : AFrame) (t : List AItem) : Option (List AItem) :=
  match t with
  | .code c :: k => match c with
    | .skip | .label _ => some k
    | .seq a b => some (.code a :: .code b :: k)
    | .cond c x y => match ev A f c with | .bool b => some (.code (cond b x y) :: k) | _ => none
    | .block id body => some (.code body :: .inBlock id :: k)
    | .loop body => some (.code body :: .inLoop body :: k)
    | .scope body => some (.code body :: .inScope body :: k)
    | .exit id => exitA id k
    | .goto l => gotoA l k
    | .region _ ops false => some (.ops ops 0 ops.toList :: k)
    | _ => none
  | .inBlock _ :: k | .inScope _ :: k => some k
  | .inLoop body :: k => some (.code body :: .inLoop body :: k)
  | .ops _ _ [] :: k => some k
  | _ => none

theorem control_sound {base : List Frame} {S : AState} {fr : Frame} {cs : List Frame} {bs bs' : List Nat} (R : SR A base B φ S fr cs w bs bs') (hm : S.top.mode = .run)
    (ht : TR φ S.top.tmps fr.tmps) (hi : IRL φ S.top.todo fr.todo) {t : List AItem} (e : controlA (A := A) S.top S.top.todo = some t) :
    Follows A base B φ fr cs w { S with top := { S.top with todo := t } } := by
  have key : ∀ {t' : List Item}, IRL φ t t' → (stepG.exec A.P true true fr cs none w).bare = .go { frame := { fr with todo := t' }, callers := cs, status := .running, dying := none } w →
      Follows A base B φ fr cs w { S with top := { S.top with todo := t } } := fun hi hs => Follows.to R hm ht hi hs
  have hev : ∀ x, VR φ (ev A S.top x) (fr.eval x) := fun x => ev_sound R.glob fun k v _ e => ht k v e
  generalize hT : S.top.todo = T at hi e
  unfold controlA at e
  split at e
  · rename_i c k
    obtain ⟨x', k', hfr, hx, hk⟩ := hi.cons_inv
    obtain rfl := hx.code_inv
    split at e
    · cases e; exact key hk (by simp [stepG.exec, hfr])
    · cases e; exact key hk (by simp [stepG.exec, hfr])
    · cases e; exact key (.cons (.code _) (.cons (.code _) hk)) (by simp [stepG.exec, hfr])
    · rename_i c x y
      split at e
      · rename_i b hb
        cases e
        have hv := hev c
        rw [hb] at hv
        have hv := hv.bool_inv
        exact key (.cons (.code _) hk) (by cases b <;> simp [stepG.exec, hfr, hv])
      · cases e
    · cases e; exact key (.cons (.code _) (.cons (.inBlock _) hk)) (by simp [stepG.exec, hfr])
    · cases e; exact key (.cons (.code _) (.cons (.inLoop _) hk)) (by simp [stepG.exec, hfr])
    · cases e; exact key (.cons (.code _) (.cons (.inScope _) hk)) (by simp [stepG.exec, hfr])
    · obtain ⟨k2, h1, h2⟩ := (exit_sound hk).1 _ e
      exact key h2 (by simp [stepG.exec, hfr, h1])
    · obtain ⟨k2, h1, h2⟩ := (goto_sound hk).1 _ e
      exact key h2 (by simp [stepG.exec, hfr, h1])
    · rename_i id ops
      cases e
      refine key (.cons (.ops (i := 0) (by simp)) hk) ?_
      simp [stepG.exec, hfr, List.range_eq_range']
    · cases e
  · obtain ⟨x', k', hfr, hx, hk⟩ := hi.cons_inv
    cases e
    cases hx
    exact key hk (by simp [stepG.exec, hfr])
  · obtain ⟨x', k', hfr, hx, hk⟩ := hi.cons_inv
    cases e
    cases hx
    exact key hk (by simp [stepG.exec, hfr])
  · obtain ⟨x', k', hfr, hx, hk⟩ := hi.cons_inv
    cases e
    cases hx
    exact key (.cons (.code _) (.cons (.inLoop _) hk)) (by simp [stepG.exec, hfr])
  · rename_i all i k
    obtain ⟨x', k', hfr, hx, hk⟩ := hi.cons_inv
    cases e
    cases hx with
    | ops hr =>
      have hn : all.size - i = 0 := by
        have := List.drop_eq_nil_iff.mp hr.symm
        simp at this; omega
      rw [hn] at hfr
      exact key hk (by simp [stepG.exec, hfr])
  · cases e

end Go.Ab
end

section
namespace Go.Ab
open Go.RowKit
variable {A : AProg} {P : Program} {B : Nat} {φ ψ : Ren} {h h' : AHeap} {w w' : World}

theorem finish_run {f f' : AFrame} {v : Value} (e : finishOps A f h v = some f') : f'.mode = f.mode ∧ f'.kind = f.kind ∧ f'.fn = f.fn := by
  unfold finishOps at e
  split at e
  · simp only [Option.map_eq_some_iff] at e
    obtain ⟨f1, hp, rfl⟩ := e
    unfold AFrame.put at hp
    split at hp
    · cases hp; exact ⟨rfl, rfl, rfl⟩
    · obtain ⟨_, hp⟩ := cond_some hp; cases hp; exact ⟨rfl, rfl, rfl⟩
  · simp only [Option.bind_eq_some_iff] at e
    obtain ⟨f1, hp, e⟩ := e
    obtain ⟨_, e⟩ := cond_some e
    cases e
    unfold AFrame.put at hp
    split at hp
    · cases hp; exact ⟨rfl, rfl, rfl⟩
    · obtain ⟨_, hp⟩ := cond_some hp; cases hp; exact ⟨rfl, rfl, rfl⟩
  · cases e; exact ⟨rfl, rfl, rfl⟩
  · cases e; exact ⟨rfl, rfl, rfl⟩
  · cases e

/-- `apply`, of what is handed on at once -/
theorem apply_gives {fr : Frame} {cs : List Frame} {s : Sem Next} {nx : Next} {v : Value} (hs : s.run P w = .ok nx w') (hg : Gives nx v) :
    (stepG.apply P true fr cs none s w).bare = .go { frame := fr.finish v, callers := cs, status := .running, dying := none } w' := by
  unfold stepG.apply
  simp only [if_true, Sem.runT_eq, hs]
  cases hg <;> simp

theorem wanted_sound {f : AFrame} {arr : Array Value} {all : Array Oper} {o : Oper} {c : Bool} (ht : ∀ j want oj d v, o.guard = some (j, want) → all[j]? = some oj → oj.dst = some d → f.tmps.get d = some v → ∃ v', arr[d]? = some v' ∧ VR φ v v')
    (e : wantedA all f o = some c) : Region.wanted o (yielded all arr) = c := by
  unfold wantedA at e
  unfold Region.wanted
  split at e
  · rename_i hg; cases e; rw [hg]
  · rename_i j want hg
    rw [hg]
    simp only
    unfold yielded
    split at e
    · rename_i oj hj
      rw [Array.getElem?_toList] at hj
      rw [hj, Option.bind_some]
      split at e
      · rename_i d hd
        rw [hd, Option.bind_some]
        split at e
        · rename_i b hb
          cases e
          obtain ⟨v', h1, h2⟩ := ht j want oj d _ hg hj hd hb
          obtain rfl := h2.bool_inv
          rw [h1]
          cases b <;> cases want <;> rfl
        · rename_i vs hb
          cases e
          obtain ⟨v', h1, h2⟩ := ht j want oj d _ hg hj hd hb
          obtain ⟨c', rfl, _⟩ := h2.tup_inv
          rw [h1]; rfl
        · cases e
      · rename_i hd
        cases e
        rw [hd]; rfl
    · rename_i hj
      cases e
      rw [Array.getElem?_toList] at hj
      rw [hj]; rfl

theorem valid_plain {f : AFrame} {fr : Frame} {bs : List Nat} (hi : IRL φ f.todo fr.todo) : Valid A f h fr bs := by
  intro _ all left quiet k is k' h1 h2
  rw [h1, h2] at hi
  cases hi with | cons hx _ => cases hx

theorem waits_plain {f : AFrame} {fr : Frame} (hi : IRL φ f.todo fr.todo) : Waits f fr := by
  intro all left quiet k is k' h1 h2
  rw [h1, h2] at hi
  cases hi with | cons hx _ => cases hx

theorem exec_finish {fr : Frame} {cs : List Frame} {all : Array Oper} {i : Nat} {is : List Nat} {k' : List Item} {o : Oper} (hfr : fr.todo = .inRegion all (i :: is) :: k') (ho : all[i]? = some o)
    (hw : Region.wanted o (yielded all fr.tmps) = false) :
    (stepG.exec P true true fr cs none w).bare = .go { frame := fr.finish undef, callers := cs, status := .running, dying := none } w := by
  unfold stepG.exec
  simp [hfr, ho, hw]

theorem exec_oper {fr : Frame} {cs : List Frame} {all : Array Oper} {i : Nat} {is : List Nat} {k' : List Item} {o : Oper} (hfr : fr.todo = .inRegion all (i :: is) :: k') (ho : all[i]? = some o)
    (hw : Region.wanted o (yielded all fr.tmps) = true) (hd : fr.roundOf = none ∨ ∀ c, o.op ≠ .defer c) :
    (stepG.exec P true true fr cs none w) = stepG.apply P true fr cs none (execOp fr.eval o) w := by
  unfold stepG.exec
  simp only [hfr, ho, Option.map_some, hw, Option.getD_some, if_true]
  unfold stepG.oper
  have : fr.oper? = some o := by unfold Frame.oper?; rw [hfr]; exact ho
  rw [this]
  simp only
  split
  · rename_i l c h1 h2
    rcases hd with hd | hd
    · rw [hd] at h1; cases h1
    · exact absurd h2 (hd c)
  · rfl

end Go.Ab
end

section
namespace Go.Ab
open Go.RowKit
variable {A : AProg} {P : Program} {B : Nat} {φ ψ : Ren} {h h' : AHeap} {w w' : World}

/-- an operation at a plain head hands its value on -/
theorem after_plain {base : List Frame} {S : AState} {fr : Frame} {cs : List Frame} {bs bs' : List Nat} (R : SR A base B φ S fr cs w bs bs')
    (ht : TR φ S.top.tmps fr.tmps) (hi : IRL φ S.top.todo fr.todo) {v v' : Value} {t : AFrame} (hd : Did B φ S.heap h' w v v' w' ψ) (e : finishOps A S.top h' v = some t)
    (hs : step A.P (lone fr cs w) = .next (lone (fr.finish v') cs w')) : Follows A base B φ fr cs w { S with top := t, heap := h' } := by
  have hbs : bs'.Nodup := by
    have := R.nodup
    rw [List.nodup_append] at this
    exact this.2.1
  have htop : FrR φ S.heap S.top fr [] := ⟨R.top.fn, R.top.nt, R.top.mode, R.top.kind, R.top.defers, R.top.round, .plain ht hi, .inr ht⟩
  obtain ⟨f1, f2, f3⟩ := finish_plain (htop.mono hd.le hd.old hd.next) (ht.mono hd.le) (hi.mono hd.le) hd.val e
  refine ⟨fr.finish v', cs, w', ψ, [], bs', .one hs, ⟨hd.hr, hd.bnd, ?_, R.glob.mono hd.le, f1, R.low.mono hd.le hd.old hd.next, by simpa using hbs, valid_plain f3⟩, hd.le, hd.below⟩
  exact Nat.le_trans R.hB hd.below.size

theorem oper_plain {base : List Frame} {S : AState} {fr : Frame} {cs : List Frame} {bs bs' : List Nat} (R : SR A base B φ S fr cs w bs bs') (hm : S.top.mode = .run)
    (ht : TR φ S.top.tmps fr.tmps) (hi : IRL φ S.top.todo fr.todo) {all : Array Oper} {i : Nat} {o : Oper} {rest : List Oper} {k : List AItem} (htd : S.top.todo = .ops all i (o :: rest) :: k) {c : Bool}
    (hw : wantedA all S.top o = some c) {v : Value} {t : AFrame} (hdef : ∀ c, o.op ≠ .defer c)
    (e : (c = false ∧ v = undef ∧ h' = S.heap) ∨ (c = true ∧ isQuiet o.op = true ∧ quietV A (ev A S.top) S.heap o.op o.type = some v ∧ h' = S.heap) ∨
      (c = true ∧ activeV A (ev A S.top) S.heap o.op o.type = some (v, h')))
    (ef : finishOps A S.top h' v = some t) : Follows A base B φ fr cs w { S with top := t, heap := h' } := by
  have hfm : fr.mode = .run := (show MR φ .run fr.mode from hm ▸ R.top.mode).run_inv
  have hev : ∀ x, VR φ (ev A S.top x) (fr.eval x) := fun x => ev_sound R.glob fun k v _ e => ht k v e
  have hwc := wanted_sound (arr := fr.tmps) (fun j want oj d v _ _ _ e => ht d v e) hw
  have hi' := hi
  rw [htd] at hi'
  obtain ⟨x', k', hfr, hx, hk⟩ := hi'.cons_inv
  cases hx with
  | ops hr =>
  have hlt : i < all.toList.length := by
    rcases Nat.lt_or_ge i all.toList.length with hh | hh
    · exact hh
    · rw [List.drop_eq_nil_of_le hh] at hr; cases hr
  have hrange : List.range' i (all.size - i) = i :: List.range' (i + 1) (all.size - (i + 1)) := by
    have : i < all.size := by simpa using hlt
    rw [show all.size - i = (all.size - (i + 1)) + 1 by omega, List.range'_succ]
  rw [List.drop_eq_getElem_cons hlt] at hr
  injection hr with ho hr
  have hoi : all[i]? = some o := by rw [← Array.getElem?_toList, List.getElem?_eq_getElem hlt, ← ho]
  rw [hrange] at hfr
  rcases e with ⟨rfl, rfl, rfl⟩ | ⟨rfl, hq, hv, rfl⟩ | ⟨rfl, hv⟩
  · exact after_plain R ht hi (Did.same R.hr R.bnd (.tuple .nil)) ef (step_exec hfm (exec_finish hfr hoi hwc))
  · obtain ⟨v', h1, h2⟩ := quiet_sound R.hr (fun x _ => hev x) hv
    refine after_plain R ht hi (Did.same R.hr R.bnd h2) ef (step_exec hfm ?_)
    rw [exec_oper hfr hoi hwc (.inr hdef)]
    exact apply_gives h1 (.value _)
  · obtain ⟨nx, v', w', ψ, h1, h2, h3⟩ := active_sound R.hr R.bnd R.hB (fun x _ => hev x) hv
    refine after_plain R ht hi h3 ef (step_exec hfm ?_)
    rw [exec_oper hfr hoi hwc (.inr hdef)]
    exact apply_gives h1 h2

end Go.Ab
end

section
namespace Go.Ab
open Go.RowKit
variable {A : AProg} {P : Program} {B : Nat} {φ ψ : Ren} {h h' : AHeap} {w w' : World}

theorem putArgs_get : ∀ (vs : List Value) (i : Nat) (t : T Value) (k : Nat), i + vs.length ≤ bound → (putArgs i vs t).get k = if i ≤ k ∧ k < i + vs.length then vs[k - i]? else t.get k := by
  intro vs
  induction vs with
  | nil => intro i t k _; unfold putArgs; rw [if_neg (by simp only [List.length_nil]; omega)]
  | cons v vs ih =>
    intro i t k hb
    simp only [List.length_cons] at hb
    unfold putArgs
    rw [ih (i + 1) _ k (by omega), T.get_put' _ _ _ _ (by omega)]
    by_cases h1 : k = i
    · subst h1
      rw [if_neg (by omega), if_pos rfl, if_pos (by simp)]
      simp
    · rw [if_neg h1]
      by_cases h2 : i + 1 ≤ k ∧ k < i + 1 + vs.length
      · rw [if_pos h2, if_pos (by simp; omega), show k - i = (k - (i + 1)) + 1 by omega, List.getElem?_cons_succ]
      · rw [if_neg h2, if_neg (by simp; omega)]

theorem leaf_get (k : Nat) : (T.leaf : T Value).get k = none := by unfold T.get; rfl

theorem enter_sound {f : FuncId} {args : List Value} {args' : Array Value} {kind : CallKind} {t : AFrame} (ha : VRL φ args args'.toList) (e : enterA A f args kind = some t) :
    FrR φ h t (Frame.enter A.P f args' kind) [] ∧ TR φ t.tmps (Frame.enter A.P f args' kind).tmps ∧ IRL φ t.todo (Frame.enter A.P f args' kind).todo ∧ t.mode = .run := by
  unfold enterA at e
  split at e
  · rename_i fn hf
    split at e
    · rename_i body hb
      obtain ⟨hl, e⟩ := cond_some e
      have hl : args.length < 4096 := by simpa [Nat.blt_eq] using hl
      cases e
      have hlen := ha.length
      simp only [Array.length_toList] at hlen
      have hbd : bound = 1000000 := rfl
      have ht : TR φ (putArgs 0 args .leaf) (args' ++ Array.replicate (fn.ntmps - args'.size) undef) := by
        intro k v e
        rw [putArgs_get _ _ _ _ (by omega)] at e
        by_cases hk : 0 ≤ k ∧ k < 0 + args.length
        · rw [if_pos hk, Nat.sub_zero] at e
          obtain ⟨v', h1, h2⟩ := ha.get e
          refine ⟨v', ?_, h2⟩
          rw [Array.getElem?_append_left (by omega), ← Array.getElem?_toList]
          exact h1
        · rw [if_neg hk, leaf_get] at e; cases e
      have hi : IRL φ [.code body] [.code body] := .cons (.code _) .nil
      have hent : Frame.enter A.P f args' kind = { fn := f, tmps := args' ++ Array.replicate (fn.ntmps - args'.size) undef, todo := [.code body], defers := [], mode := .run, kind } := by
        simp [Frame.enter, hf, hb]
      rw [hent]
      refine ⟨⟨rfl, ?_, .run, rfl, .nil, .none, .plain ht hi, .inl rfl⟩, ht, hi, rfl⟩
      simp only [Array.size_append, Array.size_replicate]
      omega
    · cases e
  · cases e

end Go.Ab
end

section
namespace Go.Ab
open Go.RowKit
variable {A : AProg} {P : Program} {B : Nat} {φ ψ : Ren} {h h' : AHeap} {w w' : World}

/-- no function with a body bears the one name that the model takes for itself -/
def NamesOk (P : Program) : Prop := ∀ (f : FuncId) (fn : Func) (c : Code), P.funcs[f]? = some fn → fn.body = some c → (fn.name == "runtime.NumGoroutine") = false

theorem run_callFunc {f : FuncId} {fn : Func} {c : Code} {args : Array Value} (hN : NamesOk P) (hf : P.funcs[f]? = some fn) (hb : fn.body = some c) :
    (callFunc f args).run P w = .ok (.enter f args) w := by
  have hn := hN f fn c hf hb
  unfold callFunc program
  simp only [Sem.run_bind, Sem.run, Result.andThen_ok, hf]
  rw [hn]
  simp [hb]

theorem run_call {ρ : Operand → Value} {o : Oper} {x : Operand} {args : Array Operand} {ats : Array TypeId} {f : FuncId} {first captured : Array Value} (ho : o.op = .call { callee := .value x, args, argTypes := ats })
    (hx : ρ x = .func (.func f) first captured) : (execOp ρ o).run P w = (callFunc f (first ++ args.map ρ ++ captured)).run P w := by
  unfold execOp
  rw [ho]
  simp only [resolve, Deferred.ofValue, hx]
  rw [run_bind_ok (run_pure _ _)]
  rfl

theorem apply_enter {fr : Frame} {cs : List Frame} {s : Sem Next} {f : FuncId} {args : Array Value} {ops : Array Oper} {is : List Nat} {k : List Item} (hfr : fr.todo = .inRegion ops is :: k)
    (hs : s.run P w = .ok (.enter f args) w') :
    (stepG.apply P true fr cs none s w).bare = .go { frame := Frame.enter P f args .normal, callers := fr :: cs, status := .running, dying := none } w' := by
  unfold stepG.apply
  simp only [if_true, Sem.runT_eq, hs, hfr]
  simp

end Go.Ab
end

section
namespace Go.Ab
open Go.RowKit
variable {A : AProg} {P : Program} {B : Nat} {φ ψ : Ren} {h h' : AHeap} {w w' : World}

theorem enter_body {f : FuncId} {args : List Value} {kind : CallKind} {t : AFrame} (e : enterA A f args kind = some t) : ∃ fn c, A.P.funcs[f]? = some fn ∧ fn.body = some c := by
  unfold enterA at e
  split at e
  · rename_i fn hf
    split at e
    · rename_i body hb; exact ⟨fn, body, hf, hb⟩
    · cases e
  · cases e

theorem call_plain {base : List Frame} {S : AState} {fr : Frame} {cs : List Frame} {bs bs' : List Nat} (hN : NamesOk A.P) (R : SR A base B φ S fr cs w bs bs') (hm : S.top.mode = .run)
    (ht : TR φ S.top.tmps fr.tmps) (hi : IRL φ S.top.todo fr.todo) {all : Array Oper} {i : Nat} {o : Oper} {rest : List Oper} {k : List AItem} (htd : S.top.todo = .ops all i (o :: rest) :: k)
    (hw : wantedA all S.top o = some true) {x : Operand} {args : Array Operand} {ats : Array TypeId} (ho : o.op = .call { callee := .value x, args, argTypes := ats })
    {f : FuncId} {first captured : Array Value} (hx : ev A S.top x = .func (.func f) first captured) {t : AFrame}
    (e : enterA A f (first.toList ++ args.toList.map (ev A S.top) ++ captured.toList) .normal = some t) :
    Follows A base B φ fr cs w { S with top := t, callers := S.top :: S.callers } := by
  have hfm : fr.mode = .run := (show MR φ .run fr.mode from hm ▸ R.top.mode).run_inv
  have hev : ∀ x, VR φ (ev A S.top x) (fr.eval x) := fun x => ev_sound R.glob fun k v _ e => ht k v e
  have hwc := wanted_sound (arr := fr.tmps) (fun j want oj d v _ _ _ e => ht d v e) hw
  have hi' := hi
  rw [htd] at hi'
  obtain ⟨x', k', hfr, hxx, hk⟩ := hi'.cons_inv
  cases hxx with
  | ops hr =>
  have hlt : i < all.toList.length := by
    rcases Nat.lt_or_ge i all.toList.length with hh | hh
    · exact hh
    · rw [List.drop_eq_nil_of_le hh] at hr; cases hr
  have hrange : List.range' i (all.size - i) = i :: List.range' (i + 1) (all.size - (i + 1)) := by
    have : i < all.size := by simpa using hlt
    rw [show all.size - i = (all.size - (i + 1)) + 1 by omega, List.range'_succ]
  rw [List.drop_eq_getElem_cons hlt] at hr
  injection hr with hoo hr
  have hoi : all[i]? = some o := by rw [← Array.getElem?_toList, List.getElem?_eq_getElem hlt, ← hoo]
  rw [hrange] at hfr
  have hxv := hev x
  rw [hx] at hxv
  obtain ⟨fn', a', c', hx', hF, h1, h2⟩ := hxv.func_inv
  cases hF
  obtain ⟨fn, c, hf, hb⟩ := enter_body e
  have hargs : VRL φ (first.toList ++ args.toList.map (ev A S.top) ++ captured.toList) (a' ++ args.map fr.eval ++ c').toList := by
    simp only [Array.toList_append, Array.toList_map]
    exact (h1.append (vrl_map fun x _ => hev x)).append h2
  obtain ⟨e1, e2, e3, e4⟩ := enter_sound hargs e
  have hrun := run_call (P := A.P) (w := w) ho hx'
  rw [run_callFunc hN hf hb] at hrun
  have hbs : bs'.Nodup := by
    have := R.nodup
    rw [List.nodup_append] at this
    exact this.2.1
  have htop : FrR φ S.heap S.top fr [] := ⟨R.top.fn, R.top.nt, R.top.mode, R.top.kind, R.top.defers, R.top.round, .plain ht hi, .inr ht⟩
  refine ⟨_, fr :: cs, w, φ, [], bs', .one (step_exec hfm ?_), ⟨R.hr, R.bnd, R.hB, R.glob, e1, ?_, by simpa using hbs, valid_plain e3⟩, Ren.le.refl φ, Below.refl _ _⟩
  · rw [exec_oper hfr hoi hwc (.inr (fun c hc => by rw [ho] at hc; cases hc))]
    exact apply_enter hfr hrun
  · exact CsR.cons (bs := []) htop (waits_plain hi) R.low

end Go.Ab
end

section
namespace Go.Ab
open Go.RowKit
variable {A : AProg} {P : Program} {B : Nat} {φ ψ : Ren} {h h' : AHeap} {w w' : World}

/-- 'return', or the end of the code, outside a round -/
theorem leave_plain {base : List Frame} {S : AState} {fr : Frame} {cs : List Frame} {bs bs' : List Nat} (R : SR A base B φ S fr cs w bs bs') (hm : S.top.mode = .run)
    (ht : TR φ S.top.tmps fr.tmps) (hi : IRL φ S.top.todo fr.todo) (hro : S.top.roundOf = none) (htd : S.top.todo = [] ∨ ∃ k, S.top.todo = .code .ret :: k) :
    Follows A base B φ fr cs w { S with top := { S.top with mode := .returning } } := by
  have hfm : fr.mode = .run := (show MR φ .run fr.mode from hm ▸ R.top.mode).run_inv
  have hfro : fr.roundOf = none := by
    have := R.top.round
    rw [hro] at this
    generalize fr.roundOf = q at this
    cases this; rfl
  have hbs : bs'.Nodup := by
    have := R.nodup
    rw [List.nodup_append] at this
    exact this.2.1
  refine ⟨{ fr with mode := .returning }, cs, w, φ, [], bs', .one (step_exec hfm ?_), ⟨R.hr, R.bnd, R.hB, R.glob, ⟨R.top.fn, R.top.nt, .returning, R.top.kind, R.top.defers, R.top.round, .plain ht hi, .inr ht⟩, R.low, by simpa using hbs, valid_plain hi⟩, Ren.le.refl φ, Below.refl _ _⟩
  rcases htd with htd | ⟨k, htd⟩
  · rw [htd] at hi
    have hfr := hi.nil_inv
    simp [stepG.exec, hfr, hfro]
  · rw [htd] at hi
    obtain ⟨x', k', hfr, hx, hk⟩ := hi.cons_inv
    obtain rfl := hx.code_inv
    simp [stepG.exec, hfr, hfro]

end Go.Ab
end

section
namespace Go.Ab
open Go.RowKit
variable {A : AProg} {P : Program} {B : Nat} {φ ψ : Ren} {h h' : AHeap} {w w' : World}

def resultC (arr : Array Value) (r : ResultVar) : Sem Value := match r with
  | .tmp t => pure (arr.getD t undef)
  | .cell a t => do loadVar t (← asAddr (arr.getD a undef))

theorem result_sound (H : HR B φ h w) {tmps : T Value} {arr : Array Value} (ht : TR φ tmps arr) {r : ResultVar} {v : Value} (e : resultA A h tmps r = some v) :
    ∃ v', (resultC arr r).run A.P w = .ok v' w ∧ VR φ v v' := by
  cases r with
  | tmp t =>
    simp only [resultA, Option.some.injEq] at e
    subst e
    refine ⟨arr.getD t undef, rfl, ?_⟩
    cases e : tmps.get t with
    | none => exact .any _
    | some v =>
      obtain ⟨v', h1, h2⟩ := ht t v e
      rw [Array.getD_eq_getD_getElem?, h1]; exact h2
  | cell a t =>
    unfold resultA at e
    simp only at e
    split at e
    · rename_i ad had
      cases e' : tmps.get a with
      | none => rw [e'] at had; cases had
      | some u =>
        rw [e'] at had
        simp only [Option.getD_some] at had
        subst had
        obtain ⟨v', h1, h2⟩ := ht a _ e'
        obtain ⟨i, hi, haa, rfl⟩ := h2.ptr_inv
        obtain ⟨v2, h3, h4⟩ := loadV_sound (P := A.P) H hi e
        refine ⟨v2, ?_, h4⟩
        unfold resultC
        simp only
        rw [Array.getD_eq_getD_getElem?, h1]
        rw [run_bind_ok (show (asAddr ((some (Value.pointer (some ⟨i.blk, i.base + ad.off, none⟩))).getD undef)).run A.P w = .ok ⟨i.blk, i.base + ad.off, none⟩ w from rfl)]
        exact h3
    · cases e

theorem results_list (H : HR B φ h w) {tmps : T Value} {arr : Array Value} (ht : TR φ tmps arr) : ∀ {rs : List ResultVar} {vs : List Value}, rs.mapM (resultA A h tmps) = some vs →
    ∃ vs', (rs.mapM (resultC arr)).run A.P w = .ok vs' w ∧ VRL φ vs vs' := by
  intro rs
  induction rs with
  | nil => intro vs e; simp at e; subst e; exact ⟨[], rfl, .nil⟩
  | cons r rs ih =>
    intro vs e
    rw [List.mapM_cons] at e
    simp only [Option.bind_eq_bind, Option.bind_eq_some_iff] at e
    obtain ⟨v, hv, us, hus, e⟩ := e
    cases e
    obtain ⟨v', h1, h2⟩ := result_sound H ht hv
    obtain ⟨us', h3, h4⟩ := ih hus
    refine ⟨v' :: us', ?_, .cons h2 h4⟩
    rw [List.mapM_cons, run_bind_ok h1, run_bind_ok h3]
    rfl

theorem results_sound (H : HR B φ h w) {tmps : T Value} {arr : Array Value} (ht : TR φ tmps arr) {fn : Func} {v : Value} (e : resultsA A h fn tmps = some v) :
    ∃ v', (results fn arr).run A.P w = .ok v' w ∧ VR φ v v' := by
  unfold resultsA at e
  simp only [Option.map_eq_some_iff] at e
  obtain ⟨vs, hvs, e⟩ := e
  obtain ⟨vs', h1, h2⟩ := results_list H ht hvs
  have hm : (fn.results.mapM (resultC arr)).run A.P w = .ok vs'.toArray w := by
    rw [← Array.toArray_toList (xs := fn.results)]
    rw [List.mapM_toArray, map_eq_pure_bind, run_bind_ok h1]
    rfl
  have hr : ∀ {v'}, ((fun vs : Array Value => (pure (if h : vs.size = 1 then vs[0] else .tuple vs) : Sem Value)) vs'.toArray).run A.P w = .ok v' w → (results fn arr).run A.P w = .ok v' w := by
    intro v' hh
    unfold results
    exact (run_bind_ok hm).trans hh
  split at e
  · rename_i v0
    cases e
    cases h2 with
    | cons h3 h4 =>
      cases h4
      exact ⟨_, hr rfl, h3⟩
  · rename_i hne
    cases e
    have hlen := h2.length
    have hsz : vs'.toArray.size ≠ 1 := by
      rw [List.size_toArray, ← hlen]
      intro hh
      obtain ⟨x, rfl⟩ := List.length_eq_one_iff.mp hh
      exact hne x rfl
    refine ⟨.tuple vs'.toArray, hr ?_, .tuple h2⟩
    simp only
    rw [dif_neg hsz]
    rfl

end Go.Ab
end

section
namespace Go.Ab
open Go.RowKit
variable {A : AProg} {P : Program} {B : Nat} {φ ψ : Ren} {h h' : AHeap} {w w' : World}

theorem step_unwind {fr fr' : Frame} {cs cs' : List Frame} (hm : fr.mode ≠ .run)
    (h : (unwind P true fr cs none w).bare = .go { frame := fr', callers := cs', status := .running, dying := none } w') :
    step P (lone fr cs w) = .next (lone fr' cs' w') := by
  refine step_lone_go ?_
  unfold stepG
  simp only
  cases hmm : fr.mode with
  | run => exact absurd hmm hm
  | returning => exact h
  | panicking c => exact h

theorem unwind_results {fr : Frame} {cs : List Frame} {fn : Func} {v : Value} (hm : fr.mode = .returning) (hd : fr.defers = []) (hf : P.funcs[fr.fn]? = some fn) (hr : (results fn fr.tmps).run P w = .ok v w) :
    (unwind P true fr cs none w).bare = (doReturn P true fr cs none v w).bare := by
  unfold unwind
  simp only [hd, hm, hf, Sem.runT_eq, hr]
  simp

end Go.Ab
end

section
namespace Go.Ab
open Go.RowKit
variable {A : AProg} {P : Program} {B : Nat} {φ ψ : Ren} {h h' : AHeap} {w w' : World}

theorem CsR.cons_inv {base : List Frame} {f : AFrame} {l : List AFrame} {l' : List Frame} {bs : List Nat} (hc : CsR φ h base (f :: l) l' bs) :
    ∃ fr l2 b1 b2, l' = fr :: l2 ∧ bs = b1 ++ b2 ∧ FrR φ h f fr b1 ∧ Waits f fr ∧ CsR φ h base l l2 b2 := by
  cases hc with
  | cons h1 h2 h3 => exact ⟨_, _, _, _, rfl, rfl, h1, h2, h3⟩

theorem MR.returning_inv {m : FrameMode} (h : MR φ .returning m) : m = .returning := by cases h; rfl
theorem DRL.nil_inv {l : List Deferred} (h : DRL φ [] l) : l = [] := by cases h; rfl

/-- a call's value is handed to a caller at a plain head -/
theorem return_plain {base : List Frame} {S : AState} {fr : Frame} {cs : List Frame} {bs bs' : List Nat} (R : SR A base B φ S fr cs w bs bs') (hm : S.top.mode = .returning)
    (hd : S.top.defers = []) (hk : S.top.kind = .normal) {c : AFrame} {rest : List AFrame} (hc : S.callers = c :: rest)
    {fn : Func} (hf : A.P.funcs[S.top.fn]? = some fn) {v : Value} (hv : resultsA A S.heap fn S.top.tmps = some v) {t : AFrame} (e : finishOps A c S.heap v = some t)
    (hp : ∀ all left quiet k, c.todo ≠ .draw all left quiet :: k) :
    Follows A base B φ fr cs w { S with top := t, callers := rest } := by
  have hfm : fr.mode = .returning := (show MR φ .returning fr.mode from hm ▸ R.top.mode).returning_inv
  have hfd : fr.defers = [] := (show DRL φ [] fr.defers from hd ▸ R.top.defers).nil_inv
  have ht : TR φ S.top.tmps fr.tmps := by
    rcases R.top.tr with h1 | h1
    · rw [hm] at h1; cases h1
    · exact h1
  obtain ⟨v', h1, h2⟩ := results_sound R.hr ht hv
  have hlow := R.low
  rw [hc] at hlow
  obtain ⟨frc, csr, b1, b2, rfl, rfl, g1, _, g2⟩ := hlow.cons_inv
  have hpl : TR φ c.tmps frc.tmps ∧ IRL φ c.todo frc.todo ∧ b1 = [] := by
    have := g1.todo
    generalize hA : c.todo = ta at this
    generalize hC : frc.todo = tc at this
    cases this with
    | plain q1 q2 => exact ⟨q1, q2, rfl⟩
    | draw q1 q2 => exact absurd hA (hp _ _ _ _)
  obtain ⟨p1, p2, rfl⟩ := hpl
  obtain ⟨f1, f2, f3⟩ := finish_plain g1 p1 p2 h2 e
  have hbs : b2.Nodup := by
    have := R.nodup
    rw [List.nodup_append] at this
    simpa using this.2.1
  refine ⟨frc.finish v', csr, w, φ, [], b2, .one (step_unwind (by rw [hfm]; simp) ?_), ⟨R.hr, R.bnd, R.hB, R.glob, f1, g2, by simpa using hbs, valid_plain f3⟩, Ren.le.refl φ, Below.refl _ _⟩
  rw [unwind_results hfm hfd (by rw [R.top.fn]; exact hf) h1]
  unfold doReturn
  simp only [R.top.kind, hk]
  rfl

end Go.Ab
end

section
namespace Go.Ab
open Go.RowKit
variable {A : AProg} {P : Program} {B : Nat} {φ ψ : Ren} {h h' : AHeap} {w w' : World}

/-- the rows that the table names are the model's -/
def ExtOk (A : AProg) : Prop := ∀ (f : FuncId) (e : Ext), A.ext.get f = some e → ∃ (fn : Func) (r : Array Value → Sem Value), A.P.funcs[f]? = some fn ∧ fn.body = none ∧
  (fn.name == "runtime.NumGoroutine") = false ∧ Extern.findNext fn = none ∧ Extern.find fn = some r ∧ RowIs e fn.params fn.resultTypes r

theorem run_callExt {f : FuncId} {fn : Func} {r : Array Value → Sem Value} {args : Array Value} {v : Value} (hf : P.funcs[f]? = some fn) (hb : fn.body = none) (hn : (fn.name == "runtime.NumGoroutine") = false)
    (hx : Extern.findNext fn = none) (he : Extern.find fn = some r) (hr : (r args).run P w = .ok v w') : (callFunc f args).run P w = .ok (.value v) w' := by
  unfold callFunc program
  simp only [Sem.run_bind, Sem.run, Result.andThen_ok, hf]
  rw [hn]
  simp only [Bool.false_eq_true, if_false, hb, Option.isNone_none, if_true, hx, he, mark]
  simp only [Sem.run_bind, Sem.run, Result.andThen_ok, hr]
  rfl

theorem call_ext {base : List Frame} {S : AState} {fr : Frame} {cs : List Frame} {bs bs' : List Nat} (hE : ExtOk A) (R : SR A base B φ S fr cs w bs bs') (hm : S.top.mode = .run)
    (ht : TR φ S.top.tmps fr.tmps) (hi : IRL φ S.top.todo fr.todo) {all : Array Oper} {i : Nat} {o : Oper} {rest : List Oper} {k : List AItem} (htd : S.top.todo = .ops all i (o :: rest) :: k)
    (hw : wantedA all S.top o = some true) {x : Operand} {args : Array Operand} {ats : Array TypeId} (ho : o.op = .call { callee := .value x, args, argTypes := ats })
    {f : FuncId} {first captured : Array Value} (hx : ev A S.top x = .func (.func f) first captured) {e : Ext} (he : A.ext.get f = some e) {v : Value} {t : AFrame}
    (hv : extV A e f S.heap (first.toList ++ args.toList.map (ev A S.top) ++ captured.toList) = some (v, h')) (ef : finishOps A S.top h' v = some t) :
    Follows A base B φ fr cs w { S with top := t, heap := h' } := by
  have hfm : fr.mode = .run := (show MR φ .run fr.mode from hm ▸ R.top.mode).run_inv
  have hev : ∀ x, VR φ (ev A S.top x) (fr.eval x) := fun x => ev_sound R.glob fun k v _ e => ht k v e
  have hwc := wanted_sound (arr := fr.tmps) (fun j want oj d v _ _ _ e => ht d v e) hw
  have hi' := hi
  rw [htd] at hi'
  obtain ⟨x', k', hfr, hxx, hk⟩ := hi'.cons_inv
  cases hxx with
  | ops hr =>
  have hlt : i < all.toList.length := by
    rcases Nat.lt_or_ge i all.toList.length with hh | hh
    · exact hh
    · rw [List.drop_eq_nil_of_le hh] at hr; cases hr
  have hrange : List.range' i (all.size - i) = i :: List.range' (i + 1) (all.size - (i + 1)) := by
    have : i < all.size := by simpa using hlt
    rw [show all.size - i = (all.size - (i + 1)) + 1 by omega, List.range'_succ]
  rw [List.drop_eq_getElem_cons hlt] at hr
  injection hr with hoo hr
  have hoi : all[i]? = some o := by rw [← Array.getElem?_toList, List.getElem?_eq_getElem hlt, ← hoo]
  rw [hrange] at hfr
  have hxv := hev x
  rw [hx] at hxv
  obtain ⟨fn', a', c', hx', hF, h1, h2⟩ := hxv.func_inv
  cases hF
  have hargs : VRL φ (first.toList ++ args.toList.map (ev A S.top) ++ captured.toList) (a' ++ args.map fr.eval ++ c').toList := by
    simp only [Array.toList_append, Array.toList_map]
    exact (h1.append (vrl_map fun x _ => hev x)).append h2
  obtain ⟨fn, r, hf, hb, hn, hxn, hfd, hrow⟩ := hE f e he
  obtain ⟨v', w', ψ, g1, g2⟩ := ext_sound R.hr R.bnd R.hB hf hrow hargs hv
  refine after_plain R ht hi g2 ef (step_exec hfm ?_)
  rw [exec_oper hfr hoi hwc (.inr (fun c hc => by rw [ho] at hc; cases hc))]
  refine apply_gives (nx := .value v') ?_ (.value _)
  rw [run_call ho hx']
  exact run_callExt hf hb hn hxn hfd g1

end Go.Ab
end

section
namespace Go.Ab
open Go.RowKit
variable {A : AProg} {P : Program} {B : Nat} {φ ψ : Ren} {h h' : AHeap} {w w' : World}

/-- what stands at a plain head of operations -/
theorem head_plain {f : AFrame} {fr : Frame} (hi : IRL φ f.todo fr.todo) {all : Array Oper} {i : Nat} {o : Oper} {rest : List Oper} {k : List AItem} (htd : f.todo = .ops all i (o :: rest) :: k) :
    ∃ is k', fr.todo = .inRegion all (i :: is) :: k' ∧ all[i]? = some o := by
  rw [htd] at hi
  obtain ⟨x', k', hfr, hxx, hk⟩ := hi.cons_inv
  cases hxx with
  | ops hr =>
  have hlt : i < all.toList.length := by
    rcases Nat.lt_or_ge i all.toList.length with hh | hh
    · exact hh
    · rw [List.drop_eq_nil_of_le hh] at hr; cases hr
  have hrange : List.range' i (all.size - i) = i :: List.range' (i + 1) (all.size - (i + 1)) := by
    have : i < all.size := by simpa using hlt
    rw [show all.size - i = (all.size - (i + 1)) + 1 by omega, List.range'_succ]
  rw [List.drop_eq_getElem_cons hlt] at hr
  injection hr with hoo hr
  have hoi : all[i]? = some o := by rw [← Array.getElem?_toList, List.getElem?_eq_getElem hlt, ← hoo]
  rw [hrange] at hfr
  exact ⟨_, _, hfr, hoi⟩

theorem SR.plain {base : List Frame} {S : AState} {fr : Frame} {cs : List Frame} {bs bs' : List Nat} (R : SR A base B φ S fr cs w bs bs') (hp : ∀ all left quiet k, S.top.todo ≠ .draw all left quiet :: k) :
    TR φ S.top.tmps fr.tmps ∧ IRL φ S.top.todo fr.todo ∧ bs = [] := by
  have := R.top.todo
  generalize hA : S.top.todo = ta at this
  generalize hC : fr.todo = tc at this
  cases this with
  | plain q1 q2 => exact ⟨q1, q2, rfl⟩
  | draw q1 q2 => exact absurd hA (hp _ _ _ _)

theorem SR.low_nodup {base : List Frame} {S : AState} {fr : Frame} {cs : List Frame} {bs bs' : List Nat} (R : SR A base B φ S fr cs w bs bs') : bs'.Nodup := by
  have := R.nodup
  rw [List.nodup_append] at this
  exact this.2.1

theorem apply_skip {fr : Frame} {cs : List Frame} {s : Sem Next} {d : Deferred} (hs : s.run P w = .ok (.defer d) w') :
    (stepG.apply P true fr cs none s w).bare = .go { frame := ({ fr with defers := d :: fr.defers } : Frame).finish undef, callers := cs, status := .running, dying := none } w' := by
  unfold stepG.apply
  simp [Sem.runT_eq, hs]

theorem apply_panic {fr : Frame} {cs : List Frame} {s : Sem Next} {v : Value} (hs : s.run P w = .halt (.panic v) w') :
    (stepG.apply P true fr cs none s w).bare = .go { frame := fr.raise [{ v, recovered := false }], callers := cs, status := .running, dying := none } w' := by
  unfold stepG.apply
  simp [Sem.runT_eq, hs]

/-- 'defer' at a plain head -/
theorem defer_plain {base : List Frame} {S : AState} {fr : Frame} {cs : List Frame} {bs bs' : List Nat} (R : SR A base B φ S fr cs w bs bs') (hm : S.top.mode = .run)
    (ht : TR φ S.top.tmps fr.tmps) (hi : IRL φ S.top.todo fr.todo) {all : Array Oper} {i : Nat} {o : Oper} {rest : List Oper} {k : List AItem} (htd : S.top.todo = .ops all i (o :: rest) :: k)
    (hw : wantedA all S.top o = some true) {x : Operand} {args : Array Operand} {ats : Array TypeId} (ho : o.op = .defer { callee := .value x, args, argTypes := ats }) (hro : S.top.roundOf = none)
    {fn : Fn} {first captured : Array Value} (hx : ev A S.top x = .func fn first captured) {t : AFrame}
    (ef : finishOps A { S.top with defers := { target := .fn fn captured, args := ⟨first.toList ++ args.toList.map (ev A S.top)⟩ } :: S.top.defers } S.heap undef = some t) :
    Follows A base B φ fr cs w { S with top := t } := by
  have hfm : fr.mode = .run := (show MR φ .run fr.mode from hm ▸ R.top.mode).run_inv
  have hev : ∀ x, VR φ (ev A S.top x) (fr.eval x) := fun x => ev_sound R.glob fun k v _ e => ht k v e
  have hwc := wanted_sound (arr := fr.tmps) (fun j want oj d v _ _ _ e => ht d v e) hw
  obtain ⟨is, k', hfr, hoi⟩ := head_plain hi htd
  have hfro : fr.roundOf = none := by
    have := R.top.round
    rw [hro] at this
    generalize fr.roundOf = q at this
    cases this; rfl
  have hxv := hev x
  rw [hx] at hxv
  obtain ⟨fn', a', c', hx', hF, h1, h2⟩ := hxv.func_inv
  let d : Deferred := { target := .fn fn' c', args := a' ++ args.map fr.eval }
  have hrun : (execOp fr.eval o).run A.P w = .ok (.defer d) w := by
    unfold execOp
    rw [ho]
    simp only [resolve, Deferred.ofValue, hx']
    rfl
  have hd : DRL φ ({ target := .fn fn captured, args := ⟨first.toList ++ args.toList.map (ev A S.top)⟩ } :: S.top.defers) (d :: fr.defers) := by
    refine .cons ⟨.fn hF h2, ?_⟩ R.top.defers
    simp only [d, Array.toList_append, Array.toList_map]
    exact h1.append (vrl_map fun x _ => hev x)
  have hf0 : FrR φ S.heap { S.top with defers := { target := .fn fn captured, args := ⟨first.toList ++ args.toList.map (ev A S.top)⟩ } :: S.top.defers } { fr with defers := d :: fr.defers } [] :=
    ⟨R.top.fn, R.top.nt, R.top.mode, R.top.kind, hd, R.top.round, .plain ht hi, .inr ht⟩
  obtain ⟨f1, f2, f3⟩ := finish_plain hf0 ht hi (.tuple .nil) ef
  refine ⟨_, cs, w, φ, [], bs', .one (step_exec hfm ?_), ⟨R.hr, R.bnd, R.hB, R.glob, f1, R.low, by simpa using R.low_nodup, valid_plain f3⟩, Ren.le.refl φ, Below.refl _ _⟩
  rw [exec_oper hfr hoi hwc (.inl hfro)]
  exact apply_skip hrun

end Go.Ab
end
