/- Part of the proof that ReportInputs gives true at every text. -/
import Derived.Test.YtdidhokilifakaaGreatDoorAbP5
import Derived.Test.YtdidhokilifakaaGreatDoorRows
import Derived.Test.YtdidhokilifakaaGreatDoorShelf

section
namespace Go.Ab.Hd
open Go Go.Ab Go.Proofs

def extL : List (Nat × Ext) := [(152, Ext.same), (154, .loadInt .i64), (157, .count), (210, .makeNoZero), (244, .addInt .i64), (258, .indexByte), (282, .loadInt .u32), (364, .store), (439, .mark0), (440, .cas .i32), (441, .mark0), (442, .mark1), (444, .mark1), (445, .addInt .i32)]
noncomputable def extT : Go.Ab.T Ext := extL.foldl (fun t p => T.put depth t p.1 (some p.2)) T.leaf

theorem names_all : (Tryz.prog.funcs.toList.all fun fn => fn.body.isNone || !(fn.name == "runtime.NumGoroutine")) = true := by kernel_rfl

theorem names : NamesOk Tryz.prog := by
  intro f fn c hf hb
  have := List.all_eq_true.mp names_all fn (by
    rw [← Array.getElem?_toList] at hf
    exact List.mem_of_getElem? hf)
  rw [hb] at this
  simpa using this

theorem mix : Tryz.prog.follows .mixedOrders = true := by kernel_rfl

theorem ext_get {f : Nat} {e : Ext} (h : extT.get f = some e) : (f, e) ∈ extL := by
  have : ∀ (L : List (Nat × Ext)) (t : Go.Ab.T Ext), (∀ p, p ∈ L → p.1 < bound) → (L.foldl (fun t p => T.put depth t p.1 (some p.2)) t).get f = some e → (f, e) ∈ L ∨ t.get f = some e := by
    intro L
    induction L with
    | nil => intro t _ e; exact .inr e
    | cons p L ih =>
      intro t hb e
      rw [List.foldl_cons] at e
      rcases ih _ (fun q hq => hb q (by simp [hq])) e with hh | hh
      · exact .inl (by simp [hh])
      · rw [T.get_put' _ _ _ _ (hb p (by simp))] at hh
        by_cases hbp : f = p.1
        · rw [if_pos hbp] at hh
          cases hh
          left
          subst hbp
          simp
        · rw [if_neg hbp] at hh; exact .inr hh
  rcases this extL .leaf (by decide) h with hh | hh
  · exact hh
  · rw [show (T.leaf : Go.Ab.T Ext).get f = none by unfold T.get; rfl] at hh; cases hh

def rowOf (e : Ext) (ps rs : Array TypeId) : Array Value → Sem Value :=
  match e with
  | .loadInt k => Extern.Atomic.loadT (.int k)
  | .store => Extern.Atomic.storeT
  | .cas k => Extern.Atomic.casT (.int k)
  | .addInt k => Extern.Atomic.update (Op.intArith .add) k true
  | .indexByte => Extern.BytealgIndexByte.indexByte
  | .count => Extern.BytealgCount.count
  | .same => Extern.AbiNoEscape.same
  | .mark0 => fun _ => pure (.tuple #[])
  | .mark1 => fun _ => pure (.tuple #[])
  | .makeNoZero => Extern.BytealgMakeNoZero.makeNoZero ps rs

end Go.Ab.Hd
end

section
namespace Go.Ab.Hd
open Go Go.Ab Go.Proofs

theorem ext_rows : ∀ p, p ∈ extL → ∃ (fn : Func) (r : Array Value → Sem Value), Tryz.prog.funcs[p.1]? = some fn ∧ fn.body = none ∧
  (fn.name == "runtime.NumGoroutine") = false ∧ Extern.findNext fn = none ∧ Extern.find fn = some r ∧ RowIs p.2 fn.params fn.resultTypes r := by
  intro p hp
  simp only [extL, List.mem_cons, List.not_mem_nil, or_false] at hp
  rcases hp with rfl | rfl | rfl | rfl | rfl | rfl | rfl | rfl | rfl | rfl | rfl | rfl | rfl | rfl
  · exact ⟨Tryz.f152, Extern.AbiNoEscape.same, by kernel_rfl, rfl, by kernel_rfl, by kernel_rfl, by kernel_rfl, rfl⟩
  · exact ⟨Tryz.f154, Extern.Atomic.loadT (.int .i64), by kernel_rfl, rfl, by kernel_rfl, by kernel_rfl, by kernel_rfl, rfl⟩
  · exact ⟨Tryz.f157, Extern.BytealgCount.count, by kernel_rfl, rfl, by kernel_rfl, by kernel_rfl, by kernel_rfl, rfl⟩
  · exact ⟨Tryz.f210, Extern.BytealgMakeNoZero.makeNoZero Tryz.f210.params Tryz.f210.resultTypes, by kernel_rfl, rfl, by kernel_rfl, by kernel_rfl, by kernel_rfl, rfl⟩
  · exact ⟨Tryz.f244, Extern.Atomic.update (Op.intArith .add) .i64 true, by kernel_rfl, rfl, by kernel_rfl, by kernel_rfl, by kernel_rfl, rfl⟩
  · exact ⟨Tryz.f258, Extern.BytealgIndexByte.indexByte, by kernel_rfl, rfl, by kernel_rfl, by kernel_rfl, by kernel_rfl, rfl⟩
  · exact ⟨Tryz.f282, Extern.Atomic.loadT (.int .u32), by kernel_rfl, rfl, by kernel_rfl, by kernel_rfl, by kernel_rfl, rfl⟩
  · exact ⟨Tryz.f364, Extern.Atomic.storeT, by kernel_rfl, rfl, by kernel_rfl, by kernel_rfl, by kernel_rfl, rfl⟩
  · exact ⟨Tryz.f439, fun _ => do mark .disable; pure (.tuple #[]), by kernel_rfl, rfl, by kernel_rfl, by kernel_rfl, by kernel_rfl, ⟨_, rfl⟩⟩
  · exact ⟨Tryz.f440, Extern.Atomic.casT (.int .i32), by kernel_rfl, rfl, by kernel_rfl, by kernel_rfl, by kernel_rfl, rfl⟩
  · exact ⟨Tryz.f441, fun _ => do mark .enable; pure (.tuple #[]), by kernel_rfl, rfl, by kernel_rfl, by kernel_rfl, by kernel_rfl, ⟨_, rfl⟩⟩
  · exact ⟨Tryz.f442, Extern.Race.marked .acquire, by kernel_rfl, rfl, by kernel_rfl, by kernel_rfl, by kernel_rfl, ⟨_, rfl⟩⟩
  · exact ⟨Tryz.f444, Extern.Race.marked .releaseMerge, by kernel_rfl, rfl, by kernel_rfl, by kernel_rfl, by kernel_rfl, ⟨_, rfl⟩⟩
  · exact ⟨Tryz.f445, Extern.Atomic.update (Op.intArith .add) .i32 true, by kernel_rfl, rfl, by kernel_rfl, by kernel_rfl, by kernel_rfl, rfl⟩

theorem body_of {P : Program} {f : Nat} (h : (P.funcs[f]?.bind (·.body)).isSome = true) : ∃ fn c, P.funcs[f]? = some fn ∧ fn.body = some c := by
  cases hf : P.funcs[f]? with
  | none => rw [hf] at h; cases h
  | some fn =>
    rw [hf] at h
    cases hb : fn.body with
    | none => rw [Option.bind_some, hb] at h; cases h
    | some c => exact ⟨fn, c, rfl, hb⟩

/-- the machine, with strings.Contains known -/
noncomputable def A0 : AProg := { P := Tryz.prog, ng := 8, ext := extT, sum := fun f args h => cond (Nat.beq f 167) (sumContains args h) none }

theorem A0_ok : AOk A0 where
  names := names
  ext := fun f e h => ext_rows (f, e) (ext_get h)
  mix := mix
  sum := by
    intro f args h v e
    obtain ⟨hf, e⟩ := cond_some (show cond (Nat.beq f 167) (sumContains args h) none = some v from e)
    have := Nat.eq_of_beq_eq_true hf
    subst this
    refine ⟨body_of (P := Tryz.prog) (by kernel_rfl), ?_⟩
    intro B φ w args' fr cs H hn hB hg ha
    exact sumContains_ok (A := A0) (by decide) (fun s sub m w hs hm => Tryz.strings_Contains s sub m w hs hm) e fr cs H hg ha
end Go.Ab.Hd
end
