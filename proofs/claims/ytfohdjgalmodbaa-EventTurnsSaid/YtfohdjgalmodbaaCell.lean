/- Cells behind a store, whatever world it is. -/
import Derived.WalkKit
set_option linter.unusedVariables false
set_option linter.unusedSimpArgs false
namespace Tryst
open Go Go.RowKit
/-- a cell behind a store, whatever world it is -/
theorem cell_setCell (X : World) (b o b' o' : Nat) (v : Value) : (X.setCell ⟨b, o, none⟩ v).cell? ⟨b', o', none⟩ = if b = b' ∧ o = o' then (X.cell? ⟨b', o', none⟩).map (fun _ => v) else X.cell? ⟨b', o', none⟩ := by
  unfold World.setCell World.cell?
  simp only [Array.getElem?_modify]
  by_cases hb : b = b'
  · subst hb
    rw [if_pos rfl]
    cases h : X.heap[b]? with
    | none => simp
    | some ob =>
      cases ob with
      | cells c e f =>
        simp only [Option.map_some, Option.isSome_none, Bool.false_eq_true, if_false, true_and]
        rw [Array.getElem?_setIfInBounds]
        by_cases ho : o = o'
        · subst ho
          rw [if_pos rfl, if_pos rfl]
          by_cases hlt : o < c.size
          · simp [hlt]
          · simp [hlt]
        · rw [if_neg ho, if_neg ho]
      | _ => simp
  · rw [if_neg hb, if_neg (fun h => hb h.1)]
theorem frozen_setCell (X : World) (b o b' o' : Nat) (v : Value) : (X.setCell ⟨b, o, none⟩ v).frozen? ⟨b', o', none⟩ = X.frozen? ⟨b', o', none⟩ := by
  unfold World.setCell World.frozen?
  simp only [Array.getElem?_modify]
  by_cases hb : b = b'
  · subst hb
    rw [if_pos rfl]
    cases h : X.heap[b]? with
    | none => simp
    | some ob => cases ob <;> simp
  · rw [if_neg hb]
end Tryst
