/- Cells and marks behind a store. -/
import Derived.Test.YtkiopgegdkeojaaGreatDoorBase
set_option linter.unusedVariables false
namespace Go.Proofs.YtkiopgegdkeojaaGreatDoor.Base
open Go Go.RowKit Go.Sort

/-- A cell behind a store. -/
theorem set_cell {W : World} {b o b' o' : Nat} {v u : Value} (h : W.cell? ⟨b', o', none⟩ = some u) : (W.setCell ⟨b, o, none⟩ v).cell? ⟨b', o', none⟩ = some (if b = b' ∧ o = o' then v else u) := by
  unfold World.cell? at h ⊢
  unfold World.setCell
  simp only [Array.getElem?_modify]
  cases hb : W.heap[b']? with
  | none => rw [hb] at h; cases h
  | some x =>
    rw [hb] at h
    cases x with
    | cells c e f =>
      simp only [Option.isSome_none, Bool.false_eq_true, if_false] at h ⊢
      by_cases e1 : b = b'
      · subst e1
        simp only [if_true, Option.map_some]
        by_cases e2 : o = o'
        · subst e2
          have hl : o < c.size := by
            by_cases hl : o < c.size
            · exact hl
            · rw [Array.getElem?_eq_none (by omega)] at h; cases h
          simp [hl]
        · simp [e2, h]
      · simp [e1, h]
    | _ => simp at h
theorem set_frozen {W : World} {b o b' o' : Nat} {v : Value} {u : Bool} (h : W.frozen? ⟨b', o', none⟩ = u) : (W.setCell ⟨b, o, none⟩ v).frozen? ⟨b', o', none⟩ = u := by
  rw [← h]
  unfold World.frozen? World.setCell
  simp only [Array.getElem?_modify]
  by_cases e1 : b = b'
  · subst e1
    cases hb : W.heap[b]? with
    | none => simp
    | some x => cases x <;> simp
  · simp [e1]

end Go.Proofs.YtkiopgegdkeojaaGreatDoor.Base
