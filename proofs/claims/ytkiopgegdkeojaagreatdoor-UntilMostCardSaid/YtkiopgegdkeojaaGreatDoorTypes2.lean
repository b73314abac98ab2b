/- Both tables out of the row's condition. -/
import Derived.Test.YtkiopgegdkeojaaGreatDoorTypes
import Derived.Test.YtkiopgegdkeojaaGreatDoorMonth
import Derived.Stop.LaidErr
set_option linter.unusedVariables false
set_option linter.unusedSimpArgs false
namespace Go.Proofs.YtkiopgegdkeojaaGreatDoor.Laid
open Go Go.RowKit Go.ChangeShapes Go.WideShapes Go.Proofs.YtkiopgegdkeojaaGreatDoor.Walks
theorem gplain : Tryz.prog.globalNamed "almanacker/month.plain" = some 0 := by kernel_rfl
theorem gplainT : (Tryz.prog.globals[0]?).map (·.type) = some 105 := by kernel_rfl
theorem und12 : Tryz.prog.underlying 105 = some (.array 12 3) := by kernel_rfl
theorem plain_head {W : World} {rest : List (String × DataW Unit)} (h : laidMet Tryz.prog (("almanacker/month.plain", Rows.laid_almanacker_month_plain) :: rest) W) :
    Lib.TabIs Tryz.prog W "almanacker/month.plain" .i64 [30, 29, 30, 29, 30, 29, 30, 29, 30, 29, 30, 29] :=
  Lib.tabIs_of_head gplain gplainT und12 Tryz.underlying3 (by kernel_rfl) (by kernel_rfl) h
theorem GT_of_laid {W : World} {rest : List (String × DataW Unit)} (h : laidMet Tryz.prog (("almanacker/keviah.types", Rows.laid_almanacker_keviah_types) :: ("almanacker/month.plain", Rows.laid_almanacker_month_plain) :: rest) W) : GT W := by
  have T := TT_of_laid h
  have P := plain_head (laidMet.tail h)
  have c : ∀ j, j < 12 → W.cell? ⟨0, j, none⟩ = some (.int .i64 (plv j)) := fun j hj => by
    have h2 := P.cell gplain j (by simpa using hj)
    rw [h2]
    have : j = 0 ∨ j = 1 ∨ j = 2 ∨ j = 3 ∨ j = 4 ∨ j = 5 ∨ j = 6 ∨ j = 7 ∨ j = 8 ∨ j = 9 ∨ j = 10 ∨ j = 11 := by omega
    rcases this with rfl | rfl | rfl | rfl | rfl | rfl | rfl | rfl | rfl | rfl | rfl | rfl <;> rfl
  exact ⟨T, World.block_lt_of_cell? W _ (c 0 (by omega)), c⟩
end Go.Proofs.YtkiopgegdkeojaaGreatDoor.Laid
