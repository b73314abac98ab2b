/- Walks of the reference of layer 6: years of days, by halves. -/
import Derived.Test.YtkiopgegdkeojaaDoorYear
set_option linter.unusedVariables false
set_option linter.unusedSimpArgs false
namespace Go.Proofs.YtkiopgegdkeojaaDoor.Walks
open Go Go.RowKit Go.Sort Go.Proofs.YtkiopgegdkeojaaDoor.Base Go.Proofs.YtkiopgegdkeojaaDoor.Plain Go.Proofs.YtkiopgegdkeojaaDoor.Math

theorem three_up (X : Int) : 3 * (X + 1) = 3 * X + 3 := by omega

end Go.Proofs.YtkiopgegdkeojaaDoor.Walks
