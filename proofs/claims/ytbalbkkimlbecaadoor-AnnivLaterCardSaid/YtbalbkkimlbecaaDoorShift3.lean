/- Walks of package shift: the month so many months away, by years and months; a day fitted into a month. -/
import Derived.Test.YtbalbkkimlbecaaDoorShift2
set_option linter.unusedVariables false
set_option linter.unusedSimpArgs false
namespace Go.Proofs.YtbalbkkimlbecaaDoor.Walks
open Go Go.RowKit Go.Sort Go.Proofs.YtbalbkkimlbecaaDoor.Base Go.Proofs.YtbalbkkimlbecaaDoor.Plain Go.Proofs.YtbalbkkimlbecaaDoor.Math


/-- The error, and the day, of a day fitted into a month (L: its last one; E: its error). -/
def fitE (L E d m : Int) : Int := if m = 0 ∨ m = 1 then (if E = 0 then (if 1 ≤ d ∧ d ≤ 30 then (if d ≤ L then 0 else if m = 1 then 7 else 0) else 4) else E) else 1
def fitN (L E d m : Int) : Int := if fitE L E d m = 0 then (if d ≤ L then d else L) else 0

end Go.Proofs.YtbalbkkimlbecaaDoor.Walks
