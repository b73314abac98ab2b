/- Walks of package shift: the month so many months away. -/
import Derived.Test.YtbalbkkimlbecaaDoorShift
set_option linter.unusedVariables false
set_option linter.unusedSimpArgs false
namespace Go.Proofs.YtbalbkkimlbecaaDoor.Walks
open Go Go.RowKit Go.Sort Go.Proofs.YtbalbkkimlbecaaDoor.Base Go.Proofs.YtbalbkkimlbecaaDoor.Plain Go.Proofs.YtbalbkkimlbecaaDoor.Math





end Go.Proofs.YtbalbkkimlbecaaDoor.Walks
