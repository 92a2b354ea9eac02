/-
  The reference's Add of the clock.
-/
import Derived.Test.YtcndfpfjckkinaaCkd
set_option linter.unusedSimpArgs false
set_option linter.unusedVariables false
namespace Go.Proofs.Ytcndfpfjckkinaa
open Go Go.RowKit

end Go.Proofs.Ytcndfpfjckkinaa
