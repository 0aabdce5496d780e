/- witanref01.SameInts at two slices with the same ints; witanlaw05.short; witanlaw05.lives. -/
import Derived.Test.YtljnadbfadgglaaDig2
import Derived.Test.YtljnadbfadgglaaStep
namespace Go.Proofs.Ytljnadbfadgglaa
open Go.RowKit
set_option maxRecDepth 100000
set_option linter.unusedVariables false
set_option linter.unusedSimpArgs false

end Go.Proofs.Ytljnadbfadgglaa
