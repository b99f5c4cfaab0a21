/- Whether one of some filters matches an event: the walk of the program's Any. -/
import Derived.Test.YtjggjkmafcokjaaFndM8
import Derived.Test.YtjggjkmafcokjaaRedM8
set_option linter.unusedVariables false
set_option linter.unusedSimpArgs false
namespace Go.Proofs.Ytjggjkmafcokjaa
open Go.RowKit

end Go.Proofs.Ytjggjkmafcokjaa
