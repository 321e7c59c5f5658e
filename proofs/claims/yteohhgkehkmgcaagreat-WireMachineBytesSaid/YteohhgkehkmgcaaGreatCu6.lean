/- The walks of the reference that reads: lists and structs. Printed by mkcu.py. -/
import Derived.Test.YteohhgkehkmgcaaGreatCu5
namespace Go.Proofs.YteohhgkehkmgcaaGreat
open Go.RowKit Le
set_option maxRecDepth 100000
set_option linter.unusedVariables false
set_option linter.unusedSimpArgs false

end Go.Proofs.YteohhgkehkmgcaaGreat
