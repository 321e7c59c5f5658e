/- The walks of the program's reader: lists and structs. Printed by mkre.py. -/
import Derived.Test.YteohhgkehkmgcaaGreatRe4
namespace Go.Proofs.YteohhgkehkmgcaaGreat
open Go.RowKit Le
set_option maxRecDepth 100000
set_option linter.unusedVariables false
set_option linter.unusedSimpArgs false

end Go.Proofs.YteohhgkehkmgcaaGreat
