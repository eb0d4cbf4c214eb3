/-
  CONTRACTS OF THE LAWS' HELPERS sz, to, eq FOR Binding. Printed by program (wip/tool/lawgen.py).
-/
import Derived.Test.YtjfhgcnoielpfaaLhType
set_option linter.unusedSimpArgs false
set_option linter.unusedVariables false
set_option maxRecDepth 4000
namespace Go.Proofs.Ytjfhgcnoielpfaa
open Go Go.Ab

end Go.Proofs.Ytjfhgcnoielpfaa
