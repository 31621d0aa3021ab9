/- Lemmas. -/
import Derived.Test.YtlhnnmlenkahlaaGreatrG30
set_option maxRecDepth 4000
set_option linter.all false
namespace Go.Proofs.YtlhnnmlenkahlaaGreat
open Go.RowKit Go.Proofs.Tryz
def Vi.wf(x:Vi):Prop:=qm x.e/\qm x.n
end Go.Proofs.YtlhnnmlenkahlaaGreat
