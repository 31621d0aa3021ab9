/- Lemmas. -/
import Derived.Test.YtlhnnmlenkahlaaGreatrG30
set_option maxRecDepth 4000
set_option linter.all false
namespace Go.Proofs.YtlhnnmlenkahlaaGreat
open Go.RowKit Go.Proofs.Tryz
def Edge(l:List fA)(j:Nat):Prop:=∀ x y,l[(j - 1) / 2]? = some x->l[j]? = some y->P6 x y
end Go.Proofs.YtlhnnmlenkahlaaGreat
