/- Contracts of functions: what each call hands back, and that it leaves all that was there as it was. -/
import Derived.Test.YtldldcafklophabLive
import Derived.Test.YtldldcafklophabM9
import Derived.Test.YtldldcafklophabLibA
import Derived.Test.YtldldcafklophabLay
set_option maxRecDepth 4000
set_option linter.all false
namespace Go.Proofs.Ytldldcafklophab
open Go.RowKit

theorem same_snoc {α : Type} {a b : List α} {k : Nat} {x y : α} (h : a.take k = b.take k) (hx : a[k]? = some x) (hy : b[k]? = some y) (e : x = y) : a.take (k + 1) = b.take (k + 1) := by
  rw [take_snoc hx, take_snoc hy, h, e]



end Go.Proofs.Ytldldcafklophab
