/- Lemmas. -/
import Derived.Test.YtlhnnmlenkahlaaGreatrG30
set_option maxRecDepth 4000
set_option linter.all false
namespace Go.Proofs.YtlhnnmlenkahlaaGreat
open Go.RowKit Go.Proofs.Tryz
section
variable {l:List aI}{c v sum bM:Int}{fG:List (BitVec 8)}{d:qR}
theorem PV.inj(h:PV l){x y:aI}(hx:x∈l)(hy:y∈l)(he:x.aC=y.aC):x=y:=
  uQ h.up hx hy (by unfold o8; rw [he,h.2 x hx,h.2 y hy])
end
theorem aht{l:List aH}(h:kR l=true){x:aH}(hx:x∈l):aU l x.ID=x:=
  uQ (wD h) (BD h ((zR h).2 ⟨x,hx,rfl⟩)) hx (R9 h ((zR h).2 ⟨x,hx,rfl⟩))
end Go.Proofs.YtlhnnmlenkahlaaGreat
