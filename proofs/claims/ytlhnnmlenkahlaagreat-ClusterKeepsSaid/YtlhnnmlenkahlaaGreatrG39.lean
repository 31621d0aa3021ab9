/- Lemmas. -/
import Derived.Test.YtlhnnmlenkahlaaGreatrG30
import Derived.Test.YtlhnnmlenkahlaaGreatrG36
set_option maxRecDepth 4000
set_option linter.all false
namespace Go.Proofs.YtlhnnmlenkahlaaGreat
open Go.RowKit Go.Proofs.Tryz
theorem aeh{b w:World}{S:Nat->Prop}{F:List lH}{je:Nat}{G:GC}(H0:Hp b S w (CU je G::F))   :
    bS prog 19 #[gD je] w λv w'=>v=aF G.pl.aN/\Hp b S w' (CU je G::F):=by
  obtain⟨A1,c1,A2,c2,A3,c3,A4,c4,A5,c5,A6,c6,A7,c7,m,s,r,aN,gm,eD,hs⟩:=G;have H1:=H0.allOut;refine(awH (w:=w) (H1.mV 1 8) ).mono ?_;rintro v w' ⟨rfl,K⟩;exact⟨Y,(GA (L:=GC.rs (⟨A1,c1,A2,c2,A3,c3,A4,c4,A5,c5,A6,c6,A7,c7,m,s,r,aN,gm,eD,hs⟩:GC) je) (K.sel s8))⟩
section
open Go
variable {P:Program}{n:Cx}{l:List (Nat × Value)}{w:World}{x y:Operand}
theorem Ev.nes{a b:ByteArray}{t ty:TypeId}(hx:iG l x=some (.string a))(hy:iG l y=some (.string b)):Ev P n l w (.binOp .neq t x y ty) (.bool (!(a.toList == b.toList))):=
  qG hx hy (eqGuard_at_string ..) λw=>by simp [binOp,Op.stringOp]
theorem Ev.ahw{a:ByteArray}{t ty:TypeId}(hx:iG l x=some (.string a))(hy:iG l y=some (.string a)):Ev P n l w (.binOp .neq t x y ty) (.bool false):=by
  have:=Ev.nes (P:=P) (n:=n) (w:=w) (t:=t) (ty:=ty) hx hy
  rwa [show(!(a.toList == a.toList))=false by simp] at this
end
end Go.Proofs.YtlhnnmlenkahlaaGreat
