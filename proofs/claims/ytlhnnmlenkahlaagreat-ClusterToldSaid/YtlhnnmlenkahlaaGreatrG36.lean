/- Lemmas. -/
import Derived.Test.YtlhnnmlenkahlaaGreatrG30
set_option maxRecDepth 4000
set_option linter.all false
namespace Go.Proofs.YtlhnnmlenkahlaaGreat
open Go.RowKit Go.Proofs.Tryz
theorem awH{b w:World}{S:Nat->Prop}{F:List lH}{je:Nat}{A1 A2 A3 A4 A5 A6 A7:ah}{c1 c2 c3 c4 c5 c6 c7 gm:Nat}{m:dF}{s:iF}{r:ARules}{aN:Int}{eD:List aM}{hs:kK}(H0:Hp b S w (Iq je A1 c1 A2 c2 A3 c3 A4 c4 A5 c5 A6 c6 A7 c7 m s r aN gm eD::dP cZ A1 c1 m.aT::dP bJ A2 c2 m.aA::dP bX A3 c3 m.aP::dP iO A4 c4 s.eF::dP dJ A5 c5 s.bY::dP bG A6 c6 s.bL::aS bG 112 A7 c7 eD::jP gm hs::F))  :
    bS prog 19 #[gD je] w λv w'=>v=aF aN/\Hp b S w' (Iq je A1 c1 A2 c2 A3 c3 A4 c4 A5 c5 A6 c6 A7 c7 m s r aN gm eD::dP cZ A1 c1 m.aT::dP bJ A2 c2 m.aA::dP bX A3 c3 m.aP::dP iO A4 c4 s.eF::dP dJ A5 c5 s.bY::dP bG A6 c6 s.bL::aS bG 112 A7 c7 eD::jP gm hs::F):=by
 refine sV func19 ntmps19 Y<|iZ Y<|bQ Y<|ev (eX Y)<|jT je 12 BI H0 s0 Y<|bU Y<|jc Y ?_
 exact⟨Y,H0⟩
end Go.Proofs.YtlhnnmlenkahlaaGreat
