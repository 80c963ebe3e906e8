/- Texts P19, Y6, Y7, P20, P21 of one proof, one behind the other; what nothing here names is left out. -/
import Derived.Test.YtailjojebdmnnaaGreatZ10
import Derived.Test.YtailjojebdmnnaaGreatZ3
import Derived.Test.YtailjojebdmnnaaGreatZ4
import Derived.IntWalk
set_option maxRecDepth 100000
set_option maxHeartbeats 8000000
set_option linter.unusedVariables false
set_option linter.unusedSimpArgs false
namespace Go.Proofs.YtailjojebdmnnaaGreat
open Go.RowKit
section
variable {es:List (Int × Int)} (hp:okPre es es.length=true) (hn:0 < es.length)
include hp hn
end
end Go.Proofs.YtailjojebdmnnaaGreat
namespace Go.Proofs.YtailjojebdmnnaaGreat
open Go.RowKit
attribute [local go_sem] vN bT bF rS vW vM vL vT2 vT3 vP vI execOp Act.eval evC bigF vB hi_zero lo_zero
end Go.Proofs.YtailjojebdmnnaaGreat
namespace Go.Proofs.YtailjojebdmnnaaGreat
open Go.RowKit
attribute [local go_sem] vN bT bF rS vW vM vL vT2 vT3 vP vI execOp Act.eval evC bigF vB hi_zero lo_zero
end Go.Proofs.YtailjojebdmnnaaGreat
namespace Go.Proofs.YtailjojebdmnnaaGreat
open Go.RowKit
section
variable {es:List (Int × Int)} (hp:okPre es es.length=true) (hn:0 < es.length)
include hp hn
end
end Go.Proofs.YtailjojebdmnnaaGreat
namespace Go.Proofs.YtailjojebdmnnaaGreat
open Go.RowKit
def ucE (d s a:Int):Int:=if formB s a=false then 1 else if wthn d (-1099511627776) 1099511627776=false then 2 else 0
def ucV (d s a:Int):Int:=if ucE d s a=0 then jn d s a-jn 40587 0 0 else 0
theorem uc_ok {d s a:Int} (h1:0≤s) (h2:s≤86400) (h3:0≤a) (h4:a < 1000000000000000000) (h5:-1099511627776≤d) (h6:d≤1099511627776):ucE d s a=0∧ucV d s a=jn d s a-jn 40587 0 0:=by
  have e:ucE d s a=0:=by
    unfold ucE
    rw [if_neg (by simp [formB,wthn];omega),if_neg (by simp [wthn];omega)]
  refine ⟨e,?_⟩
  unfold ucV
  rw [if_pos e]
section
variable {es:List (Int × Int)} (hp:okPre es es.length=true) (hn:0 < es.length)
include hp
include hn
end
end Go.Proofs.YtailjojebdmnnaaGreat
