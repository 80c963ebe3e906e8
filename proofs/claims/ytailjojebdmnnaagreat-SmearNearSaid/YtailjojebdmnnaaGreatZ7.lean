/- Texts F9, F10, F11, F12 of one proof, one behind the other; what nothing here names is left out. -/
import Derived.Test.YtailjojebdmnnaaGreatZ5
import Derived.Test.YtailjojebdmnnaaGreatZ4
import Derived.Test.YtailjojebdmnnaaGreatZ6
import Derived.Test.YtailjojebdmnnaaGreatZ3
import Derived.IntWalk
set_option maxRecDepth 100000
set_option maxHeartbeats 8000000
set_option linter.unusedVariables false
set_option linter.unusedSimpArgs false
namespace Go.Proofs.YtailjojebdmnnaaGreat
open Go.RowKit
attribute [local go_sem] vN bT bF rS vW vM vL vT2 vT3 vP vI execOp Act.eval evC bigF vB hi_zero lo_zero
end Go.Proofs.YtailjojebdmnnaaGreat
namespace Go.Proofs.YtailjojebdmnnaaGreat
open Go.RowKit
attribute [local go_sem] vN bT bF rS vSg vW vM vL vT2 vT3 vP vI execOp Act.eval evC bigF vB hi_zero lo_zero
theorem BigN.eq {B:Nat} {w:World} {v:Value} {z z':Int} (h:BigN B w v z) (e:z=z'):BigN B w v z':=e▸h
end Go.Proofs.YtailjojebdmnnaaGreat
namespace Go.Proofs.YtailjojebdmnnaaGreat
open Go.RowKit
attribute [local go_sem] vN bT bF rS vSg vW vM vL vT2 vT3 vP vI execOp Act.eval evC bigF vB hi_zero lo_zero
theorem cmpZ_le {x y:Int}:cmpZ x y≤0↔x≤y:=by unfold cmpZ;split <;> (try split) <;> omega
theorem cmpZ_lt {x y:Int}:cmpZ x y < 0↔x < y:=by unfold cmpZ;split <;> (try split) <;> omega
theorem cmpZ_ge {x y:Int}:0≤cmpZ x y↔y≤x:=by unfold cmpZ;split <;> (try split) <;> omega
theorem cmpZ_gt {x y:Int}:0 < cmpZ x y↔y < x:=by unfold cmpZ;split <;> (try split) <;> omega
end Go.Proofs.YtailjojebdmnnaaGreat
namespace Go.Proofs.YtailjojebdmnnaaGreat
open Go.RowKit
attribute [local go_sem] vN bT bF rS vSg vW vM vL vT2 vT3 vP vI execOp Act.eval evC bigF vB hi_zero lo_zero
theorem BigN.nil {B:Nat} {w:World} {z:Int} (h:z=0):BigN B w (.agg #[.bool false,.slice none 0 0]) z:=by
 subst h
 exact ⟨none,0,by simp [vB,digs_zero],by rw [digs_zero];exact ⟨⟨none,0,rfl,Nat.le_refl _,by simp,.inl rfl⟩,fun b h=>by cases h⟩⟩
theorem begS_bd {l:List Sg} {day off:Int} (h:LOk l day off) {i:Nat} (hi:i < l.length):-100000000000000000000000000000≤begS l i∧begS l i≤100000000000000000000000000000:=by
 have hs:=h.seg i hi
 have h0:=hs.d0;have h1:=hs.d1
 have h2:Cn (jn (sgi l i).d 0 0):=cn_jn (by omega) (by omega) (by omega) (by omega) (by omega) (by omega)
 have h3:=fS_bd hs h2
 unfold begS
 unfold jn at *;omega
theorem lab_early {l:List Sg} {day off t:Int} (h:t < begS l 0):labE l day off t=8∧labD l day off t=0∧labS l day off t=0∧labA l day off t=0:=by
 have e:labE l day off t=8:=by unfold labE;rw [if_pos h]
 unfold labD labS labA
 rw [e]
 exact ⟨rfl,rfl,rfl,rfl⟩
theorem lab_late {l:List Sg} {day off t:Int} (h:¬ t < begS l 0) (h2:∀ j,j < l.length→endS l day off j≤t):labE l day off t=9∧labD l day off t=0∧labS l day off t=0∧labA l day off t=0:=by
 have e0:iS l day off t=l.length:=fst1_none (fun j hj=>decide_eq_false (by have:=h2 j hj;omega))
 have e:labE l day off t=9:=by unfold labE;rw [if_neg h,e0,if_neg (by omega)]
 unfold labD labS labA
 rw [e]
 exact ⟨rfl,rfl,rfl,rfl⟩
theorem lab_in {l:List Sg} {day off t:Int} {i:Nat} (h:¬ t < begS l 0) (hi:i < l.length) (h2:∀ j,j < i→endS l day off j≤t) (h3:t < endS l day off i):labE l day off t=0∧labD l day off t=lblD (untS l day i) (gS (sgi l i) t)∧labS l day off t=lblS (untS l day i) (gS (sgi l i) t)∧labA l day off t=splA (gS (sgi l i) t):=by
 have e0:iS l day off t=i:=fst1_eq hi (fun j hj=>decide_eq_false (by have:=h2 j hj;omega)) (decide_eq_true h3)
 have e:labE l day off t=0:=by unfold labE;rw [if_neg h,e0,if_pos hi]
 unfold labD labS labA labU
 rw [if_pos e,if_pos e,if_pos e,e0]
 exact ⟨e,rfl,rfl,rfl⟩
end Go.Proofs.YtailjojebdmnnaaGreat
