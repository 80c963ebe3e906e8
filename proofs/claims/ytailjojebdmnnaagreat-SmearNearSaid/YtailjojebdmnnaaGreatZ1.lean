/- Texts B of one proof, one behind the other; what nothing here names is left out. -/
import Derived.Test.YtailjojebdmnnaaGreatProg
import Derived.WalkKit
import Derived.Below
import Derived.Deep.QuietTactic
import Derived.BigQuiet
import Derived.Deep.RegionHeld3
import Derived.Deep.DeepMust
import Derived.Deep.LoopGhost
import Derived.WalkSpells
import Derived.WalkLawsBesides
import Derived.Lib.Hide
set_option maxRecDepth 100000
set_option maxHeartbeats 8000000
set_option linter.unusedVariables false
set_option linter.unusedSimpArgs false
namespace Go.Proofs.YtailjojebdmnnaaGreat
open Go.RowKit
theorem bcell {W w1:World} (hb:Below W.heap.size W w1):(∀ b o,b < W.heap.size→w1.cell? ⟨b,o,none⟩=W.cell? ⟨b,o,none⟩)∧(∀ b o,b < W.heap.size→w1.frozen? ⟨b,o,none⟩=W.frozen? ⟨b,o,none⟩):=
 ⟨fun b o h=>hb.cell (p:=⟨b,o,none⟩) h,fun b o h=>hb.frozen (p:=⟨b,o,none⟩) h⟩
theorem below_to {w W w1:World} (h:Below w.heap.size w W) (k:Below W.heap.size W w1):Below w.heap.size w w1:=h.trans (k.mono h.size)
theorem below_al {w W:World} (h:Below w.heap.size w W) (o:Obj):Below w.heap.size w (W.alloc o):=h.alloc h.size o
theorem below_dr {w W:World} (h:Below w.heap.size w W):Below w.heap.size w W.drew:=⟨h.os,h.tape,h.output,h.size,h.block⟩
theorem below_drN {w W:World} (h:Below w.heap.size w W) (n:Nat):Below w.heap.size w (W.drewN n):=⟨h.os,h.tape,h.output,h.size,h.block⟩
theorem below_set {w W:World} (h:Below w.heap.size w W) {p:Addr} (hp:w.heap.size≤p.block) (u:Value):Below w.heap.size w (W.setCell p u):=h.setCell hp u
def hi (z:Int):Int:=z / 18446744073709551616
def lo (z:Int):Int:=z % 18446744073709551616
theorem hilo (z:Int):hi z*18446744073709551616+lo z=z:=by unfold hi lo;omega
theorem lo0 (z:Int):0≤lo z:=by unfold lo;omega
theorem lo1 (z:Int):lo z < 18446744073709551616:=by unfold lo;omega
def InW (z:Int):Prop:=-170141183460469231731687303715884105728≤z∧z < 170141183460469231731687303715884105728
def InM (z:Int):Prop:=0≤z∧z < 340282366920938463463374607431768211456
theorem inM_hi {z:Int} (h:InM z):0≤hi z∧hi z < 18446744073709551616:=by unfold InM at h;unfold hi;omega
theorem ret_1 {k k':IntKind} {a a' b b':Int} (e1:a=a') (e2:b=b'):Ending.returned (.agg #[.int k a,.int k' b]) = .returned (.agg #[.int k a',.int k' b']):=by rw [e1,e2]
theorem ret_2 {k k':IntKind} {a a' b b':Int} {v v':Value} (e1:a=a') (e2:b=b') (e3:v=v'):Ending.returned (.tuple #[.agg #[.int k a,.int k' b],v]) = .returned (.tuple #[.agg #[.int k a',.int k' b'],v']):=by rw [e1,e2,e3]
theorem ret_b {x y:Bool} (h:x=y):Ending.returned (.bool x) = .returned (.bool y):=by rw [h]
theorem ret_i {k:IntKind} {x y:Int} (h:x=y):Ending.returned (.int k x) = .returned (.int k y):=by rw [h]
theorem add64 (x y c:Int) (hx:0≤x) (hy:0≤y) (hc:0≤c) (hc1:c≤1) (w:World) :
    (callFunc 97 #[.int .u64 x,.int .u64 y,.int .u64 c]).run Tryz.prog w =
      .ok (.value (.tuple #[.int .u64 ((x+y+c) % 18446744073709551616),.int .u64 ((x+y+c) / 18446744073709551616)])) w:=by
  rw [run_callFunc_extern Tryz.func97 (by kernel_rfl) (by kernel_rfl) (by kernel_rfl) (e:=add64Entry) (by kernel_rfl),run_add64 x y c hx hy hc hc1]
  rfl
def sub64E:Array Value→Sem Value:=fun args=>do
 let (x,y,b) ← Extern.MathBitsCarry.three "Sub64" args
 pure (Extern.MathBitsCarry.pair ((x+Extern.MathBitsCarry.m64-y-b) % Extern.MathBitsCarry.m64) (if x < y+b then 1 else 0))
theorem run_sub64E {P:Program} (x y b:Nat) (hb:b≤1) (w:World) :
    (sub64E #[.int .u64 x,.int .u64 y,.int .u64 b]).run P w =
      .ok (.tuple #[.int .u64 (((x+18446744073709551616-y-b) % 18446744073709551616:Nat):Int),.int .u64 ((if x < y+b then 1 else 0:Nat):Int)]) w:=by
  have:b=0∨b=1:=by omega
  rcases this with rfl | rfl <;> rfl
def bor (x y b:Int):Int:=if x < y+b then 1 else 0
theorem bor_le (x y b:Int):0≤bor x y b∧bor x y b≤1:=by unfold bor;split <;> omega
theorem sub64 (x y b:Int) (hx:0≤x) (hy:0≤y) (hx1:x < 18446744073709551616) (hy1:y < 18446744073709551616) (hc:0≤b) (hc1:b≤1) (w:World) :
    (callFunc 106 #[.int .u64 x,.int .u64 y,.int .u64 b]).run Tryz.prog w =
      .ok (.value (.tuple #[.int .u64 ((x-y-b) % 18446744073709551616),.int .u64 (bor x y b)])) w:=by
  obtain ⟨x,rfl⟩:=Int.eq_ofNat_of_zero_le hx
  obtain ⟨y,rfl⟩:=Int.eq_ofNat_of_zero_le hy
  obtain ⟨b,rfl⟩:=Int.eq_ofNat_of_zero_le hc
  rw [run_callFunc_extern Tryz.func106 (by kernel_rfl) (by kernel_rfl) (by kernel_rfl) (e:=sub64E) (by kernel_rfl),run_sub64E x y b (by omega)]
  simp only [Result.andThen]
  have e1:(((x+18446744073709551616-y-b) % 18446744073709551616:Nat):Int)=((x:Int)-y-b) % 18446744073709551616:=by omega
  have e2:((if x < y+b then 1 else 0:Nat):Int)=bor x y b:=by unfold bor;split <;> split <;> omega
  rw [e1,e2]
end Go.Proofs.YtailjojebdmnnaaGreat
