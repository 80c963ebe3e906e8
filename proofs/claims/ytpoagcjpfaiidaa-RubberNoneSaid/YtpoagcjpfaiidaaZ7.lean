/- Texts F9, F10, F11, F12 of one proof, one behind the other; what nothing here names is left out. -/
import Derived.Test.YtpoagcjpfaiidaaZ5
import Derived.Test.YtpoagcjpfaiidaaZ4
import Derived.Test.YtpoagcjpfaiidaaZ6
import Derived.Test.YtpoagcjpfaiidaaZ3
import Derived.IntWalk
set_option maxRecDepth 100000
set_option maxHeartbeats 8000000
set_option linter.unusedVariables false
set_option linter.unusedSimpArgs false
namespace Go.Proofs.Ytpoagcjpfaiidaa
open Go.RowKit
attribute [local go_sem] vN bT bF rS vW vM vL vT2 vT3 vP vI execOp Act.eval evC bigF vB hi_zero lo_zero Try.underlying26 Try.underlying43
theorem Join_core (w0:World) (d s x:Int) (hd0:-9223372036854775808≤d) (hd1:d < 9223372036854775808) (hs0:-9223372036854775808≤s) (hs1:s < 9223372036854775808) (hx0:-9223372036854775808≤x) (hx1:x < 9223372036854775808):Calls Try.prog 24 #[vL d s x] w0 fun e w'=>∃ v,e = .returned v∧Below w0.heap.size w0 w'∧BigN w0.heap.size w' v ((d*86400+s)*1000000000000000000+x):=by
 have hst:=St.start w0 (Θ:=fun _=>True) (fun _ _=>trivial)
 refine en_ Try.func24 hst 20 [(0,vL d s x)] (fun ac H_=>?_)
 replace H_:=H_.facts
 refine fq H_ 1 [[0],[1]] [_,_] (fun E1=>[(1,vP (pb E1 0) 0),(2,vP (pb E1 1) 0)]) (W:=[{ i:=0,T:=26,c0:=[vI d,vI s,vI x] },{ i:=1,T:=43,c0:=[bF,.slice none 0 0] }]) (s:=⟨bx3 0,al_ 1⟩) (k:=fun E1 ac wd H_=>?_)
 refine fq H_ 10 (tri 5++[[5],[5,6],r_ 8,r_ 9,[9],r_ 11]) [_,_,_,_,_,_,_,_,_,_,none] (fun E2=>[(3,vP (pb E2 9) 0)]) (W:=[{ i:=9,T:=43,c0:=[bF,.slice none 0 0],s:=some 10,c1:=fun env=>[.bool (decide (d*86400+s < 0)),rS (d*86400+s) ((bA (env 8))) ((bC (env 8)))] }]) (F:=[fB w0 2 d,fB w0 3 86400,fB w0 4 (d*86400),fB w0 7 s,fB w0 8 (d*86400+s)]) (s:=⟨fa3 0,ld31 0 sh3,cb3 Try.func28 fun wd hA=>Int_any wd d (by omega) (by omega),cb3 Try.func28 fun wd hA=>Int_any wd 86400 (by omega) (by omega),cb3e Try.func30 fun env wd hA=>Mul_any wd (decide (d < 0)) (bA (env 2)) (bC (env 2)) d rfl (At.bigN hA 2 rfl rfl rfl) (by unfold Sm;omega) (decide (86400 < 0)) (bA (env 3)) (bC (env 3)) 86400 rfl (At.bigN hA 3 rfl rfl rfl) (by unfold Sm;omega),fa3 1,ld31 0 sh3,cb3 Try.func28 fun wd hA=>Int_any wd s (by omega) (by omega),cb3e Try.func29 fun env wd hA=>Add_any wd (decide (d*86400 < 0)) (bA (env 4)) (bC (env 4)) (d*86400) rfl (At.bigN hA 4 rfl rfl rfl) (by unfold Sm;omega) (decide (s < 0)) (bA (env 7)) (bC (env 7)) s rfl (At.bigN hA 7 rfl rfl rfl) (by unfold Sm;omega),al_ 2,sw3 2 9 sh43⟩) (k:=fun E2 ac wd H_=>?_)
 refine fq H_ 7 [[0],[1],[0,1,2],[3],[3,4],r_ 6,r_ 7,r_ 8] [_,_,_,_,_,_,_,none] (fun _=>[]) (S:=[⟨1,7,fun env=>[.bool (decide ((d*86400+s)*1000000000000000000+x < 0)),rS ((d*86400+s)*1000000000000000000+x) ((bA (env 6))) ((bC (env 6)))]⟩]) (F:=[fB w0 1 1000000000000000000,fB w0 2 ((d*86400+s)*1000000000000000000),fB w0 5 x,fB w0 6 ((d*86400+s)*1000000000000000000+x)]) (s:=⟨ld3b 2 sh43,cb3 Try.func28 fun wd hA=>Int_any wd 1000000000000000000 (by omega) (by omega),cb3e Try.func30 fun env wd hA=>Mul_any wd (decide (d*86400+s < 0)) (bA (E2 8)) (bC (E2 8)) (d*86400+s) rfl (Facts.bigN (hA.j.st.now).1 4 rfl) (by unfold Sm;omega) (decide (1000000000000000000 < 0)) (bA (env 1)) (bC (env 1)) 1000000000000000000 rfl (At.bigN hA 1 rfl rfl rfl) (by unfold Sm;omega),fa3 2,ld31 0 sh3,cb3 Try.func28 fun wd hA=>Int_any wd x (by omega) (by omega),cb3e Try.func29 fun env wd hA=>Add_any wd (decide ((d*86400+s)*1000000000000000000 < 0)) (bA (env 2)) (bC (env 2)) ((d*86400+s)*1000000000000000000) rfl (At.bigN hA 2 rfl rfl rfl) (by unfold Sm;omega) (decide (x < 0)) (bA (env 5)) (bC (env 5)) x rfl (At.bigN hA 5 rfl rfl rfl) (by unfold Sm;omega),se3 1 sh43⟩) (k:=fun E3 ac wd H_=>?_)
 refine lvC3 (v:=bigF ((d*86400+s)*1000000000000000000+x) (E3 6)) Try.results24 H_ 1 (loadGc sh43 rfl ⟨rfl,rfl,trivial⟩) ?_
 exact ⟨_,rfl,H_.st.below,BigN.mk rfl rfl (Facts.bN H_.st.now 8 rfl)⟩
theorem Join_any (w0:World) (d s x:Int) (hd0:-9223372036854775808≤d) (hd1:d < 9223372036854775808) (hs0:-9223372036854775808≤s) (hs1:s < 9223372036854775808) (hx0:-9223372036854775808≤x) (hx1:x < 9223372036854775808):Calls Try.prog 24 #[vL d s x] w0 fun e w'=>∃ v,e = .returned v∧Below w0.heap.size w0 w'∧BigN w0.heap.size w' v (jn d s x):=Join_core w0 d s x hd0 hd1 hs0 hs1 hx0 hx1
end Go.Proofs.Ytpoagcjpfaiidaa
namespace Go.Proofs.Ytpoagcjpfaiidaa
open Go.RowKit
attribute [local go_sem] vN bT bF rS vSg vW vM vL vT2 vT3 vP vI execOp Act.eval evC bigF vB hi_zero lo_zero Try.underlying26 Try.underlying39 Try.underlying43
theorem BigN.eq {B:Nat} {w:World} {v:Value} {z z':Int} (h:BigN B w v z) (e:z=z'):BigN B w v z':=e▸h
theorem runit_any (w0:World) (n:Int) (h0:-9223372036854775808≤n) (h1:n < 9223372036854775808):Calls Try.prog 44 #[vI n] w0 fun e w'=>∃ v,e = .returned v∧Below w0.heap.size w0 w'∧BigN w0.heap.size w' v (n*100000000000):=by
 have hst:=St.start w0 (Θ:=fun _=>True) (fun _ _=>trivial)
 refine en_ Try.func44 hst 7 [(0,vI n)] (fun ac H_=>?_)
 replace H_:=H_.facts
 refine fq H_ 0 [[0]] [_] (fun E1=>[(2,vP (pb E1 0) 0)]) (W:=[{ i:=0,T:=43,c0:=[bF,.slice none 0 0] }]) (s:=(al_ 0)) (k:=fun E1 ac wd H_=>?_)
 refine fq H_ 4 (tri 5) [_,_,_,_,none] (fun _=>[]) (S:=[⟨0,4,fun env=>[.bool (decide (n*100000000000 < 0)),rS (n*100000000000) ((bA (env 3))) ((bC (env 3)))]⟩]) (F:=[fB w0 1 n,fB w0 2 100000000000,fB w0 3 (n*100000000000)]) (s:=⟨mv3,cb3 Try.func28 fun wd hA=>Int_any wd n (by omega) (by omega),cb3 Try.func28 fun wd hA=>Int_any wd 100000000000 (by omega) (by omega),cb3e Try.func30 fun env wd hA=>Mul_any wd (decide (n < 0)) (bA (env 1)) (bC (env 1)) n rfl (At.bigN hA 1 rfl rfl rfl) (by unfold Sm;omega) (decide (100000000000 < 0)) (bA (env 2)) (bC (env 2)) 100000000000 rfl (At.bigN hA 2 rfl rfl rfl) (by unfold Sm;omega),se3 0 sh43⟩) (k:=fun E2 ac wd H_=>?_)
 refine lvC3 (v:=bigF (n*100000000000) (E2 3)) Try.results44 H_ 0 (loadGc sh43 rfl ⟨rfl,rfl,trivial⟩) ?_
 exact ⟨_,rfl,H_.st.below,BigN.mk rfl rfl (Facts.bN H_.st.now 2 rfl)⟩
theorem F_sm {s:Sg} (hs:SgOk s) {u:Int} (hu0:-1000000000000000000000000000000000000000000000000000000000000≤u) (hu1:u≤1000000000000000000000000000000000000000000000000000000000000):Sm u∧Sm (jn s.f 0 0)∧Sm (s.r*100000000000*(u-jn s.f 0 0))∧Sm (s.r*100000000000*(u-jn s.f 0 0) / jn 1 0 0):=by
  have h1:=hs.f0;have h2:=hs.f1;have h3:=hs.r0;have h4:=hs.r1
  have hj:-100000000000000000000000000000≤jn s.f 0 0∧jn s.f 0 0≤100000000000000000000000000000:=by unfold jn;omega
  have hm:=mul_abs (a:=s.r*100000000000) (b:=u-jn s.f 0 0) (A:=100000000000000000) (B:=10000000000000000000000000000000000000000000000000000000000000) (by omega) (by omega) (by omega) (by omega) (by omega)
  have e:jn 1 0 0=86400000000000000000000:=by unfold jn;omega
  refine ⟨by unfold Sm;omega,by unfold Sm;omega,by unfold Sm;omega,?_⟩
  rw [e]
  unfold Sm
  constructor
  · exact Int.le_ediv_of_mul_le (by omega) (by omega)
  · exact Int.ediv_le_of_le_mul (by omega) (by omega)
theorem F_any (w0:World) (s:Sg) (hs:SgOk s) (p:Bool) (A0:Option Addr) (c0:Nat) (u:Int) (hp:p=decide (u < 0)) (hr:Row w0 (.slice A0 (digs u).length c0) (digs u)) (hu0:-1000000000000000000000000000000000000000000000000000000000000≤u) (hu1:u≤1000000000000000000000000000000000000000000000000000000000000):Calls Try.prog 23 #[vSg s,.agg #[.bool (p),.slice A0 ((digs u).length) c0]] w0 fun e w'=>∃ v,e = .returned v∧Below w0.heap.size w0 w'∧BigN w0.heap.size w' v (fS s u):=by
 obtain ⟨hsu,hsj,hsm,hsg⟩:=F_sm hs hu0 hu1
 have h1:=hs.f0;have h2:=hs.f1;have h3:=hs.r0;have h4:=hs.r1;have h5:=hs.b0;have h6:=hs.b1
 have hj:-100000000000000000000000000000≤jn s.f 0 0∧jn s.f 0 0≤100000000000000000000000000000:=by unfold jn;omega
 have hd0:0 < jn 1 0 0:=by unfold jn;omega
 have hsd:Sm (jn 1 0 0):=by unfold jn Sm;omega
 have hst:=St.start w0 (Θ:=fun _=>True) (fun _ _=>trivial)
 refine en_ Try.func23 hst 32 [(0,vSg s),(1,.agg #[.bool (p),.slice A0 ((digs u).length) c0])] (fun ac H_=>?_)
 replace H_:=H_.facts
 refine fq H_ 2 [[0],[1],[2]] [_,_,_] (fun E1=>[(2,vP (pb E1 0) 0),(3,vP (pb E1 1) 0),(4,vP (pb E1 2) 0)]) (W:=[{ i:=0,T:=39,c0:=[vI (s.d),vI (s.b),vI (s.f),vI (s.r)] },{ i:=1,T:=43,c0:=[.bool (p),rS u A0 c0] },{ i:=2,T:=43,c0:=[bF,.slice none 0 0] }]) (s:=⟨bx3 0,bx3 1,al_ 2⟩) (k:=fun E1 ac wd H_=>?_)
 refine fq H_ 3 [[0],[0,1],[2],r_ 4] [vL 1 0 0,_,_,none] (fun E2=>[(5,vP (pb E2 2) 0)]) (W:=[{ i:=2,T:=43,c0:=[bF,.slice none 0 0],s:=some 3,c1:=fun env=>[.bool (decide (jn 1 0 0 < 0)),rS (jn 1 0 0) ((bA (env 1))) ((bC (env 1)))] }]) (F:=[fB w0 1 (jn 1 0 0)]) (s:=⟨bd31,cb3 Try.func24 fun wd hA=>Join_any wd 1 0 0 (by omega) (by omega) (by omega) (by omega) (by omega) (by omega),al_ 3,sw3 3 2 sh43⟩) (k:=fun E2 ac wd H_=>?_)
 refine fq H_ 18 [[0],[0,1],[0,1,2],[3],[4],[4,5],[4,5,6],[0,1,2,4,5,6,7],r_ 9,r_ 10,[10],r_ 12,r_ 13,r_ 14,r_ 13++[14],[15],[16],r_ 14++[15,16,17],r_ 19] [_,_,_,_,_,_,vL s.f 0 0,_,_,_,_,KE_ fun env=>vT2 (bigF (s.r*100000000000*(u-jn s.f 0 0) / jn 1 0 0) (tp (env 11) 0)) (bigF (s.r*100000000000*(u-jn s.f 0 0) % jn 1 0 0) (tp (env 11) 1)),_,_,_,_,_,none,none] (fun E3=>[(6,vP (pb E3 15) 0)]) (W:=[{ i:=15,T:=43,c0:=[bF,.slice none 0 0],s:=some 17,c1:=fun env=>[.bool (decide (s.r*100000000000*(u-jn s.f 0 0) / jn 1 0 0 < 0)),rS (s.r*100000000000*(u-jn s.f 0 0) / jn 1 0 0) ((bA (tp (env 11) 0))) ((bC (tp (env 11) 0)))] },{ i:=16,T:=43,c0:=[bF,.slice none 0 0],s:=some 18,c1:=fun env=>[.bool (decide (s.r*100000000000*(u-jn s.f 0 0) % jn 1 0 0 < 0)),rS (s.r*100000000000*(u-jn s.f 0 0) % jn 1 0 0) ((bA (tp (env 11) 1))) ((bC (tp (env 11) 1)))] }]) (F:=[fB w0 2 (s.r*100000000000),fB w0 7 (jn s.f 0 0),fB w0 8 (u-jn s.f 0 0),fB w0 9 (s.r*100000000000*(u-jn s.f 0 0)),(11,fun env w=>DivX w (env 11) (s.r*100000000000*(u-jn s.f 0 0) / jn 1 0 0) (s.r*100000000000*(u-jn s.f 0 0) % jn 1 0 0))]) (s:=⟨fa3 3,ld31 0 sh3,cb3 Try.func44 fun wd hA=>runit_any wd s.r (by omega) (by omega),ld3b 1 sh43,fa3 2,ld31 0 sh3,bd31,cb3 Try.func24 fun wd hA=>Join_any wd s.f 0 0 (by omega) (by omega) (by omega) (by omega) (by omega) (by omega),cb3e Try.func45 fun env wd hA=>Sub_any wd p A0 c0 u hp (hr.grown hA.j.st.gr) hsu (decide (jn s.f 0 0 < 0)) (bA (env 7)) (bC (env 7)) (jn s.f 0 0) rfl (At.bigN hA 7 rfl rfl rfl) hsj,cb3e Try.func30 fun env wd hA=>Mul_any wd (decide (s.r*100000000000 < 0)) (bA (env 2)) (bC (env 2)) (s.r*100000000000) rfl (At.bigN hA 2 rfl rfl rfl) (by unfold Sm;omega) (decide (u-jn s.f 0 0 < 0)) (bA (env 8)) (bC (env 8)) (u-jn s.f 0 0) rfl (At.bigN hA 8 rfl rfl rfl) (by unfold Sm;omega),ld3b 3 sh43,cf_ Try.func43 (fun v w=>DivX w v (s.r*100000000000*(u-jn s.f 0 0) / jn 1 0 0) (s.r*100000000000*(u-jn s.f 0 0) % jn 1 0 0)) (divF (s.r*100000000000*(u-jn s.f 0 0) / jn 1 0 0) (s.r*100000000000*(u-jn s.f 0 0) % jn 1 0 0)) (h:=fun _ env _ wd hA=>⟨_,toD (Div_any wd (decide (s.r*100000000000*(u-jn s.f 0 0) < 0)) (bA (env 9)) (bC (env 9)) (s.r*100000000000*(u-jn s.f 0 0)) rfl (At.bigN hA 9 rfl rfl rfl) hsm (decide (jn 1 0 0 < 0)) (bA (E2 1)) (bC (E2 1)) (jn 1 0 0) rfl (Facts.bigN (hA.j.st.now).1 0 rfl) hsd hd0),rfl⟩),mv3,xt3,xt3,al_ 4,al_ 5,sw3 4 15 sh43,sw3 5 16 sh43⟩) (k:=fun E3 ac wd H_=>?_)
 refine fq H_ 7 [[0],[1],[1,2],[1,2,3],r_ 5,[5],r_ 7,r_ 8] [_,_,_,_,_,_,_,none] (fun _=>[]) (S:=[⟨2,7,fun env=>[.bool (decide (u+s.b*100000000000+s.r*100000000000*(u-jn s.f 0 0) / jn 1 0 0 < 0)),rS (u+s.b*100000000000+s.r*100000000000*(u-jn s.f 0 0) / jn 1 0 0) ((bA (env 6))) ((bC (env 6)))]⟩]) (F:=[fB w0 3 (s.b*100000000000),fB w0 4 (u+s.b*100000000000),fB w0 6 (u+s.b*100000000000+s.r*100000000000*(u-jn s.f 0 0) / jn 1 0 0)]) (s:=⟨ld3b 1 sh43,fa3 1,ld31 0 sh3,cb3 Try.func44 fun wd hA=>runit_any wd s.b (by omega) (by omega),cb3e Try.func29 fun env wd hA=>Add_any wd p A0 c0 u hp (hr.grown hA.j.st.gr) hsu (decide (s.b*100000000000 < 0)) (bA (env 3)) (bC (env 3)) (s.b*100000000000) rfl (At.bigN hA 3 rfl rfl rfl) (by unfold Sm;omega),ld3b 4 sh43,cb3e Try.func29 fun env wd hA=>Add_any wd (decide (u+s.b*100000000000 < 0)) (bA (env 4)) (bC (env 4)) (u+s.b*100000000000) rfl (At.bigN hA 4 rfl rfl rfl) (by unfold Sm;omega) (decide (s.r*100000000000*(u-jn s.f 0 0) / jn 1 0 0 < 0)) (bA (tp (E3 11) 0)) (bC (tp (E3 11) 0)) (s.r*100000000000*(u-jn s.f 0 0) / jn 1 0 0) rfl (Facts.div1 (hA.j.st.now).1 5 rfl) hsg,se3 2 sh43⟩) (k:=fun E4 ac wd H_=>?_)
 refine lvC3 (v:=bigF (u+s.b*100000000000+s.r*100000000000*(u-jn s.f 0 0) / jn 1 0 0) (E4 6)) Try.results23 H_ 2 (loadGc sh43 rfl ⟨rfl,rfl,trivial⟩) ?_
 exact ⟨_,rfl,H_.st.below,BigN.eq (BigN.mk rfl rfl (Facts.bN H_.st.now 8 rfl)) (by unfold fS fA;rw [dayA_eq,Int.mul_comm (s.r*100000000000) (u-jn s.f 0 0)])⟩
theorem Until_any (w0:World) (A0:Option Addr) (c0:Nat) (l:List Sg) (hl:SegU w0 (.slice A0 l.length c0) l) (day:Int) (i:Nat) (hi:i < 1000):Calls Try.prog 25 #[.slice A0 l.length c0,vI day,vI (((i:Nat):Int))] w0 fun e w'=>e = .returned (vI (untS l day i))∧Below w0.heap.size w0 w':=by
 have hst:=St.start w0 (Θ:=fun _=>True) (fun _ _=>trivial)
 refine en_ Try.func25 hst 19 [(0,.slice A0 l.length c0),(1,vI day),(2,vI (((i:Nat):Int)))] (fun ac H_=>?_)
 replace H_:=H_.facts
 refine fq0 H_ 0 [[0]] [_] (s:=mv3) (k:=fun E1 ac wd H_=>?_)
 by_cases h:i+1 < l.length
 refine fq1 H_ 4 [[0],[0,1],[2],[2,3],r_ 5] [_,vI (((i:Nat):Int)+1),_,vN l.length,bT] (fun _=>[(11,bT)]) (s:=⟨mv3,bi3,mv3,ln_ Try.underlying22 fun _ env _ wd hA=>(hl.grown hA.j.st.gr).els,bi3⟩) (k:=fun E2 ac wd H_=>?_)
 refine cT3 H_ ?_
 refine fq1 H_ 6 [[0],[1],[1,2],r_ 4,r_ 5,r_ 6,r_ 7] [_,_,vI (((i:Nat):Int)+1),elt (.slice A0 l.length c0) ((i+1)*4),elt (.slice A0 l.length c0) ((i+1)*4),vI ((sgi l (i+1)).d),_] (fun _=>[(6,vI ((sgi l (i+1)).d))]) (s:=⟨mv3,mv3,bi3,ia_ Try.underlying22 sz39 (i+1) ((i+1)*4) (((i:Nat):Int)+1) (fun _ env _ wd hA=>(hl.grown hA.j.st.gr).els) (by omega) (by omega) rfl,s_fa rfl rfl rfl (fun _=>wanted_none rfl _) ((i+1)*4) 0 ((i+1)*4) rfl (s:=fun _=>.slice A0 l.length c0) rfl (fun _=>rfl) (fun {D env ac wd} hA=>(hl.grown hA.j.st.gr).els) (by omega) (fun b q w=>by simp [go_sem,Try.underlying39]),le_ ((i+1)*4) (fun _ env _ wd hA=>(hl.grown hA.j.st.gr).els) (by omega) (leG1 sh3 (by exact sgC_0 l (i+1))),mv3⟩) (k:=fun E3 ac wd H_=>?_)
 refine lvT3 Try.results25 H_ ?_
 exact ⟨by unfold untS;rw [if_pos h],H_.st.below⟩
 refine fq1 H_ 4 [[0],[0,1],[2],[2,3],r_ 5] [_,vI (((i:Nat):Int)+1),_,vN l.length,bF] (fun _=>[(11,bF)]) (s:=⟨mv3,bi3,mv3,ln_ Try.underlying22 fun _ env _ wd hA=>(hl.grown hA.j.st.gr).els,bi3⟩) (k:=fun E2 ac wd H_=>?_)
 refine cF3 H_ ?_
 refine fq1 H_ 1 [[0],[0,1]] [_,_] (fun _=>[(6,vI day)]) (s:=⟨mv3,mv3⟩) (k:=fun E3 ac wd H_=>?_)
 refine lvT3 Try.results25 H_ ?_
 exact ⟨by unfold untS;rw [if_neg h],H_.st.below⟩
theorem End_any (w0:World) (A0:Option Addr) (c0:Nat) (l:List Sg) (hl:SegU w0 (.slice A0 l.length c0) l) (day off:Int) (hL:LOk l day off) (i:Nat) (hi:i < 1000):Calls Try.prog 27 #[.slice A0 l.length c0,vI day,vI off,vI (((i:Nat):Int))] w0 fun e w'=>∃ v,e = .returned v∧Below w0.heap.size w0 w'∧BigN w0.heap.size w' v (endS l day off i):=by
 have y0:=hL.y0;have y1:=hL.y1;have o0:=hL.o0;have o1:=hL.o1
 have hst:=St.start w0 (Θ:=fun _=>True) (fun _ _=>trivial)
 refine en_ Try.func27 hst 32 [(0,.slice A0 l.length c0),(1,vI day),(2,vI off),(3,vI (((i:Nat):Int)))] (fun ac H_=>?_)
 replace H_:=H_.facts
 refine fq H_ 0 [[0]] [_] (fun E1=>[(8,vP (pb E1 0) 0)]) (W:=[{ i:=0,T:=43,c0:=[bF,.slice none 0 0] }]) (s:=(al_ 0)) (k:=fun E1 ac wd H_=>?_)
 by_cases h:i+1 < l.length
 have hs:=hL.seg (i+1) h;have h1:=hs.d0;have h2:=hs.d1;have hc:Cn (jn (sgi l (i+1)).d 0 0):=cn_jn (by omega) (by omega) (by omega) (by omega) (by omega) (by omega);unfold Cn at hc
 refine fq1 H_ 4 [[0],[0,1],[2],[2,3],r_ 5] [_,vI (((i:Nat):Int)+1),_,vN l.length,bT] (fun _=>[(13,bT)]) (s:=⟨mv3,bi3,mv3,ln_ Try.underlying22 fun _ env _ wd hA=>(hl.grown hA.j.st.gr).els,bi3⟩) (k:=fun E2 ac wd H_=>?_)
 refine cT3 H_ ?_
 refine fq H_ 14 [[0],[1],[1,2],r_ 4,r_ 5,[5],[6],[6,7],[5,6,7,8],[5,6,7,8,9],[5,6,7,8,9,10],[5,6,7,8,9,10,11],[5,6,7,8,9,10,11,12],r_ 14,r_ 15] [_,_,vI (((i:Nat):Int)+1),elt (.slice A0 l.length c0) ((i+1)*4),vSg (sgi l (i+1)),_,_,vI (((i:Nat):Int)+1),elt (.slice A0 l.length c0) ((i+1)*4),elt (.slice A0 l.length c0) ((i+1)*4),vI ((sgi l (i+1)).d),vL ((sgi l (i+1)).d) 0 0,_,_,none] (fun _=>[]) (S:=[⟨0,14,fun env=>[.bool (decide (fS (sgi l (i+1)) (jn (sgi l (i+1)).d 0 0) < 0)),rS (fS (sgi l (i+1)) (jn (sgi l (i+1)).d 0 0)) ((bA (env 13))) ((bC (env 13)))]⟩]) (F:=[fB w0 12 (jn ((sgi l (i+1)).d) 0 0),fB w0 13 (fS (sgi l (i+1)) (jn (sgi l (i+1)).d 0 0))]) (s:=⟨mv3,mv3,bi3,ia_ Try.underlying22 sz39 (i+1) ((i+1)*4) (((i:Nat):Int)+1) (fun _ env _ wd hA=>(hl.grown hA.j.st.gr).els) (by omega) (by omega) rfl,le_ ((i+1)*4) (fun _ env _ wd hA=>(hl.grown hA.j.st.gr).els) (by omega) (leGd sh39 (by exact sgC_0 l (i+1)) (by exact sgC_1 l (i+1)) (by exact sgC_2 l (i+1)) (by exact sgC_3 l (i+1))),mv3,mv3,bi3,ia_ Try.underlying22 sz39 (i+1) ((i+1)*4) (((i:Nat):Int)+1) (fun _ env _ wd hA=>(hl.grown hA.j.st.gr).els) (by omega) (by omega) rfl,s_fa rfl rfl rfl (fun _=>wanted_none rfl _) ((i+1)*4) 0 ((i+1)*4) rfl (s:=fun _=>.slice A0 l.length c0) rfl (fun _=>rfl) (fun {D env ac wd} hA=>(hl.grown hA.j.st.gr).els) (by omega) (fun b q w=>by simp [go_sem,Try.underlying39]),le_ ((i+1)*4) (fun _ env _ wd hA=>(hl.grown hA.j.st.gr).els) (by omega) (leG1 sh3 (by exact sgC_0 l (i+1))),bd31,cb3 Try.func24 fun wd hA=>Join_any wd ((sgi l (i+1)).d) 0 0 (by omega) (by omega) (by omega) (by omega) (by omega) (by omega),cb4e Try.func23 (h:=fun env wd hA=>F_any wd (sgi l (i+1)) hs _ (bA (env 12)) (bC (env 12)) (jn (sgi l (i+1)).d 0 0) rfl (At.bigN hA 12 rfl rfl rfl) (by omega) (by omega)),se3 0 sh43⟩) (k:=fun E3 ac wd H_=>?_)
 refine lvC3 (v:=bigF (fS (sgi l (i+1)) (jn (sgi l (i+1)).d 0 0)) (E3 13)) Try.results27 H_ 0 (loadGc sh43 rfl ⟨rfl,rfl,trivial⟩) ?_
 exact ⟨_,rfl,H_.st.below,BigN.eq (BigN.mk rfl rfl (Facts.bN H_.st.now 1 rfl)) (by unfold endS;rw [if_pos h])⟩
 refine fq1 H_ 4 [[0],[0,1],[2],[2,3],r_ 5] [_,vI (((i:Nat):Int)+1),_,vN l.length,bF] (fun _=>[(13,bF)]) (s:=⟨mv3,bi3,mv3,ln_ Try.underlying22 fun _ env _ wd hA=>(hl.grown hA.j.st.gr).els,bi3⟩) (k:=fun E2 ac wd H_=>?_)
 refine cF3 H_ ?_
 refine fq H_ 4 [[0],[1],[0,1,2],r_ 4,r_ 5] [_,_,vL day off 0,_,none] (fun _=>[]) (S:=[⟨0,4,fun env=>[.bool (decide (jn day off 0 < 0)),rS (jn day off 0) ((bA (env 3))) ((bC (env 3)))]⟩]) (F:=[fB w0 3 (jn day off 0)]) (s:=⟨mv3,mv3,bd32,cb3 Try.func24 fun wd hA=>Join_any wd day off 0 (by omega) (by omega) (by omega) (by omega) (by omega) (by omega),se3 0 sh43⟩) (k:=fun E3 ac wd H_=>?_)
 refine lvC3 (v:=bigF (jn day off 0) (E3 3)) Try.results27 H_ 0 (loadGc sh43 rfl ⟨rfl,rfl,trivial⟩) ?_
 exact ⟨_,rfl,H_.st.below,BigN.eq (BigN.mk rfl rfl (Facts.bN H_.st.now 0 rfl)) (by unfold endS;rw [if_neg h])⟩
end Go.Proofs.Ytpoagcjpfaiidaa
namespace Go.Proofs.Ytpoagcjpfaiidaa
open Go.RowKit
attribute [local go_sem] vN bT bF rS vSg vW vM vL vT2 vT3 vP vI execOp Act.eval evC bigF vB hi_zero lo_zero
theorem cmpZ_le {x y:Int}:cmpZ x y≤0↔x≤y:=by unfold cmpZ;split <;> (try split) <;> omega
theorem cmpZ_lt {x y:Int}:cmpZ x y < 0↔x < y:=by unfold cmpZ;split <;> (try split) <;> omega
theorem cmpZ_ge {x y:Int}:0≤cmpZ x y↔y≤x:=by unfold cmpZ;split <;> (try split) <;> omega
theorem cmpZ_gt {x y:Int}:0 < cmpZ x y↔y < x:=by unfold cmpZ;split <;> (try split) <;> omega
end Go.Proofs.Ytpoagcjpfaiidaa
namespace Go.Proofs.Ytpoagcjpfaiidaa
open Go.RowKit
attribute [local go_sem] vN bT bF rS vSg vW vM vL vT2 vT3 vP vI execOp Act.eval evC bigF vB hi_zero lo_zero Try.underlying26 Try.underlying43
theorem BigN.nil {B:Nat} {w:World} {z:Int} (h:z=0):BigN B w (.agg #[.bool false,.slice none 0 0]) z:=by
 subst h
 exact ⟨none,0,by simp [vB,digs_zero],by rw [digs_zero];exact ⟨⟨none,0,rfl,Nat.le_refl _,by simp,.inl rfl⟩,fun b h=>by cases h⟩⟩
theorem begS_bd {l:List Sg} {day off:Int} (h:LOk l day off) {i:Nat} (hi:i < l.length):-100000000000000000000000000000≤begS l i∧begS l i≤100000000000000000000000000000:=by
 have hs:=h.seg i hi
 have h0:=hs.d0;have h1:=hs.d1
 have h2:Cn (jn (sgi l i).d 0 0):=cn_jn (by omega) (by omega) (by omega) (by omega) (by omega) (by omega)
 have h3:=fS_bd hs h2
 unfold begS
 unfold jn at *;omega
theorem lab_early {l:List Sg} {day off t:Int} (h:t < begS l 0):labE l day off t=8∧labD l day off t=0∧labS l day off t=0∧labA l day off t=0:=by
 have e:labE l day off t=8:=by unfold labE;rw [if_pos h]
 unfold labD labS labA
 rw [e]
 exact ⟨rfl,rfl,rfl,rfl⟩
theorem lab_late {l:List Sg} {day off t:Int} (h:¬ t < begS l 0) (h2:∀ j,j < l.length→endS l day off j≤t):labE l day off t=9∧labD l day off t=0∧labS l day off t=0∧labA l day off t=0:=by
 have e0:iS l day off t=l.length:=fst1_none (fun j hj=>decide_eq_false (by have:=h2 j hj;omega))
 have e:labE l day off t=9:=by unfold labE;rw [if_neg h,e0,if_neg (by omega)]
 unfold labD labS labA
 rw [e]
 exact ⟨rfl,rfl,rfl,rfl⟩
theorem lab_in {l:List Sg} {day off t:Int} {i:Nat} (h:¬ t < begS l 0) (hi:i < l.length) (h2:∀ j,j < i→endS l day off j≤t) (h3:t < endS l day off i):labE l day off t=0∧labD l day off t=lblD (untS l day i) (gS (sgi l i) t)∧labS l day off t=lblS (untS l day i) (gS (sgi l i) t)∧labA l day off t=splA (gS (sgi l i) t):=by
 have e0:iS l day off t=i:=fst1_eq hi (fun j hj=>decide_eq_false (by have:=h2 j hj;omega)) (decide_eq_true h3)
 have e:labE l day off t=0:=by unfold labE;rw [if_neg h,e0,if_pos hi]
 unfold labD labS labA labU
 rw [if_pos e,if_pos e,if_pos e,e0]
 exact ⟨e,rfl,rfl,rfl⟩
theorem rTai_any (w0:World) (A0:Option Addr) (c0:Nat) (l:List Sg) (hl:SegU w0 (.slice A0 l.length c0) l) (day off:Int) (hL:LOk l day off) (d s a:Int) (hd0:-9223372036854775808≤d) (hd1:d < 9223372036854775808) (hs0:-9223372036854775808≤s) (hs1:s < 9223372036854775808) (ha0:-9223372036854775808≤a) (ha1:a < 9223372036854775808):Calls Try.prog 8 #[.slice A0 l.length c0,vI day,vI off,vL d s a] w0 fun e w'=>∃ v,e = .returned (.tuple #[v,vI (taiE l day off d s a)])∧Below w0.heap.size w0 w'∧BigN w0.heap.size w' v (taiV l day off d s a):=by
 have n0:=hL.n0;have n1:=hL.n1;have y0:=hL.y0;have y1:=hL.y1;have o0:=hL.o0;have o1:=hL.o1
 have hst:=St.start w0 (Θ:=fun _=>True) (fun _ _=>trivial)
 refine en_ Try.func8 hst 92 [(0,.slice A0 l.length c0),(1,vI day),(2,vI off),(3,vL d s a)] (fun ac H_=>?_)
 replace H_:=H_.facts
 refine fq H_ 2 [[0],[1],[2]] [_,_,_] (fun E1=>[(7,vP (pb E1 0) 0),(8,vP (pb E1 1) 0)]) (W:=[{ i:=0,T:=26,c0:=[vI d,vI s,vI a] },{ i:=1,T:=43,c0:=[bF,.slice none 0 0] }]) (s:=⟨bx3 0,al_ 1,mv3⟩) (k:=fun E1 ac wd H_=>?_)
 by_cases h0:s < 0
 refine fq1 H_ 17 (tri 18) [_,_,bT,_,_,_,_,bT,_,_,_,_,bT,_,_,_,_,bT] (fun _=>[(30,bT)]) (s:=⟨fa3 1,ld31 0 sh3,bi3,mv3,off_,off_,off_,pk3,mv3,off_,off_,off_,pk3,mv3,off_,off_,off_,pk3⟩) (k:=fun E2 ac wd H_=>?_)
 refine cT3 H_ ?_
 refine fq H_ 2 (tri 3) [K_ (.agg #[bF,.slice none 0 0]),none,_] (fun _=>[(9,vI 1)]) (S:=[⟨1,1,fun _=>[bF,.slice none 0 0]⟩]) (s:=⟨bd30,se3 1 sh43,mv3⟩) (k:=fun E3 ac wd H_=>?_)
 refine lvCT3 (v:=.agg #[.bool false,.slice none 0 0]) Try.results8 H_ 1 (loadGc sh43 rfl ⟨rfl,rfl,trivial⟩) ?_
 have hE2:taiE l day off d s a=1:=by have hfb:formB s a=false:=(by have:¬ formB s a=true:=(by simp only [formB,Bool.and_eq_true,wthn_iff];omega);simpa using this);unfold taiE;rw [if_pos hfb]
 have hV2:taiV l day off d s a=0:=by unfold taiV;rw [if_neg (by rw [hE2];omega)]
 exact ⟨.agg #[.bool false,.slice none 0 0],by rw [hE2],H_.st.below,BigN.nil hV2⟩
 by_cases h1:86400 < s
 refine fq1 H_ 17 (tri 18) [_,_,bF,_,_,_,bT,bT,_,_,_,_,bT,_,_,_,_,bT] (fun _=>[(30,bT)]) (s:=⟨fa3 1,ld31 0 sh3,bi3,mv3,fa3 1,ld31 0 sh3,bi3,pk3,mv3,off_,off_,off_,pk3,mv3,off_,off_,off_,pk3⟩) (k:=fun E2 ac wd H_=>?_)
 refine cT3 H_ ?_
 refine fq H_ 2 (tri 3) [K_ (.agg #[bF,.slice none 0 0]),none,_] (fun _=>[(9,vI 1)]) (S:=[⟨1,1,fun _=>[bF,.slice none 0 0]⟩]) (s:=⟨bd30,se3 1 sh43,mv3⟩) (k:=fun E3 ac wd H_=>?_)
 refine lvCT3 (v:=.agg #[.bool false,.slice none 0 0]) Try.results8 H_ 1 (loadGc sh43 rfl ⟨rfl,rfl,trivial⟩) ?_
 have hE2:taiE l day off d s a=1:=by have hfb:formB s a=false:=(by have:¬ formB s a=true:=(by simp only [formB,Bool.and_eq_true,wthn_iff];omega);simpa using this);unfold taiE;rw [if_pos hfb]
 have hV2:taiV l day off d s a=0:=by unfold taiV;rw [if_neg (by rw [hE2];omega)]
 exact ⟨.agg #[.bool false,.slice none 0 0],by rw [hE2],H_.st.below,BigN.nil hV2⟩
 by_cases h2:a < 0
 refine fq1 H_ 17 (tri 18) [_,_,bF,_,_,_,bF,bF,_,_,_,bT,bT,_,_,_,_,bT] (fun _=>[(30,bT)]) (s:=⟨fa3 1,ld31 0 sh3,bi3,mv3,fa3 1,ld31 0 sh3,bi3,pk3,mv3,fa3 2,ld31 0 sh3,bi3,pk3,mv3,off_,off_,off_,pk3⟩) (k:=fun E2 ac wd H_=>?_)
 refine cT3 H_ ?_
 refine fq H_ 2 (tri 3) [K_ (.agg #[bF,.slice none 0 0]),none,_] (fun _=>[(9,vI 1)]) (S:=[⟨1,1,fun _=>[bF,.slice none 0 0]⟩]) (s:=⟨bd30,se3 1 sh43,mv3⟩) (k:=fun E3 ac wd H_=>?_)
 refine lvCT3 (v:=.agg #[.bool false,.slice none 0 0]) Try.results8 H_ 1 (loadGc sh43 rfl ⟨rfl,rfl,trivial⟩) ?_
 have hE2:taiE l day off d s a=1:=by have hfb:formB s a=false:=(by have:¬ formB s a=true:=(by simp only [formB,Bool.and_eq_true,wthn_iff];omega);simpa using this);unfold taiE;rw [if_pos hfb]
 have hV2:taiV l day off d s a=0:=by unfold taiV;rw [if_neg (by rw [hE2];omega)]
 exact ⟨.agg #[.bool false,.slice none 0 0],by rw [hE2],H_.st.below,BigN.nil hV2⟩
 by_cases h3:1000000000000000000≤a
 refine fq1 H_ 17 (tri 18) [_,_,bF,_,_,_,bF,bF,_,_,_,bF,bF,_,_,_,bT,bT] (fun _=>[(30,bT)]) (s:=⟨fa3 1,ld31 0 sh3,bi3,mv3,fa3 1,ld31 0 sh3,bi3,pk3,mv3,fa3 2,ld31 0 sh3,bi3,pk3,mv3,fa3 2,ld31 0 sh3,bi3,pk3⟩) (k:=fun E2 ac wd H_=>?_)
 refine cT3 H_ ?_
 refine fq H_ 2 (tri 3) [K_ (.agg #[bF,.slice none 0 0]),none,_] (fun _=>[(9,vI 1)]) (S:=[⟨1,1,fun _=>[bF,.slice none 0 0]⟩]) (s:=⟨bd30,se3 1 sh43,mv3⟩) (k:=fun E3 ac wd H_=>?_)
 refine lvCT3 (v:=.agg #[.bool false,.slice none 0 0]) Try.results8 H_ 1 (loadGc sh43 rfl ⟨rfl,rfl,trivial⟩) ?_
 have hE2:taiE l day off d s a=1:=by have hfb:formB s a=false:=(by have:¬ formB s a=true:=(by simp only [formB,Bool.and_eq_true,wthn_iff];omega);simpa using this);unfold taiE;rw [if_pos hfb]
 have hV2:taiV l day off d s a=0:=by unfold taiV;rw [if_neg (by rw [hE2];omega)]
 exact ⟨.agg #[.bool false,.slice none 0 0],by rw [hE2],H_.st.below,BigN.nil hV2⟩
 refine fq1 H_ 17 (tri 18) [_,_,bF,_,_,_,bF,bF,_,_,_,bF,bF,_,_,_,bF,bF] (fun _=>[(30,bF)]) (s:=⟨fa3 1,ld31 0 sh3,bi3,mv3,fa3 1,ld31 0 sh3,bi3,pk3,mv3,fa3 2,ld31 0 sh3,bi3,pk3,mv3,fa3 2,ld31 0 sh3,bi3,pk3⟩) (k:=fun E2 ac wd H_=>?_)
 refine cF3 H_ ?_
 have hfb:formB s a=true:=by simp only [formB,Bool.and_eq_true,wthn_iff];omega
 by_cases g1:d < (sgi l 0).d
 refine fq1 H_ 6 [[0],[0,1],[2],[2,3],[2,3,4],[2,3,4,5],r_ 7] [_,_,_,elt (.slice A0 l.length c0) (0*4),elt (.slice A0 l.length c0) (0*4),vI ((sgi l 0).d),bT] (fun _=>[(38,bT)]) (s:=⟨fa3 0,ld31 0 sh3,mv3,ia_ Try.underlying22 sz39 0 (0*4) 0 (fun _ env _ wd hA=>(hl.grown hA.j.st.gr).els) (rfl) (by omega) rfl,s_fa rfl rfl rfl (fun _=>wanted_none rfl _) (0*4) 0 (0*4) rfl (s:=fun _=>.slice A0 l.length c0) rfl (fun _=>rfl) (fun {D env ac wd} hA=>(hl.grown hA.j.st.gr).els) (by omega) (fun b q w=>by simp [go_sem,Try.underlying39]),le_ (0*4) (fun _ env _ wd hA=>(hl.grown hA.j.st.gr).els) (by omega) (leG1 sh3 (by exact sgC_0 l 0)),bi3⟩) (k:=fun E3 ac wd H_=>?_)
 refine cT3 H_ ?_
 refine fq H_ 2 (tri 3) [K_ (.agg #[bF,.slice none 0 0]),none,_] (fun _=>[(9,vI 8)]) (S:=[⟨1,1,fun _=>[bF,.slice none 0 0]⟩]) (s:=⟨bd30,se3 1 sh43,mv3⟩) (k:=fun E4 ac wd H_=>?_)
 refine lvCT3 (v:=.agg #[.bool false,.slice none 0 0]) Try.results8 H_ 1 (loadGc sh43 rfl ⟨rfl,rfl,trivial⟩) ?_
 have hE2:taiE l day off d s a=8:=by unfold taiE;rw [if_neg (by rw [hfb];simp),if_pos g1]
 have hV2:taiV l day off d s a=0:=by unfold taiV;rw [if_neg (by rw [hE2];omega)]
 exact ⟨.agg #[.bool false,.slice none 0 0],by rw [hE2],H_.st.below,BigN.nil hV2⟩
 refine fq1 H_ 6 [[0],[0,1],[2],[2,3],[2,3,4],[2,3,4,5],r_ 7] [_,_,_,elt (.slice A0 l.length c0) (0*4),elt (.slice A0 l.length c0) (0*4),vI ((sgi l 0).d),bF] (fun _=>[(38,bF)]) (s:=⟨fa3 0,ld31 0 sh3,mv3,ia_ Try.underlying22 sz39 0 (0*4) 0 (fun _ env _ wd hA=>(hl.grown hA.j.st.gr).els) (rfl) (by omega) rfl,s_fa rfl rfl rfl (fun _=>wanted_none rfl _) (0*4) 0 (0*4) rfl (s:=fun _=>.slice A0 l.length c0) rfl (fun _=>rfl) (fun {D env ac wd} hA=>(hl.grown hA.j.st.gr).els) (by omega) (fun b q w=>by simp [go_sem,Try.underlying39]),le_ (0*4) (fun _ env _ wd hA=>(hl.grown hA.j.st.gr).els) (by omega) (leG1 sh3 (by exact sgC_0 l 0)),bi3⟩) (k:=fun E3 ac wd H_=>?_)
 refine cF3 H_ ?_
 by_cases g2:day≤d
 refine fq1 H_ 3 [[0],[0,1],[2],r_ 4] [_,_,_,bT] (fun _=>[(43,bT)]) (s:=⟨fa3 0,ld31 0 sh3,mv3,bi3⟩) (k:=fun E4 ac wd H_=>?_)
 refine cT3 H_ ?_
 refine fq H_ 2 (tri 3) [K_ (.agg #[bF,.slice none 0 0]),none,_] (fun _=>[(9,vI 9)]) (S:=[⟨1,1,fun _=>[bF,.slice none 0 0]⟩]) (s:=⟨bd30,se3 1 sh43,mv3⟩) (k:=fun E5 ac wd H_=>?_)
 refine lvCT3 (v:=.agg #[.bool false,.slice none 0 0]) Try.results8 H_ 1 (loadGc sh43 rfl ⟨rfl,rfl,trivial⟩) ?_
 have hE2:taiE l day off d s a=9:=by unfold taiE;rw [if_neg (by rw [hfb];simp),if_neg g1,if_pos g2]
 have hV2:taiV l day off d s a=0:=by unfold taiV;rw [if_neg (by rw [hE2];omega)]
 exact ⟨.agg #[.bool false,.slice none 0 0],by rw [hE2],H_.st.below,BigN.nil hV2⟩
 refine fq1 H_ 3 [[0],[0,1],[2],r_ 4] [_,_,_,bF] (fun _=>[(43,bF)]) (s:=⟨fa3 0,ld31 0 sh3,mv3,bi3⟩) (k:=fun E4 ac wd H_=>?_)
 refine cF3 H_ ?_
 refine fq1 H_ 0 [[0]] [_] (fun _=>[(10,vI 0)]) (s:=mv3) (k:=fun E5 ac wd H_=>?_)
 refine fq1 H_ 0 [[0]] [_] (fun _=>[(11,vI 0)]) (s:=mv3) (k:=fun E6 ac wd H_=>?_)
 refine lp3 (fun ac wd=>∃ i:Nat,i≤l.length∧Cur 92 w0 none none (Facts []) (fun _=>True) [(0,.slice A0 l.length c0),(1,vI day),(2,vI off),(7,vP (pb E1 0) 0),(8,vP (pb E1 1) 0),(10,vN (kS l d i)),(11,vN i)] [((pb E1 0),26,[vI d,vI s,vI a]),((pb E1 1),43,[bF,.slice none 0 0])] ac wd) (fun ac _=>((l.length:Int)-sI ac 11).toNat) ⟨0,by omega,(H_.re rfl).th (fun _ h=>h)⟩ ?_
 rintro ac wd ⟨i,hi1,H_⟩
 have hmu:sI ac 11=((i:Nat):Int):=sI_eq (H_.g (t:=11) rfl)
 by_cases h1:i < l.length
 refine fq1 H_ 3 [[0],[1],[1,2],r_ 4] [_,_,vN l.length,bT] (fun _=>[(48,bT)]) (s:=⟨mv3,mv3,ln_ Try.underlying22 fun _ env _ wd hA=>(hl.grown hA.j.st.gr).els,bi3⟩) (k:=fun E8 ac wd H_=>?_)
 refine cT3 H_ ?_
 by_cases hc:(sgi l i).d≤d
 refine fq1 H_ 7 [[0],[1],[0,1,2],r_ 4,r_ 5,[5],[5,6],r_ 8] [_,_,elt (.slice A0 l.length c0) (i*4),elt (.slice A0 l.length c0) (i*4),vI ((sgi l i).d),_,_,bT] (fun _=>[(58,bT)]) (s:=⟨mv3,mv3,ia_ Try.underlying22 sz39 i (i*4) ((i:Nat):Int) (fun _ env _ wd hA=>(hl.grown hA.j.st.gr).els) (rfl) (by omega) rfl,s_fa rfl rfl rfl (fun _=>wanted_none rfl _) (i*4) 0 (i*4) rfl (s:=fun _=>.slice A0 l.length c0) rfl (fun _=>rfl) (fun {D env ac wd} hA=>(hl.grown hA.j.st.gr).els) (by omega) (fun b q w=>by simp [go_sem,Try.underlying39]),le_ (i*4) (fun _ env _ wd hA=>(hl.grown hA.j.st.gr).els) (by omega) (leG1 sh3 (by exact sgC_0 l i)),fa3 0,ld31 0 sh3,bi3 (h:=by intro env w;simp [go_sem,hc])⟩) (k:=fun E9 ac wd H_=>?_)
 refine cT3 H_ ?_
 refine fq1 H_ 1 [[0],[0,1]] [_,_] (fun _=>[(10,vN i)]) (s:=⟨mv3,mv3⟩) (k:=fun E10 ac wd H_=>?_)
 refine fq1 H_ 2 (tri 3) [_,vI (((i:Nat):Int)+1),_] (fun _=>[(11,vI (((i:Nat):Int)+1))]) (s:=⟨mv3,bi3,mv3⟩) (k:=fun E11 ac wd H_=>?_)
 refine then_n ?_
 have hk:kS l d (i+1)=i:=by simp only [kS];rw [if_pos hc]
 refine ⟨⟨i+1,by omega,?_⟩,by rw [sI_eq (H_.g (t:=11) rfl),hmu];omega⟩
 rw [hk];exact H_.re rfl
 refine fq1 H_ 7 [[0],[1],[0,1,2],r_ 4,r_ 5,[5],[5,6],r_ 8] [_,_,elt (.slice A0 l.length c0) (i*4),elt (.slice A0 l.length c0) (i*4),vI ((sgi l i).d),_,_,bF] (fun _=>[(58,bF)]) (s:=⟨mv3,mv3,ia_ Try.underlying22 sz39 i (i*4) ((i:Nat):Int) (fun _ env _ wd hA=>(hl.grown hA.j.st.gr).els) (rfl) (by omega) rfl,s_fa rfl rfl rfl (fun _=>wanted_none rfl _) (i*4) 0 (i*4) rfl (s:=fun _=>.slice A0 l.length c0) rfl (fun _=>rfl) (fun {D env ac wd} hA=>(hl.grown hA.j.st.gr).els) (by omega) (fun b q w=>by simp [go_sem,Try.underlying39]),le_ (i*4) (fun _ env _ wd hA=>(hl.grown hA.j.st.gr).els) (by omega) (leG1 sh3 (by exact sgC_0 l i)),fa3 0,ld31 0 sh3,bi3 (h:=by intro env w;simp [go_sem,hc])⟩) (k:=fun E9 ac wd H_=>?_)
 refine cF3 H_ ?_
 refine fq1 H_ 2 (tri 3) [_,vI (((i:Nat):Int)+1),_] (fun _=>[(11,vI (((i:Nat):Int)+1))]) (s:=⟨mv3,bi3,mv3⟩) (k:=fun E10 ac wd H_=>?_)
 refine then_n ?_
 have hk:kS l d (i+1)=kS l d i:=by simp only [kS];rw [if_neg hc]
 refine ⟨⟨i+1,by omega,?_⟩,by rw [sI_eq (H_.g (t:=11) rfl),hmu];omega⟩
 rw [hk];exact H_.re rfl
 obtain rfl:i=l.length:=by omega
 refine fq1 H_ 3 [[0],[1],[1,2],r_ 4] [_,_,vN l.length,bF] (fun _=>[(48,bF)]) (s:=⟨mv3,mv3,ln_ Try.underlying22 fun _ env _ wd hA=>(hl.grown hA.j.st.gr).els,bi3⟩) (k:=fun E8 ac wd H_=>?_)
 refine cF3 H_ ?_
 obtain ⟨k1,k2,k3⟩:=kS_in hL (x:=d) (by omega) (by omega)
 obtain ⟨k,hk⟩:∃ k,k=kS l d l.length:=⟨_,rfl⟩
 rw [← hk] at k1 k2 k3 H_
 have hs:=hL.seg k k1
 have hE:=hL.end_bd k1
 have q0:=hs.d0;have q1:=hL.unt_day k1
 refine fq H_ 8 [[0],[1],[0,1,2],r_ 4,[4],[4,5],r_ 7,[7],r_ 9] [_,_,elt (.slice A0 l.length c0) (k*4),vSg (sgi l k),_,_,_,_,none] (fun E9=>[(12,vP (pb E9 7) 0)]) (W:=[{ i:=7,T:=43,c0:=[bF,.slice none 0 0],s:=some 8,c1:=fun env=>[.bool (decide (fS (sgi l k) (jn d s a) < 0)),rS (fS (sgi l k) (jn d s a)) ((bA (env 6))) ((bC (env 6)))] }]) (F:=[fB w0 5 (jn d s a),fB w0 6 (fS (sgi l k) (jn d s a))]) (s:=⟨mv3,mv3,ia_ Try.underlying22 sz39 k (k*4) ((k:Nat):Int) (fun _ env _ wd hA=>(hl.grown hA.j.st.gr).els) (rfl) (by omega) rfl,le_ (k*4) (fun _ env _ wd hA=>(hl.grown hA.j.st.gr).els) (by omega) (leGd sh39 (by exact sgC_0 l k) (by exact sgC_1 l k) (by exact sgC_2 l k) (by exact sgC_3 l k)),ld3c 0 sh26,cb3 Try.func24 fun wd hA=>Join_any wd d s a (by omega) (by omega) (by omega) (by omega) (by omega) (by omega),cb4e Try.func23 (h:=fun env wd hA=>F_any wd (sgi l k) hs _ (bA (env 5)) (bC (env 5)) (jn d s a) rfl (At.bigN hA 5 rfl rfl rfl) (by unfold jn;omega) (by unfold jn;omega)),al_ 2,sw3 2 7 sh43⟩) (k:=fun E9 ac wd H_=>?_)
 by_cases e1:s=86400
 by_cases e2:d+1=untS l day k
 by_cases e3:endS l day off k≤fS (sgi l k) (jn d s a)
 refine fq H_ 22 (tri 7++[[0,1,2,3,7],[0,1,2,3,8],[0,1,2,3,9],[0,1,2,3,7,8,9,10],r_ 12,r_ 13,r_ 14,r_ 15,r_ 14++[15],r_ 14++[16],r_ 14++[17],r_ 14++[18],r_ 14++[15,16,17,18,19],r_ 21,r_ 22,r_ 23]) [_,_,bT,_,_,_,vI (d+1),_,_,_,_,bF,bF,_,_,_,_,_,_,_,_,bT,bT] (fun _=>[(89,bT)]) (F:=[fB w0 19 (endS l day off k)]) (s:=⟨fa3 1,ld31 0 sh3,bi3 (h:=by intro env w;simp [go_sem,e1]),mv3,fa3 0,ld31 0 sh3,bi3,gm3,gm3,gm3,cw3 Try.func25 fun wd hA=>Until_any wd A0 c0 l (hl.grown hA.j.st.gr) day k (by omega),bi3 (h:=by intro env w;simp [go_sem,e2]),pk3 (h:=by intro env w;simp [go_sem,e2]),mv3,ld3b 2 sh43,gm3,gm3,gm3,gm3,cb3 Try.func27 fun wd hA=>End_any wd A0 c0 l (hl.grown hA.j.st.gr) day off hL k (by omega),cw3e Try.func26 fun env wd hA=>Cmp_any wd (decide (fS (sgi l k) (jn d s a) < 0)) (bA (E9 6)) (bC (E9 6)) (fS (sgi l k) (jn d s a)) rfl (Facts.bigN (hA.j.st.now).1 1 rfl)  (decide (endS l day off k < 0)) (bA (env 19)) (bC (env 19)) (endS l day off k) rfl (At.bigN hA 19 rfl rfl rfl) ,bi3 (h:=by intro env w;simp [go_sem,cmpZ_le,cmpZ_lt,cmpZ_ge,cmpZ_gt,e3]),pk3 (h:=by intro env w;simp [go_sem,cmpZ_le,cmpZ_lt,cmpZ_ge,cmpZ_gt,e3])⟩) (k:=fun E10 ac wd H_=>?_)
 refine cT3 H_ ?_
 refine fq H_ 2 (tri 3) [K_ (.agg #[bF,.slice none 0 0]),none,_] (fun _=>[(9,vI 6)]) (S:=[⟨1,1,fun _=>[bF,.slice none 0 0]⟩]) (s:=⟨bd30,se3 1 sh43,mv3⟩) (k:=fun E11 ac wd H_=>?_)
 refine lvCT3 (v:=.agg #[.bool false,.slice none 0 0]) Try.results8 H_ 1 (loadGc sh43 rfl ⟨rfl,rfl,trivial⟩) ?_
 have hE2:taiE l day off d s a=6:=by unfold taiE;rw [if_neg (by rw [hfb];simp),if_neg g1,if_neg g2,← hk,if_pos (by omega)]
 have hV2:taiV l day off d s a=0:=by unfold taiV;rw [if_neg (by rw [hE2];omega)]
 exact ⟨.agg #[.bool false,.slice none 0 0],by rw [hE2],H_.st.below,BigN.nil hV2⟩
 refine fq H_ 22 (tri 7++[[0,1,2,3,7],[0,1,2,3,8],[0,1,2,3,9],[0,1,2,3,7,8,9,10],r_ 12,r_ 13,r_ 14,r_ 15,r_ 14++[15],r_ 14++[16],r_ 14++[17],r_ 14++[18],r_ 14++[15,16,17,18,19],r_ 21,r_ 22,r_ 23]) [_,_,bT,_,_,_,vI (d+1),_,_,_,_,bF,bF,_,_,_,_,_,_,_,_,bF,bF] (fun _=>[(89,bF)]) (F:=[fB w0 19 (endS l day off k)]) (s:=⟨fa3 1,ld31 0 sh3,bi3 (h:=by intro env w;simp [go_sem,e1]),mv3,fa3 0,ld31 0 sh3,bi3,gm3,gm3,gm3,cw3 Try.func25 fun wd hA=>Until_any wd A0 c0 l (hl.grown hA.j.st.gr) day k (by omega),bi3 (h:=by intro env w;simp [go_sem,e2]),pk3 (h:=by intro env w;simp [go_sem,e2]),mv3,ld3b 2 sh43,gm3,gm3,gm3,gm3,cb3 Try.func27 fun wd hA=>End_any wd A0 c0 l (hl.grown hA.j.st.gr) day off hL k (by omega),cw3e Try.func26 fun env wd hA=>Cmp_any wd (decide (fS (sgi l k) (jn d s a) < 0)) (bA (E9 6)) (bC (E9 6)) (fS (sgi l k) (jn d s a)) rfl (Facts.bigN (hA.j.st.now).1 1 rfl)  (decide (endS l day off k < 0)) (bA (env 19)) (bC (env 19)) (endS l day off k) rfl (At.bigN hA 19 rfl rfl rfl) ,bi3 (h:=by intro env w;simp [go_sem,cmpZ_le,cmpZ_lt,cmpZ_ge,cmpZ_gt,e3]),pk3 (h:=by intro env w;simp [go_sem,cmpZ_le,cmpZ_lt,cmpZ_ge,cmpZ_gt,e3])⟩) (k:=fun E10 ac wd H_=>?_)
 refine cF3 H_ ?_
 refine fq H_ 2 (tri 3) [_,none,_] (fun _=>[(9,vI 0)]) (S:=[⟨1,1,fun _=>[.bool (decide (fS (sgi l k) (jn d s a) < 0)),rS (fS (sgi l k) (jn d s a)) ((bA (E9 6))) ((bC (E9 6)))]⟩]) (s:=⟨ld3b 2 sh43,se3 1 sh43,mv3⟩) (k:=fun E11 ac wd H_=>?_)
 refine lvCT3 (v:=bigF (fS (sgi l k) (jn d s a)) (E9 6)) Try.results8 H_ 1 (loadGc sh43 rfl ⟨rfl,rfl,trivial⟩) ?_
 have hE2:taiE l day off d s a=0:=by unfold taiE;rw [if_neg (by rw [hfb];simp),if_neg g1,if_neg g2,← hk,if_neg (by omega)]
 have hV2:taiV l day off d s a=fS (sgi l k) (jn d s a):=by unfold taiV;rw [if_pos hE2,← hk]
 exact ⟨bigF (fS (sgi l k) (jn d s a)) (E9 6),by rw [hE2],H_.st.below,BigN.eq (BigN.mk rfl rfl (Facts.bN H_.st.now 1 rfl)) hV2.symm⟩
 refine fq1 H_ 22 (tri 7++[[0,1,2,3,7],[0,1,2,3,8],[0,1,2,3,9],[0,1,2,3,7,8,9,10],r_ 12,r_ 13,r_ 14,r_ 15,r_ 14++[15],r_ 14++[16],r_ 14++[17],r_ 14++[18],r_ 14++[15,16,17,18,19],r_ 21,r_ 22,r_ 23]) [_,_,bT,_,_,_,vI (d+1),_,_,_,_,bT,bT,_,_,_,_,_,_,_,_,_,bT] (fun _=>[(89,bT)]) (s:=⟨fa3 1,ld31 0 sh3,bi3 (h:=by intro env w;simp [go_sem,e1]),mv3,fa3 0,ld31 0 sh3,bi3,gm3,gm3,gm3,cw3 Try.func25 fun wd hA=>Until_any wd A0 c0 l (hl.grown hA.j.st.gr) day k (by omega),bi3 (h:=by intro env w;simp [go_sem,e2]),pk3 (h:=by intro env w;simp [go_sem,e2]),mv3,off_,off_,off_,off_,off_,off_,off_,off_,pk3⟩) (k:=fun E10 ac wd H_=>?_)
 refine cT3 H_ ?_
 refine fq H_ 2 (tri 3) [K_ (.agg #[bF,.slice none 0 0]),none,_] (fun _=>[(9,vI 6)]) (S:=[⟨1,1,fun _=>[bF,.slice none 0 0]⟩]) (s:=⟨bd30,se3 1 sh43,mv3⟩) (k:=fun E11 ac wd H_=>?_)
 refine lvCT3 (v:=.agg #[.bool false,.slice none 0 0]) Try.results8 H_ 1 (loadGc sh43 rfl ⟨rfl,rfl,trivial⟩) ?_
 have hE2:taiE l day off d s a=6:=by unfold taiE;rw [if_neg (by rw [hfb];simp),if_neg g1,if_neg g2,← hk,if_pos (by omega)]
 have hV2:taiV l day off d s a=0:=by unfold taiV;rw [if_neg (by rw [hE2];omega)]
 exact ⟨.agg #[.bool false,.slice none 0 0],by rw [hE2],H_.st.below,BigN.nil hV2⟩
 by_cases e3:endS l day off k≤fS (sgi l k) (jn d s a)
 refine fq H_ 22 (tri 7++[[0,1,2,3,7],[0,1,2,3,8],[0,1,2,3,9],[0,1,2,3,7,8,9,10],r_ 12,r_ 13,r_ 14,r_ 15,r_ 14++[15],r_ 14++[16],r_ 14++[17],r_ 14++[18],r_ 14++[15,16,17,18,19],r_ 21,r_ 22,r_ 23]) [_,_,bF,_,_,_,_,_,_,_,_,_,bF,_,_,_,_,_,_,_,_,bT,bT] (fun _=>[(89,bT)]) (F:=[fB w0 19 (endS l day off k)]) (s:=⟨fa3 1,ld31 0 sh3,bi3 (h:=by intro env w;simp [go_sem,e1]),mv3,off_,off_,off_,off_,off_,off_,off_,off_,pk3,mv3,ld3b 2 sh43,gm3,gm3,gm3,gm3,cb3 Try.func27 fun wd hA=>End_any wd A0 c0 l (hl.grown hA.j.st.gr) day off hL k (by omega),cw3e Try.func26 fun env wd hA=>Cmp_any wd (decide (fS (sgi l k) (jn d s a) < 0)) (bA (E9 6)) (bC (E9 6)) (fS (sgi l k) (jn d s a)) rfl (Facts.bigN (hA.j.st.now).1 1 rfl)  (decide (endS l day off k < 0)) (bA (env 19)) (bC (env 19)) (endS l day off k) rfl (At.bigN hA 19 rfl rfl rfl) ,bi3 (h:=by intro env w;simp [go_sem,cmpZ_le,cmpZ_lt,cmpZ_ge,cmpZ_gt,e3]),pk3 (h:=by intro env w;simp [go_sem,cmpZ_le,cmpZ_lt,cmpZ_ge,cmpZ_gt,e3])⟩) (k:=fun E10 ac wd H_=>?_)
 refine cT3 H_ ?_
 refine fq H_ 2 (tri 3) [K_ (.agg #[bF,.slice none 0 0]),none,_] (fun _=>[(9,vI 6)]) (S:=[⟨1,1,fun _=>[bF,.slice none 0 0]⟩]) (s:=⟨bd30,se3 1 sh43,mv3⟩) (k:=fun E11 ac wd H_=>?_)
 refine lvCT3 (v:=.agg #[.bool false,.slice none 0 0]) Try.results8 H_ 1 (loadGc sh43 rfl ⟨rfl,rfl,trivial⟩) ?_
 have hE2:taiE l day off d s a=6:=by unfold taiE;rw [if_neg (by rw [hfb];simp),if_neg g1,if_neg g2,← hk,if_pos (by omega)]
 have hV2:taiV l day off d s a=0:=by unfold taiV;rw [if_neg (by rw [hE2];omega)]
 exact ⟨.agg #[.bool false,.slice none 0 0],by rw [hE2],H_.st.below,BigN.nil hV2⟩
 refine fq H_ 22 (tri 7++[[0,1,2,3,7],[0,1,2,3,8],[0,1,2,3,9],[0,1,2,3,7,8,9,10],r_ 12,r_ 13,r_ 14,r_ 15,r_ 14++[15],r_ 14++[16],r_ 14++[17],r_ 14++[18],r_ 14++[15,16,17,18,19],r_ 21,r_ 22,r_ 23]) [_,_,bF,_,_,_,_,_,_,_,_,_,bF,_,_,_,_,_,_,_,_,bF,bF] (fun _=>[(89,bF)]) (F:=[fB w0 19 (endS l day off k)]) (s:=⟨fa3 1,ld31 0 sh3,bi3 (h:=by intro env w;simp [go_sem,e1]),mv3,off_,off_,off_,off_,off_,off_,off_,off_,pk3,mv3,ld3b 2 sh43,gm3,gm3,gm3,gm3,cb3 Try.func27 fun wd hA=>End_any wd A0 c0 l (hl.grown hA.j.st.gr) day off hL k (by omega),cw3e Try.func26 fun env wd hA=>Cmp_any wd (decide (fS (sgi l k) (jn d s a) < 0)) (bA (E9 6)) (bC (E9 6)) (fS (sgi l k) (jn d s a)) rfl (Facts.bigN (hA.j.st.now).1 1 rfl)  (decide (endS l day off k < 0)) (bA (env 19)) (bC (env 19)) (endS l day off k) rfl (At.bigN hA 19 rfl rfl rfl) ,bi3 (h:=by intro env w;simp [go_sem,cmpZ_le,cmpZ_lt,cmpZ_ge,cmpZ_gt,e3]),pk3 (h:=by intro env w;simp [go_sem,cmpZ_le,cmpZ_lt,cmpZ_ge,cmpZ_gt,e3])⟩) (k:=fun E10 ac wd H_=>?_)
 refine cF3 H_ ?_
 refine fq H_ 2 (tri 3) [_,none,_] (fun _=>[(9,vI 0)]) (S:=[⟨1,1,fun _=>[.bool (decide (fS (sgi l k) (jn d s a) < 0)),rS (fS (sgi l k) (jn d s a)) ((bA (E9 6))) ((bC (E9 6)))]⟩]) (s:=⟨ld3b 2 sh43,se3 1 sh43,mv3⟩) (k:=fun E11 ac wd H_=>?_)
 refine lvCT3 (v:=bigF (fS (sgi l k) (jn d s a)) (E9 6)) Try.results8 H_ 1 (loadGc sh43 rfl ⟨rfl,rfl,trivial⟩) ?_
 have hE2:taiE l day off d s a=0:=by unfold taiE;rw [if_neg (by rw [hfb];simp),if_neg g1,if_neg g2,← hk,if_neg (by omega)]
 have hV2:taiV l day off d s a=fS (sgi l k) (jn d s a):=by unfold taiV;rw [if_pos hE2,← hk]
 exact ⟨bigF (fS (sgi l k) (jn d s a)) (E9 6),by rw [hE2],H_.st.below,BigN.eq (BigN.mk rfl rfl (Facts.bN H_.st.now 1 rfl)) hV2.symm⟩
end Go.Proofs.Ytpoagcjpfaiidaa
