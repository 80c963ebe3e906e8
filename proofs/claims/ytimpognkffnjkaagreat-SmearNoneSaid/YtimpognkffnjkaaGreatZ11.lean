/- Texts GMNone of one proof, one behind the other; what nothing here names is left out. -/
import Derived.Test.YtimpognkffnjkaaGreatZ8
import Derived.Test.YtimpognkffnjkaaGreatZ3
import Derived.Test.YtimpognkffnjkaaGreatZ4
import Derived.IntWalk
set_option maxRecDepth 100000
set_option maxHeartbeats 8000000
set_option linter.unusedVariables false
set_option linter.unusedSimpArgs false
namespace Go.Proofs.YtimpognkffnjkaaGreat
open Go.RowKit
attribute [local go_sem] vN bT bF rS vW vM vL vT2 vT3 vP vI execOp Act.eval evC bigF vB hi_zero lo_zero Tryz.underlying27 Tryz.underlying34 Tryz.underlying57
theorem smearNone_walk (w0:World) (z:Int) (hz:InW z):Calls Tryz.prog 8 #[vW z] w0 fun e w'=>e = .returned (.bool true)∧Below w0.heap.size w0 w':=by
 have hst:=St.start w0 (Θ:=fun _=>True) (fun _ _=>trivial)
 refine en_ Tryz.func8 hst 63 [(0,vW z)] (fun ac H_=>?_)
 replace H_:=H_.facts
 refine fq H_ 1 [[0],[1]] [_,_] (fun E1=>[(1,vP (pb E1 0) 0)]) (W:=[{ i:=0,T:=27,c0:=[vI (hi (z)),.int .u64 (lo (z))] }]) (s:=⟨bx3 0,mv3⟩) (k:=fun E1 ac wd H_=>?_)
 refine fq H_ 7 (tri 4++[[0,1,2,4],[5],[0,1,2,3,5,6],r_ 8]) [_,_,_,_,_,_,none,_] (fun E2=>[(3,vP (pb E2 5) 0),(4,vI 12)]) (W:=[{ i:=5,T:=27,c0:=[vI 0,.int .u64 0],s:=some 6,c1:=fun _=>[vI (hi (0)),.int .u64 (lo (0))] }]) (s:=⟨ld3b 0 sh27,cl3 Tryz.func18 ((mSoft_nil z)),mv3,xt3,xt3,al_ 1,sw3 1 5 sh27,mv3⟩) (k:=fun E2 ac wd H_=>?_)
 refine fq H_ 7 (tri 4++[[0,1,2,4],[5],[0,1,2,3,5,6],r_ 8]) [_,_,_,_,_,_,none,_] (fun E3=>[(5,vP (pb E3 5) 0),(6,vI 12)]) (W:=[{ i:=5,T:=27,c0:=[vI 0,.int .u64 0],s:=some 6,c1:=fun _=>[vI (hi (0)),.int .u64 (lo (0))] }]) (s:=⟨ld3b 0 sh27,cl3 Tryz.func16 ((mHard_nil z)),mv3,xt3,xt3,al_ 2,sw3 2 5 sh27,mv3⟩) (k:=fun E3 ac wd H_=>?_)
 refine fq H_ 7 (tri 4++[[0,1,2,4],[5],[0,1,2,3,5,6],r_ 8]) [_,_,_,_,_,_,none,_] (fun E4=>[(7,vP (pb E4 5) 0),(8,vI 12)]) (W:=[{ i:=5,T:=57,c0:=[vI 0,.int .u64 0,vI 0,.int .u64 0],s:=some 6,c1:=fun _=>[vI 0,.int .u64 0,vI 0,.int .u64 0] }]) (s:=⟨ld3b 0 sh27,cl3 Tryz.func22 ((mRest_nil z)),mv3,xt3,xt3,al_ 3,sw3 3 5 sh57,mv3⟩) (k:=fun E4 ac wd H_=>?_)
 refine fq H_ 7 (tri 4++[[0,1,2,4],[5],[0,1,2,3,5,6],r_ 8]) [_,_,_,_,_,_,none,_] (fun _=>[(10,bF)]) (W:=[{ i:=5,T:=34,c0:=[vI 0,.int .u64 0,vI 0,.int .u64 0,vI 0,.int .u64 0,vI 0],s:=some 6,c1:=fun _=>[vI 0,.int .u64 0,vI 0,.int .u64 0,vI 0,.int .u64 0,vI 0] }]) (s:=⟨ld3b 0 sh27,cl3 Tryz.func11 ((mat_nil z)),mv3,xt3,xt3,al_ 4,sw3 4 5 sh34,mv3⟩) (k:=fun E5 ac wd H_=>?_)
 refine fq1 H_ 32 (tri 15++[r_ 14++[15],r_ 17,r_ 18,r_ 19,r_ 20,r_ 19++[20],r_ 22,r_ 23,r_ 24,r_ 25,r_ 24++[25],r_ 27,r_ 28,r_ 29,r_ 30,r_ 31,r_ 32,r_ 33]) (.append [_,_,_,bT,bT,_,_,bT,bT,_,_,bT,bT,_,_,K_ (.agg #[vI 0,.int .u64 0]),bT,bT,_,_,K_ (.agg #[vI 0,.int .u64 0]),bT,bT,_,_,K_ (.agg #[vI 0,.int .u64 0,vI 0,.int .u64 0]),bT,bT,_,_,bT] [bT,_]) (fun _=>[(2,bT)]) (s:=⟨cl3 Tryz.func10 answers26_any,mv3,gm3,bi3 (h:=by intro env w;(first | (simp [go_sem];done) | (simp [go_sem];rfl))),pk3 (h:=by intro env w;(first | (simp [go_sem];done) | (simp [go_sem];rfl))),mv3,gm3,bi3 (h:=by intro env w;(first | (simp [go_sem];done) | (simp [go_sem];rfl))),pk3 (h:=by intro env w;(first | (simp [go_sem];done) | (simp [go_sem];rfl))),mv3,gm3,bi3 (h:=by intro env w;(first | (simp [go_sem];done) | (simp [go_sem];rfl))),pk3 (h:=by intro env w;(first | (simp [go_sem];done) | (simp [go_sem];rfl))),mv3,ld3b 1 sh27,bd30,bi3 (h:=by intro env w;simp [go_sem,hi_zero,lo_zero]),pk3 (h:=by intro env w;simp [go_sem,hi_zero,lo_zero]),mv3,ld3b 2 sh27,bd30,bi3 (h:=by intro env w;simp [go_sem,hi_zero,lo_zero]),pk3 (h:=by intro env w;simp [go_sem,hi_zero,lo_zero]),mv3,ld3d 3 sh57,bd30,bi3 (h:=by intro env w;(first | (simp [go_sem];done) | (simp [go_sem];rfl))),pk3 (h:=by intro env w;(first | (simp [go_sem];done) | (simp [go_sem];rfl))),mv3,gm3,un3,pk3,mv3⟩) (k:=fun E6 ac wd H_=>?_)
 refine lvT3 Tryz.results8 H_ ?_
 exact ⟨rfl,H_.st.below⟩
end Go.Proofs.YtimpognkffnjkaaGreat
