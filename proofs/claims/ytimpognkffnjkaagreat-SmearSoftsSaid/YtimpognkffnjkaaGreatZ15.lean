/- Texts GMSofts of one proof, one behind the other; what nothing here names is left out. -/
import Derived.Test.YtimpognkffnjkaaGreatZ9
import Derived.Test.YtimpognkffnjkaaGreatZ8
import Derived.Test.YtimpognkffnjkaaGreatZ3
import Derived.Test.YtimpognkffnjkaaGreatZ4
import Derived.IntWalk
set_option maxRecDepth 100000
set_option maxHeartbeats 8000000
set_option linter.unusedVariables false
set_option linter.unusedSimpArgs false
namespace Go.Proofs.YtimpognkffnjkaaGreat
open Go.RowKit
attribute [local go_sem] vN bT bF rS vW vM vL vT2 vT3 vP vI execOp Act.eval evC bigF vB hi_zero lo_zero Tryz.underlying24 Tryz.underlying27 Tryz.underlying40 Tryz.underlying57
theorem ms_rs {es:List (Int × Int)} {z:Int} (h:msE es z=0):rtN es z=rsR es z / dvs (rsR es z) (rsB es z)∧rtD es z=rsB es z / dvs (rsR es z) (rsB es z)∧msR es z=rsR es z∧msB es z=rsB es z:=by
 have h1:msR es z=rsR es z:=by unfold msR rsR;simp only [h,true_and]
 have h2:msB es z=rsB es z:=by unfold msB rsB;rw [if_pos h]
 obtain ⟨a,b⟩:=rt_yes h
 rw [a,b,h1,h2];exact ⟨rfl,rfl,rfl,rfl⟩
theorem smearSofts_core (w0:World) (A0:Option Addr) (c0:Nat) (es:List (Int × Int)) (u x:Int) (z:Int) (hz:InW z) (hv:Ents w0 w0.heap.size (.slice A0 es.length c0) es) (hu:I64 u) (hx:I64 x) (hes:∀ i,I64 (es.getD i (0,0)).1∧I64 (es.getD i (0,0)).2):Calls Tryz.prog 7 #[.agg #[vI u,vI x,.slice A0 es.length c0],vW z] w0 fun e w'=>e = .returned (.bool true)∧Below w0.heap.size w0 w':=by
 have hst:=St.start w0 (Θ:=fun _=>True) (fun _ _=>trivial)
 refine en_ Tryz.func7 hst 113 [(0,.agg #[vI u,vI x,.slice A0 es.length c0]),(1,vW z)] (fun ac H_=>?_)
 replace H_:=H_.facts
 refine fq H_ 2 [[0],[1],[2]] [_,_,_] (fun E1=>[(2,vP (pb E1 0) 0),(3,vP (pb E1 1) 0)]) (W:=[{ i:=0,T:=24,c0:=[vI u,vI x,.slice A0 es.length c0] },{ i:=1,T:=27,c0:=[vI (hi (z)),.int .u64 (lo (z))] }]) (s:=⟨bx3 0,bx3 1,mv3⟩) (k:=fun E1 ac wd H_=>?_)
 cases hok:okT u x es
 refine fq1 H_ 6 (tri 4++[[0,1,2,4],[0,1,2,3,5],r_ 7]) [_,_,_,_,_,_,_] (fun _=>[(5,.pointer none),(6,vI 10)]) (s:=⟨ld3c 0 sh24,cw3 Tryz.func9 fun wd hA=>((new_no _ es u x wd (hv.gn hA.j.st.gr) hu hx hes hok)),mv3,xt3,xt3,mv3,mv3⟩) (k:=fun E2 ac wd H_=>?_)
 refine fq1 H_ 1 [[0],[0,1]] [_,bT] (fun _=>[(27,bT)]) (s:=⟨mv3,bi3⟩) (k:=fun E3 ac wd H_=>?_)
 refine cT3 H_ ?_
 refine fq1 H_ 1 [[0],[0,1]] [_,_] (fun _=>[(4,bT)]) (s:=⟨cl3 Tryz.func10 answers26_any,mv3⟩) (k:=fun E4 ac wd H_=>?_)
 refine lvT3 Tryz.results7 H_ ?_
 exact ⟨rfl,H_.st.below⟩
 obtain ⟨hp,hn0,hl64⟩:=okT_pre hok
 refine fq H_ 6 (tri 4++[[0,1,2,4],[0,1,2,3,5],r_ 7]) [_,KE_ fun env=>vT2 (vP (ptrB (tp (env 1) 0)) 0) (vI 0),_,_,_,_,_] (fun E2=>[(5,vP (ptrB (tp (E2 1) 0)) 0),(6,vI 0)]) (F:=[(1,fun env w=>NewL w (env 1) u x es w0.heap.size)]) (s:=⟨ld3c 0 sh24,s_factT rfl rfl rfl Tryz.func9 (by kernel_rfl) rfl (fun _=>wanted_none rfl _) (fun v w=>NewL w v u x es w0.heap.size) newLF rfl rfl leT rfl (fun v w h=>h.form) (fun v w w' hk h=>h.keep hk) (fun {D env ac wd} hA=>⟨_,hA.args (vs:=[.agg #[vI u,vI x,.slice A0 es.length c0]]) rfl,lnew_yes hA.j.st.gr.size (hv.gn hA.j.st.gr) hu hx hes hok⟩),mv3,xt3,xt3,mv3,mv3⟩) (k:=fun E2 ac wd H_=>?_)
 replace H_:=Cur.exInF H_ 0 rfl;generalize ptrB (tp (E2 1) 0)=g at H_
 refine fq1 H_ 1 [[0],[0,1]] [_,bF] (fun _=>[(27,bF)]) (s:=⟨mv3,bi3 (h:=by intro env w;(first | (simp [go_sem];done) | (simp [go_sem];rfl)))⟩) (k:=fun E3 ac wd H_=>?_)
 refine cF3 H_ ?_
 refine fq H_ 8 [[0],[1],[0,1,2],r_ 4,r_ 5,[0,1,2,3,5],[6],[0,1,2,3,4,6,7],r_ 9] [_,_,vT2 (vW (msN es z)) (vI (msE es z)),_,_,_,_,none,_] (fun E4=>[(7,vP (pb E4 6) 0),(8,vI (msE es z))]) (W:=[{ i:=6,T:=27,c0:=[vI 0,.int .u64 0],s:=some 7,c1:=fun _=>[vI (hi (msN es z)),.int .u64 (lo (msN es z))] }]) (s:=⟨mv3,ld3b 1 sh27,s_leap (g:=g) (u:=u) (x:=x) (es:=es) Tryz.func18 (fun _ h=>h) (fun _ h=>h) (h:=fun D env ac wd hA hL=>⟨_,mSoft_l _ g u x es hL z hz,rfl⟩),mv3,xt3,xt3,al_ 2,sw3 2 6 sh27,mv3⟩) (k:=fun E4 ac wd H_=>?_)
 refine fq H_ 8 [[0],[1],[0,1,2],r_ 4,r_ 5,[0,1,2,3,5],[6],[0,1,2,3,4,6,7],r_ 9] [_,_,vT2 (.agg #[vI (hi (rtN es z)),.int .u64 (lo (rtN es z)),vI (hi (rtD es z)),.int .u64 (lo (rtD es z))]) (vI (msE es z)),_,_,_,_,none,_] (fun E5=>[(9,vP (pb E5 6) 0),(10,vI (msE es z))]) (W:=[{ i:=6,T:=57,c0:=[vI 0,.int .u64 0,vI 0,.int .u64 0],s:=some 7,c1:=fun _=>[vI (hi (rtN es z)),.int .u64 (lo (rtN es z)),vI (hi (rtD es z)),.int .u64 (lo (rtD es z))] }]) (s:=⟨mv3,ld3b 1 sh27,s_leap (g:=g) (u:=u) (x:=x) (es:=es) Tryz.func22 (fun _ h=>h) (fun _ h=>h) (h:=fun D env ac wd hA hL=>⟨_,mRest_l _ g u x es hL z hz,rfl⟩),mv3,xt3,xt3,al_ 3,sw3 3 6 sh57,mv3⟩) (k:=fun E5 ac wd H_=>?_)
 replace H_:=Cur.offM H_
 refine fq H_ 4 [[0],[1],[1,2],r_ 4,r_ 5] [_,_,_,_,_] (fun _=>[(11,vI (msE es z))]) (F:=[fB w0 2 z]) (s:=⟨ld3c 0 sh24,ld3b 1 sh27,cb3 Tryz.func13 fun wd hA=>Of_any wd z hz,cw3e Tryz.func23 fun env wd hA=>rWhy_any wd A0 c0 es u x (hv.gn hA.j.st.gr) hp hn0 hl64 _ (bA (env 2)) (bC (env 2)) z rfl (At.bigN hA 2 rfl rfl rfl) hz,mv3⟩) (k:=fun E6 ac wd H_=>?_)
 by_cases he:msE es z=0
 obtain ⟨q1,q2,q3,q4⟩:=ms_rs he;obtain ⟨m0,m1,m2⟩:=ms_bd hp hn0 he;rw [q3] at m0 m1;rw [q4] at m1 m2;obtain ⟨f1,f2,f3,f4⟩:=msE_ok he;have f2:=And.intro f2 f3
 refine fq1 H_ 1 [[0],[0,1]] [_,bF] (fun _=>[(46,bF)]) (s:=⟨mv3,bi3 (h:=by intro env w;simp [go_sem,he])⟩) (k:=fun E7 ac wd H_=>?_)
 refine cF3 H_ ?_
 refine fq H_ 12 [[0],[1],[1,2],r_ 4,r_ 5,r_ 6,[0,1,2,3,4,6],[0,1,2,3,4,7],[8],[9],r_ 6++[8,9,10],r_ 7++[8,9,10,11],r_ 13] [_,_,_,KE_ fun env=>vT3 (bigF (softZ es z) (tp (env 3) 0)) (bigF (rsR es z) (tp (env 3) 1)) (vI (rsB es z)),_,_,_,_,_,_,none,none,_] (fun E8=>[(12,vP (pb E8 8) 0),(13,vP (pb E8 9) 0),(14,vI (rsB es z))]) (W:=[{ i:=8,T:=40,c0:=[bF,.slice none 0 0],s:=some 10,c1:=fun env=>[.bool (decide (softZ es z < 0)),rS (softZ es z) ((bA (tp (env 3) 0))) ((bC (tp (env 3) 0)))] },{ i:=9,T:=40,c0:=[bF,.slice none 0 0],s:=some 11,c1:=fun env=>[.bool (decide (rsR es z < 0)),rS (rsR es z) ((bA (tp (env 3) 1))) ((bC (tp (env 3) 1)))] }]) (F:=[fB w0 2 z,(3,fun env w=>SofX w (env 3) (softZ es z) (rsR es z) (rsB es z))]) (s:=⟨ld3c 0 sh24,ld3b 1 sh27,cb3 Tryz.func13 fun wd hA=>Of_any wd z hz,cf_ Tryz.func24 (fun v w=>SofX w v (softZ es z) (rsR es z) (rsB es z)) (sofF (softZ es z) (rsR es z) (rsB es z)) (h:=fun _ env _ wd hA=>⟨_,rSoft_any wd A0 c0 es u x (hv.gn hA.j.st.gr) hp hn0 hl64 _ (bA (env 2)) (bC (env 2)) z rfl (At.bigN hA 2 rfl rfl rfl) hz f1 f2,rfl⟩),mv3,xt3,xt3,xt3,al_ 4,al_ 5,sw3 4 8 sh40,sw3 5 9 sh40,mv3⟩) (k:=fun E8 ac wd H_=>?_)
 refine fq H_ 7 (tri 4++[[0,1,2,4],[5],[0,1,2,3,5,6],r_ 8]) [_,_,_,_,_,_,none,_] (fun E9=>[(15,vP (pb E9 5) 0)]) (W:=[{ i:=5,T:=27,c0:=[vI 0,.int .u64 0],s:=some 6,c1:=fun _=>[vI (hi (rsR es z)),.int .u64 (lo (rsR es z))] }]) (s:=⟨ld3b 5 sh40,cw3 Tryz.func25 fun wd hA=>Wide_yes wd (decide (rsR es z < 0)) (bA (tp (E8 3) 1)) (bC (tp (E8 3) 1)) (rsR es z) rfl (Facts.sof2 (hA.j.st.now).1 2 rfl)  (by omega) (by omega),mv3,xt3,xt3,al_ 6,sw3 6 5 sh27,mv3⟩) (k:=fun E9 ac wd H_=>?_)
 refine fq H_ 8 (tri 5++[[0,1,2,3,5],[6],[0,1,2,3,4,6,7],r_ 9]) [_,_,_,_,_,_,_,none,_] (fun E10=>[(17,vP (pb E10 6) 0)]) (W:=[{ i:=6,T:=27,c0:=[vI 0,.int .u64 0],s:=some 7,c1:=fun _=>[vI (hi (rsB es z)),.int .u64 (lo (rsB es z))] }]) (F:=[fB w0 1 (rsB es z)]) (s:=⟨mv3,cb3 Tryz.func20 fun wd hA=>Int_any wd (rsB es z) (by omega) (by omega),cw3e Tryz.func25 fun env wd hA=>Wide_yes wd (decide (rsB es z < 0)) (bA (env 1)) (bC (env 1)) (rsB es z) rfl (At.bigN hA 1 rfl rfl rfl)  (by omega) (by omega),mv3,xt3,xt3,al_ 7,sw3 7 6 sh27,mv3⟩) (k:=fun E10 ac wd H_=>?_)
 refine fq H_ 8 [[0],[1],[0,1,2],r_ 4,r_ 5,[0,1,2,3,5],[6],[0,1,2,3,4,6,7],r_ 9] [_,_,_,_,_,_,_,none,_] (fun E11=>[(19,vP (pb E11 6) 0)]) (W:=[{ i:=6,T:=57,c0:=[vI 0,.int .u64 0,vI 0,.int .u64 0],s:=some 7,c1:=fun _=>[vI (hi ((rsR es z) / dvs (rsR es z) (rsB es z))),.int .u64 (lo ((rsR es z) / dvs (rsR es z) (rsB es z))),vI (hi ((rsB es z) / dvs (rsR es z) (rsB es z))),.int .u64 (lo ((rsB es z) / dvs (rsR es z) (rsB es z)))] }]) (s:=⟨ld3b 6 sh27,ld3b 7 sh27,cl3 Tryz.func26 ((mmake_any (rsR es z) (rsB es z) (by unfold InW;omega) (by unfold InW;omega) (by omega))),mv3,xt3,xt3,al_ 8,sw3 8 6 sh57,mv3⟩) (k:=fun E11 ac wd H_=>?_)
 refine fq H_ 20 (tri 12++[r_ 10++[12],r_ 14,r_ 15,r_ 16,r_ 17,r_ 16++[17],r_ 19,r_ 20,r_ 21]) [_,_,_,bT,bT,_,_,bT,bT,_,_,_,_,_,bT,_,_,_,bT,bT,_] (fun _=>[(4,bT)]) (F:=[fB w0 11 (msN es z)]) (s:=⟨cl3 Tryz.func10 answers26_any,mv3,gm3,bi3 (h:=by intro env w;simp [go_sem,he]),pk3 (h:=by intro env w;simp [go_sem,he]),mv3,gm3,bi3 (h:=by intro env w;simp [go_sem,he]),pk3 (h:=by intro env w;simp [go_sem,he]),mv3,ld3b 2 sh27,cb3 Tryz.func13 fun wd hA=>Of_any wd (msN es z) (msN_in hp hn0 hz),ld3b 4 sh40,cw3e Tryz.func15 fun env wd hA=>(u_res_eq (Same_any wd (decide (msN es z < 0)) (bA (env 11)) (bC (env 11)) (msN es z) rfl (At.bigN hA 11 rfl rfl rfl)  (decide (softZ es z < 0)) (bA (tp (E8 3) 0)) (bC (tp (E8 3) 0)) (softZ es z) rfl (Facts.sof1 (hA.j.st.now).1 2 rfl) ) (congrArg Value.bool (decide_eq_true f4))),pk3,mv3,ld3d 3 sh57,ld3d 8 sh57,bi3 (h:=by intro env w;simp [go_sem,q1,q2]),pk3 (h:=by intro env w;simp [go_sem,q1,q2]),mv3⟩) (k:=fun E12 ac wd H_=>?_)
 refine lvT3 Tryz.results7 H_ ?_
 exact ⟨rfl,H_.st.below⟩
 obtain ⟨q1,q2⟩:=rt_no he;have q3:msN es z=0:=(by unfold msN;rw [if_neg he])
 refine fq1 H_ 1 [[0],[0,1]] [_,bT] (fun _=>[(46,bT)]) (s:=⟨mv3,bi3 (h:=by intro env w;simp [go_sem,he])⟩) (k:=fun E7 ac wd H_=>?_)
 refine cT3 H_ ?_
 refine fq1 H_ 21 [[0],[0,1],[0,1,2],[0,1,3],r_ 5,r_ 6,r_ 7,r_ 8,r_ 7++[8],r_ 10,r_ 11,r_ 12,r_ 13,r_ 12++[13],r_ 15,r_ 16,r_ 17,r_ 18,r_ 17++[18],r_ 20,r_ 21,r_ 22] [_,_,_,_,bT,bT,_,_,_,bT,bT,_,_,K_ (.agg #[vI 0,.int .u64 0]),bT,bT,_,_,K_ (.agg #[vI 0,.int .u64 0,vI 0,.int .u64 0]),bT,bT,_] (fun _=>[(4,bT)]) (s:=⟨cl3 Tryz.func10 answers26_any,mv3,gm3,gm3,bi3 (h:=by intro env w;(first | (simp [go_sem];done) | (simp [go_sem];rfl))),pk3 (h:=by intro env w;(first | (simp [go_sem];done) | (simp [go_sem];rfl))),mv3,gm3,gm3,bi3 (h:=by intro env w;(first | (simp [go_sem];done) | (simp [go_sem];rfl))),pk3 (h:=by intro env w;(first | (simp [go_sem];done) | (simp [go_sem];rfl))),mv3,ld3b 2 sh27,bd30,bi3 (h:=by intro env w;simp [go_sem,q3,hi_zero,lo_zero]),pk3 (h:=by intro env w;simp [go_sem,q3,hi_zero,lo_zero]),mv3,ld3d 3 sh57,bd30,bi3 (h:=by intro env w;simp [go_sem,q1,q2,hi_zero,lo_zero]),pk3 (h:=by intro env w;simp [go_sem,q1,q2,hi_zero,lo_zero]),mv3⟩) (k:=fun E8 ac wd H_=>?_)
 refine lvT3 Tryz.results7 H_ ?_
 exact ⟨rfl,H_.st.below⟩
theorem smearSofts_walk (w0:World) (v:Value) (es:List (Int × Int)) (u x:Int) (z:Int) (hz:InW z) (hv:Ents w0 w0.heap.size v es) (hu:I64 u) (hx:I64 x) (hes:∀ i,I64 (es.getD i (0,0)).1∧I64 (es.getD i (0,0)).2):Calls Tryz.prog 7 #[.agg #[vI u,vI x,v],vW z] w0 fun e w'=>e = .returned (.bool true)∧Below w0.heap.size w0 w':=by
 have hv0:=hv
 obtain ⟨A,c,rfl,_⟩:=hv
 exact smearSofts_core w0 A c es u x z hz hv0 hu hx hes
end Go.Proofs.YtimpognkffnjkaaGreat
