/- Texts GMWindows of one proof, one behind the other; what nothing here names is left out. -/
import Derived.Test.YtimpognkffnjkaaGreatZ9
import Derived.Test.YtimpognkffnjkaaGreatZ8
import Derived.Test.YtimpognkffnjkaaGreatZ3
import Derived.Test.YtimpognkffnjkaaGreatZ4
import Derived.IntWalk
set_option maxRecDepth 100000
set_option maxHeartbeats 8000000
set_option linter.unusedVariables false
set_option linter.unusedSimpArgs false
namespace Go.Proofs.YtimpognkffnjkaaGreat
open Go.RowKit
attribute [local go_sem] vN bT bF rS vW vM vL vT2 vT3 vP vI execOp Act.eval evC bigF vB hi_zero lo_zero Tryz.underlying24 Tryz.underlying27 Tryz.underlying34 Tryz.underlying43
theorem smearWindows_core (w0:World) (A0:Option Addr) (c0:Nat) (es:List (Int × Int)) (u x:Int) (z:Int) (hz:InW z) (hv:Ents w0 w0.heap.size (.slice A0 es.length c0) es) (hu:I64 u) (hx:I64 x) (hes:∀ i,I64 (es.getD i (0,0)).1∧I64 (es.getD i (0,0)).2):Calls Tryz.prog 3 #[.agg #[vI u,vI x,.slice A0 es.length c0],vW z] w0 fun e w'=>e = .returned (.bool true)∧Below w0.heap.size w0 w':=by
 have hst:=St.start w0 (Θ:=fun _=>True) (fun _ _=>trivial)
 refine en_ Tryz.func3 hst 81 [(0,.agg #[vI u,vI x,.slice A0 es.length c0]),(1,vW z)] (fun ac H_=>?_)
 replace H_:=H_.facts
 refine fq H_ 2 [[0],[1],[2]] [_,_,_] (fun E1=>[(2,vP (pb E1 0) 0),(3,vP (pb E1 1) 0)]) (W:=[{ i:=0,T:=24,c0:=[vI u,vI x,.slice A0 es.length c0] },{ i:=1,T:=27,c0:=[vI (hi (z)),.int .u64 (lo (z))] }]) (s:=⟨bx3 0,bx3 1,mv3⟩) (k:=fun E1 ac wd H_=>?_)
 cases hok:okT u x es
 refine fq1 H_ 6 (tri 4++[[0,1,2,4],[0,1,2,3,5],r_ 7]) [_,_,_,_,_,_,_] (fun _=>[(5,.pointer none),(6,vI 10)]) (s:=⟨ld3c 0 sh24,cw3 Tryz.func9 fun wd hA=>((new_no _ es u x wd (hv.gn hA.j.st.gr) hu hx hes hok)),mv3,xt3,xt3,mv3,mv3⟩) (k:=fun E2 ac wd H_=>?_)
 refine fq1 H_ 1 [[0],[0,1]] [_,bT] (fun _=>[(17,bT)]) (s:=⟨mv3,bi3⟩) (k:=fun E3 ac wd H_=>?_)
 refine cT3 H_ ?_
 refine fq1 H_ 1 [[0],[0,1]] [_,_] (fun _=>[(4,bT)]) (s:=⟨cl3 Tryz.func10 answers26_any,mv3⟩) (k:=fun E4 ac wd H_=>?_)
 refine lvT3 Tryz.results3 H_ ?_
 exact ⟨rfl,H_.st.below⟩
 obtain ⟨hp,hn0,hl64⟩:=okT_pre hok
 refine fq H_ 6 (tri 4++[[0,1,2,4],[0,1,2,3,5],r_ 7]) [_,KE_ fun env=>vT2 (vP (ptrB (tp (env 1) 0)) 0) (vI 0),_,_,_,_,_] (fun E2=>[(5,vP (ptrB (tp (E2 1) 0)) 0),(6,vI 0)]) (F:=[(1,fun env w=>NewL w (env 1) u x es w0.heap.size)]) (s:=⟨ld3c 0 sh24,s_factT rfl rfl rfl Tryz.func9 (by kernel_rfl) rfl (fun _=>wanted_none rfl _) (fun v w=>NewL w v u x es w0.heap.size) newLF rfl rfl leT rfl (fun v w h=>h.form) (fun v w w' hk h=>h.keep hk) (fun {D env ac wd} hA=>⟨_,hA.args (vs:=[.agg #[vI u,vI x,.slice A0 es.length c0]]) rfl,lnew_yes hA.j.st.gr.size (hv.gn hA.j.st.gr) hu hx hes hok⟩),mv3,xt3,xt3,mv3,mv3⟩) (k:=fun E2 ac wd H_=>?_)
 replace H_:=Cur.exInF H_ 0 rfl;generalize ptrB (tp (E2 1) 0)=g at H_
 refine fq1 H_ 1 [[0],[0,1]] [_,bF] (fun _=>[(17,bF)]) (s:=⟨mv3,bi3 (h:=by intro env w;(first | (simp [go_sem];done) | (simp [go_sem];rfl)))⟩) (k:=fun E3 ac wd H_=>?_)
 refine cF3 H_ ?_
 obtain ⟨m,hm⟩:∃ m,smM es z es.length=m:=⟨_,rfl⟩
 obtain ⟨a1,a2⟩:=smM_spec es z es.length
 rw [hm] at a1 a2
 cases hI:smI es z m
 refine fq H_ 8 [[0],[1],[0,1,2],r_ 4,r_ 5,[0,1,2,3,5],[6],[0,1,2,3,4,6,7],r_ 9] [_,_,_,_,_,_,_,none,_] (fun E4=>[(7,vP (pb E4 6) 0),(8,bF)]) (W:=[{ i:=6,T:=34,c0:=[vI 0,.int .u64 0,vI 0,.int .u64 0,vI 0,.int .u64 0,vI 0],s:=some 7,c1:=fun _=>[vI 0,.int .u64 0,vI 0,.int .u64 0,vI 0,.int .u64 0,vI 0] }]) (s:=⟨mv3,ld3b 1 sh27,cw3 Tryz.func11 fun wd hA=>m_res_eq (mat_any wd g u x es (hA.thO rfl) z hz) (atR_out hm hI),mv3,xt3,xt3,al_ 2,sw3 2 6 sh34,mv3⟩) (k:=fun E4 ac wd H_=>?_)
 replace H_:=Cur.offM H_
 refine fq H_ 4 [[0],[1],[1,2],r_ 4,r_ 5] [_,_,_,_,_] (fun _=>[(9,vI (-1))]) (F:=[fB w0 2 z]) (s:=⟨ld3c 0 sh24,ld3b 1 sh27,cb3 Tryz.func13 fun wd hA=>Of_any wd z hz,cw3e Tryz.func12 fun env wd hA=>m_res_eq (rInT_any wd A0 c0 es u x (hv.gn hA.j.st.gr) hp hn0 hl64 _ (bA (env 2)) (bC (env 2)) z rfl (At.bigN hA 2 rfl rfl rfl)) (rIn_none hm hI),mv3⟩) (k:=fun E5 ac wd H_=>?_)
 refine fq1 H_ 1 [[0],[0,1]] [_,bT] (fun _=>[(30,bT)]) (s:=⟨mv3,bi3⟩) (k:=fun E6 ac wd H_=>?_)
 refine cT3 H_ ?_
 refine fq1 H_ 10 (tri 7++[r_ 6++[7],r_ 9,r_ 10,r_ 11]) [_,_,_,bT,bT,_,_,K_ (.agg #[vI 0,.int .u64 0,vI 0,.int .u64 0,vI 0,.int .u64 0,vI 0]),bT,bT,_] (fun _=>[(4,bT)]) (s:=⟨cl3 Tryz.func10 answers26_any,mv3,gm3,un3,pk3,mv3,ld3g 2 sh34,bd30,bi3 (h:=by intro env w;(first | (simp [go_sem];done) | (simp [go_sem];rfl))),pk3 (h:=by intro env w;(first | (simp [go_sem];done) | (simp [go_sem];rfl))),mv3⟩) (k:=fun E7 ac wd H_=>?_)
 refine lvT3 Tryz.results3 H_ ?_
 exact ⟨rfl,H_.st.below⟩
 have hm0:0 < m:=(by unfold smI at hI;simp at hI;exact hI.1);obtain ⟨a3,a4,a5⟩:=a1.resolve_left (by omega);obtain ⟨k,rfl⟩:∃ k,m=k+1:=⟨m-1,by omega⟩;obtain ⟨b0,b1,b2,b3,b4,b5,b6,b7⟩:=win_in hp hm0 a4
 refine fq H_ 8 [[0],[1],[0,1,2],r_ 4,r_ 5,[0,1,2,3,5],[6],[0,1,2,3,4,6,7],r_ 9] [_,_,_,_,_,_,_,none,_] (fun E4=>[(7,vP (pb E4 6) 0),(8,bT)]) (W:=[{ i:=6,T:=34,c0:=[vI 0,.int .u64 0,vI 0,.int .u64 0,vI 0,.int .u64 0,vI 0],s:=some 7,c1:=fun _=>[vI (hi (smS es (k+1)*1000000000000000000)),.int .u64 (lo (smS es (k+1)*1000000000000000000)),vI (hi (smE es (k+1)*1000000000000000000)),.int .u64 (lo (smE es (k+1)*1000000000000000000)),vI (hi (smB es (k+1)*1000000000000000000)),.int .u64 (lo (smB es (k+1)*1000000000000000000)),vI (smO es (k+1)-smO es ((k+1)-1))] }]) (s:=⟨mv3,ld3b 1 sh27,cw3 Tryz.func11 fun wd hA=>m_res_eq (mat_any wd g u x es (hA.thO rfl) z hz) (atR_in hm hI),mv3,xt3,xt3,al_ 2,sw3 2 6 sh34,mv3⟩) (k:=fun E4 ac wd H_=>?_)
 replace H_:=Cur.offM H_
 refine fq H_ 4 [[0],[1],[1,2],r_ 4,r_ 5] [_,_,_,_,_] (fun _=>[(9,vN k)]) (F:=[fB w0 2 z]) (s:=⟨ld3c 0 sh24,ld3b 1 sh27,cb3 Tryz.func13 fun wd hA=>Of_any wd z hz,cw3e Tryz.func12 fun env wd hA=>m_res_eq (rInT_any wd A0 c0 es u x (hv.gn hA.j.st.gr) hp hn0 hl64 _ (bA (env 2)) (bC (env 2)) z rfl (At.bigN hA 2 rfl rfl rfl)) (rIn_k hm hI),mv3⟩) (k:=fun E5 ac wd H_=>?_)
 refine fq1 H_ 1 [[0],[0,1]] [_,bF] (fun _=>[(30,bF)]) (s:=⟨mv3,bi3⟩) (k:=fun E6 ac wd H_=>?_)
 refine cF3 H_ ?_
 refine fq H_ 6 [[0],[0,1],[2],r_ 4,r_ 5,[5],r_ 7] [_,KE_ fun env=>.slice ((sA (env 1))) ((es.length-1)) ((sC (env 1))),_,KE_ fun env=>elt (.slice ((sA (env 1))) ((es.length-1)) ((sC (env 1)))) (k*7),KE_ fun env=>.agg #[.bool (decide (smS es (k+1)*1000000000000000000 < 0)),rS (smS es (k+1)*1000000000000000000) ((sA (agC (env 4) 1))) ((sC (agC (env 4) 1))),.bool (decide (smE es (k+1)*1000000000000000000 < 0)),rS (smE es (k+1)*1000000000000000000) ((sA (agC (env 4) 3))) ((sC (agC (env 4) 3))),.bool (decide (smB es (k+1)*1000000000000000000 < 0)),rS (smB es (k+1)*1000000000000000000) ((sA (agC (env 4) 5))) ((sC (agC (env 4) 5))),vI (smO es (k+1)-smO es k)],_,none] (fun E7=>[(10,vP (pb E7 5) 0)]) (W:=[{ i:=5,T:=43,c0:=[bF,.slice none 0 0,bF,.slice none 0 0,bF,.slice none 0 0,vI 0],s:=some 6,c1:=fun env=>[.bool (decide (smS es (k+1)*1000000000000000000 < 0)),rS (smS es (k+1)*1000000000000000000) ((sA (agC (env 4) 1))) ((sC (agC (env 4) 1))),.bool (decide (smE es (k+1)*1000000000000000000 < 0)),rS (smE es (k+1)*1000000000000000000) ((sA (agC (env 4) 3))) ((sC (agC (env 4) 3))),.bool (decide (smB es (k+1)*1000000000000000000 < 0)),rS (smB es (k+1)*1000000000000000000) ((sA (agC (env 4) 5))) ((sC (agC (env 4) 5))),vI (smO es (k+1)-smO es k)] }]) (F:=[(1,fun env w=>WinsB w (env 1) 0 es),(4,fun env w=>WinV w (env 4) es k)]) (s:=⟨ld3c 0 sh24,s_factO rfl rfl rfl Tryz.func14 (by kernel_rfl) rfl (fun _=>wanted_none rfl _) (fun v w=>WinsB w v 0 es) (winsF es.length) (fun v w B=>WinsB w v B es) rfl rfl (fun v w h=>h.form) (fun v w w' B hk h=>h.keepB hk) (fun {D env ac wd} hA=>⟨_,hA.args (vs:=[.agg #[vI u,vI x,.slice A0 es.length c0]]) rfl,rwindows_any wd A0 c0 es u x (hv.gn hA.j.st.gr) hp hn0 hl64⟩),mv3,s_iaX rfl rfl rfl (fun _=>wanted_none rfl _) Tryz.underlying44 sz43 k (k*7) rfl (s:=fun env=>.slice ((sA (env 1))) ((es.length-1)) ((sC (env 1)))) rfl (fun _=>rfl) ((k:Nat):Int) (fun _=>rfl) (rfl) (fun {D env ac wd} hA=>(At.wins hA 1 rfl rfl rfl).els) (by omega),s_ldW rfl rfl rfl (fun _=>wanted_none rfl _) k (by omega) (s:=fun env=>.slice ((sA (env 1))) ((es.length-1)) ((sC (env 1)))) (fun _=>rfl) (fun {D env ac wd} hA=>(At.wins hA 1 rfl rfl rfl)) rfl rfl rfl rfl,al_ 3,sw3 3 5 sh43⟩) (k:=fun E7 ac wd H_=>?_)
 refine fq H_ 35 (tri 7++[[0,1,2,3,4,7],[0,1,2,3,4,7,8],r_ 10,r_ 11,r_ 12,r_ 13,r_ 14,r_ 15,r_ 12++[15],r_ 12++[15,16],r_ 18,r_ 19,r_ 20,r_ 21,r_ 22,r_ 23,r_ 20++[23],r_ 20++[23,24],r_ 26,r_ 27,r_ 28,r_ 29,r_ 30,r_ 31,r_ 28++[31],r_ 28++[31,32],r_ 34,r_ 35,r_ 36]) (.append [_,_,_,bT,_,_,_,_,_,bT,bT,_,_,_,_,_,_,_,bT,_,_,_,_,_,_,_,bT,_,_,_,_] [_,_,_,bT,_]) (fun _=>[(4,bT)]) (F:=[fB w0 14 (smS es (k+1)*1000000000000000000),fB w0 22 (smE es (k+1)*1000000000000000000),fB w0 30 (smB es (k+1)*1000000000000000000)]) (s:=⟨cl3 Tryz.func10 answers26_any,mv3,gm3,pk3,mv3,fa3 6,ld31 2 sh3,fa3 6,ld31 3 sh3,bi3 (h:=by intro env w;(first | (simp [go_sem];done) | (simp [go_sem];rfl))),pk3 (h:=by intro env w;(first | (simp [go_sem];done) | (simp [go_sem];rfl))),mv3,fa3 0,ld3b 2 sh27,cb3 Tryz.func13 fun wd hA=>Of_any wd (smS es (k+1)*1000000000000000000) (by unfold InW;omega),fa3 0,ld3b 3 sh40,cw3e Tryz.func15 fun env wd hA=>(u_res_eq (Same_any wd (decide (smS es (k+1)*1000000000000000000 < 0)) (bA (env 14)) (bC (env 14)) (smS es (k+1)*1000000000000000000) rfl (At.bigN hA 14 rfl rfl rfl)  (decide (smS es (k+1)*1000000000000000000 < 0)) (sA (agC (E7 4) 1)) (sC (agC (E7 4) 1)) (smS es (k+1)*1000000000000000000) rfl (Facts.wv1 (hA.j.st.now).1 2 rfl) ) (congrArg Value.bool (decide_eq_true rfl))),pk3,mv3,fa3 2,ld3b 2 sh27,cb3 Tryz.func13 fun wd hA=>Of_any wd (smE es (k+1)*1000000000000000000) (by unfold InW;omega),fa3 2,ld3b 3 sh40,cw3e Tryz.func15 fun env wd hA=>(u_res_eq (Same_any wd (decide (smE es (k+1)*1000000000000000000 < 0)) (bA (env 22)) (bC (env 22)) (smE es (k+1)*1000000000000000000) rfl (At.bigN hA 22 rfl rfl rfl)  (decide (smE es (k+1)*1000000000000000000 < 0)) (sA (agC (E7 4) 3)) (sC (agC (E7 4) 3)) (smE es (k+1)*1000000000000000000) rfl (Facts.wv2 (hA.j.st.now).1 2 rfl) ) (congrArg Value.bool (decide_eq_true rfl))),pk3,mv3,fa3 4,ld3b 2 sh27,cb3 Tryz.func13 fun wd hA=>Of_any wd (smB es (k+1)*1000000000000000000) (by unfold InW;omega),fa3 4,ld3b 3 sh40,cw3e Tryz.func15 fun env wd hA=>(u_res_eq (Same_any wd (decide (smB es (k+1)*1000000000000000000 < 0)) (bA (env 30)) (bC (env 30)) (smB es (k+1)*1000000000000000000) rfl (At.bigN hA 30 rfl rfl rfl)  (decide (smB es (k+1)*1000000000000000000 < 0)) (sA (agC (E7 4) 5)) (sC (agC (E7 4) 5)) (smB es (k+1)*1000000000000000000) rfl (Facts.wv3 (hA.j.st.now).1 2 rfl) ) (congrArg Value.bool (decide_eq_true rfl))),pk3,mv3⟩) (k:=fun E8 ac wd H_=>?_)
 refine lvT3 Tryz.results3 H_ ?_
 exact ⟨rfl,H_.st.below⟩
theorem smearWindows_walk (w0:World) (v:Value) (es:List (Int × Int)) (u x:Int) (z:Int) (hz:InW z) (hv:Ents w0 w0.heap.size v es) (hu:I64 u) (hx:I64 x) (hes:∀ i,I64 (es.getD i (0,0)).1∧I64 (es.getD i (0,0)).2):Calls Tryz.prog 3 #[.agg #[vI u,vI x,v],vW z] w0 fun e w'=>e = .returned (.bool true)∧Below w0.heap.size w0 w':=by
 have hv0:=hv
 obtain ⟨A,c,rfl,_⟩:=hv
 exact smearWindows_core w0 A c es u x z hz hv0 hu hx hes
end Go.Proofs.YtimpognkffnjkaaGreat
