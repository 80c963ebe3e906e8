/- Texts GSAdds of one proof, one behind the other; what nothing here names is left out. -/
import Derived.Test.YtcdchnlefmnbjaaGreatV11
import Derived.Test.YtcdchnlefmnbjaaGreatV3
import Derived.Test.YtcdchnlefmnbjaaGreatV4
import Derived.IntWalk
set_option maxRecDepth 100000
set_option maxHeartbeats 8000000
set_option linter.unusedVariables false
set_option linter.unusedSimpArgs false
namespace Go.Proofs.YtcdchnlefmnbjaaGreat
open Go.RowKit
attribute [local go_sem] vN bT bF rS vW vM vL vT2 vT3 vP vI execOp Act.eval evC bigF vB hi_zero lo_zero Tryz.underlying24 Tryz.underlying26 Tryz.underlying29
theorem spanAdds_core (w0:World) (A0:Option Addr) (c0:Nat) (es:List (Int × Int)) (u x:Int) (d s a:Int) (hx0:-9223372036854775808≤d) (hx1:d < 9223372036854775808) (hx2:-9223372036854775808≤s) (hx3:s < 9223372036854775808) (hx4:-9223372036854775808≤a) (hx5:a < 9223372036854775808) (k:Int) (hk:InW k) (lax:Bool) (hv:Ents w0 w0.heap.size (.slice A0 es.length c0) es) (hu:I64 u) (hx:I64 x) (hes:∀ i,I64 (es.getD i (0,0)).1∧I64 (es.getD i (0,0)).2):Calls Tryz.prog 3 #[.agg #[vI u,vI x,.slice A0 es.length c0],vL d s a,vW k,.bool (lax)] w0 fun e w'=>e = .returned (.bool true)∧Below w0.heap.size w0 w':=by
 have hst:=St.start w0 (Θ:=fun _=>True) (fun _ _=>trivial)
 refine en_ Tryz.func3 hst 51 [(0,.agg #[vI u,vI x,.slice A0 es.length c0]),(1,vL d s a),(2,vW k),(3,.bool (lax))] (fun ac H_=>?_)
 replace H_:=H_.facts
 refine fq H_ 3 [[0],[1],[2],[3]] [_,_,_,_] (fun E1=>[(4,vP (pb E1 0) 0),(5,vP (pb E1 1) 0),(6,vP (pb E1 2) 0)]) (W:=[{ i:=0,T:=24,c0:=[vI u,vI x,.slice A0 es.length c0] },{ i:=1,T:=26,c0:=[vI d,vI s,vI a] },{ i:=2,T:=29,c0:=[vI (hi (k)),.int .u64 (lo (k))] }]) (s:=⟨bx3 0,bx3 1,bx3 2,mv3⟩) (k:=fun E1 ac wd H_=>?_)
 cases hok:okT u x es
 refine fq1 H_ 6 (tri 4++[[0,1,2,4],[0,1,2,3,5],r_ 7]) [_,_,_,_,_,_,_] (fun _=>[(9,.pointer none),(10,vI 10)]) (s:=⟨ld3c 0 sh24,cw3 Tryz.func5 fun wd hA=>cnew_no (hv.gn hA.j.st.gr) hu hx hes hok,mv3,xt3,xt3,mv3,mv3⟩) (k:=fun E2 ac wd H_=>?_)
 refine fq1 H_ 1 [[0],[0,1]] [_,bT] (fun _=>[(21,bT)]) (s:=⟨mv3,bi3⟩) (k:=fun E3 ac wd H_=>?_)
 refine cT3 H_ ?_
 refine fq1 H_ 1 [[0],[0,1]] [_,_] (fun _=>[(8,bT)]) (s:=⟨cl3 Tryz.func6 answers27_any,mv3⟩) (k:=fun E4 ac wd H_=>?_)
 refine lvT3 Tryz.results3 H_ ?_
 exact ⟨rfl,H_.st.below⟩
 obtain ⟨hp,hn0,_⟩:=okT_pre hok
 refine fq H_ 6 (tri 4++[[0,1,2,4],[0,1,2,3,5],r_ 7]) [_,KE_ fun env=>vT2 (vP (ptrB (tp (env 1) 0)) 0) (vI 0),_,_,_,_,_] (fun E2=>[(9,vP (ptrB (tp (E2 1) 0)) 0),(10,vI 0)]) (F:=[(1,fun env w=>NewCx w (env 1) u x es w0.heap.size)]) (s:=⟨ld3c 0 sh24,s_factT rfl rfl rfl Tryz.func5 (by kernel_rfl) rfl (fun _=>wanted_none rfl _) (fun v w=>NewCx w v u x es w0.heap.size) newLF rfl rfl cT rfl (fun v w h=>h.form) (fun v w w' hk h=>h.keep hk) (fun {D env ac wd} hA=>⟨_,hA.args (vs:=[.agg #[vI u,vI x,.slice A0 es.length c0]]) rfl,cnew_yes hA.j.st.gr.size (hv.gn hA.j.st.gr) hu hx hes hok⟩),mv3,xt3,xt3,mv3,mv3⟩) (k:=fun E2 ac wd H_=>?_)
 replace H_:=Cur.exInC H_ 0 rfl;obtain ⟨g,b,H_⟩:=H_;generalize ptrB (tp (E2 1) 0)=c at H_
 refine fq1 H_ 1 [[0],[0,1]] [_,bF] (fun _=>[(21,bF)]) (s:=⟨mv3,bi3 (h:=by intro env w;(first | (simp [go_sem];done) | (simp [go_sem];rfl)))⟩) (k:=fun E3 ac wd H_=>?_)
 refine cF3 H_ ?_
 refine fq H_ 10 [[0],[1],[2],[3],r_ 5,r_ 6,r_ 7,r_ 6++[7],[8],r_ 7++[8,9],r_ 11] [_,_,_,_,vT2 (vL ((spA es x lax d s a k).2.1) ((spA es x lax d s a k).2.2.1) ((spA es x lax d s a k).2.2.2)) (vI ((spA es x lax d s a k).1)),_,_,_,_,none,_] (fun E4=>[(11,vP (pb E4 8) 0),(12,vI ((spA es x lax d s a k).1))]) (W:=[{ i:=8,T:=26,c0:=[vI 0,vI 0,vI 0],s:=some 9,c1:=fun _=>[vI ((spA es x lax d s a k).2.1),vI ((spA es x lax d s a k).2.2.1),vI ((spA es x lax d s a k).2.2.2)] }]) (s:=⟨mv3,ld3c 1 sh26,ld3b 2 sh29,mv3,s_clk (c:=c) (g:=g) (b:=b) (u:=u) (x:=x) (es:=es) Tryz.func7 (fun _ h=>h) (fun _ h=>h) (h:=fun D env ac wd hA hC=>⟨_,spAdd_c _ c g b u x es hC lax d s a hx0 hx1 k hk,rfl⟩),mv3,xt3,xt3,al_ 3,sw3 3 8 sh26,mv3⟩) (k:=fun E4 ac wd H_=>?_)
 replace H_:=Cur.off H_
 refine fq H_ 11 [[0],[1],[2],[2,3],[4],r_ 6,r_ 7,r_ 8,r_ 7++[8],[9],r_ 8++[9,10],r_ 12] [_,_,_,_,_,_,_,_,_,_,none,_] (fun E5=>[(13,vP (pb E5 9) 0),(14,vI ((spA es x lax d s a k).1))]) (W:=[{ i:=9,T:=26,c0:=[vI 0,vI 0,vI 0],s:=some 10,c1:=fun _=>[vI ((spA es x lax d s a k).2.1),vI ((spA es x lax d s a k).2.2.1),vI ((spA es x lax d s a k).2.2.2)] }]) (F:=[fB w0 3 k]) (s:=⟨ld3c 0 sh24,ld3c 1 sh26,ld3b 2 sh29,cb3 Tryz.func9 fun wd hA=>Of_any wd k hk,mv3,cw3e Tryz.func8 fun env wd hA=>(rAdd26_any wd A0 c0 es u x (hv.gn hA.j.st.gr) hp hn0 d s a hx0 hx1 hx2 hx3 hx4 hx5 _ (bA (env 3)) (bC (env 3)) k rfl (At.bigN hA 3 rfl rfl rfl) hk lax),mv3,xt3,xt3,al_ 4,sw3 4 9 sh26,mv3⟩) (k:=fun E5 ac wd H_=>?_)
 refine fq1 H_ 11 [[0],[0,1],[0,1,2],[0,1,3],r_ 5,r_ 6,r_ 7,r_ 8,r_ 7++[8],r_ 10,r_ 11,r_ 12] [_,_,_,_,bT,bT,_,_,_,bT,bT,_] (fun _=>[(8,bT)]) (s:=⟨cl3 Tryz.func6 answers27_any,mv3,ld3c 3 sh26,ld3c 4 sh26,bi3 (h:=by intro env w;(first | (simp [go_sem];done) | (simp [go_sem];rfl))),pk3 (h:=by intro env w;(first | (simp [go_sem];done) | (simp [go_sem];rfl))),mv3,gm3,gm3,bi3 (h:=by intro env w;(first | (simp [go_sem];done) | (simp [go_sem];rfl))),pk3 (h:=by intro env w;(first | (simp [go_sem];done) | (simp [go_sem];rfl))),mv3⟩) (k:=fun E6 ac wd H_=>?_)
 refine lvT3 Tryz.results3 H_ ?_
 exact ⟨rfl,H_.st.below⟩
theorem spanAdds_walk (w0:World) (v:Value) (es:List (Int × Int)) (u x:Int) (d s a:Int) (hx0:-9223372036854775808≤d) (hx1:d < 9223372036854775808) (hx2:-9223372036854775808≤s) (hx3:s < 9223372036854775808) (hx4:-9223372036854775808≤a) (hx5:a < 9223372036854775808) (k:Int) (hk:InW k) (lax:Bool) (hv:Ents w0 w0.heap.size v es) (hu:I64 u) (hx:I64 x) (hes:∀ i,I64 (es.getD i (0,0)).1∧I64 (es.getD i (0,0)).2):Calls Tryz.prog 3 #[.agg #[vI u,vI x,v],vL d s a,vW k,.bool (lax)] w0 fun e w'=>e = .returned (.bool true)∧Below w0.heap.size w0 w':=by
 have hv0:=hv
 obtain ⟨A,c,rfl,_⟩:=hv
 exact spanAdds_core w0 A c es u x d s a hx0 hx1 hx2 hx3 hx4 hx5 k hk lax hv0 hu hx hes
end Go.Proofs.YtcdchnlefmnbjaaGreat
