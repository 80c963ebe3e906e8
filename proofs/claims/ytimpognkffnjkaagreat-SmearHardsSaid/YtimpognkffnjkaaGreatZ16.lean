/- Texts GMHards of one proof, one behind the other; what nothing here names is left out. -/
import Derived.Test.YtimpognkffnjkaaGreatZ9
import Derived.Test.YtimpognkffnjkaaGreatZ8
import Derived.Test.YtimpognkffnjkaaGreatZ3
import Derived.Test.YtimpognkffnjkaaGreatZ4
import Derived.IntWalk
set_option maxRecDepth 100000
set_option maxHeartbeats 8000000
set_option linter.unusedVariables false
set_option linter.unusedSimpArgs false
namespace Go.Proofs.YtimpognkffnjkaaGreat
open Go.RowKit
attribute [local go_sem] vN bT bF rS vW vM vL vT2 vT3 vP vI execOp Act.eval evC bigF vB hi_zero lo_zero Tryz.underlying24 Tryz.underlying27 Tryz.underlying40
theorem mh_in {es:List (Int × Int)} (hp:okPre es es.length=true) (hn:0 < es.length) {y:Int} (he:mhE es y=0):InW (mhV es y):=by
  have h2:¬ y < hd0 es∧wthn (y / 1000000000000000000 / 86400) (-1099511577776) 1099511577776=true:=by
    unfold mhE at he
    split at he
    · omega
    · split at he
      · exact ⟨by assumption,by assumption⟩
      · omega
  have h3:=wth_iff.1 h2.2
  obtain ⟨d1,d2,d3⟩:=hard_bd hp hn (y:=y) (by omega)
  unfold mhV InW
  rw [if_pos he]
  omega
theorem smearHards_core (w0:World) (A0:Option Addr) (c0:Nat) (es:List (Int × Int)) (u x:Int) (z:Int) (hz:InW z) (hv:Ents w0 w0.heap.size (.slice A0 es.length c0) es) (hu:I64 u) (hx:I64 x) (hes:∀ i,I64 (es.getD i (0,0)).1∧I64 (es.getD i (0,0)).2):Calls Tryz.prog 4 #[.agg #[vI u,vI x,.slice A0 es.length c0],vW z] w0 fun e w'=>e = .returned (.bool true)∧Below w0.heap.size w0 w':=by
 have hst:=St.start w0 (Θ:=fun _=>True) (fun _ _=>trivial)
 refine en_ Tryz.func4 hst 55 [(0,.agg #[vI u,vI x,.slice A0 es.length c0]),(1,vW z)] (fun ac H_=>?_)
 replace H_:=H_.facts
 refine fq H_ 2 [[0],[1],[2]] [_,_,_] (fun E1=>[(2,vP (pb E1 0) 0),(3,vP (pb E1 1) 0)]) (W:=[{ i:=0,T:=24,c0:=[vI u,vI x,.slice A0 es.length c0] },{ i:=1,T:=27,c0:=[vI (hi (z)),.int .u64 (lo (z))] }]) (s:=⟨bx3 0,bx3 1,mv3⟩) (k:=fun E1 ac wd H_=>?_)
 cases hok:okT u x es
 refine fq1 H_ 6 (tri 4++[[0,1,2,4],[0,1,2,3,5],r_ 7]) [_,_,_,_,_,_,_] (fun _=>[(5,.pointer none),(6,vI 10)]) (s:=⟨ld3c 0 sh24,cw3 Tryz.func9 fun wd hA=>((new_no _ es u x wd (hv.gn hA.j.st.gr) hu hx hes hok)),mv3,xt3,xt3,mv3,mv3⟩) (k:=fun E2 ac wd H_=>?_)
 refine fq1 H_ 1 [[0],[0,1]] [_,bT] (fun _=>[(17,bT)]) (s:=⟨mv3,bi3⟩) (k:=fun E3 ac wd H_=>?_)
 refine cT3 H_ ?_
 refine fq1 H_ 1 [[0],[0,1]] [_,_] (fun _=>[(4,bT)]) (s:=⟨cl3 Tryz.func10 answers26_any,mv3⟩) (k:=fun E4 ac wd H_=>?_)
 refine lvT3 Tryz.results4 H_ ?_
 exact ⟨rfl,H_.st.below⟩
 obtain ⟨hp,hn0,hl64⟩:=okT_pre hok
 refine fq H_ 6 (tri 4++[[0,1,2,4],[0,1,2,3,5],r_ 7]) [_,KE_ fun env=>vT2 (vP (ptrB (tp (env 1) 0)) 0) (vI 0),_,_,_,_,_] (fun E2=>[(5,vP (ptrB (tp (E2 1) 0)) 0),(6,vI 0)]) (F:=[(1,fun env w=>NewL w (env 1) u x es w0.heap.size)]) (s:=⟨ld3c 0 sh24,s_factT rfl rfl rfl Tryz.func9 (by kernel_rfl) rfl (fun _=>wanted_none rfl _) (fun v w=>NewL w v u x es w0.heap.size) newLF rfl rfl leT rfl (fun v w h=>h.form) (fun v w w' hk h=>h.keep hk) (fun {D env ac wd} hA=>⟨_,hA.args (vs:=[.agg #[vI u,vI x,.slice A0 es.length c0]]) rfl,lnew_yes hA.j.st.gr.size (hv.gn hA.j.st.gr) hu hx hes hok⟩),mv3,xt3,xt3,mv3,mv3⟩) (k:=fun E2 ac wd H_=>?_)
 replace H_:=Cur.exInF H_ 0 rfl;generalize ptrB (tp (E2 1) 0)=g at H_
 refine fq1 H_ 1 [[0],[0,1]] [_,bF] (fun _=>[(17,bF)]) (s:=⟨mv3,bi3 (h:=by intro env w;(first | (simp [go_sem];done) | (simp [go_sem];rfl)))⟩) (k:=fun E3 ac wd H_=>?_)
 refine cF3 H_ ?_
 refine fq H_ 8 [[0],[1],[0,1,2],r_ 4,r_ 5,[0,1,2,3,5],[6],[0,1,2,3,4,6,7],r_ 9] [_,_,vT2 (vW (mhV es z)) (vI (mhE es z)),_,_,_,_,none,_] (fun E4=>[(7,vP (pb E4 6) 0),(8,vI (mhE es z))]) (W:=[{ i:=6,T:=27,c0:=[vI 0,.int .u64 0],s:=some 7,c1:=fun _=>[vI (hi (mhV es z)),.int .u64 (lo (mhV es z))] }]) (s:=⟨mv3,ld3b 1 sh27,s_leap (g:=g) (u:=u) (x:=x) (es:=es) Tryz.func16 (fun _ h=>h) (fun _ h=>h) (h:=fun D env ac wd hA hL=>⟨_,mHard_l _ g u x es hL z hz,rfl⟩),mv3,xt3,xt3,al_ 2,sw3 2 6 sh27,mv3⟩) (k:=fun E4 ac wd H_=>?_)
 replace H_:=Cur.offM H_
 refine fq H_ 9 [[0],[1],[1,2],r_ 4,r_ 5,r_ 6,[0,1,2,3,4,6],[7],r_ 6++[7,8],r_ 10] [_,_,_,KE_ fun env=>vT2 (bigF (mhV es z) (tp (env 3) 0)) (vI (mhE es z)),_,_,_,_,none,_] (fun E5=>[(9,vP (pb E5 7) 0),(10,vI (mhE es z))]) (W:=[{ i:=7,T:=40,c0:=[bF,.slice none 0 0],s:=some 8,c1:=fun env=>[.bool (decide (mhV es z < 0)),rS (mhV es z) ((bA (tp (env 3) 0))) ((bC (tp (env 3) 0)))] }]) (F:=[fB w0 2 z,(3,fun env w=>HardX w (env 3) (mhV es z) (mhE es z))]) (s:=⟨ld3c 0 sh24,ld3b 1 sh27,cb3 Tryz.func13 fun wd hA=>Of_any wd z hz,cf_ Tryz.func17 (fun v w=>HardX w v (mhV es z) (mhE es z)) (hardF (mhV es z) (mhE es z)) (h:=fun _ env _ wd hA=>⟨_,rHard_any wd A0 c0 es u x (hv.gn hA.j.st.gr) hp hn0 hl64 _ (bA (env 2)) (bC (env 2)) z rfl (At.bigN hA 2 rfl rfl rfl) hz,rfl⟩),mv3,xt3,xt3,al_ 3,sw3 3 7 sh40,mv3⟩) (k:=fun E5 ac wd H_=>?_)
 refine fq1 H_ 2 [[0],[1],[0,1,2]] [_,_,bF] (fun _=>[(34,bF)]) (s:=⟨mv3,mv3,bi3 (h:=by intro env w;(first | (simp [go_sem];done) | (simp [go_sem];rfl)))⟩) (k:=fun E6 ac wd H_=>?_)
 refine cF3 H_ ?_
 by_cases he:mhE es z=0
 have hvi:=mh_in hp hn0 he
 refine fq H_ 20 (tri 6++[[0,1,2,3,4,6],r_ 8,r_ 9,r_ 10,r_ 11,r_ 12,r_ 13,r_ 14,r_ 15,r_ 13++[15],r_ 17,r_ 18,r_ 19,r_ 20,r_ 21]) [_,_,_,bF,_,_,_,_,bF,_,_,bT,_,_,_,_,_,bT,bT,bT,_] (fun _=>[(4,bT)]) (F:=[fB w0 14 (mhV es z)]) (s:=⟨cl3 Tryz.func10 answers26_any,mv3,gm3,bi3 (h:=by intro env w;simp [go_sem,he]),gm3 (h:=by intro env w;simp [go_sem,he]),off_,off_,off_,pk3,gm3,gm3,bi3 (h:=by intro env w;simp [go_sem,he]),gm3 (h:=by intro env w;simp [go_sem,he]),ld3b 2 sh27,cb3 Tryz.func13 fun wd hA=>Of_any wd (mhV es z) hvi,ld3b 3 sh40,cw3e Tryz.func15 fun env wd hA=>(u_res_eq (Same_any wd (decide (mhV es z < 0)) (bA (env 14)) (bC (env 14)) (mhV es z) rfl (At.bigN hA 14 rfl rfl rfl)  (decide (mhV es z < 0)) (bA (tp (E5 3) 0)) (bC (tp (E5 3) 0)) (mhV es z) rfl (Facts.hard (hA.j.st.now).1 1 rfl) ) (congrArg Value.bool (decide_eq_true rfl))),pk3,pk3,pk3,mv3⟩) (k:=fun E7 ac wd H_=>?_)
 refine lvT3 Tryz.results4 H_ ?_
 exact ⟨rfl,H_.st.below⟩
 have q3:mhV es z=0:=(by unfold mhV;rw [if_neg he])
 refine fq1 H_ 20 (tri 6++[[0,1,2,3,4,6],r_ 8,r_ 9,r_ 10,r_ 11,r_ 12,r_ 13,r_ 14,r_ 15,r_ 13++[15],r_ 17,r_ 18,r_ 19,r_ 20,r_ 21]) [_,_,_,bT,_,_,K_ (.agg #[vI 0,.int .u64 0]),bT,bT,_,_,_,_,_,_,_,_,_,bT,bT,_] (fun _=>[(4,bT)]) (s:=⟨cl3 Tryz.func10 answers26_any,mv3,gm3,bi3 (h:=by intro env w;simp [go_sem,he]),gm3 (h:=by intro env w;simp [go_sem,he]),ld3b 2 sh27,bd30,bi3 (h:=by intro env w;simp [go_sem,q3,hi_zero,lo_zero]),pk3 (h:=by intro env w;simp [go_sem,q3,hi_zero,lo_zero]),gm3 (h:=by intro env w;simp [go_sem,q3,hi_zero,lo_zero]),off_,off_,off_,off_,off_,off_,off_,off_,pk3,pk3,mv3⟩) (k:=fun E7 ac wd H_=>?_)
 refine lvT3 Tryz.results4 H_ ?_
 exact ⟨rfl,H_.st.below⟩
theorem smearHards_walk (w0:World) (v:Value) (es:List (Int × Int)) (u x:Int) (z:Int) (hz:InW z) (hv:Ents w0 w0.heap.size v es) (hu:I64 u) (hx:I64 x) (hes:∀ i,I64 (es.getD i (0,0)).1∧I64 (es.getD i (0,0)).2):Calls Tryz.prog 4 #[.agg #[vI u,vI x,v],vW z] w0 fun e w'=>e = .returned (.bool true)∧Below w0.heap.size w0 w':=by
 have hv0:=hv
 obtain ⟨A,c,rfl,_⟩:=hv
 exact smearHards_core w0 A c es u x z hz hv0 hu hx hes
end Go.Proofs.YtimpognkffnjkaaGreat
