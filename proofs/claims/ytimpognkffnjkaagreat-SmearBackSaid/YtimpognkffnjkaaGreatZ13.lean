/- Texts GMBack of one proof, one behind the other; what nothing here names is left out. -/
import Derived.Test.YtimpognkffnjkaaGreatZ8
import Derived.Test.YtimpognkffnjkaaGreatZ3
import Derived.Test.YtimpognkffnjkaaGreatZ4
import Derived.IntWalk
set_option maxRecDepth 100000
set_option maxHeartbeats 8000000
set_option linter.unusedVariables false
set_option linter.unusedSimpArgs false
namespace Go.Proofs.YtimpognkffnjkaaGreat
open Go.RowKit
attribute [local go_sem] vN bT bF rS vW vM vL vT2 vT3 vP vI execOp Act.eval evC bigF vB hi_zero lo_zero Tryz.underlying24 Tryz.underlying27 Tryz.underlying34 Tryz.underlying40
theorem back_law {es:List (Int × Int)} (hp:okPre es es.length=true) (hn:0 < es.length) {z:Int} (h1:msE es z=0):(mhE es (msN es z)=0∨mhE es (msN es z)=2)∧(mhE es (msN es z)=0→mhV es (msN es z)=z∨(smI es z (smM es z es.length)=true∧smO es (smM es z es.length)-smO es (smM es z es.length-1)=1∧mhV es (msN es z)=z-1)):=by
  obtain ⟨g1,g2,g3,g4⟩:=msE_ok h1
  have hb:=(soft_bd hp hn g1).1
  rw [← g4] at hb
  have hF:firZ es=(smD es 0*86400+smO es 0)*1000000000000000000:=rfl
  refine ⟨?_,fun h2=>?_⟩
  · unfold mhE
    rw [if_neg (by omega)]
    split
    · exact .inl rfl
    · exact .inr rfl
  · have h3:=soft_back hp hn (z:=z) (by rw [← hF];exact g1)
    have h4:mhV es (msN es z)=hardZ es (softZ es z):=by unfold mhV;rw [if_pos h2,g4]
    rw [h4]
    rcases h3 with h3 | ⟨h3,h5,h6⟩
    · exact .inl h3
    · refine .inr ⟨h3,?_,h6⟩
      unfold smL at h5;omega
theorem smearBack_core (w0:World) (A0:Option Addr) (c0:Nat) (es:List (Int × Int)) (u x:Int) (z:Int) (hz:InW z) (hv:Ents w0 w0.heap.size (.slice A0 es.length c0) es) (hu:I64 u) (hx:I64 x) (hes:∀ i,I64 (es.getD i (0,0)).1∧I64 (es.getD i (0,0)).2):Calls Tryz.prog 5 #[.agg #[vI u,vI x,.slice A0 es.length c0],vW z] w0 fun e w'=>e = .returned (.bool true)∧Below w0.heap.size w0 w':=by
 have hst:=St.start w0 (Θ:=fun _=>True) (fun _ _=>trivial)
 refine en_ Tryz.func5 hst 79 [(0,.agg #[vI u,vI x,.slice A0 es.length c0]),(1,vW z)] (fun ac H_=>?_)
 replace H_:=H_.facts
 refine fq H_ 2 [[0],[1],[2]] [_,_,_] (fun E1=>[(2,vP (pb E1 0) 0),(3,vP (pb E1 1) 0)]) (W:=[{ i:=0,T:=24,c0:=[vI u,vI x,.slice A0 es.length c0] },{ i:=1,T:=27,c0:=[vI (hi (z)),.int .u64 (lo (z))] }]) (s:=⟨bx3 0,bx3 1,mv3⟩) (k:=fun E1 ac wd H_=>?_)
 cases hok:okT u x es
 refine fq1 H_ 6 (tri 4++[[0,1,2,4],[0,1,2,3,5],r_ 7]) [_,_,_,_,_,_,_] (fun _=>[(5,.pointer none),(6,vI 10)]) (s:=⟨ld3c 0 sh24,cw3 Tryz.func9 fun wd hA=>((new_no _ es u x wd (hv.gn hA.j.st.gr) hu hx hes hok)),mv3,xt3,xt3,mv3,mv3⟩) (k:=fun E2 ac wd H_=>?_)
 refine fq1 H_ 1 [[0],[0,1]] [_,bT] (fun _=>[(20,bT)]) (s:=⟨mv3,bi3⟩) (k:=fun E3 ac wd H_=>?_)
 refine cT3 H_ ?_
 refine fq1 H_ 1 [[0],[0,1]] [_,_] (fun _=>[(4,bT)]) (s:=⟨cl3 Tryz.func10 answers26_any,mv3⟩) (k:=fun E4 ac wd H_=>?_)
 refine lvT3 Tryz.results5 H_ ?_
 exact ⟨rfl,H_.st.below⟩
 obtain ⟨hp,hn0,_⟩:=okT_pre hok
 refine fq H_ 6 (tri 4++[[0,1,2,4],[0,1,2,3,5],r_ 7]) [_,KE_ fun env=>vT2 (vP (ptrB (tp (env 1) 0)) 0) (vI 0),_,_,_,_,_] (fun E2=>[(5,vP (ptrB (tp (E2 1) 0)) 0),(6,vI 0)]) (F:=[(1,fun env w=>NewL w (env 1) u x es w0.heap.size)]) (s:=⟨ld3c 0 sh24,s_factT rfl rfl rfl Tryz.func9 (by kernel_rfl) rfl (fun _=>wanted_none rfl _) (fun v w=>NewL w v u x es w0.heap.size) newLF rfl rfl leT rfl (fun v w h=>h.form) (fun v w w' hk h=>h.keep hk) (fun {D env ac wd} hA=>⟨_,hA.args (vs:=[.agg #[vI u,vI x,.slice A0 es.length c0]]) rfl,lnew_yes hA.j.st.gr.size (hv.gn hA.j.st.gr) hu hx hes hok⟩),mv3,xt3,xt3,mv3,mv3⟩) (k:=fun E2 ac wd H_=>?_)
 replace H_:=Cur.exInF H_ 0 rfl;generalize ptrB (tp (E2 1) 0)=g at H_
 refine fq1 H_ 1 [[0],[0,1]] [_,bF] (fun _=>[(20,bF)]) (s:=⟨mv3,bi3 (h:=by intro env w;(first | (simp [go_sem];done) | (simp [go_sem];rfl)))⟩) (k:=fun E3 ac wd H_=>?_)
 refine cF3 H_ ?_
 refine fq H_ 8 [[0],[1],[0,1,2],r_ 4,r_ 5,[0,1,2,3,5],[6],[0,1,2,3,4,6,7],r_ 9] [_,_,vT2 (vW (msN es z)) (vI (msE es z)),_,_,_,_,none,_] (fun E4=>[(7,vP (pb E4 6) 0),(8,vI (msE es z))]) (W:=[{ i:=6,T:=27,c0:=[vI 0,.int .u64 0],s:=some 7,c1:=fun _=>[vI (hi (msN es z)),.int .u64 (lo (msN es z))] }]) (s:=⟨mv3,ld3b 1 sh27,s_leap (g:=g) (u:=u) (x:=x) (es:=es) Tryz.func18 (fun _ h=>h) (fun _ h=>h) (h:=fun D env ac wd hA hL=>⟨_,mSoft_l _ g u x es hL z hz,rfl⟩),mv3,xt3,xt3,al_ 2,sw3 2 6 sh27,mv3⟩) (k:=fun E4 ac wd H_=>?_)
 refine fq H_ 8 [[0],[1],[0,1,2],r_ 4,r_ 5,[0,1,2,3,5],[6],[0,1,2,3,4,6,7],r_ 9] [_,_,vT2 (vW (mhV es (msN es z))) (vI (mhE es (msN es z))),_,_,_,_,none,_] (fun E5=>[(9,vP (pb E5 6) 0),(10,vI (mhE es (msN es z)))]) (W:=[{ i:=6,T:=27,c0:=[vI 0,.int .u64 0],s:=some 7,c1:=fun _=>[vI (hi (mhV es (msN es z))),.int .u64 (lo (mhV es (msN es z)))] }]) (s:=⟨mv3,ld3b 2 sh27,s_leap (g:=g) (u:=u) (x:=x) (es:=es) Tryz.func16 (fun _ h=>h) (fun _ h=>h) (h:=fun D env ac wd hA hL=>⟨_,mHard_l _ g u x es hL (msN es z) (msN_in hp hn0 hz),rfl⟩),mv3,xt3,xt3,al_ 3,sw3 3 6 sh27,mv3⟩) (k:=fun E5 ac wd H_=>?_)
 by_cases h1:msE es z=0
 obtain ⟨q1,q2⟩:=back_law hp hn0 h1;have g1:=(msE_ok h1).1;obtain ⟨f0,f1,f2,f3,f4⟩:=fir_in hp hn0;have hF:firZ es=(day0 es*86400+smO es 0)*1000000000000000000:=rfl
 by_cases h2:mhE es (msN es z)=0
 have q3:=q2 h2
 refine fq1 H_ 5 (tri 6) [_,bF,_,_,bF,bF] (fun _=>[(39,bF)]) (s:=⟨mv3,bi3 (h:=by intro env w;simp [go_sem,h1]),mv3,gm3,bi3 (h:=by intro env w;simp [go_sem,h2]),pk3 (h:=by intro env w;simp [go_sem,h2])⟩) (k:=fun E6 ac wd H_=>?_)
 refine cF3 H_ ?_
 obtain ⟨m,hm⟩:∃ m,smM es z es.length=m:=⟨_,rfl⟩
 rw [hm] at q3
 cases hI:smI es z m
 have hv:mhV es (msN es z)=z:=q3.resolve_right (fun h=>by rw [hI] at h;exact absurd h.1 Bool.false_ne_true)
 refine fq H_ 6 [[0],[0,1],[2],r_ 4,r_ 5,[5],r_ 7] [_,KE_ fun env=>bigF z (env 1),_,KE_ fun env=>bigF (mhV es (msN es z)) (env 3),KE_ fun env=>bigF (z-(mhV es (msN es z))) (env 4),_,none] (fun E7=>[(11,vP (pb E7 5) 0)]) (W:=[{ i:=5,T:=40,c0:=[bF,.slice none 0 0],s:=some 6,c1:=fun env=>[.bool (decide (z-(mhV es (msN es z)) < 0)),rS (z-(mhV es (msN es z))) ((bA (env 4))) ((bC (env 4)))] }]) (F:=[(1,fun env w=>BigX (some g) w (env 1) z),(3,fun env w=>BigX (some g) w (env 3) (mhV es (msN es z))),(4,fun env w=>BigX (some g) w (env 4) (z-(mhV es (msN es z))))]) (s:=⟨ld3b 1 sh27,cf_ Tryz.func13 (fun v w=>BigX (some g) w v z) (bigF z) (h:=fun _ env _ wd hA=>⟨_,toG (hA.j.st.exb g rfl).1 (Of_any wd z hz),rfl⟩),ld3b 3 sh27,cf_ Tryz.func13 (fun v w=>BigX (some g) w v (mhV es (msN es z))) (bigF (mhV es (msN es z))) (h:=fun _ env _ wd hA=>⟨_,toG (hA.j.st.exb g rfl).1 (Of_any wd (mhV es (msN es z)) (by rw [hv];exact hz)),rfl⟩),cf_ Tryz.func19 (fun v w=>BigX (some g) w v (z-(mhV es (msN es z)))) (bigF (z-(mhV es (msN es z)))) (h:=fun _ env _ wd hA=>⟨_,toG (hA.j.st.exb g rfl).1 (Sub_any wd (decide (z < 0)) (bA (env 1)) (bC (env 1)) z rfl (At.big hA 1 rfl rfl rfl) (m_sm hz) (decide (mhV es (msN es z) < 0)) (bA (env 3)) (bC (env 3)) (mhV es (msN es z)) rfl (At.big hA 3 rfl rfl rfl) (m_sm (by rw [hv];exact hz))),rfl⟩),al_ 4,sw3 4 5 sh40⟩) (k:=fun E7 ac wd H_=>?_)
 refine fq H_ 8 [[0],[1],[0,1,2],r_ 4,r_ 5,[0,1,2,3,5],[6],[0,1,2,3,4,6,7],r_ 9] [_,_,_,_,_,_,_,none,_] (fun E8=>[(12,vP (pb E8 6) 0),(13,bF)]) (W:=[{ i:=6,T:=34,c0:=[vI 0,.int .u64 0,vI 0,.int .u64 0,vI 0,.int .u64 0,vI 0],s:=some 7,c1:=fun _=>[vI 0,.int .u64 0,vI 0,.int .u64 0,vI 0,.int .u64 0,vI 0] }]) (s:=⟨mv3,ld3b 1 sh27,cw3 Tryz.func11 fun wd hA=>m_res_eq (mat_any wd g u x es (hA.thO rfl) z hz) (atR_out hm hI),mv3,xt3,xt3,al_ 5,sw3 5 6 sh34,mv3⟩) (k:=fun E8 ac wd H_=>?_)
 refine fq H_ 19 [[0],[0,1],[0,1,2],[0,1,3],r_ 5,r_ 6,r_ 7,r_ 8,r_ 9,r_ 10,r_ 11,r_ 12,r_ 13,r_ 14,r_ 13++[14],r_ 16,r_ 17,r_ 18,r_ 19,r_ 20] [_,_,_,KE_ fun env=>bigF 0 (env 3),_,_,_,_,_,_,_,_,_,_,_,_,_,bT,bT,_] (fun _=>[(4,bT)]) (F:=[(3,fun env w=>BigX (some g) w (env 3) 0)]) (s:=⟨cl3 Tryz.func10 answers26_any,mv3,ld3b 4 sh40,cf_ Tryz.func20 (fun v w=>BigX (some g) w v 0) (bigF 0) (h:=fun _ env _ wd hA=>⟨_,toG (hA.j.st.exb g rfl).1 (Int_any wd 0 (by omega) (by omega)),rfl⟩),cw3e Tryz.func15 fun env wd hA=>(u_res_eq (Same_any wd (decide (z-(mhV es (msN es z)) < 0)) (bA (E7 4)) (bC (E7 4)) (z-(mhV es (msN es z))) rfl (Facts.big (hA.j.st.now).1 2 rfl)  (decide (0 < 0)) (bA (env 3)) (bC (env 3)) 0 rfl (At.big hA 3 rfl rfl rfl) ) (congrArg Value.bool (decide_eq_true (by omega)))),gm3,off_,off_,off_,off_,off_,off_,off_,off_,off_,off_,off_,pk3,pk3,mv3⟩) (k:=fun E9 ac wd H_=>?_)
 refine lvT3 Tryz.results5 H_ ?_
 exact ⟨rfl,H_.st.below⟩
 by_cases hv:mhV es (msN es z)=z
 refine fq H_ 6 [[0],[0,1],[2],r_ 4,r_ 5,[5],r_ 7] [_,KE_ fun env=>bigF z (env 1),_,KE_ fun env=>bigF (mhV es (msN es z)) (env 3),KE_ fun env=>bigF (z-(mhV es (msN es z))) (env 4),_,none] (fun E7=>[(11,vP (pb E7 5) 0)]) (W:=[{ i:=5,T:=40,c0:=[bF,.slice none 0 0],s:=some 6,c1:=fun env=>[.bool (decide (z-(mhV es (msN es z)) < 0)),rS (z-(mhV es (msN es z))) ((bA (env 4))) ((bC (env 4)))] }]) (F:=[(1,fun env w=>BigX (some g) w (env 1) z),(3,fun env w=>BigX (some g) w (env 3) (mhV es (msN es z))),(4,fun env w=>BigX (some g) w (env 4) (z-(mhV es (msN es z))))]) (s:=⟨ld3b 1 sh27,cf_ Tryz.func13 (fun v w=>BigX (some g) w v z) (bigF z) (h:=fun _ env _ wd hA=>⟨_,toG (hA.j.st.exb g rfl).1 (Of_any wd z hz),rfl⟩),ld3b 3 sh27,cf_ Tryz.func13 (fun v w=>BigX (some g) w v (mhV es (msN es z))) (bigF (mhV es (msN es z))) (h:=fun _ env _ wd hA=>⟨_,toG (hA.j.st.exb g rfl).1 (Of_any wd (mhV es (msN es z)) (by rw [hv];exact hz)),rfl⟩),cf_ Tryz.func19 (fun v w=>BigX (some g) w v (z-(mhV es (msN es z)))) (bigF (z-(mhV es (msN es z)))) (h:=fun _ env _ wd hA=>⟨_,toG (hA.j.st.exb g rfl).1 (Sub_any wd (decide (z < 0)) (bA (env 1)) (bC (env 1)) z rfl (At.big hA 1 rfl rfl rfl) (m_sm hz) (decide (mhV es (msN es z) < 0)) (bA (env 3)) (bC (env 3)) (mhV es (msN es z)) rfl (At.big hA 3 rfl rfl rfl) (m_sm (by rw [hv];exact hz))),rfl⟩),al_ 4,sw3 4 5 sh40⟩) (k:=fun E7 ac wd H_=>?_)
 refine fq H_ 8 [[0],[1],[0,1,2],r_ 4,r_ 5,[0,1,2,3,5],[6],[0,1,2,3,4,6,7],r_ 9] [_,_,_,_,_,_,_,none,_] (fun E8=>[(12,vP (pb E8 6) 0),(13,bT)]) (W:=[{ i:=6,T:=34,c0:=[vI 0,.int .u64 0,vI 0,.int .u64 0,vI 0,.int .u64 0,vI 0],s:=some 7,c1:=fun _=>[vI (hi (smS es m*1000000000000000000)),.int .u64 (lo (smS es m*1000000000000000000)),vI (hi (smE es m*1000000000000000000)),.int .u64 (lo (smE es m*1000000000000000000)),vI (hi (smB es m*1000000000000000000)),.int .u64 (lo (smB es m*1000000000000000000)),vI (smO es m-smO es (m-1))] }]) (s:=⟨mv3,ld3b 1 sh27,cw3 Tryz.func11 fun wd hA=>m_res_eq (mat_any wd g u x es (hA.thO rfl) z hz) (atR_in hm hI),mv3,xt3,xt3,al_ 5,sw3 5 6 sh34,mv3⟩) (k:=fun E8 ac wd H_=>?_)
 refine fq H_ 19 [[0],[0,1],[0,1,2],[0,1,3],r_ 5,r_ 6,r_ 7,r_ 8,r_ 9,r_ 10,r_ 11,r_ 12,r_ 13,r_ 14,r_ 13++[14],r_ 16,r_ 17,r_ 18,r_ 19,r_ 20] [_,_,_,KE_ fun env=>bigF 0 (env 3),_,_,_,_,_,_,_,_,_,_,_,_,_,bT,bT,_] (fun _=>[(4,bT)]) (F:=[(3,fun env w=>BigX (some g) w (env 3) 0)]) (s:=⟨cl3 Tryz.func10 answers26_any,mv3,ld3b 4 sh40,cf_ Tryz.func20 (fun v w=>BigX (some g) w v 0) (bigF 0) (h:=fun _ env _ wd hA=>⟨_,toG (hA.j.st.exb g rfl).1 (Int_any wd 0 (by omega) (by omega)),rfl⟩),cw3e Tryz.func15 fun env wd hA=>(u_res_eq (Same_any wd (decide (z-(mhV es (msN es z)) < 0)) (bA (E7 4)) (bC (E7 4)) (z-(mhV es (msN es z))) rfl (Facts.big (hA.j.st.now).1 2 rfl)  (decide (0 < 0)) (bA (env 3)) (bC (env 3)) 0 rfl (At.big hA 3 rfl rfl rfl) ) (congrArg Value.bool (decide_eq_true (by omega)))),gm3,off_,off_,off_,off_,off_,off_,off_,off_,off_,off_,off_,pk3,pk3,mv3⟩) (k:=fun E9 ac wd H_=>?_)
 refine lvT3 Tryz.results5 H_ ?_
 exact ⟨rfl,H_.st.below⟩
 obtain ⟨_,hs1,hv2⟩:=q3.resolve_left hv
 refine fq H_ 6 [[0],[0,1],[2],r_ 4,r_ 5,[5],r_ 7] [_,KE_ fun env=>bigF z (env 1),_,KE_ fun env=>bigF (mhV es (msN es z)) (env 3),KE_ fun env=>bigF (z-(mhV es (msN es z))) (env 4),_,none] (fun E7=>[(11,vP (pb E7 5) 0)]) (W:=[{ i:=5,T:=40,c0:=[bF,.slice none 0 0],s:=some 6,c1:=fun env=>[.bool (decide (z-(mhV es (msN es z)) < 0)),rS (z-(mhV es (msN es z))) ((bA (env 4))) ((bC (env 4)))] }]) (F:=[(1,fun env w=>BigX (some g) w (env 1) z),(3,fun env w=>BigX (some g) w (env 3) (mhV es (msN es z))),(4,fun env w=>BigX (some g) w (env 4) (z-(mhV es (msN es z))))]) (s:=⟨ld3b 1 sh27,cf_ Tryz.func13 (fun v w=>BigX (some g) w v z) (bigF z) (h:=fun _ env _ wd hA=>⟨_,toG (hA.j.st.exb g rfl).1 (Of_any wd z hz),rfl⟩),ld3b 3 sh27,cf_ Tryz.func13 (fun v w=>BigX (some g) w v (mhV es (msN es z))) (bigF (mhV es (msN es z))) (h:=fun _ env _ wd hA=>⟨_,toG (hA.j.st.exb g rfl).1 (Of_any wd (mhV es (msN es z)) (by rw [hv2];unfold InW at *;omega)),rfl⟩),cf_ Tryz.func19 (fun v w=>BigX (some g) w v (z-(mhV es (msN es z)))) (bigF (z-(mhV es (msN es z)))) (h:=fun _ env _ wd hA=>⟨_,toG (hA.j.st.exb g rfl).1 (Sub_any wd (decide (z < 0)) (bA (env 1)) (bC (env 1)) z rfl (At.big hA 1 rfl rfl rfl) (m_sm hz) (decide (mhV es (msN es z) < 0)) (bA (env 3)) (bC (env 3)) (mhV es (msN es z)) rfl (At.big hA 3 rfl rfl rfl) (m_sm (by rw [hv2];unfold InW at *;omega))),rfl⟩),al_ 4,sw3 4 5 sh40⟩) (k:=fun E7 ac wd H_=>?_)
 refine fq H_ 8 [[0],[1],[0,1,2],r_ 4,r_ 5,[0,1,2,3,5],[6],[0,1,2,3,4,6,7],r_ 9] [_,_,_,_,_,_,_,none,_] (fun E8=>[(12,vP (pb E8 6) 0),(13,bT)]) (W:=[{ i:=6,T:=34,c0:=[vI 0,.int .u64 0,vI 0,.int .u64 0,vI 0,.int .u64 0,vI 0],s:=some 7,c1:=fun _=>[vI (hi (smS es m*1000000000000000000)),.int .u64 (lo (smS es m*1000000000000000000)),vI (hi (smE es m*1000000000000000000)),.int .u64 (lo (smE es m*1000000000000000000)),vI (hi (smB es m*1000000000000000000)),.int .u64 (lo (smB es m*1000000000000000000)),vI (smO es m-smO es (m-1))] }]) (s:=⟨mv3,ld3b 1 sh27,cw3 Tryz.func11 fun wd hA=>m_res_eq (mat_any wd g u x es (hA.thO rfl) z hz) (atR_in hm hI),mv3,xt3,xt3,al_ 5,sw3 5 6 sh34,mv3⟩) (k:=fun E8 ac wd H_=>?_)
 refine fq H_ 19 [[0],[0,1],[0,1,2],[0,1,3],r_ 5,r_ 6,r_ 7,r_ 8,r_ 9,r_ 10,r_ 11,r_ 12,r_ 13,r_ 14,r_ 13++[14],r_ 16,r_ 17,r_ 18,r_ 19,r_ 20] [_,_,_,KE_ fun env=>bigF 0 (env 3),_,_,_,_,_,_,bT,bT,_,_,KE_ fun env=>bigF 1 (env 14),_,bT,bT,bT,_] (fun _=>[(4,bT)]) (F:=[(3,fun env w=>BigX (some g) w (env 3) 0),(14,fun env w=>BigX (some g) w (env 14) 1)]) (s:=⟨cl3 Tryz.func10 answers26_any,mv3,ld3b 4 sh40,cf_ Tryz.func20 (fun v w=>BigX (some g) w v 0) (bigF 0) (h:=fun _ env _ wd hA=>⟨_,toG (hA.j.st.exb g rfl).1 (Int_any wd 0 (by omega) (by omega)),rfl⟩),cw3e Tryz.func15 fun env wd hA=>(u_res_eq (Same_any wd (decide (z-(mhV es (msN es z)) < 0)) (bA (E7 4)) (bC (E7 4)) (z-(mhV es (msN es z))) rfl (Facts.big (hA.j.st.now).1 2 rfl)  (decide (0 < 0)) (bA (env 3)) (bC (env 3)) 0 rfl (At.big hA 3 rfl rfl rfl) ) (congrArg Value.bool (decide_eq_false (by omega)))),gm3,gm3,gm3,fa3 6,ld31 5 sh3,bi3 (h:=by intro env w;(first | (simp [go_sem];done) | (simp [go_sem];exact hs1))),pk3 (h:=by intro env w;(first | (simp [go_sem];done) | (simp [go_sem];exact hs1))),gm3 (h:=by intro env w;(first | (simp [go_sem];done) | (simp [go_sem];exact hs1))),ld3b 4 sh40,cf_ Tryz.func20 (fun v w=>BigX (some g) w v 1) (bigF 1) (h:=fun _ env _ wd hA=>⟨_,toG (hA.j.st.exb g rfl).1 (Int_any wd 1 (by omega) (by omega)),rfl⟩),cw3e Tryz.func15 fun env wd hA=>(u_res_eq (Same_any wd (decide (z-(mhV es (msN es z)) < 0)) (bA (E7 4)) (bC (E7 4)) (z-(mhV es (msN es z))) rfl (Facts.big (hA.j.st.now).1 2 rfl)  (decide (1 < 0)) (bA (env 14)) (bC (env 14)) 1 rfl (At.big hA 14 rfl rfl rfl) ) (congrArg Value.bool (decide_eq_true (by omega)))),pk3,pk3,pk3,mv3⟩) (k:=fun E9 ac wd H_=>?_)
 refine lvT3 Tryz.results5 H_ ?_
 exact ⟨rfl,H_.st.below⟩
 have h3:=q1.resolve_left h2
 refine fq1 H_ 5 (tri 6) [_,bF,_,_,bT,bT] (fun _=>[(39,bT)]) (s:=⟨mv3,bi3 (h:=by intro env w;simp [go_sem,h1]),mv3,gm3,bi3 (h:=by intro env w;simp [go_sem,h2]),pk3 (h:=by intro env w;simp [go_sem,h2])⟩) (k:=fun E6 ac wd H_=>?_)
 refine cT3 H_ ?_
 refine fq1 H_ 9 (tri 10) [_,_,_,bF,_,_,bT,bT,bT,_] (fun _=>[(4,bT)]) (s:=⟨cl3 Tryz.func10 answers26_any,mv3,gm3,bi3 (h:=by intro env w;simp [go_sem,h1]),gm3 (h:=by intro env w;simp [go_sem,h1]),gm3,bi3 (h:=by intro env w;simp [go_sem,h3]),pk3 (h:=by intro env w;simp [go_sem,h3]),pk3 (h:=by intro env w;simp [go_sem,h3]),mv3⟩) (k:=fun E7 ac wd H_=>?_)
 refine lvT3 Tryz.results5 H_ ?_
 exact ⟨rfl,H_.st.below⟩
 refine fq1 H_ 5 (tri 6) [_,bT,_,_,_,bT] (fun _=>[(39,bT)]) (s:=⟨mv3,bi3 (h:=by intro env w;simp [go_sem,h1]),mv3,off_,off_,pk3⟩) (k:=fun E6 ac wd H_=>?_)
 refine cT3 H_ ?_
 refine fq1 H_ 9 (tri 10) [_,_,_,bT,_,_,_,bT,bT,_] (fun _=>[(4,bT)]) (s:=⟨cl3 Tryz.func10 answers26_any,mv3,gm3,bi3 (h:=by intro env w;simp [go_sem,h1]),gm3 (h:=by intro env w;simp [go_sem,h1]),off_,off_,pk3,pk3,mv3⟩) (k:=fun E7 ac wd H_=>?_)
 refine lvT3 Tryz.results5 H_ ?_
 exact ⟨rfl,H_.st.below⟩
theorem smearBack_walk (w0:World) (v:Value) (es:List (Int × Int)) (u x:Int) (z:Int) (hz:InW z) (hv:Ents w0 w0.heap.size v es) (hu:I64 u) (hx:I64 x) (hes:∀ i,I64 (es.getD i (0,0)).1∧I64 (es.getD i (0,0)).2):Calls Tryz.prog 5 #[.agg #[vI u,vI x,v],vW z] w0 fun e w'=>e = .returned (.bool true)∧Below w0.heap.size w0 w':=by
 have hv0:=hv
 obtain ⟨A,c,rfl,_⟩:=hv
 exact smearBack_core w0 A c es u x z hz hv0 hu hx hes
end Go.Proofs.YtimpognkffnjkaaGreat
