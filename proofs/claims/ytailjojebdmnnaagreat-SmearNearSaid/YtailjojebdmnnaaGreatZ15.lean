/- Texts GMNear of one proof, one behind the other; what nothing here names is left out. -/
import Derived.Test.YtailjojebdmnnaaGreatZ13
import Derived.Test.YtailjojebdmnnaaGreatZ12
import Derived.Test.YtailjojebdmnnaaGreatZ10
import Derived.Test.YtailjojebdmnnaaGreatZ3
import Derived.Test.YtailjojebdmnnaaGreatZ4
import Derived.IntWalk
set_option maxRecDepth 100000
set_option maxHeartbeats 8000000
set_option linter.unusedVariables false
set_option linter.unusedSimpArgs false
namespace Go.Proofs.YtailjojebdmnnaaGreat
open Go.RowKit
attribute [local go_sem] vN bT bF rS vW vM vL vT2 vT3 vP vI execOp Act.eval evC bigF vB hi_zero lo_zero Tryz.underlying24 Tryz.underlying27 Tryz.underlying39 Tryz.underlying47 Tryz.underlying52
def absI (z:Int):Int:=if z < 0 then -z else z
theorem digs_abs (z:Int):digs (absI z)=digs z:=by
  unfold absI
  split
  · exact digs_neg z
  · rfl
theorem absI_le {z b:Int} (h1:z≤b) (h2:-b≤z):absI z≤b:=by unfold absI;split <;> omega
theorem near_cmp (w0:World) (A0:Option Addr) (c0:Nat) (z:Int) (hr:Row w0 (.slice A0 (digs z).length c0) (digs z)) (q:Bool) (B0:Option Addr) (k0:Nat) (y:Int) (hq:q=decide (y < 0)) (hr2:Row w0 (.slice B0 (digs y).length k0) (digs y)):Calls Tryz.prog 14 #[.agg #[.bool false,.slice A0 (digs z).length c0],.agg #[.bool q,.slice B0 (digs y).length k0]] w0 fun e w'=>e = .returned (vI (cmpZ (absI z) y))∧Below w0.heap.size w0 w':=by
 have h:=Cmp_any w0 false A0 c0 (absI z) (decide_eq_false (by unfold absI;split <;> omega)).symm (by rw [digs_abs];exact hr) q B0 k0 y hq hr2
 rw [digs_abs] at h
 exact h
theorem near_q {p:Int × Int × Int × Int} {e d s a:Int} (h:p=(e,d,s,a)):vT2 (vL p.2.1 p.2.2.1 p.2.2.2) (vI (p.1))=vT2 (vL d s a) (vI e):=by rw [h]
theorem near_uc {d s a v e:Int} (h:ucE d s a=e∧ucV d s a=v):vT2 (vW (ucV d s a)) (vI (ucE d s a))=vT2 (vW v) (vI e):=by rw [h.1,h.2]
theorem near_d0 (es:List (Int × Int)):vI (dayOf ((es.getD 0 (0,0)).1,(es.getD 0 (0,0)).2))=vI (day0 es):=rfl
theorem smearNear_core (w0:World) (A0:Option Addr) (c0:Nat) (es:List (Int × Int)) (u x:Int) (z:Int) (hz:InW z) (hv:Ents w0 w0.heap.size (.slice A0 es.length c0) es) (hu:I64 u) (hx:I64 x) (hes:∀ i,I64 (es.getD i (0,0)).1∧I64 (es.getD i (0,0)).2):Calls Tryz.prog 3 #[.agg #[vI u,vI x,.slice A0 es.length c0],vW z] w0 fun e w'=>e = .returned (.bool true)∧Below w0.heap.size w0 w':=by
 have hst:=St.start w0 (Θ:=fun _=>True) (fun _ _=>trivial)
 refine en_ Tryz.func3 hst 101 [(0,.agg #[vI u,vI x,.slice A0 es.length c0]),(1,vW z)] (fun ac H_=>?_)
 replace H_:=H_.facts
 refine fq H_ 2 [[0],[1],[2]] [_,_,_] (fun E1=>[(2,vP (pb E1 0) 0),(3,vP (pb E1 1) 0)]) (W:=[{ i:=0,T:=24,c0:=[vI u,vI x,.slice A0 es.length c0] },{ i:=1,T:=27,c0:=[vI (hi (z)),.int .u64 (lo (z))] }]) (s:=⟨bx3 0,bx3 1,mv3⟩) (k:=fun E1 ac wd H_=>?_)
 cases hok:okT u x es
 refine fq1 H_ 6 (tri 4++[[0,1,2,4],[0,1,2,3,5],r_ 7]) [_,_,_,_,_,_,_] (fun _=>[(5,.pointer none),(6,vI 10)]) (s:=⟨ld3c 0 sh24,cw3 Tryz.func4 fun wd hA=>((new_no _ es u x wd (hv.gn hA.j.st.gr) hu hx hes hok)),mv3,xt3,xt3,mv3,mv3⟩) (k:=fun E2 ac wd H_=>?_)
 refine fq1 H_ 6 (tri 4++[[0,1,2,4],[0,1,2,3,5],r_ 7]) [_,_,_,_,_,_,_] (fun _=>[(7,.pointer none),(8,vI 10)]) (s:=⟨ld3c 0 sh24,cw3 Tryz.func5 fun wd hA=>cnew_no (hv.gn hA.j.st.gr) hu hx hes hok,mv3,xt3,xt3,mv3,mv3⟩) (k:=fun E3 ac wd H_=>?_)
 refine fq1 H_ 5 (tri 6) [_,bT,_,_,_,bT] (fun _=>[(33,bT)]) (s:=⟨mv3,bi3,mv3,off_,off_,pk3⟩) (k:=fun E4 ac wd H_=>?_)
 refine cT3 H_ ?_
 refine fq1 H_ 6 [[0],[0,1],[0,1,2],[0,1,3],r_ 5,r_ 6,r_ 7] [_,_,_,_,bT,bT,_] (fun _=>[(4,bT)]) (s:=⟨cl3 Tryz.func6 answers26_any,mv3,gm3,gm3,bi3 (h:=by intro env w;(first | (simp [go_sem];done) | (simp [go_sem];rfl))),pk3 (h:=by intro env w;(first | (simp [go_sem];done) | (simp [go_sem];rfl))),mv3⟩) (k:=fun E5 ac wd H_=>?_)
 refine lvT3 Tryz.results3 H_ ?_
 exact ⟨rfl,H_.st.below⟩
 obtain ⟨hp,hn0,hl64⟩:=okT_pre hok;have hb0:=okPre_num hp (i:=0) hn0
 refine fq H_ 6 (tri 4++[[0,1,2,4],[0,1,2,3,5],r_ 7]) [_,KE_ fun env=>vT2 (vP (ptrB (tp (env 1) 0)) 0) (vI 0),_,_,_,_,_] (fun E2=>[(5,vP (ptrB (tp (E2 1) 0)) 0),(6,vI 0)]) (F:=[(1,fun env w=>NewL w (env 1) u x es w0.heap.size)]) (s:=⟨ld3c 0 sh24,s_factT rfl rfl rfl Tryz.func4 (by kernel_rfl) rfl (fun _=>wanted_none rfl _) (fun v w=>NewL w v u x es w0.heap.size) newLF rfl rfl leT rfl (fun v w h=>h.form) (fun v w w' hk h=>h.keep hk) (fun {D env ac wd} hA=>⟨_,hA.args (vs:=[.agg #[vI u,vI x,.slice A0 es.length c0]]) rfl,lnew_yes hA.j.st.gr.size (hv.gn hA.j.st.gr) hu hx hes hok⟩),mv3,xt3,xt3,mv3,mv3⟩) (k:=fun E2 ac wd H_=>?_)
 refine fq H_ 6 (tri 4++[[0,1,2,4],[0,1,2,3,5],r_ 7]) [_,KE_ fun env=>vT2 (vP (ptrB (tp (env 1) 0)) 0) (vI 0),_,_,_,_,_] (fun E3=>[(7,vP (ptrB (tp (E3 1) 0)) 0),(8,vI 0)]) (F:=[(1,fun env w=>NewC2 w (env 1) (ptrB (tp (E2 1) 0)) u x es w0.heap.size)]) (s:=⟨ld3c 0 sh24,s_factT rfl rfl rfl Tryz.func5 (by kernel_rfl) rfl (fun _=>wanted_none rfl _) (fun v w=>NewC2 w v (ptrB (tp (E2 1) 0)) u x es w0.heap.size) newLF rfl rfl cT rfl (fun v w h=>h.form) (fun v w w' hk h=>h.keep hk) (fun {D env ac wd} hA=>⟨_,hA.args (vs:=[.agg #[vI u,vI x,.slice A0 es.length c0]]) rfl,NewCx.two hA.j.st.gr.size (show NewL _ _ _ _ _ _ from (hA.j.st.now).1.get 0 rfl).2.1.lt (cnew_yes (Nat.le_refl _) (hv.gn hA.j.st.gr) hu hx hes hok)⟩),mv3,xt3,xt3,mv3,mv3⟩) (k:=fun E3 ac wd H_=>?_)
 obtain ⟨g,b,H2_⟩:=Cur.exIn2 H_ 0 1 rfl rfl
 replace H_:=H2_
 clear H2_
 generalize ptrB (tp (E2 1) 0)=l at H_
 generalize ptrB (tp (E3 1) 0)=c at H_
 replace H_:=Cur.turn2 H_ (gx:=l) (fun w h=>Is2.l h)
 obtain ⟨⟨e4,d,s,a⟩,hq4⟩:∃ q,lbl4 es x true z=q:=⟨_,rfl⟩
 refine fq1 H_ 5 (tri 6) [_,bF,_,_,bF,bF] (fun _=>[(33,bF)]) (s:=⟨mv3,bi3 (h:=by intro env w;(first | (simp [go_sem];done) | (simp [go_sem];rfl))),mv3,gm3,bi3 (h:=by intro env w;(first | (simp [go_sem];done) | (simp [go_sem];rfl))),pk3 (h:=by intro env w;(first | (simp [go_sem];done) | (simp [go_sem];rfl)))⟩) (k:=fun E4 ac wd H_=>?_)
 refine cF3 H_ ?_
 refine fq H_ 8 [[0],[1],[0,1,2],r_ 4,r_ 5,[0,1,2,3,5],[6],[0,1,2,3,4,6,7],r_ 9] [_,_,vT2 (vW (msN es z)) (vI (msE es z)),_,_,_,_,none,_] (fun E5=>[(9,vP (pb E5 6) 0),(10,vI (msE es z))]) (W:=[{ i:=6,T:=27,c0:=[vI 0,.int .u64 0],s:=some 7,c1:=fun _=>[vI (hi (msN es z)),.int .u64 (lo (msN es z))] }]) (s:=⟨mv3,ld3b 1 sh27,s_two (gx:=l) (B:=w0.heap.size) (l:=l) (c:=c) (g:=g) (b:=b) (u:=u) (x:=x) (es:=es) Tryz.func7 (fun _ h=>h) (fun _ h=>h) (h:=fun D env ac wd hA h2=>⟨_,LeapC.two h2 (mSoft_l _ l u x es h2.1 z hz),rfl⟩),mv3,xt3,xt3,al_ 2,sw3 2 6 sh27,mv3⟩) (k:=fun E5 ac wd H_=>?_)
 replace H_:=Cur.turn2 H_ (gx:=g) (fun w h=>Is2.g h)
 refine fq H_ 8 [[0],[1],[0,1,2],r_ 4,r_ 5,[0,1,2,3,5],[6],[0,1,2,3,4,6,7],r_ 9] [_,_,vT2 (vL d s a) (vI e4),_,_,_,_,none,_] (fun E6=>[(11,vP (pb E6 6) 0),(12,vI e4)]) (W:=[{ i:=6,T:=39,c0:=[vI 0,vI 0,vI 0],s:=some 7,c1:=fun _=>[vI d,vI s,vI a] }]) (s:=⟨mv3,ld3b 1 sh27,s_two (gx:=g) (B:=w0.heap.size) (l:=l) (c:=c) (g:=g) (b:=b) (u:=u) (x:=x) (es:=es) Tryz.func8 (fun _ h=>h) (fun _ h=>h) (h:=fun D env ac wd hA h2=>⟨_,ClkC.two h2 (ClkC.eq (cLabel_c _ c g b u x es h2.2.1 true z hz) (near_q hq4)),rfl⟩),mv3,xt3,xt3,al_ 3,sw3 3 6 sh39,mv3⟩) (k:=fun E6 ac wd H_=>?_)
 by_cases h1:msE es z=0
 by_cases h2:e4=0
 by_cases h3:d < day0 es
 refine fq1 H_ 15 (tri 9++[r_ 7++[9],r_ 7++[9,10],r_ 7++[9,10,11],r_ 7++[9,10,11,12],r_ 7++[9,10,11,12,13],r_ 15,r_ 16]) [_,bF,_,_,bF,bF,_,_,_,_,_,elt (.slice A0 es.length c0) (0*2),K_ (.agg #[vI ((es.getD 0 (0,0)).1),vI ((es.getD 0 (0,0)).2)]),_,bT,bT] (fun _=>[(67,bT)]) (s:=⟨mv3,bi3 (h:=by intro env w;simp [go_sem,h1]),mv3,gm3,bi3 (h:=by intro env w;simp [go_sem,h2]),pk3 (h:=by intro env w;simp [go_sem,h2]),mv3,fa3 0,ld31 3 sh3,fa3 2,ld31 0 sh22,ia_ Tryz.underlying22 sz44 0 (0*2) 0 (fun _ env _ wd hA=>(hv.gn hA.j.st.gr).els) (rfl) (hn0) rfl,le_ (0*2) (fun _ env _ wd hA=>(hv.gn hA.j.st.gr).els) (by omega) (leGb sh44 (by exact enC_0 es 0) (by exact enC_1 es 0)),cl3 Tryz.func9 ((Ret.eq (rday_any (es.getD 0 (0,0)).1 (es.getD 0 (0,0)).2 hb0.1 hb0.2.1) (near_d0 es))),bi3 (h:=by intro env w;simp [go_sem,h3]),pk3 (h:=by intro env w;simp [go_sem,h3])⟩) (k:=fun E7 ac wd H_=>?_)
 refine cT3 H_ ?_
 refine fq1 H_ 1 [[0],[0,1]] [_,_] (fun _=>[(4,bT)]) (s:=⟨cl3 Tryz.func6 answers26_any,mv3⟩) (k:=fun E8 ac wd H_=>?_)
 refine lvT3 Tryz.results3 H_ ?_
 exact ⟨rfl,H_.st.below⟩
 obtain ⟨n0,n1,n2,n3,n4,n5,n6,n7,n8⟩:=near_clk hp hn0 hq4 h2 (by omega);obtain ⟨v,hv9⟩:∃ v,v=jn d s a-jn 40587 0 0:=⟨_,rfl⟩;obtain ⟨_,_,_,hN⟩:=msE_ok h1;rw [← hv9,← hN] at n6 n7 n8;obtain ⟨c1,c2⟩:=uc_ok n0 n1 n2 n3 n4 n5;rw [← hv9] at c2;have hvi:InW v:=(by rw [hv9];unfold jn InW;omega);have habs:=absI_le (z:=msN es z-v) n7 n8
 refine fq1 H_ 15 (tri 9++[r_ 7++[9],r_ 7++[9,10],r_ 7++[9,10,11],r_ 7++[9,10,11,12],r_ 7++[9,10,11,12,13],r_ 15,r_ 16]) [_,bF,_,_,bF,bF,_,_,_,_,_,elt (.slice A0 es.length c0) (0*2),K_ (.agg #[vI ((es.getD 0 (0,0)).1),vI ((es.getD 0 (0,0)).2)]),_,bF,bF] (fun _=>[(67,bF)]) (s:=⟨mv3,bi3 (h:=by intro env w;simp [go_sem,h1]),mv3,gm3,bi3 (h:=by intro env w;simp [go_sem,h2]),pk3 (h:=by intro env w;simp [go_sem,h2]),mv3,fa3 0,ld31 3 sh3,fa3 2,ld31 0 sh22,ia_ Tryz.underlying22 sz44 0 (0*2) 0 (fun _ env _ wd hA=>(hv.gn hA.j.st.gr).els) (rfl) (hn0) rfl,le_ (0*2) (fun _ env _ wd hA=>(hv.gn hA.j.st.gr).els) (by omega) (leGb sh44 (by exact enC_0 es 0) (by exact enC_1 es 0)),cl3 Tryz.func9 ((Ret.eq (rday_any (es.getD 0 (0,0)).1 (es.getD 0 (0,0)).2 hb0.1 hb0.2.1) (near_d0 es))),bi3,pk3⟩) (k:=fun E7 ac wd H_=>?_)
 refine cF3 H_ ?_
 refine fq H_ 7 (tri 4++[[0,1,2,4],[5],[0,1,2,3,5,6],r_ 8]) [_,_,_,_,_,_,none,_] (fun E8=>[(13,vP (pb E8 5) 0)]) (W:=[{ i:=5,T:=27,c0:=[vI 0,.int .u64 0],s:=some 6,c1:=fun _=>[vI (hi (v)),.int .u64 (lo (v))] }]) (s:=⟨ld3c 3 sh39,cl3 Tryz.func10 ((Ret.eq (xcount_any d s a) (near_uc ⟨c1,c2⟩))),mv3,xt3,xt3,al_ 4,sw3 4 5 sh27,mv3⟩) (k:=fun E8 ac wd H_=>?_)
 obtain ⟨m,hm⟩:∃ m,smM es z es.length=m:=⟨_,rfl⟩
 rw [hm] at n6
 cases hI:smI es z m
 have heq:msN es z=v:=n6 hI
 refine fq H_ 8 [[0],[1],[0,1,2],r_ 4,r_ 5,[0,1,2,3,5],[6],[0,1,2,3,4,6,7],r_ 9] [_,_,_,_,_,_,_,none,_] (fun _=>[(16,bF)]) (W:=[{ i:=6,T:=47,c0:=[vI 0,.int .u64 0,vI 0,.int .u64 0,vI 0,.int .u64 0,vI 0],s:=some 7,c1:=fun _=>[vI 0,.int .u64 0,vI 0,.int .u64 0,vI 0,.int .u64 0,vI 0] }]) (s:=⟨mv3,ld3b 1 sh27,cw3 Tryz.func11 fun wd hA=>m_res_eq (mat_any wd l u x es (hA.thO rfl).1 z hz) (atR_out hm hI),mv3,xt3,xt3,al_ 5,sw3 5 6 sh47,mv3⟩) (k:=fun E9 ac wd H_=>?_)
 replace H_:=Cur.off H_
 refine fq H_ 6 [[0],[0,1],[2],r_ 4,r_ 5,[5],r_ 7] [_,_,_,_,_,_,none] (fun E10=>[(17,vP (pb E10 5) 0)]) (W:=[{ i:=5,T:=52,c0:=[bF,.slice none 0 0],s:=some 6,c1:=fun env=>[.bool (decide ((msN es z)-v < 0)),rS ((msN es z)-v) ((bA (env 4))) ((bC (env 4)))] }]) (F:=[fB w0 1 (msN es z),fB w0 3 v,fB w0 4 ((msN es z)-v)]) (s:=⟨ld3b 2 sh27,cb3 Tryz.func13 fun wd hA=>Of_any wd (msN es z) (msN_in hp hn0 hz),ld3b 4 sh27,cb3 Tryz.func13 fun wd hA=>Of_any wd v hvi,cb3e Tryz.func12 fun env wd hA=>Sub_any wd (decide (msN es z < 0)) (bA (env 1)) (bC (env 1)) (msN es z) rfl (At.bigN hA 1 rfl rfl rfl) (m_sm (msN_in hp hn0 hz)) (decide (v < 0)) (bA (env 3)) (bC (env 3)) v rfl (At.bigN hA 3 rfl rfl rfl) (m_sm hvi),al_ 6,sw3 6 5 sh52⟩) (k:=fun E10 ac wd H_=>?_)
 refine fq H_ 1 [[0],[0,1]] [_,none] (fun _=>[]) (S:=[⟨6,1,fun _=>[bF,rS ((msN es z)-v) ((bA (E10 4))) ((bC (E10 4)))]⟩]) (s:=⟨fa3 0,se3 6 sh4⟩) (k:=fun E11 ac wd H_=>?_)
 refine fq H_ 15 (tri 5++[[0,1,2,3,5],r_ 7,r_ 8,r_ 9,r_ 10,r_ 11,r_ 10++[11],r_ 13,r_ 14,r_ 15,r_ 16]) [_,_,_,_,_,_,bT,bT,bT,_,_,_,_,bT,bT,_] (fun _=>[(4,bT)]) (F:=[fB w0 11 1000000000000000000]) (s:=⟨cl3 Tryz.func6 answers26_any,mv3,gm3,gm3,ld3b 2 sh27,ld3b 4 sh27,bi3 (h:=by intro env w;simp [go_sem,heq]),pk3 (h:=by intro env w;simp [go_sem,heq]),pk3 (h:=by intro env w;simp [go_sem,heq]),mv3,ld3b 6 sh52,cb3 Tryz.func15 fun wd hA=>Int_any wd 1000000000000000000 (by omega) (by omega),cw3e Tryz.func14 fun env wd hA=>near_cmp wd (bA (E10 4)) (bC (E10 4)) ((msN es z)-v) (Facts.bigN (hA.j.st.now).1 2 rfl) (decide (1000000000000000000 < 0)) (bA (env 11)) (bC (env 11)) 1000000000000000000 rfl (At.bigN hA 11 rfl rfl rfl) ,bi3 (h:=by intro env w;(first | (simp [go_sem,cm_le,cm_lt,cm_ge,cm_gt,habs];done) | (simp [go_sem,cm_le,cm_lt,cm_ge,cm_gt];omega))),pk3 (h:=by intro env w;(first | (simp [go_sem,cm_le,cm_lt,cm_ge,cm_gt,habs];done) | (simp [go_sem,cm_le,cm_lt,cm_ge,cm_gt];omega))),mv3⟩) (k:=fun E12 ac wd H_=>?_)
 refine lvT3 Tryz.results3 H_ ?_
 exact ⟨rfl,H_.st.below⟩
 refine fq H_ 8 [[0],[1],[0,1,2],r_ 4,r_ 5,[0,1,2,3,5],[6],[0,1,2,3,4,6,7],r_ 9] [_,_,_,_,_,_,_,none,_] (fun _=>[(16,bT)]) (W:=[{ i:=6,T:=47,c0:=[vI 0,.int .u64 0,vI 0,.int .u64 0,vI 0,.int .u64 0,vI 0],s:=some 7,c1:=fun _=>[vI (hi (smS es m*1000000000000000000)),.int .u64 (lo (smS es m*1000000000000000000)),vI (hi (smE es m*1000000000000000000)),.int .u64 (lo (smE es m*1000000000000000000)),vI (hi (smB es m*1000000000000000000)),.int .u64 (lo (smB es m*1000000000000000000)),vI (smO es m-smO es (m-1))] }]) (s:=⟨mv3,ld3b 1 sh27,cw3 Tryz.func11 fun wd hA=>m_res_eq (mat_any wd l u x es (hA.thO rfl).1 z hz) (atR_in hm hI),mv3,xt3,xt3,al_ 5,sw3 5 6 sh47,mv3⟩) (k:=fun E9 ac wd H_=>?_)
 replace H_:=Cur.off H_
 refine fq H_ 6 [[0],[0,1],[2],r_ 4,r_ 5,[5],r_ 7] [_,_,_,_,_,_,none] (fun E10=>[(17,vP (pb E10 5) 0)]) (W:=[{ i:=5,T:=52,c0:=[bF,.slice none 0 0],s:=some 6,c1:=fun env=>[.bool (decide ((msN es z)-v < 0)),rS ((msN es z)-v) ((bA (env 4))) ((bC (env 4)))] }]) (F:=[fB w0 1 (msN es z),fB w0 3 v,fB w0 4 ((msN es z)-v)]) (s:=⟨ld3b 2 sh27,cb3 Tryz.func13 fun wd hA=>Of_any wd (msN es z) (msN_in hp hn0 hz),ld3b 4 sh27,cb3 Tryz.func13 fun wd hA=>Of_any wd v hvi,cb3e Tryz.func12 fun env wd hA=>Sub_any wd (decide (msN es z < 0)) (bA (env 1)) (bC (env 1)) (msN es z) rfl (At.bigN hA 1 rfl rfl rfl) (m_sm (msN_in hp hn0 hz)) (decide (v < 0)) (bA (env 3)) (bC (env 3)) v rfl (At.bigN hA 3 rfl rfl rfl) (m_sm hvi),al_ 6,sw3 6 5 sh52⟩) (k:=fun E10 ac wd H_=>?_)
 refine fq H_ 1 [[0],[0,1]] [_,none] (fun _=>[]) (S:=[⟨6,1,fun _=>[bF,rS ((msN es z)-v) ((bA (E10 4))) ((bC (E10 4)))]⟩]) (s:=⟨fa3 0,se3 6 sh4⟩) (k:=fun E11 ac wd H_=>?_)
 refine fq H_ 15 (tri 5++[[0,1,2,3,5],r_ 7,r_ 8,r_ 9,r_ 10,r_ 11,r_ 10++[11],r_ 13,r_ 14,r_ 15,r_ 16]) [_,_,_,_,_,_,_,bT,bT,_,_,_,_,bT,bT,_] (fun _=>[(4,bT)]) (F:=[fB w0 11 1000000000000000000]) (s:=⟨cl3 Tryz.func6 answers26_any,mv3,gm3,gm3,off_,off_,off_,pk3,pk3,mv3,ld3b 6 sh52,cb3 Tryz.func15 fun wd hA=>Int_any wd 1000000000000000000 (by omega) (by omega),cw3e Tryz.func14 fun env wd hA=>near_cmp wd (bA (E10 4)) (bC (E10 4)) ((msN es z)-v) (Facts.bigN (hA.j.st.now).1 2 rfl) (decide (1000000000000000000 < 0)) (bA (env 11)) (bC (env 11)) 1000000000000000000 rfl (At.bigN hA 11 rfl rfl rfl) ,bi3 (h:=by intro env w;(first | (simp [go_sem,cm_le,cm_lt,cm_ge,cm_gt,habs];done) | (simp [go_sem,cm_le,cm_lt,cm_ge,cm_gt];omega))),pk3 (h:=by intro env w;(first | (simp [go_sem,cm_le,cm_lt,cm_ge,cm_gt,habs];done) | (simp [go_sem,cm_le,cm_lt,cm_ge,cm_gt];omega))),mv3⟩) (k:=fun E12 ac wd H_=>?_)
 refine lvT3 Tryz.results3 H_ ?_
 exact ⟨rfl,H_.st.below⟩
 refine fq1 H_ 15 (tri 9++[r_ 7++[9],r_ 7++[9,10],r_ 7++[9,10,11],r_ 7++[9,10,11,12],r_ 7++[9,10,11,12,13],r_ 15,r_ 16]) [_,bF,_,_,bT,bT,_,_,_,_,_,_,_,_,_,bT] (fun _=>[(67,bT)]) (s:=⟨mv3,bi3 (h:=by intro env w;simp [go_sem,h1]),mv3,gm3,bi3 (h:=by intro env w;simp [go_sem,h2]),pk3 (h:=by intro env w;simp [go_sem,h2]),mv3,off_,off_,off_,off_,off_,off_,off_,off_,pk3⟩) (k:=fun E7 ac wd H_=>?_)
 refine cT3 H_ ?_
 refine fq1 H_ 1 [[0],[0,1]] [_,_] (fun _=>[(4,bT)]) (s:=⟨cl3 Tryz.func6 answers26_any,mv3⟩) (k:=fun E8 ac wd H_=>?_)
 refine lvT3 Tryz.results3 H_ ?_
 exact ⟨rfl,H_.st.below⟩
 refine fq1 H_ 15 (tri 9++[r_ 7++[9],r_ 7++[9,10],r_ 7++[9,10,11],r_ 7++[9,10,11,12],r_ 7++[9,10,11,12,13],r_ 15,r_ 16]) [_,bT,_,_,_,bT,_,_,_,_,_,_,_,_,_,bT] (fun _=>[(67,bT)]) (s:=⟨mv3,bi3 (h:=by intro env w;simp [go_sem,h1]),mv3,off_,off_,pk3,mv3,off_,off_,off_,off_,off_,off_,off_,off_,pk3⟩) (k:=fun E7 ac wd H_=>?_)
 refine cT3 H_ ?_
 refine fq1 H_ 1 [[0],[0,1]] [_,_] (fun _=>[(4,bT)]) (s:=⟨cl3 Tryz.func6 answers26_any,mv3⟩) (k:=fun E8 ac wd H_=>?_)
 refine lvT3 Tryz.results3 H_ ?_
 exact ⟨rfl,H_.st.below⟩
theorem smearNear_walk (w0:World) (v:Value) (es:List (Int × Int)) (u x:Int) (z:Int) (hz:InW z) (hv:Ents w0 w0.heap.size v es) (hu:I64 u) (hx:I64 x) (hes:∀ i,I64 (es.getD i (0,0)).1∧I64 (es.getD i (0,0)).2):Calls Tryz.prog 3 #[.agg #[vI u,vI x,v],vW z] w0 fun e w'=>e = .returned (.bool true)∧Below w0.heap.size w0 w':=by
 have hv0:=hv
 obtain ⟨A,c,rfl,_⟩:=hv
 exact smearNear_core w0 A c es u x z hz hv0 hu hx hes
end Go.Proofs.YtailjojebdmnnaaGreat
