/- Texts GSSteps of one proof, one behind the other; what nothing here names is left out. -/
import Derived.Test.YtdfkghpgekmmlaaGreatT11
import Derived.Test.YtdfkghpgekmmlaaGreatT9
import Derived.Test.YtdfkghpgekmmlaaGreatZ4
import Derived.IntWalk
set_option maxRecDepth 100000
set_option maxHeartbeats 8000000
set_option linter.unusedVariables false
set_option linter.unusedSimpArgs false
namespace Go.Proofs.YtdfkghpgekmmlaaGreat
open Go.RowKit
attribute [local go_sem] vN bT bF rS vW vM vL vT2 vT3 vP vI execOp Act.eval evC bigF vB hi_zero lo_zero Tryz.underlying24 Tryz.underlying26 Tryz.underlying34
theorem spanSteps_core (w0:World) (A0:Option Addr) (c0:Nat) (es:List (Int × Int)) (u x:Int) (d s a:Int) (hx0:-9223372036854775808≤d) (hx1:d < 9223372036854775808) (hx2:-9223372036854775808≤s) (hx3:s < 9223372036854775808) (hx4:-9223372036854775808≤a) (hx5:a < 9223372036854775808) (hv:Ents w0 w0.heap.size (.slice A0 es.length c0) es) (hu:I64 u) (hx:I64 x) (hes:∀ i,I64 (es.getD i (0,0)).1∧I64 (es.getD i (0,0)).2):Calls Tryz.prog 12 #[.agg #[vI u,vI x,.slice A0 es.length c0],vL d s a] w0 fun e w'=>e = .returned (.bool true)∧Below w0.heap.size w0 w':=by
  have hst:=St.start w0 (Θ:=fun _=>True) (fun _ _=>trivial)
  refine enter Tryz.func12 rfl (n:=101) rfl (Nat.le_of_ble_eq_true rfl) hst (L:=[(0,.agg #[vI u,vI x,.slice A0 es.length c0]),(1,vL d s a)]) (lk_args rfl) (fun ac h=>?_)
  replace h:=h.facts
  refine wp_seq ?_
  refine rf_ h [[0],[1],[2]] [KE_ fun env=>vP (pb env 0) 0,KE_ fun env=>vP (pb env 1) 0,K_ bF] (fun E1=>[(2,vP (pb E1 0) 0),(3,vP (pb E1 1) 0),(4,bF)]) (W:=[{ i:=0,T:=24,c0:=[vI u,vI x,.slice A0 es.length c0] },{ i:=1,T:=26,c0:=[vI d,vI s,vI a] }]) (M':=fun E1=>[((pb E1 0),24,[vI u,vI x,.slice A0 es.length c0]),((pb E1 1),26,[vI d,vI s,vI a])]) (hs:=c_ (bx0 0 (.agg #[vI u,vI x,.slice A0 es.length c0]))<|c_ (bx0 1 (vL d s a))<|c_ mv_<|e_) (k:=fun E1 ac wd h_1=>?_)
  clear h
  refine then_n (wp_seq ?_)
  cases hok:okT u x es
  refine rf_ h_1 [[0],[0,1],[0,1,2],r_ 4,[0,1,2,4],[0,1,2,3,5],r_ 7] [K_ (.agg #[vI u,vI x,.slice A0 es.length c0]),K_ (vT2 (.pointer none) (vI 10)),K_ (vT2 (.pointer none) (vI 10)),K_ (.pointer none),K_ (vI 10),K_ (.pointer none),K_ (vI 10)] (fun E2=>[(2,vP (pb E1 0) 0),(3,vP (pb E1 1) 0),(4,bF),(5,.pointer none),(6,vI 10)]) (hs:=c_ (ld_ 0 (hrd:=by exact rd24 rfl rfl rfl))<|c_ (cw_ Tryz.func13 (h:=fun _ env _ wd hA=>⟨_,cnew_no (hv.gn hA.j.st.gr) hu hx hes hok,rfl⟩))<|c_ mv_<|c_ ext_<|c_ ext_<|c_ mv_<|c_ mv_<|e_) (k:=fun E2 ac wd h_2=>?_)
  clear h_1
  refine then_n (wp_seq (wp_seq ?_))
  refine rf_ h_2 [[0],[0,1],[0,1,2],r_ 4,r_ 5,[0,1,2,5],[0,1,2,5,6],[0,1,2,5,6,7],[0,1,2,5,6,7,8],[0,1,2,5,6,7,8,9],r_ 11,r_ 12,r_ 13,r_ 14,r_ 15,r_ 16,r_ 17,r_ 18,r_ 19,[0,1,2,3,4,5,6,7,8,9,10,11,12,13,14,15,16,17,19],r_ 21,r_ 22,r_ 23] [K_ (vI 10),K_ bT,K_ bT,K_ undef,K_ undef,K_ undef,K_ undef,K_ undef,K_ undef,K_ undef,K_ undef,K_ bT,K_ bT,K_ undef,K_ undef,K_ undef,K_ bT,K_ bT,K_ undef,K_ undef,K_ undef,K_ undef,K_ bT] (fun E3=>[(2,vP (pb E1 0) 0),(3,vP (pb E1 1) 0),(4,bF),(5,.pointer none),(39,bT)]) (hs:=c_ mv_<|c_ (bi0 (vI 10) (vI 0))<|c_ mv_<|c_ off_<|c_ off_<|c_ off_<|c_ off_<|c_ off_<|c_ off_<|c_ off_<|c_ off_<|c_ (pk0 bT bT undef)<|c_ mv_<|c_ off_<|c_ off_<|c_ off_<|c_ (pk0 bT bT undef)<|c_ mv_<|c_ off_<|c_ off_<|c_ off_<|c_ off_<|c_ (pk0 bT bT undef)<|e_) (k:=fun E3 ac wd h_3=>?_)
  clear h_2
  refine then_n ?_
  refine wp_cond_true (eval_tmp (h_3.g (t:=39) rfl)) ?_
  refine wp_seq ?_
  refine rf_ h_3 [[0],[0,1]] [K_ bT,K_ bT] (fun E4=>[(2,vP (pb E1 0) 0),(3,vP (pb E1 1) 0),(4,bT),(5,.pointer none)]) (hs:=c_ (cl_ Tryz.func30 (h:=fun env=>⟨_,answers27_any,rfl⟩))<|c_ mv_<|e_) (k:=fun E4 ac wd h_4=>?_)
  clear h_3
  refine then_n (wp_ret (then_ret ?_))
  have s4:=h_4.g (t:=4) rfl
  refine leave (v:=.bool true) h_4.df (by simp [results,Tryz.results12,go_sem,Array.getD_eq_getD_getElem?,s4]) ?_
  exact ⟨rfl,h_4.st.below⟩
  obtain ⟨hp,hn0,_⟩:=okT_pre hok
  refine rf_ h_1 [[0],[0,1],[0,1,2],r_ 4,[0,1,2,4],[0,1,2,3,5],r_ 7] [K_ (.agg #[vI u,vI x,.slice A0 es.length c0]),KE_ fun env=>vT2 (vP (ptrB (tp (env 1) 0)) 0) (vI 0),KE_ fun env=>vT2 (vP (ptrB (tp (env 1) 0)) 0) (vI 0),KE_ fun env=>vP (ptrB (tp (env 1) 0)) 0,K_ (vI 0),KE_ fun env=>vP (ptrB (tp (env 1) 0)) 0,K_ (vI 0)] (fun E2=>[(2,vP (pb E1 0) 0),(3,vP (pb E1 1) 0),(4,bF),(5,vP (ptrB (tp (E2 1) 0)) 0),(6,vI 0)]) (F:=[(1,fun env w=>NewCx w (env 1) u x es w0.heap.size)]) (L1:=fun E2=>[fun w=>NewCx w (E2 1) u x es w0.heap.size]) (hs:=c_ (ld_ 0 (hrd:=by exact rd24 rfl rfl rfl))<|c_ (s_factT rfl rfl rfl Tryz.func13 (by kernel_rfl) rfl (fun _=>wanted_none rfl _) (fun v w=>NewCx w v u x es w0.heap.size) newLF rfl rfl cT rfl (fun v w h=>h.form) (fun v w w' hk h=>h.keep hk) (fun {D env ac wd} hA=>⟨_,hA.args (vs:=[.agg #[vI u,vI x,.slice A0 es.length c0]]) rfl,cnew_yes hA.j.st.gr.size (hv.gn hA.j.st.gr) hu hx hes hok⟩))<|c_ mv_<|c_ ext_<|c_ ext_<|c_ mv_<|c_ mv_<|e_) (k:=fun E2 ac wd h_2=>?_)
  clear h_1
  refine then_n (wp_seq (wp_seq ?_))
  replace h_2:=Cur.exInC h_2 0 rfl;obtain ⟨g,b,h_2⟩:=h_2;generalize ptrB (tp (E2 1) 0)=c at h_2
  have hb0:=okPre_num hp (i:=0) hn0
  by_cases h1:d < day0 es
  refine rf_ h_2 [[0],[0,1],[0,1,2],r_ 4,r_ 5,[0,1,2,5],[0,1,2,5,6],[0,1,2,5,6,7],[0,1,2,5,6,7,8],[0,1,2,5,6,7,8,9],r_ 11,r_ 12,r_ 13,r_ 14,r_ 15,r_ 16,r_ 17,r_ 18,r_ 19,[0,1,2,3,4,5,6,7,8,9,10,11,12,13,14,15,16,17,19],r_ 21,r_ 22,r_ 23] [K_ (vI 0),K_ bF,K_ bF,K_ (vP (pb E1 1) 0),K_ (vI d),K_ (vP (pb E1 0) 2),K_ (.slice A0 es.length c0),K_ (elt (.slice A0 es.length c0) (0*2)),K_ (.agg #[vI ((es.getD 0 (0,0)).1),vI ((es.getD 0 (0,0)).2)]),K_ (vI (day0 es)),K_ bT,K_ bT,K_ bT,K_ undef,K_ undef,K_ undef,K_ bT,K_ bT,K_ undef,K_ undef,K_ undef,K_ undef,K_ bT] (fun E3=>[(2,vP (pb E1 0) 0),(3,vP (pb E1 1) 0),(4,bF),(5,vP c 0),(39,bT)]) (hs:=c_ mv_<|c_ (bi0 (vI 0) (vI 0) (h:=by intro env w;(first | (simp [go_sem];done) | (simp [go_sem];rfl))))<|c_ mv_<|c_ (fa0 (vP (pb E1 1) 0))<|c_ (ld_ 1 (hrd:=by exact rd3 rfl))<|c_ (fa0 (vP (pb E1 0) 0))<|c_ (ld_ 0 (hrd:=by exact rd22 rfl))<|c_ (ia_ Tryz.underlying22 sz70 0 (0*2) 0 (fun _ env _ wd hA=>(hv.gn hA.j.st.gr).els) (rfl) (hn0) rfl)<|c_ (le_ (0*2) (fun _ env _ wd hA=>(hv.gn hA.j.st.gr).els) (by omega) (le70 (by exact enC_0 es 0) (by exact enC_1 es 0)))<|c_ (cl_ Tryz.func36 (h:=fun env=>⟨_,(Ret.eq (rday_any (es.getD 0 (0,0)).1 (es.getD 0 (0,0)).2 hb0.1 hb0.2.1) (y_day0 es)),rfl⟩))<|c_ (bi0 (vI d) (vI (day0 es)) (h:=by intro env w;simp [go_sem,h1]))<|c_ (pk0 bF bT bT (h:=by intro env w;simp [go_sem,h1]))<|c_ mv_<|c_ off_<|c_ off_<|c_ off_<|c_ (pk0 bT bT undef)<|c_ mv_<|c_ off_<|c_ off_<|c_ off_<|c_ off_<|c_ (pk0 bT bT undef)<|e_) (k:=fun E3 ac wd h_3=>?_)
  clear h_2
  refine then_n ?_
  refine wp_cond_true (eval_tmp (h_3.g (t:=39) rfl)) ?_
  refine wp_seq ?_
  refine rf_ h_3 [[0],[0,1]] [K_ bT,K_ bT] (fun E4=>[(2,vP (pb E1 0) 0),(3,vP (pb E1 1) 0),(4,bT),(5,vP c 0)]) (hs:=c_ (cl_ Tryz.func30 (h:=fun env=>⟨_,answers27_any,rfl⟩))<|c_ mv_<|e_) (k:=fun E4 ac wd h_4=>?_)
  clear h_3
  refine then_n (wp_ret (then_ret ?_))
  have s4:=h_4.g (t:=4) rfl
  refine leave (v:=.bool true) h_4.df (by simp [results,Tryz.results12,go_sem,Array.getD_eq_getD_getElem?,s4]) ?_
  exact ⟨rfl,h_4.st.below⟩
  by_cases h2:1099511627776≤d
  refine rf_ h_2 [[0],[0,1],[0,1,2],r_ 4,r_ 5,[0,1,2,5],[0,1,2,5,6],[0,1,2,5,6,7],[0,1,2,5,6,7,8],[0,1,2,5,6,7,8,9],r_ 11,r_ 12,r_ 13,r_ 14,r_ 15,r_ 16,r_ 17,r_ 18,r_ 19,[0,1,2,3,4,5,6,7,8,9,10,11,12,13,14,15,16,17,19],r_ 21,r_ 22,r_ 23] [K_ (vI 0),K_ bF,K_ bF,K_ (vP (pb E1 1) 0),K_ (vI d),K_ (vP (pb E1 0) 2),K_ (.slice A0 es.length c0),K_ (elt (.slice A0 es.length c0) (0*2)),K_ (.agg #[vI ((es.getD 0 (0,0)).1),vI ((es.getD 0 (0,0)).2)]),K_ (vI (day0 es)),K_ bF,K_ bF,K_ bF,K_ (vP (pb E1 1) 0),K_ (vI d),K_ bT,K_ bT,K_ bT,K_ undef,K_ undef,K_ undef,K_ undef,K_ bT] (fun E3=>[(2,vP (pb E1 0) 0),(3,vP (pb E1 1) 0),(4,bF),(5,vP c 0),(39,bT)]) (hs:=c_ mv_<|c_ (bi0 (vI 0) (vI 0) (h:=by intro env w;(first | (simp [go_sem];done) | (simp [go_sem];rfl))))<|c_ mv_<|c_ (fa0 (vP (pb E1 1) 0))<|c_ (ld_ 1 (hrd:=by exact rd3 rfl))<|c_ (fa0 (vP (pb E1 0) 0))<|c_ (ld_ 0 (hrd:=by exact rd22 rfl))<|c_ (ia_ Tryz.underlying22 sz70 0 (0*2) 0 (fun _ env _ wd hA=>(hv.gn hA.j.st.gr).els) (rfl) (hn0) rfl)<|c_ (le_ (0*2) (fun _ env _ wd hA=>(hv.gn hA.j.st.gr).els) (by omega) (le70 (by exact enC_0 es 0) (by exact enC_1 es 0)))<|c_ (cl_ Tryz.func36 (h:=fun env=>⟨_,(Ret.eq (rday_any (es.getD 0 (0,0)).1 (es.getD 0 (0,0)).2 hb0.1 hb0.2.1) (y_day0 es)),rfl⟩))<|c_ (bi0 (vI d) (vI (day0 es)) (h:=by intro env w;simp [go_sem,h1]))<|c_ (pk0 bF bT bF (h:=by intro env w;simp [go_sem,h1]))<|c_ mv_<|c_ (fa0 (vP (pb E1 1) 0))<|c_ (ld_ 1 (hrd:=by exact rd3 rfl))<|c_ (bi0 (vI d) (vI 1099511627776) (h:=by intro env w;simp [go_sem,h2]))<|c_ (pk0 bF bT bT (h:=by intro env w;simp [go_sem,h2]))<|c_ mv_<|c_ off_<|c_ off_<|c_ off_<|c_ off_<|c_ (pk0 bT bT undef)<|e_) (k:=fun E3 ac wd h_3=>?_)
  clear h_2
  refine then_n ?_
  refine wp_cond_true (eval_tmp (h_3.g (t:=39) rfl)) ?_
  refine wp_seq ?_
  refine rf_ h_3 [[0],[0,1]] [K_ bT,K_ bT] (fun E4=>[(2,vP (pb E1 0) 0),(3,vP (pb E1 1) 0),(4,bT),(5,vP c 0)]) (hs:=c_ (cl_ Tryz.func30 (h:=fun env=>⟨_,answers27_any,rfl⟩))<|c_ mv_<|e_) (k:=fun E4 ac wd h_4=>?_)
  clear h_3
  refine then_n (wp_ret (then_ret ?_))
  have s4:=h_4.g (t:=4) rfl
  refine leave (v:=.bool true) h_4.df (by simp [results,Tryz.results12,go_sem,Array.getD_eq_getD_getElem?,s4]) ?_
  exact ⟨rfl,h_4.st.below⟩
  by_cases he:ctE es d s a=0
  obtain ⟨b1,b2,b3,b4,b5,b6⟩:=ctE_bd he;obtain ⟨n1,n2,n3⟩:=spN_step hp hn0 (x:=x) (by omega:day0 es≤d) (by omega) he;have hcs:=(whyU_ok ((ct_u (by omega:day0 es≤d)).1.symm.trans he)).2.2.2.2.2.2.2;obtain ⟨g0,g1⟩:=chgV_bd hp d
  refine rf_ h_2 [[0],[0,1],[0,1,2],r_ 4,r_ 5,[0,1,2,5],[0,1,2,5,6],[0,1,2,5,6,7],[0,1,2,5,6,7,8],[0,1,2,5,6,7,8,9],r_ 11,r_ 12,r_ 13,r_ 14,r_ 15,r_ 16,r_ 17,r_ 18,r_ 19,[0,1,2,3,4,5,6,7,8,9,10,11,12,13,14,15,16,17,19],r_ 21,r_ 22,r_ 23] [K_ (vI 0),K_ bF,K_ bF,K_ (vP (pb E1 1) 0),K_ (vI d),K_ (vP (pb E1 0) 2),K_ (.slice A0 es.length c0),K_ (elt (.slice A0 es.length c0) (0*2)),K_ (.agg #[vI ((es.getD 0 (0,0)).1),vI ((es.getD 0 (0,0)).2)]),K_ (vI (day0 es)),K_ bF,K_ bF,K_ bF,K_ (vP (pb E1 1) 0),K_ (vI d),K_ bF,K_ bF,K_ bF,K_ (vP c 0),K_ (vL d s a),K_ bT,K_ bF,K_ bF] (fun E3=>[(2,vP (pb E1 0) 0),(3,vP (pb E1 1) 0),(4,bF),(5,vP c 0),(39,bF)]) (hs:=c_ mv_<|c_ (bi0 (vI 0) (vI 0) (h:=by intro env w;(first | (simp [go_sem];done) | (simp [go_sem];rfl))))<|c_ mv_<|c_ (fa0 (vP (pb E1 1) 0))<|c_ (ld_ 1 (hrd:=by exact rd3 rfl))<|c_ (fa0 (vP (pb E1 0) 0))<|c_ (ld_ 0 (hrd:=by exact rd22 rfl))<|c_ (ia_ Tryz.underlying22 sz70 0 (0*2) 0 (fun _ env _ wd hA=>(hv.gn hA.j.st.gr).els) (rfl) (hn0) rfl)<|c_ (le_ (0*2) (fun _ env _ wd hA=>(hv.gn hA.j.st.gr).els) (by omega) (le70 (by exact enC_0 es 0) (by exact enC_1 es 0)))<|c_ (cl_ Tryz.func36 (h:=fun env=>⟨_,(Ret.eq (rday_any (es.getD 0 (0,0)).1 (es.getD 0 (0,0)).2 hb0.1 hb0.2.1) (y_day0 es)),rfl⟩))<|c_ (bi0 (vI d) (vI (day0 es)) (h:=by intro env w;simp [go_sem,h1]))<|c_ (pk0 bF bT bF (h:=by intro env w;simp [go_sem,h1]))<|c_ mv_<|c_ (fa0 (vP (pb E1 1) 0))<|c_ (ld_ 1 (hrd:=by exact rd3 rfl))<|c_ (bi0 (vI d) (vI 1099511627776) (h:=by intro env w;simp [go_sem,h2]))<|c_ (pk0 bF bT bF (h:=by intro env w;simp [go_sem,h2]))<|c_ mv_<|c_ (gm0 (vP c 0))<|c_ (ld_ 1 (hrd:=by exact rd26 rfl rfl rfl))<|c_ (s_clk (c:=c) (g:=g) (b:=b) (u:=u) (x:=x) (es:=es) Tryz.func17 (fun _ h=>h) (fun _ h=>h) (h:=fun D env ac wd hA hC=>⟨_,ClkC.eq (cexists_c _ c g b u x es hC d s a hx0 hx1) (y_exy he),rfl⟩))<|c_ (un0 bT)<|c_ (pk0 bF bT bF)<|e_) (k:=fun E3 ac wd h_3=>?_)
  clear h_2
  refine then_n ?_
  refine wp_cond_false (eval_tmp (h_3.g (t:=39) rfl)) ?_
  refine wp_skip (then_n (wp_seq ?_))
  by_cases c1:a+1 < 1000000000000000000
  have hst:stp es d s a=(d,s,a+1):=(by unfold stp;rw [if_pos c1]);rw [hst] at n1 n2 n3
  refine rf_ h_3 [[0],[1],[0,1,2],r_ 4,r_ 5,[0,1,2,3,5],[6],[0,1,2,3,4,6,7],r_ 9] [K_ (vP c 0),K_ (vL d s a),K_ (vT2 (vL d s (a+1)) (vI 0)),K_ (vT2 (vL d s (a+1)) (vI 0)),K_ (vL d s (a+1)),K_ (vI 0),KE_ fun env=>vP (pb env 6) 0,none,K_ (vI 0)] (fun E4=>[(2,vP (pb E1 0) 0),(3,vP (pb E1 1) 0),(4,bF),(5,vP c 0),(7,vP (pb E4 6) 0),(8,vI 0)]) (W:=[{ i:=6,T:=26,c0:=[vI 0,vI 0,vI 0],s:=some 7,c1:=fun _=>[vI d,vI s,vI (a+1)] }]) (M':=fun E4=>[((pb E1 0),24,[vI u,vI x,.slice A0 es.length c0]),((pb E1 1),26,[vI d,vI s,vI a]),((pb E4 6),26,[vI d,vI s,vI (a+1)])]) (hs:=c_ mv_<|c_ (ld_ 1 (hrd:=by exact rd26 rfl rfl rfl))<|c_ (s_clk (c:=c) (g:=g) (b:=b) (u:=u) (x:=x) (es:=es) Tryz.func34 (fun _ h=>h) (fun _ h=>h) (h:=fun D env ac wd hA hC=>⟨_,ClkC.eq (spNext_c _ c g b u x es hC true d s a hx0 hx1) (y_lab4 n1),rfl⟩))<|c_ mv_<|c_ ext_<|c_ ext_<|c_ (al_ 2)<|c_ (sw_ 2 6 (hst:=by exact fun _ _ _ hc=>st26 rfl rfl rfl rfl hc))<|c_ mv_<|e_) (k:=fun E4 ac wd h_4=>?_)
  clear h_3
  refine then_n (wp_seq ?_)
  refine rf_ h_4 [[0],[1],[2],r_ 4,r_ 5,r_ 6,[0,1,2,3,4,6],[7],[0,1,2,3,4,5,7,8],r_ 10] [K_ (vP c 0),K_ (vL d s a),K_ (vL d s (a+1)),K_ (vT2 (vW 1) (vI 0)),K_ (vT2 (vW 1) (vI 0)),K_ (vW 1),K_ (vI 0),KE_ fun env=>vP (pb env 7) 0,none,K_ (vI 0)] (fun E5=>[(2,vP (pb E1 0) 0),(3,vP (pb E1 1) 0),(4,bF),(7,vP (pb E4 6) 0),(8,vI 0),(9,vP (pb E5 7) 0),(10,vI 0)]) (W:=[{ i:=7,T:=34,c0:=[vI 0,.int .u64 0],s:=some 8,c1:=fun _=>[vI (hi (1)),.int .u64 (lo (1))] }]) (M':=fun E5=>[((pb E1 0),24,[vI u,vI x,.slice A0 es.length c0]),((pb E1 1),26,[vI d,vI s,vI a]),((pb E4 6),26,[vI d,vI s,vI (a+1)]),((pb E5 7),34,[vI (hi (1)),.int .u64 (lo (1))])]) (hs:=c_ mv_<|c_ (ld_ 1 (hrd:=by exact rd26 rfl rfl rfl))<|c_ (ld_ 2 (hrd:=by exact rd26 rfl rfl rfl))<|c_ (s_clk (c:=c) (g:=g) (b:=b) (u:=u) (x:=x) (es:=es) Tryz.func33 (fun _ h=>h) (fun _ h=>h) (h:=fun D env ac wd hA hC=>⟨_,ClkC.eq (spDiff_c _ c g b u x es hC true d s a hx0 hx1 d s (a+1) hx0 hx1) (y_tt n3 n2),rfl⟩))<|c_ mv_<|c_ ext_<|c_ ext_<|c_ (al_ 3)<|c_ (sw_ 3 7 (hst:=by exact fun _ _ _ hc=>st34 rfl rfl rfl hc))<|c_ mv_<|e_) (k:=fun E5 ac wd h_5=>?_)
  clear h_4
  refine then_n (wp_seq ?_)
  refine rf_ h_5 [[0],[0,1],[2],[2,3],[4],[4,5],[4,5,6],r_ 8,[8],r_ 10] [K_ (vP (pb E1 1) 0),K_ (vI d),K_ (vP (pb E1 1) 1),K_ (vI s),K_ (vP (pb E1 1) 2),K_ (vI a),K_ (vI (a+1)),K_ (vL d s (a+1)),KE_ fun env=>vP (pb env 8) 0,none] (fun E6=>[(2,vP (pb E1 0) 0),(3,vP (pb E1 1) 0),(4,bF),(7,vP (pb E4 6) 0),(8,vI 0),(9,vP (pb E5 7) 0),(10,vI 0),(11,vP (pb E6 8) 0)]) (W:=[{ i:=8,T:=26,c0:=[vI 0,vI 0,vI 0],s:=some 9,c1:=fun _=>[vI d,vI s,vI (a+1)] }]) (M':=fun E6=>[((pb E1 0),24,[vI u,vI x,.slice A0 es.length c0]),((pb E1 1),26,[vI d,vI s,vI a]),((pb E4 6),26,[vI d,vI s,vI (a+1)]),((pb E5 7),34,[vI (hi (1)),.int .u64 (lo (1))]),((pb E6 8),26,[vI d,vI s,vI (a+1)])]) (hs:=c_ (fa0 (vP (pb E1 1) 0))<|c_ (ld_ 1 (hrd:=by exact rd3 rfl))<|c_ (fa0 (vP (pb E1 1) 0))<|c_ (ld_ 1 (hrd:=by exact rd3 rfl))<|c_ (fa0 (vP (pb E1 1) 0))<|c_ (ld_ 1 (hrd:=by exact rd3 rfl))<|c_ (bi0 (vI a) (vI 1))<|c_ (bd0 ([vI d,vI s,vI (a+1)]))<|c_ (al_ 4)<|c_ (sw_ 4 8 (hst:=by exact fun _ _ _ hc=>st26 rfl rfl rfl rfl hc))<|e_) (k:=fun E6 ac wd h_6=>?_)
  clear h_5
  refine then_n (wp_seq (wp_seq ?_))
  refine rf_ h_6 (tri 3) [K_ (vP (pb E6 8) 2),K_ (vI (a+1)),K_ bF] (fun E7=>[(2,vP (pb E1 0) 0),(3,vP (pb E1 1) 0),(4,bF),(7,vP (pb E4 6) 0),(8,vI 0),(9,vP (pb E5 7) 0),(10,vI 0),(11,vP (pb E6 8) 0),(64,bF)]) (hs:=c_ (fa0 (vP (pb E6 8) 0))<|c_ (ld_ 4 (hrd:=by exact rd3 rfl))<|c_ (bi0 (vI (a+1)) (vI 1000000000000000000) (h:=by intro env w;simp [go_sem];omega))<|e_) (k:=fun E7 ac wd h_7=>?_)
  clear h_6
  refine then_n ?_
  refine wp_cond_false (eval_tmp (h_7.g (t:=64) rfl)) ?_
  refine wp_skip (then_n (wp_seq (wp_seq ?_)))
  refine rf_ h_7 [[0],[0,1],[2],[3],[3,4],[2,3,4,5],[2,3,4,5,6],r_ 8] [K_ (vP (pb E6 8) 1),K_ (vI s),K_ (.agg #[vI u,vI x,.slice A0 es.length c0]),K_ (vP (pb E1 1) 0),K_ (vI d),K_ (vI (chgV es d)),K_ (vI (86400+(chgV es d))),K_ bF] (fun E8=>[(3,vP (pb E1 1) 0),(4,bF),(7,vP (pb E4 6) 0),(8,vI 0),(9,vP (pb E5 7) 0),(10,vI 0),(11,vP (pb E6 8) 0),(77,bF)]) (hs:=c_ (fa0 (vP (pb E6 8) 0))<|c_ (ld_ 4 (hrd:=by exact rd3 rfl))<|c_ (ld_ 0 (hrd:=by exact rd24 rfl rfl rfl))<|c_ (fa0 (vP (pb E1 1) 0))<|c_ (ld_ 1 (hrd:=by exact rd3 rfl))<|c_ (cw_ Tryz.func37 (h:=fun _ env _ wd hA=>⟨_,(rchange_any _ es u x d wd (hv.gn hA.j.st.gr) hp),rfl⟩))<|c_ (bi0 (vI 86400) (vI (chgV es d)))<|c_ (bi0 (vI s) (vI (86400+(chgV es d))) (h:=by intro env w;simp [go_sem];omega))<|e_) (k:=fun E8 ac wd h_8=>?_)
  clear h_7
  refine then_n ?_
  refine wp_cond_false (eval_tmp (h_8.g (t:=77) rfl)) ?_
  refine wp_skip (then_n (wp_seq ?_))
  refine rf_ h_8 [[0],[0,1],[0,1,2],r_ 4,r_ 5,r_ 6,r_ 7,[0,1,2,3,4,5,7],r_ 9,r_ 10,r_ 11,r_ 12,r_ 13,r_ 14,r_ 15,r_ 16,[0,1,2,3,4,5,6,7,8,9,10,11,12,13,14,16],r_ 18,r_ 19,r_ 20] [K_ bT,K_ bT,K_ (vI 0),K_ bT,K_ bT,K_ bT,K_ (vL d s (a+1)),K_ (vL d s (a+1)),K_ bT,K_ bT,K_ bT,K_ (vI 0),K_ bT,K_ bT,K_ bT,K_ (vW 1),K_ (vW 1),K_ bT,K_ bT,K_ bT] (fun E9=>[(4,bT)]) (hs:=c_ (cl_ Tryz.func30 (h:=fun env=>⟨_,answers27_any,rfl⟩))<|c_ mv_<|c_ (gm0 (vI 0))<|c_ (bi0 (vI 0) (vI 0) (h:=by intro env w;(first | (simp [go_sem];done) | (simp [go_sem];rfl))))<|c_ (pk0 bT bT bF (h:=by intro env w;(first | (simp [go_sem];done) | (simp [go_sem];rfl))))<|c_ mv_<|c_ (ld_ 2 (hrd:=by exact rd26 rfl rfl rfl))<|c_ (ld_ 4 (hrd:=by exact rd26 rfl rfl rfl))<|c_ (bi0 (vL d s (a+1)) (vL d s (a+1)) (h:=by intro env w;(first | (simp [go_sem];done) | (simp [go_sem];rfl))))<|c_ (pk0 bT bT bF (h:=by intro env w;(first | (simp [go_sem];done) | (simp [go_sem];rfl))))<|c_ mv_<|c_ (gm0 (vI 0))<|c_ (bi0 (vI 0) (vI 0) (h:=by intro env w;(first | (simp [go_sem];done) | (simp [go_sem];rfl))))<|c_ (pk0 bT bT bF (h:=by intro env w;(first | (simp [go_sem];done) | (simp [go_sem];rfl))))<|c_ mv_<|c_ (ld_ 3 (hrd:=by exact rd34 rfl rfl))<|c_ (cl_ Tryz.func38 (h:=fun env=>⟨_,(of_any 1 (by omega) (by omega)),rfl⟩))<|c_ (bi0 (vW 1) (vW 1) (h:=by intro env w;(first | (simp [go_sem];done) | (simp [go_sem];rfl))))<|c_ (pk0 bT bT bF (h:=by intro env w;(first | (simp [go_sem];done) | (simp [go_sem];rfl))))<|c_ mv_<|e_) (k:=fun E9 ac wd h_9=>?_)
  clear h_8
  refine then_n (wp_ret ?_)
  have s4:=h_9.g (t:=4) rfl
  refine leave (v:=.bool true) h_9.df (by simp [results,Tryz.results12,go_sem,Array.getD_eq_getD_getElem?,s4]) ?_
  exact ⟨rfl,h_9.st.below⟩
  by_cases c2:s+1=86400+chgV es d
  have hst:stp es d s a=(d+1,0,0):=(by unfold stp;rw [if_neg c1,if_pos c2]);rw [hst] at n1 n2 n3
  refine rf_ h_3 [[0],[1],[0,1,2],r_ 4,r_ 5,[0,1,2,3,5],[6],[0,1,2,3,4,6,7],r_ 9] [K_ (vP c 0),K_ (vL d s a),K_ (vT2 (vL (d+1) 0 0) (vI 0)),K_ (vT2 (vL (d+1) 0 0) (vI 0)),K_ (vL (d+1) 0 0),K_ (vI 0),KE_ fun env=>vP (pb env 6) 0,none,K_ (vI 0)] (fun E4=>[(2,vP (pb E1 0) 0),(3,vP (pb E1 1) 0),(4,bF),(5,vP c 0),(7,vP (pb E4 6) 0),(8,vI 0)]) (W:=[{ i:=6,T:=26,c0:=[vI 0,vI 0,vI 0],s:=some 7,c1:=fun _=>[vI (d+1),vI 0,vI 0] }]) (M':=fun E4=>[((pb E1 0),24,[vI u,vI x,.slice A0 es.length c0]),((pb E1 1),26,[vI d,vI s,vI a]),((pb E4 6),26,[vI (d+1),vI 0,vI 0])]) (hs:=c_ mv_<|c_ (ld_ 1 (hrd:=by exact rd26 rfl rfl rfl))<|c_ (s_clk (c:=c) (g:=g) (b:=b) (u:=u) (x:=x) (es:=es) Tryz.func34 (fun _ h=>h) (fun _ h=>h) (h:=fun D env ac wd hA hC=>⟨_,ClkC.eq (spNext_c _ c g b u x es hC true d s a hx0 hx1) (y_lab4 n1),rfl⟩))<|c_ mv_<|c_ ext_<|c_ ext_<|c_ (al_ 2)<|c_ (sw_ 2 6 (hst:=by exact fun _ _ _ hc=>st26 rfl rfl rfl rfl hc))<|c_ mv_<|e_) (k:=fun E4 ac wd h_4=>?_)
  clear h_3
  refine then_n (wp_seq ?_)
  refine rf_ h_4 [[0],[1],[2],r_ 4,r_ 5,r_ 6,[0,1,2,3,4,6],[7],[0,1,2,3,4,5,7,8],r_ 10] [K_ (vP c 0),K_ (vL d s a),K_ (vL (d+1) 0 0),K_ (vT2 (vW 1) (vI 0)),K_ (vT2 (vW 1) (vI 0)),K_ (vW 1),K_ (vI 0),KE_ fun env=>vP (pb env 7) 0,none,K_ (vI 0)] (fun E5=>[(2,vP (pb E1 0) 0),(3,vP (pb E1 1) 0),(4,bF),(7,vP (pb E4 6) 0),(8,vI 0),(9,vP (pb E5 7) 0),(10,vI 0)]) (W:=[{ i:=7,T:=34,c0:=[vI 0,.int .u64 0],s:=some 8,c1:=fun _=>[vI (hi (1)),.int .u64 (lo (1))] }]) (M':=fun E5=>[((pb E1 0),24,[vI u,vI x,.slice A0 es.length c0]),((pb E1 1),26,[vI d,vI s,vI a]),((pb E4 6),26,[vI (d+1),vI 0,vI 0]),((pb E5 7),34,[vI (hi (1)),.int .u64 (lo (1))])]) (hs:=c_ mv_<|c_ (ld_ 1 (hrd:=by exact rd26 rfl rfl rfl))<|c_ (ld_ 2 (hrd:=by exact rd26 rfl rfl rfl))<|c_ (s_clk (c:=c) (g:=g) (b:=b) (u:=u) (x:=x) (es:=es) Tryz.func33 (fun _ h=>h) (fun _ h=>h) (h:=fun D env ac wd hA hC=>⟨_,ClkC.eq (spDiff_c _ c g b u x es hC true d s a hx0 hx1 (d+1) 0 0 (by omega) (by omega)) (y_tt n3 n2),rfl⟩))<|c_ mv_<|c_ ext_<|c_ ext_<|c_ (al_ 3)<|c_ (sw_ 3 7 (hst:=by exact fun _ _ _ hc=>st34 rfl rfl rfl hc))<|c_ mv_<|e_) (k:=fun E5 ac wd h_5=>?_)
  clear h_4
  refine then_n (wp_seq ?_)
  refine rf_ h_5 [[0],[0,1],[2],[2,3],[4],[4,5],[4,5,6],r_ 8,[8],r_ 10] [K_ (vP (pb E1 1) 0),K_ (vI d),K_ (vP (pb E1 1) 1),K_ (vI s),K_ (vP (pb E1 1) 2),K_ (vI a),K_ (vI (a+1)),K_ (vL d s (a+1)),KE_ fun env=>vP (pb env 8) 0,none] (fun E6=>[(2,vP (pb E1 0) 0),(3,vP (pb E1 1) 0),(4,bF),(7,vP (pb E4 6) 0),(8,vI 0),(9,vP (pb E5 7) 0),(10,vI 0),(11,vP (pb E6 8) 0)]) (W:=[{ i:=8,T:=26,c0:=[vI 0,vI 0,vI 0],s:=some 9,c1:=fun _=>[vI d,vI s,vI (a+1)] }]) (M':=fun E6=>[((pb E1 0),24,[vI u,vI x,.slice A0 es.length c0]),((pb E1 1),26,[vI d,vI s,vI a]),((pb E4 6),26,[vI (d+1),vI 0,vI 0]),((pb E5 7),34,[vI (hi (1)),.int .u64 (lo (1))]),((pb E6 8),26,[vI d,vI s,vI (a+1)])]) (hs:=c_ (fa0 (vP (pb E1 1) 0))<|c_ (ld_ 1 (hrd:=by exact rd3 rfl))<|c_ (fa0 (vP (pb E1 1) 0))<|c_ (ld_ 1 (hrd:=by exact rd3 rfl))<|c_ (fa0 (vP (pb E1 1) 0))<|c_ (ld_ 1 (hrd:=by exact rd3 rfl))<|c_ (bi0 (vI a) (vI 1))<|c_ (bd0 ([vI d,vI s,vI (a+1)]))<|c_ (al_ 4)<|c_ (sw_ 4 8 (hst:=by exact fun _ _ _ hc=>st26 rfl rfl rfl rfl hc))<|e_) (k:=fun E6 ac wd h_6=>?_)
  clear h_5
  refine then_n (wp_seq (wp_seq ?_))
  refine rf_ h_6 (tri 3) [K_ (vP (pb E6 8) 2),K_ (vI (a+1)),K_ bT] (fun E7=>[(2,vP (pb E1 0) 0),(3,vP (pb E1 1) 0),(4,bF),(7,vP (pb E4 6) 0),(8,vI 0),(9,vP (pb E5 7) 0),(10,vI 0),(11,vP (pb E6 8) 0),(64,bT)]) (hs:=c_ (fa0 (vP (pb E6 8) 0))<|c_ (ld_ 4 (hrd:=by exact rd3 rfl))<|c_ (bi0 (vI (a+1)) (vI 1000000000000000000) (h:=by intro env w;simp [go_sem];omega))<|e_) (k:=fun E7 ac wd h_7=>?_)
  clear h_6
  refine then_n ?_
  refine wp_cond_true (eval_tmp (h_7.g (t:=64) rfl)) ?_
  refine reg_cut mixed 5 [[0],[0,1],[0,1,2],[0,1,2,3],[0,1,2,3,4],[0,1,2,3,4,5],[0,1,2,3,4,5,6]] (by kernel_rfl) h_7 [some 65,some 66,some 67,some 68,none] [[0],[0,1],[0,1,2],[0,1,2,3],[0,1,2,3,4]] [⟨4,4,fun _=>[vI d,vI (s+1),vI (a+1)]⟩] [] [some fun _=>vP (pb E1 1) 1,some fun _=>vI s,some fun _=>vI (s+1),some fun _=>vP (pb E6 8) 1,none] [] none rfl (by kernel_rfl) (by kernel_rfl) (sn (sn (sn (sn (sn s0 ?_) ?_) ?_) ?_) ?_) ?_
  · exact (fa0 (vP (pb E1 1) 0))
  · exact (ld_ 1 (hrd:=by exact rd3 rfl))
  · exact (bi0 (vI s) (vI 1))
  · exact (fa0 (vP (pb E6 8) 0))
  · exact (se_ 4 (hst:=by exact fun _ _ _ hc=>st3 rfl rfl hc))
  intro E8 ac wd hJ
  have h_8:Cur 101 w0 none (some g) (Facts []) (fun w=>IsC w c g b u x es) [(2,vP (pb E1 0) 0),(3,vP (pb E1 1) 0),(4,.bool false),(7,vP (pb E4 6) 0),(8,vI 0),(9,vP (pb E5 7) 0),(10,vI 0),(11,vP (pb E6 8) 0)] [((pb E1 0),24,[vI u,vI x,.slice A0 es.length c0]),((pb E1 1),26,[vI d,vI s,vI a]),((pb E4 6),26,[vI (d+1),vI 0,vI 0]),((pb E5 7),34,[vI (hi (1)),.int .u64 (lo (1))]),((pb E6 8),26,[vI d,vI (s+1),vI (a+1)])] ac wd:=hJ.curF rfl rfl rfl (fun _ h=>h) rfl rfl rfl
  clear hJ h_7
  refine reg_rest h_8 [some 69,none] [[0],[0,1]] [⟨4,1,fun _=>[vI d,vI (s+1),vI 0]⟩] [] [some fun _=>vP (pb E6 8) 2,none] [] none rfl (by kernel_rfl) (by kernel_rfl) (by kernel_rfl) (sn (sn s0 ?_) ?_) ?_
  · exact (fa0 (vP (pb E6 8) 0))
  · exact (se_ 4 (hst:=by exact fun _ _ _ hc=>st3 rfl rfl hc))
  intro E9 ac wd hJ
  have h_9:Cur 101 w0 none (some g) (Facts []) (fun w=>IsC w c g b u x es) [(2,vP (pb E1 0) 0),(3,vP (pb E1 1) 0),(4,.bool false),(7,vP (pb E4 6) 0),(8,vI 0),(9,vP (pb E5 7) 0),(10,vI 0),(11,vP (pb E6 8) 0)] [((pb E1 0),24,[vI u,vI x,.slice A0 es.length c0]),((pb E1 1),26,[vI d,vI s,vI a]),((pb E4 6),26,[vI (d+1),vI 0,vI 0]),((pb E5 7),34,[vI (hi (1)),.int .u64 (lo (1))]),((pb E6 8),26,[vI d,vI (s+1),vI 0])] ac wd:=hJ.curF rfl rfl rfl (fun _ h=>h) rfl rfl rfl
  clear hJ h_8
  refine then_n (wp_seq (wp_seq ?_))
  refine rf_ h_9 [[0],[0,1],[2],[3],[3,4],[2,3,4,5],[2,3,4,5,6],r_ 8] [K_ (vP (pb E6 8) 1),K_ (vI (s+1)),K_ (.agg #[vI u,vI x,.slice A0 es.length c0]),K_ (vP (pb E1 1) 0),K_ (vI d),K_ (vI (chgV es d)),K_ (vI (86400+(chgV es d))),K_ bT] (fun E10=>[(3,vP (pb E1 1) 0),(4,bF),(7,vP (pb E4 6) 0),(8,vI 0),(9,vP (pb E5 7) 0),(10,vI 0),(11,vP (pb E6 8) 0),(77,bT)]) (hs:=c_ (fa0 (vP (pb E6 8) 0))<|c_ (ld_ 4 (hrd:=by exact rd3 rfl))<|c_ (ld_ 0 (hrd:=by exact rd24 rfl rfl rfl))<|c_ (fa0 (vP (pb E1 1) 0))<|c_ (ld_ 1 (hrd:=by exact rd3 rfl))<|c_ (cw_ Tryz.func37 (h:=fun _ env _ wd hA=>⟨_,(rchange_any _ es u x d wd (hv.gn hA.j.st.gr) hp),rfl⟩))<|c_ (bi0 (vI 86400) (vI (chgV es d)))<|c_ (bi0 (vI (s+1)) (vI (86400+(chgV es d))) (h:=by intro env w;simp [go_sem,c2]))<|e_) (k:=fun E10 ac wd h_10=>?_)
  clear h_9
  refine then_n ?_
  refine wp_cond_true (eval_tmp (h_10.g (t:=77) rfl)) ?_
  refine rf_ h_10 (tri 5) [K_ (vP (pb E1 1) 0),K_ (vI d),K_ (vI (d+1)),K_ (vL (d+1) 0 0),none] (fun E11=>[(4,bF),(7,vP (pb E4 6) 0),(8,vI 0),(9,vP (pb E5 7) 0),(10,vI 0),(11,vP (pb E6 8) 0)]) (S:=[⟨4,4,fun _=>[vI (d+1),vI 0,vI 0]⟩]) (M':=fun E11=>[((pb E1 0),24,[vI u,vI x,.slice A0 es.length c0]),((pb E1 1),26,[vI d,vI s,vI a]),((pb E4 6),26,[vI (d+1),vI 0,vI 0]),((pb E5 7),34,[vI (hi (1)),.int .u64 (lo (1))]),((pb E6 8),26,[vI (d+1),vI 0,vI 0])]) (hs:=c_ (fa0 (vP (pb E1 1) 0))<|c_ (ld_ 1 (hrd:=by exact rd3 rfl))<|c_ (bi0 (vI d) (vI 1))<|c_ (bd0 ([vI (d+1)]))<|c_ (se_ 4 (hst:=by exact fun _ _ _ hc=>st26 rfl rfl rfl rfl hc))<|e_) (k:=fun E11 ac wd h_11=>?_)
  clear h_10
  refine then_n (wp_seq ?_)
  refine rf_ h_11 [[0],[0,1],[0,1,2],r_ 4,r_ 5,r_ 6,r_ 7,[0,1,2,3,4,5,7],r_ 9,r_ 10,r_ 11,r_ 12,r_ 13,r_ 14,r_ 15,r_ 16,[0,1,2,3,4,5,6,7,8,9,10,11,12,13,14,16],r_ 18,r_ 19,r_ 20] [K_ bT,K_ bT,K_ (vI 0),K_ bT,K_ bT,K_ bT,K_ (vL (d+1) 0 0),K_ (vL (d+1) 0 0),K_ bT,K_ bT,K_ bT,K_ (vI 0),K_ bT,K_ bT,K_ bT,K_ (vW 1),K_ (vW 1),K_ bT,K_ bT,K_ bT] (fun E12=>[(4,bT)]) (hs:=c_ (cl_ Tryz.func30 (h:=fun env=>⟨_,answers27_any,rfl⟩))<|c_ mv_<|c_ (gm0 (vI 0))<|c_ (bi0 (vI 0) (vI 0) (h:=by intro env w;(first | (simp [go_sem];done) | (simp [go_sem];rfl))))<|c_ (pk0 bT bT bF (h:=by intro env w;(first | (simp [go_sem];done) | (simp [go_sem];rfl))))<|c_ mv_<|c_ (ld_ 2 (hrd:=by exact rd26 rfl rfl rfl))<|c_ (ld_ 4 (hrd:=by exact rd26 rfl rfl rfl))<|c_ (bi0 (vL (d+1) 0 0) (vL (d+1) 0 0) (h:=by intro env w;(first | (simp [go_sem];done) | (simp [go_sem];rfl))))<|c_ (pk0 bT bT bF (h:=by intro env w;(first | (simp [go_sem];done) | (simp [go_sem];rfl))))<|c_ mv_<|c_ (gm0 (vI 0))<|c_ (bi0 (vI 0) (vI 0) (h:=by intro env w;(first | (simp [go_sem];done) | (simp [go_sem];rfl))))<|c_ (pk0 bT bT bF (h:=by intro env w;(first | (simp [go_sem];done) | (simp [go_sem];rfl))))<|c_ mv_<|c_ (ld_ 3 (hrd:=by exact rd34 rfl rfl))<|c_ (cl_ Tryz.func38 (h:=fun env=>⟨_,(of_any 1 (by omega) (by omega)),rfl⟩))<|c_ (bi0 (vW 1) (vW 1) (h:=by intro env w;(first | (simp [go_sem];done) | (simp [go_sem];rfl))))<|c_ (pk0 bT bT bF (h:=by intro env w;(first | (simp [go_sem];done) | (simp [go_sem];rfl))))<|c_ mv_<|e_) (k:=fun E12 ac wd h_12=>?_)
  clear h_11
  refine then_n (wp_ret ?_)
  have s4:=h_12.g (t:=4) rfl
  refine leave (v:=.bool true) h_12.df (by simp [results,Tryz.results12,go_sem,Array.getD_eq_getD_getElem?,s4]) ?_
  exact ⟨rfl,h_12.st.below⟩
  have hst:stp es d s a=(d,s+1,0):=(by unfold stp;rw [if_neg c1,if_neg c2]);rw [hst] at n1 n2 n3
  refine rf_ h_3 [[0],[1],[0,1,2],r_ 4,r_ 5,[0,1,2,3,5],[6],[0,1,2,3,4,6,7],r_ 9] [K_ (vP c 0),K_ (vL d s a),K_ (vT2 (vL d (s+1) 0) (vI 0)),K_ (vT2 (vL d (s+1) 0) (vI 0)),K_ (vL d (s+1) 0),K_ (vI 0),KE_ fun env=>vP (pb env 6) 0,none,K_ (vI 0)] (fun E4=>[(2,vP (pb E1 0) 0),(3,vP (pb E1 1) 0),(4,bF),(5,vP c 0),(7,vP (pb E4 6) 0),(8,vI 0)]) (W:=[{ i:=6,T:=26,c0:=[vI 0,vI 0,vI 0],s:=some 7,c1:=fun _=>[vI d,vI (s+1),vI 0] }]) (M':=fun E4=>[((pb E1 0),24,[vI u,vI x,.slice A0 es.length c0]),((pb E1 1),26,[vI d,vI s,vI a]),((pb E4 6),26,[vI d,vI (s+1),vI 0])]) (hs:=c_ mv_<|c_ (ld_ 1 (hrd:=by exact rd26 rfl rfl rfl))<|c_ (s_clk (c:=c) (g:=g) (b:=b) (u:=u) (x:=x) (es:=es) Tryz.func34 (fun _ h=>h) (fun _ h=>h) (h:=fun D env ac wd hA hC=>⟨_,ClkC.eq (spNext_c _ c g b u x es hC true d s a hx0 hx1) (y_lab4 n1),rfl⟩))<|c_ mv_<|c_ ext_<|c_ ext_<|c_ (al_ 2)<|c_ (sw_ 2 6 (hst:=by exact fun _ _ _ hc=>st26 rfl rfl rfl rfl hc))<|c_ mv_<|e_) (k:=fun E4 ac wd h_4=>?_)
  clear h_3
  refine then_n (wp_seq ?_)
  refine rf_ h_4 [[0],[1],[2],r_ 4,r_ 5,r_ 6,[0,1,2,3,4,6],[7],[0,1,2,3,4,5,7,8],r_ 10] [K_ (vP c 0),K_ (vL d s a),K_ (vL d (s+1) 0),K_ (vT2 (vW 1) (vI 0)),K_ (vT2 (vW 1) (vI 0)),K_ (vW 1),K_ (vI 0),KE_ fun env=>vP (pb env 7) 0,none,K_ (vI 0)] (fun E5=>[(2,vP (pb E1 0) 0),(3,vP (pb E1 1) 0),(4,bF),(7,vP (pb E4 6) 0),(8,vI 0),(9,vP (pb E5 7) 0),(10,vI 0)]) (W:=[{ i:=7,T:=34,c0:=[vI 0,.int .u64 0],s:=some 8,c1:=fun _=>[vI (hi (1)),.int .u64 (lo (1))] }]) (M':=fun E5=>[((pb E1 0),24,[vI u,vI x,.slice A0 es.length c0]),((pb E1 1),26,[vI d,vI s,vI a]),((pb E4 6),26,[vI d,vI (s+1),vI 0]),((pb E5 7),34,[vI (hi (1)),.int .u64 (lo (1))])]) (hs:=c_ mv_<|c_ (ld_ 1 (hrd:=by exact rd26 rfl rfl rfl))<|c_ (ld_ 2 (hrd:=by exact rd26 rfl rfl rfl))<|c_ (s_clk (c:=c) (g:=g) (b:=b) (u:=u) (x:=x) (es:=es) Tryz.func33 (fun _ h=>h) (fun _ h=>h) (h:=fun D env ac wd hA hC=>⟨_,ClkC.eq (spDiff_c _ c g b u x es hC true d s a hx0 hx1 d (s+1) 0 hx0 hx1) (y_tt n3 n2),rfl⟩))<|c_ mv_<|c_ ext_<|c_ ext_<|c_ (al_ 3)<|c_ (sw_ 3 7 (hst:=by exact fun _ _ _ hc=>st34 rfl rfl rfl hc))<|c_ mv_<|e_) (k:=fun E5 ac wd h_5=>?_)
  clear h_4
  refine then_n (wp_seq ?_)
  refine rf_ h_5 [[0],[0,1],[2],[2,3],[4],[4,5],[4,5,6],r_ 8,[8],r_ 10] [K_ (vP (pb E1 1) 0),K_ (vI d),K_ (vP (pb E1 1) 1),K_ (vI s),K_ (vP (pb E1 1) 2),K_ (vI a),K_ (vI (a+1)),K_ (vL d s (a+1)),KE_ fun env=>vP (pb env 8) 0,none] (fun E6=>[(2,vP (pb E1 0) 0),(3,vP (pb E1 1) 0),(4,bF),(7,vP (pb E4 6) 0),(8,vI 0),(9,vP (pb E5 7) 0),(10,vI 0),(11,vP (pb E6 8) 0)]) (W:=[{ i:=8,T:=26,c0:=[vI 0,vI 0,vI 0],s:=some 9,c1:=fun _=>[vI d,vI s,vI (a+1)] }]) (M':=fun E6=>[((pb E1 0),24,[vI u,vI x,.slice A0 es.length c0]),((pb E1 1),26,[vI d,vI s,vI a]),((pb E4 6),26,[vI d,vI (s+1),vI 0]),((pb E5 7),34,[vI (hi (1)),.int .u64 (lo (1))]),((pb E6 8),26,[vI d,vI s,vI (a+1)])]) (hs:=c_ (fa0 (vP (pb E1 1) 0))<|c_ (ld_ 1 (hrd:=by exact rd3 rfl))<|c_ (fa0 (vP (pb E1 1) 0))<|c_ (ld_ 1 (hrd:=by exact rd3 rfl))<|c_ (fa0 (vP (pb E1 1) 0))<|c_ (ld_ 1 (hrd:=by exact rd3 rfl))<|c_ (bi0 (vI a) (vI 1))<|c_ (bd0 ([vI d,vI s,vI (a+1)]))<|c_ (al_ 4)<|c_ (sw_ 4 8 (hst:=by exact fun _ _ _ hc=>st26 rfl rfl rfl rfl hc))<|e_) (k:=fun E6 ac wd h_6=>?_)
  clear h_5
  refine then_n (wp_seq (wp_seq ?_))
  refine rf_ h_6 (tri 3) [K_ (vP (pb E6 8) 2),K_ (vI (a+1)),K_ bT] (fun E7=>[(2,vP (pb E1 0) 0),(3,vP (pb E1 1) 0),(4,bF),(7,vP (pb E4 6) 0),(8,vI 0),(9,vP (pb E5 7) 0),(10,vI 0),(11,vP (pb E6 8) 0),(64,bT)]) (hs:=c_ (fa0 (vP (pb E6 8) 0))<|c_ (ld_ 4 (hrd:=by exact rd3 rfl))<|c_ (bi0 (vI (a+1)) (vI 1000000000000000000) (h:=by intro env w;simp [go_sem];omega))<|e_) (k:=fun E7 ac wd h_7=>?_)
  clear h_6
  refine then_n ?_
  refine wp_cond_true (eval_tmp (h_7.g (t:=64) rfl)) ?_
  refine reg_cut mixed 5 [[0],[0,1],[0,1,2],[0,1,2,3],[0,1,2,3,4],[0,1,2,3,4,5],[0,1,2,3,4,5,6]] (by kernel_rfl) h_7 [some 65,some 66,some 67,some 68,none] [[0],[0,1],[0,1,2],[0,1,2,3],[0,1,2,3,4]] [⟨4,4,fun _=>[vI d,vI (s+1),vI (a+1)]⟩] [] [some fun _=>vP (pb E1 1) 1,some fun _=>vI s,some fun _=>vI (s+1),some fun _=>vP (pb E6 8) 1,none] [] none rfl (by kernel_rfl) (by kernel_rfl) (sn (sn (sn (sn (sn s0 ?_) ?_) ?_) ?_) ?_) ?_
  · exact (fa0 (vP (pb E1 1) 0))
  · exact (ld_ 1 (hrd:=by exact rd3 rfl))
  · exact (bi0 (vI s) (vI 1))
  · exact (fa0 (vP (pb E6 8) 0))
  · exact (se_ 4 (hst:=by exact fun _ _ _ hc=>st3 rfl rfl hc))
  intro E8 ac wd hJ
  have h_8:Cur 101 w0 none (some g) (Facts []) (fun w=>IsC w c g b u x es) [(2,vP (pb E1 0) 0),(3,vP (pb E1 1) 0),(4,.bool false),(7,vP (pb E4 6) 0),(8,vI 0),(9,vP (pb E5 7) 0),(10,vI 0),(11,vP (pb E6 8) 0)] [((pb E1 0),24,[vI u,vI x,.slice A0 es.length c0]),((pb E1 1),26,[vI d,vI s,vI a]),((pb E4 6),26,[vI d,vI (s+1),vI 0]),((pb E5 7),34,[vI (hi (1)),.int .u64 (lo (1))]),((pb E6 8),26,[vI d,vI (s+1),vI (a+1)])] ac wd:=hJ.curF rfl rfl rfl (fun _ h=>h) rfl rfl rfl
  clear hJ h_7
  refine reg_rest h_8 [some 69,none] [[0],[0,1]] [⟨4,1,fun _=>[vI d,vI (s+1),vI 0]⟩] [] [some fun _=>vP (pb E6 8) 2,none] [] none rfl (by kernel_rfl) (by kernel_rfl) (by kernel_rfl) (sn (sn s0 ?_) ?_) ?_
  · exact (fa0 (vP (pb E6 8) 0))
  · exact (se_ 4 (hst:=by exact fun _ _ _ hc=>st3 rfl rfl hc))
  intro E9 ac wd hJ
  have h_9:Cur 101 w0 none (some g) (Facts []) (fun w=>IsC w c g b u x es) [(2,vP (pb E1 0) 0),(3,vP (pb E1 1) 0),(4,.bool false),(7,vP (pb E4 6) 0),(8,vI 0),(9,vP (pb E5 7) 0),(10,vI 0),(11,vP (pb E6 8) 0)] [((pb E1 0),24,[vI u,vI x,.slice A0 es.length c0]),((pb E1 1),26,[vI d,vI s,vI a]),((pb E4 6),26,[vI d,vI (s+1),vI 0]),((pb E5 7),34,[vI (hi (1)),.int .u64 (lo (1))]),((pb E6 8),26,[vI d,vI (s+1),vI 0])] ac wd:=hJ.curF rfl rfl rfl (fun _ h=>h) rfl rfl rfl
  clear hJ h_8
  refine then_n (wp_seq (wp_seq ?_))
  refine rf_ h_9 [[0],[0,1],[2],[3],[3,4],[2,3,4,5],[2,3,4,5,6],r_ 8] [K_ (vP (pb E6 8) 1),K_ (vI (s+1)),K_ (.agg #[vI u,vI x,.slice A0 es.length c0]),K_ (vP (pb E1 1) 0),K_ (vI d),K_ (vI (chgV es d)),K_ (vI (86400+(chgV es d))),K_ bF] (fun E10=>[(3,vP (pb E1 1) 0),(4,bF),(7,vP (pb E4 6) 0),(8,vI 0),(9,vP (pb E5 7) 0),(10,vI 0),(11,vP (pb E6 8) 0),(77,bF)]) (hs:=c_ (fa0 (vP (pb E6 8) 0))<|c_ (ld_ 4 (hrd:=by exact rd3 rfl))<|c_ (ld_ 0 (hrd:=by exact rd24 rfl rfl rfl))<|c_ (fa0 (vP (pb E1 1) 0))<|c_ (ld_ 1 (hrd:=by exact rd3 rfl))<|c_ (cw_ Tryz.func37 (h:=fun _ env _ wd hA=>⟨_,(rchange_any _ es u x d wd (hv.gn hA.j.st.gr) hp),rfl⟩))<|c_ (bi0 (vI 86400) (vI (chgV es d)))<|c_ (bi0 (vI (s+1)) (vI (86400+(chgV es d))) (h:=by intro env w;simp [go_sem,c2]))<|e_) (k:=fun E10 ac wd h_10=>?_)
  clear h_9
  refine then_n ?_
  refine wp_cond_false (eval_tmp (h_10.g (t:=77) rfl)) ?_
  refine wp_skip (then_n (wp_seq ?_))
  refine rf_ h_10 [[0],[0,1],[0,1,2],r_ 4,r_ 5,r_ 6,r_ 7,[0,1,2,3,4,5,7],r_ 9,r_ 10,r_ 11,r_ 12,r_ 13,r_ 14,r_ 15,r_ 16,[0,1,2,3,4,5,6,7,8,9,10,11,12,13,14,16],r_ 18,r_ 19,r_ 20] [K_ bT,K_ bT,K_ (vI 0),K_ bT,K_ bT,K_ bT,K_ (vL d (s+1) 0),K_ (vL d (s+1) 0),K_ bT,K_ bT,K_ bT,K_ (vI 0),K_ bT,K_ bT,K_ bT,K_ (vW 1),K_ (vW 1),K_ bT,K_ bT,K_ bT] (fun E11=>[(4,bT)]) (hs:=c_ (cl_ Tryz.func30 (h:=fun env=>⟨_,answers27_any,rfl⟩))<|c_ mv_<|c_ (gm0 (vI 0))<|c_ (bi0 (vI 0) (vI 0) (h:=by intro env w;(first | (simp [go_sem];done) | (simp [go_sem];rfl))))<|c_ (pk0 bT bT bF (h:=by intro env w;(first | (simp [go_sem];done) | (simp [go_sem];rfl))))<|c_ mv_<|c_ (ld_ 2 (hrd:=by exact rd26 rfl rfl rfl))<|c_ (ld_ 4 (hrd:=by exact rd26 rfl rfl rfl))<|c_ (bi0 (vL d (s+1) 0) (vL d (s+1) 0) (h:=by intro env w;(first | (simp [go_sem];done) | (simp [go_sem];rfl))))<|c_ (pk0 bT bT bF (h:=by intro env w;(first | (simp [go_sem];done) | (simp [go_sem];rfl))))<|c_ mv_<|c_ (gm0 (vI 0))<|c_ (bi0 (vI 0) (vI 0) (h:=by intro env w;(first | (simp [go_sem];done) | (simp [go_sem];rfl))))<|c_ (pk0 bT bT bF (h:=by intro env w;(first | (simp [go_sem];done) | (simp [go_sem];rfl))))<|c_ mv_<|c_ (ld_ 3 (hrd:=by exact rd34 rfl rfl))<|c_ (cl_ Tryz.func38 (h:=fun env=>⟨_,(of_any 1 (by omega) (by omega)),rfl⟩))<|c_ (bi0 (vW 1) (vW 1) (h:=by intro env w;(first | (simp [go_sem];done) | (simp [go_sem];rfl))))<|c_ (pk0 bT bT bF (h:=by intro env w;(first | (simp [go_sem];done) | (simp [go_sem];rfl))))<|c_ mv_<|e_) (k:=fun E11 ac wd h_11=>?_)
  clear h_10
  refine then_n (wp_ret ?_)
  have s4:=h_11.g (t:=4) rfl
  refine leave (v:=.bool true) h_11.df (by simp [results,Tryz.results12,go_sem,Array.getD_eq_getD_getElem?,s4]) ?_
  exact ⟨rfl,h_11.st.below⟩
  refine rf_ h_2 [[0],[0,1],[0,1,2],r_ 4,r_ 5,[0,1,2,5],[0,1,2,5,6],[0,1,2,5,6,7],[0,1,2,5,6,7,8],[0,1,2,5,6,7,8,9],r_ 11,r_ 12,r_ 13,r_ 14,r_ 15,r_ 16,r_ 17,r_ 18,r_ 19,[0,1,2,3,4,5,6,7,8,9,10,11,12,13,14,15,16,17,19],r_ 21,r_ 22,r_ 23] [K_ (vI 0),K_ bF,K_ bF,K_ (vP (pb E1 1) 0),K_ (vI d),K_ (vP (pb E1 0) 2),K_ (.slice A0 es.length c0),K_ (elt (.slice A0 es.length c0) (0*2)),K_ (.agg #[vI ((es.getD 0 (0,0)).1),vI ((es.getD 0 (0,0)).2)]),K_ (vI (day0 es)),K_ bF,K_ bF,K_ bF,K_ (vP (pb E1 1) 0),K_ (vI d),K_ bF,K_ bF,K_ bF,K_ (vP c 0),K_ (vL d s a),K_ bF,K_ bT,K_ bT] (fun E3=>[(2,vP (pb E1 0) 0),(3,vP (pb E1 1) 0),(4,bF),(5,vP c 0),(39,bT)]) (hs:=c_ mv_<|c_ (bi0 (vI 0) (vI 0) (h:=by intro env w;(first | (simp [go_sem];done) | (simp [go_sem];rfl))))<|c_ mv_<|c_ (fa0 (vP (pb E1 1) 0))<|c_ (ld_ 1 (hrd:=by exact rd3 rfl))<|c_ (fa0 (vP (pb E1 0) 0))<|c_ (ld_ 0 (hrd:=by exact rd22 rfl))<|c_ (ia_ Tryz.underlying22 sz70 0 (0*2) 0 (fun _ env _ wd hA=>(hv.gn hA.j.st.gr).els) (rfl) (hn0) rfl)<|c_ (le_ (0*2) (fun _ env _ wd hA=>(hv.gn hA.j.st.gr).els) (by omega) (le70 (by exact enC_0 es 0) (by exact enC_1 es 0)))<|c_ (cl_ Tryz.func36 (h:=fun env=>⟨_,(Ret.eq (rday_any (es.getD 0 (0,0)).1 (es.getD 0 (0,0)).2 hb0.1 hb0.2.1) (y_day0 es)),rfl⟩))<|c_ (bi0 (vI d) (vI (day0 es)) (h:=by intro env w;simp [go_sem,h1]))<|c_ (pk0 bF bT bF (h:=by intro env w;simp [go_sem,h1]))<|c_ mv_<|c_ (fa0 (vP (pb E1 1) 0))<|c_ (ld_ 1 (hrd:=by exact rd3 rfl))<|c_ (bi0 (vI d) (vI 1099511627776) (h:=by intro env w;simp [go_sem,h2]))<|c_ (pk0 bF bT bF (h:=by intro env w;simp [go_sem,h2]))<|c_ mv_<|c_ (gm0 (vP c 0))<|c_ (ld_ 1 (hrd:=by exact rd26 rfl rfl rfl))<|c_ (s_clk (c:=c) (g:=g) (b:=b) (u:=u) (x:=x) (es:=es) Tryz.func17 (fun _ h=>h) (fun _ h=>h) (h:=fun D env ac wd hA hC=>⟨_,ClkC.eq (cexists_c _ c g b u x es hC d s a hx0 hx1) (y_exn he),rfl⟩))<|c_ (un0 bF)<|c_ (pk0 bF bT bT)<|e_) (k:=fun E3 ac wd h_3=>?_)
  clear h_2
  refine then_n ?_
  refine wp_cond_true (eval_tmp (h_3.g (t:=39) rfl)) ?_
  refine wp_seq ?_
  refine rf_ h_3 [[0],[0,1]] [K_ bT,K_ bT] (fun E4=>[(2,vP (pb E1 0) 0),(3,vP (pb E1 1) 0),(4,bT),(5,vP c 0)]) (hs:=c_ (cl_ Tryz.func30 (h:=fun env=>⟨_,answers27_any,rfl⟩))<|c_ mv_<|e_) (k:=fun E4 ac wd h_4=>?_)
  clear h_3
  refine then_n (wp_ret (then_ret ?_))
  have s4:=h_4.g (t:=4) rfl
  refine leave (v:=.bool true) h_4.df (by simp [results,Tryz.results12,go_sem,Array.getD_eq_getD_getElem?,s4]) ?_
  exact ⟨rfl,h_4.st.below⟩
theorem spanSteps_walk (w0:World) (v:Value) (es:List (Int × Int)) (u x:Int) (d s a:Int) (hx0:-9223372036854775808≤d) (hx1:d < 9223372036854775808) (hx2:-9223372036854775808≤s) (hx3:s < 9223372036854775808) (hx4:-9223372036854775808≤a) (hx5:a < 9223372036854775808) (hv:Ents w0 w0.heap.size v es) (hu:I64 u) (hx:I64 x) (hes:∀ i,I64 (es.getD i (0,0)).1∧I64 (es.getD i (0,0)).2):Calls Tryz.prog 12 #[.agg #[vI u,vI x,v],vL d s a] w0 fun e w'=>e = .returned (.bool true)∧Below w0.heap.size w0 w':=by
 have hv0:=hv
 obtain ⟨A,c,rfl,_⟩:=hv
 exact spanSteps_core w0 A c es u x d s a hx0 hx1 hx2 hx3 hx4 hx5 hv0 hu hx hes
end Go.Proofs.YtdfkghpgekmmlaaGreat
