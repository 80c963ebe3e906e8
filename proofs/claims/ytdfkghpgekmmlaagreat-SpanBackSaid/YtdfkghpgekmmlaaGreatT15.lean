/- Texts GSBack of one proof, one behind the other; what nothing here names is left out. -/
import Derived.Test.YtdfkghpgekmmlaaGreatT11
import Derived.Test.YtdfkghpgekmmlaaGreatT9
import Derived.Test.YtdfkghpgekmmlaaGreatZ4
import Derived.IntWalk
set_option maxRecDepth 100000
set_option maxHeartbeats 8000000
set_option linter.unusedVariables false
set_option linter.unusedSimpArgs false
namespace Go.Proofs.YtdfkghpgekmmlaaGreat
open Go.RowKit
attribute [local go_sem] vN bT bF rS vW vM vL vT2 vT3 vP vI execOp Act.eval evC bigF vB hi_zero lo_zero Tryz.underlying24 Tryz.underlying26 Tryz.underlying34
theorem spanBack_core (w0:World) (A0:Option Addr) (c0:Nat) (es:List (Int × Int)) (u x:Int) (d s a:Int) (hx0:-9223372036854775808≤d) (hx1:d < 9223372036854775808) (hx2:-9223372036854775808≤s) (hx3:s < 9223372036854775808) (hx4:-9223372036854775808≤a) (hx5:a < 9223372036854775808) (k:Int) (hk:InW k) (hv:Ents w0 w0.heap.size (.slice A0 es.length c0) es) (hu:I64 u) (hx:I64 x) (hes:∀ i,I64 (es.getD i (0,0)).1∧I64 (es.getD i (0,0)).2):Calls Tryz.prog 11 #[.agg #[vI u,vI x,.slice A0 es.length c0],vL d s a,vW k] w0 fun e w'=>e = .returned (.bool true)∧Below w0.heap.size w0 w':=by
 have hst:=St.start w0 (Θ:=fun _=>True) (fun _ _=>trivial)
 refine enter Tryz.func11 rfl (n:=58) rfl (Nat.le_of_ble_eq_true rfl) hst (L:=[(0,.agg #[vI u,vI x,.slice A0 es.length c0]),(1,vL d s a),(2,vW k)]) (lk_args rfl) (fun ac h=>?_)
 replace h:=h.facts
 refine wp_seq ?_
 refine rf_ h [[0],[1],[2],[3]] [KE_ fun env=>vP (pb env 0) 0,KE_ fun env=>vP (pb env 1) 0,KE_ fun env=>vP (pb env 2) 0,K_ bF] (fun E1=>[(3,vP (pb E1 0) 0),(4,vP (pb E1 1) 0),(5,vP (pb E1 2) 0),(6,bF)]) (W:=[{ i:=0,T:=24,c0:=[vI u,vI x,.slice A0 es.length c0] },{ i:=1,T:=26,c0:=[vI d,vI s,vI a] },{ i:=2,T:=34,c0:=[vI (hi (k)),.int .u64 (lo (k))] }]) (M':=fun E1=>[((pb E1 0),24,[vI u,vI x,.slice A0 es.length c0]),((pb E1 1),26,[vI d,vI s,vI a]),((pb E1 2),34,[vI (hi (k)),.int .u64 (lo (k))])]) (hs:=c_ (bx0 0 (.agg #[vI u,vI x,.slice A0 es.length c0]))<|c_ (bx0 1 (vL d s a))<|c_ (bx0 2 (vW k))<|c_ mv_<|e_) (k:=fun E1 ac wd h_1=>?_)
 clear h
 refine then_n (wp_seq ?_)
 cases hok:okT u x es
 refine rf_ h_1 [[0],[0,1],[0,1,2],r_ 4,[0,1,2,4],[0,1,2,3,5],r_ 7] [K_ (.agg #[vI u,vI x,.slice A0 es.length c0]),K_ (vT2 (.pointer none) (vI 10)),K_ (vT2 (.pointer none) (vI 10)),K_ (.pointer none),K_ (vI 10),K_ (.pointer none),K_ (vI 10)] (fun E2=>[(3,vP (pb E1 0) 0),(4,vP (pb E1 1) 0),(5,vP (pb E1 2) 0),(6,bF),(7,.pointer none),(8,vI 10)]) (hs:=c_ (ld_ 0 (hrd:=by exact rd24 rfl rfl rfl))<|c_ (cw_ Tryz.func13 (h:=fun _ env _ wd hA=>⟨_,cnew_no (hv.gn hA.j.st.gr) hu hx hes hok,rfl⟩))<|c_ mv_<|c_ ext_<|c_ ext_<|c_ mv_<|c_ mv_<|e_) (k:=fun E2 ac wd h_2=>?_)
 clear h_1
 refine then_n (wp_seq (wp_seq ?_))
 refine rf_ h_2 [[0],[0,1]] [K_ (vI 10),K_ bT] (fun E3=>[(3,vP (pb E1 0) 0),(4,vP (pb E1 1) 0),(5,vP (pb E1 2) 0),(6,bF),(7,.pointer none),(19,bT)]) (hs:=c_ mv_<|c_ (bi0 (vI 10) (vI 0))<|e_) (k:=fun E3 ac wd h_3=>?_)
 clear h_2
 refine then_n ?_
 refine wp_cond_true (eval_tmp (h_3.g (t:=19) rfl)) ?_
 refine wp_seq ?_
 refine rf_ h_3 [[0],[0,1]] [K_ bT,K_ bT] (fun E4=>[(3,vP (pb E1 0) 0),(4,vP (pb E1 1) 0),(5,vP (pb E1 2) 0),(6,bT),(7,.pointer none)]) (hs:=c_ (cl_ Tryz.func30 (h:=fun env=>⟨_,answers27_any,rfl⟩))<|c_ mv_<|e_) (k:=fun E4 ac wd h_4=>?_)
 clear h_3
 refine then_n (wp_ret (then_ret ?_))
 have s6:=h_4.g (t:=6) rfl
 refine leave (v:=.bool true) h_4.df (by simp [results,Tryz.results11,go_sem,Array.getD_eq_getD_getElem?,s6]) ?_
 exact ⟨rfl,h_4.st.below⟩
 obtain ⟨hp,hn0,_⟩:=okT_pre hok
 refine rf_ h_1 [[0],[0,1],[0,1,2],r_ 4,[0,1,2,4],[0,1,2,3,5],r_ 7] [K_ (.agg #[vI u,vI x,.slice A0 es.length c0]),KE_ fun env=>vT2 (vP (ptrB (tp (env 1) 0)) 0) (vI 0),KE_ fun env=>vT2 (vP (ptrB (tp (env 1) 0)) 0) (vI 0),KE_ fun env=>vP (ptrB (tp (env 1) 0)) 0,K_ (vI 0),KE_ fun env=>vP (ptrB (tp (env 1) 0)) 0,K_ (vI 0)] (fun E2=>[(3,vP (pb E1 0) 0),(4,vP (pb E1 1) 0),(5,vP (pb E1 2) 0),(6,bF),(7,vP (ptrB (tp (E2 1) 0)) 0),(8,vI 0)]) (F:=[(1,fun env w=>NewCx w (env 1) u x es w0.heap.size)]) (L1:=fun E2=>[fun w=>NewCx w (E2 1) u x es w0.heap.size]) (hs:=c_ (ld_ 0 (hrd:=by exact rd24 rfl rfl rfl))<|c_ (s_factT rfl rfl rfl Tryz.func13 (by kernel_rfl) rfl (fun _=>wanted_none rfl _) (fun v w=>NewCx w v u x es w0.heap.size) newLF rfl rfl cT rfl (fun v w h=>h.form) (fun v w w' hk h=>h.keep hk) (fun {D env ac wd} hA=>⟨_,hA.args (vs:=[.agg #[vI u,vI x,.slice A0 es.length c0]]) rfl,cnew_yes hA.j.st.gr.size (hv.gn hA.j.st.gr) hu hx hes hok⟩))<|c_ mv_<|c_ ext_<|c_ ext_<|c_ mv_<|c_ mv_<|e_) (k:=fun E2 ac wd h_2=>?_)
 clear h_1
 refine then_n (wp_seq (wp_seq ?_))
 replace h_2:=Cur.exInC h_2 0 rfl;obtain ⟨g,b,h_2⟩:=h_2;generalize ptrB (tp (E2 1) 0)=c at h_2
 refine rf_ h_2 [[0],[0,1]] [K_ (vI 0),K_ bF] (fun E3=>[(3,vP (pb E1 0) 0),(4,vP (pb E1 1) 0),(5,vP (pb E1 2) 0),(6,bF),(7,vP c 0),(19,bF)]) (hs:=c_ mv_<|c_ (bi0 (vI 0) (vI 0) (h:=by intro env w;(first | (simp [go_sem];done) | (simp [go_sem];rfl))))<|e_) (k:=fun E3 ac wd h_3=>?_)
 clear h_2
 refine then_n ?_
 refine wp_cond_false (eval_tmp (h_3.g (t:=19) rfl)) ?_
 refine wp_skip (then_n (wp_seq ?_))
 obtain ⟨⟨e,p,q,r⟩,hA4⟩:∃ y,spA es x true d s a k=y:=⟨_,rfl⟩;have hb0:=okPre_num hp (i:=0) hn0
 refine rf_ h_3 [[0],[1],[2],r_ 4,r_ 5,r_ 6,[0,1,2,3,4,6],[7],[0,1,2,3,4,5,7,8],r_ 10] [K_ (vP c 0),K_ (vL d s a),K_ (vW k),K_ (vT2 (vL p q r) (vI e)),K_ (vT2 (vL p q r) (vI e)),K_ (vL p q r),K_ (vI e),KE_ fun env=>vP (pb env 7) 0,none,K_ (vI e)] (fun E4=>[(3,vP (pb E1 0) 0),(4,vP (pb E1 1) 0),(5,vP (pb E1 2) 0),(6,bF),(7,vP c 0),(9,vP (pb E4 7) 0),(10,vI e)]) (W:=[{ i:=7,T:=26,c0:=[vI 0,vI 0,vI 0],s:=some 8,c1:=fun _=>[vI p,vI q,vI r] }]) (M':=fun E4=>[((pb E1 0),24,[vI u,vI x,.slice A0 es.length c0]),((pb E1 1),26,[vI d,vI s,vI a]),((pb E1 2),34,[vI (hi (k)),.int .u64 (lo (k))]),((pb E4 7),26,[vI p,vI q,vI r])]) (hs:=c_ mv_<|c_ (ld_ 1 (hrd:=by exact rd26 rfl rfl rfl))<|c_ (ld_ 2 (hrd:=by exact rd34 rfl rfl))<|c_ (s_clk (c:=c) (g:=g) (b:=b) (u:=u) (x:=x) (es:=es) Tryz.func31 (fun _ h=>h) (fun _ h=>h) (h:=fun D env ac wd hA hC=>⟨_,ClkC.eq (spAdd_c _ c g b u x es hC true d s a hx0 hx1 k hk) (y_lab4 hA4),rfl⟩))<|c_ mv_<|c_ ext_<|c_ ext_<|c_ (al_ 3)<|c_ (sw_ 3 7 (hst:=by exact fun _ _ _ hc=>st26 rfl rfl rfl rfl hc))<|c_ mv_<|e_) (k:=fun E4 ac wd h_4=>?_)
 clear h_3
 refine then_n (wp_seq (wp_seq ?_))
 by_cases hf:e=0
 obtain rfl:0=e:=hf.symm;obtain ⟨b1,b2,b3,b4,b5,b6⟩:=spA_bd hp hn0 hA4
 by_cases hdd:p < day0 es
 refine rf_ h_4 [[0],[0,1],[0,1,2],r_ 4,r_ 5,[0,1,2,5],[0,1,2,5,6],[0,1,2,5,6,7],[0,1,2,5,6,7,8],[0,1,2,5,6,7,8,9],r_ 11,r_ 12] [K_ (vI 0),K_ bF,K_ bF,K_ (vP (pb E4 7) 0),K_ (vI p),K_ (vP (pb E1 0) 2),K_ (.slice A0 es.length c0),K_ (elt (.slice A0 es.length c0) (0*2)),K_ (.agg #[vI ((es.getD 0 (0,0)).1),vI ((es.getD 0 (0,0)).2)]),K_ (vI (day0 es)),K_ bT,K_ bT] (fun E5=>[(4,vP (pb E1 1) 0),(5,vP (pb E1 2) 0),(6,bF),(7,vP c 0),(9,vP (pb E4 7) 0),(39,bT)]) (hs:=c_ mv_<|c_ (bi0 (vI 0) (vI 0) (h:=by intro env w;(first | (simp [go_sem];done) | (simp [go_sem];rfl))))<|c_ mv_<|c_ (fa0 (vP (pb E4 7) 0))<|c_ (ld_ 3 (hrd:=by exact rd3 rfl))<|c_ (fa0 (vP (pb E1 0) 0))<|c_ (ld_ 0 (hrd:=by exact rd22 rfl))<|c_ (ia_ Tryz.underlying22 sz70 0 (0*2) 0 (fun _ env _ wd hA=>(hv.gn hA.j.st.gr).els) (rfl) (hn0) rfl)<|c_ (le_ (0*2) (fun _ env _ wd hA=>(hv.gn hA.j.st.gr).els) (by omega) (le70 (by exact enC_0 es 0) (by exact enC_1 es 0)))<|c_ (cl_ Tryz.func36 (h:=fun env=>⟨_,(Ret.eq (rday_any (es.getD 0 (0,0)).1 (es.getD 0 (0,0)).2 hb0.1 hb0.2.1) (y_day0 es)),rfl⟩))<|c_ (bi0 (vI p) (vI (day0 es)) (h:=by intro env w;simp [go_sem,hdd]))<|c_ (pk0 bF bT bT (h:=by intro env w;simp [go_sem,hdd]))<|e_) (k:=fun E5 ac wd h_5=>?_)
 clear h_4
 refine then_n ?_
 refine wp_cond_true (eval_tmp (h_5.g (t:=39) rfl)) ?_
 refine wp_seq ?_
 refine rf_ h_5 [[0],[0,1]] [K_ bT,K_ bT] (fun E6=>[(4,vP (pb E1 1) 0),(5,vP (pb E1 2) 0),(6,bT),(7,vP c 0),(9,vP (pb E4 7) 0)]) (hs:=c_ (cl_ Tryz.func30 (h:=fun env=>⟨_,answers27_any,rfl⟩))<|c_ mv_<|e_) (k:=fun E6 ac wd h_6=>?_)
 clear h_5
 refine then_n (wp_ret (then_ret ?_))
 have s6:=h_6.g (t:=6) rfl
 refine leave (v:=.bool true) h_6.df (by simp [results,Tryz.results11,go_sem,Array.getD_eq_getD_getElem?,s6]) ?_
 exact ⟨rfl,h_6.st.below⟩
 obtain ⟨g2,g1⟩:=sp_back hp hn0 hA4 (by omega)
 refine rf_ h_4 [[0],[0,1],[0,1,2],r_ 4,r_ 5,[0,1,2,5],[0,1,2,5,6],[0,1,2,5,6,7],[0,1,2,5,6,7,8],[0,1,2,5,6,7,8,9],r_ 11,r_ 12] [K_ (vI 0),K_ bF,K_ bF,K_ (vP (pb E4 7) 0),K_ (vI p),K_ (vP (pb E1 0) 2),K_ (.slice A0 es.length c0),K_ (elt (.slice A0 es.length c0) (0*2)),K_ (.agg #[vI ((es.getD 0 (0,0)).1),vI ((es.getD 0 (0,0)).2)]),K_ (vI (day0 es)),K_ bF,K_ bF] (fun E5=>[(4,vP (pb E1 1) 0),(5,vP (pb E1 2) 0),(6,bF),(7,vP c 0),(9,vP (pb E4 7) 0),(39,bF)]) (hs:=c_ mv_<|c_ (bi0 (vI 0) (vI 0) (h:=by intro env w;(first | (simp [go_sem];done) | (simp [go_sem];rfl))))<|c_ mv_<|c_ (fa0 (vP (pb E4 7) 0))<|c_ (ld_ 3 (hrd:=by exact rd3 rfl))<|c_ (fa0 (vP (pb E1 0) 0))<|c_ (ld_ 0 (hrd:=by exact rd22 rfl))<|c_ (ia_ Tryz.underlying22 sz70 0 (0*2) 0 (fun _ env _ wd hA=>(hv.gn hA.j.st.gr).els) (rfl) (hn0) rfl)<|c_ (le_ (0*2) (fun _ env _ wd hA=>(hv.gn hA.j.st.gr).els) (by omega) (le70 (by exact enC_0 es 0) (by exact enC_1 es 0)))<|c_ (cl_ Tryz.func36 (h:=fun env=>⟨_,(Ret.eq (rday_any (es.getD 0 (0,0)).1 (es.getD 0 (0,0)).2 hb0.1 hb0.2.1) (y_day0 es)),rfl⟩))<|c_ (bi0 (vI p) (vI (day0 es)) (h:=by intro env w;simp [go_sem,hdd]))<|c_ (pk0 bF bT bF (h:=by intro env w;simp [go_sem,hdd]))<|e_) (k:=fun E5 ac wd h_5=>?_)
 clear h_4
 refine then_n ?_
 refine wp_cond_false (eval_tmp (h_5.g (t:=39) rfl)) ?_
 refine wp_skip (then_n (wp_seq ?_))
 refine rf_ h_5 [[0],[1],[2],r_ 4,r_ 5,r_ 6,[0,1,2,3,4,6],[7],[0,1,2,3,4,5,7,8],r_ 10] [K_ (vP c 0),K_ (vL d s a),K_ (vL p q r),K_ (vT2 (vW k) (vI 0)),K_ (vT2 (vW k) (vI 0)),K_ (vW k),K_ (vI 0),KE_ fun env=>vP (pb env 7) 0,none,K_ (vI 0)] (fun E6=>[(5,vP (pb E1 2) 0),(6,bF),(11,vP (pb E6 7) 0),(12,vI 0)]) (W:=[{ i:=7,T:=34,c0:=[vI 0,.int .u64 0],s:=some 8,c1:=fun _=>[vI (hi (k)),.int .u64 (lo (k))] }]) (M':=fun E6=>[((pb E1 0),24,[vI u,vI x,.slice A0 es.length c0]),((pb E1 1),26,[vI d,vI s,vI a]),((pb E1 2),34,[vI (hi (k)),.int .u64 (lo (k))]),((pb E4 7),26,[vI p,vI q,vI r]),((pb E6 7),34,[vI (hi (k)),.int .u64 (lo (k))])]) (hs:=c_ mv_<|c_ (ld_ 1 (hrd:=by exact rd26 rfl rfl rfl))<|c_ (ld_ 3 (hrd:=by exact rd26 rfl rfl rfl))<|c_ (s_clk (c:=c) (g:=g) (b:=b) (u:=u) (x:=x) (es:=es) Tryz.func33 (fun _ h=>h) (fun _ h=>h) (h:=fun D env ac wd hA hC=>⟨_,ClkC.eq (spDiff_c _ c g b u x es hC true d s a hx0 hx1 p q r (by omega) (by omega)) (y_tt g1 g2),rfl⟩))<|c_ mv_<|c_ ext_<|c_ ext_<|c_ (al_ 4)<|c_ (sw_ 4 7 (hst:=by exact fun _ _ _ hc=>st34 rfl rfl rfl hc))<|c_ mv_<|e_) (k:=fun E6 ac wd h_6=>?_)
 clear h_5
 refine then_n (wp_seq ?_)
 refine rf_ h_6 [[0],[0,1],[0,1,2],r_ 4,r_ 5,r_ 6,r_ 7,[0,1,2,3,4,5,7],r_ 9,r_ 10,r_ 11] [K_ bT,K_ bT,K_ (vI 0),K_ bT,K_ bT,K_ bT,K_ (vW k),K_ (vW k),K_ bT,K_ bT,K_ bT] (fun E7=>[(6,bT)]) (hs:=c_ (cl_ Tryz.func30 (h:=fun env=>⟨_,answers27_any,rfl⟩))<|c_ mv_<|c_ (gm0 (vI 0))<|c_ (bi0 (vI 0) (vI 0) (h:=by intro env w;(first | (simp [go_sem];done) | (simp [go_sem];rfl))))<|c_ (pk0 bT bT bF (h:=by intro env w;(first | (simp [go_sem];done) | (simp [go_sem];rfl))))<|c_ mv_<|c_ (ld_ 4 (hrd:=by exact rd34 rfl rfl))<|c_ (ld_ 2 (hrd:=by exact rd34 rfl rfl))<|c_ (bi0 (vW k) (vW k) (h:=by intro env w;(first | (simp [go_sem];done) | (simp [go_sem];rfl))))<|c_ (pk0 bT bT bF (h:=by intro env w;(first | (simp [go_sem];done) | (simp [go_sem];rfl))))<|c_ mv_<|e_) (k:=fun E7 ac wd h_7=>?_)
 clear h_6
 refine then_n (wp_ret ?_)
 have s6:=h_7.g (t:=6) rfl
 refine leave (v:=.bool true) h_7.df (by simp [results,Tryz.results11,go_sem,Array.getD_eq_getD_getElem?,s6]) ?_
 exact ⟨rfl,h_7.st.below⟩
 refine rf_ h_4 [[0],[0,1],[0,1,2],r_ 4,r_ 5,[0,1,2,5],[0,1,2,5,6],[0,1,2,5,6,7],[0,1,2,5,6,7,8],[0,1,2,5,6,7,8,9],r_ 11,r_ 12] [K_ (vI e),K_ bT,K_ bT,K_ undef,K_ undef,K_ undef,K_ undef,K_ undef,K_ undef,K_ undef,K_ undef,K_ bT] (fun E5=>[(4,vP (pb E1 1) 0),(5,vP (pb E1 2) 0),(6,bF),(7,vP c 0),(9,vP (pb E4 7) 0),(39,bT)]) (hs:=c_ mv_<|c_ (bi0 (vI e) (vI 0) (h:=by intro env w;simp [go_sem,hf]))<|c_ mv_<|c_ off_<|c_ off_<|c_ off_<|c_ off_<|c_ off_<|c_ off_<|c_ off_<|c_ off_<|c_ (pk0 bT bT undef)<|e_) (k:=fun E5 ac wd h_5=>?_)
 clear h_4
 refine then_n ?_
 refine wp_cond_true (eval_tmp (h_5.g (t:=39) rfl)) ?_
 refine wp_seq ?_
 refine rf_ h_5 [[0],[0,1]] [K_ bT,K_ bT] (fun E6=>[(4,vP (pb E1 1) 0),(5,vP (pb E1 2) 0),(6,bT),(7,vP c 0),(9,vP (pb E4 7) 0)]) (hs:=c_ (cl_ Tryz.func30 (h:=fun env=>⟨_,answers27_any,rfl⟩))<|c_ mv_<|e_) (k:=fun E6 ac wd h_6=>?_)
 clear h_5
 refine then_n (wp_ret (then_ret ?_))
 have s6:=h_6.g (t:=6) rfl
 refine leave (v:=.bool true) h_6.df (by simp [results,Tryz.results11,go_sem,Array.getD_eq_getD_getElem?,s6]) ?_
 exact ⟨rfl,h_6.st.below⟩
theorem spanBack_walk (w0:World) (v:Value) (es:List (Int × Int)) (u x:Int) (d s a:Int) (hx0:-9223372036854775808≤d) (hx1:d < 9223372036854775808) (hx2:-9223372036854775808≤s) (hx3:s < 9223372036854775808) (hx4:-9223372036854775808≤a) (hx5:a < 9223372036854775808) (k:Int) (hk:InW k) (hv:Ents w0 w0.heap.size v es) (hu:I64 u) (hx:I64 x) (hes:∀ i,I64 (es.getD i (0,0)).1∧I64 (es.getD i (0,0)).2):Calls Tryz.prog 11 #[.agg #[vI u,vI x,v],vL d s a,vW k] w0 fun e w'=>e = .returned (.bool true)∧Below w0.heap.size w0 w':=by
 have hv0:=hv
 obtain ⟨A,c,rfl,_⟩:=hv
 exact spanBack_core w0 A c es u x d s a hx0 hx1 hx2 hx3 hx4 hx5 k hk hv0 hu hx hes
end Go.Proofs.YtdfkghpgekmmlaaGreat
