/- Texts GXBack of one proof, one behind the other; what nothing here names is left out. -/
import Derived.Test.YtdfkghpgekmmlabGreatT11
import Derived.Test.YtdfkghpgekmmlabGreatZ4
import Derived.IntWalk
set_option maxRecDepth 100000
set_option maxHeartbeats 8000000
set_option linter.unusedVariables false
set_option linter.unusedSimpArgs false
namespace Go.Proofs.YtdfkghpgekmmlabGreat
open Go.RowKit
attribute [local go_sem] vN bT bF rS vW vM vL vT2 vT3 vP vI execOp Act.eval evC bigF vB hi_zero lo_zero Tryz.underlying23 Tryz.underlying26 Tryz.underlying41
theorem x_la {p q:Int × Int × Int} {k e d s a:Int} (h:p=(d,s,a)) (h2:e=0):Value.tuple #[vL p.1 p.2.1 p.2.2,vL q.1 q.2.1 q.2.2,vI k,vI e] = .tuple #[vL d s a,vL q.1 q.2.1 q.2.2,vI k,vI 0]:=by rw [h,h2]
theorem x_lb {p q:Int × Int × Int} {k e d s a:Int} (h:q=(d,s,a)) (h2:e=0):Value.tuple #[vL p.1 p.2.1 p.2.2,vL q.1 q.2.1 q.2.2,vI k,vI e] = .tuple #[vL p.1 p.2.1 p.2.2,vL d s a,vI k,vI 0]:=by rw [h,h2]
theorem unixBack_core (w0:World) (A0:Option Addr) (c0:Nat) (es:List (Int × Int)) (u x:Int) (d s a:Int) (hx0:-9223372036854775808≤d) (hx1:d < 9223372036854775808) (hx2:-9223372036854775808≤s) (hx3:s < 9223372036854775808) (hx4:-9223372036854775808≤a) (hx5:a < 9223372036854775808) (hv:Ents w0 w0.heap.size (.slice A0 es.length c0) es) (hu:I64 u) (hx:I64 x) (hes:∀ i,I64 (es.getD i (0,0)).1∧I64 (es.getD i (0,0)).2):Calls Tryz.prog 5 #[.agg #[vI u,vI x,.slice A0 es.length c0],vL d s a] w0 fun e w'=>e = .returned (.bool true)∧Below w0.heap.size w0 w':=by
 have hst:=St.start w0 (Θ:=fun _=>True) (fun _ _=>trivial)
 refine enter Tryz.func5 rfl (n:=63) rfl (Nat.le_of_ble_eq_true rfl) hst (L:=[(0,.agg #[vI u,vI x,.slice A0 es.length c0]),(1,vL d s a)]) (lk_args rfl) (fun ac h=>?_)
 replace h:=h.facts
 refine wp_seq ?_
 refine rf_ h [[0],[1],[2]] [KE_ fun env=>vP (pb env 0) 0,KE_ fun env=>vP (pb env 1) 0,K_ bF] (fun E1=>[(2,vP (pb E1 0) 0),(3,vP (pb E1 1) 0),(4,bF)]) (W:=[{ i:=0,T:=41,c0:=[vI u,vI x,.slice A0 es.length c0] },{ i:=1,T:=23,c0:=[vI d,vI s,vI a] }]) (M':=fun E1=>[((pb E1 0),41,[vI u,vI x,.slice A0 es.length c0]),((pb E1 1),23,[vI d,vI s,vI a])]) (hs:=c_ (bx0 0 (.agg #[vI u,vI x,.slice A0 es.length c0]))<|c_ (bx0 1 (vL d s a))<|c_ mv_<|e_) (k:=fun E1 ac wd h_1=>?_)
 clear h
 refine then_n (wp_seq ?_)
 cases hok:okT u x es
 refine rf_ h_1 [[0],[0,1],[0,1,2],r_ 4,[0,1,2,4],[0,1,2,3,5],r_ 7] [K_ (.agg #[vI u,vI x,.slice A0 es.length c0]),K_ (vT2 (.pointer none) (vI 10)),K_ (vT2 (.pointer none) (vI 10)),K_ (.pointer none),K_ (vI 10),K_ (.pointer none),K_ (vI 10)] (fun E2=>[(3,vP (pb E1 1) 0),(4,bF),(5,.pointer none),(6,vI 10)]) (hs:=c_ (ld_ 0 (hrd:=by exact rd41 rfl rfl rfl))<|c_ (cw_ Tryz.func16 (h:=fun _ env _ wd hA=>⟨_,cnew_no (hv.gn hA.j.st.gr) hu hx hes hok,rfl⟩))<|c_ mv_<|c_ ext_<|c_ ext_<|c_ mv_<|c_ mv_<|e_) (k:=fun E2 ac wd h_2=>?_)
 clear h_1
 refine then_n (wp_seq (wp_seq ?_))
 refine rf_ h_2 [[0],[0,1],[0,1,2],r_ 4,[0,1,2,4],r_ 6,r_ 7,r_ 8] [K_ (vI 10),K_ bT,K_ bT,K_ undef,K_ undef,K_ undef,K_ undef,K_ bT] (fun E3=>[(3,vP (pb E1 1) 0),(4,bF),(5,.pointer none),(25,bT)]) (hs:=c_ mv_<|c_ (bi0 (vI 10) (vI 0))<|c_ mv_<|c_ off_<|c_ off_<|c_ off_<|c_ off_<|c_ (pk0 bT bT undef)<|e_) (k:=fun E3 ac wd h_3=>?_)
 clear h_2
 refine then_n ?_
 refine wp_cond_true (eval_tmp (h_3.g (t:=25) rfl)) ?_
 refine wp_seq ?_
 refine rf_ h_3 [[0],[0,1]] [K_ bT,K_ bT] (fun E4=>[(3,vP (pb E1 1) 0),(4,bT),(5,.pointer none)]) (hs:=c_ (cl_ Tryz.func11 (h:=fun env=>⟨_,answers17_any,rfl⟩))<|c_ mv_<|e_) (k:=fun E4 ac wd h_4=>?_)
 clear h_3
 refine then_n (wp_ret (then_ret ?_))
 have s4:=h_4.g (t:=4) rfl
 refine leave (v:=.bool true) h_4.df (by simp [results,Tryz.results5,go_sem,Array.getD_eq_getD_getElem?,s4]) ?_
 exact ⟨rfl,h_4.st.below⟩
 obtain ⟨hp,hn0,_⟩:=okT_pre hok
 refine rf_ h_1 [[0],[0,1],[0,1,2],r_ 4,[0,1,2,4],[0,1,2,3,5],r_ 7] [K_ (.agg #[vI u,vI x,.slice A0 es.length c0]),KE_ fun env=>vT2 (vP (ptrB (tp (env 1) 0)) 0) (vI 0),KE_ fun env=>vT2 (vP (ptrB (tp (env 1) 0)) 0) (vI 0),KE_ fun env=>vP (ptrB (tp (env 1) 0)) 0,K_ (vI 0),KE_ fun env=>vP (ptrB (tp (env 1) 0)) 0,K_ (vI 0)] (fun E2=>[(3,vP (pb E1 1) 0),(4,bF),(5,vP (ptrB (tp (E2 1) 0)) 0),(6,vI 0)]) (F:=[(1,fun env w=>NewCx w (env 1) u x es w0.heap.size)]) (L1:=fun E2=>[fun w=>NewCx w (E2 1) u x es w0.heap.size]) (hs:=c_ (ld_ 0 (hrd:=by exact rd41 rfl rfl rfl))<|c_ (s_factT rfl rfl rfl Tryz.func16 (by kernel_rfl) rfl (fun _=>wanted_none rfl _) (fun v w=>NewCx w v u x es w0.heap.size) newLF rfl rfl cT rfl (fun v w h=>h.form) (fun v w w' hk h=>h.keep hk) (fun {D env ac wd} hA=>⟨_,hA.args (vs:=[.agg #[vI u,vI x,.slice A0 es.length c0]]) rfl,cnew_yes hA.j.st.gr.size (hv.gn hA.j.st.gr) hu hx hes hok⟩))<|c_ mv_<|c_ ext_<|c_ ext_<|c_ mv_<|c_ mv_<|e_) (k:=fun E2 ac wd h_2=>?_)
 clear h_1
 refine then_n (wp_seq (wp_seq ?_))
 replace h_2:=Cur.exInC h_2 0 rfl;obtain ⟨g,b,h_2⟩:=h_2;generalize ptrB (tp (E2 1) 0)=c at h_2
 by_cases he:ctE es d s a=0
 obtain ⟨c1,c2,c3,c4⟩:=u_back hp hn0 he
 refine rf_ h_2 [[0],[0,1],[0,1,2],r_ 4,[0,1,2,4],r_ 6,r_ 7,r_ 8] [K_ (vI 0),K_ bF,K_ bF,K_ (vP c 0),K_ (vL d s a),K_ bT,K_ bF,K_ bF] (fun E3=>[(3,vP (pb E1 1) 0),(4,bF),(5,vP c 0),(25,bF)]) (hs:=c_ mv_<|c_ (bi0 (vI 0) (vI 0) (h:=by intro env w;(first | (simp [go_sem];done) | (simp [go_sem];rfl))))<|c_ mv_<|c_ (gm0 (vP c 0))<|c_ (ld_ 1 (hrd:=by exact rd23 rfl rfl rfl))<|c_ (s_clk (c:=c) (g:=g) (b:=b) (u:=u) (x:=x) (es:=es) Tryz.func20 (fun _ h=>h) (fun _ h=>h) (h:=fun D env ac wd hA hC=>⟨_,ClkC.eq (cexists_c _ c g b u x es hC d s a hx0 hx1) (y_exy he),rfl⟩))<|c_ (un0 bT)<|c_ (pk0 bF bT bF)<|e_) (k:=fun E3 ac wd h_3=>?_)
 clear h_2
 refine then_n ?_
 refine wp_cond_false (eval_tmp (h_3.g (t:=25) rfl)) ?_
 refine wp_skip (then_n (wp_seq ?_))
 refine rf_ h_3 [[0],[0,1],[0,1,2],r_ 4,[0,1,2,4],[5],[0,1,2,3,5,6],r_ 8] [K_ (vL d s a),K_ (vT2 (vW (ucV d s a)) (vI 0)),K_ (vT2 (vW (ucV d s a)) (vI 0)),K_ (vW (ucV d s a)),K_ (vI 0),KE_ fun env=>vP (pb env 5) 0,none,K_ (vI 0)] (fun E4=>[(3,vP (pb E1 1) 0),(4,bF),(5,vP c 0),(7,vP (pb E4 5) 0),(8,vI 0)]) (W:=[{ i:=5,T:=26,c0:=[vI 0,.int .u64 0],s:=some 6,c1:=fun _=>[vI (hi (ucV d s a)),.int .u64 (lo (ucV d s a))] }]) (M':=fun E4=>[((pb E1 0),41,[vI u,vI x,.slice A0 es.length c0]),((pb E1 1),23,[vI d,vI s,vI a]),((pb E4 5),26,[vI (hi (ucV d s a)),.int .u64 (lo (ucV d s a))])]) (hs:=c_ (ld_ 1 (hrd:=by exact rd23 rfl rfl rfl))<|c_ (cl_ Tryz.func9 (h:=fun env=>⟨_,(Ret.eq (xcount_any d s a) (y_tt rfl c1)),rfl⟩))<|c_ mv_<|c_ ext_<|c_ ext_<|c_ (al_ 2)<|c_ (sw_ 2 5 (hst:=by exact fun _ _ _ hc=>st26 rfl rfl rfl hc))<|c_ mv_<|e_) (k:=fun E4 ac wd h_4=>?_)
 clear h_3
 refine then_n (wp_seq ?_)
 by_cases c5:ulA es (ucV d s a)=(d,s,a)
 refine rf_ h_4 [[0],[1],[0,1,2],r_ 4,r_ 5,[0,1,2,3,5],[0,1,2,3,6],[0,1,2,3,7],[8],[9],[0,1,2,3,4,8,9,10],[0,1,2,3,4,5,8,9,10,11],[0,1,2,3,4,5,6,8,9,10,11,12],r_ 14] [K_ (vP c 0),K_ (vW (ucV d s a)),K_ (.tuple #[vL d s a,vL ((ulB es (ucV d s a)).1) ((ulB es (ucV d s a)).2.1) ((ulB es (ucV d s a)).2.2),vI (ulK es (ucV d s a)),vI 0]),K_ (.tuple #[vL d s a,vL ((ulB es (ucV d s a)).1) ((ulB es (ucV d s a)).2.1) ((ulB es (ucV d s a)).2.2),vI (ulK es (ucV d s a)),vI 0]),K_ (vL d s a),K_ (vL ((ulB es (ucV d s a)).1) ((ulB es (ucV d s a)).2.1) ((ulB es (ucV d s a)).2.2)),K_ (vI (ulK es (ucV d s a))),K_ (vI 0),KE_ fun env=>vP (pb env 8) 0,KE_ fun env=>vP (pb env 9) 0,none,none,K_ (vI (ulK es (ucV d s a))),K_ (vI 0)] (fun E5=>[(3,vP (pb E1 1) 0),(4,bF),(8,vI 0),(9,vP (pb E5 8) 0),(10,vP (pb E5 9) 0),(11,vI (ulK es (ucV d s a))),(12,vI 0)]) (W:=[{ i:=8,T:=23,c0:=[vI 0,vI 0,vI 0],s:=some 10,c1:=fun _=>[vI d,vI s,vI a] },{ i:=9,T:=23,c0:=[vI 0,vI 0,vI 0],s:=some 11,c1:=fun _=>[vI ((ulB es (ucV d s a)).1),vI ((ulB es (ucV d s a)).2.1),vI ((ulB es (ucV d s a)).2.2)] }]) (M':=fun E5=>[((pb E1 0),41,[vI u,vI x,.slice A0 es.length c0]),((pb E1 1),23,[vI d,vI s,vI a]),((pb E4 5),26,[vI (hi (ucV d s a)),.int .u64 (lo (ucV d s a))]),((pb E5 8),23,[vI d,vI s,vI a]),((pb E5 9),23,[vI ((ulB es (ucV d s a)).1),vI ((ulB es (ucV d s a)).2.1),vI ((ulB es (ucV d s a)).2.2)])]) (hs:=c_ mv_<|c_ (ld_ 2 (hrd:=by exact rd26 rfl rfl))<|c_ (s_clk (c:=c) (g:=g) (b:=b) (u:=u) (x:=x) (es:=es) Tryz.func17 (fun _ h=>h) (fun _ h=>h) (h:=fun D env ac wd hA hC=>⟨_,ClkC.eq (xlabels_c _ c g b u x es hC (ucV d s a) uc_in) (x_la c5 c2),rfl⟩))<|c_ mv_<|c_ ext_<|c_ ext_<|c_ ext_<|c_ ext_<|c_ (al_ 3)<|c_ (al_ 4)<|c_ (sw_ 3 8 (hst:=by exact fun _ _ _ hc=>st23 rfl rfl rfl rfl hc))<|c_ (sw_ 4 9 (hst:=by exact fun _ _ _ hc=>st23 rfl rfl rfl rfl hc))<|c_ mv_<|c_ mv_<|e_) (k:=fun E5 ac wd h_5=>?_)
 clear h_4
 refine then_n (wp_seq ?_)
 refine rf_ h_5 [[0],[0,1],[0,1,2],r_ 4,r_ 5,r_ 6,r_ 7,r_ 8,r_ 9,r_ 10,r_ 11,r_ 12,r_ 13,r_ 14,r_ 15,[0,1,2,3,4,5,6,7,8,9,10,11,12,13,15],r_ 17,r_ 18,r_ 19,[0,1,2,3,4,5,6,7,8,9,10,11,12,13,14,15,16,17,19],r_ 21,r_ 22,r_ 23,r_ 24] [K_ bT,K_ bT,K_ (vI 0),K_ bT,K_ bT,K_ bT,K_ (vI 0),K_ bT,K_ bT,K_ bT,K_ (vI (ulK es (ucV d s a))),K_ bT,K_ bT,K_ bT,K_ (vL d s a),K_ (vL d s a),K_ bT,K_ bT,K_ undef,K_ undef,K_ undef,K_ bT,K_ bT,K_ bT] (fun E6=>[(4,bT)]) (hs:=c_ (cl_ Tryz.func11 (h:=fun env=>⟨_,answers17_any,rfl⟩))<|c_ mv_<|c_ (gm0 (vI 0))<|c_ (bi0 (vI 0) (vI 0) (h:=by intro env w;(first | (simp [go_sem];done) | (simp [go_sem];rfl))))<|c_ (pk0 bT bT bF (h:=by intro env w;(first | (simp [go_sem];done) | (simp [go_sem];rfl))))<|c_ mv_<|c_ (gm0 (vI 0))<|c_ (bi0 (vI 0) (vI 0) (h:=by intro env w;(first | (simp [go_sem];done) | (simp [go_sem];rfl))))<|c_ (pk0 bT bT bF (h:=by intro env w;(first | (simp [go_sem];done) | (simp [go_sem];rfl))))<|c_ mv_<|c_ (gm0 (vI (ulK es (ucV d s a))))<|c_ (bi0 (vI (ulK es (ucV d s a))) (vI 0) (h:=by intro env w;simp [go_sem,c3]))<|c_ (pk0 bT bT bF (h:=by intro env w;simp [go_sem,c3]))<|c_ mv_<|c_ (ld_ 3 (hrd:=by exact rd23 rfl rfl rfl))<|c_ (ld_ 1 (hrd:=by exact rd23 rfl rfl rfl))<|c_ (bi0 (vL d s a) (vL d s a) (h:=by intro env w;(first | (simp [go_sem];done) | (simp [go_sem];rfl))))<|c_ (gm0 bT (h:=by intro env w;(first | (simp [go_sem];done) | (simp [go_sem];rfl))))<|c_ off_<|c_ off_<|c_ off_<|c_ (pk0 bT bT undef)<|c_ (pk0 bT bT bF)<|c_ mv_<|e_) (k:=fun E6 ac wd h_6=>?_)
 clear h_5
 refine then_n (wp_ret ?_)
 have s4:=h_6.g (t:=4) rfl
 refine leave (v:=.bool true) h_6.df (by simp [results,Tryz.results5,go_sem,Array.getD_eq_getD_getElem?,s4]) ?_
 exact ⟨rfl,h_6.st.below⟩
 have c6:=c4.resolve_left c5;have hne:¬ ((ulA es (ucV d s a)).1=d∧(ulA es (ucV d s a)).2.1=s∧(ulA es (ucV d s a)).2.2=a):=fun h=>c5 (Prod.ext h.1 (Prod.ext h.2.1 h.2.2))
 refine rf_ h_4 [[0],[1],[0,1,2],r_ 4,r_ 5,[0,1,2,3,5],[0,1,2,3,6],[0,1,2,3,7],[8],[9],[0,1,2,3,4,8,9,10],[0,1,2,3,4,5,8,9,10,11],[0,1,2,3,4,5,6,8,9,10,11,12],r_ 14] [K_ (vP c 0),K_ (vW (ucV d s a)),K_ (.tuple #[vL ((ulA es (ucV d s a)).1) ((ulA es (ucV d s a)).2.1) ((ulA es (ucV d s a)).2.2),vL d s a,vI (ulK es (ucV d s a)),vI 0]),K_ (.tuple #[vL ((ulA es (ucV d s a)).1) ((ulA es (ucV d s a)).2.1) ((ulA es (ucV d s a)).2.2),vL d s a,vI (ulK es (ucV d s a)),vI 0]),K_ (vL ((ulA es (ucV d s a)).1) ((ulA es (ucV d s a)).2.1) ((ulA es (ucV d s a)).2.2)),K_ (vL d s a),K_ (vI (ulK es (ucV d s a))),K_ (vI 0),KE_ fun env=>vP (pb env 8) 0,KE_ fun env=>vP (pb env 9) 0,none,none,K_ (vI (ulK es (ucV d s a))),K_ (vI 0)] (fun E5=>[(3,vP (pb E1 1) 0),(4,bF),(8,vI 0),(9,vP (pb E5 8) 0),(10,vP (pb E5 9) 0),(11,vI (ulK es (ucV d s a))),(12,vI 0)]) (W:=[{ i:=8,T:=23,c0:=[vI 0,vI 0,vI 0],s:=some 10,c1:=fun _=>[vI ((ulA es (ucV d s a)).1),vI ((ulA es (ucV d s a)).2.1),vI ((ulA es (ucV d s a)).2.2)] },{ i:=9,T:=23,c0:=[vI 0,vI 0,vI 0],s:=some 11,c1:=fun _=>[vI d,vI s,vI a] }]) (M':=fun E5=>[((pb E1 0),41,[vI u,vI x,.slice A0 es.length c0]),((pb E1 1),23,[vI d,vI s,vI a]),((pb E4 5),26,[vI (hi (ucV d s a)),.int .u64 (lo (ucV d s a))]),((pb E5 8),23,[vI ((ulA es (ucV d s a)).1),vI ((ulA es (ucV d s a)).2.1),vI ((ulA es (ucV d s a)).2.2)]),((pb E5 9),23,[vI d,vI s,vI a])]) (hs:=c_ mv_<|c_ (ld_ 2 (hrd:=by exact rd26 rfl rfl))<|c_ (s_clk (c:=c) (g:=g) (b:=b) (u:=u) (x:=x) (es:=es) Tryz.func17 (fun _ h=>h) (fun _ h=>h) (h:=fun D env ac wd hA hC=>⟨_,ClkC.eq (xlabels_c _ c g b u x es hC (ucV d s a) uc_in) (x_lb c6 c2),rfl⟩))<|c_ mv_<|c_ ext_<|c_ ext_<|c_ ext_<|c_ ext_<|c_ (al_ 3)<|c_ (al_ 4)<|c_ (sw_ 3 8 (hst:=by exact fun _ _ _ hc=>st23 rfl rfl rfl rfl hc))<|c_ (sw_ 4 9 (hst:=by exact fun _ _ _ hc=>st23 rfl rfl rfl rfl hc))<|c_ mv_<|c_ mv_<|e_) (k:=fun E5 ac wd h_5=>?_)
 clear h_4
 refine then_n (wp_seq ?_)
 refine rf_ h_5 [[0],[0,1],[0,1,2],r_ 4,r_ 5,r_ 6,r_ 7,r_ 8,r_ 9,r_ 10,r_ 11,r_ 12,r_ 13,r_ 14,r_ 15,[0,1,2,3,4,5,6,7,8,9,10,11,12,13,15],r_ 17,r_ 18,r_ 19,[0,1,2,3,4,5,6,7,8,9,10,11,12,13,14,15,16,17,19],r_ 21,r_ 22,r_ 23,r_ 24] [K_ bT,K_ bT,K_ (vI 0),K_ bT,K_ bT,K_ bT,K_ (vI 0),K_ bT,K_ bT,K_ bT,K_ (vI (ulK es (ucV d s a))),K_ bT,K_ bT,K_ bT,K_ (vL ((ulA es (ucV d s a)).1) ((ulA es (ucV d s a)).2.1) ((ulA es (ucV d s a)).2.2)),K_ (vL d s a),K_ bF,K_ bF,K_ (vL d s a),K_ (vL d s a),K_ bT,K_ bT,K_ bT,K_ bT] (fun E6=>[(4,bT)]) (hs:=c_ (cl_ Tryz.func11 (h:=fun env=>⟨_,answers17_any,rfl⟩))<|c_ mv_<|c_ (gm0 (vI 0))<|c_ (bi0 (vI 0) (vI 0) (h:=by intro env w;(first | (simp [go_sem];done) | (simp [go_sem];rfl))))<|c_ (pk0 bT bT bF (h:=by intro env w;(first | (simp [go_sem];done) | (simp [go_sem];rfl))))<|c_ mv_<|c_ (gm0 (vI 0))<|c_ (bi0 (vI 0) (vI 0) (h:=by intro env w;(first | (simp [go_sem];done) | (simp [go_sem];rfl))))<|c_ (pk0 bT bT bF (h:=by intro env w;(first | (simp [go_sem];done) | (simp [go_sem];rfl))))<|c_ mv_<|c_ (gm0 (vI (ulK es (ucV d s a))))<|c_ (bi0 (vI (ulK es (ucV d s a))) (vI 0) (h:=by intro env w;simp [go_sem,c3]))<|c_ (pk0 bT bT bF (h:=by intro env w;simp [go_sem,c3]))<|c_ mv_<|c_ (ld_ 3 (hrd:=by exact rd23 rfl rfl rfl))<|c_ (ld_ 1 (hrd:=by exact rd23 rfl rfl rfl))<|c_ (bi0 (vL ((ulA es (ucV d s a)).1) ((ulA es (ucV d s a)).2.1) ((ulA es (ucV d s a)).2.2)) (vL d s a) (h:=by intro env w;(first | (simp [go_sem,hne];done) | (simp [go_sem];exact fun h1 h2 h3=>hne ⟨h1,h2,h3⟩))))<|c_ (gm0 bF (h:=by intro env w;(first | (simp [go_sem,hne];done) | (simp [go_sem];exact fun h1 h2 h3=>hne ⟨h1,h2,h3⟩))))<|c_ (ld_ 4 (hrd:=by exact rd23 rfl rfl rfl))<|c_ (ld_ 1 (hrd:=by exact rd23 rfl rfl rfl))<|c_ (bi0 (vL d s a) (vL d s a) (h:=by intro env w;(first | (simp [go_sem];done) | (simp [go_sem];rfl))))<|c_ (pk0 bF bT bT (h:=by intro env w;(first | (simp [go_sem];done) | (simp [go_sem];rfl))))<|c_ (pk0 bT bT bF (h:=by intro env w;(first | (simp [go_sem];done) | (simp [go_sem];rfl))))<|c_ mv_<|e_) (k:=fun E6 ac wd h_6=>?_)
 clear h_5
 refine then_n (wp_ret ?_)
 have s4:=h_6.g (t:=4) rfl
 refine leave (v:=.bool true) h_6.df (by simp [results,Tryz.results5,go_sem,Array.getD_eq_getD_getElem?,s4]) ?_
 exact ⟨rfl,h_6.st.below⟩
 refine rf_ h_2 [[0],[0,1],[0,1,2],r_ 4,[0,1,2,4],r_ 6,r_ 7,r_ 8] [K_ (vI 0),K_ bF,K_ bF,K_ (vP c 0),K_ (vL d s a),K_ bF,K_ bT,K_ bT] (fun E3=>[(3,vP (pb E1 1) 0),(4,bF),(5,vP c 0),(25,bT)]) (hs:=c_ mv_<|c_ (bi0 (vI 0) (vI 0) (h:=by intro env w;(first | (simp [go_sem];done) | (simp [go_sem];rfl))))<|c_ mv_<|c_ (gm0 (vP c 0))<|c_ (ld_ 1 (hrd:=by exact rd23 rfl rfl rfl))<|c_ (s_clk (c:=c) (g:=g) (b:=b) (u:=u) (x:=x) (es:=es) Tryz.func20 (fun _ h=>h) (fun _ h=>h) (h:=fun D env ac wd hA hC=>⟨_,ClkC.eq (cexists_c _ c g b u x es hC d s a hx0 hx1) (y_exn he),rfl⟩))<|c_ (un0 bF)<|c_ (pk0 bF bT bT)<|e_) (k:=fun E3 ac wd h_3=>?_)
 clear h_2
 refine then_n ?_
 refine wp_cond_true (eval_tmp (h_3.g (t:=25) rfl)) ?_
 refine wp_seq ?_
 refine rf_ h_3 [[0],[0,1]] [K_ bT,K_ bT] (fun E4=>[(3,vP (pb E1 1) 0),(4,bT),(5,vP c 0)]) (hs:=c_ (cl_ Tryz.func11 (h:=fun env=>⟨_,answers17_any,rfl⟩))<|c_ mv_<|e_) (k:=fun E4 ac wd h_4=>?_)
 clear h_3
 refine then_n (wp_ret (then_ret ?_))
 have s4:=h_4.g (t:=4) rfl
 refine leave (v:=.bool true) h_4.df (by simp [results,Tryz.results5,go_sem,Array.getD_eq_getD_getElem?,s4]) ?_
 exact ⟨rfl,h_4.st.below⟩
theorem unixBack_walk (w0:World) (v:Value) (es:List (Int × Int)) (u x:Int) (d s a:Int) (hx0:-9223372036854775808≤d) (hx1:d < 9223372036854775808) (hx2:-9223372036854775808≤s) (hx3:s < 9223372036854775808) (hx4:-9223372036854775808≤a) (hx5:a < 9223372036854775808) (hv:Ents w0 w0.heap.size v es) (hu:I64 u) (hx:I64 x) (hes:∀ i,I64 (es.getD i (0,0)).1∧I64 (es.getD i (0,0)).2):Calls Tryz.prog 5 #[.agg #[vI u,vI x,v],vL d s a] w0 fun e w'=>e = .returned (.bool true)∧Below w0.heap.size w0 w':=by
 have hv0:=hv
 obtain ⟨A,c,rfl,_⟩:=hv
 exact unixBack_core w0 A c es u x d s a hx0 hx1 hx2 hx3 hx4 hx5 hv0 hu hx hes
end Go.Proofs.YtdfkghpgekmmlabGreat
