/- Texts GCTais of one proof, one behind the other; what nothing here names is left out. -/
import Derived.Test.YtdfkghpgekmmlaaGreatV11
import Derived.Test.YtdfkghpgekmmlaaGreatZ4
import Derived.IntWalk
set_option maxRecDepth 100000
set_option maxHeartbeats 8000000
set_option linter.unusedVariables false
set_option linter.unusedSimpArgs false
namespace Go.Proofs.YtdfkghpgekmmlaaGreat
open Go.RowKit
attribute [local go_sem] vN bT bF rS vW vM vL vT2 vT3 vP vI execOp Act.eval evC bigF vB hi_zero lo_zero Tryz.underlying24 Tryz.underlying26 Tryz.underlying34 Tryz.underlying39
theorem clockTais_core (w0:World) (A0:Option Addr) (c0:Nat) (es:List (Int × Int)) (u x:Int) (d s a:Int) (hx0:-9223372036854775808≤d) (hx1:d < 9223372036854775808) (hx2:-9223372036854775808≤s) (hx3:s < 9223372036854775808) (hx4:-9223372036854775808≤a) (hx5:a < 9223372036854775808) (lax:Bool) (hv:Ents w0 w0.heap.size (.slice A0 es.length c0) es) (hu:I64 u) (hx:I64 x) (hes:∀ i,I64 (es.getD i (0,0)).1∧I64 (es.getD i (0,0)).2):Calls Tryz.prog 3 #[.agg #[vI u,vI x,.slice A0 es.length c0],vL d s a,.bool (lax)] w0 fun e w'=>e = .returned (.bool true)∧Below w0.heap.size w0 w':=by
 have hst:=St.start w0 (Θ:=fun _=>True) (fun _ _=>trivial)
 refine enter Tryz.func3 rfl (n:=74) rfl (Nat.le_of_ble_eq_true rfl) hst (L:=[(0,.agg #[vI u,vI x,.slice A0 es.length c0]),(1,vL d s a),(2,.bool (lax))]) (lk_args rfl) (fun ac h=>?_)
 replace h:=h.facts
 refine wp_seq ?_
 refine rf_ h [[0],[1],[2]] [KE_ fun env=>vP (pb env 0) 0,KE_ fun env=>vP (pb env 1) 0,K_ bF] (fun E1=>[(2,.bool (lax)),(3,vP (pb E1 0) 0),(4,vP (pb E1 1) 0),(6,bF)]) (W:=[{ i:=0,T:=24,c0:=[vI u,vI x,.slice A0 es.length c0] },{ i:=1,T:=26,c0:=[vI d,vI s,vI a] }]) (M':=fun E1=>[((pb E1 0),24,[vI u,vI x,.slice A0 es.length c0]),((pb E1 1),26,[vI d,vI s,vI a])]) (hs:=c_ (bx0 0 (.agg #[vI u,vI x,.slice A0 es.length c0]))<|c_ (bx0 1 (vL d s a))<|c_ mv_<|e_) (k:=fun E1 ac wd h_1=>?_)
 clear h
 refine then_n (wp_seq ?_)
 cases hok:okT u x es
 refine rf_ h_1 [[0],[0,1],[0,1,2],r_ 4,[0,1,2,4],[0,1,2,3,5],r_ 7] [K_ (.agg #[vI u,vI x,.slice A0 es.length c0]),K_ (vT2 (.pointer none) (vI 10)),K_ (vT2 (.pointer none) (vI 10)),K_ (.pointer none),K_ (vI 10),K_ (.pointer none),K_ (vI 10)] (fun E2=>[(2,.bool (lax)),(3,vP (pb E1 0) 0),(4,vP (pb E1 1) 0),(6,bF),(7,.pointer none),(8,vI 10)]) (hs:=c_ (ld_ 0 (hrd:=by exact rd24 rfl rfl rfl))<|c_ (cw_ Tryz.func13 (h:=fun _ env _ wd hA=>⟨_,cnew_no (hv.gn hA.j.st.gr) hu hx hes hok,rfl⟩))<|c_ mv_<|c_ ext_<|c_ ext_<|c_ mv_<|c_ mv_<|e_) (k:=fun E2 ac wd h_2=>?_)
 clear h_1
 refine then_n (wp_seq (wp_seq ?_))
 refine rf_ h_2 [[0],[0,1]] [K_ (vI 10),K_ bT] (fun E3=>[(2,.bool (lax)),(3,vP (pb E1 0) 0),(4,vP (pb E1 1) 0),(6,bF),(7,.pointer none),(21,bT)]) (hs:=c_ mv_<|c_ (bi0 (vI 10) (vI 0))<|e_) (k:=fun E3 ac wd h_3=>?_)
 clear h_2
 refine then_n ?_
 refine wp_cond_true (eval_tmp (h_3.g (t:=21) rfl)) ?_
 refine wp_seq ?_
 refine rf_ h_3 [[0],[0,1]] [K_ bT,K_ bT] (fun E4=>[(2,.bool (lax)),(3,vP (pb E1 0) 0),(4,vP (pb E1 1) 0),(6,bT),(7,.pointer none)]) (hs:=c_ (cl_ Tryz.func14 (h:=fun env=>⟨_,answers15_any,rfl⟩))<|c_ mv_<|e_) (k:=fun E4 ac wd h_4=>?_)
 clear h_3
 refine then_n (wp_ret (then_ret ?_))
 have s6:=h_4.g (t:=6) rfl
 refine leave (v:=.bool true) h_4.df (by simp [results,Tryz.results3,go_sem,Array.getD_eq_getD_getElem?,s6]) ?_
 exact ⟨rfl,h_4.st.below⟩
 obtain ⟨hp,hn0,_⟩:=okT_pre hok
 refine rf_ h_1 [[0],[0,1],[0,1,2],r_ 4,[0,1,2,4],[0,1,2,3,5],r_ 7] [K_ (.agg #[vI u,vI x,.slice A0 es.length c0]),KE_ fun env=>vT2 (vP (ptrB (tp (env 1) 0)) 0) (vI 0),KE_ fun env=>vT2 (vP (ptrB (tp (env 1) 0)) 0) (vI 0),KE_ fun env=>vP (ptrB (tp (env 1) 0)) 0,K_ (vI 0),KE_ fun env=>vP (ptrB (tp (env 1) 0)) 0,K_ (vI 0)] (fun E2=>[(2,.bool (lax)),(3,vP (pb E1 0) 0),(4,vP (pb E1 1) 0),(6,bF),(7,vP (ptrB (tp (E2 1) 0)) 0),(8,vI 0)]) (F:=[(1,fun env w=>NewCx w (env 1) u x es w0.heap.size)]) (L1:=fun E2=>[fun w=>NewCx w (E2 1) u x es w0.heap.size]) (hs:=c_ (ld_ 0 (hrd:=by exact rd24 rfl rfl rfl))<|c_ (s_factT rfl rfl rfl Tryz.func13 (by kernel_rfl) rfl (fun _=>wanted_none rfl _) (fun v w=>NewCx w v u x es w0.heap.size) newLF rfl rfl cT rfl (fun v w h=>h.form) (fun v w w' hk h=>h.keep hk) (fun {D env ac wd} hA=>⟨_,hA.args (vs:=[.agg #[vI u,vI x,.slice A0 es.length c0]]) rfl,cnew_yes hA.j.st.gr.size (hv.gn hA.j.st.gr) hu hx hes hok⟩))<|c_ mv_<|c_ ext_<|c_ ext_<|c_ mv_<|c_ mv_<|e_) (k:=fun E2 ac wd h_2=>?_)
 clear h_1
 refine then_n (wp_seq (wp_seq ?_))
 replace h_2:=Cur.exInC h_2 0 rfl;obtain ⟨g,b,h_2⟩:=h_2;generalize ptrB (tp (E2 1) 0)=c at h_2
 refine rf_ h_2 [[0],[0,1]] [K_ (vI 0),K_ bF] (fun E3=>[(2,.bool (lax)),(3,vP (pb E1 0) 0),(4,vP (pb E1 1) 0),(6,bF),(7,vP c 0),(21,bF)]) (hs:=c_ mv_<|c_ (bi0 (vI 0) (vI 0) (h:=by intro env w;(first | (simp [go_sem];done) | (simp [go_sem];rfl))))<|e_) (k:=fun E3 ac wd h_3=>?_)
 clear h_2
 refine then_n ?_
 refine wp_cond_false (eval_tmp (h_3.g (t:=21) rfl)) ?_
 refine wp_skip (then_n (wp_seq ?_))
 refine rf_ h_3 [[0],[1],[2],r_ 4,r_ 5,r_ 6,[0,1,2,3,4,6],[7],[0,1,2,3,4,5,7,8],r_ 10] [K_ (vP c 0),K_ (vL d s a),K_ (.bool (lax)),K_ (vT2 (vW (tV es x lax d s a)) (vI (tE es x lax d s a))),K_ (vT2 (vW (tV es x lax d s a)) (vI (tE es x lax d s a))),K_ (vW (tV es x lax d s a)),K_ (vI (tE es x lax d s a)),KE_ fun env=>vP (pb env 7) 0,none,K_ (vI (tE es x lax d s a))] (fun E4=>[(2,.bool (lax)),(3,vP (pb E1 0) 0),(4,vP (pb E1 1) 0),(6,bF),(7,vP c 0),(9,vP (pb E4 7) 0),(10,vI (tE es x lax d s a))]) (W:=[{ i:=7,T:=34,c0:=[vI 0,.int .u64 0],s:=some 8,c1:=fun _=>[vI (hi (tV es x lax d s a)),.int .u64 (lo (tV es x lax d s a))] }]) (M':=fun E4=>[((pb E1 0),24,[vI u,vI x,.slice A0 es.length c0]),((pb E1 1),26,[vI d,vI s,vI a]),((pb E4 7),34,[vI (hi (tV es x lax d s a)),.int .u64 (lo (tV es x lax d s a))])]) (hs:=c_ mv_<|c_ (ld_ 1 (hrd:=by exact rd26 rfl rfl rfl))<|c_ mv_<|c_ (s_clk (c:=c) (g:=g) (b:=b) (u:=u) (x:=x) (es:=es) Tryz.func15 (fun _ h=>h) (fun _ h=>h) (h:=fun D env ac wd hA hC=>⟨_,cTai_c _ c g b u x es hC lax d s a hx0 hx1,rfl⟩))<|c_ mv_<|c_ ext_<|c_ ext_<|c_ (al_ 2)<|c_ (sw_ 2 7 (hst:=by exact fun _ _ _ hc=>st34 rfl rfl rfl hc))<|c_ mv_<|e_) (k:=fun E4 ac wd h_4=>?_)
 clear h_3
 refine then_n (wp_seq ?_)
 refine rf_ h_4 [[0],[1],[2],r_ 4,r_ 5,r_ 6,[0,1,2,3,4,6],[7],[0,1,2,3,4,5,7,8],r_ 10] [K_ (.agg #[vI u,vI x,.slice A0 es.length c0]),K_ (vL d s a),K_ (.bool (lax)),KE_ fun env=>vT2 (bigF (tV es x lax d s a) (tp (env 3) 0)) (vI (tE es x lax d s a)),KE_ fun env=>vT2 (bigF (tV es x lax d s a) (tp (env 3) 0)) (vI (tE es x lax d s a)),KE_ fun env=>bigF (tV es x lax d s a) (tp (env 3) 0),K_ (vI (tE es x lax d s a)),KE_ fun env=>vP (pb env 7) 0,none,K_ (vI (tE es x lax d s a))] (fun E5=>[(3,vP (pb E1 0) 0),(4,vP (pb E1 1) 0),(6,bF),(7,vP c 0),(9,vP (pb E4 7) 0),(10,vI (tE es x lax d s a)),(11,vP (pb E5 7) 0),(12,vI (tE es x lax d s a))]) (W:=[{ i:=7,T:=39,c0:=[bF,.slice none 0 0],s:=some 8,c1:=fun env=>[.bool (decide (tV es x lax d s a < 0)),rS (tV es x lax d s a) ((bA (tp (env 3) 0))) ((bC (tp (env 3) 0)))] }]) (F:=[(3,fun env w=>TaiG g w (env 3) (tV es x lax d s a) (tE es x lax d s a))]) (L1:=fun E5=>[fun w=>TaiG g w (E5 3) (tV es x lax d s a) (tE es x lax d s a)]) (M':=fun E5=>[((pb E1 0),24,[vI u,vI x,.slice A0 es.length c0]),((pb E1 1),26,[vI d,vI s,vI a]),((pb E4 7),34,[vI (hi (tV es x lax d s a)),.int .u64 (lo (tV es x lax d s a))]),((pb E5 7),39,[.bool (decide (tV es x lax d s a < 0)),rS (tV es x lax d s a) ((bA (tp (E5 3) 0))) ((bC (tp (E5 3) 0)))])]) (hs:=c_ (ld_ 0 (hrd:=by exact rd24 rfl rfl rfl))<|c_ (ld_ 1 (hrd:=by exact rd26 rfl rfl rfl))<|c_ mv_<|c_ (cf_ Tryz.func16 (fun v w=>TaiG g w v (tV es x lax d s a) (tE es x lax d s a)) (taiF (tV es x lax d s a) (tE es x lax d s a)) (h:=fun _ env _ wd hA=>⟨_,toTaiG (hA.j.st.exb g rfl).1 (rTai15_any wd A0 c0 es u x (hv.gn hA.j.st.gr) hp hn0 d s a hx0 hx1 hx2 hx3 hx4 hx5 lax),rfl⟩))<|c_ mv_<|c_ ext_<|c_ ext_<|c_ (al_ 3)<|c_ (sw_ 3 7 (hst:=by exact fun _ _ _ hc=>st39 rfl rfl rfl hc))<|c_ mv_<|e_) (k:=fun E5 ac wd h_5=>?_)
 clear h_4
 refine then_n (wp_seq ?_)
 refine rf_ h_5 [[0],[1],[0,1,2],r_ 4,r_ 5,[0,1,2,3,5],[6],[0,1,2,3,4,6,7],r_ 9] [K_ (.agg #[vI u,vI x,.slice A0 es.length c0]),K_ (vL d s a),KE_ fun env=>vT2 (bigF (tV es x true d s a) (tp (env 2) 0)) (vI (tE es x true d s a)),KE_ fun env=>vT2 (bigF (tV es x true d s a) (tp (env 2) 0)) (vI (tE es x true d s a)),KE_ fun env=>bigF (tV es x true d s a) (tp (env 2) 0),K_ (vI (tE es x true d s a)),KE_ fun env=>vP (pb env 6) 0,none,K_ (vI (tE es x true d s a))] (fun E6=>[(4,vP (pb E1 1) 0),(6,bF),(7,vP c 0),(9,vP (pb E4 7) 0),(10,vI (tE es x lax d s a)),(11,vP (pb E5 7) 0),(12,vI (tE es x lax d s a)),(14,vI (tE es x true d s a))]) (W:=[{ i:=6,T:=39,c0:=[bF,.slice none 0 0],s:=some 7,c1:=fun env=>[.bool (decide (tV es x true d s a < 0)),rS (tV es x true d s a) ((bA (tp (env 2) 0))) ((bC (tp (env 2) 0)))] }]) (F:=[(2,fun env w=>TaiG g w (env 2) (tV es x true d s a) (tE es x true d s a))]) (L1:=fun E6=>[fun w=>TaiG g w (E5 3) (tV es x lax d s a) (tE es x lax d s a),fun w=>TaiG g w (E6 2) (tV es x true d s a) (tE es x true d s a)]) (M':=fun E6=>[((pb E1 0),24,[vI u,vI x,.slice A0 es.length c0]),((pb E1 1),26,[vI d,vI s,vI a]),((pb E4 7),34,[vI (hi (tV es x lax d s a)),.int .u64 (lo (tV es x lax d s a))]),((pb E5 7),39,[.bool (decide (tV es x lax d s a < 0)),rS (tV es x lax d s a) ((bA (tp (E5 3) 0))) ((bC (tp (E5 3) 0)))]),((pb E6 6),39,[.bool (decide (tV es x true d s a < 0)),rS (tV es x true d s a) ((bA (tp (E6 2) 0))) ((bC (tp (E6 2) 0)))])]) (hs:=c_ (ld_ 0 (hrd:=by exact rd24 rfl rfl rfl))<|c_ (ld_ 1 (hrd:=by exact rd26 rfl rfl rfl))<|c_ (cf_ Tryz.func16 (fun v w=>TaiG g w v (tV es x true d s a) (tE es x true d s a)) (taiF (tV es x true d s a) (tE es x true d s a)) (h:=fun _ env _ wd hA=>⟨_,toTaiG (hA.j.st.exb g rfl).1 (rTai15_any wd A0 c0 es u x (hv.gn hA.j.st.gr) hp hn0 d s a hx0 hx1 hx2 hx3 hx4 hx5 true),rfl⟩))<|c_ mv_<|c_ ext_<|c_ ext_<|c_ (al_ 4)<|c_ (sw_ 4 6 (hst:=by exact fun _ _ _ hc=>st39 rfl rfl rfl hc))<|c_ mv_<|e_) (k:=fun E6 ac wd h_6=>?_)
 clear h_5
 refine then_n (wp_seq (wp_seq ?_))
 refine rf_ h_6 [[0],[1],[0,1,2],r_ 4,r_ 5,[0,1,2,3,5],r_ 7,[0,1,2,3,7],[0,1,2,3,7,8],r_ 10,r_ 11] [K_ (vI (tE es x lax d s a)),K_ (vI (tE es x lax d s a)),K_ bF,K_ bF,K_ (vP c 0),K_ (vL d s a),K_ (.bool (tE es x true d s a == 0)),K_ (vI (tE es x true d s a)),K_ (.bool (tE es x true d s a == 0)),K_ bF,K_ bF] (fun E7=>[(6,bF),(9,vP (pb E4 7) 0),(10,vI (tE es x lax d s a)),(11,vP (pb E5 7) 0),(53,bF)]) (hs:=c_ mv_<|c_ mv_<|c_ (bi0 (vI (tE es x lax d s a)) (vI (tE es x lax d s a)) (h:=by intro env w;(first | (simp [go_sem];done) | (simp [go_sem];rfl))))<|c_ mv_<|c_ (gm0 (vP c 0))<|c_ (ld_ 1 (hrd:=by exact rd26 rfl rfl rfl))<|c_ (s_clk (c:=c) (g:=g) (b:=b) (u:=u) (x:=x) (es:=es) Tryz.func17 (fun _ h=>h) (fun _ h=>h) (h:=fun D env ac wd hA hC=>⟨_,ClkC.eq (cexists_c _ c g b u x es hC d s a hx0 hx1) y_ex,rfl⟩))<|c_ (gm0 (vI (tE es x true d s a)))<|c_ (bi0 (vI (tE es x true d s a)) (vI 0))<|c_ (bi0 (.bool (tE es x true d s a == 0)) (.bool (tE es x true d s a == 0)) (h:=by intro env w;(first | (simp [go_sem];done) | (simp [go_sem];rfl))))<|c_ (pk0 bF bT bF (h:=by intro env w;(first | (simp [go_sem];done) | (simp [go_sem];rfl))))<|e_) (k:=fun E7 ac wd h_7=>?_)
 clear h_6
 refine then_n ?_
 refine wp_cond_false (eval_tmp (h_7.g (t:=53) rfl)) ?_
 refine wp_skip (then_n (wp_seq ?_))
 replace h_7:=Cur.off h_7
 by_cases he:tE es x lax d s a=0
 refine rf_ h_7 [[0],[0,1],[0,1,2],r_ 4,r_ 5,r_ 6,[0,1,2,3,4,6],r_ 8,r_ 9,r_ 10,r_ 11,r_ 12,r_ 13,r_ 14,r_ 15,[0,1,2,3,4,5,6,7,8,9,10,11,12,15],r_ 17,r_ 18,r_ 19,r_ 20,r_ 21] [K_ bT,K_ bT,K_ (vI (tE es x lax d s a)),K_ bF,K_ bF,K_ undef,K_ undef,K_ undef,K_ bF,K_ bF,K_ (vI (tE es x lax d s a)),K_ bT,K_ bT,K_ (vW (tV es x lax d s a)),KE_ fun env=>bigF (tV es x lax d s a) (env 14),K_ (bigF (tV es x lax d s a) (tp (E5 3) 0)),K_ bT,K_ bT,K_ bT,K_ bT,K_ bT] (fun E8=>[(6,bT)]) (F:=[(14,fun env w=>BigN w0.heap.size w (env 14) (tV es x lax d s a))]) (L1:=fun E8=>[fun w=>TaiG g w (E5 3) (tV es x lax d s a) (tE es x lax d s a),fun w=>TaiG g w (E6 2) (tV es x true d s a) (tE es x true d s a),fun w=>BigN w0.heap.size w (E8 14) (tV es x lax d s a)]) (hs:=c_ (cl_ Tryz.func14 (h:=fun env=>⟨_,answers15_any,rfl⟩))<|c_ mv_<|c_ (gm0 (vI (tE es x lax d s a)))<|c_ (bi0 (vI (tE es x lax d s a)) (vI 0) (h:=by intro env w;simp [go_sem,he]))<|c_ (gm0 bF (h:=by intro env w;simp [go_sem,he]))<|c_ off_<|c_ off_<|c_ off_<|c_ (pk0 bF undef bF)<|c_ (gm0 bF)<|c_ (gm0 (vI (tE es x lax d s a)))<|c_ (bi0 (vI (tE es x lax d s a)) (vI 0) (h:=by intro env w;simp [go_sem,he]))<|c_ (gm0 bT (h:=by intro env w;simp [go_sem,he]))<|c_ (ld_ 2 (hrd:=by exact rd34 rfl rfl))<|c_ (cb_ Tryz.func19 (tV es x lax d s a) (h:=fun _ env _ wd hA=>⟨_,Of_any wd (tV es x lax d s a) (tV_in hp hn0 x lax d s a),rfl⟩))<|c_ (ld_ 3 (hrd:=by exact rd39 rfl rfl))<|c_ (cw_ Tryz.func18 (h:=fun _ env _ wd hA=>⟨_,(u_res_eq (Same_any wd (decide (tV es x lax d s a < 0)) (bA (env 14)) (bC (env 14)) (tV es x lax d s a) rfl (At.bigN hA 14 rfl rfl rfl)  (decide (tV es x lax d s a < 0)) (bA (tp (E5 3) 0)) (bC (tp (E5 3) 0)) (tV es x lax d s a) rfl (Facts.taiG (hA.j.st.now).1 0 rfl) ) (congrArg Value.bool (decide_eq_true rfl))),rfl⟩))<|c_ (pk0 bT bT bF)<|c_ (pk0 bF bT bT)<|c_ (pk0 bT bT bF)<|c_ mv_<|e_) (k:=fun E8 ac wd h_8=>?_)
 clear h_7
 refine then_n (wp_ret ?_)
 have s6:=h_8.g (t:=6) rfl
 refine leave (v:=.bool true) h_8.df (by simp [results,Tryz.results3,go_sem,Array.getD_eq_getD_getElem?,s6]) ?_
 exact ⟨rfl,h_8.st.below⟩
 have hv0:=y_tV_no he
 refine rf_ h_7 [[0],[0,1],[0,1,2],r_ 4,r_ 5,r_ 6,[0,1,2,3,4,6],r_ 8,r_ 9,r_ 10,r_ 11,r_ 12,r_ 13,r_ 14,r_ 15,[0,1,2,3,4,5,6,7,8,9,10,11,12,15],r_ 17,r_ 18,r_ 19,r_ 20,r_ 21] [K_ bT,K_ bT,K_ (vI (tE es x lax d s a)),K_ bT,K_ bT,K_ (vW (tV es x lax d s a)),K_ (.agg #[vI 0,.int .u64 0]),K_ bT,K_ bT,K_ bT,K_ undef,K_ undef,K_ undef,K_ undef,K_ undef,K_ undef,K_ undef,K_ undef,K_ bT,K_ bT,K_ bT] (fun E8=>[(6,bT)]) (hs:=c_ (cl_ Tryz.func14 (h:=fun env=>⟨_,answers15_any,rfl⟩))<|c_ mv_<|c_ (gm0 (vI (tE es x lax d s a)))<|c_ (bi0 (vI (tE es x lax d s a)) (vI 0) (h:=by intro env w;simp [go_sem,he]))<|c_ (gm0 bT (h:=by intro env w;simp [go_sem,he]))<|c_ (ld_ 2 (hrd:=by exact rd34 rfl rfl))<|c_ (bd0 ([]))<|c_ (bi0 (vW (tV es x lax d s a)) (.agg #[vI 0,.int .u64 0]) (h:=by intro env w;simp [go_sem,hv0,hi_zero,lo_zero]))<|c_ (pk0 bT bT bF (h:=by intro env w;simp [go_sem,hv0,hi_zero,lo_zero]))<|c_ (gm0 bT (h:=by intro env w;simp [go_sem,hv0,hi_zero,lo_zero]))<|c_ off_<|c_ off_<|c_ off_<|c_ off_<|c_ off_<|c_ off_<|c_ off_<|c_ off_<|c_ (pk0 bT bT undef)<|c_ (pk0 bT bT bF)<|c_ mv_<|e_) (k:=fun E8 ac wd h_8=>?_)
 clear h_7
 refine then_n (wp_ret ?_)
 have s6:=h_8.g (t:=6) rfl
 refine leave (v:=.bool true) h_8.df (by simp [results,Tryz.results3,go_sem,Array.getD_eq_getD_getElem?,s6]) ?_
 exact ⟨rfl,h_8.st.below⟩
theorem clockTais_walk (w0:World) (v:Value) (es:List (Int × Int)) (u x:Int) (d s a:Int) (hx0:-9223372036854775808≤d) (hx1:d < 9223372036854775808) (hx2:-9223372036854775808≤s) (hx3:s < 9223372036854775808) (hx4:-9223372036854775808≤a) (hx5:a < 9223372036854775808) (lax:Bool) (hv:Ents w0 w0.heap.size v es) (hu:I64 u) (hx:I64 x) (hes:∀ i,I64 (es.getD i (0,0)).1∧I64 (es.getD i (0,0)).2):Calls Tryz.prog 3 #[.agg #[vI u,vI x,v],vL d s a,.bool (lax)] w0 fun e w'=>e = .returned (.bool true)∧Below w0.heap.size w0 w':=by
 have hv0:=hv
 obtain ⟨A,c,rfl,_⟩:=hv
 exact clockTais_core w0 A c es u x d s a hx0 hx1 hx2 hx3 hx4 hx5 lax hv0 hu hx hes
end Go.Proofs.YtdfkghpgekmmlaaGreat
