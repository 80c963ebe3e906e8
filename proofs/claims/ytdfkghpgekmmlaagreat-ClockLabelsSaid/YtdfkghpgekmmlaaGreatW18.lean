/- Texts GCLabels of one proof, one behind the other; what nothing here names is left out. -/
import Derived.Test.YtdfkghpgekmmlaaGreatW11
import Derived.Test.YtdfkghpgekmmlaaGreatZ4
import Derived.IntWalk
set_option maxRecDepth 100000
set_option maxHeartbeats 8000000
set_option linter.unusedVariables false
set_option linter.unusedSimpArgs false
namespace Go.Proofs.YtdfkghpgekmmlaaGreat
open Go.RowKit
attribute [local go_sem] vN bT bF rS vW vM vL vT2 vT3 vP vI execOp Act.eval evC bigF vB hi_zero lo_zero Tryz.underlying24 Tryz.underlying26 Tryz.underlying34
theorem clockLabels_core (w0:World) (A0:Option Addr) (c0:Nat) (es:List (Int × Int)) (u x:Int) (z:Int) (hz:InW z) (lax:Bool) (hv:Ents w0 w0.heap.size (.slice A0 es.length c0) es) (hu:I64 u) (hx:I64 x) (hes:∀ i,I64 (es.getD i (0,0)).1∧I64 (es.getD i (0,0)).2):Calls Tryz.prog 4 #[.agg #[vI u,vI x,.slice A0 es.length c0],vW z,.bool (lax)] w0 fun e w'=>e = .returned (.bool true)∧Below w0.heap.size w0 w':=by
 have hst:=St.start w0 (Θ:=fun _=>True) (fun _ _=>trivial)
 refine enter Tryz.func4 rfl (n:=47) rfl (Nat.le_of_ble_eq_true rfl) hst (L:=[(0,.agg #[vI u,vI x,.slice A0 es.length c0]),(1,vW z),(2,.bool (lax))]) (lk_args rfl) (fun ac h=>?_)
 replace h:=h.facts
 refine wp_seq ?_
 refine rf_ h [[0],[1],[2]] [KE_ fun env=>vP (pb env 0) 0,KE_ fun env=>vP (pb env 1) 0,K_ bF] (fun E1=>[(2,.bool (lax)),(3,vP (pb E1 0) 0),(4,vP (pb E1 1) 0),(6,bF)]) (W:=[{ i:=0,T:=24,c0:=[vI u,vI x,.slice A0 es.length c0] },{ i:=1,T:=34,c0:=[vI (hi (z)),.int .u64 (lo (z))] }]) (M':=fun E1=>[((pb E1 0),24,[vI u,vI x,.slice A0 es.length c0]),((pb E1 1),34,[vI (hi (z)),.int .u64 (lo (z))])]) (hs:=c_ (bx0 0 (.agg #[vI u,vI x,.slice A0 es.length c0]))<|c_ (bx0 1 (vW z))<|c_ mv_<|e_) (k:=fun E1 ac wd h_1=>?_)
 clear h
 refine then_n (wp_seq ?_)
 cases hok:okT u x es
 refine rf_ h_1 [[0],[0,1],[0,1,2],r_ 4,[0,1,2,4],[0,1,2,3,5],r_ 7] [K_ (.agg #[vI u,vI x,.slice A0 es.length c0]),K_ (vT2 (.pointer none) (vI 10)),K_ (vT2 (.pointer none) (vI 10)),K_ (.pointer none),K_ (vI 10),K_ (.pointer none),K_ (vI 10)] (fun E2=>[(2,.bool (lax)),(3,vP (pb E1 0) 0),(4,vP (pb E1 1) 0),(6,bF),(7,.pointer none),(8,vI 10)]) (hs:=c_ (ld_ 0 (hrd:=by exact rd24 rfl rfl rfl))<|c_ (cw_ Tryz.func13 (h:=fun _ env _ wd hA=>⟨_,cnew_no (hv.gn hA.j.st.gr) hu hx hes hok,rfl⟩))<|c_ mv_<|c_ ext_<|c_ ext_<|c_ mv_<|c_ mv_<|e_) (k:=fun E2 ac wd h_2=>?_)
 clear h_1
 refine then_n (wp_seq (wp_seq ?_))
 refine rf_ h_2 [[0],[0,1]] [K_ (vI 10),K_ bT] (fun E3=>[(2,.bool (lax)),(3,vP (pb E1 0) 0),(4,vP (pb E1 1) 0),(6,bF),(7,.pointer none),(19,bT)]) (hs:=c_ mv_<|c_ (bi0 (vI 10) (vI 0))<|e_) (k:=fun E3 ac wd h_3=>?_)
 clear h_2
 refine then_n ?_
 refine wp_cond_true (eval_tmp (h_3.g (t:=19) rfl)) ?_
 refine wp_seq ?_
 refine rf_ h_3 [[0],[0,1]] [K_ bT,K_ bT] (fun E4=>[(2,.bool (lax)),(3,vP (pb E1 0) 0),(4,vP (pb E1 1) 0),(6,bT),(7,.pointer none)]) (hs:=c_ (cl_ Tryz.func14 (h:=fun env=>⟨_,answers15_any,rfl⟩))<|c_ mv_<|e_) (k:=fun E4 ac wd h_4=>?_)
 clear h_3
 refine then_n (wp_ret (then_ret ?_))
 have s6:=h_4.g (t:=6) rfl
 refine leave (v:=.bool true) h_4.df (by simp [results,Tryz.results4,go_sem,Array.getD_eq_getD_getElem?,s6]) ?_
 exact ⟨rfl,h_4.st.below⟩
 obtain ⟨hp,hn0,_⟩:=okT_pre hok
 refine rf_ h_1 [[0],[0,1],[0,1,2],r_ 4,[0,1,2,4],[0,1,2,3,5],r_ 7] [K_ (.agg #[vI u,vI x,.slice A0 es.length c0]),KE_ fun env=>vT2 (vP (ptrB (tp (env 1) 0)) 0) (vI 0),KE_ fun env=>vT2 (vP (ptrB (tp (env 1) 0)) 0) (vI 0),KE_ fun env=>vP (ptrB (tp (env 1) 0)) 0,K_ (vI 0),KE_ fun env=>vP (ptrB (tp (env 1) 0)) 0,K_ (vI 0)] (fun E2=>[(2,.bool (lax)),(3,vP (pb E1 0) 0),(4,vP (pb E1 1) 0),(6,bF),(7,vP (ptrB (tp (E2 1) 0)) 0),(8,vI 0)]) (F:=[(1,fun env w=>NewCx w (env 1) u x es w0.heap.size)]) (L1:=fun E2=>[fun w=>NewCx w (E2 1) u x es w0.heap.size]) (hs:=c_ (ld_ 0 (hrd:=by exact rd24 rfl rfl rfl))<|c_ (s_factT rfl rfl rfl Tryz.func13 (by kernel_rfl) rfl (fun _=>wanted_none rfl _) (fun v w=>NewCx w v u x es w0.heap.size) newLF rfl rfl cT rfl (fun v w h=>h.form) (fun v w w' hk h=>h.keep hk) (fun {D env ac wd} hA=>⟨_,hA.args (vs:=[.agg #[vI u,vI x,.slice A0 es.length c0]]) rfl,cnew_yes hA.j.st.gr.size (hv.gn hA.j.st.gr) hu hx hes hok⟩))<|c_ mv_<|c_ ext_<|c_ ext_<|c_ mv_<|c_ mv_<|e_) (k:=fun E2 ac wd h_2=>?_)
 clear h_1
 refine then_n (wp_seq (wp_seq ?_))
 replace h_2:=Cur.exInC h_2 0 rfl;obtain ⟨g,b,h_2⟩:=h_2;generalize ptrB (tp (E2 1) 0)=c at h_2
 refine rf_ h_2 [[0],[0,1]] [K_ (vI 0),K_ bF] (fun E3=>[(2,.bool (lax)),(3,vP (pb E1 0) 0),(4,vP (pb E1 1) 0),(6,bF),(7,vP c 0),(19,bF)]) (hs:=c_ mv_<|c_ (bi0 (vI 0) (vI 0) (h:=by intro env w;(first | (simp [go_sem];done) | (simp [go_sem];rfl))))<|e_) (k:=fun E3 ac wd h_3=>?_)
 clear h_2
 refine then_n ?_
 refine wp_cond_false (eval_tmp (h_3.g (t:=19) rfl)) ?_
 refine wp_skip (then_n (wp_seq ?_))
 refine rf_ h_3 [[0],[1],[2],r_ 4,r_ 5,r_ 6,[0,1,2,3,4,6],[7],[0,1,2,3,4,5,7,8],r_ 10] [K_ (vP c 0),K_ (vW z),K_ (.bool (lax)),K_ (vT2 (vL ((lbl4 es x lax z).2.1) ((lbl4 es x lax z).2.2.1) ((lbl4 es x lax z).2.2.2)) (vI ((lbl4 es x lax z).1))),K_ (vT2 (vL ((lbl4 es x lax z).2.1) ((lbl4 es x lax z).2.2.1) ((lbl4 es x lax z).2.2.2)) (vI ((lbl4 es x lax z).1))),K_ (vL ((lbl4 es x lax z).2.1) ((lbl4 es x lax z).2.2.1) ((lbl4 es x lax z).2.2.2)),K_ (vI ((lbl4 es x lax z).1)),KE_ fun env=>vP (pb env 7) 0,none,K_ (vI ((lbl4 es x lax z).1))] (fun E4=>[(2,.bool (lax)),(3,vP (pb E1 0) 0),(4,vP (pb E1 1) 0),(6,bF),(9,vP (pb E4 7) 0),(10,vI ((lbl4 es x lax z).1))]) (W:=[{ i:=7,T:=26,c0:=[vI 0,vI 0,vI 0],s:=some 8,c1:=fun _=>[vI ((lbl4 es x lax z).2.1),vI ((lbl4 es x lax z).2.2.1),vI ((lbl4 es x lax z).2.2.2)] }]) (M':=fun E4=>[((pb E1 0),24,[vI u,vI x,.slice A0 es.length c0]),((pb E1 1),34,[vI (hi (z)),.int .u64 (lo (z))]),((pb E4 7),26,[vI ((lbl4 es x lax z).2.1),vI ((lbl4 es x lax z).2.2.1),vI ((lbl4 es x lax z).2.2.2)])]) (hs:=c_ mv_<|c_ (ld_ 1 (hrd:=by exact rd34 rfl rfl))<|c_ mv_<|c_ (s_clk (c:=c) (g:=g) (b:=b) (u:=u) (x:=x) (es:=es) Tryz.func20 (fun _ h=>h) (fun _ h=>h) (h:=fun D env ac wd hA hC=>⟨_,cLabel_c _ c g b u x es hC lax z hz,rfl⟩))<|c_ mv_<|c_ ext_<|c_ ext_<|c_ (al_ 2)<|c_ (sw_ 2 7 (hst:=by exact fun _ _ _ hc=>st26 rfl rfl rfl rfl hc))<|c_ mv_<|e_) (k:=fun E4 ac wd h_4=>?_)
 clear h_3
 refine then_n (wp_seq ?_)
 replace h_4:=Cur.off h_4
 refine rf_ h_4 [[0],[1],[1,2],[3],r_ 5,r_ 6,r_ 7,[0,1,2,3,4,5,7],[8],[0,1,2,3,4,5,6,8,9],r_ 11] [K_ (.agg #[vI u,vI x,.slice A0 es.length c0]),K_ (vW z),KE_ fun env=>bigF z (env 2),K_ (.bool (lax)),K_ (vT2 (vL ((lbl4 es x lax z).2.1) ((lbl4 es x lax z).2.2.1) ((lbl4 es x lax z).2.2.2)) (vI ((lbl4 es x lax z).1))),K_ (vT2 (vL ((lbl4 es x lax z).2.1) ((lbl4 es x lax z).2.2.1) ((lbl4 es x lax z).2.2.2)) (vI ((lbl4 es x lax z).1))),K_ (vL ((lbl4 es x lax z).2.1) ((lbl4 es x lax z).2.2.1) ((lbl4 es x lax z).2.2.2)),K_ (vI ((lbl4 es x lax z).1)),KE_ fun env=>vP (pb env 8) 0,none,K_ (vI ((lbl4 es x lax z).1))] (fun E5=>[(6,bF),(9,vP (pb E4 7) 0),(10,vI ((lbl4 es x lax z).1)),(11,vP (pb E5 8) 0),(12,vI ((lbl4 es x lax z).1))]) (W:=[{ i:=8,T:=26,c0:=[vI 0,vI 0,vI 0],s:=some 9,c1:=fun _=>[vI ((lbl4 es x lax z).2.1),vI ((lbl4 es x lax z).2.2.1),vI ((lbl4 es x lax z).2.2.2)] }]) (F:=[(2,fun env w=>BigN w0.heap.size w (env 2) z)]) (L1:=fun E5=>[fun w=>BigN w0.heap.size w (E5 2) z]) (M':=fun E5=>[((pb E1 0),24,[vI u,vI x,.slice A0 es.length c0]),((pb E1 1),34,[vI (hi (z)),.int .u64 (lo (z))]),((pb E4 7),26,[vI ((lbl4 es x lax z).2.1),vI ((lbl4 es x lax z).2.2.1),vI ((lbl4 es x lax z).2.2.2)]),((pb E5 8),26,[vI ((lbl4 es x lax z).2.1),vI ((lbl4 es x lax z).2.2.1),vI ((lbl4 es x lax z).2.2.2)])]) (hs:=c_ (ld_ 0 (hrd:=by exact rd24 rfl rfl rfl))<|c_ (ld_ 1 (hrd:=by exact rd34 rfl rfl))<|c_ (cb_ Tryz.func19 z (h:=fun _ env _ wd hA=>⟨_,Of_any wd z hz,rfl⟩))<|c_ mv_<|c_ (cw_ Tryz.func21 (h:=fun _ env _ wd hA=>⟨_,(rLabel15_any wd A0 c0 es u x (hv.gn hA.j.st.gr) hp hn0 _ (bA (env 2)) (bC (env 2)) z rfl (At.bigN hA 2 rfl rfl rfl) hz lax),rfl⟩))<|c_ mv_<|c_ ext_<|c_ ext_<|c_ (al_ 3)<|c_ (sw_ 3 8 (hst:=by exact fun _ _ _ hc=>st26 rfl rfl rfl rfl hc))<|c_ mv_<|e_) (k:=fun E5 ac wd h_5=>?_)
 clear h_4
 refine then_n (wp_seq ?_)
 refine rf_ h_5 [[0],[0,1],[0,1,2],[0,1,3],r_ 5,r_ 6,r_ 7,r_ 8,[0,1,2,3,4,5,6,8],r_ 10,r_ 11,r_ 12] [K_ bT,K_ bT,K_ (vL ((lbl4 es x lax z).2.1) ((lbl4 es x lax z).2.2.1) ((lbl4 es x lax z).2.2.2)),K_ (vL ((lbl4 es x lax z).2.1) ((lbl4 es x lax z).2.2.1) ((lbl4 es x lax z).2.2.2)),K_ bT,K_ bT,K_ bT,K_ (vI ((lbl4 es x lax z).1)),K_ (vI ((lbl4 es x lax z).1)),K_ bT,K_ bT,K_ bT] (fun E6=>[(6,bT)]) (hs:=c_ (cl_ Tryz.func14 (h:=fun env=>⟨_,answers15_any,rfl⟩))<|c_ mv_<|c_ (ld_ 2 (hrd:=by exact rd26 rfl rfl rfl))<|c_ (ld_ 3 (hrd:=by exact rd26 rfl rfl rfl))<|c_ (bi0 (vL ((lbl4 es x lax z).2.1) ((lbl4 es x lax z).2.2.1) ((lbl4 es x lax z).2.2.2)) (vL ((lbl4 es x lax z).2.1) ((lbl4 es x lax z).2.2.1) ((lbl4 es x lax z).2.2.2)) (h:=by intro env w;(first | (simp [go_sem];done) | (simp [go_sem];rfl))))<|c_ (pk0 bT bT bF (h:=by intro env w;(first | (simp [go_sem];done) | (simp [go_sem];rfl))))<|c_ mv_<|c_ (gm0 (vI ((lbl4 es x lax z).1)))<|c_ (gm0 (vI ((lbl4 es x lax z).1)))<|c_ (bi0 (vI ((lbl4 es x lax z).1)) (vI ((lbl4 es x lax z).1)) (h:=by intro env w;(first | (simp [go_sem];done) | (simp [go_sem];rfl))))<|c_ (pk0 bT bT bF (h:=by intro env w;(first | (simp [go_sem];done) | (simp [go_sem];rfl))))<|c_ mv_<|e_) (k:=fun E6 ac wd h_6=>?_)
 clear h_5
 refine then_n (wp_ret ?_)
 have s6:=h_6.g (t:=6) rfl
 refine leave (v:=.bool true) h_6.df (by simp [results,Tryz.results4,go_sem,Array.getD_eq_getD_getElem?,s6]) ?_
 exact ⟨rfl,h_6.st.below⟩
theorem clockLabels_walk (w0:World) (v:Value) (es:List (Int × Int)) (u x:Int) (z:Int) (hz:InW z) (lax:Bool) (hv:Ents w0 w0.heap.size v es) (hu:I64 u) (hx:I64 x) (hes:∀ i,I64 (es.getD i (0,0)).1∧I64 (es.getD i (0,0)).2):Calls Tryz.prog 4 #[.agg #[vI u,vI x,v],vW z,.bool (lax)] w0 fun e w'=>e = .returned (.bool true)∧Below w0.heap.size w0 w':=by
 have hv0:=hv
 obtain ⟨A,c,rfl,_⟩:=hv
 exact clockLabels_core w0 A c es u x z hz lax hv0 hu hx hes
end Go.Proofs.YtdfkghpgekmmlaaGreat
