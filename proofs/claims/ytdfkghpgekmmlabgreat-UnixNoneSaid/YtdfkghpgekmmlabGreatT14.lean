/- Texts GXNone of one proof, one behind the other; what nothing here names is left out. -/
import Derived.Test.YtdfkghpgekmmlabGreatT11
import Derived.Test.YtdfkghpgekmmlabGreatZ4
import Derived.IntWalk
set_option maxRecDepth 100000
set_option maxHeartbeats 8000000
set_option linter.unusedVariables false
set_option linter.unusedSimpArgs false
namespace Go.Proofs.YtdfkghpgekmmlabGreat
open Go.RowKit
attribute [local go_sem] vN bT bF rS vW vM vL vT2 vT3 vP vI execOp Act.eval evC bigF vB hi_zero lo_zero Tryz.underlying23 Tryz.underlying26
theorem unixNone_walk (w0:World) (z:Int) (hz:InW z) (pick:Int):Calls Tryz.prog 7 #[vW z,vI pick] w0 fun e w'=>e = .returned (.bool true)∧Below w0.heap.size w0 w':=by
 have hst:=St.start w0 (Θ:=fun _=>True) (fun _ _=>trivial)
 refine enter Tryz.func7 rfl (n:=54) rfl (Nat.le_of_ble_eq_true rfl) hst (L:=[(0,vW z),(1,vI pick)]) (lk_args rfl) (fun ac h=>?_)
 replace h:=h.facts
 refine wp_seq ?_
 refine rf_ h [[0],[1]] [KE_ fun env=>vP (pb env 0) 0,K_ bF] (fun E1=>[(1,vI pick),(2,vP (pb E1 0) 0),(4,bF)]) (W:=[{ i:=0,T:=26,c0:=[vI (hi (z)),.int .u64 (lo (z))] }]) (M':=fun E1=>[((pb E1 0),26,[vI (hi (z)),.int .u64 (lo (z))])]) (hs:=c_ (bx0 0 (vW z))<|c_ mv_<|e_) (k:=fun E1 ac wd h_1=>?_)
 clear h
 refine then_n (wp_seq ?_)
 refine rf_ h_1 [[0],[0,1],[0,1,2],r_ 4,[0,1,2,4],[0,1,2,5],[0,1,2,6],[7],[8],[0,1,2,3,7,8,9],[0,1,2,3,4,7,8,9,10],[0,1,2,3,4,5,7,8,9,10,11],r_ 13] [K_ (vW z),K_ (.tuple #[vL 0 0 0,vL 0 0 0,vI 0,vI 12]),K_ (.tuple #[vL 0 0 0,vL 0 0 0,vI 0,vI 12]),K_ (vL 0 0 0),K_ (vL 0 0 0),K_ (vI 0),K_ (vI 12),KE_ fun env=>vP (pb env 7) 0,KE_ fun env=>vP (pb env 8) 0,none,none,K_ (vI 0),K_ (vI 12)] (fun E2=>[(1,vI pick),(2,vP (pb E1 0) 0),(4,bF),(5,vP (pb E2 7) 0),(6,vP (pb E2 8) 0),(7,vI 0),(8,vI 12)]) (W:=[{ i:=7,T:=23,c0:=[vI 0,vI 0,vI 0],s:=some 9,c1:=fun _=>[vI 0,vI 0,vI 0] },{ i:=8,T:=23,c0:=[vI 0,vI 0,vI 0],s:=some 10,c1:=fun _=>[vI 0,vI 0,vI 0] }]) (M':=fun E2=>[((pb E1 0),26,[vI (hi (z)),.int .u64 (lo (z))]),((pb E2 7),23,[vI 0,vI 0,vI 0]),((pb E2 8),23,[vI 0,vI 0,vI 0])]) (hs:=c_ (ld_ 0 (hrd:=by exact rd26 rfl rfl))<|c_ (cl_ Tryz.func17 (h:=fun env=>⟨_,(xlabels_nil z),rfl⟩))<|c_ mv_<|c_ ext_<|c_ ext_<|c_ ext_<|c_ ext_<|c_ (al_ 1)<|c_ (al_ 2)<|c_ (sw_ 1 7 (hst:=by exact fun _ _ _ hc=>st23 rfl rfl rfl rfl hc))<|c_ (sw_ 2 8 (hst:=by exact fun _ _ _ hc=>st23 rfl rfl rfl rfl hc))<|c_ mv_<|c_ mv_<|e_) (k:=fun E2 ac wd h_2=>?_)
 clear h_1
 refine then_n (wp_seq ?_)
 refine rf_ h_2 [[0],[1],[0,1,2],r_ 4,r_ 5,[0,1,2,3,5],[6],[0,1,2,3,4,6,7],r_ 9] [K_ (vW z),K_ (vI pick),K_ (vT2 (vL 0 0 0) (vI 12)),K_ (vT2 (vL 0 0 0) (vI 12)),K_ (vL 0 0 0),K_ (vI 12),KE_ fun env=>vP (pb env 6) 0,none,K_ (vI 12)] (fun E3=>[(4,bF),(5,vP (pb E2 7) 0),(6,vP (pb E2 8) 0),(7,vI 0),(8,vI 12),(9,vP (pb E3 6) 0),(10,vI 12)]) (W:=[{ i:=6,T:=23,c0:=[vI 0,vI 0,vI 0],s:=some 7,c1:=fun _=>[vI 0,vI 0,vI 0] }]) (M':=fun E3=>[((pb E1 0),26,[vI (hi (z)),.int .u64 (lo (z))]),((pb E2 7),23,[vI 0,vI 0,vI 0]),((pb E2 8),23,[vI 0,vI 0,vI 0]),((pb E3 6),23,[vI 0,vI 0,vI 0])]) (hs:=c_ (ld_ 0 (hrd:=by exact rd26 rfl rfl))<|c_ mv_<|c_ (cl_ Tryz.func18 (h:=fun env=>⟨_,(xfind_nil z pick),rfl⟩))<|c_ mv_<|c_ ext_<|c_ ext_<|c_ (al_ 3)<|c_ (sw_ 3 6 (hst:=by exact fun _ _ _ hc=>st23 rfl rfl rfl rfl hc))<|c_ mv_<|e_) (k:=fun E3 ac wd h_3=>?_)
 clear h_2
 refine then_n (wp_seq ?_)
 refine rf_ h_3 [[0],[1],[0,1,2]] [K_ (vL 0 0 0),KE_ fun env=>vP (pb env 1) 0,none] (fun E4=>[(4,bF),(5,vP (pb E2 7) 0),(6,vP (pb E2 8) 0),(7,vI 0),(8,vI 12),(9,vP (pb E3 6) 0),(10,vI 12),(11,vP (pb E4 1) 0)]) (W:=[{ i:=1,T:=23,c0:=[vI 0,vI 0,vI 0],s:=some 2,c1:=fun _=>[vI 0,vI 0,vI 0] }]) (M':=fun E4=>[((pb E1 0),26,[vI (hi (z)),.int .u64 (lo (z))]),((pb E2 7),23,[vI 0,vI 0,vI 0]),((pb E2 8),23,[vI 0,vI 0,vI 0]),((pb E3 6),23,[vI 0,vI 0,vI 0]),((pb E4 1),23,[vI 0,vI 0,vI 0])]) (hs:=c_ (bd0 ([]))<|c_ (al_ 4)<|c_ (sw_ 4 1 (hst:=by exact fun _ _ _ hc=>st23 rfl rfl rfl rfl hc))<|e_) (k:=fun E4 ac wd h_4=>?_)
 clear h_3
 refine then_n (wp_seq ?_)
 refine rf_ h_4 [[0],[0,1],[0,1,2],r_ 4,r_ 5,r_ 6,r_ 7,r_ 8,r_ 9,r_ 10,r_ 11,r_ 12,r_ 13,r_ 14,r_ 15,[0,1,2,3,4,5,6,7,8,9,10,11,12,13,15],r_ 17,r_ 18,r_ 19,r_ 20,[0,1,2,3,4,5,6,7,8,9,10,11,12,13,14,15,16,17,18,20],r_ 22,r_ 23,r_ 24,r_ 25,[0,1,2,3,4,5,6,7,8,9,10,11,12,13,14,15,16,17,18,19,20,21,22,23,25],r_ 27,r_ 28,r_ 29] [K_ bT,K_ bT,K_ (vI 12),K_ bT,K_ bT,K_ bT,K_ (vI 12),K_ bT,K_ bT,K_ bT,K_ (vI 0),K_ bT,K_ bT,K_ bT,K_ (vL 0 0 0),K_ (vL 0 0 0),K_ bT,K_ bT,K_ bT,K_ (vL 0 0 0),K_ (vL 0 0 0),K_ bT,K_ bT,K_ bT,K_ (vL 0 0 0),K_ (vL 0 0 0),K_ bT,K_ bT,K_ bT] (fun E5=>[(4,bT)]) (hs:=c_ (cl_ Tryz.func11 (h:=fun env=>⟨_,answers17_any,rfl⟩))<|c_ mv_<|c_ (gm0 (vI 12))<|c_ (bi0 (vI 12) (vI 12) (h:=by intro env w;(first | (simp [go_sem];done) | (simp [go_sem];rfl))))<|c_ (pk0 bT bT bF (h:=by intro env w;(first | (simp [go_sem];done) | (simp [go_sem];rfl))))<|c_ mv_<|c_ (gm0 (vI 12))<|c_ (bi0 (vI 12) (vI 12) (h:=by intro env w;(first | (simp [go_sem];done) | (simp [go_sem];rfl))))<|c_ (pk0 bT bT bF (h:=by intro env w;(first | (simp [go_sem];done) | (simp [go_sem];rfl))))<|c_ mv_<|c_ (gm0 (vI 0))<|c_ (bi0 (vI 0) (vI 0) (h:=by intro env w;(first | (simp [go_sem];done) | (simp [go_sem];rfl))))<|c_ (pk0 bT bT bF (h:=by intro env w;(first | (simp [go_sem];done) | (simp [go_sem];rfl))))<|c_ mv_<|c_ (ld_ 1 (hrd:=by exact rd23 rfl rfl rfl))<|c_ (ld_ 4 (hrd:=by exact rd23 rfl rfl rfl))<|c_ (bi0 (vL 0 0 0) (vL 0 0 0) (h:=by intro env w;(first | (simp [go_sem];done) | (simp [go_sem];rfl))))<|c_ (pk0 bT bT bF (h:=by intro env w;(first | (simp [go_sem];done) | (simp [go_sem];rfl))))<|c_ mv_<|c_ (ld_ 2 (hrd:=by exact rd23 rfl rfl rfl))<|c_ (ld_ 4 (hrd:=by exact rd23 rfl rfl rfl))<|c_ (bi0 (vL 0 0 0) (vL 0 0 0) (h:=by intro env w;(first | (simp [go_sem];done) | (simp [go_sem];rfl))))<|c_ (pk0 bT bT bF (h:=by intro env w;(first | (simp [go_sem];done) | (simp [go_sem];rfl))))<|c_ mv_<|c_ (ld_ 3 (hrd:=by exact rd23 rfl rfl rfl))<|c_ (ld_ 4 (hrd:=by exact rd23 rfl rfl rfl))<|c_ (bi0 (vL 0 0 0) (vL 0 0 0) (h:=by intro env w;(first | (simp [go_sem];done) | (simp [go_sem];rfl))))<|c_ (pk0 bT bT bF (h:=by intro env w;(first | (simp [go_sem];done) | (simp [go_sem];rfl))))<|c_ mv_<|e_) (k:=fun E5 ac wd h_5=>?_)
 clear h_4
 refine then_n (wp_ret ?_)
 have s4:=h_5.g (t:=4) rfl
 refine leave (v:=.bool true) h_5.df (by simp [results,Tryz.results7,go_sem,Array.getD_eq_getD_getElem?,s4]) ?_
 exact ⟨rfl,h_5.st.below⟩
end Go.Proofs.YtdfkghpgekmmlabGreat
