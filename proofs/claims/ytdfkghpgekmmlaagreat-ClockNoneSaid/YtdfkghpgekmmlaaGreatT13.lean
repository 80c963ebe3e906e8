/- Texts GCNone of one proof, one behind the other; what nothing here names is left out. -/
import Derived.Test.YtdfkghpgekmmlaaGreatT11
import Derived.Test.YtdfkghpgekmmlaaGreatZ4
import Derived.IntWalk
set_option maxRecDepth 100000
set_option maxHeartbeats 8000000
set_option linter.unusedVariables false
set_option linter.unusedSimpArgs false
namespace Go.Proofs.YtdfkghpgekmmlaaGreat
open Go.RowKit
attribute [local go_sem] vN bT bF rS vW vM vL vT2 vT3 vP vI execOp Act.eval evC bigF vB hi_zero lo_zero Tryz.underlying26 Tryz.underlying34
theorem clockNone_walk (w0:World) (d s a:Int) (hx0:-9223372036854775808≤d) (hx1:d < 9223372036854775808) (hx2:-9223372036854775808≤s) (hx3:s < 9223372036854775808) (hx4:-9223372036854775808≤a) (hx5:a < 9223372036854775808) (z:Int) (hz:InW z) (lax:Bool):Calls Tryz.prog 6 #[vL d s a,vW z,.bool (lax)] w0 fun e w'=>e = .returned (.bool true)∧Below w0.heap.size w0 w':=by
 have hst:=St.start w0 (Θ:=fun _=>True) (fun _ _=>trivial)
 refine enter Tryz.func6 rfl (n:=61) rfl (Nat.le_of_ble_eq_true rfl) hst (L:=[(0,vL d s a),(1,vW z),(2,.bool (lax))]) (lk_args rfl) (fun ac h=>?_)
 replace h:=h.facts
 refine wp_seq ?_
 refine rf_ h [[0],[1],[2]] [KE_ fun env=>vP (pb env 0) 0,KE_ fun env=>vP (pb env 1) 0,K_ bF] (fun E1=>[(2,.bool (lax)),(3,vP (pb E1 0) 0),(4,vP (pb E1 1) 0),(6,bF)]) (W:=[{ i:=0,T:=26,c0:=[vI d,vI s,vI a] },{ i:=1,T:=34,c0:=[vI (hi (z)),.int .u64 (lo (z))] }]) (M':=fun E1=>[((pb E1 0),26,[vI d,vI s,vI a]),((pb E1 1),34,[vI (hi (z)),.int .u64 (lo (z))])]) (hs:=c_ (bx0 0 (vL d s a))<|c_ (bx0 1 (vW z))<|c_ mv_<|e_) (k:=fun E1 ac wd h_1=>?_)
 clear h
 refine then_n (wp_seq ?_)
 refine rf_ h_1 [[0]] [K_ (.pointer none)] (fun E2=>[(2,.bool (lax)),(3,vP (pb E1 0) 0),(4,vP (pb E1 1) 0),(6,bF),(7,.pointer none)]) (hs:=c_ mv_<|e_) (k:=fun E2 ac wd h_2=>?_)
 clear h_1
 refine then_n (wp_seq ?_)
 refine rf_ h_2 [[0],[1],[2],r_ 4,r_ 5,r_ 6,[0,1,2,3,4,6],[7],[0,1,2,3,4,5,7,8],r_ 10] [K_ (.pointer none),K_ (vL d s a),K_ (.bool (lax)),K_ (vT2 (vW 0) (vI 12)),K_ (vT2 (vW 0) (vI 12)),K_ (vW 0),K_ (vI 12),KE_ fun env=>vP (pb env 7) 0,none,K_ (vI 12)] (fun E3=>[(2,.bool (lax)),(3,vP (pb E1 0) 0),(4,vP (pb E1 1) 0),(6,bF),(7,.pointer none),(8,vP (pb E3 7) 0),(9,vI 12)]) (W:=[{ i:=7,T:=34,c0:=[vI 0,.int .u64 0],s:=some 8,c1:=fun _=>[vI (hi (0)),.int .u64 (lo (0))] }]) (M':=fun E3=>[((pb E1 0),26,[vI d,vI s,vI a]),((pb E1 1),34,[vI (hi (z)),.int .u64 (lo (z))]),((pb E3 7),34,[vI (hi (0)),.int .u64 (lo (0))])]) (hs:=c_ mv_<|c_ (ld_ 0 (hrd:=by exact rd26 rfl rfl rfl))<|c_ mv_<|c_ (cl_ Tryz.func15 (h:=fun env=>⟨_,(cTai_nil d s a lax),rfl⟩))<|c_ mv_<|c_ ext_<|c_ ext_<|c_ (al_ 2)<|c_ (sw_ 2 7 (hst:=by exact fun _ _ _ hc=>st34 rfl rfl rfl hc))<|c_ mv_<|e_) (k:=fun E3 ac wd h_3=>?_)
 clear h_2
 refine then_n (wp_seq ?_)
 refine rf_ h_3 [[0],[1],[2],r_ 4,r_ 5,r_ 6,[0,1,2,3,4,6],[7],[0,1,2,3,4,5,7,8],r_ 10] [K_ (.pointer none),K_ (vW z),K_ (.bool (lax)),K_ (vT2 (vL 0 0 0) (vI 12)),K_ (vT2 (vL 0 0 0) (vI 12)),K_ (vL 0 0 0),K_ (vI 12),KE_ fun env=>vP (pb env 7) 0,none,K_ (vI 12)] (fun E4=>[(3,vP (pb E1 0) 0),(6,bF),(7,.pointer none),(8,vP (pb E3 7) 0),(9,vI 12),(10,vP (pb E4 7) 0),(11,vI 12)]) (W:=[{ i:=7,T:=26,c0:=[vI 0,vI 0,vI 0],s:=some 8,c1:=fun _=>[vI 0,vI 0,vI 0] }]) (M':=fun E4=>[((pb E1 0),26,[vI d,vI s,vI a]),((pb E1 1),34,[vI (hi (z)),.int .u64 (lo (z))]),((pb E3 7),34,[vI (hi (0)),.int .u64 (lo (0))]),((pb E4 7),26,[vI 0,vI 0,vI 0])]) (hs:=c_ mv_<|c_ (ld_ 1 (hrd:=by exact rd34 rfl rfl))<|c_ mv_<|c_ (cl_ Tryz.func20 (h:=fun env=>⟨_,(cLabel_nil z lax),rfl⟩))<|c_ mv_<|c_ ext_<|c_ ext_<|c_ (al_ 3)<|c_ (sw_ 3 7 (hst:=by exact fun _ _ _ hc=>st26 rfl rfl rfl rfl hc))<|c_ mv_<|e_) (k:=fun E4 ac wd h_4=>?_)
 clear h_3
 refine then_n (wp_seq ?_)
 refine rf_ h_4 [[0],[0,1],[0,1,2],r_ 4,r_ 5,r_ 6,r_ 7,[0,1,2,3,4,5,7],r_ 9,r_ 10,r_ 11,r_ 12,r_ 13,r_ 14,r_ 15,r_ 16,[0,1,2,3,4,5,6,7,8,9,10,11,12,13,14,16],r_ 18,r_ 19,r_ 20,r_ 21,r_ 22,r_ 23,r_ 24,r_ 25,r_ 26,[0,1,2,3,4,5,6,7,8,9,10,11,12,13,14,15,16,17,18,19,20,21,22,23,24,26],r_ 28,r_ 29,r_ 30,r_ 31,r_ 32,r_ 33,r_ 34,r_ 35,r_ 36] [K_ bT,K_ bT,K_ (vI 12),K_ bT,K_ bT,K_ bT,K_ (vW 0),K_ (.agg #[vI 0,.int .u64 0]),K_ bT,K_ bT,K_ bT,K_ (vI 12),K_ bT,K_ bT,K_ bT,K_ (vL 0 0 0),K_ (vL 0 0 0),K_ bT,K_ bT,K_ bT,K_ (.pointer none),K_ bF,K_ bT,K_ bT,K_ bT,K_ (.pointer none),K_ (vL d s a),K_ bF,K_ bT,K_ bT,K_ bT,K_ (.pointer none),K_ (.pointer none),K_ bT,K_ bT,K_ bT] (fun E5=>[(6,bT)]) (hs:=c_ (cl_ Tryz.func14 (h:=fun env=>⟨_,answers15_any,rfl⟩))<|c_ mv_<|c_ (gm0 (vI 12))<|c_ (bi0 (vI 12) (vI 12) (h:=by intro env w;(first | (simp [go_sem];done) | (simp [go_sem];rfl))))<|c_ (pk0 bT bT bF (h:=by intro env w;(first | (simp [go_sem];done) | (simp [go_sem];rfl))))<|c_ mv_<|c_ (ld_ 2 (hrd:=by exact rd34 rfl rfl))<|c_ (bd0 ([]))<|c_ (bi0 (vW 0) (.agg #[vI 0,.int .u64 0]) (h:=by intro env w;simp [go_sem,hi_zero,lo_zero]))<|c_ (pk0 bT bT bF (h:=by intro env w;simp [go_sem,hi_zero,lo_zero]))<|c_ mv_<|c_ (gm0 (vI 12))<|c_ (bi0 (vI 12) (vI 12) (h:=by intro env w;(first | (simp [go_sem];done) | (simp [go_sem];rfl))))<|c_ (pk0 bT bT bF (h:=by intro env w;(first | (simp [go_sem];done) | (simp [go_sem];rfl))))<|c_ mv_<|c_ (ld_ 3 (hrd:=by exact rd26 rfl rfl rfl))<|c_ (bd0 ([]))<|c_ (bi0 (vL 0 0 0) (vL 0 0 0) (h:=by intro env w;(first | (simp [go_sem];done) | (simp [go_sem];rfl))))<|c_ (pk0 bT bT bF (h:=by intro env w;(first | (simp [go_sem];done) | (simp [go_sem];rfl))))<|c_ mv_<|c_ (gm0 (.pointer none))<|c_ (cl_ Tryz.func24 (h:=fun env=>⟨_,cold_nil,rfl⟩))<|c_ (un0 bF)<|c_ (pk0 bT bT bF)<|c_ mv_<|c_ (gm0 (.pointer none))<|c_ (ld_ 0 (hrd:=by exact rd26 rfl rfl rfl))<|c_ (cl_ Tryz.func17 (h:=fun env=>⟨_,(cexists_nil d s a),rfl⟩))<|c_ (un0 bF)<|c_ (pk0 bT bT bF)<|c_ mv_<|c_ (gm0 (.pointer none))<|c_ (cl_ Tryz.func25 (h:=fun env=>⟨_,cleaps_nil,rfl⟩))<|c_ (bi0 (.pointer none) (.pointer none))<|c_ (pk0 bT bT bF)<|c_ mv_<|e_) (k:=fun E5 ac wd h_5=>?_)
 clear h_4
 refine then_n (wp_ret ?_)
 have s6:=h_5.g (t:=6) rfl
 refine leave (v:=.bool true) h_5.df (by simp [results,Tryz.results6,go_sem,Array.getD_eq_getD_getElem?,s6]) ?_
 exact ⟨rfl,h_5.st.below⟩
end Go.Proofs.YtdfkghpgekmmlaaGreat
