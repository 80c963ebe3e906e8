/- Texts GXCounts of one proof, one behind the other; what nothing here names is left out. -/
import Derived.Test.YtdfkghpgekmmlabGreatT11
import Derived.Test.YtdfkghpgekmmlabGreatT7
import Derived.Test.YtdfkghpgekmmlabGreatZ4
import Derived.IntWalk
set_option maxRecDepth 100000
set_option maxHeartbeats 8000000
set_option linter.unusedVariables false
set_option linter.unusedSimpArgs false
namespace Go.Proofs.YtdfkghpgekmmlabGreat
open Go.RowKit
attribute [local go_sem] vN bT bF rS vW vM vL vT2 vT3 vP vI execOp Act.eval evC bigF vB hi_zero lo_zero Tryz.underlying23 Tryz.underlying26 Tryz.underlying36
theorem uc_1 {d s a:Int} (hf:formB s a=false):vT2 (vW (ucV d s a)) (vI (ucE d s a))=vT2 (vW 0) (vI 1):=by
 have e:ucE d s a=1:=by unfold ucE;rw [hf];rfl
 rw [e,show ucV d s a=0 by unfold ucV;rw [e,if_neg (by omega)]]
theorem uc_2 {d s a:Int} (hf:formB s a=true) (hd:¬ (-1099511627776≤d∧d≤1099511627776)):vT2 (vW (ucV d s a)) (vI (ucE d s a))=vT2 (vW 0) (vI 2):=by
 have e:ucE d s a=2:=by unfold ucE;rw [hf,wth_no.2 hd];rfl
 rw [e,show ucV d s a=0 by unfold ucV;rw [e,if_neg (by omega)]]
theorem uc_0 {d s a:Int} (hf:formB s a=true) (hd:-1099511627776≤d∧d≤1099511627776):vT2 (vW (ucV d s a)) (vI (ucE d s a))=vT2 (vW (jn d s a-jn 40587 0 0)) (vI 0):=by
 obtain ⟨q0,q1,q2,q3⟩:=formB_iff.1 hf
 obtain ⟨e1,e2⟩:=uc_ok q0 q1 q2 q3 hd.1 hd.2
 rw [e1,e2]
theorem rUnix15_any (w0:World) (d s a:Int) (h0:-1099511627776≤d) (h1:d≤1099511627776) (q0:0≤s) (q1:s≤86400) (q2:0≤a) (q3:a < 1000000000000000000):Calls Tryz.prog 15 #[vL d s a] w0 fun e w'=>∃ v,e = .returned v∧Below w0.heap.size w0 w'∧BigN w0.heap.size w' v (jn d s a-jn 40587 0 0):=by
 have hst:=St.start w0 (Θ:=fun _=>True) (fun _ _=>trivial)
 refine enter Tryz.func15 rfl (n:=8) rfl (Nat.le_of_ble_eq_true rfl) hst (L:=[(0,vL d s a)]) (lk_args rfl) (fun ac h=>?_)
 replace h:=h.facts
 refine wp_seq ?_
 refine rf_ h [[0],[1]] [KE_ fun env=>vP (pb env 0) 0,KE_ fun env=>vP (pb env 1) 0] (fun E1=>[(1,vP (pb E1 0) 0),(2,vP (pb E1 1) 0)]) (W:=[{ i:=0,T:=23,c0:=[vI d,vI s,vI a] },{ i:=1,T:=36,c0:=[bF,.slice none 0 0] }]) (M':=fun E1=>[((pb E1 0),23,[vI d,vI s,vI a]),((pb E1 1),36,[bF,.slice none 0 0])]) (hs:=c_ (bx0 0 (vL d s a))<|c_ (al_ 1)<|e_) (k:=fun E1 ac wd h_1=>?_)
 clear h
 refine then_n (wp_seq ?_)
 refine rf_ h_1 [[0],[0,1],[2],r_ 4,r_ 5,r_ 6] [K_ (vL d s a),KE_ fun env=>bigF (jn d s a) (env 1),K_ (vL 40587 0 0),KE_ fun env=>bigF (jn 40587 0 0) (env 3),KE_ fun env=>bigF ((jn d s a)-(jn 40587 0 0)) (env 4),none] (fun E2=>[(2,vP (pb E1 1) 0)]) (S:=[⟨1,5,fun env=>[.bool (decide ((jn d s a)-(jn 40587 0 0) < 0)),rS ((jn d s a)-(jn 40587 0 0)) ((bA (env 4))) ((bC (env 4)))]⟩]) (F:=[(1,fun env w=>BigN w0.heap.size w (env 1) (jn d s a)),(3,fun env w=>BigN w0.heap.size w (env 3) (jn 40587 0 0)),(4,fun env w=>BigN w0.heap.size w (env 4) ((jn d s a)-(jn 40587 0 0)))]) (L1:=fun E2=>[fun w=>BigN w0.heap.size w (E2 1) (jn d s a),fun w=>BigN w0.heap.size w (E2 3) (jn 40587 0 0),fun w=>BigN w0.heap.size w (E2 4) ((jn d s a)-(jn 40587 0 0))]) (M':=fun E2=>[((pb E1 0),23,[vI d,vI s,vI a]),((pb E1 1),36,[.bool (decide ((jn d s a)-(jn 40587 0 0) < 0)),rS ((jn d s a)-(jn 40587 0 0)) ((bA (E2 4))) ((bC (E2 4)))])]) (hs:=c_ (ld_ 0 (hrd:=by exact rd23 rfl rfl rfl))<|c_ (cb_ Tryz.func25 (jn d s a) (h:=fun _ env _ wd hA=>⟨_,Join_any wd d s a (by omega) (by omega) (by omega) (by omega) (by omega) (by omega),rfl⟩))<|c_ (bd0 ([vI 40587]))<|c_ (cb_ Tryz.func25 (jn 40587 0 0) (h:=fun _ env _ wd hA=>⟨_,Join_any wd 40587 0 0 (by omega) (by omega) (by omega) (by omega) (by omega) (by omega),rfl⟩))<|c_ (cb_ Tryz.func28 ((jn d s a)-(jn 40587 0 0)) (h:=fun _ env _ wd hA=>⟨_,Sub_any wd (decide (jn d s a < 0)) (bA (env 1)) (bC (env 1)) (jn d s a) rfl (At.bigN hA 1 rfl rfl rfl) (by unfold jn Sm;omega) (decide (jn 40587 0 0 < 0)) (bA (env 3)) (bC (env 3)) (jn 40587 0 0) rfl (At.bigN hA 3 rfl rfl rfl) (by unfold jn Sm;omega),rfl⟩))<|c_ (se_ 1 (hst:=by exact fun _ _ _ hc=>st36 rfl rfl rfl hc))<|e_) (k:=fun E2 ac wd h_2=>?_)
 clear h_1
 refine then_n (wp_ret ?_)
 have s2:=h_2.g (t:=2) rfl
 have hc2:=(h_2.st.own 1 _ rfl).2
 have c2_0:=own_cell (o:=0) hc2 rfl
 have c2_1:=own_cell (o:=1) hc2 rfl
 refine leave (v:=bigF ((jn d s a)-(jn 40587 0 0)) (E2 4)) h_2.df (by simp [results,Tryz.results15,go_sem,Array.getD_eq_getD_getElem?,s2,c2_0,c2_1,Tryz.underlying36]) ?_
 exact ⟨_,rfl,h_2.st.below,BigN.mk rfl rfl (Facts.bN h_2.st.now 2 rfl)⟩
theorem unixCounts_walk (w0:World) (d s a:Int) (hx0:-9223372036854775808≤d) (hx1:d < 9223372036854775808) (hx2:-9223372036854775808≤s) (hx3:s < 9223372036854775808) (hx4:-9223372036854775808≤a) (hx5:a < 9223372036854775808):Calls Tryz.prog 3 #[vL d s a] w0 fun e w'=>e = .returned (.bool true)∧Below w0.heap.size w0 w':=by
 have hst:=St.start w0 (Θ:=fun _=>True) (fun _ _=>trivial)
 refine enter Tryz.func3 rfl (n:=49) rfl (Nat.le_of_ble_eq_true rfl) hst (L:=[(0,vL d s a)]) (lk_args rfl) (fun ac h=>?_)
 replace h:=h.facts
 refine wp_seq ?_
 refine rf_ h [[0],[1]] [KE_ fun env=>vP (pb env 0) 0,K_ bF] (fun E1=>[(1,vP (pb E1 0) 0),(2,bF)]) (W:=[{ i:=0,T:=23,c0:=[vI d,vI s,vI a] }]) (M':=fun E1=>[((pb E1 0),23,[vI d,vI s,vI a])]) (hs:=c_ (bx0 0 (vL d s a))<|c_ mv_<|e_) (k:=fun E1 ac wd h_1=>?_)
 clear h
 refine then_n (wp_seq ?_)
 cases hf:formB s a
 refine rf_ h_1 [[0],[0,1],[0,1,2],r_ 4,[0,1,2,4],[5],[0,1,2,3,5,6],r_ 8] [K_ (vL d s a),K_ (vT2 (vW 0) (vI 1)),K_ (vT2 (vW 0) (vI 1)),K_ (vW 0),K_ (vI 1),KE_ fun env=>vP (pb env 5) 0,none,K_ (vI 1)] (fun E2=>[(1,vP (pb E1 0) 0),(2,bF),(3,vP (pb E2 5) 0),(4,vI 1)]) (W:=[{ i:=5,T:=26,c0:=[vI 0,.int .u64 0],s:=some 6,c1:=fun _=>[vI (hi (0)),.int .u64 (lo (0))] }]) (M':=fun E2=>[((pb E1 0),23,[vI d,vI s,vI a]),((pb E2 5),26,[vI (hi (0)),.int .u64 (lo (0))])]) (hs:=c_ (ld_ 0 (hrd:=by exact rd23 rfl rfl rfl))<|c_ (cl_ Tryz.func9 (h:=fun env=>⟨_,(Ret.eq (xcount_any d s a) (uc_1 hf)),rfl⟩))<|c_ mv_<|c_ ext_<|c_ ext_<|c_ (al_ 1)<|c_ (sw_ 1 5 (hst:=by exact fun _ _ _ hc=>st26 rfl rfl rfl hc))<|c_ mv_<|e_) (k:=fun E2 ac wd h_2=>?_)
 clear h_1
 refine then_n (wp_seq (wp_seq ?_))
 refine rf_ h_2 (tri 3) [K_ (vL d s a),K_ bF,K_ bT] (fun E3=>[(1,vP (pb E1 0) 0),(2,bF),(3,vP (pb E2 5) 0),(4,vI 1),(12,bT)]) (hs:=c_ (ld_ 0 (hrd:=by exact rd23 rfl rfl rfl))<|c_ (cl_ Tryz.func10 (h:=fun env=>⟨_,((xform15_any d s a).eq (congrArg Value.bool hf)),rfl⟩))<|c_ (un0 bF)<|e_) (k:=fun E3 ac wd h_3=>?_)
 clear h_2
 refine then_n ?_
 refine wp_cond_true (eval_tmp (h_3.g (t:=12) rfl)) ?_
 refine wp_seq ?_
 refine rf_ h_3 [[0],[0,1],[0,1,2],r_ 4,r_ 5,r_ 6,r_ 7,[0,1,2,3,4,5,7],r_ 9,r_ 10,r_ 11] [K_ bT,K_ bT,K_ (vI 1),K_ bT,K_ bT,K_ bT,K_ (vW 0),K_ (.agg #[vI 0,.int .u64 0]),K_ bT,K_ bT,K_ bT] (fun E4=>[(1,vP (pb E1 0) 0),(2,bT),(3,vP (pb E2 5) 0),(4,vI 1)]) (hs:=c_ (cl_ Tryz.func11 (h:=fun env=>⟨_,answers17_any,rfl⟩))<|c_ mv_<|c_ (gm0 (vI 1))<|c_ (bi0 (vI 1) (vI 1) (h:=by intro env w;(first | (simp [go_sem];done) | (simp [go_sem];rfl))))<|c_ (pk0 bT bT bF (h:=by intro env w;(first | (simp [go_sem];done) | (simp [go_sem];rfl))))<|c_ mv_<|c_ (ld_ 1 (hrd:=by exact rd26 rfl rfl))<|c_ (bd0 ([]))<|c_ (bi0 (vW 0) (.agg #[vI 0,.int .u64 0]) (h:=by intro env w;simp [go_sem,hi_zero,lo_zero]))<|c_ (pk0 bT bT bF (h:=by intro env w;simp [go_sem,hi_zero,lo_zero]))<|c_ mv_<|e_) (k:=fun E4 ac wd h_4=>?_)
 clear h_3
 refine then_n (wp_ret (then_ret ?_))
 have s2:=h_4.g (t:=2) rfl
 refine leave (v:=.bool true) h_4.df (by simp [results,Tryz.results3,go_sem,Array.getD_eq_getD_getElem?,s2]) ?_
 exact ⟨rfl,h_4.st.below⟩
 obtain ⟨q0,q1,q2,q3⟩:=formB_iff.1 hf
 cases hin:(decide (-1099511627776≤d) && decide (d≤1099511627776))
 have hin2:¬ (-1099511627776≤d∧d≤1099511627776):=by simpa using hin
 refine rf_ h_1 [[0],[0,1],[0,1,2],r_ 4,[0,1,2,4],[5],[0,1,2,3,5,6],r_ 8] [K_ (vL d s a),K_ (vT2 (vW 0) (vI 2)),K_ (vT2 (vW 0) (vI 2)),K_ (vW 0),K_ (vI 2),KE_ fun env=>vP (pb env 5) 0,none,K_ (vI 2)] (fun E2=>[(1,vP (pb E1 0) 0),(2,bF),(3,vP (pb E2 5) 0),(4,vI 2)]) (W:=[{ i:=5,T:=26,c0:=[vI 0,.int .u64 0],s:=some 6,c1:=fun _=>[vI (hi (0)),.int .u64 (lo (0))] }]) (M':=fun E2=>[((pb E1 0),23,[vI d,vI s,vI a]),((pb E2 5),26,[vI (hi (0)),.int .u64 (lo (0))])]) (hs:=c_ (ld_ 0 (hrd:=by exact rd23 rfl rfl rfl))<|c_ (cl_ Tryz.func9 (h:=fun env=>⟨_,(Ret.eq (xcount_any d s a) (uc_2 hf hin2)),rfl⟩))<|c_ mv_<|c_ ext_<|c_ ext_<|c_ (al_ 1)<|c_ (sw_ 1 5 (hst:=by exact fun _ _ _ hc=>st26 rfl rfl rfl hc))<|c_ mv_<|e_) (k:=fun E2 ac wd h_2=>?_)
 clear h_1
 refine then_n (wp_seq (wp_seq ?_))
 refine rf_ h_2 (tri 3) [K_ (vL d s a),K_ bT,K_ bF] (fun E3=>[(1,vP (pb E1 0) 0),(2,bF),(3,vP (pb E2 5) 0),(4,vI 2),(12,bF)]) (hs:=c_ (ld_ 0 (hrd:=by exact rd23 rfl rfl rfl))<|c_ (cl_ Tryz.func10 (h:=fun env=>⟨_,((xform15_any d s a).eq (congrArg Value.bool hf)),rfl⟩))<|c_ (un0 bT)<|e_) (k:=fun E3 ac wd h_3=>?_)
 clear h_2
 refine then_n ?_
 refine wp_cond_false (eval_tmp (h_3.g (t:=12) rfl)) ?_
 refine wp_skip (then_n (wp_seq (wp_seq ?_)))
 refine rf_ h_3 (tri 4) [K_ (vP (pb E1 0) 0),K_ (vI d),K_ bF,K_ bT] (fun E4=>[(1,vP (pb E1 0) 0),(2,bF),(3,vP (pb E2 5) 0),(4,vI 2),(26,bT)]) (hs:=c_ (fa0 (vP (pb E1 0) 0))<|c_ (ld_ 0 (hrd:=by exact rd3 rfl))<|c_ (cl_ Tryz.func12 (h:=fun env=>⟨_,((In_any d).eq (congrArg Value.bool hin)),rfl⟩))<|c_ (un0 bF)<|e_) (k:=fun E4 ac wd h_4=>?_)
 clear h_3
 refine then_n ?_
 refine wp_cond_true (eval_tmp (h_4.g (t:=26) rfl)) ?_
 refine wp_seq ?_
 refine rf_ h_4 [[0],[0,1],[0,1,2],r_ 4,r_ 5,r_ 6,r_ 7,[0,1,2,3,4,5,7],r_ 9,r_ 10,r_ 11] [K_ bT,K_ bT,K_ (vI 2),K_ bT,K_ bT,K_ bT,K_ (vW 0),K_ (.agg #[vI 0,.int .u64 0]),K_ bT,K_ bT,K_ bT] (fun E5=>[(1,vP (pb E1 0) 0),(2,bT),(3,vP (pb E2 5) 0),(4,vI 2)]) (hs:=c_ (cl_ Tryz.func11 (h:=fun env=>⟨_,answers17_any,rfl⟩))<|c_ mv_<|c_ (gm0 (vI 2))<|c_ (bi0 (vI 2) (vI 2) (h:=by intro env w;(first | (simp [go_sem];done) | (simp [go_sem];rfl))))<|c_ (pk0 bT bT bF (h:=by intro env w;(first | (simp [go_sem];done) | (simp [go_sem];rfl))))<|c_ mv_<|c_ (ld_ 1 (hrd:=by exact rd26 rfl rfl))<|c_ (bd0 ([]))<|c_ (bi0 (vW 0) (.agg #[vI 0,.int .u64 0]) (h:=by intro env w;simp [go_sem,hi_zero,lo_zero]))<|c_ (pk0 bT bT bF (h:=by intro env w;simp [go_sem,hi_zero,lo_zero]))<|c_ mv_<|e_) (k:=fun E5 ac wd h_5=>?_)
 clear h_4
 refine then_n (wp_ret (then_ret ?_))
 have s2:=h_5.g (t:=2) rfl
 refine leave (v:=.bool true) h_5.df (by simp [results,Tryz.results3,go_sem,Array.getD_eq_getD_getElem?,s2]) ?_
 exact ⟨rfl,h_5.st.below⟩
 have hin2:-1099511627776≤d∧d≤1099511627776:=by simpa using hin
 refine rf_ h_1 [[0],[0,1],[0,1,2],r_ 4,[0,1,2,4],[5],[0,1,2,3,5,6],r_ 8] [K_ (vL d s a),K_ (vT2 (vW (jn d s a-jn 40587 0 0)) (vI 0)),K_ (vT2 (vW (jn d s a-jn 40587 0 0)) (vI 0)),K_ (vW (jn d s a-jn 40587 0 0)),K_ (vI 0),KE_ fun env=>vP (pb env 5) 0,none,K_ (vI 0)] (fun E2=>[(1,vP (pb E1 0) 0),(2,bF),(3,vP (pb E2 5) 0),(4,vI 0)]) (W:=[{ i:=5,T:=26,c0:=[vI 0,.int .u64 0],s:=some 6,c1:=fun _=>[vI (hi (jn d s a-jn 40587 0 0)),.int .u64 (lo (jn d s a-jn 40587 0 0))] }]) (M':=fun E2=>[((pb E1 0),23,[vI d,vI s,vI a]),((pb E2 5),26,[vI (hi (jn d s a-jn 40587 0 0)),.int .u64 (lo (jn d s a-jn 40587 0 0))])]) (hs:=c_ (ld_ 0 (hrd:=by exact rd23 rfl rfl rfl))<|c_ (cl_ Tryz.func9 (h:=fun env=>⟨_,(Ret.eq (xcount_any d s a) (uc_0 hf hin2)),rfl⟩))<|c_ mv_<|c_ ext_<|c_ ext_<|c_ (al_ 1)<|c_ (sw_ 1 5 (hst:=by exact fun _ _ _ hc=>st26 rfl rfl rfl hc))<|c_ mv_<|e_) (k:=fun E2 ac wd h_2=>?_)
 clear h_1
 refine then_n (wp_seq (wp_seq ?_))
 refine rf_ h_2 (tri 3) [K_ (vL d s a),K_ bT,K_ bF] (fun E3=>[(1,vP (pb E1 0) 0),(2,bF),(3,vP (pb E2 5) 0),(4,vI 0),(12,bF)]) (hs:=c_ (ld_ 0 (hrd:=by exact rd23 rfl rfl rfl))<|c_ (cl_ Tryz.func10 (h:=fun env=>⟨_,((xform15_any d s a).eq (congrArg Value.bool hf)),rfl⟩))<|c_ (un0 bT)<|e_) (k:=fun E3 ac wd h_3=>?_)
 clear h_2
 refine then_n ?_
 refine wp_cond_false (eval_tmp (h_3.g (t:=12) rfl)) ?_
 refine wp_skip (then_n (wp_seq (wp_seq ?_)))
 refine rf_ h_3 (tri 4) [K_ (vP (pb E1 0) 0),K_ (vI d),K_ bT,K_ bF] (fun E4=>[(1,vP (pb E1 0) 0),(2,bF),(3,vP (pb E2 5) 0),(4,vI 0),(26,bF)]) (hs:=c_ (fa0 (vP (pb E1 0) 0))<|c_ (ld_ 0 (hrd:=by exact rd3 rfl))<|c_ (cl_ Tryz.func12 (h:=fun env=>⟨_,((In_any d).eq (congrArg Value.bool hin)),rfl⟩))<|c_ (un0 bT)<|e_) (k:=fun E4 ac wd h_4=>?_)
 clear h_3
 refine then_n ?_
 refine wp_cond_false (eval_tmp (h_4.g (t:=26) rfl)) ?_
 refine wp_skip (then_n (wp_seq ?_))
 refine rf_ h_4 [[0],[0,1],[0,1,2],r_ 4,r_ 5,r_ 6,r_ 7,r_ 8,[0,1,2,3,4,5,8],r_ 10,r_ 11,r_ 12,r_ 13] [K_ bT,K_ bT,K_ (vI 0),K_ bT,K_ bT,K_ bT,K_ (vW (jn d s a-jn 40587 0 0)),KE_ fun env=>bigF (jn d s a-jn 40587 0 0) (env 7),K_ (vL d s a),KE_ fun env=>bigF (jn d s a-jn 40587 0 0) (env 9),K_ bT,K_ bT,K_ bT] (fun E5=>[(2,bT)]) (F:=[(7,fun env w=>BigN w0.heap.size w (env 7) (jn d s a-jn 40587 0 0)),(9,fun env w=>BigN w0.heap.size w (env 9) (jn d s a-jn 40587 0 0))]) (L1:=fun E5=>[fun w=>BigN w0.heap.size w (E5 7) (jn d s a-jn 40587 0 0),fun w=>BigN w0.heap.size w (E5 9) (jn d s a-jn 40587 0 0)]) (hs:=c_ (cl_ Tryz.func11 (h:=fun env=>⟨_,answers17_any,rfl⟩))<|c_ mv_<|c_ (gm0 (vI 0))<|c_ (bi0 (vI 0) (vI 0) (h:=by intro env w;(first | (simp [go_sem];done) | (simp [go_sem];rfl))))<|c_ (pk0 bT bT bF (h:=by intro env w;(first | (simp [go_sem];done) | (simp [go_sem];rfl))))<|c_ mv_<|c_ (ld_ 1 (hrd:=by exact rd26 rfl rfl))<|c_ (cb_ Tryz.func14 (jn d s a-jn 40587 0 0) (h:=fun _ env _ wd hA=>⟨_,Of_any wd (jn d s a-jn 40587 0 0) (by unfold jn InW;omega),rfl⟩))<|c_ (ld_ 0 (hrd:=by exact rd23 rfl rfl rfl))<|c_ (cb_ Tryz.func15 (jn d s a-jn 40587 0 0) (h:=fun _ env _ wd hA=>⟨_,rUnix15_any wd d s a (by omega) (by omega) q0 q1 q2 q3,rfl⟩))<|c_ (cw_ Tryz.func13 (h:=fun _ env _ wd hA=>⟨_,(u_res_eq (Same_any wd (decide (jn d s a-jn 40587 0 0 < 0)) (bA (env 7)) (bC (env 7)) (jn d s a-jn 40587 0 0) rfl (At.bigN hA 7 rfl rfl rfl)  (decide (jn d s a-jn 40587 0 0 < 0)) (bA (env 9)) (bC (env 9)) (jn d s a-jn 40587 0 0) rfl (At.bigN hA 9 rfl rfl rfl) ) (congrArg Value.bool (decide_eq_true rfl))),rfl⟩))<|c_ (pk0 bT bT bF)<|c_ mv_<|e_) (k:=fun E5 ac wd h_5=>?_)
 clear h_4
 refine then_n (wp_ret ?_)
 have s2:=h_5.g (t:=2) rfl
 refine leave (v:=.bool true) h_5.df (by simp [results,Tryz.results3,go_sem,Array.getD_eq_getD_getElem?,s2]) ?_
 exact ⟨rfl,h_5.st.below⟩
end Go.Proofs.YtdfkghpgekmmlabGreat
