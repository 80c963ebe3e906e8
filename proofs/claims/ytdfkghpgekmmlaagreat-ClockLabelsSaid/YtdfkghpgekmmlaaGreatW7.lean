/- Texts F9, F10, F11, F12 of one proof, one behind the other; what nothing here names is left out. -/
import Derived.Test.YtdfkghpgekmmlaaGreatZ5
import Derived.Test.YtdfkghpgekmmlaaGreatZ4
import Derived.Test.YtdfkghpgekmmlaaGreatZ6
import Derived.IntWalk
set_option maxRecDepth 100000
set_option maxHeartbeats 8000000
set_option linter.unusedVariables false
set_option linter.unusedSimpArgs false
namespace Go.Proofs.YtdfkghpgekmmlaaGreat
open Go.RowKit
attribute [local go_sem] vN bT bF rS vW vM vL vT2 vT3 vP vI execOp Act.eval evC bigF vB hi_zero lo_zero Tryz.underlying26 Tryz.underlying3 Tryz.underlying32 Tryz.underlying34 Tryz.underlying39
theorem Join_core (w0:World) (d s x:Int) (hd0:-9223372036854775808≤d) (hd1:d < 9223372036854775808) (hs0:-9223372036854775808≤s) (hs1:s < 9223372036854775808) (hx0:-9223372036854775808≤x) (hx1:x < 9223372036854775808):Calls Tryz.prog 78 #[vL d s x] w0 fun e w'=>∃ v,e = .returned v∧Below w0.heap.size w0 w'∧BigN w0.heap.size w' v ((d*86400+s)*1000000000000000000+x):=by
 have hst:=St.start w0 (Θ:=fun _=>True) (fun _ _=>trivial)
 refine enter Tryz.func78 rfl (n:=20) rfl (Nat.le_of_ble_eq_true rfl) hst (L:=[(0,vL d s x)]) (lk_args rfl) (fun ac h=>?_)
 replace h:=h.facts
 refine wp_seq ?_
 refine rf_ h [[0],[1]] [KE_ fun env=>vP (pb env 0) 0,KE_ fun env=>vP (pb env 1) 0] (fun E1=>[(1,vP (pb E1 0) 0),(2,vP (pb E1 1) 0)]) (W:=[{ i:=0,T:=26,c0:=[vI d,vI s,vI x] },{ i:=1,T:=39,c0:=[bF,.slice none 0 0] }]) (M':=fun E1=>[((pb E1 0),26,[vI d,vI s,vI x]),((pb E1 1),39,[bF,.slice none 0 0])]) (hs:=c_ (bx0 0 (vL d s x))<|c_ (al_ 1)<|e_) (k:=fun E1 ac wd h_1=>?_)
 clear h
 refine then_n (wp_seq ?_)
 refine rf_ h_1 [[0],[0,1],[0,1,2],r_ 4,r_ 5,[5],[5,6],r_ 8,r_ 9,[9],r_ 11] [K_ (vP (pb E1 0) 0),K_ (vI d),KE_ fun env=>bigF d (env 2),KE_ fun env=>bigF 86400 (env 3),KE_ fun env=>bigF (d*86400) (env 4),K_ (vP (pb E1 0) 1),K_ (vI s),KE_ fun env=>bigF s (env 7),KE_ fun env=>bigF (d*86400+s) (env 8),KE_ fun env=>vP (pb env 9) 0,none] (fun E2=>[(1,vP (pb E1 0) 0),(2,vP (pb E1 1) 0),(3,vP (pb E2 9) 0)]) (W:=[{ i:=9,T:=39,c0:=[bF,.slice none 0 0],s:=some 10,c1:=fun env=>[.bool (decide (d*86400+s < 0)),rS (d*86400+s) ((bA (env 8))) ((bC (env 8)))] }]) (F:=[(2,fun env w=>BigN w0.heap.size w (env 2) d),(3,fun env w=>BigN w0.heap.size w (env 3) 86400),(4,fun env w=>BigN w0.heap.size w (env 4) (d*86400)),(7,fun env w=>BigN w0.heap.size w (env 7) s),(8,fun env w=>BigN w0.heap.size w (env 8) (d*86400+s))]) (L1:=fun E2=>[fun w=>BigN w0.heap.size w (E2 2) d,fun w=>BigN w0.heap.size w (E2 3) 86400,fun w=>BigN w0.heap.size w (E2 4) (d*86400),fun w=>BigN w0.heap.size w (E2 7) s,fun w=>BigN w0.heap.size w (E2 8) (d*86400+s)]) (M':=fun E2=>[((pb E1 0),26,[vI d,vI s,vI x]),((pb E1 1),39,[bF,.slice none 0 0]),((pb E2 9),39,[.bool (decide (d*86400+s < 0)),rS (d*86400+s) ((bA (E2 8))) ((bC (E2 8)))])]) (hs:=c_ (fa0 (vP (pb E1 0) 0))<|c_ (ld_ 0 (hrd:=by exact rd3 rfl))<|c_ (cb_ Tryz.func23 d (h:=fun _ env _ wd hA=>⟨_,Int_any wd d (by omega) (by omega),rfl⟩))<|c_ (cb_ Tryz.func23 86400 (h:=fun _ env _ wd hA=>⟨_,Int_any wd 86400 (by omega) (by omega),rfl⟩))<|c_ (cb_ Tryz.func52 (d*86400) (h:=fun _ env _ wd hA=>⟨_,Mul_any wd (decide (d < 0)) (bA (env 2)) (bC (env 2)) d rfl (At.bigN hA 2 rfl rfl rfl) (by unfold Sm;omega) (decide (86400 < 0)) (bA (env 3)) (bC (env 3)) 86400 rfl (At.bigN hA 3 rfl rfl rfl) (by unfold Sm;omega),rfl⟩))<|c_ (fa0 (vP (pb E1 0) 0))<|c_ (ld_ 0 (hrd:=by exact rd3 rfl))<|c_ (cb_ Tryz.func23 s (h:=fun _ env _ wd hA=>⟨_,Int_any wd s (by omega) (by omega),rfl⟩))<|c_ (cb_ Tryz.func51 (d*86400+s) (h:=fun _ env _ wd hA=>⟨_,Add_any wd (decide (d*86400 < 0)) (bA (env 4)) (bC (env 4)) (d*86400) rfl (At.bigN hA 4 rfl rfl rfl) (by unfold Sm;omega) (decide (s < 0)) (bA (env 7)) (bC (env 7)) s rfl (At.bigN hA 7 rfl rfl rfl) (by unfold Sm;omega),rfl⟩))<|c_ (al_ 2)<|c_ (sw_ 2 9 (hst:=by exact fun _ _ _ hc=>st39 rfl rfl rfl hc))<|e_) (k:=fun E2 ac wd h_2=>?_)
 clear h_1
 refine then_n (wp_seq ?_)
 refine rf_ h_2 [[0],[1],[0,1,2],[3],[3,4],r_ 6,r_ 7,r_ 8] [K_ (bigF (d*86400+s) (E2 8)),KE_ fun env=>bigF 1000000000000000000 (env 1),KE_ fun env=>bigF ((d*86400+s)*1000000000000000000) (env 2),K_ (vP (pb E1 0) 2),K_ (vI x),KE_ fun env=>bigF x (env 5),KE_ fun env=>bigF ((d*86400+s)*1000000000000000000+x) (env 6),none] (fun E3=>[(2,vP (pb E1 1) 0)]) (S:=[⟨1,7,fun env=>[.bool (decide ((d*86400+s)*1000000000000000000+x < 0)),rS ((d*86400+s)*1000000000000000000+x) ((bA (env 6))) ((bC (env 6)))]⟩]) (F:=[(1,fun env w=>BigN w0.heap.size w (env 1) 1000000000000000000),(2,fun env w=>BigN w0.heap.size w (env 2) ((d*86400+s)*1000000000000000000)),(5,fun env w=>BigN w0.heap.size w (env 5) x),(6,fun env w=>BigN w0.heap.size w (env 6) ((d*86400+s)*1000000000000000000+x))]) (L1:=fun E3=>[fun w=>BigN w0.heap.size w (E2 2) d,fun w=>BigN w0.heap.size w (E2 3) 86400,fun w=>BigN w0.heap.size w (E2 4) (d*86400),fun w=>BigN w0.heap.size w (E2 7) s,fun w=>BigN w0.heap.size w (E2 8) (d*86400+s),fun w=>BigN w0.heap.size w (E3 1) 1000000000000000000,fun w=>BigN w0.heap.size w (E3 2) ((d*86400+s)*1000000000000000000),fun w=>BigN w0.heap.size w (E3 5) x,fun w=>BigN w0.heap.size w (E3 6) ((d*86400+s)*1000000000000000000+x)]) (M':=fun E3=>[((pb E1 0),26,[vI d,vI s,vI x]),((pb E1 1),39,[.bool (decide ((d*86400+s)*1000000000000000000+x < 0)),rS ((d*86400+s)*1000000000000000000+x) ((bA (E3 6))) ((bC (E3 6)))]),((pb E2 9),39,[.bool (decide (d*86400+s < 0)),rS (d*86400+s) ((bA (E2 8))) ((bC (E2 8)))])]) (hs:=c_ (ld_ 2 (hrd:=by exact rd39 rfl rfl))<|c_ (cb_ Tryz.func23 1000000000000000000 (h:=fun _ env _ wd hA=>⟨_,Int_any wd 1000000000000000000 (by omega) (by omega),rfl⟩))<|c_ (cb_ Tryz.func52 ((d*86400+s)*1000000000000000000) (h:=fun _ env _ wd hA=>⟨_,Mul_any wd (decide (d*86400+s < 0)) (bA (E2 8)) (bC (E2 8)) (d*86400+s) rfl (Facts.bigN (hA.j.st.now).1 4 rfl) (by unfold Sm;omega) (decide (1000000000000000000 < 0)) (bA (env 1)) (bC (env 1)) 1000000000000000000 rfl (At.bigN hA 1 rfl rfl rfl) (by unfold Sm;omega),rfl⟩))<|c_ (fa0 (vP (pb E1 0) 0))<|c_ (ld_ 0 (hrd:=by exact rd3 rfl))<|c_ (cb_ Tryz.func23 x (h:=fun _ env _ wd hA=>⟨_,Int_any wd x (by omega) (by omega),rfl⟩))<|c_ (cb_ Tryz.func51 ((d*86400+s)*1000000000000000000+x) (h:=fun _ env _ wd hA=>⟨_,Add_any wd (decide ((d*86400+s)*1000000000000000000 < 0)) (bA (env 2)) (bC (env 2)) ((d*86400+s)*1000000000000000000) rfl (At.bigN hA 2 rfl rfl rfl) (by unfold Sm;omega) (decide (x < 0)) (bA (env 5)) (bC (env 5)) x rfl (At.bigN hA 5 rfl rfl rfl) (by unfold Sm;omega),rfl⟩))<|c_ (se_ 1 (hst:=by exact fun _ _ _ hc=>st39 rfl rfl rfl hc))<|e_) (k:=fun E3 ac wd h_3=>?_)
 clear h_2
 refine then_n (wp_ret ?_)
 have s2:=h_3.g (t:=2) rfl
 have hc2:=(h_3.st.own 1 _ rfl).2
 have c2_0:=own_cell (o:=0) hc2 rfl
 have c2_1:=own_cell (o:=1) hc2 rfl
 refine leave (v:=bigF ((d*86400+s)*1000000000000000000+x) (E3 6)) h_3.df (by simp [results,Tryz.results78,go_sem,Array.getD_eq_getD_getElem?,s2,c2_0,c2_1,Tryz.underlying39]) ?_
 exact ⟨_,rfl,h_3.st.below,BigN.mk rfl rfl (Facts.bN h_3.st.now 8 rfl)⟩
theorem Join_any (w0:World) (d s x:Int) (hd0:-9223372036854775808≤d) (hd1:d < 9223372036854775808) (hs0:-9223372036854775808≤s) (hs1:s < 9223372036854775808) (hx0:-9223372036854775808≤x) (hx1:x < 9223372036854775808):Calls Tryz.prog 78 #[vL d s x] w0 fun e w'=>∃ v,e = .returned v∧Below w0.heap.size w0 w'∧BigN w0.heap.size w' v (jn d s x):=Join_core w0 d s x hd0 hd1 hs0 hs1 hx0 hx1
theorem In_any (n:Int):Ret 75 #[vI n] (.bool (decide (-1099511627776≤n) && decide (n≤1099511627776))):=by
 intro w0
 have hst:=St.start w0 (Θ:=fun _=>True) (fun _ _=>trivial)
 refine enter Tryz.func75 rfl (n:=9) rfl (Nat.le_of_ble_eq_true rfl) hst (L:=[(0,vI n)]) (lk_args rfl) (fun ac h=>?_)
 refine wp_seq ?_
 refine rg_ h [[0]] [K_ bF] (fun E1=>[(0,vI n),(2,bF)]) (hs:=c_ mv_<|e_) (k:=fun E1 ac wd h_1=>?_)
 clear h
 refine then_n (wp_seq ?_)
 by_cases h:-1099511627776≤n
 refine rg_ h_1 (tri 7) [K_ (vI n),K_ bT,K_ bT,K_ (vI n),K_ (.bool (decide (n≤1099511627776))),K_ (.bool (decide (n≤1099511627776))),K_ (.bool (decide (n≤1099511627776)))] (fun E2=>[(2,.bool (decide (n≤1099511627776)))]) (hs:=c_ mv_<|c_ (bi0 (vI n) (vI (-1099511627776)) (h:=by intro env w;simp [go_sem,h]))<|c_ mv_<|c_ (gm0 (vI n))<|c_ (bi0 (vI n) (vI 1099511627776))<|c_ (pk0 bT (.bool (decide (n≤1099511627776))) bF)<|c_ mv_<|e_) (k:=fun E2 ac wd h_2=>?_)
 clear h_1
 refine then_n (wp_ret ?_)
 have s2:=h_2.g (t:=2) rfl
 refine leave (v:=.bool (decide (n≤1099511627776))) h_2.df (by simp [results,Tryz.results75,go_sem,Array.getD_eq_getD_getElem?,s2]) ?_
 exact ⟨by simp [h],h_2.st.below⟩
 refine rg_ h_1 (tri 7) [K_ (vI n),K_ bF,K_ bF,K_ undef,K_ undef,K_ bF,K_ bF] (fun E2=>[(2,bF)]) (hs:=c_ mv_<|c_ (bi0 (vI n) (vI (-1099511627776)) (h:=by intro env w;simp [go_sem,h]))<|c_ mv_<|c_ off_<|c_ off_<|c_ (pk0 bF undef bF)<|c_ mv_<|e_) (k:=fun E2 ac wd h_2=>?_)
 clear h_1
 refine then_n (wp_ret ?_)
 have s2:=h_2.g (t:=2) rfl
 refine leave (v:=.bool false) h_2.df (by simp [results,Tryz.results75,go_sem,Array.getD_eq_getD_getElem?,s2]) ?_
 exact ⟨by simp [h],h_2.st.below⟩
theorem bsame_yes (w0:World) (p:Bool) (A0:Option Addr) (c0:Nat) (x:Int) (hp:p=decide (x < 0)) (hr:Row w0 (.slice A0 (digs x).length c0) (digs x)) (q:Bool) (B0:Option Addr) (k0:Nat) (y:Int) (hq:q=decide (y < 0)) (hr2:Row w0 (.slice B0 (digs y).length k0) (digs y)) (e:x=y:=by rfl):Calls Tryz.prog 18 #[.agg #[.bool (p),.slice A0 ((digs x).length) c0],.agg #[.bool (q),.slice B0 ((digs y).length) k0]] w0 fun e w'=>e = .returned (.bool true)∧Below w0.heap.size w0 w':=by
 have:=Same_any w0 p A0 c0 x hp hr q B0 k0 y hq hr2
 rw [decide_eq_true e] at this
 exact this
theorem Small_yes (w0:World) (p:Bool) (A0:Option Addr) (c0:Nat) (x:Int) (hp:p=decide (x < 0)) (hr:Row w0 (.slice A0 (digs x).length c0) (digs x)) (h0:-9223372036854775808≤x) (h1:x < 9223372036854775808):Calls Tryz.prog 121 #[.agg #[.bool (p),.slice A0 ((digs x).length) c0]] w0 fun e w'=>e = .returned (vT2 (vI x) (.bool true))∧Below w0.heap.size w0 w':=by
 have hst:=St.start w0 (Θ:=fun _=>True) (fun _ _=>trivial)
 refine enter Tryz.func121 rfl (n:=25) rfl (Nat.le_of_ble_eq_true rfl) hst (L:=[(0,.agg #[.bool (p),.slice A0 ((digs x).length) c0])]) (lk_args rfl) (fun ac h=>?_)
 replace h:=h.facts
 refine wp_seq ?_
 refine rf_ h [[0],[1],[1,2]] [KE_ fun env=>vP (pb env 0) 0,K_ (vI 0),K_ bF] (fun E1=>[(1,vP (pb E1 0) 0),(2,vI 0),(3,bF)]) (W:=[{ i:=0,T:=39,c0:=[.bool (p),rS x A0 c0] }]) (M':=fun E1=>[((pb E1 0),39,[.bool (p),rS x A0 c0])]) (hs:=c_ (bx0 0 (.agg #[.bool (p),rS x A0 c0]))<|c_ mv_<|c_ mv_<|e_) (k:=fun E1 ac wd h_1=>?_)
 clear h
 refine then_n (wp_seq ?_)
 refine rf_ h_1 [[0],[0,1],[0,1,2],r_ 4,[0,1,2,4],[5],[0,1,2,3,5,6],r_ 8] [K_ (.agg #[.bool (p),rS x A0 c0]),K_ (vT2 (vW x) bT),K_ (vT2 (vW x) bT),K_ (vW x),K_ bT,KE_ fun env=>vP (pb env 5) 0,none,K_ bT] (fun E2=>[(1,vP (pb E1 0) 0),(2,vI 0),(3,bF),(4,vP (pb E2 5) 0),(5,bT)]) (W:=[{ i:=5,T:=34,c0:=[vI 0,.int .u64 0],s:=some 6,c1:=fun _=>[vI (hi (x)),.int .u64 (lo (x))] }]) (M':=fun E2=>[((pb E1 0),39,[.bool (p),rS x A0 c0]),((pb E2 5),34,[vI (hi (x)),.int .u64 (lo (x))])]) (hs:=c_ (ld_ 0 (hrd:=by exact rd39 rfl rfl))<|c_ (cw_ Tryz.func62 (h:=fun _ env _ wd hA=>⟨_,Wide_yes wd p A0 c0 x hp (hr.grown hA.j.st.gr) (by omega) (by omega),rfl⟩))<|c_ mv_<|c_ ext_<|c_ ext_<|c_ (al_ 1)<|c_ (sw_ 1 5 (hst:=by exact fun _ _ _ hc=>st34 rfl rfl rfl hc))<|c_ mv_<|e_) (k:=fun E2 ac wd h_2=>?_)
 clear h_1
 refine then_n (wp_seq (wp_seq ?_))
 refine rf_ h_2 [[0],[0,1],[0,1,2],r_ 4,[0,1,2,4],[0,1,2,4,5],[0,1,2,4,5,6],[0,1,2,4,5,6,7],r_ 9,r_ 10,r_ 11] [K_ bT,K_ bF,K_ bF,K_ (.agg #[.bool (p),rS x A0 c0]),K_ (vP (pb E2 5) 1),K_ (.int .u64 (lo (x))),K_ (vI x),KE_ fun env=>bigF x (env 7),K_ bT,K_ bF,K_ bF] (fun E3=>[(2,vI 0),(3,bF),(4,vP (pb E2 5) 0),(21,bF)]) (F:=[(7,fun env w=>BigN w0.heap.size w (env 7) x)]) (L1:=fun E3=>[fun w=>BigN w0.heap.size w (E3 7) x]) (hs:=c_ mv_<|c_ (un0 bT)<|c_ mv_<|c_ (ld_ 0 (hrd:=by exact rd39 rfl rfl))<|c_ (fa0 (vP (pb E2 5) 0))<|c_ (ld_ 1 (hrd:=by exact rd32 rfl))<|c_ (cv0 (.int .u64 (lo (x))) (h:=by intro env w;simp [go_sem];rw [i64_of _ (by unfold lo;omega) (by unfold lo;omega)];unfold lo;split <;> omega))<|c_ (cb_ Tryz.func23 x (h:=fun _ env _ wd hA=>⟨_,Int_any wd x h0 h1,rfl⟩))<|c_ (cw_ Tryz.func18 (h:=fun _ env _ wd hA=>⟨_,bsame_yes wd p A0 c0 x hp (hr.grown hA.j.st.gr)  (decide (x < 0)) (bA (env 7)) (bC (env 7)) x rfl (At.bigN hA 7 rfl rfl rfl) ,rfl⟩))<|c_ (un0 bT)<|c_ (pk0 bF bT bF)<|e_) (k:=fun E3 ac wd h_3=>?_)
 clear h_2
 refine then_n ?_
 refine wp_cond_false (eval_tmp (h_3.g (t:=21) rfl)) ?_
 refine wp_skip (then_n (wp_seq ?_))
 refine rf_ h_3 (tri 5) [K_ (vP (pb E2 5) 1),K_ (.int .u64 (lo (x))),K_ (vI x),K_ (vI x),K_ bT] (fun E4=>[(2,vI x),(3,bT)]) (hs:=c_ (fa0 (vP (pb E2 5) 0))<|c_ (ld_ 1 (hrd:=by exact rd32 rfl))<|c_ (cv0 (.int .u64 (lo (x))) (h:=by intro env w;simp [go_sem];rw [i64_of _ (by unfold lo;omega) (by unfold lo;omega)];unfold lo;split <;> omega))<|c_ mv_<|c_ mv_<|e_) (k:=fun E4 ac wd h_4=>?_)
 clear h_3
 refine then_n (wp_ret ?_)
 have s2:=h_4.g (t:=2) rfl
 have s3:=h_4.g (t:=3) rfl
 refine leave (v:=vT2 (vI x) (.bool true)) h_4.df (by simp [results,Tryz.results121,go_sem,Array.getD_eq_getD_getElem?,s2,s3]) ?_
 exact ⟨rfl,h_4.st.below⟩
theorem Split_yes (w0:World) (p:Bool) (A0:Option Addr) (c0:Nat) (x:Int) (hp:p=decide (x < 0)) (hr:Row w0 (.slice A0 (digs x).length c0) (digs x)) (hx:Sm x) (h0:-1099511627776≤x / 1000000000000000000 / 86400) (h1:x / 1000000000000000000 / 86400≤1099511627776):Calls Tryz.prog 88 #[.agg #[.bool (p),.slice A0 ((digs x).length) c0]] w0 fun e w'=>e = .returned (vT2 (vL (x / 1000000000000000000 / 86400) (x / 1000000000000000000 % 86400) (x % 1000000000000000000)) (.bool true))∧Below w0.heap.size w0 w':=by
 have hin:(decide (-1099511627776≤x / 1000000000000000000 / 86400) && decide (x / 1000000000000000000 / 86400≤1099511627776))=true:=by simp [h0,h1]
 have hst:=St.start w0 (Θ:=fun _=>True) (fun _ _=>trivial)
 refine enter Tryz.func88 rfl (n:=53) rfl (Nat.le_of_ble_eq_true rfl) hst (L:=[(0,.agg #[.bool (p),.slice A0 ((digs x).length) c0])]) (lk_args rfl) (fun ac h=>?_)
 replace h:=h.facts
 refine wp_seq ?_
 refine rf_ h [[0],[1],[2]] [KE_ fun env=>vP (pb env 0) 0,KE_ fun env=>vP (pb env 1) 0,K_ bF] (fun E1=>[(1,vP (pb E1 0) 0),(2,vP (pb E1 1) 0),(3,bF)]) (W:=[{ i:=0,T:=39,c0:=[.bool (p),rS x A0 c0] },{ i:=1,T:=26,c0:=[vI 0,vI 0,vI 0] }]) (M':=fun E1=>[((pb E1 0),39,[.bool (p),rS x A0 c0]),((pb E1 1),26,[vI 0,vI 0,vI 0])]) (hs:=c_ (bx0 0 (.agg #[.bool (p),rS x A0 c0]))<|c_ (al_ 1)<|c_ mv_<|e_) (k:=fun E1 ac wd h_1=>?_)
 clear h
 refine then_n (wp_seq ?_)
 refine rf_ h_1 [[0],[1],[0,1,2],r_ 4,r_ 5,[0,1,2,3,5],[6],[7],[0,1,2,3,4,6,7,8],r_ 10] [K_ (.agg #[.bool (p),rS x A0 c0]),KE_ fun env=>bigF 1000000000000000000 (env 1),KE_ fun env=>vT2 (bigF (x / 1000000000000000000) (tp (env 2) 0)) (bigF (x % 1000000000000000000) (tp (env 2) 1)),KE_ fun env=>vT2 (bigF (x / 1000000000000000000) (tp (env 2) 0)) (bigF (x % 1000000000000000000) (tp (env 2) 1)),KE_ fun env=>bigF (x / 1000000000000000000) (tp (env 2) 0),KE_ fun env=>bigF (x % 1000000000000000000) (tp (env 2) 1),KE_ fun env=>vP (pb env 6) 0,KE_ fun env=>vP (pb env 7) 0,none,none] (fun E2=>[(2,vP (pb E1 1) 0),(3,bF),(4,vP (pb E2 6) 0),(5,vP (pb E2 7) 0)]) (W:=[{ i:=6,T:=39,c0:=[bF,.slice none 0 0],s:=some 8,c1:=fun env=>[.bool (decide (x / 1000000000000000000 < 0)),rS (x / 1000000000000000000) ((bA (tp (env 2) 0))) ((bC (tp (env 2) 0)))] },{ i:=7,T:=39,c0:=[bF,.slice none 0 0],s:=some 9,c1:=fun env=>[.bool (decide (x % 1000000000000000000 < 0)),rS (x % 1000000000000000000) ((bA (tp (env 2) 1))) ((bC (tp (env 2) 1)))] }]) (F:=[(1,fun env w=>BigN w0.heap.size w (env 1) 1000000000000000000),(2,fun env w=>DivX w (env 2) (x / 1000000000000000000) (x % 1000000000000000000))]) (L1:=fun E2=>[fun w=>BigN w0.heap.size w (E2 1) 1000000000000000000,fun w=>DivX w (E2 2) (x / 1000000000000000000) (x % 1000000000000000000)]) (M':=fun E2=>[((pb E1 0),39,[.bool (p),rS x A0 c0]),((pb E1 1),26,[vI 0,vI 0,vI 0]),((pb E2 6),39,[.bool (decide (x / 1000000000000000000 < 0)),rS (x / 1000000000000000000) ((bA (tp (E2 2) 0))) ((bC (tp (E2 2) 0)))]),((pb E2 7),39,[.bool (decide (x % 1000000000000000000 < 0)),rS (x % 1000000000000000000) ((bA (tp (E2 2) 1))) ((bC (tp (E2 2) 1)))])]) (hs:=c_ (ld_ 0 (hrd:=by exact rd39 rfl rfl))<|c_ (cb_ Tryz.func23 1000000000000000000 (h:=fun _ env _ wd hA=>⟨_,Int_any wd 1000000000000000000 (by omega) (by omega),rfl⟩))<|c_ (cf_ Tryz.func112 (fun v w=>DivX w v (x / 1000000000000000000) (x % 1000000000000000000)) (divF (x / 1000000000000000000) (x % 1000000000000000000)) (h:=fun _ env _ wd hA=>⟨_,toD (Div_any wd p A0 c0 x hp (hr.grown hA.j.st.gr) hx (decide (1000000000000000000 < 0)) (bA (env 1)) (bC (env 1)) 1000000000000000000 rfl (At.bigN hA 1 rfl rfl rfl) (by unfold Sm;omega) (by omega)),rfl⟩))<|c_ mv_<|c_ ext_<|c_ ext_<|c_ (al_ 2)<|c_ (al_ 3)<|c_ (sw_ 2 6 (hst:=by exact fun _ _ _ hc=>st39 rfl rfl rfl hc))<|c_ (sw_ 3 7 (hst:=by exact fun _ _ _ hc=>st39 rfl rfl rfl hc))<|e_) (k:=fun E2 ac wd h_2=>?_)
 clear h_1
 refine then_n (wp_seq ?_)
 refine rf_ h_2 [[0],[1],[0,1,2],r_ 4,r_ 5,[0,1,2,3,5],[6],[7],[0,1,2,3,4,6,7,8],r_ 10] [K_ (bigF (x / 1000000000000000000) (tp (E2 2) 0)),KE_ fun env=>bigF 86400 (env 1),KE_ fun env=>vT2 (bigF ((x / 1000000000000000000) / 86400) (tp (env 2) 0)) (bigF ((x / 1000000000000000000) % 86400) (tp (env 2) 1)),KE_ fun env=>vT2 (bigF ((x / 1000000000000000000) / 86400) (tp (env 2) 0)) (bigF ((x / 1000000000000000000) % 86400) (tp (env 2) 1)),KE_ fun env=>bigF ((x / 1000000000000000000) / 86400) (tp (env 2) 0),KE_ fun env=>bigF ((x / 1000000000000000000) % 86400) (tp (env 2) 1),KE_ fun env=>vP (pb env 6) 0,KE_ fun env=>vP (pb env 7) 0,none,none] (fun E3=>[(2,vP (pb E1 1) 0),(3,bF),(5,vP (pb E2 7) 0),(6,vP (pb E3 6) 0),(7,vP (pb E3 7) 0)]) (W:=[{ i:=6,T:=39,c0:=[bF,.slice none 0 0],s:=some 8,c1:=fun env=>[.bool (decide ((x / 1000000000000000000) / 86400 < 0)),rS ((x / 1000000000000000000) / 86400) ((bA (tp (env 2) 0))) ((bC (tp (env 2) 0)))] },{ i:=7,T:=39,c0:=[bF,.slice none 0 0],s:=some 9,c1:=fun env=>[.bool (decide ((x / 1000000000000000000) % 86400 < 0)),rS ((x / 1000000000000000000) % 86400) ((bA (tp (env 2) 1))) ((bC (tp (env 2) 1)))] }]) (F:=[(1,fun env w=>BigN w0.heap.size w (env 1) 86400),(2,fun env w=>DivX w (env 2) ((x / 1000000000000000000) / 86400) ((x / 1000000000000000000) % 86400))]) (L1:=fun E3=>[fun w=>BigN w0.heap.size w (E2 1) 1000000000000000000,fun w=>DivX w (E2 2) (x / 1000000000000000000) (x % 1000000000000000000),fun w=>BigN w0.heap.size w (E3 1) 86400,fun w=>DivX w (E3 2) ((x / 1000000000000000000) / 86400) ((x / 1000000000000000000) % 86400)]) (M':=fun E3=>[((pb E1 0),39,[.bool (p),rS x A0 c0]),((pb E1 1),26,[vI 0,vI 0,vI 0]),((pb E2 6),39,[.bool (decide (x / 1000000000000000000 < 0)),rS (x / 1000000000000000000) ((bA (tp (E2 2) 0))) ((bC (tp (E2 2) 0)))]),((pb E2 7),39,[.bool (decide (x % 1000000000000000000 < 0)),rS (x % 1000000000000000000) ((bA (tp (E2 2) 1))) ((bC (tp (E2 2) 1)))]),((pb E3 6),39,[.bool (decide ((x / 1000000000000000000) / 86400 < 0)),rS ((x / 1000000000000000000) / 86400) ((bA (tp (E3 2) 0))) ((bC (tp (E3 2) 0)))]),((pb E3 7),39,[.bool (decide ((x / 1000000000000000000) % 86400 < 0)),rS ((x / 1000000000000000000) % 86400) ((bA (tp (E3 2) 1))) ((bC (tp (E3 2) 1)))])]) (hs:=c_ (ld_ 2 (hrd:=by exact rd39 rfl rfl))<|c_ (cb_ Tryz.func23 86400 (h:=fun _ env _ wd hA=>⟨_,Int_any wd 86400 (by omega) (by omega),rfl⟩))<|c_ (cf_ Tryz.func112 (fun v w=>DivX w v ((x / 1000000000000000000) / 86400) ((x / 1000000000000000000) % 86400)) (divF ((x / 1000000000000000000) / 86400) ((x / 1000000000000000000) % 86400)) (h:=fun _ env _ wd hA=>⟨_,toD (Div_any wd (decide (x / 1000000000000000000 < 0)) (bA (tp (E2 2) 0)) (bC (tp (E2 2) 0)) (x / 1000000000000000000) rfl (Facts.div1 (hA.j.st.now).1 1 rfl) (by unfold Sm at *;omega) (decide (86400 < 0)) (bA (env 1)) (bC (env 1)) 86400 rfl (At.bigN hA 1 rfl rfl rfl) (by unfold Sm;omega) (by omega)),rfl⟩))<|c_ mv_<|c_ ext_<|c_ ext_<|c_ (al_ 4)<|c_ (al_ 5)<|c_ (sw_ 4 6 (hst:=by exact fun _ _ _ hc=>st39 rfl rfl rfl hc))<|c_ (sw_ 5 7 (hst:=by exact fun _ _ _ hc=>st39 rfl rfl rfl hc))<|e_) (k:=fun E3 ac wd h_3=>?_)
 clear h_2
 refine then_n (wp_seq ?_)
 refine rf_ h_3 [[0],[0,1],[0,1,2],r_ 4,[0,1,2,4],[0,1,2,3,5],r_ 7] [K_ (bigF ((x / 1000000000000000000) / 86400) (tp (E3 2) 0)),K_ (vT2 (vI ((x / 1000000000000000000 / 86400))) bT),K_ (vT2 (vI ((x / 1000000000000000000 / 86400))) bT),K_ (vI ((x / 1000000000000000000 / 86400))),K_ bT,K_ (vI ((x / 1000000000000000000 / 86400))),K_ bT] (fun E4=>[(2,vP (pb E1 1) 0),(3,bF),(5,vP (pb E2 7) 0),(7,vP (pb E3 7) 0),(8,vI ((x / 1000000000000000000 / 86400))),(9,bT)]) (hs:=c_ (ld_ 4 (hrd:=by exact rd39 rfl rfl))<|c_ (cw_ Tryz.func121 (h:=fun _ env _ wd hA=>⟨_,Small_yes wd (decide ((x / 1000000000000000000) / 86400 < 0)) (bA (tp (E3 2) 0)) (bC (tp (E3 2) 0)) (x / 1000000000000000000 / 86400) rfl (Facts.div1 (hA.j.st.now).1 3 rfl)  (by omega) (by omega),rfl⟩))<|c_ mv_<|c_ ext_<|c_ ext_<|c_ mv_<|c_ mv_<|e_) (k:=fun E4 ac wd h_4=>?_)
 clear h_3
 refine then_n (wp_seq (wp_seq ?_))
 refine rf_ h_4 (tri 7) [K_ bT,K_ bF,K_ bF,K_ (vI ((x / 1000000000000000000 / 86400))),K_ bT,K_ bF,K_ bF] (fun E5=>[(2,vP (pb E1 1) 0),(3,bF),(5,vP (pb E2 7) 0),(7,vP (pb E3 7) 0),(8,vI ((x / 1000000000000000000 / 86400))),(37,bF)]) (hs:=c_ mv_<|c_ (un0 bT)<|c_ mv_<|c_ (gm0 (vI ((x / 1000000000000000000 / 86400))))<|c_ (cl_ Tryz.func75 (h:=fun env=>⟨_,((In_any (x / 1000000000000000000 / 86400)).eq (congrArg Value.bool hin)),rfl⟩))<|c_ (un0 bT)<|c_ (pk0 bF bT bF)<|e_) (k:=fun E5 ac wd h_5=>?_)
 clear h_4
 refine then_n ?_
 refine wp_cond_false (eval_tmp (h_5.g (t:=37) rfl)) ?_
 refine wp_skip (then_n (wp_seq ?_))
 refine rf_ h_5 [[0],[0,1],[0,1,2],r_ 4,[0,1,2,4],[0,1,2,3,5],r_ 7] [K_ (bigF ((x / 1000000000000000000) % 86400) (tp (E3 2) 1)),K_ (vT2 (vI ((x / 1000000000000000000 % 86400))) bT),K_ (vT2 (vI ((x / 1000000000000000000 % 86400))) bT),K_ (vI ((x / 1000000000000000000 % 86400))),K_ bT,K_ (vI ((x / 1000000000000000000 % 86400))),K_ bT] (fun E6=>[(2,vP (pb E1 1) 0),(3,bF),(5,vP (pb E2 7) 0),(8,vI ((x / 1000000000000000000 / 86400))),(10,vI ((x / 1000000000000000000 % 86400)))]) (hs:=c_ (ld_ 5 (hrd:=by exact rd39 rfl rfl))<|c_ (cw_ Tryz.func121 (h:=fun _ env _ wd hA=>⟨_,Small_yes wd (decide ((x / 1000000000000000000) % 86400 < 0)) (bA (tp (E3 2) 1)) (bC (tp (E3 2) 1)) (x / 1000000000000000000 % 86400) rfl (Facts.div2 (hA.j.st.now).1 3 rfl)  (by omega) (by omega),rfl⟩))<|c_ mv_<|c_ ext_<|c_ ext_<|c_ mv_<|c_ mv_<|e_) (k:=fun E6 ac wd h_6=>?_)
 clear h_5
 refine then_n (wp_seq ?_)
 refine rf_ h_6 [[0],[0,1],[0,1,2],r_ 4,[0,1,2,4],[0,1,2,3,5],r_ 7] [K_ (bigF (x % 1000000000000000000) (tp (E2 2) 1)),K_ (vT2 (vI ((x % 1000000000000000000))) bT),K_ (vT2 (vI ((x % 1000000000000000000))) bT),K_ (vI ((x % 1000000000000000000))),K_ bT,K_ (vI ((x % 1000000000000000000))),K_ bT] (fun E7=>[(2,vP (pb E1 1) 0),(3,bF),(8,vI ((x / 1000000000000000000 / 86400))),(10,vI ((x / 1000000000000000000 % 86400))),(12,vI ((x % 1000000000000000000)))]) (hs:=c_ (ld_ 3 (hrd:=by exact rd39 rfl rfl))<|c_ (cw_ Tryz.func121 (h:=fun _ env _ wd hA=>⟨_,Small_yes wd (decide (x % 1000000000000000000 < 0)) (bA (tp (E2 2) 1)) (bC (tp (E2 2) 1)) (x % 1000000000000000000) rfl (Facts.div2 (hA.j.st.now).1 1 rfl)  (by omega) (by omega),rfl⟩))<|c_ mv_<|c_ ext_<|c_ ext_<|c_ mv_<|c_ mv_<|e_) (k:=fun E7 ac wd h_7=>?_)
 clear h_6
 refine then_n (wp_seq ?_)
 refine rf_ h_7 [[0],[1],[2],r_ 4,r_ 5,r_ 6] [K_ (vI ((x / 1000000000000000000 / 86400))),K_ (vI ((x / 1000000000000000000 % 86400))),K_ (vI ((x % 1000000000000000000))),K_ (vL (x / 1000000000000000000 / 86400) (x / 1000000000000000000 % 86400) (x % 1000000000000000000)),none,K_ bT] (fun E8=>[(2,vP (pb E1 1) 0),(3,bT)]) (S:=[⟨1,4,fun _=>[vI ((x / 1000000000000000000 / 86400)),vI ((x / 1000000000000000000 % 86400)),vI ((x % 1000000000000000000))]⟩]) (M':=fun E8=>[((pb E1 0),39,[.bool (p),rS x A0 c0]),((pb E1 1),26,[vI ((x / 1000000000000000000 / 86400)),vI ((x / 1000000000000000000 % 86400)),vI ((x % 1000000000000000000))]),((pb E2 6),39,[.bool (decide (x / 1000000000000000000 < 0)),rS (x / 1000000000000000000) ((bA (tp (E2 2) 0))) ((bC (tp (E2 2) 0)))]),((pb E2 7),39,[.bool (decide (x % 1000000000000000000 < 0)),rS (x % 1000000000000000000) ((bA (tp (E2 2) 1))) ((bC (tp (E2 2) 1)))]),((pb E3 6),39,[.bool (decide ((x / 1000000000000000000) / 86400 < 0)),rS ((x / 1000000000000000000) / 86400) ((bA (tp (E3 2) 0))) ((bC (tp (E3 2) 0)))]),((pb E3 7),39,[.bool (decide ((x / 1000000000000000000) % 86400 < 0)),rS ((x / 1000000000000000000) % 86400) ((bA (tp (E3 2) 1))) ((bC (tp (E3 2) 1)))])]) (hs:=c_ mv_<|c_ mv_<|c_ mv_<|c_ (bd0 ([vI ((x / 1000000000000000000 / 86400)),vI ((x / 1000000000000000000 % 86400)),vI ((x % 1000000000000000000))]))<|c_ (se_ 1 (hst:=by exact fun _ _ _ hc=>st26 rfl rfl rfl rfl hc))<|c_ mv_<|e_) (k:=fun E8 ac wd h_8=>?_)
 clear h_7
 refine then_n (wp_ret ?_)
 have s2:=h_8.g (t:=2) rfl
 have hc2:=(h_8.st.own 1 _ rfl).2
 have c2_0:=own_cell (o:=0) hc2 rfl
 have c2_1:=own_cell (o:=1) hc2 rfl
 have c2_2:=own_cell (o:=2) hc2 rfl
 have s3:=h_8.g (t:=3) rfl
 refine leave (v:=vT2 (vL (x / 1000000000000000000 / 86400) (x / 1000000000000000000 % 86400) (x % 1000000000000000000)) (.bool true)) h_8.df (by simp [results,Tryz.results88,go_sem,Array.getD_eq_getD_getElem?,s2,c2_0,c2_1,c2_2,Tryz.underlying26,s3]) ?_
 exact ⟨rfl,h_8.st.below⟩
end Go.Proofs.YtdfkghpgekmmlaaGreat
namespace Go.Proofs.YtdfkghpgekmmlaaGreat
open Go.RowKit
attribute [local go_sem] vN bT bF rS vSg vW vM vL vT2 vT3 vP vI execOp Act.eval evC bigF vB hi_zero lo_zero Tryz.underlying128 Tryz.underlying26 Tryz.underlying39
theorem BigN.eq {B:Nat} {w:World} {v:Value} {z z':Int} (h:BigN B w v z) (e:z=z'):BigN B w v z':=e▸h
theorem runit_any (w0:World) (n:Int) (h0:-9223372036854775808≤n) (h1:n < 9223372036854775808):Calls Tryz.prog 113 #[vI n] w0 fun e w'=>∃ v,e = .returned v∧Below w0.heap.size w0 w'∧BigN w0.heap.size w' v (n*100000000000):=by
 have hst:=St.start w0 (Θ:=fun _=>True) (fun _ _=>trivial)
 refine enter Tryz.func113 rfl (n:=7) rfl (Nat.le_of_ble_eq_true rfl) hst (L:=[(0,vI n)]) (lk_args rfl) (fun ac h=>?_)
 replace h:=h.facts
 refine wp_seq ?_
 refine rf_ h [[0]] [KE_ fun env=>vP (pb env 0) 0] (fun E1=>[(0,vI n),(2,vP (pb E1 0) 0)]) (W:=[{ i:=0,T:=39,c0:=[bF,.slice none 0 0] }]) (M':=fun E1=>[((pb E1 0),39,[bF,.slice none 0 0])]) (hs:=c_ (al_ 0)<|e_) (k:=fun E1 ac wd h_1=>?_)
 clear h
 refine then_n (wp_seq ?_)
 refine rf_ h_1 (tri 5) [K_ (vI n),KE_ fun env=>bigF n (env 1),KE_ fun env=>bigF 100000000000 (env 2),KE_ fun env=>bigF (n*100000000000) (env 3),none] (fun E2=>[(2,vP (pb E1 0) 0)]) (S:=[⟨0,4,fun env=>[.bool (decide (n*100000000000 < 0)),rS (n*100000000000) ((bA (env 3))) ((bC (env 3)))]⟩]) (F:=[(1,fun env w=>BigN w0.heap.size w (env 1) n),(2,fun env w=>BigN w0.heap.size w (env 2) 100000000000),(3,fun env w=>BigN w0.heap.size w (env 3) (n*100000000000))]) (L1:=fun E2=>[fun w=>BigN w0.heap.size w (E2 1) n,fun w=>BigN w0.heap.size w (E2 2) 100000000000,fun w=>BigN w0.heap.size w (E2 3) (n*100000000000)]) (M':=fun E2=>[((pb E1 0),39,[.bool (decide (n*100000000000 < 0)),rS (n*100000000000) ((bA (E2 3))) ((bC (E2 3)))])]) (hs:=c_ mv_<|c_ (cb_ Tryz.func23 n (h:=fun _ env _ wd hA=>⟨_,Int_any wd n (by omega) (by omega),rfl⟩))<|c_ (cb_ Tryz.func23 100000000000 (h:=fun _ env _ wd hA=>⟨_,Int_any wd 100000000000 (by omega) (by omega),rfl⟩))<|c_ (cb_ Tryz.func52 (n*100000000000) (h:=fun _ env _ wd hA=>⟨_,Mul_any wd (decide (n < 0)) (bA (env 1)) (bC (env 1)) n rfl (At.bigN hA 1 rfl rfl rfl) (by unfold Sm;omega) (decide (100000000000 < 0)) (bA (env 2)) (bC (env 2)) 100000000000 rfl (At.bigN hA 2 rfl rfl rfl) (by unfold Sm;omega),rfl⟩))<|c_ (se_ 0 (hst:=by exact fun _ _ _ hc=>st39 rfl rfl rfl hc))<|e_) (k:=fun E2 ac wd h_2=>?_)
 clear h_1
 refine then_n (wp_ret ?_)
 have s2:=h_2.g (t:=2) rfl
 have hc2:=(h_2.st.own 0 _ rfl).2
 have c2_0:=own_cell (o:=0) hc2 rfl
 have c2_1:=own_cell (o:=1) hc2 rfl
 refine leave (v:=bigF (n*100000000000) (E2 3)) h_2.df (by simp [results,Tryz.results113,go_sem,Array.getD_eq_getD_getElem?,s2,c2_0,c2_1,Tryz.underlying39]) ?_
 exact ⟨_,rfl,h_2.st.below,BigN.mk rfl rfl (Facts.bN h_2.st.now 2 rfl)⟩
theorem F_sm {s:Sg} (hs:SgOk s) {u:Int} (hu0:-1000000000000000000000000000000000000000000000000000000000000≤u) (hu1:u≤1000000000000000000000000000000000000000000000000000000000000):Sm u∧Sm (jn s.f 0 0)∧Sm (s.r*100000000000*(u-jn s.f 0 0))∧Sm (s.r*100000000000*(u-jn s.f 0 0) / jn 1 0 0):=by
  have h1:=hs.f0;have h2:=hs.f1;have h3:=hs.r0;have h4:=hs.r1
  have hj:-100000000000000000000000000000≤jn s.f 0 0∧jn s.f 0 0≤100000000000000000000000000000:=by unfold jn;omega
  have hm:=mul_abs (a:=s.r*100000000000) (b:=u-jn s.f 0 0) (A:=100000000000000000) (B:=10000000000000000000000000000000000000000000000000000000000000) (by omega) (by omega) (by omega) (by omega) (by omega)
  have e:jn 1 0 0=86400000000000000000000:=by unfold jn;omega
  refine ⟨by unfold Sm;omega,by unfold Sm;omega,by unfold Sm;omega,?_⟩
  rw [e]
  unfold Sm
  constructor
  · exact Int.le_ediv_of_mul_le (by omega) (by omega)
  · exact Int.ediv_le_of_le_mul (by omega) (by omega)
theorem F_any (w0:World) (s:Sg) (hs:SgOk s) (p:Bool) (A0:Option Addr) (c0:Nat) (u:Int) (hp:p=decide (u < 0)) (hr:Row w0 (.slice A0 (digs u).length c0) (digs u)) (hu0:-1000000000000000000000000000000000000000000000000000000000000≤u) (hu1:u≤1000000000000000000000000000000000000000000000000000000000000):Calls Tryz.prog 77 #[vSg s,.agg #[.bool (p),.slice A0 ((digs u).length) c0]] w0 fun e w'=>∃ v,e = .returned v∧Below w0.heap.size w0 w'∧BigN w0.heap.size w' v (fS s u):=by
 obtain ⟨hsu,hsj,hsm,hsg⟩:=F_sm hs hu0 hu1
 have h1:=hs.f0;have h2:=hs.f1;have h3:=hs.r0;have h4:=hs.r1;have h5:=hs.b0;have h6:=hs.b1
 have hj:-100000000000000000000000000000≤jn s.f 0 0∧jn s.f 0 0≤100000000000000000000000000000:=by unfold jn;omega
 have hd0:0 < jn 1 0 0:=by unfold jn;omega
 have hsd:Sm (jn 1 0 0):=by unfold jn Sm;omega
 have hst:=St.start w0 (Θ:=fun _=>True) (fun _ _=>trivial)
 refine enter Tryz.func77 rfl (n:=32) rfl (Nat.le_of_ble_eq_true rfl) hst (L:=[(0,vSg s),(1,.agg #[.bool (p),.slice A0 ((digs u).length) c0])]) (lk_args rfl) (fun ac h=>?_)
 replace h:=h.facts
 refine wp_seq ?_
 refine rf_ h [[0],[1],[2]] [KE_ fun env=>vP (pb env 0) 0,KE_ fun env=>vP (pb env 1) 0,KE_ fun env=>vP (pb env 2) 0] (fun E1=>[(2,vP (pb E1 0) 0),(3,vP (pb E1 1) 0),(4,vP (pb E1 2) 0)]) (W:=[{ i:=0,T:=128,c0:=[vI (s.d),vI (s.b),vI (s.f),vI (s.r)] },{ i:=1,T:=39,c0:=[.bool (p),rS u A0 c0] },{ i:=2,T:=39,c0:=[bF,.slice none 0 0] }]) (M':=fun E1=>[((pb E1 0),128,[vI (s.d),vI (s.b),vI (s.f),vI (s.r)]),((pb E1 1),39,[.bool (p),rS u A0 c0]),((pb E1 2),39,[bF,.slice none 0 0])]) (hs:=c_ (bx0 0 (vSg s))<|c_ (bx0 1 (.agg #[.bool (p),rS u A0 c0]))<|c_ (al_ 2)<|e_) (k:=fun E1 ac wd h_1=>?_)
 clear h
 refine then_n (wp_seq ?_)
 refine rf_ h_1 [[0],[0,1],[2],r_ 4] [K_ (vL 1 0 0),KE_ fun env=>bigF (jn 1 0 0) (env 1),KE_ fun env=>vP (pb env 2) 0,none] (fun E2=>[(2,vP (pb E1 0) 0),(3,vP (pb E1 1) 0),(4,vP (pb E1 2) 0),(5,vP (pb E2 2) 0)]) (W:=[{ i:=2,T:=39,c0:=[bF,.slice none 0 0],s:=some 3,c1:=fun env=>[.bool (decide (jn 1 0 0 < 0)),rS (jn 1 0 0) ((bA (env 1))) ((bC (env 1)))] }]) (F:=[(1,fun env w=>BigN w0.heap.size w (env 1) (jn 1 0 0))]) (L1:=fun E2=>[fun w=>BigN w0.heap.size w (E2 1) (jn 1 0 0)]) (M':=fun E2=>[((pb E1 0),128,[vI (s.d),vI (s.b),vI (s.f),vI (s.r)]),((pb E1 1),39,[.bool (p),rS u A0 c0]),((pb E1 2),39,[bF,.slice none 0 0]),((pb E2 2),39,[.bool (decide (jn 1 0 0 < 0)),rS (jn 1 0 0) ((bA (E2 1))) ((bC (E2 1)))])]) (hs:=c_ (bd0 ([vI 1]))<|c_ (cb_ Tryz.func78 (jn 1 0 0) (h:=fun _ env _ wd hA=>⟨_,Join_any wd 1 0 0 (by omega) (by omega) (by omega) (by omega) (by omega) (by omega),rfl⟩))<|c_ (al_ 3)<|c_ (sw_ 3 2 (hst:=by exact fun _ _ _ hc=>st39 rfl rfl rfl hc))<|e_) (k:=fun E2 ac wd h_2=>?_)
 clear h_1
 refine then_n (wp_seq ?_)
 refine rf_ h_2 [[0],[0,1],[0,1,2],[3],[4],[4,5],[4,5,6],[0,1,2,4,5,6,7],r_ 9,r_ 10,[10],r_ 12,r_ 13,r_ 14,[0,1,2,3,4,5,6,7,8,9,10,11,12,14],[15],[16],[0,1,2,3,4,5,6,7,8,9,10,11,12,13,15,16,17],r_ 19] [K_ (vP (pb E1 0) 3),K_ (vI (s.r)),KE_ fun env=>bigF (s.r*100000000000) (env 2),K_ (.agg #[.bool (p),rS u A0 c0]),K_ (vP (pb E1 0) 2),K_ (vI (s.f)),K_ (vL s.f 0 0),KE_ fun env=>bigF (jn s.f 0 0) (env 7),KE_ fun env=>bigF (u-jn s.f 0 0) (env 8),KE_ fun env=>bigF (s.r*100000000000*(u-jn s.f 0 0)) (env 9),K_ (bigF (jn 1 0 0) (E2 1)),KE_ fun env=>vT2 (bigF (s.r*100000000000*(u-jn s.f 0 0) / jn 1 0 0) (tp (env 11) 0)) (bigF (s.r*100000000000*(u-jn s.f 0 0) % jn 1 0 0) (tp (env 11) 1)),KE_ fun env=>vT2 (bigF (s.r*100000000000*(u-jn s.f 0 0) / jn 1 0 0) (tp (env 11) 0)) (bigF (s.r*100000000000*(u-jn s.f 0 0) % jn 1 0 0) (tp (env 11) 1)),KE_ fun env=>bigF (s.r*100000000000*(u-jn s.f 0 0) / jn 1 0 0) (tp (env 11) 0),KE_ fun env=>bigF (s.r*100000000000*(u-jn s.f 0 0) % jn 1 0 0) (tp (env 11) 1),KE_ fun env=>vP (pb env 15) 0,KE_ fun env=>vP (pb env 16) 0,none,none] (fun E3=>[(2,vP (pb E1 0) 0),(3,vP (pb E1 1) 0),(4,vP (pb E1 2) 0),(6,vP (pb E3 15) 0)]) (W:=[{ i:=15,T:=39,c0:=[bF,.slice none 0 0],s:=some 17,c1:=fun env=>[.bool (decide (s.r*100000000000*(u-jn s.f 0 0) / jn 1 0 0 < 0)),rS (s.r*100000000000*(u-jn s.f 0 0) / jn 1 0 0) ((bA (tp (env 11) 0))) ((bC (tp (env 11) 0)))] },{ i:=16,T:=39,c0:=[bF,.slice none 0 0],s:=some 18,c1:=fun env=>[.bool (decide (s.r*100000000000*(u-jn s.f 0 0) % jn 1 0 0 < 0)),rS (s.r*100000000000*(u-jn s.f 0 0) % jn 1 0 0) ((bA (tp (env 11) 1))) ((bC (tp (env 11) 1)))] }]) (F:=[(2,fun env w=>BigN w0.heap.size w (env 2) (s.r*100000000000)),(7,fun env w=>BigN w0.heap.size w (env 7) (jn s.f 0 0)),(8,fun env w=>BigN w0.heap.size w (env 8) (u-jn s.f 0 0)),(9,fun env w=>BigN w0.heap.size w (env 9) (s.r*100000000000*(u-jn s.f 0 0))),(11,fun env w=>DivX w (env 11) (s.r*100000000000*(u-jn s.f 0 0) / jn 1 0 0) (s.r*100000000000*(u-jn s.f 0 0) % jn 1 0 0))]) (L1:=fun E3=>[fun w=>BigN w0.heap.size w (E2 1) (jn 1 0 0),fun w=>BigN w0.heap.size w (E3 2) (s.r*100000000000),fun w=>BigN w0.heap.size w (E3 7) (jn s.f 0 0),fun w=>BigN w0.heap.size w (E3 8) (u-jn s.f 0 0),fun w=>BigN w0.heap.size w (E3 9) (s.r*100000000000*(u-jn s.f 0 0)),fun w=>DivX w (E3 11) (s.r*100000000000*(u-jn s.f 0 0) / jn 1 0 0) (s.r*100000000000*(u-jn s.f 0 0) % jn 1 0 0)]) (M':=fun E3=>[((pb E1 0),128,[vI (s.d),vI (s.b),vI (s.f),vI (s.r)]),((pb E1 1),39,[.bool (p),rS u A0 c0]),((pb E1 2),39,[bF,.slice none 0 0]),((pb E2 2),39,[.bool (decide (jn 1 0 0 < 0)),rS (jn 1 0 0) ((bA (E2 1))) ((bC (E2 1)))]),((pb E3 15),39,[.bool (decide (s.r*100000000000*(u-jn s.f 0 0) / jn 1 0 0 < 0)),rS (s.r*100000000000*(u-jn s.f 0 0) / jn 1 0 0) ((bA (tp (E3 11) 0))) ((bC (tp (E3 11) 0)))]),((pb E3 16),39,[.bool (decide (s.r*100000000000*(u-jn s.f 0 0) % jn 1 0 0 < 0)),rS (s.r*100000000000*(u-jn s.f 0 0) % jn 1 0 0) ((bA (tp (E3 11) 1))) ((bC (tp (E3 11) 1)))])]) (hs:=c_ (fa0 (vP (pb E1 0) 0))<|c_ (ld_ 0 (hrd:=by exact rd3 rfl))<|c_ (cb_ Tryz.func113 (s.r*100000000000) (h:=fun _ env _ wd hA=>⟨_,runit_any wd s.r (by omega) (by omega),rfl⟩))<|c_ (ld_ 1 (hrd:=by exact rd39 rfl rfl))<|c_ (fa0 (vP (pb E1 0) 0))<|c_ (ld_ 0 (hrd:=by exact rd3 rfl))<|c_ (bd0 ([vI (s.f)]))<|c_ (cb_ Tryz.func78 (jn s.f 0 0) (h:=fun _ env _ wd hA=>⟨_,Join_any wd s.f 0 0 (by omega) (by omega) (by omega) (by omega) (by omega) (by omega),rfl⟩))<|c_ (cb_ Tryz.func22 (u-jn s.f 0 0) (h:=fun _ env _ wd hA=>⟨_,Sub_any wd p A0 c0 u hp (hr.grown hA.j.st.gr) hsu (decide (jn s.f 0 0 < 0)) (bA (env 7)) (bC (env 7)) (jn s.f 0 0) rfl (At.bigN hA 7 rfl rfl rfl) hsj,rfl⟩))<|c_ (cb_ Tryz.func52 (s.r*100000000000*(u-jn s.f 0 0)) (h:=fun _ env _ wd hA=>⟨_,Mul_any wd (decide (s.r*100000000000 < 0)) (bA (env 2)) (bC (env 2)) (s.r*100000000000) rfl (At.bigN hA 2 rfl rfl rfl) (by unfold Sm;omega) (decide (u-jn s.f 0 0 < 0)) (bA (env 8)) (bC (env 8)) (u-jn s.f 0 0) rfl (At.bigN hA 8 rfl rfl rfl) (by unfold Sm;omega),rfl⟩))<|c_ (ld_ 3 (hrd:=by exact rd39 rfl rfl))<|c_ (cf_ Tryz.func112 (fun v w=>DivX w v (s.r*100000000000*(u-jn s.f 0 0) / jn 1 0 0) (s.r*100000000000*(u-jn s.f 0 0) % jn 1 0 0)) (divF (s.r*100000000000*(u-jn s.f 0 0) / jn 1 0 0) (s.r*100000000000*(u-jn s.f 0 0) % jn 1 0 0)) (h:=fun _ env _ wd hA=>⟨_,toD (Div_any wd (decide (s.r*100000000000*(u-jn s.f 0 0) < 0)) (bA (env 9)) (bC (env 9)) (s.r*100000000000*(u-jn s.f 0 0)) rfl (At.bigN hA 9 rfl rfl rfl) hsm (decide (jn 1 0 0 < 0)) (bA (E2 1)) (bC (E2 1)) (jn 1 0 0) rfl (Facts.bigN (hA.j.st.now).1 0 rfl) hsd hd0),rfl⟩))<|c_ mv_<|c_ ext_<|c_ ext_<|c_ (al_ 4)<|c_ (al_ 5)<|c_ (sw_ 4 15 (hst:=by exact fun _ _ _ hc=>st39 rfl rfl rfl hc))<|c_ (sw_ 5 16 (hst:=by exact fun _ _ _ hc=>st39 rfl rfl rfl hc))<|e_) (k:=fun E3 ac wd h_3=>?_)
 clear h_2
 refine then_n (wp_seq ?_)
 refine rf_ h_3 [[0],[1],[1,2],[1,2,3],r_ 5,[5],r_ 7,r_ 8] [K_ (.agg #[.bool (p),rS u A0 c0]),K_ (vP (pb E1 0) 1),K_ (vI (s.b)),KE_ fun env=>bigF (s.b*100000000000) (env 3),KE_ fun env=>bigF (u+s.b*100000000000) (env 4),K_ (bigF (s.r*100000000000*(u-jn s.f 0 0) / jn 1 0 0) (tp (E3 11) 0)),KE_ fun env=>bigF (u+s.b*100000000000+s.r*100000000000*(u-jn s.f 0 0) / jn 1 0 0) (env 6),none] (fun E4=>[(4,vP (pb E1 2) 0)]) (S:=[⟨2,7,fun env=>[.bool (decide (u+s.b*100000000000+s.r*100000000000*(u-jn s.f 0 0) / jn 1 0 0 < 0)),rS (u+s.b*100000000000+s.r*100000000000*(u-jn s.f 0 0) / jn 1 0 0) ((bA (env 6))) ((bC (env 6)))]⟩]) (F:=[(3,fun env w=>BigN w0.heap.size w (env 3) (s.b*100000000000)),(4,fun env w=>BigN w0.heap.size w (env 4) (u+s.b*100000000000)),(6,fun env w=>BigN w0.heap.size w (env 6) (u+s.b*100000000000+s.r*100000000000*(u-jn s.f 0 0) / jn 1 0 0))]) (L1:=fun E4=>[fun w=>BigN w0.heap.size w (E2 1) (jn 1 0 0),fun w=>BigN w0.heap.size w (E3 2) (s.r*100000000000),fun w=>BigN w0.heap.size w (E3 7) (jn s.f 0 0),fun w=>BigN w0.heap.size w (E3 8) (u-jn s.f 0 0),fun w=>BigN w0.heap.size w (E3 9) (s.r*100000000000*(u-jn s.f 0 0)),fun w=>DivX w (E3 11) (s.r*100000000000*(u-jn s.f 0 0) / jn 1 0 0) (s.r*100000000000*(u-jn s.f 0 0) % jn 1 0 0),fun w=>BigN w0.heap.size w (E4 3) (s.b*100000000000),fun w=>BigN w0.heap.size w (E4 4) (u+s.b*100000000000),fun w=>BigN w0.heap.size w (E4 6) (u+s.b*100000000000+s.r*100000000000*(u-jn s.f 0 0) / jn 1 0 0)]) (M':=fun E4=>[((pb E1 0),128,[vI (s.d),vI (s.b),vI (s.f),vI (s.r)]),((pb E1 1),39,[.bool (p),rS u A0 c0]),((pb E1 2),39,[.bool (decide (u+s.b*100000000000+s.r*100000000000*(u-jn s.f 0 0) / jn 1 0 0 < 0)),rS (u+s.b*100000000000+s.r*100000000000*(u-jn s.f 0 0) / jn 1 0 0) ((bA (E4 6))) ((bC (E4 6)))]),((pb E2 2),39,[.bool (decide (jn 1 0 0 < 0)),rS (jn 1 0 0) ((bA (E2 1))) ((bC (E2 1)))]),((pb E3 15),39,[.bool (decide (s.r*100000000000*(u-jn s.f 0 0) / jn 1 0 0 < 0)),rS (s.r*100000000000*(u-jn s.f 0 0) / jn 1 0 0) ((bA (tp (E3 11) 0))) ((bC (tp (E3 11) 0)))]),((pb E3 16),39,[.bool (decide (s.r*100000000000*(u-jn s.f 0 0) % jn 1 0 0 < 0)),rS (s.r*100000000000*(u-jn s.f 0 0) % jn 1 0 0) ((bA (tp (E3 11) 1))) ((bC (tp (E3 11) 1)))])]) (hs:=c_ (ld_ 1 (hrd:=by exact rd39 rfl rfl))<|c_ (fa0 (vP (pb E1 0) 0))<|c_ (ld_ 0 (hrd:=by exact rd3 rfl))<|c_ (cb_ Tryz.func113 (s.b*100000000000) (h:=fun _ env _ wd hA=>⟨_,runit_any wd s.b (by omega) (by omega),rfl⟩))<|c_ (cb_ Tryz.func51 (u+s.b*100000000000) (h:=fun _ env _ wd hA=>⟨_,Add_any wd p A0 c0 u hp (hr.grown hA.j.st.gr) hsu (decide (s.b*100000000000 < 0)) (bA (env 3)) (bC (env 3)) (s.b*100000000000) rfl (At.bigN hA 3 rfl rfl rfl) (by unfold Sm;omega),rfl⟩))<|c_ (ld_ 4 (hrd:=by exact rd39 rfl rfl))<|c_ (cb_ Tryz.func51 (u+s.b*100000000000+s.r*100000000000*(u-jn s.f 0 0) / jn 1 0 0) (h:=fun _ env _ wd hA=>⟨_,Add_any wd (decide (u+s.b*100000000000 < 0)) (bA (env 4)) (bC (env 4)) (u+s.b*100000000000) rfl (At.bigN hA 4 rfl rfl rfl) (by unfold Sm;omega) (decide (s.r*100000000000*(u-jn s.f 0 0) / jn 1 0 0 < 0)) (bA (tp (E3 11) 0)) (bC (tp (E3 11) 0)) (s.r*100000000000*(u-jn s.f 0 0) / jn 1 0 0) rfl (Facts.div1 (hA.j.st.now).1 5 rfl) hsg,rfl⟩))<|c_ (se_ 2 (hst:=by exact fun _ _ _ hc=>st39 rfl rfl rfl hc))<|e_) (k:=fun E4 ac wd h_4=>?_)
 clear h_3
 refine then_n (wp_ret ?_)
 have s4:=h_4.g (t:=4) rfl
 have hc4:=(h_4.st.own 2 _ rfl).2
 have c4_0:=own_cell (o:=0) hc4 rfl
 have c4_1:=own_cell (o:=1) hc4 rfl
 refine leave (v:=bigF (u+s.b*100000000000+s.r*100000000000*(u-jn s.f 0 0) / jn 1 0 0) (E4 6)) h_4.df (by simp [results,Tryz.results77,go_sem,Array.getD_eq_getD_getElem?,s4,c4_0,c4_1,Tryz.underlying39]) ?_
 exact ⟨_,rfl,h_4.st.below,BigN.eq (BigN.mk rfl rfl (Facts.bN h_4.st.now 8 rfl)) (by unfold fS fA;rw [dayA_eq,Int.mul_comm (s.r*100000000000) (u-jn s.f 0 0)])⟩
theorem Until_any (w0:World) (A0:Option Addr) (c0:Nat) (l:List Sg) (hl:SegU w0 (.slice A0 l.length c0) l) (day:Int) (i:Nat) (hi:i < 1000):Calls Tryz.prog 79 #[.slice A0 l.length c0,vI day,vI (((i:Nat):Int))] w0 fun e w'=>e = .returned (vI (untS l day i))∧Below w0.heap.size w0 w':=by
 have hst:=St.start w0 (Θ:=fun _=>True) (fun _ _=>trivial)
 refine enter Tryz.func79 rfl (n:=19) rfl (Nat.le_of_ble_eq_true rfl) hst (L:=[(0,.slice A0 l.length c0),(1,vI day),(2,vI (((i:Nat):Int)))]) (lk_args rfl) (fun ac h=>?_)
 replace h:=h.facts
 refine wp_seq ?_
 refine rf_ h [[0]] [K_ (vI 0)] (fun E1=>[(0,.slice A0 l.length c0),(1,vI day),(2,vN i),(6,vI 0)]) (hs:=c_ mv_<|e_) (k:=fun E1 ac wd h_1=>?_)
 clear h
 refine then_n (wp_seq (wp_seq ?_))
 by_cases h:i+1 < l.length
 refine rf_ h_1 [[0],[0,1],[2],[2,3],r_ 5] [K_ (vN i),K_ (vI (((i:Nat):Int)+1)),K_ (.slice A0 l.length c0),K_ (vN l.length),K_ bT] (fun E2=>[(0,.slice A0 l.length c0),(1,vI day),(2,vN i),(6,vI 0),(11,bT)]) (hs:=c_ mv_<|c_ (bi0 (vN i) (vI 1))<|c_ mv_<|c_ (ln_ Tryz.underlying82 fun _ env _ wd hA=>(hl.grown hA.j.st.gr).els)<|c_ (bi0 (vI (((i:Nat):Int)+1)) (vN l.length))<|e_) (k:=fun E2 ac wd h_2=>?_)
 clear h_1
 refine then_n ?_
 refine wp_cond_true (eval_tmp (h_2.g (t:=11) rfl)) ?_
 refine wp_seq ?_
 refine rf_ h_2 [[0],[1],[1,2],r_ 4,r_ 5,r_ 6,r_ 7] [K_ (.slice A0 l.length c0),K_ (vN i),K_ (vI (((i:Nat):Int)+1)),K_ (elt (.slice A0 l.length c0) ((i+1)*4)),K_ (elt (.slice A0 l.length c0) ((i+1)*4)),K_ (vI ((sgi l (i+1)).d)),K_ (vI ((sgi l (i+1)).d))] (fun E3=>[(1,vI day),(6,vI ((sgi l (i+1)).d))]) (hs:=c_ mv_<|c_ mv_<|c_ (bi0 (vN i) (vI 1))<|c_ (ia_ Tryz.underlying82 sz128 (i+1) ((i+1)*4) (((i:Nat):Int)+1) (fun _ env _ wd hA=>(hl.grown hA.j.st.gr).els) (by omega) (by omega) rfl)<|c_ (s_fa rfl rfl rfl (fun _=>wanted_none rfl _) ((i+1)*4) 0 ((i+1)*4) rfl (s:=fun _=>.slice A0 l.length c0) rfl (fun _=>rfl) (fun {D env ac wd} hA=>(hl.grown hA.j.st.gr).els) (by omega) (fun b q w=>by simp [go_sem,Tryz.underlying128]))<|c_ (le_ ((i+1)*4) (fun _ env _ wd hA=>(hl.grown hA.j.st.gr).els) (by omega) (le3 (by exact sgC_0 l (i+1))))<|c_ mv_<|e_) (k:=fun E3 ac wd h_3=>?_)
 clear h_2
 refine then_n (wp_ret (then_ret ?_))
 have s6:=h_3.g (t:=6) rfl
 refine leave (v:=vI ((sgi l (i+1)).d)) h_3.df (by simp [results,Tryz.results79,go_sem,Array.getD_eq_getD_getElem?,s6]) ?_
 exact ⟨by unfold untS;rw [if_pos h],h_3.st.below⟩
 refine rf_ h_1 [[0],[0,1],[2],[2,3],r_ 5] [K_ (vN i),K_ (vI (((i:Nat):Int)+1)),K_ (.slice A0 l.length c0),K_ (vN l.length),K_ bF] (fun E2=>[(0,.slice A0 l.length c0),(1,vI day),(2,vN i),(6,vI 0),(11,bF)]) (hs:=c_ mv_<|c_ (bi0 (vN i) (vI 1))<|c_ mv_<|c_ (ln_ Tryz.underlying82 fun _ env _ wd hA=>(hl.grown hA.j.st.gr).els)<|c_ (bi0 (vI (((i:Nat):Int)+1)) (vN l.length))<|e_) (k:=fun E2 ac wd h_2=>?_)
 clear h_1
 refine then_n ?_
 refine wp_cond_false (eval_tmp (h_2.g (t:=11) rfl)) ?_
 refine wp_skip (then_n (wp_seq ?_))
 refine rf_ h_2 [[0],[0,1]] [K_ (vI day),K_ (vI day)] (fun E3=>[(6,vI day)]) (hs:=c_ mv_<|c_ mv_<|e_) (k:=fun E3 ac wd h_3=>?_)
 clear h_2
 refine then_n (wp_ret ?_)
 have s6:=h_3.g (t:=6) rfl
 refine leave (v:=vI day) h_3.df (by simp [results,Tryz.results79,go_sem,Array.getD_eq_getD_getElem?,s6]) ?_
 exact ⟨by unfold untS;rw [if_neg h],h_3.st.below⟩
theorem End_any (w0:World) (A0:Option Addr) (c0:Nat) (l:List Sg) (hl:SegU w0 (.slice A0 l.length c0) l) (day off:Int) (hL:LOk l day off) (i:Nat) (hi:i < 1000):Calls Tryz.prog 80 #[.slice A0 l.length c0,vI day,vI off,vI (((i:Nat):Int))] w0 fun e w'=>∃ v,e = .returned v∧Below w0.heap.size w0 w'∧BigN w0.heap.size w' v (endS l day off i):=by
 have y0:=hL.y0;have y1:=hL.y1;have o0:=hL.o0;have o1:=hL.o1
 have hst:=St.start w0 (Θ:=fun _=>True) (fun _ _=>trivial)
 refine enter Tryz.func80 rfl (n:=32) rfl (Nat.le_of_ble_eq_true rfl) hst (L:=[(0,.slice A0 l.length c0),(1,vI day),(2,vI off),(3,vI (((i:Nat):Int)))]) (lk_args rfl) (fun ac h=>?_)
 replace h:=h.facts
 refine wp_seq ?_
 refine rf_ h [[0]] [KE_ fun env=>vP (pb env 0) 0] (fun E1=>[(0,.slice A0 l.length c0),(1,vI day),(2,vI off),(3,vN i),(8,vP (pb E1 0) 0)]) (W:=[{ i:=0,T:=39,c0:=[bF,.slice none 0 0] }]) (M':=fun E1=>[((pb E1 0),39,[bF,.slice none 0 0])]) (hs:=c_ (al_ 0)<|e_) (k:=fun E1 ac wd h_1=>?_)
 clear h
 refine then_n (wp_seq (wp_seq ?_))
 by_cases h:i+1 < l.length
 have hs:=hL.seg (i+1) h;have h1:=hs.d0;have h2:=hs.d1;have hc:Cn (jn (sgi l (i+1)).d 0 0):=cn_jn (by omega) (by omega) (by omega) (by omega) (by omega) (by omega);unfold Cn at hc
 refine rf_ h_1 [[0],[0,1],[2],[2,3],r_ 5] [K_ (vN i),K_ (vI (((i:Nat):Int)+1)),K_ (.slice A0 l.length c0),K_ (vN l.length),K_ bT] (fun E2=>[(0,.slice A0 l.length c0),(1,vI day),(2,vI off),(3,vN i),(8,vP (pb E1 0) 0),(13,bT)]) (hs:=c_ mv_<|c_ (bi0 (vN i) (vI 1))<|c_ mv_<|c_ (ln_ Tryz.underlying82 fun _ env _ wd hA=>(hl.grown hA.j.st.gr).els)<|c_ (bi0 (vI (((i:Nat):Int)+1)) (vN l.length))<|e_) (k:=fun E2 ac wd h_2=>?_)
 clear h_1
 refine then_n ?_
 refine wp_cond_true (eval_tmp (h_2.g (t:=13) rfl)) ?_
 refine wp_seq ?_
 refine rf_ h_2 [[0],[1],[1,2],r_ 4,r_ 5,[5],[6],[6,7],[5,6,7,8],[5,6,7,8,9],[5,6,7,8,9,10],[5,6,7,8,9,10,11],[5,6,7,8,9,10,11,12],r_ 14,r_ 15] [K_ (.slice A0 l.length c0),K_ (vN i),K_ (vI (((i:Nat):Int)+1)),K_ (elt (.slice A0 l.length c0) ((i+1)*4)),K_ (vSg (sgi l (i+1))),K_ (.slice A0 l.length c0),K_ (vN i),K_ (vI (((i:Nat):Int)+1)),K_ (elt (.slice A0 l.length c0) ((i+1)*4)),K_ (elt (.slice A0 l.length c0) ((i+1)*4)),K_ (vI ((sgi l (i+1)).d)),K_ (vL ((sgi l (i+1)).d) 0 0),KE_ fun env=>bigF (jn ((sgi l (i+1)).d) 0 0) (env 12),KE_ fun env=>bigF (fS (sgi l (i+1)) (jn (sgi l (i+1)).d 0 0)) (env 13),none] (fun E3=>[(1,vI day),(2,vI off),(8,vP (pb E1 0) 0)]) (S:=[⟨0,14,fun env=>[.bool (decide (fS (sgi l (i+1)) (jn (sgi l (i+1)).d 0 0) < 0)),rS (fS (sgi l (i+1)) (jn (sgi l (i+1)).d 0 0)) ((bA (env 13))) ((bC (env 13)))]⟩]) (F:=[(12,fun env w=>BigN w0.heap.size w (env 12) (jn ((sgi l (i+1)).d) 0 0)),(13,fun env w=>BigN w0.heap.size w (env 13) (fS (sgi l (i+1)) (jn (sgi l (i+1)).d 0 0)))]) (L1:=fun E3=>[fun w=>BigN w0.heap.size w (E3 12) (jn ((sgi l (i+1)).d) 0 0),fun w=>BigN w0.heap.size w (E3 13) (fS (sgi l (i+1)) (jn (sgi l (i+1)).d 0 0))]) (M':=fun E3=>[((pb E1 0),39,[.bool (decide (fS (sgi l (i+1)) (jn (sgi l (i+1)).d 0 0) < 0)),rS (fS (sgi l (i+1)) (jn (sgi l (i+1)).d 0 0)) ((bA (E3 13))) ((bC (E3 13)))])]) (hs:=c_ mv_<|c_ mv_<|c_ (bi0 (vN i) (vI 1))<|c_ (ia_ Tryz.underlying82 sz128 (i+1) ((i+1)*4) (((i:Nat):Int)+1) (fun _ env _ wd hA=>(hl.grown hA.j.st.gr).els) (by omega) (by omega) rfl)<|c_ (le_ ((i+1)*4) (fun _ env _ wd hA=>(hl.grown hA.j.st.gr).els) (by omega) (le128 (by exact sgC_0 l (i+1)) (by exact sgC_1 l (i+1)) (by exact sgC_2 l (i+1)) (by exact sgC_3 l (i+1))))<|c_ mv_<|c_ mv_<|c_ (bi0 (vN i) (vI 1))<|c_ (ia_ Tryz.underlying82 sz128 (i+1) ((i+1)*4) (((i:Nat):Int)+1) (fun _ env _ wd hA=>(hl.grown hA.j.st.gr).els) (by omega) (by omega) rfl)<|c_ (s_fa rfl rfl rfl (fun _=>wanted_none rfl _) ((i+1)*4) 0 ((i+1)*4) rfl (s:=fun _=>.slice A0 l.length c0) rfl (fun _=>rfl) (fun {D env ac wd} hA=>(hl.grown hA.j.st.gr).els) (by omega) (fun b q w=>by simp [go_sem,Tryz.underlying128]))<|c_ (le_ ((i+1)*4) (fun _ env _ wd hA=>(hl.grown hA.j.st.gr).els) (by omega) (le3 (by exact sgC_0 l (i+1))))<|c_ (bd0 ([vI ((sgi l (i+1)).d)]))<|c_ (cb_ Tryz.func78 (jn ((sgi l (i+1)).d) 0 0) (h:=fun _ env _ wd hA=>⟨_,Join_any wd ((sgi l (i+1)).d) 0 0 (by omega) (by omega) (by omega) (by omega) (by omega) (by omega),rfl⟩))<|c_ (cb_ Tryz.func77 (fS (sgi l (i+1)) (jn (sgi l (i+1)).d 0 0)) (h:=fun _ env _ wd hA=>⟨_,F_any wd (sgi l (i+1)) hs _ (bA (env 12)) (bC (env 12)) (jn (sgi l (i+1)).d 0 0) rfl (At.bigN hA 12 rfl rfl rfl) (by omega) (by omega),rfl⟩))<|c_ (se_ 0 (hst:=by exact fun _ _ _ hc=>st39 rfl rfl rfl hc))<|e_) (k:=fun E3 ac wd h_3=>?_)
 clear h_2
 refine then_n (wp_ret (then_ret ?_))
 have s8:=h_3.g (t:=8) rfl
 have hc8:=(h_3.st.own 0 _ rfl).2
 have c8_0:=own_cell (o:=0) hc8 rfl
 have c8_1:=own_cell (o:=1) hc8 rfl
 refine leave (v:=bigF (fS (sgi l (i+1)) (jn (sgi l (i+1)).d 0 0)) (E3 13)) h_3.df (by simp [results,Tryz.results80,go_sem,Array.getD_eq_getD_getElem?,s8,c8_0,c8_1,Tryz.underlying39]) ?_
 exact ⟨_,rfl,h_3.st.below,BigN.eq (BigN.mk rfl rfl (Facts.bN h_3.st.now 1 rfl)) (by unfold endS;rw [if_pos h])⟩
 refine rf_ h_1 [[0],[0,1],[2],[2,3],r_ 5] [K_ (vN i),K_ (vI (((i:Nat):Int)+1)),K_ (.slice A0 l.length c0),K_ (vN l.length),K_ bF] (fun E2=>[(0,.slice A0 l.length c0),(1,vI day),(2,vI off),(3,vN i),(8,vP (pb E1 0) 0),(13,bF)]) (hs:=c_ mv_<|c_ (bi0 (vN i) (vI 1))<|c_ mv_<|c_ (ln_ Tryz.underlying82 fun _ env _ wd hA=>(hl.grown hA.j.st.gr).els)<|c_ (bi0 (vI (((i:Nat):Int)+1)) (vN l.length))<|e_) (k:=fun E2 ac wd h_2=>?_)
 clear h_1
 refine then_n ?_
 refine wp_cond_false (eval_tmp (h_2.g (t:=13) rfl)) ?_
 refine wp_skip (then_n (wp_seq ?_))
 refine rf_ h_2 [[0],[1],[0,1,2],r_ 4,r_ 5] [K_ (vI day),K_ (vI off),K_ (vL day off 0),KE_ fun env=>bigF (jn day off 0) (env 3),none] (fun E3=>[(8,vP (pb E1 0) 0)]) (S:=[⟨0,4,fun env=>[.bool (decide (jn day off 0 < 0)),rS (jn day off 0) ((bA (env 3))) ((bC (env 3)))]⟩]) (F:=[(3,fun env w=>BigN w0.heap.size w (env 3) (jn day off 0))]) (L1:=fun E3=>[fun w=>BigN w0.heap.size w (E3 3) (jn day off 0)]) (M':=fun E3=>[((pb E1 0),39,[.bool (decide (jn day off 0 < 0)),rS (jn day off 0) ((bA (E3 3))) ((bC (E3 3)))])]) (hs:=c_ mv_<|c_ mv_<|c_ (bd0 ([vI day,vI off]))<|c_ (cb_ Tryz.func78 (jn day off 0) (h:=fun _ env _ wd hA=>⟨_,Join_any wd day off 0 (by omega) (by omega) (by omega) (by omega) (by omega) (by omega),rfl⟩))<|c_ (se_ 0 (hst:=by exact fun _ _ _ hc=>st39 rfl rfl rfl hc))<|e_) (k:=fun E3 ac wd h_3=>?_)
 clear h_2
 refine then_n (wp_ret ?_)
 have s8:=h_3.g (t:=8) rfl
 have hc8:=(h_3.st.own 0 _ rfl).2
 have c8_0:=own_cell (o:=0) hc8 rfl
 have c8_1:=own_cell (o:=1) hc8 rfl
 refine leave (v:=bigF (jn day off 0) (E3 3)) h_3.df (by simp [results,Tryz.results80,go_sem,Array.getD_eq_getD_getElem?,s8,c8_0,c8_1,Tryz.underlying39]) ?_
 exact ⟨_,rfl,h_3.st.below,BigN.eq (BigN.mk rfl rfl (Facts.bN h_3.st.now 0 rfl)) (by unfold endS;rw [if_neg h])⟩
end Go.Proofs.YtdfkghpgekmmlaaGreat
namespace Go.Proofs.YtdfkghpgekmmlaaGreat
open Go.RowKit
attribute [local go_sem] vN bT bF rS vSg vW vM vL vT2 vT3 vP vI execOp Act.eval evC bigF vB hi_zero lo_zero Tryz.underlying128 Tryz.underlying39
theorem cmpZ_le {x y:Int}:cmpZ x y≤0↔x≤y:=by unfold cmpZ;split <;> (try split) <;> omega
theorem cmpZ_lt {x y:Int}:cmpZ x y < 0↔x < y:=by unfold cmpZ;split <;> (try split) <;> omega
theorem cmpZ_ge {x y:Int}:0≤cmpZ x y↔y≤x:=by unfold cmpZ;split <;> (try split) <;> omega
theorem cmpZ_gt {x y:Int}:0 < cmpZ x y↔y < x:=by unfold cmpZ;split <;> (try split) <;> omega
theorem pow2_le {a b:Nat} (h:a≤b):(2:Int) ^ a≤2 ^ b:=by
 have:=Nat.pow_le_pow_right (n:=2) (by omega) h
 exact_mod_cast this
theorem greatest_any (w0:World) (s:Sg) (hs:SgOk s) (p:Bool) (A0:Option Addr) (c0:Nat) (t:Int) (hp:p=decide (t < 0)) (hr:Row w0 (.slice A0 (digs t).length c0) (digs t)) (ht0:-110000000000000000000000000000≤t) (ht1:t≤110000000000000000000000000000):Calls Tryz.prog 89 #[vSg s,.agg #[.bool (p),.slice A0 ((digs t).length) c0]] w0 fun e w'=>∃ v,e = .returned v∧Below w0.heap.size w0 w'∧BigN w0.heap.size w' v (gS s t):=by
 have hG:=gS_bd hs ht0 ht1
 have hst:=St.start w0 (Θ:=fun _=>True) (fun _ _=>trivial)
 refine enter Tryz.func89 rfl (n:=27) rfl (Nat.le_of_ble_eq_true rfl) hst (L:=[(0,vSg s),(1,.agg #[.bool (p),.slice A0 ((digs t).length) c0])]) (lk_args rfl) (fun ac h=>?_)
 replace h:=h.facts
 refine wp_seq ?_
 refine rf_ h [[0],[1],[2]] [KE_ fun env=>vP (pb env 0) 0,KE_ fun env=>vP (pb env 1) 0,KE_ fun env=>vP (pb env 2) 0] (fun E1=>[(2,vP (pb E1 0) 0),(3,vP (pb E1 1) 0),(4,vP (pb E1 2) 0)]) (W:=[{ i:=0,T:=128,c0:=[vI (s.d),vI (s.b),vI (s.f),vI (s.r)] },{ i:=1,T:=39,c0:=[.bool (p),rS t A0 c0] },{ i:=2,T:=39,c0:=[bF,.slice none 0 0] }]) (M':=fun E1=>[((pb E1 0),128,[vI (s.d),vI (s.b),vI (s.f),vI (s.r)]),((pb E1 1),39,[.bool (p),rS t A0 c0]),((pb E1 2),39,[bF,.slice none 0 0])]) (hs:=c_ (bx0 0 (vSg s))<|c_ (bx0 1 (.agg #[.bool (p),rS t A0 c0]))<|c_ (al_ 2)<|e_) (k:=fun E1 ac wd h_1=>?_)
 clear h
 refine then_n (wp_seq ?_)
 refine rf_ h_1 [[0],[1],[0,1,2],[3],r_ 5] [K_ (.agg #[.bool (p),rS t A0 c0]),KE_ fun env=>bigF ((2:Int) ^ (80:Nat)) (env 1),KE_ fun env=>bigF (t-(2:Int) ^ (80:Nat)) (env 2),KE_ fun env=>vP (pb env 3) 0,none] (fun E2=>[(2,vP (pb E1 0) 0),(3,vP (pb E1 1) 0),(4,vP (pb E1 2) 0),(5,vP (pb E2 3) 0)]) (W:=[{ i:=3,T:=39,c0:=[bF,.slice none 0 0],s:=some 4,c1:=fun env=>[.bool (decide (t-(2:Int) ^ (80:Nat) < 0)),rS (t-(2:Int) ^ (80:Nat)) ((bA (env 2))) ((bC (env 2)))] }]) (F:=[(1,fun env w=>BigN w0.heap.size w (env 1) ((2:Int) ^ (80:Nat))),(2,fun env w=>BigN w0.heap.size w (env 2) (t-(2:Int) ^ (80:Nat)))]) (L1:=fun E2=>[fun w=>BigN w0.heap.size w (E2 1) ((2:Int) ^ (80:Nat)),fun w=>BigN w0.heap.size w (E2 2) (t-(2:Int) ^ (80:Nat))]) (M':=fun E2=>[((pb E1 0),128,[vI (s.d),vI (s.b),vI (s.f),vI (s.r)]),((pb E1 1),39,[.bool (p),rS t A0 c0]),((pb E1 2),39,[bF,.slice none 0 0]),((pb E2 3),39,[.bool (decide (t-(2:Int) ^ (80:Nat) < 0)),rS (t-(2:Int) ^ (80:Nat)) ((bA (E2 2))) ((bC (E2 2)))])]) (hs:=c_ (ld_ 1 (hrd:=by exact rd39 rfl rfl))<|c_ (cb_ Tryz.func53 ((2:Int) ^ (80:Nat)) (h:=fun _ env _ wd hA=>⟨_,Pow2_any wd 80 (by omega),rfl⟩))<|c_ (cb_ Tryz.func22 (t-(2:Int) ^ (80:Nat)) (h:=fun _ env _ wd hA=>⟨_,Sub_any wd p A0 c0 t hp (hr.grown hA.j.st.gr) (by unfold Sm;omega) (decide ((2:Int) ^ (80:Nat) < 0)) (bA (env 1)) (bC (env 1)) ((2:Int) ^ (80:Nat)) rfl (At.bigN hA 1 rfl rfl rfl) (by unfold Sm;omega),rfl⟩))<|c_ (al_ 3)<|c_ (sw_ 3 3 (hst:=by exact fun _ _ _ hc=>st39 rfl rfl rfl hc))<|e_) (k:=fun E2 ac wd h_2=>?_)
 clear h_1
 refine then_n (wp_seq (wp_seq ?_))
 refine rf_ h_2 [[0]] [K_ (vI 80)] (fun E3=>[(2,vP (pb E1 0) 0),(3,vP (pb E1 1) 0),(4,vP (pb E1 2) 0),(5,vP (pb E2 3) 0),(6,vI 80)]) (hs:=c_ mv_<|e_) (k:=fun E3 ac wd h_3=>?_)
 clear h_2
 refine then_n (wp_block ?_)
 refine wp_loop (fun ac wd=>∃ (lv:Value) (low:Int) (m:Nat) (z:Int),(m≤81∧z=(m:Int)-1∧low≤gS s t∧gS s t < low+2 ^ m ∧ -300000000000000000000000000000≤low)∧Cur 27 w0 none none (Facts [fun w=>BigN w0.heap.size w lv low]) (fun _=>True) [(2,vP (pb E1 0) 0),(3,vP (pb E1 1) 0),(4,vP (pb E1 2) 0),(5,vP (pb E2 3) 0),(6,vI z)] [((pb E1 0),128,[vI (s.d),vI (s.b),vI (s.f),vI (s.r)]),((pb E1 1),39,[.bool (p),rS t A0 c0]),((pb E1 2),39,[bF,.slice none 0 0]),((pb E2 3),39,[.bool (decide (low < 0)),rS low ((bA lv)) ((bC lv))])] ac wd) (fun ac _=>(sI ac 6+1).toNat) ⟨(E2 2),_,81,80,⟨by omega,by omega,by omega,by omega,by omega⟩,(h_3.sel [1] rfl).re rfl⟩ ?_
 rintro ac wd ⟨lv,low,m,z,⟨hm,hz,hl1,hl2,hl3⟩,h_4⟩
 clear h_3
 have hmu:sI ac 6=z:=sI_eq (h_4.g (t:=6) rfl)
 refine wp_seq (wp_seq ?_)
 rcases Nat.eq_zero_or_pos m with h0 | h0
 subst h0
 refine rf_ h_4 [[0],[0,1]] [K_ (vI z),K_ bF] (fun E5=>[(2,vP (pb E1 0) 0),(3,vP (pb E1 1) 0),(4,vP (pb E1 2) 0),(5,vP (pb E2 3) 0),(6,vI z),(11,vI z),(12,bF)]) (hs:=c_ mv_<|c_ (bi0 (vI z) (vI 0))<|e_) (k:=fun E5 ac wd h_5=>?_)
 clear h_4
 refine then_n ?_
 refine wp_cond_false (eval_tmp (h_5.g (t:=12) rfl)) ?_
 refine wp_exit (then_e (then_e (blk_x (then_n (wp_seq ?_)))))
 refine rf_ h_5 [[0],[0,1]] [K_ (bigF low lv),none] (fun E6=>[(4,vP (pb E1 2) 0)]) (S:=[⟨2,1,fun _=>[.bool (decide (low < 0)),rS low ((bA lv)) ((bC lv))]⟩]) (M':=fun E6=>[((pb E1 0),128,[vI (s.d),vI (s.b),vI (s.f),vI (s.r)]),((pb E1 1),39,[.bool (p),rS t A0 c0]),((pb E1 2),39,[.bool (decide (low < 0)),rS low ((bA lv)) ((bC lv))]),((pb E2 3),39,[.bool (decide (low < 0)),rS low ((bA lv)) ((bC lv))])]) (hs:=c_ (ld_ 3 (hrd:=by exact rd39 rfl rfl))<|c_ (se_ 2 (hst:=by exact fun _ _ _ hc=>st39 rfl rfl rfl hc))<|e_) (k:=fun E6 ac wd h_6=>?_)
 clear h_5
 refine then_n (wp_ret ?_)
 have s4:=h_6.g (t:=4) rfl
 have hc4:=(h_6.st.own 2 _ rfl).2
 have c4_0:=own_cell (o:=0) hc4 rfl
 have c4_1:=own_cell (o:=1) hc4 rfl
 refine leave (v:=bigF low lv) h_6.df (by simp [results,Tryz.results89,go_sem,Array.getD_eq_getD_getElem?,s4,c4_0,c4_1,Tryz.underlying39]) ?_
 exact ⟨_,rfl,h_6.st.below,BigN.eq (BigN.mk rfl rfl (Facts.bN h_6.st.now 0 rfl)) (by simp at hl2;omega)⟩
 obtain ⟨j,rfl⟩:∃ j,m=j+1:=⟨m-1,by omega⟩;obtain rfl:z=((j:Nat):Int):=(by omega);have hj0:(0:Int) < 2 ^ j:=Int.pow_pos (by omega);have hj1:(2:Int) ^ j≤2 ^ 80:=pow2_le (by omega);have hj2:(2:Int) ^ (j+1)=2 ^ j*2:=Int.pow_succ _ _
 refine rf_ h_4 [[0],[0,1]] [K_ (vN j),K_ bT] (fun E5=>[(2,vP (pb E1 0) 0),(3,vP (pb E1 1) 0),(4,vP (pb E1 2) 0),(5,vP (pb E2 3) 0),(6,vN j),(11,vN j),(12,bT)]) (hs:=c_ mv_<|c_ (bi0 (vN j) (vI 0))<|e_) (k:=fun E5 ac wd h_5=>?_)
 clear h_4
 refine then_n ?_
 refine wp_cond_true (eval_tmp (h_5.g (t:=12) rfl)) ?_
 refine wp_skip (then_n (wp_seq (wp_block (wp_seq ?_))))
 refine rf_ h_5 [[0],[1],[1,2],r_ 4,[4],r_ 6] [K_ (bigF low lv),K_ (vN j),KE_ fun env=>bigF ((2:Int) ^ (j:Nat)) (env 2),KE_ fun env=>bigF (low+(2:Int) ^ (j:Nat)) (env 3),KE_ fun env=>vP (pb env 4) 0,none] (fun E6=>[(2,vP (pb E1 0) 0),(3,vP (pb E1 1) 0),(4,vP (pb E1 2) 0),(5,vP (pb E2 3) 0),(6,vN j),(7,vP (pb E6 4) 0),(11,vN j),(12,bT),(15,bigF low lv),(16,vN j),(17,bigF ((2:Int) ^ (j:Nat)) (E6 2)),(18,bigF (low+(2:Int) ^ (j:Nat)) (E6 3))]) (W:=[{ i:=4,T:=39,c0:=[bF,.slice none 0 0],s:=some 5,c1:=fun env=>[.bool (decide (low+(2:Int) ^ (j:Nat) < 0)),rS (low+(2:Int) ^ (j:Nat)) ((bA (env 3))) ((bC (env 3)))] }]) (F:=[(2,fun env w=>BigN w0.heap.size w (env 2) ((2:Int) ^ (j:Nat))),(3,fun env w=>BigN w0.heap.size w (env 3) (low+(2:Int) ^ (j:Nat)))]) (L1:=fun E6=>[fun w=>BigN w0.heap.size w lv low,fun w=>BigN w0.heap.size w (E6 2) ((2:Int) ^ (j:Nat)),fun w=>BigN w0.heap.size w (E6 3) (low+(2:Int) ^ (j:Nat))]) (M':=fun E6=>[((pb E1 0),128,[vI (s.d),vI (s.b),vI (s.f),vI (s.r)]),((pb E1 1),39,[.bool (p),rS t A0 c0]),((pb E1 2),39,[bF,.slice none 0 0]),((pb E2 3),39,[.bool (decide (low < 0)),rS low ((bA lv)) ((bC lv))]),((pb E6 4),39,[.bool (decide (low+(2:Int) ^ (j:Nat) < 0)),rS (low+(2:Int) ^ (j:Nat)) ((bA (E6 3))) ((bC (E6 3)))])]) (hs:=c_ (ld_ 3 (hrd:=by exact rd39 rfl rfl))<|c_ mv_<|c_ (cb_ Tryz.func53 ((2:Int) ^ (j:Nat)) (h:=fun _ env _ wd hA=>⟨_,Pow2_any wd j (by omega),rfl⟩))<|c_ (cb_ Tryz.func51 (low+(2:Int) ^ (j:Nat)) (h:=fun _ env _ wd hA=>⟨_,Add_any wd (decide (low < 0)) (bA lv) (bC lv) low rfl (Facts.bigN (hA.j.st.now).1 0 rfl) (by unfold Sm;omega) (decide ((2:Int) ^ (j:Nat) < 0)) (bA (env 2)) (bC (env 2)) ((2:Int) ^ (j:Nat)) rfl (At.bigN hA 2 rfl rfl rfl) (by unfold Sm;omega),rfl⟩))<|c_ (al_ 4)<|c_ (sw_ 4 4 (hst:=by exact fun _ _ _ hc=>st39 rfl rfl rfl hc))<|e_) (k:=fun E6 ac wd h_6=>?_)
 clear h_5
 refine then_n (wp_seq ?_)
 by_cases hV:fS s (low+2 ^ j)≤t
 have hV2:=(gS_spec hs t _).1 hV
 refine rf_ h_6 [[0],[1],[0,1,2],[3],r_ 5,r_ 6] [K_ (vSg s),K_ (bigF (low+(2:Int) ^ (j:Nat)) (E6 3)),KE_ fun env=>bigF (fS s (low+(2:Int) ^ (j:Nat))) (env 2),K_ (.agg #[.bool (p),rS t A0 c0]),K_ (vI (cmpZ (fS s (low+(2:Int) ^ (j:Nat))) t)),K_ bT] (fun E7=>[(2,vP (pb E1 0) 0),(3,vP (pb E1 1) 0),(4,vP (pb E1 2) 0),(5,vP (pb E2 3) 0),(6,vN j),(7,vP (pb E6 4) 0),(11,vN j),(12,bT),(15,bigF low lv),(16,vN j),(17,bigF ((2:Int) ^ (j:Nat)) (E6 2)),(18,bigF (low+(2:Int) ^ (j:Nat)) (E6 3)),(19,vSg s),(20,bigF (low+(2:Int) ^ (j:Nat)) (E6 3)),(21,bigF (fS s (low+(2:Int) ^ (j:Nat))) (E7 2)),(22,.agg #[.bool (p),rS t A0 c0]),(23,vI (cmpZ (fS s (low+(2:Int) ^ (j:Nat))) t)),(24,bT)]) (F:=[(2,fun env w=>BigN w0.heap.size w (env 2) (fS s (low+(2:Int) ^ (j:Nat))))]) (L1:=fun E7=>[fun w=>BigN w0.heap.size w lv low,fun w=>BigN w0.heap.size w (E6 2) ((2:Int) ^ (j:Nat)),fun w=>BigN w0.heap.size w (E6 3) (low+(2:Int) ^ (j:Nat)),fun w=>BigN w0.heap.size w (E7 2) (fS s (low+(2:Int) ^ (j:Nat)))]) (hs:=c_ (ld_ 0 (hrd:=by exact rd128 rfl rfl rfl rfl))<|c_ (ld_ 4 (hrd:=by exact rd39 rfl rfl))<|c_ (cb_ Tryz.func77 (fS s (low+(2:Int) ^ (j:Nat))) (h:=fun _ env _ wd hA=>⟨_,F_any wd s hs _ (bA (E6 3)) (bC (E6 3)) (low+(2:Int) ^ (j:Nat)) rfl (Facts.bigN (hA.j.st.now).1 2 rfl) (by omega) (by omega),rfl⟩))<|c_ (ld_ 1 (hrd:=by exact rd39 rfl rfl))<|c_ (cw_ Tryz.func50 (h:=fun _ env _ wd hA=>⟨_,Cmp_any wd (decide (fS s (low+(2:Int) ^ (j:Nat)) < 0)) (bA (env 2)) (bC (env 2)) (fS s (low+(2:Int) ^ (j:Nat))) rfl (At.bigN hA 2 rfl rfl rfl)  p A0 c0 t hp (hr.grown hA.j.st.gr) ,rfl⟩))<|c_ (bi0 (vI (cmpZ (fS s (low+(2:Int) ^ (j:Nat))) t)) (vI 0) (h:=by intro env w;simp [go_sem,cmpZ_le,cmpZ_lt,cmpZ_ge,cmpZ_gt,hV]))<|e_) (k:=fun E7 ac wd h_7=>?_)
 clear h_6
 refine then_n ?_
 refine wp_cond_true (eval_tmp (h_7.g (t:=24) rfl)) ?_
 refine rf_ h_7 [[0],[0,1]] [K_ (bigF (low+(2:Int) ^ (j:Nat)) (E6 3)),none] (fun E8=>[(2,vP (pb E1 0) 0),(3,vP (pb E1 1) 0),(4,vP (pb E1 2) 0),(5,vP (pb E2 3) 0),(6,vN j),(7,vP (pb E6 4) 0),(11,vN j),(12,bT),(15,bigF low lv),(16,vN j),(17,bigF ((2:Int) ^ (j:Nat)) (E6 2)),(18,bigF (low+(2:Int) ^ (j:Nat)) (E6 3)),(19,vSg s),(20,bigF (low+(2:Int) ^ (j:Nat)) (E6 3)),(21,bigF (fS s (low+(2:Int) ^ (j:Nat))) (E7 2)),(22,.agg #[.bool (p),rS t A0 c0]),(23,vI (cmpZ (fS s (low+(2:Int) ^ (j:Nat))) t)),(24,bT),(25,bigF (low+(2:Int) ^ (j:Nat)) (E6 3))]) (S:=[⟨3,1,fun _=>[.bool (decide (low+(2:Int) ^ (j:Nat) < 0)),rS (low+(2:Int) ^ (j:Nat)) ((bA (E6 3))) ((bC (E6 3)))]⟩]) (M':=fun E8=>[((pb E1 0),128,[vI (s.d),vI (s.b),vI (s.f),vI (s.r)]),((pb E1 1),39,[.bool (p),rS t A0 c0]),((pb E1 2),39,[bF,.slice none 0 0]),((pb E2 3),39,[.bool (decide (low+(2:Int) ^ (j:Nat) < 0)),rS (low+(2:Int) ^ (j:Nat)) ((bA (E6 3))) ((bC (E6 3)))]),((pb E6 4),39,[.bool (decide (low+(2:Int) ^ (j:Nat) < 0)),rS (low+(2:Int) ^ (j:Nat)) ((bA (E6 3))) ((bC (E6 3)))])]) (hs:=c_ (ld_ 4 (hrd:=by exact rd39 rfl rfl))<|c_ (se_ 3 (hst:=by exact fun _ _ _ hc=>st39 rfl rfl rfl hc))<|e_) (k:=fun E8 ac wd h_8=>?_)
 clear h_7
 refine blk_n (then_n ?_)
 refine rf_ h_8 (tri 3) [K_ (vN j),K_ (vI (((j:Nat):Int)-1)),K_ (vI (((j:Nat):Int)-1))] (fun E9=>[(2,vP (pb E1 0) 0),(3,vP (pb E1 1) 0),(4,vP (pb E1 2) 0),(5,vP (pb E2 3) 0),(6,vI (((j:Nat):Int)-1)),(7,vP (pb E6 4) 0),(11,vN j),(12,bT),(13,vN j),(14,vI (((j:Nat):Int)-1)),(15,bigF low lv),(16,vN j),(17,bigF ((2:Int) ^ (j:Nat)) (E6 2)),(18,bigF (low+(2:Int) ^ (j:Nat)) (E6 3)),(19,vSg s),(20,bigF (low+(2:Int) ^ (j:Nat)) (E6 3)),(21,bigF (fS s (low+(2:Int) ^ (j:Nat))) (E7 2)),(22,.agg #[.bool (p),rS t A0 c0]),(23,vI (cmpZ (fS s (low+(2:Int) ^ (j:Nat))) t)),(24,bT),(25,bigF (low+(2:Int) ^ (j:Nat)) (E6 3))]) (hs:=c_ mv_<|c_ (bi0 (vN j) (vI 1))<|c_ mv_<|e_) (k:=fun E9 ac wd h_9=>?_)
 clear h_8
 refine then_n ?_
 exact ⟨⟨(E6 3),(low+2 ^ j),j,_,⟨by omega,rfl,by omega,by omega,by omega⟩,((h_9.take (M1:=[_,_,_,_]) rfl).sel [2] rfl).re rfl⟩,by rw [sI_eq (h_9.g (t:=6) rfl),hmu];omega⟩
 have hV2:=fun h=>hV ((gS_spec hs t _).2 h)
 refine rf_ h_6 [[0],[1],[0,1,2],[3],r_ 5,r_ 6] [K_ (vSg s),K_ (bigF (low+(2:Int) ^ (j:Nat)) (E6 3)),KE_ fun env=>bigF (fS s (low+(2:Int) ^ (j:Nat))) (env 2),K_ (.agg #[.bool (p),rS t A0 c0]),K_ (vI (cmpZ (fS s (low+(2:Int) ^ (j:Nat))) t)),K_ bF] (fun E7=>[(2,vP (pb E1 0) 0),(3,vP (pb E1 1) 0),(4,vP (pb E1 2) 0),(5,vP (pb E2 3) 0),(6,vN j),(7,vP (pb E6 4) 0),(11,vN j),(12,bT),(15,bigF low lv),(16,vN j),(17,bigF ((2:Int) ^ (j:Nat)) (E6 2)),(18,bigF (low+(2:Int) ^ (j:Nat)) (E6 3)),(19,vSg s),(20,bigF (low+(2:Int) ^ (j:Nat)) (E6 3)),(21,bigF (fS s (low+(2:Int) ^ (j:Nat))) (E7 2)),(22,.agg #[.bool (p),rS t A0 c0]),(23,vI (cmpZ (fS s (low+(2:Int) ^ (j:Nat))) t)),(24,bF)]) (F:=[(2,fun env w=>BigN w0.heap.size w (env 2) (fS s (low+(2:Int) ^ (j:Nat))))]) (L1:=fun E7=>[fun w=>BigN w0.heap.size w lv low,fun w=>BigN w0.heap.size w (E6 2) ((2:Int) ^ (j:Nat)),fun w=>BigN w0.heap.size w (E6 3) (low+(2:Int) ^ (j:Nat)),fun w=>BigN w0.heap.size w (E7 2) (fS s (low+(2:Int) ^ (j:Nat)))]) (hs:=c_ (ld_ 0 (hrd:=by exact rd128 rfl rfl rfl rfl))<|c_ (ld_ 4 (hrd:=by exact rd39 rfl rfl))<|c_ (cb_ Tryz.func77 (fS s (low+(2:Int) ^ (j:Nat))) (h:=fun _ env _ wd hA=>⟨_,F_any wd s hs _ (bA (E6 3)) (bC (E6 3)) (low+(2:Int) ^ (j:Nat)) rfl (Facts.bigN (hA.j.st.now).1 2 rfl) (by omega) (by omega),rfl⟩))<|c_ (ld_ 1 (hrd:=by exact rd39 rfl rfl))<|c_ (cw_ Tryz.func50 (h:=fun _ env _ wd hA=>⟨_,Cmp_any wd (decide (fS s (low+(2:Int) ^ (j:Nat)) < 0)) (bA (env 2)) (bC (env 2)) (fS s (low+(2:Int) ^ (j:Nat))) rfl (At.bigN hA 2 rfl rfl rfl)  p A0 c0 t hp (hr.grown hA.j.st.gr) ,rfl⟩))<|c_ (bi0 (vI (cmpZ (fS s (low+(2:Int) ^ (j:Nat))) t)) (vI 0) (h:=by intro env w;simp [go_sem,cmpZ_le,cmpZ_lt,cmpZ_ge,cmpZ_gt,hV]))<|e_) (k:=fun E7 ac wd h_7=>?_)
 clear h_6
 refine then_n ?_
 refine wp_cond_false (eval_tmp (h_7.g (t:=24) rfl)) ?_
 refine wp_skip (blk_n (then_n ?_))
 refine rf_ h_7 (tri 3) [K_ (vN j),K_ (vI (((j:Nat):Int)-1)),K_ (vI (((j:Nat):Int)-1))] (fun E8=>[(2,vP (pb E1 0) 0),(3,vP (pb E1 1) 0),(4,vP (pb E1 2) 0),(5,vP (pb E2 3) 0),(6,vI (((j:Nat):Int)-1)),(7,vP (pb E6 4) 0),(11,vN j),(12,bT),(13,vN j),(14,vI (((j:Nat):Int)-1)),(15,bigF low lv),(16,vN j),(17,bigF ((2:Int) ^ (j:Nat)) (E6 2)),(18,bigF (low+(2:Int) ^ (j:Nat)) (E6 3)),(19,vSg s),(20,bigF (low+(2:Int) ^ (j:Nat)) (E6 3)),(21,bigF (fS s (low+(2:Int) ^ (j:Nat))) (E7 2)),(22,.agg #[.bool (p),rS t A0 c0]),(23,vI (cmpZ (fS s (low+(2:Int) ^ (j:Nat))) t)),(24,bF)]) (hs:=c_ mv_<|c_ (bi0 (vN j) (vI 1))<|c_ mv_<|e_) (k:=fun E8 ac wd h_8=>?_)
 clear h_7
 refine then_n ?_
 exact ⟨⟨lv,low,j,_,⟨by omega,rfl,by omega,by have:¬ low+2 ^ j≤gS s t:=hV2;omega,by omega⟩,((h_8.take (M1:=[_,_,_,_]) rfl).sel [0] rfl).re rfl⟩,by rw [sI_eq (h_8.g (t:=6) rfl),hmu];omega⟩
end Go.Proofs.YtdfkghpgekmmlaaGreat
namespace Go.Proofs.YtdfkghpgekmmlaaGreat
open Go.RowKit
attribute [local go_sem] vN bT bF rS vSg vW vM vL vT2 vT3 vP vI execOp Act.eval evC bigF vB hi_zero lo_zero Tryz.underlying26 Tryz.underlying39
theorem BigN.nil {B:Nat} {w:World} {z:Int} (h:z=0):BigN B w (.agg #[.bool false,.slice none 0 0]) z:=by
 subst h
 exact ⟨none,0,by simp [vB,digs_zero],by rw [digs_zero];exact ⟨⟨none,0,rfl,Nat.le_refl _,by simp,.inl rfl⟩,fun b h=>by cases h⟩⟩
theorem begS_bd {l:List Sg} {day off:Int} (h:LOk l day off) {i:Nat} (hi:i < l.length):-100000000000000000000000000000≤begS l i∧begS l i≤100000000000000000000000000000:=by
 have hs:=h.seg i hi
 have h0:=hs.d0;have h1:=hs.d1
 have h2:Cn (jn (sgi l i).d 0 0):=cn_jn (by omega) (by omega) (by omega) (by omega) (by omega) (by omega)
 have h3:=fS_bd hs h2
 unfold begS
 unfold jn at *;omega
theorem lab_early {l:List Sg} {day off t:Int} (h:t < begS l 0):labE l day off t=8∧labD l day off t=0∧labS l day off t=0∧labA l day off t=0:=by
 have e:labE l day off t=8:=by unfold labE;rw [if_pos h]
 unfold labD labS labA
 rw [e]
 exact ⟨rfl,rfl,rfl,rfl⟩
theorem lab_late {l:List Sg} {day off t:Int} (h:¬ t < begS l 0) (h2:∀ j,j < l.length→endS l day off j≤t):labE l day off t=9∧labD l day off t=0∧labS l day off t=0∧labA l day off t=0:=by
 have e0:iS l day off t=l.length:=fst1_none (fun j hj=>decide_eq_false (by have:=h2 j hj;omega))
 have e:labE l day off t=9:=by unfold labE;rw [if_neg h,e0,if_neg (by omega)]
 unfold labD labS labA
 rw [e]
 exact ⟨rfl,rfl,rfl,rfl⟩
theorem lab_in {l:List Sg} {day off t:Int} {i:Nat} (h:¬ t < begS l 0) (hi:i < l.length) (h2:∀ j,j < i→endS l day off j≤t) (h3:t < endS l day off i):labE l day off t=0∧labD l day off t=lblD (untS l day i) (gS (sgi l i) t)∧labS l day off t=lblS (untS l day i) (gS (sgi l i) t)∧labA l day off t=splA (gS (sgi l i) t):=by
 have e0:iS l day off t=i:=fst1_eq hi (fun j hj=>decide_eq_false (by have:=h2 j hj;omega)) (decide_eq_true h3)
 have e:labE l day off t=0:=by unfold labE;rw [if_neg h,e0,if_pos hi]
 unfold labD labS labA labU
 rw [if_pos e,if_pos e,if_pos e,e0]
 exact ⟨e,rfl,rfl,rfl⟩
theorem rLabel_any (w0:World) (A0:Option Addr) (c0:Nat) (l:List Sg) (hl:SegU w0 (.slice A0 l.length c0) l) (day off:Int) (hL:LOk l day off) (p:Bool) (B0:Option Addr) (k0:Nat) (t:Int) (hp:p=decide (t < 0)) (hr:Row w0 (.slice B0 (digs t).length k0) (digs t)):Calls Tryz.prog 57 #[.slice A0 l.length c0,vI day,vI off,.agg #[.bool (p),.slice B0 ((digs t).length) k0]] w0 fun e w'=>e = .returned (vT2 (vL (labD l day off t) (labS l day off t) (labA l day off t)) (vI (labE l day off t)))∧Below w0.heap.size w0 w':=by
  have n0:=hL.n0;have n1:=hL.n1;have y0:=hL.y0;have y1:=hL.y1;have o0:=hL.o0;have o1:=hL.o1;have hs:=hL.seg 0 n0;have f0:=hs.d0;have f1:=hs.d1
  have hst:=St.start w0 (Θ:=fun _=>True) (fun _ _=>trivial)
  refine enter Tryz.func57 rfl (n:=68) rfl (Nat.le_of_ble_eq_true rfl) hst (L:=[(0,.slice A0 l.length c0),(1,vI day),(2,vI off),(3,.agg #[.bool (p),.slice B0 ((digs t).length) k0])]) (lk_args rfl) (fun ac h=>?_)
  replace h:=h.facts
  refine wp_seq ?_
  refine rf_ h [[0],[1],[2]] [KE_ fun env=>vP (pb env 0) 0,KE_ fun env=>vP (pb env 1) 0,K_ (vI 0)] (fun E1=>[(0,.slice A0 l.length c0),(1,vI day),(2,vI off),(7,vP (pb E1 0) 0),(8,vP (pb E1 1) 0),(9,vI 0)]) (W:=[{ i:=0,T:=39,c0:=[.bool (p),rS t B0 k0] },{ i:=1,T:=26,c0:=[vI 0,vI 0,vI 0] }]) (M':=fun E1=>[((pb E1 0),39,[.bool (p),rS t B0 k0]),((pb E1 1),26,[vI 0,vI 0,vI 0])]) (hs:=c_ (bx0 0 (.agg #[.bool (p),rS t B0 k0]))<|c_ (al_ 1)<|c_ mv_<|e_) (k:=fun E1 ac wd h_1=>?_)
  clear h
  refine then_n (wp_seq (wp_seq ?_))
  by_cases g1:t < begS l 0
  refine rf_ h_1 [[0],[1],[1,2],[1,2,3],[4],[4,5],[4,5,6],[4,5,6,7],[4,5,6,7,8],[4,5,6,7,8,9],[1,2,3,4,5,6,7,8,9,10],r_ 12,r_ 13] [K_ (.agg #[.bool (p),rS t B0 k0]),K_ (.slice A0 l.length c0),K_ (elt (.slice A0 l.length c0) (0*4)),K_ (vSg (sgi l 0)),K_ (.slice A0 l.length c0),K_ (elt (.slice A0 l.length c0) (0*4)),K_ (elt (.slice A0 l.length c0) (0*4)),K_ (vI ((sgi l 0).d)),K_ (vL ((sgi l 0).d) 0 0),KE_ fun env=>bigF (jn ((sgi l 0).d) 0 0) (env 9),KE_ fun env=>bigF (fS (sgi l 0) (jn ((sgi l 0).d) 0 0)) (env 10),K_ (vI (cmpZ t (fS (sgi l 0) (jn ((sgi l 0).d) 0 0)))),K_ bT] (fun E2=>[(0,.slice A0 l.length c0),(1,vI day),(2,vI off),(7,vP (pb E1 0) 0),(8,vP (pb E1 1) 0),(9,vI 0),(25,bT)]) (F:=[(9,fun env w=>BigN w0.heap.size w (env 9) (jn ((sgi l 0).d) 0 0)),(10,fun env w=>BigN w0.heap.size w (env 10) (fS (sgi l 0) (jn ((sgi l 0).d) 0 0)))]) (L1:=fun E2=>[fun w=>BigN w0.heap.size w (E2 9) (jn ((sgi l 0).d) 0 0),fun w=>BigN w0.heap.size w (E2 10) (fS (sgi l 0) (jn ((sgi l 0).d) 0 0))]) (hs:=c_ (ld_ 0 (hrd:=by exact rd39 rfl rfl))<|c_ mv_<|c_ (ia_ Tryz.underlying82 sz128 0 (0*4) 0 (fun _ env _ wd hA=>(hl.grown hA.j.st.gr).els) (rfl) (by omega) rfl)<|c_ (le_ (0*4) (fun _ env _ wd hA=>(hl.grown hA.j.st.gr).els) (by omega) (le128 (by exact sgC_0 l 0) (by exact sgC_1 l 0) (by exact sgC_2 l 0) (by exact sgC_3 l 0)))<|c_ mv_<|c_ (ia_ Tryz.underlying82 sz128 0 (0*4) 0 (fun _ env _ wd hA=>(hl.grown hA.j.st.gr).els) (rfl) (by omega) rfl)<|c_ (s_fa rfl rfl rfl (fun _=>wanted_none rfl _) (0*4) 0 (0*4) rfl (s:=fun _=>.slice A0 l.length c0) rfl (fun _=>rfl) (fun {D env ac wd} hA=>(hl.grown hA.j.st.gr).els) (by omega) (fun b q w=>by simp [go_sem,Tryz.underlying128]))<|c_ (le_ (0*4) (fun _ env _ wd hA=>(hl.grown hA.j.st.gr).els) (by omega) (le3 (by exact sgC_0 l 0)))<|c_ (bd0 ([vI ((sgi l 0).d)]))<|c_ (cb_ Tryz.func78 (jn ((sgi l 0).d) 0 0) (h:=fun _ env _ wd hA=>⟨_,Join_any wd ((sgi l 0).d) 0 0 (by omega) (by omega) (by omega) (by omega) (by omega) (by omega),rfl⟩))<|c_ (cb_ Tryz.func77 (fS (sgi l 0) (jn ((sgi l 0).d) 0 0)) (h:=fun _ env _ wd hA=>⟨_,F_any wd (sgi l 0) hs _ (bA (env 9)) (bC (env 9)) (jn ((sgi l 0).d) 0 0) rfl (At.bigN hA 9 rfl rfl rfl) (by unfold jn;omega) (by unfold jn;omega),rfl⟩))<|c_ (cw_ Tryz.func50 (h:=fun _ env _ wd hA=>⟨_,Cmp_any wd p B0 k0 t hp (hr.grown hA.j.st.gr)  (decide (fS (sgi l 0) (jn ((sgi l 0).d) 0 0) < 0)) (bA (env 10)) (bC (env 10)) (fS (sgi l 0) (jn ((sgi l 0).d) 0 0)) rfl (At.bigN hA 10 rfl rfl rfl) ,rfl⟩))<|c_ (bi0 (vI (cmpZ t (fS (sgi l 0) (jn ((sgi l 0).d) 0 0)))) (vI 0) (h:=by intro env w;have g1q:=g1;unfold begS at g1q;simp [go_sem,cmpZ_le,cmpZ_lt,cmpZ_ge,cmpZ_gt,g1q]))<|e_) (k:=fun E2 ac wd h_2=>?_)
  clear h_1
  refine then_n ?_
  refine wp_cond_true (eval_tmp (h_2.g (t:=25) rfl)) ?_
  refine wp_seq ?_
  refine rf_ h_2 (tri 3) [K_ (vL 0 0 0),none,K_ (vI 8)] (fun E3=>[(0,.slice A0 l.length c0),(1,vI day),(2,vI off),(7,vP (pb E1 0) 0),(8,vP (pb E1 1) 0),(9,vI 8)]) (S:=[⟨1,1,fun _=>[vI 0,vI 0,vI 0]⟩]) (M':=fun E3=>[((pb E1 0),39,[.bool (p),rS t B0 k0]),((pb E1 1),26,[vI 0,vI 0,vI 0])]) (hs:=c_ (bd0 ([]))<|c_ (se_ 1 (hst:=by exact fun _ _ _ hc=>st26 rfl rfl rfl rfl hc))<|c_ mv_<|e_) (k:=fun E3 ac wd h_3=>?_)
  clear h_2
  refine then_n (wp_ret (then_ret ?_))
  have s8:=h_3.g (t:=8) rfl
  have hc8:=(h_3.st.own 1 _ rfl).2
  have c8_0:=own_cell (o:=0) hc8 rfl
  have c8_1:=own_cell (o:=1) hc8 rfl
  have c8_2:=own_cell (o:=2) hc8 rfl
  have s9:=h_3.g (t:=9) rfl
  refine leave (v:=vT2 (vL 0 0 0) (vI 8)) h_3.df (by simp [results,Tryz.results57,go_sem,Array.getD_eq_getD_getElem?,s8,c8_0,c8_1,c8_2,Tryz.underlying26,s9]) ?_
  obtain ⟨q1,q2,q3,q4⟩:=lab_early (day:=day) (off:=off) g1
  exact ⟨by rw [q1,q2,q3,q4],h_3.st.below⟩
  refine rf_ h_1 [[0],[1],[1,2],[1,2,3],[4],[4,5],[4,5,6],[4,5,6,7],[4,5,6,7,8],[4,5,6,7,8,9],[1,2,3,4,5,6,7,8,9,10],r_ 12,r_ 13] [K_ (.agg #[.bool (p),rS t B0 k0]),K_ (.slice A0 l.length c0),K_ (elt (.slice A0 l.length c0) (0*4)),K_ (vSg (sgi l 0)),K_ (.slice A0 l.length c0),K_ (elt (.slice A0 l.length c0) (0*4)),K_ (elt (.slice A0 l.length c0) (0*4)),K_ (vI ((sgi l 0).d)),K_ (vL ((sgi l 0).d) 0 0),KE_ fun env=>bigF (jn ((sgi l 0).d) 0 0) (env 9),KE_ fun env=>bigF (fS (sgi l 0) (jn ((sgi l 0).d) 0 0)) (env 10),K_ (vI (cmpZ t (fS (sgi l 0) (jn ((sgi l 0).d) 0 0)))),K_ bF] (fun E2=>[(0,.slice A0 l.length c0),(1,vI day),(2,vI off),(7,vP (pb E1 0) 0),(8,vP (pb E1 1) 0),(9,vI 0),(25,bF)]) (F:=[(9,fun env w=>BigN w0.heap.size w (env 9) (jn ((sgi l 0).d) 0 0)),(10,fun env w=>BigN w0.heap.size w (env 10) (fS (sgi l 0) (jn ((sgi l 0).d) 0 0)))]) (L1:=fun E2=>[fun w=>BigN w0.heap.size w (E2 9) (jn ((sgi l 0).d) 0 0),fun w=>BigN w0.heap.size w (E2 10) (fS (sgi l 0) (jn ((sgi l 0).d) 0 0))]) (hs:=c_ (ld_ 0 (hrd:=by exact rd39 rfl rfl))<|c_ mv_<|c_ (ia_ Tryz.underlying82 sz128 0 (0*4) 0 (fun _ env _ wd hA=>(hl.grown hA.j.st.gr).els) (rfl) (by omega) rfl)<|c_ (le_ (0*4) (fun _ env _ wd hA=>(hl.grown hA.j.st.gr).els) (by omega) (le128 (by exact sgC_0 l 0) (by exact sgC_1 l 0) (by exact sgC_2 l 0) (by exact sgC_3 l 0)))<|c_ mv_<|c_ (ia_ Tryz.underlying82 sz128 0 (0*4) 0 (fun _ env _ wd hA=>(hl.grown hA.j.st.gr).els) (rfl) (by omega) rfl)<|c_ (s_fa rfl rfl rfl (fun _=>wanted_none rfl _) (0*4) 0 (0*4) rfl (s:=fun _=>.slice A0 l.length c0) rfl (fun _=>rfl) (fun {D env ac wd} hA=>(hl.grown hA.j.st.gr).els) (by omega) (fun b q w=>by simp [go_sem,Tryz.underlying128]))<|c_ (le_ (0*4) (fun _ env _ wd hA=>(hl.grown hA.j.st.gr).els) (by omega) (le3 (by exact sgC_0 l 0)))<|c_ (bd0 ([vI ((sgi l 0).d)]))<|c_ (cb_ Tryz.func78 (jn ((sgi l 0).d) 0 0) (h:=fun _ env _ wd hA=>⟨_,Join_any wd ((sgi l 0).d) 0 0 (by omega) (by omega) (by omega) (by omega) (by omega) (by omega),rfl⟩))<|c_ (cb_ Tryz.func77 (fS (sgi l 0) (jn ((sgi l 0).d) 0 0)) (h:=fun _ env _ wd hA=>⟨_,F_any wd (sgi l 0) hs _ (bA (env 9)) (bC (env 9)) (jn ((sgi l 0).d) 0 0) rfl (At.bigN hA 9 rfl rfl rfl) (by unfold jn;omega) (by unfold jn;omega),rfl⟩))<|c_ (cw_ Tryz.func50 (h:=fun _ env _ wd hA=>⟨_,Cmp_any wd p B0 k0 t hp (hr.grown hA.j.st.gr)  (decide (fS (sgi l 0) (jn ((sgi l 0).d) 0 0) < 0)) (bA (env 10)) (bC (env 10)) (fS (sgi l 0) (jn ((sgi l 0).d) 0 0)) rfl (At.bigN hA 10 rfl rfl rfl) ,rfl⟩))<|c_ (bi0 (vI (cmpZ t (fS (sgi l 0) (jn ((sgi l 0).d) 0 0)))) (vI 0) (h:=by intro env w;have g1q:=g1;unfold begS at g1q;simp [go_sem,cmpZ_le,cmpZ_lt,cmpZ_ge,cmpZ_gt,g1q]))<|e_) (k:=fun E2 ac wd h_2=>?_)
  clear h_1
  refine then_n ?_
  refine wp_cond_false (eval_tmp (h_2.g (t:=25) rfl)) ?_
  refine wp_skip (then_n (wp_seq (wp_seq ?_)))
  refine rf_ h_2 [[0]] [K_ (vI 0)] (fun E3=>[(0,.slice A0 l.length c0),(1,vI day),(2,vI off),(7,vP (pb E1 0) 0),(8,vP (pb E1 1) 0),(9,vI 0),(10,vI 0)]) (hs:=c_ mv_<|e_) (k:=fun E3 ac wd h_3=>?_)
  clear h_2
  refine then_n (wp_block ?_)
  refine wp_loop (fun ac wd=>∃ i:Nat,(i≤l.length∧∀ j,j < i→endS l day off j≤t)∧Cur 68 w0 none none (Facts []) (fun _=>True) [(0,.slice A0 l.length c0),(1,vI day),(2,vI off),(7,vP (pb E1 0) 0),(8,vP (pb E1 1) 0),(10,vN i)] [((pb E1 0),39,[.bool (p),rS t B0 k0]),((pb E1 1),26,[vI 0,vI 0,vI 0])] ac wd) (fun ac _=>((l.length:Int)-sI ac 10).toNat) ⟨0,⟨by omega,fun j hj=>by omega⟩,(h_3.sel [] rfl).re rfl⟩ ?_
  rintro ac wd ⟨i,⟨hi1,hi2⟩,h_4⟩
  clear h_3
  have hmu:sI ac 10=((i:Nat):Int):=sI_eq (h_4.g (t:=10) rfl)
  refine wp_seq (wp_seq ?_)
  by_cases h1:i < l.length
  have hs:=hL.seg i h1;have hE:=hL.end_bd h1;have hB:=begS_bd hL hL.n0;have hun:=hL.unt_day h1;have hun2:=hL.unt_ge h1
  refine rf_ h_4 [[0],[1],[1,2],r_ 4] [K_ (vN i),K_ (.slice A0 l.length c0),K_ (vN l.length),K_ bT] (fun E5=>[(0,.slice A0 l.length c0),(1,vI day),(2,vI off),(7,vP (pb E1 0) 0),(8,vP (pb E1 1) 0),(10,vN i),(27,vN i),(28,.slice A0 l.length c0),(29,vN l.length),(30,bT)]) (hs:=c_ mv_<|c_ mv_<|c_ (ln_ Tryz.underlying82 fun _ env _ wd hA=>(hl.grown hA.j.st.gr).els)<|c_ (bi0 (vN i) (vN l.length))<|e_) (k:=fun E5 ac wd h_5=>?_)
  clear h_4
  refine then_n ?_
  refine wp_cond_true (eval_tmp (h_5.g (t:=30) rfl)) ?_
  refine wp_skip (then_n (wp_seq (wp_block (wp_seq (wp_seq ?_)))))
  by_cases hc:endS l day off i≤t
  refine rf_ h_5 [[0],[1],[2],[3],[4],[1,2,3,4,5],r_ 7,r_ 8] [K_ (.agg #[.bool (p),rS t B0 k0]),K_ (.slice A0 l.length c0),K_ (vI day),K_ (vI off),K_ (vN i),KE_ fun env=>bigF (endS l day off i) (env 5),K_ (vI (cmpZ t (endS l day off i))),K_ bT] (fun E6=>[(0,.slice A0 l.length c0),(1,vI day),(2,vI off),(7,vP (pb E1 0) 0),(8,vP (pb E1 1) 0),(10,vN i),(27,vN i),(28,.slice A0 l.length c0),(29,vN l.length),(30,bT),(33,.agg #[.bool (p),rS t B0 k0]),(34,.slice A0 l.length c0),(35,vI day),(36,vI off),(37,vN i),(38,bigF (endS l day off i) (E6 5)),(39,vI (cmpZ t (endS l day off i))),(40,bT)]) (F:=[(5,fun env w=>BigN w0.heap.size w (env 5) (endS l day off i))]) (L1:=fun E6=>[fun w=>BigN w0.heap.size w (E6 5) (endS l day off i)]) (hs:=c_ (ld_ 0 (hrd:=by exact rd39 rfl rfl))<|c_ mv_<|c_ mv_<|c_ mv_<|c_ mv_<|c_ (cb_ Tryz.func80 (endS l day off i) (h:=fun _ env _ wd hA=>⟨_,End_any wd A0 c0 l (hl.grown hA.j.st.gr) day off hL i (by omega),rfl⟩))<|c_ (cw_ Tryz.func50 (h:=fun _ env _ wd hA=>⟨_,Cmp_any wd p B0 k0 t hp (hr.grown hA.j.st.gr)  (decide (endS l day off i < 0)) (bA (env 5)) (bC (env 5)) (endS l day off i) rfl (At.bigN hA 5 rfl rfl rfl) ,rfl⟩))<|c_ (bi0 (vI (cmpZ t (endS l day off i))) (vI 0) (h:=by intro env w;simp [go_sem,cmpZ_le,cmpZ_lt,cmpZ_ge,cmpZ_gt,hc]))<|e_) (k:=fun E6 ac wd h_6=>?_)
  clear h_5
  refine then_n ?_
  refine wp_cond_true (eval_tmp (h_6.g (t:=40) rfl)) ?_
  refine wp_exit (then_e (blk_x (then_n ?_)))
  refine rf_ h_6 (tri 3) [K_ (vN i),K_ (vI (((i:Nat):Int)+1)),K_ (vI (((i:Nat):Int)+1))] (fun E7=>[(0,.slice A0 l.length c0),(1,vI day),(2,vI off),(7,vP (pb E1 0) 0),(8,vP (pb E1 1) 0),(10,vI (((i:Nat):Int)+1)),(27,vN i),(28,.slice A0 l.length c0),(29,vN l.length),(30,bT),(31,vN i),(32,vI (((i:Nat):Int)+1)),(33,.agg #[.bool (p),rS t B0 k0]),(34,.slice A0 l.length c0),(35,vI day),(36,vI off),(37,vN i),(38,bigF (endS l day off i) (E6 5)),(39,vI (cmpZ t (endS l day off i))),(40,bT)]) (hs:=c_ mv_<|c_ (bi0 (vN i) (vI 1) (h:=by intro env w;(first | (simp [go_sem];done) | (simp [go_sem];exact IntWalk.i64_in _ (by omega)) | (unfold splD splS at *;simp [go_sem];exact IntWalk.i64_in _ (by omega)))))<|c_ mv_<|e_) (k:=fun E7 ac wd h_7=>?_)
  clear h_6
  refine then_n ?_
  exact ⟨⟨i+1,⟨by omega,steps_snoc (p:=fun j=>endS l day off j≤t) hi2 hc⟩,(h_7.sel [] rfl).re rfl⟩,by rw [sI_eq (h_7.g (t:=10) rfl),hmu];omega⟩
  have hG:=gS_bd hs (t:=t) (by omega) (by omega);have hsp:splD (gS (sgi l i) t)=gS (sgi l i) t / 1000000000000000000 / 86400:=rfl;have hsp2:=spl_in (gS (sgi l i) t)
  refine rf_ h_5 [[0],[1],[2],[3],[4],[1,2,3,4,5],r_ 7,r_ 8] [K_ (.agg #[.bool (p),rS t B0 k0]),K_ (.slice A0 l.length c0),K_ (vI day),K_ (vI off),K_ (vN i),KE_ fun env=>bigF (endS l day off i) (env 5),K_ (vI (cmpZ t (endS l day off i))),K_ bF] (fun E6=>[(0,.slice A0 l.length c0),(1,vI day),(2,vI off),(7,vP (pb E1 0) 0),(8,vP (pb E1 1) 0),(10,vN i),(27,vN i),(28,.slice A0 l.length c0),(29,vN l.length),(30,bT),(33,.agg #[.bool (p),rS t B0 k0]),(34,.slice A0 l.length c0),(35,vI day),(36,vI off),(37,vN i),(38,bigF (endS l day off i) (E6 5)),(39,vI (cmpZ t (endS l day off i))),(40,bF)]) (F:=[(5,fun env w=>BigN w0.heap.size w (env 5) (endS l day off i))]) (L1:=fun E6=>[fun w=>BigN w0.heap.size w (E6 5) (endS l day off i)]) (hs:=c_ (ld_ 0 (hrd:=by exact rd39 rfl rfl))<|c_ mv_<|c_ mv_<|c_ mv_<|c_ mv_<|c_ (cb_ Tryz.func80 (endS l day off i) (h:=fun _ env _ wd hA=>⟨_,End_any wd A0 c0 l (hl.grown hA.j.st.gr) day off hL i (by omega),rfl⟩))<|c_ (cw_ Tryz.func50 (h:=fun _ env _ wd hA=>⟨_,Cmp_any wd p B0 k0 t hp (hr.grown hA.j.st.gr)  (decide (endS l day off i < 0)) (bA (env 5)) (bC (env 5)) (endS l day off i) rfl (At.bigN hA 5 rfl rfl rfl) ,rfl⟩))<|c_ (bi0 (vI (cmpZ t (endS l day off i))) (vI 0) (h:=by intro env w;simp [go_sem,cmpZ_le,cmpZ_lt,cmpZ_ge,cmpZ_gt,hc]))<|e_) (k:=fun E6 ac wd h_6=>?_)
  clear h_5
  refine then_n ?_
  refine wp_cond_false (eval_tmp (h_6.g (t:=40) rfl)) ?_
  refine wp_skip (then_n (wp_seq ?_))
  refine rf_ h_6 [[0],[1],[0,1,2],r_ 4,[4],r_ 6,r_ 7,r_ 8,r_ 9,[0,1,2,3,4,5,6,7,9],[10],[0,1,2,3,4,5,6,7,8,10,11],r_ 13] [K_ (.slice A0 l.length c0),K_ (vN i),K_ (elt (.slice A0 l.length c0) (i*4)),K_ (vSg (sgi l i)),K_ (.agg #[.bool (p),rS t B0 k0]),KE_ fun env=>bigF (gS (sgi l i) t) (env 5),K_ (vT2 (vL (splD (gS (sgi l i) t)) (splS (gS (sgi l i) t)) (splA (gS (sgi l i) t))) bT),K_ (vT2 (vL (splD (gS (sgi l i) t)) (splS (gS (sgi l i) t)) (splA (gS (sgi l i) t))) bT),K_ (vL (splD (gS (sgi l i) t)) (splS (gS (sgi l i) t)) (splA (gS (sgi l i) t))),K_ bT,KE_ fun env=>vP (pb env 10) 0,none,K_ bT] (fun E7=>[(0,.slice A0 l.length c0),(1,vI day),(2,vI off),(7,vP (pb E1 0) 0),(8,vP (pb E1 1) 0),(10,vN i),(11,vP (pb E7 10) 0),(27,vN i),(28,.slice A0 l.length c0),(29,vN l.length),(30,bT),(33,.agg #[.bool (p),rS t B0 k0]),(34,.slice A0 l.length c0),(35,vI day),(36,vI off),(37,vN i),(38,bigF (endS l day off i) (E6 5)),(39,vI (cmpZ t (endS l day off i))),(40,bF),(41,vT2 (vL (splD (gS (sgi l i) t)) (splS (gS (sgi l i) t)) (splA (gS (sgi l i) t))) bT),(42,.slice A0 l.length c0),(43,vN i),(44,elt (.slice A0 l.length c0) (i*4)),(45,vSg (sgi l i)),(46,.agg #[.bool (p),rS t B0 k0]),(47,bigF (gS (sgi l i) t) (E7 5)),(48,vT2 (vL (splD (gS (sgi l i) t)) (splS (gS (sgi l i) t)) (splA (gS (sgi l i) t))) bT),(49,vL (splD (gS (sgi l i) t)) (splS (gS (sgi l i) t)) (splA (gS (sgi l i) t))),(50,bT)]) (W:=[{ i:=10,T:=26,c0:=[vI 0,vI 0,vI 0],s:=some 11,c1:=fun _=>[vI (splD (gS (sgi l i) t)),vI (splS (gS (sgi l i) t)),vI (splA (gS (sgi l i) t))] }]) (F:=[(5,fun env w=>BigN w0.heap.size w (env 5) (gS (sgi l i) t))]) (L1:=fun E7=>[fun w=>BigN w0.heap.size w (E6 5) (endS l day off i),fun w=>BigN w0.heap.size w (E7 5) (gS (sgi l i) t)]) (M':=fun E7=>[((pb E1 0),39,[.bool (p),rS t B0 k0]),((pb E1 1),26,[vI 0,vI 0,vI 0]),((pb E7 10),26,[vI (splD (gS (sgi l i) t)),vI (splS (gS (sgi l i) t)),vI (splA (gS (sgi l i) t))])]) (hs:=c_ mv_<|c_ mv_<|c_ (ia_ Tryz.underlying82 sz128 i (i*4) ((i:Nat):Int) (fun _ env _ wd hA=>(hl.grown hA.j.st.gr).els) (rfl) (by omega) rfl)<|c_ (le_ (i*4) (fun _ env _ wd hA=>(hl.grown hA.j.st.gr).els) (by omega) (le128 (by exact sgC_0 l i) (by exact sgC_1 l i) (by exact sgC_2 l i) (by exact sgC_3 l i)))<|c_ (ld_ 0 (hrd:=by exact rd39 rfl rfl))<|c_ (cb_ Tryz.func89 (gS (sgi l i) t) (h:=fun _ env _ wd hA=>⟨_,greatest_any wd (sgi l i) hs p B0 k0 t hp (hr.grown hA.j.st.gr) (by omega) (by omega),rfl⟩))<|c_ (cw_ Tryz.func88 (h:=fun _ env _ wd hA=>⟨_,Split_yes wd _ (bA (env 5)) (bC (env 5)) (gS (sgi l i) t) rfl (At.bigN hA 5 rfl rfl rfl) (by unfold Sm;omega) (by omega) (by omega),rfl⟩))<|c_ mv_<|c_ ext_<|c_ ext_<|c_ (al_ 2)<|c_ (sw_ 2 10 (hst:=by exact fun _ _ _ hc=>st26 rfl rfl rfl rfl hc))<|c_ mv_<|e_) (k:=fun E7 ac wd h_7=>?_)
  clear h_6
  refine then_n (wp_seq (wp_seq ?_))
  by_cases e1:untS l day i≤splD (gS (sgi l i) t)
  refine rf_ h_7 [[0],[0,1],[2],[3],[4],[2,3,4,5],r_ 7] [K_ (vP (pb E7 10) 0),K_ (vI (splD (gS (sgi l i) t))),K_ (.slice A0 l.length c0),K_ (vI day),K_ (vN i),K_ (vI (untS l day i)),K_ bT] (fun E8=>[(0,.slice A0 l.length c0),(1,vI day),(2,vI off),(7,vP (pb E1 0) 0),(8,vP (pb E1 1) 0),(10,vN i),(11,vP (pb E7 10) 0),(27,vN i),(28,.slice A0 l.length c0),(29,vN l.length),(30,bT),(33,.agg #[.bool (p),rS t B0 k0]),(34,.slice A0 l.length c0),(35,vI day),(36,vI off),(37,vN i),(38,bigF (endS l day off i) (E6 5)),(39,vI (cmpZ t (endS l day off i))),(40,bF),(41,vT2 (vL (splD (gS (sgi l i) t)) (splS (gS (sgi l i) t)) (splA (gS (sgi l i) t))) bT),(42,.slice A0 l.length c0),(43,vN i),(44,elt (.slice A0 l.length c0) (i*4)),(45,vSg (sgi l i)),(46,.agg #[.bool (p),rS t B0 k0]),(47,bigF (gS (sgi l i) t) (E7 5)),(48,vT2 (vL (splD (gS (sgi l i) t)) (splS (gS (sgi l i) t)) (splA (gS (sgi l i) t))) bT),(49,vL (splD (gS (sgi l i) t)) (splS (gS (sgi l i) t)) (splA (gS (sgi l i) t))),(50,bT),(51,vP (pb E7 10) 0),(52,vI (splD (gS (sgi l i) t))),(53,.slice A0 l.length c0),(54,vI day),(55,vN i),(56,vI (untS l day i)),(57,bT)]) (hs:=c_ (fa0 (vP (pb E7 10) 0))<|c_ (ld_ 2 (hrd:=by exact rd3 rfl))<|c_ mv_<|c_ mv_<|c_ mv_<|c_ (cw_ Tryz.func79 (h:=fun _ env _ wd hA=>⟨_,Until_any wd A0 c0 l (hl.grown hA.j.st.gr) day i (by omega),rfl⟩))<|c_ (bi0 (vI (splD (gS (sgi l i) t))) (vI (untS l day i)) (h:=by intro env w;simp [go_sem,e1]))<|e_) (k:=fun E8 ac wd h_8=>?_)
  clear h_7
  refine then_n ?_
  refine wp_cond_true (eval_tmp (h_8.g (t:=57) rfl)) ?_
  refine reg_cut mixed 8 [[0],[0,1],[0,1,2],[3],[3,4],[3,4,5],[0,1,2,3,4,6],[0,1,2,3,4,6,7],[0,1,2,3,4,5,6,7,8],[0,1,2,3,4,5,6,7,8,9]] (by kernel_rfl) h_8 [some 58,some 59,some 60,some 61,some 62,some 63,some 64,none] [[0],[0,1],[0,1,2],[3],[3,4],[3,4,5],[0,1,2,3,4,6],[0,1,2,3,4,6,7]] [⟨2,7,fun _=>[vI ((splD (gS (sgi l i) t))-1),vI (splS (gS (sgi l i) t)),vI (splA (gS (sgi l i) t))]⟩] [] [some fun _=>vP (pb E7 10) 0,some fun _=>vI (splD (gS (sgi l i) t)),some fun _=>vI ((splD (gS (sgi l i) t))-1),some fun _=>vP (pb E7 10) 1,some fun _=>vI (splS (gS (sgi l i) t)),some fun _=>vI ((splS (gS (sgi l i) t))+86400),some fun _=>vP (pb E7 10) 0,none] [] none rfl (by kernel_rfl) (by kernel_rfl) (sn (sn (sn (sn (sn (sn (sn (sn s0 ?_) ?_) ?_) ?_) ?_) ?_) ?_) ?_) ?_
  · exact (fa0 (vP (pb E7 10) 0))
  · exact (ld_ 2 (hrd:=by exact rd3 rfl))
  · exact (bi0 (vI (splD (gS (sgi l i) t))) (vI 1) (h:=by intro env w;(first | (simp [go_sem];done) | (simp [go_sem];exact IntWalk.i64_in _ (by omega)) | (unfold splD splS at *;simp [go_sem];exact IntWalk.i64_in _ (by omega)))))
  · exact (fa0 (vP (pb E7 10) 0))
  · exact (ld_ 2 (hrd:=by exact rd3 rfl))
  · exact (bi0 (vI (splS (gS (sgi l i) t))) (vI 86400) (h:=by intro env w;(first | (simp [go_sem];done) | (simp [go_sem];exact IntWalk.i64_in _ (by omega)) | (unfold splD splS at *;simp [go_sem];exact IntWalk.i64_in _ (by omega)))))
  · exact (fa0 (vP (pb E7 10) 0))
  · exact (se_ 2 (hst:=by exact fun _ _ _ hc=>st3 rfl rfl hc))
  intro E9 ac wd hJ
  have h_9:Cur 68 w0 none none (Facts [fun w=>BigN w0.heap.size w (E6 5) (endS l day off i),fun w=>BigN w0.heap.size w (E7 5) (gS (sgi l i) t)]) (fun _=>True) [(0,.slice A0 l.length c0),(1,vI day),(2,vI off),(7,vP (pb E1 0) 0),(8,vP (pb E1 1) 0),(10,vI (((i:Nat):Int))),(11,vP (pb E7 10) 0),(27,vI (((i:Nat):Int))),(28,.slice A0 l.length c0),(29,vI ((l.length:Int))),(30,.bool true),(33,.agg #[.bool (p),.slice B0 ((digs t).length) k0]),(34,.slice A0 l.length c0),(35,vI day),(36,vI off),(37,vI (((i:Nat):Int))),(38,bigF (endS l day off i) (E6 5)),(39,vI (cmpZ t (endS l day off i))),(40,.bool false),(41,vT2 (vL (splD (gS (sgi l i) t)) (splS (gS (sgi l i) t)) (splA (gS (sgi l i) t))) (.bool true)),(42,.slice A0 l.length c0),(43,vI (((i:Nat):Int))),(44,elt (.slice A0 l.length c0) (i*4)),(45,vSg (sgi l i)),(46,.agg #[.bool (p),.slice B0 ((digs t).length) k0]),(47,bigF (gS (sgi l i) t) (E7 5)),(48,vT2 (vL (splD (gS (sgi l i) t)) (splS (gS (sgi l i) t)) (splA (gS (sgi l i) t))) (.bool true)),(49,vL (splD (gS (sgi l i) t)) (splS (gS (sgi l i) t)) (splA (gS (sgi l i) t))),(50,.bool true),(51,vP (pb E7 10) 0),(52,vI (splD (gS (sgi l i) t))),(53,.slice A0 l.length c0),(54,vI day),(55,vI (((i:Nat):Int))),(56,vI (untS l day i)),(57,.bool true),(58,vP (pb E7 10) 0),(59,vI (splD (gS (sgi l i) t))),(60,vI ((splD (gS (sgi l i) t))-1)),(61,vP (pb E7 10) 1),(62,vI (splS (gS (sgi l i) t))),(63,vI ((splS (gS (sgi l i) t))+86400)),(64,vP (pb E7 10) 0)] [((pb E1 0),39,[.bool (p),.slice B0 ((digs t).length) k0]),((pb E1 1),26,[vI 0,vI 0,vI 0]),((pb E7 10),26,[vI ((splD (gS (sgi l i) t))-1),vI (splS (gS (sgi l i) t)),vI (splA (gS (sgi l i) t))])] ac wd:=hJ.curF rfl rfl rfl (fun _ h=>h) rfl rfl rfl
  clear hJ h_8
  refine reg_rest h_9 [some 65,none] [[0],[0,1]] [⟨2,1,fun _=>[vI ((splD (gS (sgi l i) t))-1),vI ((splS (gS (sgi l i) t))+86400),vI (splA (gS (sgi l i) t))]⟩] [] [some fun _=>vP (pb E7 10) 1,none] [] none rfl (by kernel_rfl) (by kernel_rfl) (by kernel_rfl) (sn (sn s0 ?_) ?_) ?_
  · exact (fa0 (vP (pb E7 10) 0))
  · exact (se_ 2 (hst:=by exact fun _ _ _ hc=>st3 rfl rfl hc))
  intro E10 ac wd hJ
  have h_10:Cur 68 w0 none none (Facts [fun w=>BigN w0.heap.size w (E6 5) (endS l day off i),fun w=>BigN w0.heap.size w (E7 5) (gS (sgi l i) t)]) (fun _=>True) [(0,.slice A0 l.length c0),(1,vI day),(2,vI off),(7,vP (pb E1 0) 0),(8,vP (pb E1 1) 0),(10,vI (((i:Nat):Int))),(11,vP (pb E7 10) 0),(27,vI (((i:Nat):Int))),(28,.slice A0 l.length c0),(29,vI ((l.length:Int))),(30,.bool true),(33,.agg #[.bool (p),.slice B0 ((digs t).length) k0]),(34,.slice A0 l.length c0),(35,vI day),(36,vI off),(37,vI (((i:Nat):Int))),(38,bigF (endS l day off i) (E6 5)),(39,vI (cmpZ t (endS l day off i))),(40,.bool false),(41,vT2 (vL (splD (gS (sgi l i) t)) (splS (gS (sgi l i) t)) (splA (gS (sgi l i) t))) (.bool true)),(42,.slice A0 l.length c0),(43,vI (((i:Nat):Int))),(44,elt (.slice A0 l.length c0) (i*4)),(45,vSg (sgi l i)),(46,.agg #[.bool (p),.slice B0 ((digs t).length) k0]),(47,bigF (gS (sgi l i) t) (E7 5)),(48,vT2 (vL (splD (gS (sgi l i) t)) (splS (gS (sgi l i) t)) (splA (gS (sgi l i) t))) (.bool true)),(49,vL (splD (gS (sgi l i) t)) (splS (gS (sgi l i) t)) (splA (gS (sgi l i) t))),(50,.bool true),(51,vP (pb E7 10) 0),(52,vI (splD (gS (sgi l i) t))),(53,.slice A0 l.length c0),(54,vI day),(55,vI (((i:Nat):Int))),(56,vI (untS l day i)),(57,.bool true),(58,vP (pb E7 10) 0),(59,vI (splD (gS (sgi l i) t))),(60,vI ((splD (gS (sgi l i) t))-1)),(61,vP (pb E7 10) 1),(62,vI (splS (gS (sgi l i) t))),(63,vI ((splS (gS (sgi l i) t))+86400)),(64,vP (pb E7 10) 0),(65,vP (pb E7 10) 1)] [((pb E1 0),39,[.bool (p),.slice B0 ((digs t).length) k0]),((pb E1 1),26,[vI 0,vI 0,vI 0]),((pb E7 10),26,[vI ((splD (gS (sgi l i) t))-1),vI ((splS (gS (sgi l i) t))+86400),vI (splA (gS (sgi l i) t))])] ac wd:=hJ.curF rfl rfl rfl (fun _ h=>h) rfl rfl rfl
  clear hJ h_9
  refine then_n (wp_seq ?_)
  refine rf_ h_10 (tri 3) [K_ (vL ((splD (gS (sgi l i) t))-1) ((splS (gS (sgi l i) t))+86400) (splA (gS (sgi l i) t))),none,K_ (vI 0)] (fun E11=>[(0,.slice A0 l.length c0),(1,vI day),(2,vI off),(7,vP (pb E1 0) 0),(8,vP (pb E1 1) 0),(9,vI 0),(10,vN i),(11,vP (pb E7 10) 0),(27,vN i),(28,.slice A0 l.length c0),(29,vN l.length),(30,bT),(33,.agg #[.bool (p),rS t B0 k0]),(34,.slice A0 l.length c0),(35,vI day),(36,vI off),(37,vN i),(38,bigF (endS l day off i) (E6 5)),(39,vI (cmpZ t (endS l day off i))),(40,bF),(41,vT2 (vL (splD (gS (sgi l i) t)) (splS (gS (sgi l i) t)) (splA (gS (sgi l i) t))) bT),(42,.slice A0 l.length c0),(43,vN i),(44,elt (.slice A0 l.length c0) (i*4)),(45,vSg (sgi l i)),(46,.agg #[.bool (p),rS t B0 k0]),(47,bigF (gS (sgi l i) t) (E7 5)),(48,vT2 (vL (splD (gS (sgi l i) t)) (splS (gS (sgi l i) t)) (splA (gS (sgi l i) t))) bT),(49,vL (splD (gS (sgi l i) t)) (splS (gS (sgi l i) t)) (splA (gS (sgi l i) t))),(50,bT),(51,vP (pb E7 10) 0),(52,vI (splD (gS (sgi l i) t))),(53,.slice A0 l.length c0),(54,vI day),(55,vN i),(56,vI (untS l day i)),(57,bT),(58,vP (pb E7 10) 0),(59,vI (splD (gS (sgi l i) t))),(60,vI ((splD (gS (sgi l i) t))-1)),(61,vP (pb E7 10) 1),(62,vI (splS (gS (sgi l i) t))),(63,vI ((splS (gS (sgi l i) t))+86400)),(64,vP (pb E7 10) 0),(65,vP (pb E7 10) 1),(66,vL ((splD (gS (sgi l i) t))-1) ((splS (gS (sgi l i) t))+86400) (splA (gS (sgi l i) t)))]) (S:=[⟨1,1,fun _=>[vI ((splD (gS (sgi l i) t))-1),vI ((splS (gS (sgi l i) t))+86400),vI (splA (gS (sgi l i) t))]⟩]) (M':=fun E11=>[((pb E1 0),39,[.bool (p),rS t B0 k0]),((pb E1 1),26,[vI ((splD (gS (sgi l i) t))-1),vI ((splS (gS (sgi l i) t))+86400),vI (splA (gS (sgi l i) t))]),((pb E7 10),26,[vI ((splD (gS (sgi l i) t))-1),vI ((splS (gS (sgi l i) t))+86400),vI (splA (gS (sgi l i) t))])]) (hs:=c_ (ld_ 2 (hrd:=by exact rd26 rfl rfl rfl))<|c_ (se_ 1 (hst:=by exact fun _ _ _ hc=>st26 rfl rfl rfl rfl hc))<|c_ mv_<|e_) (k:=fun E11 ac wd h_11=>?_)
  clear h_10
  refine then_n (wp_ret (blk_ret (then_ret (then_ret (blk_ret (then_ret ?_))))))
  have s8:=h_11.g (t:=8) rfl
  have hc8:=(h_11.st.own 1 _ rfl).2
  have c8_0:=own_cell (o:=0) hc8 rfl
  have c8_1:=own_cell (o:=1) hc8 rfl
  have c8_2:=own_cell (o:=2) hc8 rfl
  have s9:=h_11.g (t:=9) rfl
  refine leave (v:=vT2 (vL ((splD (gS (sgi l i) t))-1) ((splS (gS (sgi l i) t))+86400) (splA (gS (sgi l i) t))) (vI 0)) h_11.df (by simp [results,Tryz.results57,go_sem,Array.getD_eq_getD_getElem?,s8,c8_0,c8_1,c8_2,Tryz.underlying26,s9]) ?_
  obtain ⟨q1,q2,q3,q4⟩:=lab_in g1 h1 hi2 (by omega:t < endS l day off i)
  exact ⟨by rw [q1,q2,q3,q4];unfold lblD lblS;rw [if_pos e1,if_pos e1],h_11.st.below⟩
  refine rf_ h_7 [[0],[0,1],[2],[3],[4],[2,3,4,5],r_ 7] [K_ (vP (pb E7 10) 0),K_ (vI (splD (gS (sgi l i) t))),K_ (.slice A0 l.length c0),K_ (vI day),K_ (vN i),K_ (vI (untS l day i)),K_ bF] (fun E8=>[(0,.slice A0 l.length c0),(1,vI day),(2,vI off),(7,vP (pb E1 0) 0),(8,vP (pb E1 1) 0),(10,vN i),(11,vP (pb E7 10) 0),(27,vN i),(28,.slice A0 l.length c0),(29,vN l.length),(30,bT),(33,.agg #[.bool (p),rS t B0 k0]),(34,.slice A0 l.length c0),(35,vI day),(36,vI off),(37,vN i),(38,bigF (endS l day off i) (E6 5)),(39,vI (cmpZ t (endS l day off i))),(40,bF),(41,vT2 (vL (splD (gS (sgi l i) t)) (splS (gS (sgi l i) t)) (splA (gS (sgi l i) t))) bT),(42,.slice A0 l.length c0),(43,vN i),(44,elt (.slice A0 l.length c0) (i*4)),(45,vSg (sgi l i)),(46,.agg #[.bool (p),rS t B0 k0]),(47,bigF (gS (sgi l i) t) (E7 5)),(48,vT2 (vL (splD (gS (sgi l i) t)) (splS (gS (sgi l i) t)) (splA (gS (sgi l i) t))) bT),(49,vL (splD (gS (sgi l i) t)) (splS (gS (sgi l i) t)) (splA (gS (sgi l i) t))),(50,bT),(51,vP (pb E7 10) 0),(52,vI (splD (gS (sgi l i) t))),(53,.slice A0 l.length c0),(54,vI day),(55,vN i),(56,vI (untS l day i)),(57,bF)]) (hs:=c_ (fa0 (vP (pb E7 10) 0))<|c_ (ld_ 2 (hrd:=by exact rd3 rfl))<|c_ mv_<|c_ mv_<|c_ mv_<|c_ (cw_ Tryz.func79 (h:=fun _ env _ wd hA=>⟨_,Until_any wd A0 c0 l (hl.grown hA.j.st.gr) day i (by omega),rfl⟩))<|c_ (bi0 (vI (splD (gS (sgi l i) t))) (vI (untS l day i)) (h:=by intro env w;simp [go_sem,e1]))<|e_) (k:=fun E8 ac wd h_8=>?_)
  clear h_7
  refine then_n ?_
  refine wp_cond_false (eval_tmp (h_8.g (t:=57) rfl)) ?_
  refine wp_skip (then_n (wp_seq ?_))
  refine rf_ h_8 (tri 3) [K_ (vL (splD (gS (sgi l i) t)) (splS (gS (sgi l i) t)) (splA (gS (sgi l i) t))),none,K_ (vI 0)] (fun E9=>[(0,.slice A0 l.length c0),(1,vI day),(2,vI off),(7,vP (pb E1 0) 0),(8,vP (pb E1 1) 0),(9,vI 0),(10,vN i),(11,vP (pb E7 10) 0),(27,vN i),(28,.slice A0 l.length c0),(29,vN l.length),(30,bT),(33,.agg #[.bool (p),rS t B0 k0]),(34,.slice A0 l.length c0),(35,vI day),(36,vI off),(37,vN i),(38,bigF (endS l day off i) (E6 5)),(39,vI (cmpZ t (endS l day off i))),(40,bF),(41,vT2 (vL (splD (gS (sgi l i) t)) (splS (gS (sgi l i) t)) (splA (gS (sgi l i) t))) bT),(42,.slice A0 l.length c0),(43,vN i),(44,elt (.slice A0 l.length c0) (i*4)),(45,vSg (sgi l i)),(46,.agg #[.bool (p),rS t B0 k0]),(47,bigF (gS (sgi l i) t) (E7 5)),(48,vT2 (vL (splD (gS (sgi l i) t)) (splS (gS (sgi l i) t)) (splA (gS (sgi l i) t))) bT),(49,vL (splD (gS (sgi l i) t)) (splS (gS (sgi l i) t)) (splA (gS (sgi l i) t))),(50,bT),(51,vP (pb E7 10) 0),(52,vI (splD (gS (sgi l i) t))),(53,.slice A0 l.length c0),(54,vI day),(55,vN i),(56,vI (untS l day i)),(57,bF),(66,vL (splD (gS (sgi l i) t)) (splS (gS (sgi l i) t)) (splA (gS (sgi l i) t)))]) (S:=[⟨1,1,fun _=>[vI (splD (gS (sgi l i) t)),vI (splS (gS (sgi l i) t)),vI (splA (gS (sgi l i) t))]⟩]) (M':=fun E9=>[((pb E1 0),39,[.bool (p),rS t B0 k0]),((pb E1 1),26,[vI (splD (gS (sgi l i) t)),vI (splS (gS (sgi l i) t)),vI (splA (gS (sgi l i) t))]),((pb E7 10),26,[vI (splD (gS (sgi l i) t)),vI (splS (gS (sgi l i) t)),vI (splA (gS (sgi l i) t))])]) (hs:=c_ (ld_ 2 (hrd:=by exact rd26 rfl rfl rfl))<|c_ (se_ 1 (hst:=by exact fun _ _ _ hc=>st26 rfl rfl rfl rfl hc))<|c_ mv_<|e_) (k:=fun E9 ac wd h_9=>?_)
  clear h_8
  refine then_n (wp_ret (blk_ret (then_ret (then_ret (blk_ret (then_ret ?_))))))
  have s8:=h_9.g (t:=8) rfl
  have hc8:=(h_9.st.own 1 _ rfl).2
  have c8_0:=own_cell (o:=0) hc8 rfl
  have c8_1:=own_cell (o:=1) hc8 rfl
  have c8_2:=own_cell (o:=2) hc8 rfl
  have s9:=h_9.g (t:=9) rfl
  refine leave (v:=vT2 (vL (splD (gS (sgi l i) t)) (splS (gS (sgi l i) t)) (splA (gS (sgi l i) t))) (vI 0)) h_9.df (by simp [results,Tryz.results57,go_sem,Array.getD_eq_getD_getElem?,s8,c8_0,c8_1,c8_2,Tryz.underlying26,s9]) ?_
  obtain ⟨q1,q2,q3,q4⟩:=lab_in g1 h1 hi2 (by omega:t < endS l day off i)
  exact ⟨by rw [q1,q2,q3,q4];unfold lblD lblS;rw [if_neg e1,if_neg e1],h_9.st.below⟩
  obtain rfl:i=l.length:=by omega
  refine rf_ h_4 [[0],[1],[1,2],r_ 4] [K_ (vN l.length),K_ (.slice A0 l.length c0),K_ (vN l.length),K_ bF] (fun E5=>[(0,.slice A0 l.length c0),(1,vI day),(2,vI off),(7,vP (pb E1 0) 0),(8,vP (pb E1 1) 0),(10,vN l.length),(27,vN l.length),(28,.slice A0 l.length c0),(29,vN l.length),(30,bF)]) (hs:=c_ mv_<|c_ mv_<|c_ (ln_ Tryz.underlying82 fun _ env _ wd hA=>(hl.grown hA.j.st.gr).els)<|c_ (bi0 (vN l.length) (vN l.length))<|e_) (k:=fun E5 ac wd h_5=>?_)
  clear h_4
  refine then_n ?_
  refine wp_cond_false (eval_tmp (h_5.g (t:=30) rfl)) ?_
  refine wp_exit (then_e (then_e (blk_x (then_n (wp_seq ?_)))))
  refine rf_ h_5 (tri 3) [K_ (vL 0 0 0),none,K_ (vI 9)] (fun E6=>[(8,vP (pb E1 1) 0),(9,vI 9)]) (S:=[⟨1,1,fun _=>[vI 0,vI 0,vI 0]⟩]) (M':=fun E6=>[((pb E1 0),39,[.bool (p),rS t B0 k0]),((pb E1 1),26,[vI 0,vI 0,vI 0])]) (hs:=c_ (bd0 ([]))<|c_ (se_ 1 (hst:=by exact fun _ _ _ hc=>st26 rfl rfl rfl rfl hc))<|c_ mv_<|e_) (k:=fun E6 ac wd h_6=>?_)
  clear h_5
  refine then_n (wp_ret ?_)
  have s8:=h_6.g (t:=8) rfl
  have hc8:=(h_6.st.own 1 _ rfl).2
  have c8_0:=own_cell (o:=0) hc8 rfl
  have c8_1:=own_cell (o:=1) hc8 rfl
  have c8_2:=own_cell (o:=2) hc8 rfl
  have s9:=h_6.g (t:=9) rfl
  refine leave (v:=vT2 (vL 0 0 0) (vI 9)) h_6.df (by simp [results,Tryz.results57,go_sem,Array.getD_eq_getD_getElem?,s8,c8_0,c8_1,c8_2,Tryz.underlying26,s9]) ?_
  obtain ⟨q1,q2,q3,q4⟩:=lab_late g1 hi2
  exact ⟨by rw [q1,q2,q3,q4],h_6.st.below⟩
end Go.Proofs.YtdfkghpgekmmlaaGreat
