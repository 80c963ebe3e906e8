/- Texts F9, F10, F11, F12 of one proof, one behind the other; what nothing here names is left out. -/
import Derived.Test.YtdfkghpgekmmlabGreatZ5
import Derived.Test.YtdfkghpgekmmlabGreatZ4
import Derived.Test.YtdfkghpgekmmlabGreatZ6
import Derived.IntWalk
set_option maxRecDepth 100000
set_option maxHeartbeats 8000000
set_option linter.unusedVariables false
set_option linter.unusedSimpArgs false
namespace Go.Proofs.YtdfkghpgekmmlabGreat
open Go.RowKit
attribute [local go_sem] vN bT bF rS vW vM vL vT2 vT3 vP vI execOp Act.eval evC bigF vB hi_zero lo_zero Tryz.underlying23 Tryz.underlying24 Tryz.underlying26 Tryz.underlying3 Tryz.underlying36
theorem Join_core (w0:World) (d s x:Int) (hd0:-9223372036854775808≤d) (hd1:d < 9223372036854775808) (hs0:-9223372036854775808≤s) (hs1:s < 9223372036854775808) (hx0:-9223372036854775808≤x) (hx1:x < 9223372036854775808):Calls Tryz.prog 25 #[vL d s x] w0 fun e w'=>∃ v,e = .returned v∧Below w0.heap.size w0 w'∧BigN w0.heap.size w' v ((d*86400+s)*1000000000000000000+x):=by
 have hst:=St.start w0 (Θ:=fun _=>True) (fun _ _=>trivial)
 refine enter Tryz.func25 rfl (n:=20) rfl (Nat.le_of_ble_eq_true rfl) hst (L:=[(0,vL d s x)]) (lk_args rfl) (fun ac h=>?_)
 replace h:=h.facts
 refine wp_seq ?_
 refine rf_ h [[0],[1]] [KE_ fun env=>vP (pb env 0) 0,KE_ fun env=>vP (pb env 1) 0] (fun E1=>[(1,vP (pb E1 0) 0),(2,vP (pb E1 1) 0)]) (W:=[{ i:=0,T:=23,c0:=[vI d,vI s,vI x] },{ i:=1,T:=36,c0:=[bF,.slice none 0 0] }]) (M':=fun E1=>[((pb E1 0),23,[vI d,vI s,vI x]),((pb E1 1),36,[bF,.slice none 0 0])]) (hs:=c_ (bx0 0 (vL d s x))<|c_ (al_ 1)<|e_) (k:=fun E1 ac wd h_1=>?_)
 clear h
 refine then_n (wp_seq ?_)
 refine rf_ h_1 [[0],[0,1],[0,1,2],r_ 4,r_ 5,[5],[5,6],r_ 8,r_ 9,[9],r_ 11] [K_ (vP (pb E1 0) 0),K_ (vI d),KE_ fun env=>bigF d (env 2),KE_ fun env=>bigF 86400 (env 3),KE_ fun env=>bigF (d*86400) (env 4),K_ (vP (pb E1 0) 1),K_ (vI s),KE_ fun env=>bigF s (env 7),KE_ fun env=>bigF (d*86400+s) (env 8),KE_ fun env=>vP (pb env 9) 0,none] (fun E2=>[(1,vP (pb E1 0) 0),(2,vP (pb E1 1) 0),(3,vP (pb E2 9) 0)]) (W:=[{ i:=9,T:=36,c0:=[bF,.slice none 0 0],s:=some 10,c1:=fun env=>[.bool (decide (d*86400+s < 0)),rS (d*86400+s) ((bA (env 8))) ((bC (env 8)))] }]) (F:=[(2,fun env w=>BigN w0.heap.size w (env 2) d),(3,fun env w=>BigN w0.heap.size w (env 3) 86400),(4,fun env w=>BigN w0.heap.size w (env 4) (d*86400)),(7,fun env w=>BigN w0.heap.size w (env 7) s),(8,fun env w=>BigN w0.heap.size w (env 8) (d*86400+s))]) (L1:=fun E2=>[fun w=>BigN w0.heap.size w (E2 2) d,fun w=>BigN w0.heap.size w (E2 3) 86400,fun w=>BigN w0.heap.size w (E2 4) (d*86400),fun w=>BigN w0.heap.size w (E2 7) s,fun w=>BigN w0.heap.size w (E2 8) (d*86400+s)]) (M':=fun E2=>[((pb E1 0),23,[vI d,vI s,vI x]),((pb E1 1),36,[bF,.slice none 0 0]),((pb E2 9),36,[.bool (decide (d*86400+s < 0)),rS (d*86400+s) ((bA (E2 8))) ((bC (E2 8)))])]) (hs:=c_ (fa0 (vP (pb E1 0) 0))<|c_ (ld_ 0 (hrd:=by exact rd3 rfl))<|c_ (cb_ Tryz.func34 d (h:=fun _ env _ wd hA=>⟨_,Int_any wd d (by omega) (by omega),rfl⟩))<|c_ (cb_ Tryz.func34 86400 (h:=fun _ env _ wd hA=>⟨_,Int_any wd 86400 (by omega) (by omega),rfl⟩))<|c_ (cb_ Tryz.func35 (d*86400) (h:=fun _ env _ wd hA=>⟨_,Mul_any wd (decide (d < 0)) (bA (env 2)) (bC (env 2)) d rfl (At.bigN hA 2 rfl rfl rfl) (by unfold Sm;omega) (decide (86400 < 0)) (bA (env 3)) (bC (env 3)) 86400 rfl (At.bigN hA 3 rfl rfl rfl) (by unfold Sm;omega),rfl⟩))<|c_ (fa0 (vP (pb E1 0) 0))<|c_ (ld_ 0 (hrd:=by exact rd3 rfl))<|c_ (cb_ Tryz.func34 s (h:=fun _ env _ wd hA=>⟨_,Int_any wd s (by omega) (by omega),rfl⟩))<|c_ (cb_ Tryz.func27 (d*86400+s) (h:=fun _ env _ wd hA=>⟨_,Add_any wd (decide (d*86400 < 0)) (bA (env 4)) (bC (env 4)) (d*86400) rfl (At.bigN hA 4 rfl rfl rfl) (by unfold Sm;omega) (decide (s < 0)) (bA (env 7)) (bC (env 7)) s rfl (At.bigN hA 7 rfl rfl rfl) (by unfold Sm;omega),rfl⟩))<|c_ (al_ 2)<|c_ (sw_ 2 9 (hst:=by exact fun _ _ _ hc=>st36 rfl rfl rfl hc))<|e_) (k:=fun E2 ac wd h_2=>?_)
 clear h_1
 refine then_n (wp_seq ?_)
 refine rf_ h_2 [[0],[1],[0,1,2],[3],[3,4],r_ 6,r_ 7,r_ 8] [K_ (bigF (d*86400+s) (E2 8)),KE_ fun env=>bigF 1000000000000000000 (env 1),KE_ fun env=>bigF ((d*86400+s)*1000000000000000000) (env 2),K_ (vP (pb E1 0) 2),K_ (vI x),KE_ fun env=>bigF x (env 5),KE_ fun env=>bigF ((d*86400+s)*1000000000000000000+x) (env 6),none] (fun E3=>[(2,vP (pb E1 1) 0)]) (S:=[⟨1,7,fun env=>[.bool (decide ((d*86400+s)*1000000000000000000+x < 0)),rS ((d*86400+s)*1000000000000000000+x) ((bA (env 6))) ((bC (env 6)))]⟩]) (F:=[(1,fun env w=>BigN w0.heap.size w (env 1) 1000000000000000000),(2,fun env w=>BigN w0.heap.size w (env 2) ((d*86400+s)*1000000000000000000)),(5,fun env w=>BigN w0.heap.size w (env 5) x),(6,fun env w=>BigN w0.heap.size w (env 6) ((d*86400+s)*1000000000000000000+x))]) (L1:=fun E3=>[fun w=>BigN w0.heap.size w (E2 2) d,fun w=>BigN w0.heap.size w (E2 3) 86400,fun w=>BigN w0.heap.size w (E2 4) (d*86400),fun w=>BigN w0.heap.size w (E2 7) s,fun w=>BigN w0.heap.size w (E2 8) (d*86400+s),fun w=>BigN w0.heap.size w (E3 1) 1000000000000000000,fun w=>BigN w0.heap.size w (E3 2) ((d*86400+s)*1000000000000000000),fun w=>BigN w0.heap.size w (E3 5) x,fun w=>BigN w0.heap.size w (E3 6) ((d*86400+s)*1000000000000000000+x)]) (M':=fun E3=>[((pb E1 0),23,[vI d,vI s,vI x]),((pb E1 1),36,[.bool (decide ((d*86400+s)*1000000000000000000+x < 0)),rS ((d*86400+s)*1000000000000000000+x) ((bA (E3 6))) ((bC (E3 6)))]),((pb E2 9),36,[.bool (decide (d*86400+s < 0)),rS (d*86400+s) ((bA (E2 8))) ((bC (E2 8)))])]) (hs:=c_ (ld_ 2 (hrd:=by exact rd36 rfl rfl))<|c_ (cb_ Tryz.func34 1000000000000000000 (h:=fun _ env _ wd hA=>⟨_,Int_any wd 1000000000000000000 (by omega) (by omega),rfl⟩))<|c_ (cb_ Tryz.func35 ((d*86400+s)*1000000000000000000) (h:=fun _ env _ wd hA=>⟨_,Mul_any wd (decide (d*86400+s < 0)) (bA (E2 8)) (bC (E2 8)) (d*86400+s) rfl (Facts.bigN (hA.j.st.now).1 4 rfl) (by unfold Sm;omega) (decide (1000000000000000000 < 0)) (bA (env 1)) (bC (env 1)) 1000000000000000000 rfl (At.bigN hA 1 rfl rfl rfl) (by unfold Sm;omega),rfl⟩))<|c_ (fa0 (vP (pb E1 0) 0))<|c_ (ld_ 0 (hrd:=by exact rd3 rfl))<|c_ (cb_ Tryz.func34 x (h:=fun _ env _ wd hA=>⟨_,Int_any wd x (by omega) (by omega),rfl⟩))<|c_ (cb_ Tryz.func27 ((d*86400+s)*1000000000000000000+x) (h:=fun _ env _ wd hA=>⟨_,Add_any wd (decide ((d*86400+s)*1000000000000000000 < 0)) (bA (env 2)) (bC (env 2)) ((d*86400+s)*1000000000000000000) rfl (At.bigN hA 2 rfl rfl rfl) (by unfold Sm;omega) (decide (x < 0)) (bA (env 5)) (bC (env 5)) x rfl (At.bigN hA 5 rfl rfl rfl) (by unfold Sm;omega),rfl⟩))<|c_ (se_ 1 (hst:=by exact fun _ _ _ hc=>st36 rfl rfl rfl hc))<|e_) (k:=fun E3 ac wd h_3=>?_)
 clear h_2
 refine then_n (wp_ret ?_)
 have s2:=h_3.g (t:=2) rfl
 have hc2:=(h_3.st.own 1 _ rfl).2
 have c2_0:=own_cell (o:=0) hc2 rfl
 have c2_1:=own_cell (o:=1) hc2 rfl
 refine leave (v:=bigF ((d*86400+s)*1000000000000000000+x) (E3 6)) h_3.df (by simp [results,Tryz.results25,go_sem,Array.getD_eq_getD_getElem?,s2,c2_0,c2_1,Tryz.underlying36]) ?_
 exact ⟨_,rfl,h_3.st.below,BigN.mk rfl rfl (Facts.bN h_3.st.now 8 rfl)⟩
theorem Join_any (w0:World) (d s x:Int) (hd0:-9223372036854775808≤d) (hd1:d < 9223372036854775808) (hs0:-9223372036854775808≤s) (hs1:s < 9223372036854775808) (hx0:-9223372036854775808≤x) (hx1:x < 9223372036854775808):Calls Tryz.prog 25 #[vL d s x] w0 fun e w'=>∃ v,e = .returned v∧Below w0.heap.size w0 w'∧BigN w0.heap.size w' v (jn d s x):=Join_core w0 d s x hd0 hd1 hs0 hs1 hx0 hx1
theorem In_any (n:Int):Ret 12 #[vI n] (.bool (decide (-1099511627776≤n) && decide (n≤1099511627776))):=by
 intro w0
 have hst:=St.start w0 (Θ:=fun _=>True) (fun _ _=>trivial)
 refine enter Tryz.func12 rfl (n:=9) rfl (Nat.le_of_ble_eq_true rfl) hst (L:=[(0,vI n)]) (lk_args rfl) (fun ac h=>?_)
 refine wp_seq ?_
 refine rg_ h [[0]] [K_ bF] (fun E1=>[(0,vI n),(2,bF)]) (hs:=c_ mv_<|e_) (k:=fun E1 ac wd h_1=>?_)
 clear h
 refine then_n (wp_seq ?_)
 by_cases h:-1099511627776≤n
 refine rg_ h_1 (tri 7) [K_ (vI n),K_ bT,K_ bT,K_ (vI n),K_ (.bool (decide (n≤1099511627776))),K_ (.bool (decide (n≤1099511627776))),K_ (.bool (decide (n≤1099511627776)))] (fun E2=>[(2,.bool (decide (n≤1099511627776)))]) (hs:=c_ mv_<|c_ (bi0 (vI n) (vI (-1099511627776)) (h:=by intro env w;simp [go_sem,h]))<|c_ mv_<|c_ (gm0 (vI n))<|c_ (bi0 (vI n) (vI 1099511627776))<|c_ (pk0 bT (.bool (decide (n≤1099511627776))) bF)<|c_ mv_<|e_) (k:=fun E2 ac wd h_2=>?_)
 clear h_1
 refine then_n (wp_ret ?_)
 have s2:=h_2.g (t:=2) rfl
 refine leave (v:=.bool (decide (n≤1099511627776))) h_2.df (by simp [results,Tryz.results12,go_sem,Array.getD_eq_getD_getElem?,s2]) ?_
 exact ⟨by simp [h],h_2.st.below⟩
 refine rg_ h_1 (tri 7) [K_ (vI n),K_ bF,K_ bF,K_ undef,K_ undef,K_ bF,K_ bF] (fun E2=>[(2,bF)]) (hs:=c_ mv_<|c_ (bi0 (vI n) (vI (-1099511627776)) (h:=by intro env w;simp [go_sem,h]))<|c_ mv_<|c_ off_<|c_ off_<|c_ (pk0 bF undef bF)<|c_ mv_<|e_) (k:=fun E2 ac wd h_2=>?_)
 clear h_1
 refine then_n (wp_ret ?_)
 have s2:=h_2.g (t:=2) rfl
 refine leave (v:=.bool false) h_2.df (by simp [results,Tryz.results12,go_sem,Array.getD_eq_getD_getElem?,s2]) ?_
 exact ⟨by simp [h],h_2.st.below⟩
end Go.Proofs.YtdfkghpgekmmlabGreat
namespace Go.Proofs.YtdfkghpgekmmlabGreat
open Go.RowKit
attribute [local go_sem] vN bT bF rS vSg vW vM vL vT2 vT3 vP vI execOp Act.eval evC bigF vB hi_zero lo_zero Tryz.underlying128 Tryz.underlying23 Tryz.underlying36
theorem BigN.eq {B:Nat} {w:World} {v:Value} {z z':Int} (h:BigN B w v z) (e:z=z'):BigN B w v z':=e▸h
end Go.Proofs.YtdfkghpgekmmlabGreat
namespace Go.Proofs.YtdfkghpgekmmlabGreat
open Go.RowKit
attribute [local go_sem] vN bT bF rS vSg vW vM vL vT2 vT3 vP vI execOp Act.eval evC bigF vB hi_zero lo_zero
theorem cmpZ_le {x y:Int}:cmpZ x y≤0↔x≤y:=by unfold cmpZ;split <;> (try split) <;> omega
theorem cmpZ_lt {x y:Int}:cmpZ x y < 0↔x < y:=by unfold cmpZ;split <;> (try split) <;> omega
theorem cmpZ_ge {x y:Int}:0≤cmpZ x y↔y≤x:=by unfold cmpZ;split <;> (try split) <;> omega
theorem cmpZ_gt {x y:Int}:0 < cmpZ x y↔y < x:=by unfold cmpZ;split <;> (try split) <;> omega
end Go.Proofs.YtdfkghpgekmmlabGreat
namespace Go.Proofs.YtdfkghpgekmmlabGreat
open Go.RowKit
attribute [local go_sem] vN bT bF rS vSg vW vM vL vT2 vT3 vP vI execOp Act.eval evC bigF vB hi_zero lo_zero Tryz.underlying23 Tryz.underlying36
theorem BigN.nil {B:Nat} {w:World} {z:Int} (h:z=0):BigN B w (.agg #[.bool false,.slice none 0 0]) z:=by
 subst h
 exact ⟨none,0,by simp [vB,digs_zero],by rw [digs_zero];exact ⟨⟨none,0,rfl,Nat.le_refl _,by simp,.inl rfl⟩,fun b h=>by cases h⟩⟩
end Go.Proofs.YtdfkghpgekmmlabGreat
