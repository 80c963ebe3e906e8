/- Texts F9, F10, F11, F12 of one proof, one behind the other; what nothing here names is left out. -/
import Derived.Test.YtdfkghpgekmmlaaGreatZ5
import Derived.Test.YtdfkghpgekmmlaaGreatZ4
import Derived.Test.YtdfkghpgekmmlaaGreatZ6
import Derived.IntWalk
set_option maxRecDepth 100000
set_option maxHeartbeats 8000000
set_option linter.unusedVariables false
set_option linter.unusedSimpArgs false
namespace Go.Proofs.YtdfkghpgekmmlaaGreat
open Go.RowKit
attribute [local go_sem] vN bT bF rS vW vM vL vT2 vT3 vP vI execOp Act.eval evC bigF vB hi_zero lo_zero Tryz.underlying26 Tryz.underlying3 Tryz.underlying32 Tryz.underlying34 Tryz.underlying39
theorem Join_core (w0:World) (d s x:Int) (hd0:-9223372036854775808≤d) (hd1:d < 9223372036854775808) (hs0:-9223372036854775808≤s) (hs1:s < 9223372036854775808) (hx0:-9223372036854775808≤x) (hx1:x < 9223372036854775808):Calls Tryz.prog 78 #[vL d s x] w0 fun e w'=>∃ v,e = .returned v∧Below w0.heap.size w0 w'∧BigN w0.heap.size w' v ((d*86400+s)*1000000000000000000+x):=by
 have hst:=St.start w0 (Θ:=fun _=>True) (fun _ _=>trivial)
 refine enter Tryz.func78 rfl (n:=20) rfl (Nat.le_of_ble_eq_true rfl) hst (L:=[(0,vL d s x)]) (lk_args rfl) (fun ac h=>?_)
 replace h:=h.facts
 refine wp_seq ?_
 refine rf_ h [[0],[1]] [KE_ fun env=>vP (pb env 0) 0,KE_ fun env=>vP (pb env 1) 0] (fun E1=>[(1,vP (pb E1 0) 0),(2,vP (pb E1 1) 0)]) (W:=[{ i:=0,T:=26,c0:=[vI d,vI s,vI x] },{ i:=1,T:=39,c0:=[bF,.slice none 0 0] }]) (M':=fun E1=>[((pb E1 0),26,[vI d,vI s,vI x]),((pb E1 1),39,[bF,.slice none 0 0])]) (hs:=c_ (bx0 0 (vL d s x))<|c_ (al_ 1)<|e_) (k:=fun E1 ac wd h_1=>?_)
 clear h
 refine then_n (wp_seq ?_)
 refine rf_ h_1 [[0],[0,1],[0,1,2],r_ 4,r_ 5,[5],[5,6],r_ 8,r_ 9,[9],r_ 11] [K_ (vP (pb E1 0) 0),K_ (vI d),KE_ fun env=>bigF d (env 2),KE_ fun env=>bigF 86400 (env 3),KE_ fun env=>bigF (d*86400) (env 4),K_ (vP (pb E1 0) 1),K_ (vI s),KE_ fun env=>bigF s (env 7),KE_ fun env=>bigF (d*86400+s) (env 8),KE_ fun env=>vP (pb env 9) 0,none] (fun E2=>[(1,vP (pb E1 0) 0),(2,vP (pb E1 1) 0),(3,vP (pb E2 9) 0)]) (W:=[{ i:=9,T:=39,c0:=[bF,.slice none 0 0],s:=some 10,c1:=fun env=>[.bool (decide (d*86400+s < 0)),rS (d*86400+s) ((bA (env 8))) ((bC (env 8)))] }]) (F:=[(2,fun env w=>BigN w0.heap.size w (env 2) d),(3,fun env w=>BigN w0.heap.size w (env 3) 86400),(4,fun env w=>BigN w0.heap.size w (env 4) (d*86400)),(7,fun env w=>BigN w0.heap.size w (env 7) s),(8,fun env w=>BigN w0.heap.size w (env 8) (d*86400+s))]) (L1:=fun E2=>[fun w=>BigN w0.heap.size w (E2 2) d,fun w=>BigN w0.heap.size w (E2 3) 86400,fun w=>BigN w0.heap.size w (E2 4) (d*86400),fun w=>BigN w0.heap.size w (E2 7) s,fun w=>BigN w0.heap.size w (E2 8) (d*86400+s)]) (M':=fun E2=>[((pb E1 0),26,[vI d,vI s,vI x]),((pb E1 1),39,[bF,.slice none 0 0]),((pb E2 9),39,[.bool (decide (d*86400+s < 0)),rS (d*86400+s) ((bA (E2 8))) ((bC (E2 8)))])]) (hs:=c_ (fa0 (vP (pb E1 0) 0))<|c_ (ld_ 0 (hrd:=by exact rd3 rfl))<|c_ (cb_ Tryz.func23 d (h:=fun _ env _ wd hA=>⟨_,Int_any wd d (by omega) (by omega),rfl⟩))<|c_ (cb_ Tryz.func23 86400 (h:=fun _ env _ wd hA=>⟨_,Int_any wd 86400 (by omega) (by omega),rfl⟩))<|c_ (cb_ Tryz.func52 (d*86400) (h:=fun _ env _ wd hA=>⟨_,Mul_any wd (decide (d < 0)) (bA (env 2)) (bC (env 2)) d rfl (At.bigN hA 2 rfl rfl rfl) (by unfold Sm;omega) (decide (86400 < 0)) (bA (env 3)) (bC (env 3)) 86400 rfl (At.bigN hA 3 rfl rfl rfl) (by unfold Sm;omega),rfl⟩))<|c_ (fa0 (vP (pb E1 0) 0))<|c_ (ld_ 0 (hrd:=by exact rd3 rfl))<|c_ (cb_ Tryz.func23 s (h:=fun _ env _ wd hA=>⟨_,Int_any wd s (by omega) (by omega),rfl⟩))<|c_ (cb_ Tryz.func51 (d*86400+s) (h:=fun _ env _ wd hA=>⟨_,Add_any wd (decide (d*86400 < 0)) (bA (env 4)) (bC (env 4)) (d*86400) rfl (At.bigN hA 4 rfl rfl rfl) (by unfold Sm;omega) (decide (s < 0)) (bA (env 7)) (bC (env 7)) s rfl (At.bigN hA 7 rfl rfl rfl) (by unfold Sm;omega),rfl⟩))<|c_ (al_ 2)<|c_ (sw_ 2 9 (hst:=by exact fun _ _ _ hc=>st39 rfl rfl rfl hc))<|e_) (k:=fun E2 ac wd h_2=>?_)
 clear h_1
 refine then_n (wp_seq ?_)
 refine rf_ h_2 [[0],[1],[0,1,2],[3],[3,4],r_ 6,r_ 7,r_ 8] [K_ (bigF (d*86400+s) (E2 8)),KE_ fun env=>bigF 1000000000000000000 (env 1),KE_ fun env=>bigF ((d*86400+s)*1000000000000000000) (env 2),K_ (vP (pb E1 0) 2),K_ (vI x),KE_ fun env=>bigF x (env 5),KE_ fun env=>bigF ((d*86400+s)*1000000000000000000+x) (env 6),none] (fun E3=>[(2,vP (pb E1 1) 0)]) (S:=[⟨1,7,fun env=>[.bool (decide ((d*86400+s)*1000000000000000000+x < 0)),rS ((d*86400+s)*1000000000000000000+x) ((bA (env 6))) ((bC (env 6)))]⟩]) (F:=[(1,fun env w=>BigN w0.heap.size w (env 1) 1000000000000000000),(2,fun env w=>BigN w0.heap.size w (env 2) ((d*86400+s)*1000000000000000000)),(5,fun env w=>BigN w0.heap.size w (env 5) x),(6,fun env w=>BigN w0.heap.size w (env 6) ((d*86400+s)*1000000000000000000+x))]) (L1:=fun E3=>[fun w=>BigN w0.heap.size w (E2 2) d,fun w=>BigN w0.heap.size w (E2 3) 86400,fun w=>BigN w0.heap.size w (E2 4) (d*86400),fun w=>BigN w0.heap.size w (E2 7) s,fun w=>BigN w0.heap.size w (E2 8) (d*86400+s),fun w=>BigN w0.heap.size w (E3 1) 1000000000000000000,fun w=>BigN w0.heap.size w (E3 2) ((d*86400+s)*1000000000000000000),fun w=>BigN w0.heap.size w (E3 5) x,fun w=>BigN w0.heap.size w (E3 6) ((d*86400+s)*1000000000000000000+x)]) (M':=fun E3=>[((pb E1 0),26,[vI d,vI s,vI x]),((pb E1 1),39,[.bool (decide ((d*86400+s)*1000000000000000000+x < 0)),rS ((d*86400+s)*1000000000000000000+x) ((bA (E3 6))) ((bC (E3 6)))]),((pb E2 9),39,[.bool (decide (d*86400+s < 0)),rS (d*86400+s) ((bA (E2 8))) ((bC (E2 8)))])]) (hs:=c_ (ld_ 2 (hrd:=by exact rd39 rfl rfl))<|c_ (cb_ Tryz.func23 1000000000000000000 (h:=fun _ env _ wd hA=>⟨_,Int_any wd 1000000000000000000 (by omega) (by omega),rfl⟩))<|c_ (cb_ Tryz.func52 ((d*86400+s)*1000000000000000000) (h:=fun _ env _ wd hA=>⟨_,Mul_any wd (decide (d*86400+s < 0)) (bA (E2 8)) (bC (E2 8)) (d*86400+s) rfl (Facts.bigN (hA.j.st.now).1 4 rfl) (by unfold Sm;omega) (decide (1000000000000000000 < 0)) (bA (env 1)) (bC (env 1)) 1000000000000000000 rfl (At.bigN hA 1 rfl rfl rfl) (by unfold Sm;omega),rfl⟩))<|c_ (fa0 (vP (pb E1 0) 0))<|c_ (ld_ 0 (hrd:=by exact rd3 rfl))<|c_ (cb_ Tryz.func23 x (h:=fun _ env _ wd hA=>⟨_,Int_any wd x (by omega) (by omega),rfl⟩))<|c_ (cb_ Tryz.func51 ((d*86400+s)*1000000000000000000+x) (h:=fun _ env _ wd hA=>⟨_,Add_any wd (decide ((d*86400+s)*1000000000000000000 < 0)) (bA (env 2)) (bC (env 2)) ((d*86400+s)*1000000000000000000) rfl (At.bigN hA 2 rfl rfl rfl) (by unfold Sm;omega) (decide (x < 0)) (bA (env 5)) (bC (env 5)) x rfl (At.bigN hA 5 rfl rfl rfl) (by unfold Sm;omega),rfl⟩))<|c_ (se_ 1 (hst:=by exact fun _ _ _ hc=>st39 rfl rfl rfl hc))<|e_) (k:=fun E3 ac wd h_3=>?_)
 clear h_2
 refine then_n (wp_ret ?_)
 have s2:=h_3.g (t:=2) rfl
 have hc2:=(h_3.st.own 1 _ rfl).2
 have c2_0:=own_cell (o:=0) hc2 rfl
 have c2_1:=own_cell (o:=1) hc2 rfl
 refine leave (v:=bigF ((d*86400+s)*1000000000000000000+x) (E3 6)) h_3.df (by simp [results,Tryz.results78,go_sem,Array.getD_eq_getD_getElem?,s2,c2_0,c2_1,Tryz.underlying39]) ?_
 exact ⟨_,rfl,h_3.st.below,BigN.mk rfl rfl (Facts.bN h_3.st.now 8 rfl)⟩
theorem Join_any (w0:World) (d s x:Int) (hd0:-9223372036854775808≤d) (hd1:d < 9223372036854775808) (hs0:-9223372036854775808≤s) (hs1:s < 9223372036854775808) (hx0:-9223372036854775808≤x) (hx1:x < 9223372036854775808):Calls Tryz.prog 78 #[vL d s x] w0 fun e w'=>∃ v,e = .returned v∧Below w0.heap.size w0 w'∧BigN w0.heap.size w' v (jn d s x):=Join_core w0 d s x hd0 hd1 hs0 hs1 hx0 hx1
theorem In_any (n:Int):Ret 75 #[vI n] (.bool (decide (-1099511627776≤n) && decide (n≤1099511627776))):=by
 intro w0
 have hst:=St.start w0 (Θ:=fun _=>True) (fun _ _=>trivial)
 refine enter Tryz.func75 rfl (n:=9) rfl (Nat.le_of_ble_eq_true rfl) hst (L:=[(0,vI n)]) (lk_args rfl) (fun ac h=>?_)
 refine wp_seq ?_
 refine rg_ h [[0]] [K_ bF] (fun E1=>[(0,vI n),(2,bF)]) (hs:=c_ mv_<|e_) (k:=fun E1 ac wd h_1=>?_)
 clear h
 refine then_n (wp_seq ?_)
 by_cases h:-1099511627776≤n
 refine rg_ h_1 (tri 7) [K_ (vI n),K_ bT,K_ bT,K_ (vI n),K_ (.bool (decide (n≤1099511627776))),K_ (.bool (decide (n≤1099511627776))),K_ (.bool (decide (n≤1099511627776)))] (fun E2=>[(2,.bool (decide (n≤1099511627776)))]) (hs:=c_ mv_<|c_ (bi0 (vI n) (vI (-1099511627776)) (h:=by intro env w;simp [go_sem,h]))<|c_ mv_<|c_ (gm0 (vI n))<|c_ (bi0 (vI n) (vI 1099511627776))<|c_ (pk0 bT (.bool (decide (n≤1099511627776))) bF)<|c_ mv_<|e_) (k:=fun E2 ac wd h_2=>?_)
 clear h_1
 refine then_n (wp_ret ?_)
 have s2:=h_2.g (t:=2) rfl
 refine leave (v:=.bool (decide (n≤1099511627776))) h_2.df (by simp [results,Tryz.results75,go_sem,Array.getD_eq_getD_getElem?,s2]) ?_
 exact ⟨by simp [h],h_2.st.below⟩
 refine rg_ h_1 (tri 7) [K_ (vI n),K_ bF,K_ bF,K_ undef,K_ undef,K_ bF,K_ bF] (fun E2=>[(2,bF)]) (hs:=c_ mv_<|c_ (bi0 (vI n) (vI (-1099511627776)) (h:=by intro env w;simp [go_sem,h]))<|c_ mv_<|c_ off_<|c_ off_<|c_ (pk0 bF undef bF)<|c_ mv_<|e_) (k:=fun E2 ac wd h_2=>?_)
 clear h_1
 refine then_n (wp_ret ?_)
 have s2:=h_2.g (t:=2) rfl
 refine leave (v:=.bool false) h_2.df (by simp [results,Tryz.results75,go_sem,Array.getD_eq_getD_getElem?,s2]) ?_
 exact ⟨by simp [h],h_2.st.below⟩
end Go.Proofs.YtdfkghpgekmmlaaGreat
namespace Go.Proofs.YtdfkghpgekmmlaaGreat
open Go.RowKit
attribute [local go_sem] vN bT bF rS vSg vW vM vL vT2 vT3 vP vI execOp Act.eval evC bigF vB hi_zero lo_zero Tryz.underlying128 Tryz.underlying26 Tryz.underlying39
theorem BigN.eq {B:Nat} {w:World} {v:Value} {z z':Int} (h:BigN B w v z) (e:z=z'):BigN B w v z':=e▸h
theorem runit_any (w0:World) (n:Int) (h0:-9223372036854775808≤n) (h1:n < 9223372036854775808):Calls Tryz.prog 113 #[vI n] w0 fun e w'=>∃ v,e = .returned v∧Below w0.heap.size w0 w'∧BigN w0.heap.size w' v (n*100000000000):=by
 have hst:=St.start w0 (Θ:=fun _=>True) (fun _ _=>trivial)
 refine enter Tryz.func113 rfl (n:=7) rfl (Nat.le_of_ble_eq_true rfl) hst (L:=[(0,vI n)]) (lk_args rfl) (fun ac h=>?_)
 replace h:=h.facts
 refine wp_seq ?_
 refine rf_ h [[0]] [KE_ fun env=>vP (pb env 0) 0] (fun E1=>[(0,vI n),(2,vP (pb E1 0) 0)]) (W:=[{ i:=0,T:=39,c0:=[bF,.slice none 0 0] }]) (M':=fun E1=>[((pb E1 0),39,[bF,.slice none 0 0])]) (hs:=c_ (al_ 0)<|e_) (k:=fun E1 ac wd h_1=>?_)
 clear h
 refine then_n (wp_seq ?_)
 refine rf_ h_1 (tri 5) [K_ (vI n),KE_ fun env=>bigF n (env 1),KE_ fun env=>bigF 100000000000 (env 2),KE_ fun env=>bigF (n*100000000000) (env 3),none] (fun E2=>[(2,vP (pb E1 0) 0)]) (S:=[⟨0,4,fun env=>[.bool (decide (n*100000000000 < 0)),rS (n*100000000000) ((bA (env 3))) ((bC (env 3)))]⟩]) (F:=[(1,fun env w=>BigN w0.heap.size w (env 1) n),(2,fun env w=>BigN w0.heap.size w (env 2) 100000000000),(3,fun env w=>BigN w0.heap.size w (env 3) (n*100000000000))]) (L1:=fun E2=>[fun w=>BigN w0.heap.size w (E2 1) n,fun w=>BigN w0.heap.size w (E2 2) 100000000000,fun w=>BigN w0.heap.size w (E2 3) (n*100000000000)]) (M':=fun E2=>[((pb E1 0),39,[.bool (decide (n*100000000000 < 0)),rS (n*100000000000) ((bA (E2 3))) ((bC (E2 3)))])]) (hs:=c_ mv_<|c_ (cb_ Tryz.func23 n (h:=fun _ env _ wd hA=>⟨_,Int_any wd n (by omega) (by omega),rfl⟩))<|c_ (cb_ Tryz.func23 100000000000 (h:=fun _ env _ wd hA=>⟨_,Int_any wd 100000000000 (by omega) (by omega),rfl⟩))<|c_ (cb_ Tryz.func52 (n*100000000000) (h:=fun _ env _ wd hA=>⟨_,Mul_any wd (decide (n < 0)) (bA (env 1)) (bC (env 1)) n rfl (At.bigN hA 1 rfl rfl rfl) (by unfold Sm;omega) (decide (100000000000 < 0)) (bA (env 2)) (bC (env 2)) 100000000000 rfl (At.bigN hA 2 rfl rfl rfl) (by unfold Sm;omega),rfl⟩))<|c_ (se_ 0 (hst:=by exact fun _ _ _ hc=>st39 rfl rfl rfl hc))<|e_) (k:=fun E2 ac wd h_2=>?_)
 clear h_1
 refine then_n (wp_ret ?_)
 have s2:=h_2.g (t:=2) rfl
 have hc2:=(h_2.st.own 0 _ rfl).2
 have c2_0:=own_cell (o:=0) hc2 rfl
 have c2_1:=own_cell (o:=1) hc2 rfl
 refine leave (v:=bigF (n*100000000000) (E2 3)) h_2.df (by simp [results,Tryz.results113,go_sem,Array.getD_eq_getD_getElem?,s2,c2_0,c2_1,Tryz.underlying39]) ?_
 exact ⟨_,rfl,h_2.st.below,BigN.mk rfl rfl (Facts.bN h_2.st.now 2 rfl)⟩
theorem F_sm {s:Sg} (hs:SgOk s) {u:Int} (hu0:-1000000000000000000000000000000000000000000000000000000000000≤u) (hu1:u≤1000000000000000000000000000000000000000000000000000000000000):Sm u∧Sm (jn s.f 0 0)∧Sm (s.r*100000000000*(u-jn s.f 0 0))∧Sm (s.r*100000000000*(u-jn s.f 0 0) / jn 1 0 0):=by
  have h1:=hs.f0;have h2:=hs.f1;have h3:=hs.r0;have h4:=hs.r1
  have hj:-100000000000000000000000000000≤jn s.f 0 0∧jn s.f 0 0≤100000000000000000000000000000:=by unfold jn;omega
  have hm:=mul_abs (a:=s.r*100000000000) (b:=u-jn s.f 0 0) (A:=100000000000000000) (B:=10000000000000000000000000000000000000000000000000000000000000) (by omega) (by omega) (by omega) (by omega) (by omega)
  have e:jn 1 0 0=86400000000000000000000:=by unfold jn;omega
  refine ⟨by unfold Sm;omega,by unfold Sm;omega,by unfold Sm;omega,?_⟩
  rw [e]
  unfold Sm
  constructor
  · exact Int.le_ediv_of_mul_le (by omega) (by omega)
  · exact Int.ediv_le_of_le_mul (by omega) (by omega)
theorem F_any (w0:World) (s:Sg) (hs:SgOk s) (p:Bool) (A0:Option Addr) (c0:Nat) (u:Int) (hp:p=decide (u < 0)) (hr:Row w0 (.slice A0 (digs u).length c0) (digs u)) (hu0:-1000000000000000000000000000000000000000000000000000000000000≤u) (hu1:u≤1000000000000000000000000000000000000000000000000000000000000):Calls Tryz.prog 77 #[vSg s,.agg #[.bool (p),.slice A0 ((digs u).length) c0]] w0 fun e w'=>∃ v,e = .returned v∧Below w0.heap.size w0 w'∧BigN w0.heap.size w' v (fS s u):=by
 obtain ⟨hsu,hsj,hsm,hsg⟩:=F_sm hs hu0 hu1
 have h1:=hs.f0;have h2:=hs.f1;have h3:=hs.r0;have h4:=hs.r1;have h5:=hs.b0;have h6:=hs.b1
 have hj:-100000000000000000000000000000≤jn s.f 0 0∧jn s.f 0 0≤100000000000000000000000000000:=by unfold jn;omega
 have hd0:0 < jn 1 0 0:=by unfold jn;omega
 have hsd:Sm (jn 1 0 0):=by unfold jn Sm;omega
 have hst:=St.start w0 (Θ:=fun _=>True) (fun _ _=>trivial)
 refine enter Tryz.func77 rfl (n:=32) rfl (Nat.le_of_ble_eq_true rfl) hst (L:=[(0,vSg s),(1,.agg #[.bool (p),.slice A0 ((digs u).length) c0])]) (lk_args rfl) (fun ac h=>?_)
 replace h:=h.facts
 refine wp_seq ?_
 refine rf_ h [[0],[1],[2]] [KE_ fun env=>vP (pb env 0) 0,KE_ fun env=>vP (pb env 1) 0,KE_ fun env=>vP (pb env 2) 0] (fun E1=>[(2,vP (pb E1 0) 0),(3,vP (pb E1 1) 0),(4,vP (pb E1 2) 0)]) (W:=[{ i:=0,T:=128,c0:=[vI (s.d),vI (s.b),vI (s.f),vI (s.r)] },{ i:=1,T:=39,c0:=[.bool (p),rS u A0 c0] },{ i:=2,T:=39,c0:=[bF,.slice none 0 0] }]) (M':=fun E1=>[((pb E1 0),128,[vI (s.d),vI (s.b),vI (s.f),vI (s.r)]),((pb E1 1),39,[.bool (p),rS u A0 c0]),((pb E1 2),39,[bF,.slice none 0 0])]) (hs:=c_ (bx0 0 (vSg s))<|c_ (bx0 1 (.agg #[.bool (p),rS u A0 c0]))<|c_ (al_ 2)<|e_) (k:=fun E1 ac wd h_1=>?_)
 clear h
 refine then_n (wp_seq ?_)
 refine rf_ h_1 [[0],[0,1],[2],r_ 4] [K_ (vL 1 0 0),KE_ fun env=>bigF (jn 1 0 0) (env 1),KE_ fun env=>vP (pb env 2) 0,none] (fun E2=>[(2,vP (pb E1 0) 0),(3,vP (pb E1 1) 0),(4,vP (pb E1 2) 0),(5,vP (pb E2 2) 0)]) (W:=[{ i:=2,T:=39,c0:=[bF,.slice none 0 0],s:=some 3,c1:=fun env=>[.bool (decide (jn 1 0 0 < 0)),rS (jn 1 0 0) ((bA (env 1))) ((bC (env 1)))] }]) (F:=[(1,fun env w=>BigN w0.heap.size w (env 1) (jn 1 0 0))]) (L1:=fun E2=>[fun w=>BigN w0.heap.size w (E2 1) (jn 1 0 0)]) (M':=fun E2=>[((pb E1 0),128,[vI (s.d),vI (s.b),vI (s.f),vI (s.r)]),((pb E1 1),39,[.bool (p),rS u A0 c0]),((pb E1 2),39,[bF,.slice none 0 0]),((pb E2 2),39,[.bool (decide (jn 1 0 0 < 0)),rS (jn 1 0 0) ((bA (E2 1))) ((bC (E2 1)))])]) (hs:=c_ (bd0 ([vI 1]))<|c_ (cb_ Tryz.func78 (jn 1 0 0) (h:=fun _ env _ wd hA=>⟨_,Join_any wd 1 0 0 (by omega) (by omega) (by omega) (by omega) (by omega) (by omega),rfl⟩))<|c_ (al_ 3)<|c_ (sw_ 3 2 (hst:=by exact fun _ _ _ hc=>st39 rfl rfl rfl hc))<|e_) (k:=fun E2 ac wd h_2=>?_)
 clear h_1
 refine then_n (wp_seq ?_)
 refine rf_ h_2 [[0],[0,1],[0,1,2],[3],[4],[4,5],[4,5,6],[0,1,2,4,5,6,7],r_ 9,r_ 10,[10],r_ 12,r_ 13,r_ 14,[0,1,2,3,4,5,6,7,8,9,10,11,12,14],[15],[16],[0,1,2,3,4,5,6,7,8,9,10,11,12,13,15,16,17],r_ 19] [K_ (vP (pb E1 0) 3),K_ (vI (s.r)),KE_ fun env=>bigF (s.r*100000000000) (env 2),K_ (.agg #[.bool (p),rS u A0 c0]),K_ (vP (pb E1 0) 2),K_ (vI (s.f)),K_ (vL s.f 0 0),KE_ fun env=>bigF (jn s.f 0 0) (env 7),KE_ fun env=>bigF (u-jn s.f 0 0) (env 8),KE_ fun env=>bigF (s.r*100000000000*(u-jn s.f 0 0)) (env 9),K_ (bigF (jn 1 0 0) (E2 1)),KE_ fun env=>vT2 (bigF (s.r*100000000000*(u-jn s.f 0 0) / jn 1 0 0) (tp (env 11) 0)) (bigF (s.r*100000000000*(u-jn s.f 0 0) % jn 1 0 0) (tp (env 11) 1)),KE_ fun env=>vT2 (bigF (s.r*100000000000*(u-jn s.f 0 0) / jn 1 0 0) (tp (env 11) 0)) (bigF (s.r*100000000000*(u-jn s.f 0 0) % jn 1 0 0) (tp (env 11) 1)),KE_ fun env=>bigF (s.r*100000000000*(u-jn s.f 0 0) / jn 1 0 0) (tp (env 11) 0),KE_ fun env=>bigF (s.r*100000000000*(u-jn s.f 0 0) % jn 1 0 0) (tp (env 11) 1),KE_ fun env=>vP (pb env 15) 0,KE_ fun env=>vP (pb env 16) 0,none,none] (fun E3=>[(2,vP (pb E1 0) 0),(3,vP (pb E1 1) 0),(4,vP (pb E1 2) 0),(6,vP (pb E3 15) 0)]) (W:=[{ i:=15,T:=39,c0:=[bF,.slice none 0 0],s:=some 17,c1:=fun env=>[.bool (decide (s.r*100000000000*(u-jn s.f 0 0) / jn 1 0 0 < 0)),rS (s.r*100000000000*(u-jn s.f 0 0) / jn 1 0 0) ((bA (tp (env 11) 0))) ((bC (tp (env 11) 0)))] },{ i:=16,T:=39,c0:=[bF,.slice none 0 0],s:=some 18,c1:=fun env=>[.bool (decide (s.r*100000000000*(u-jn s.f 0 0) % jn 1 0 0 < 0)),rS (s.r*100000000000*(u-jn s.f 0 0) % jn 1 0 0) ((bA (tp (env 11) 1))) ((bC (tp (env 11) 1)))] }]) (F:=[(2,fun env w=>BigN w0.heap.size w (env 2) (s.r*100000000000)),(7,fun env w=>BigN w0.heap.size w (env 7) (jn s.f 0 0)),(8,fun env w=>BigN w0.heap.size w (env 8) (u-jn s.f 0 0)),(9,fun env w=>BigN w0.heap.size w (env 9) (s.r*100000000000*(u-jn s.f 0 0))),(11,fun env w=>DivX w (env 11) (s.r*100000000000*(u-jn s.f 0 0) / jn 1 0 0) (s.r*100000000000*(u-jn s.f 0 0) % jn 1 0 0))]) (L1:=fun E3=>[fun w=>BigN w0.heap.size w (E2 1) (jn 1 0 0),fun w=>BigN w0.heap.size w (E3 2) (s.r*100000000000),fun w=>BigN w0.heap.size w (E3 7) (jn s.f 0 0),fun w=>BigN w0.heap.size w (E3 8) (u-jn s.f 0 0),fun w=>BigN w0.heap.size w (E3 9) (s.r*100000000000*(u-jn s.f 0 0)),fun w=>DivX w (E3 11) (s.r*100000000000*(u-jn s.f 0 0) / jn 1 0 0) (s.r*100000000000*(u-jn s.f 0 0) % jn 1 0 0)]) (M':=fun E3=>[((pb E1 0),128,[vI (s.d),vI (s.b),vI (s.f),vI (s.r)]),((pb E1 1),39,[.bool (p),rS u A0 c0]),((pb E1 2),39,[bF,.slice none 0 0]),((pb E2 2),39,[.bool (decide (jn 1 0 0 < 0)),rS (jn 1 0 0) ((bA (E2 1))) ((bC (E2 1)))]),((pb E3 15),39,[.bool (decide (s.r*100000000000*(u-jn s.f 0 0) / jn 1 0 0 < 0)),rS (s.r*100000000000*(u-jn s.f 0 0) / jn 1 0 0) ((bA (tp (E3 11) 0))) ((bC (tp (E3 11) 0)))]),((pb E3 16),39,[.bool (decide (s.r*100000000000*(u-jn s.f 0 0) % jn 1 0 0 < 0)),rS (s.r*100000000000*(u-jn s.f 0 0) % jn 1 0 0) ((bA (tp (E3 11) 1))) ((bC (tp (E3 11) 1)))])]) (hs:=c_ (fa0 (vP (pb E1 0) 0))<|c_ (ld_ 0 (hrd:=by exact rd3 rfl))<|c_ (cb_ Tryz.func113 (s.r*100000000000) (h:=fun _ env _ wd hA=>⟨_,runit_any wd s.r (by omega) (by omega),rfl⟩))<|c_ (ld_ 1 (hrd:=by exact rd39 rfl rfl))<|c_ (fa0 (vP (pb E1 0) 0))<|c_ (ld_ 0 (hrd:=by exact rd3 rfl))<|c_ (bd0 ([vI (s.f)]))<|c_ (cb_ Tryz.func78 (jn s.f 0 0) (h:=fun _ env _ wd hA=>⟨_,Join_any wd s.f 0 0 (by omega) (by omega) (by omega) (by omega) (by omega) (by omega),rfl⟩))<|c_ (cb_ Tryz.func22 (u-jn s.f 0 0) (h:=fun _ env _ wd hA=>⟨_,Sub_any wd p A0 c0 u hp (hr.grown hA.j.st.gr) hsu (decide (jn s.f 0 0 < 0)) (bA (env 7)) (bC (env 7)) (jn s.f 0 0) rfl (At.bigN hA 7 rfl rfl rfl) hsj,rfl⟩))<|c_ (cb_ Tryz.func52 (s.r*100000000000*(u-jn s.f 0 0)) (h:=fun _ env _ wd hA=>⟨_,Mul_any wd (decide (s.r*100000000000 < 0)) (bA (env 2)) (bC (env 2)) (s.r*100000000000) rfl (At.bigN hA 2 rfl rfl rfl) (by unfold Sm;omega) (decide (u-jn s.f 0 0 < 0)) (bA (env 8)) (bC (env 8)) (u-jn s.f 0 0) rfl (At.bigN hA 8 rfl rfl rfl) (by unfold Sm;omega),rfl⟩))<|c_ (ld_ 3 (hrd:=by exact rd39 rfl rfl))<|c_ (cf_ Tryz.func112 (fun v w=>DivX w v (s.r*100000000000*(u-jn s.f 0 0) / jn 1 0 0) (s.r*100000000000*(u-jn s.f 0 0) % jn 1 0 0)) (divF (s.r*100000000000*(u-jn s.f 0 0) / jn 1 0 0) (s.r*100000000000*(u-jn s.f 0 0) % jn 1 0 0)) (h:=fun _ env _ wd hA=>⟨_,toD (Div_any wd (decide (s.r*100000000000*(u-jn s.f 0 0) < 0)) (bA (env 9)) (bC (env 9)) (s.r*100000000000*(u-jn s.f 0 0)) rfl (At.bigN hA 9 rfl rfl rfl) hsm (decide (jn 1 0 0 < 0)) (bA (E2 1)) (bC (E2 1)) (jn 1 0 0) rfl (Facts.bigN (hA.j.st.now).1 0 rfl) hsd hd0),rfl⟩))<|c_ mv_<|c_ ext_<|c_ ext_<|c_ (al_ 4)<|c_ (al_ 5)<|c_ (sw_ 4 15 (hst:=by exact fun _ _ _ hc=>st39 rfl rfl rfl hc))<|c_ (sw_ 5 16 (hst:=by exact fun _ _ _ hc=>st39 rfl rfl rfl hc))<|e_) (k:=fun E3 ac wd h_3=>?_)
 clear h_2
 refine then_n (wp_seq ?_)
 refine rf_ h_3 [[0],[1],[1,2],[1,2,3],r_ 5,[5],r_ 7,r_ 8] [K_ (.agg #[.bool (p),rS u A0 c0]),K_ (vP (pb E1 0) 1),K_ (vI (s.b)),KE_ fun env=>bigF (s.b*100000000000) (env 3),KE_ fun env=>bigF (u+s.b*100000000000) (env 4),K_ (bigF (s.r*100000000000*(u-jn s.f 0 0) / jn 1 0 0) (tp (E3 11) 0)),KE_ fun env=>bigF (u+s.b*100000000000+s.r*100000000000*(u-jn s.f 0 0) / jn 1 0 0) (env 6),none] (fun E4=>[(4,vP (pb E1 2) 0)]) (S:=[⟨2,7,fun env=>[.bool (decide (u+s.b*100000000000+s.r*100000000000*(u-jn s.f 0 0) / jn 1 0 0 < 0)),rS (u+s.b*100000000000+s.r*100000000000*(u-jn s.f 0 0) / jn 1 0 0) ((bA (env 6))) ((bC (env 6)))]⟩]) (F:=[(3,fun env w=>BigN w0.heap.size w (env 3) (s.b*100000000000)),(4,fun env w=>BigN w0.heap.size w (env 4) (u+s.b*100000000000)),(6,fun env w=>BigN w0.heap.size w (env 6) (u+s.b*100000000000+s.r*100000000000*(u-jn s.f 0 0) / jn 1 0 0))]) (L1:=fun E4=>[fun w=>BigN w0.heap.size w (E2 1) (jn 1 0 0),fun w=>BigN w0.heap.size w (E3 2) (s.r*100000000000),fun w=>BigN w0.heap.size w (E3 7) (jn s.f 0 0),fun w=>BigN w0.heap.size w (E3 8) (u-jn s.f 0 0),fun w=>BigN w0.heap.size w (E3 9) (s.r*100000000000*(u-jn s.f 0 0)),fun w=>DivX w (E3 11) (s.r*100000000000*(u-jn s.f 0 0) / jn 1 0 0) (s.r*100000000000*(u-jn s.f 0 0) % jn 1 0 0),fun w=>BigN w0.heap.size w (E4 3) (s.b*100000000000),fun w=>BigN w0.heap.size w (E4 4) (u+s.b*100000000000),fun w=>BigN w0.heap.size w (E4 6) (u+s.b*100000000000+s.r*100000000000*(u-jn s.f 0 0) / jn 1 0 0)]) (M':=fun E4=>[((pb E1 0),128,[vI (s.d),vI (s.b),vI (s.f),vI (s.r)]),((pb E1 1),39,[.bool (p),rS u A0 c0]),((pb E1 2),39,[.bool (decide (u+s.b*100000000000+s.r*100000000000*(u-jn s.f 0 0) / jn 1 0 0 < 0)),rS (u+s.b*100000000000+s.r*100000000000*(u-jn s.f 0 0) / jn 1 0 0) ((bA (E4 6))) ((bC (E4 6)))]),((pb E2 2),39,[.bool (decide (jn 1 0 0 < 0)),rS (jn 1 0 0) ((bA (E2 1))) ((bC (E2 1)))]),((pb E3 15),39,[.bool (decide (s.r*100000000000*(u-jn s.f 0 0) / jn 1 0 0 < 0)),rS (s.r*100000000000*(u-jn s.f 0 0) / jn 1 0 0) ((bA (tp (E3 11) 0))) ((bC (tp (E3 11) 0)))]),((pb E3 16),39,[.bool (decide (s.r*100000000000*(u-jn s.f 0 0) % jn 1 0 0 < 0)),rS (s.r*100000000000*(u-jn s.f 0 0) % jn 1 0 0) ((bA (tp (E3 11) 1))) ((bC (tp (E3 11) 1)))])]) (hs:=c_ (ld_ 1 (hrd:=by exact rd39 rfl rfl))<|c_ (fa0 (vP (pb E1 0) 0))<|c_ (ld_ 0 (hrd:=by exact rd3 rfl))<|c_ (cb_ Tryz.func113 (s.b*100000000000) (h:=fun _ env _ wd hA=>⟨_,runit_any wd s.b (by omega) (by omega),rfl⟩))<|c_ (cb_ Tryz.func51 (u+s.b*100000000000) (h:=fun _ env _ wd hA=>⟨_,Add_any wd p A0 c0 u hp (hr.grown hA.j.st.gr) hsu (decide (s.b*100000000000 < 0)) (bA (env 3)) (bC (env 3)) (s.b*100000000000) rfl (At.bigN hA 3 rfl rfl rfl) (by unfold Sm;omega),rfl⟩))<|c_ (ld_ 4 (hrd:=by exact rd39 rfl rfl))<|c_ (cb_ Tryz.func51 (u+s.b*100000000000+s.r*100000000000*(u-jn s.f 0 0) / jn 1 0 0) (h:=fun _ env _ wd hA=>⟨_,Add_any wd (decide (u+s.b*100000000000 < 0)) (bA (env 4)) (bC (env 4)) (u+s.b*100000000000) rfl (At.bigN hA 4 rfl rfl rfl) (by unfold Sm;omega) (decide (s.r*100000000000*(u-jn s.f 0 0) / jn 1 0 0 < 0)) (bA (tp (E3 11) 0)) (bC (tp (E3 11) 0)) (s.r*100000000000*(u-jn s.f 0 0) / jn 1 0 0) rfl (Facts.div1 (hA.j.st.now).1 5 rfl) hsg,rfl⟩))<|c_ (se_ 2 (hst:=by exact fun _ _ _ hc=>st39 rfl rfl rfl hc))<|e_) (k:=fun E4 ac wd h_4=>?_)
 clear h_3
 refine then_n (wp_ret ?_)
 have s4:=h_4.g (t:=4) rfl
 have hc4:=(h_4.st.own 2 _ rfl).2
 have c4_0:=own_cell (o:=0) hc4 rfl
 have c4_1:=own_cell (o:=1) hc4 rfl
 refine leave (v:=bigF (u+s.b*100000000000+s.r*100000000000*(u-jn s.f 0 0) / jn 1 0 0) (E4 6)) h_4.df (by simp [results,Tryz.results77,go_sem,Array.getD_eq_getD_getElem?,s4,c4_0,c4_1,Tryz.underlying39]) ?_
 exact ⟨_,rfl,h_4.st.below,BigN.eq (BigN.mk rfl rfl (Facts.bN h_4.st.now 8 rfl)) (by unfold fS fA;rw [dayA_eq,Int.mul_comm (s.r*100000000000) (u-jn s.f 0 0)])⟩
theorem Until_any (w0:World) (A0:Option Addr) (c0:Nat) (l:List Sg) (hl:SegU w0 (.slice A0 l.length c0) l) (day:Int) (i:Nat) (hi:i < 1000):Calls Tryz.prog 79 #[.slice A0 l.length c0,vI day,vI (((i:Nat):Int))] w0 fun e w'=>e = .returned (vI (untS l day i))∧Below w0.heap.size w0 w':=by
 have hst:=St.start w0 (Θ:=fun _=>True) (fun _ _=>trivial)
 refine enter Tryz.func79 rfl (n:=19) rfl (Nat.le_of_ble_eq_true rfl) hst (L:=[(0,.slice A0 l.length c0),(1,vI day),(2,vI (((i:Nat):Int)))]) (lk_args rfl) (fun ac h=>?_)
 replace h:=h.facts
 refine wp_seq ?_
 refine rf_ h [[0]] [K_ (vI 0)] (fun E1=>[(0,.slice A0 l.length c0),(1,vI day),(2,vN i),(6,vI 0)]) (hs:=c_ mv_<|e_) (k:=fun E1 ac wd h_1=>?_)
 clear h
 refine then_n (wp_seq (wp_seq ?_))
 by_cases h:i+1 < l.length
 refine rf_ h_1 [[0],[0,1],[2],[2,3],r_ 5] [K_ (vN i),K_ (vI (((i:Nat):Int)+1)),K_ (.slice A0 l.length c0),K_ (vN l.length),K_ bT] (fun E2=>[(0,.slice A0 l.length c0),(1,vI day),(2,vN i),(6,vI 0),(11,bT)]) (hs:=c_ mv_<|c_ (bi0 (vN i) (vI 1))<|c_ mv_<|c_ (ln_ Tryz.underlying82 fun _ env _ wd hA=>(hl.grown hA.j.st.gr).els)<|c_ (bi0 (vI (((i:Nat):Int)+1)) (vN l.length))<|e_) (k:=fun E2 ac wd h_2=>?_)
 clear h_1
 refine then_n ?_
 refine wp_cond_true (eval_tmp (h_2.g (t:=11) rfl)) ?_
 refine wp_seq ?_
 refine rf_ h_2 [[0],[1],[1,2],r_ 4,r_ 5,r_ 6,r_ 7] [K_ (.slice A0 l.length c0),K_ (vN i),K_ (vI (((i:Nat):Int)+1)),K_ (elt (.slice A0 l.length c0) ((i+1)*4)),K_ (elt (.slice A0 l.length c0) ((i+1)*4)),K_ (vI ((sgi l (i+1)).d)),K_ (vI ((sgi l (i+1)).d))] (fun E3=>[(1,vI day),(6,vI ((sgi l (i+1)).d))]) (hs:=c_ mv_<|c_ mv_<|c_ (bi0 (vN i) (vI 1))<|c_ (ia_ Tryz.underlying82 sz128 (i+1) ((i+1)*4) (((i:Nat):Int)+1) (fun _ env _ wd hA=>(hl.grown hA.j.st.gr).els) (by omega) (by omega) rfl)<|c_ (s_fa rfl rfl rfl (fun _=>wanted_none rfl _) ((i+1)*4) 0 ((i+1)*4) rfl (s:=fun _=>.slice A0 l.length c0) rfl (fun _=>rfl) (fun {D env ac wd} hA=>(hl.grown hA.j.st.gr).els) (by omega) (fun b q w=>by simp [go_sem,Tryz.underlying128]))<|c_ (le_ ((i+1)*4) (fun _ env _ wd hA=>(hl.grown hA.j.st.gr).els) (by omega) (le3 (by exact sgC_0 l (i+1))))<|c_ mv_<|e_) (k:=fun E3 ac wd h_3=>?_)
 clear h_2
 refine then_n (wp_ret (then_ret ?_))
 have s6:=h_3.g (t:=6) rfl
 refine leave (v:=vI ((sgi l (i+1)).d)) h_3.df (by simp [results,Tryz.results79,go_sem,Array.getD_eq_getD_getElem?,s6]) ?_
 exact ⟨by unfold untS;rw [if_pos h],h_3.st.below⟩
 refine rf_ h_1 [[0],[0,1],[2],[2,3],r_ 5] [K_ (vN i),K_ (vI (((i:Nat):Int)+1)),K_ (.slice A0 l.length c0),K_ (vN l.length),K_ bF] (fun E2=>[(0,.slice A0 l.length c0),(1,vI day),(2,vN i),(6,vI 0),(11,bF)]) (hs:=c_ mv_<|c_ (bi0 (vN i) (vI 1))<|c_ mv_<|c_ (ln_ Tryz.underlying82 fun _ env _ wd hA=>(hl.grown hA.j.st.gr).els)<|c_ (bi0 (vI (((i:Nat):Int)+1)) (vN l.length))<|e_) (k:=fun E2 ac wd h_2=>?_)
 clear h_1
 refine then_n ?_
 refine wp_cond_false (eval_tmp (h_2.g (t:=11) rfl)) ?_
 refine wp_skip (then_n (wp_seq ?_))
 refine rf_ h_2 [[0],[0,1]] [K_ (vI day),K_ (vI day)] (fun E3=>[(6,vI day)]) (hs:=c_ mv_<|c_ mv_<|e_) (k:=fun E3 ac wd h_3=>?_)
 clear h_2
 refine then_n (wp_ret ?_)
 have s6:=h_3.g (t:=6) rfl
 refine leave (v:=vI day) h_3.df (by simp [results,Tryz.results79,go_sem,Array.getD_eq_getD_getElem?,s6]) ?_
 exact ⟨by unfold untS;rw [if_neg h],h_3.st.below⟩
theorem End_any (w0:World) (A0:Option Addr) (c0:Nat) (l:List Sg) (hl:SegU w0 (.slice A0 l.length c0) l) (day off:Int) (hL:LOk l day off) (i:Nat) (hi:i < 1000):Calls Tryz.prog 80 #[.slice A0 l.length c0,vI day,vI off,vI (((i:Nat):Int))] w0 fun e w'=>∃ v,e = .returned v∧Below w0.heap.size w0 w'∧BigN w0.heap.size w' v (endS l day off i):=by
 have y0:=hL.y0;have y1:=hL.y1;have o0:=hL.o0;have o1:=hL.o1
 have hst:=St.start w0 (Θ:=fun _=>True) (fun _ _=>trivial)
 refine enter Tryz.func80 rfl (n:=32) rfl (Nat.le_of_ble_eq_true rfl) hst (L:=[(0,.slice A0 l.length c0),(1,vI day),(2,vI off),(3,vI (((i:Nat):Int)))]) (lk_args rfl) (fun ac h=>?_)
 replace h:=h.facts
 refine wp_seq ?_
 refine rf_ h [[0]] [KE_ fun env=>vP (pb env 0) 0] (fun E1=>[(0,.slice A0 l.length c0),(1,vI day),(2,vI off),(3,vN i),(8,vP (pb E1 0) 0)]) (W:=[{ i:=0,T:=39,c0:=[bF,.slice none 0 0] }]) (M':=fun E1=>[((pb E1 0),39,[bF,.slice none 0 0])]) (hs:=c_ (al_ 0)<|e_) (k:=fun E1 ac wd h_1=>?_)
 clear h
 refine then_n (wp_seq (wp_seq ?_))
 by_cases h:i+1 < l.length
 have hs:=hL.seg (i+1) h;have h1:=hs.d0;have h2:=hs.d1;have hc:Cn (jn (sgi l (i+1)).d 0 0):=cn_jn (by omega) (by omega) (by omega) (by omega) (by omega) (by omega);unfold Cn at hc
 refine rf_ h_1 [[0],[0,1],[2],[2,3],r_ 5] [K_ (vN i),K_ (vI (((i:Nat):Int)+1)),K_ (.slice A0 l.length c0),K_ (vN l.length),K_ bT] (fun E2=>[(0,.slice A0 l.length c0),(1,vI day),(2,vI off),(3,vN i),(8,vP (pb E1 0) 0),(13,bT)]) (hs:=c_ mv_<|c_ (bi0 (vN i) (vI 1))<|c_ mv_<|c_ (ln_ Tryz.underlying82 fun _ env _ wd hA=>(hl.grown hA.j.st.gr).els)<|c_ (bi0 (vI (((i:Nat):Int)+1)) (vN l.length))<|e_) (k:=fun E2 ac wd h_2=>?_)
 clear h_1
 refine then_n ?_
 refine wp_cond_true (eval_tmp (h_2.g (t:=13) rfl)) ?_
 refine wp_seq ?_
 refine rf_ h_2 [[0],[1],[1,2],r_ 4,r_ 5,[5],[6],[6,7],[5,6,7,8],[5,6,7,8,9],[5,6,7,8,9,10],[5,6,7,8,9,10,11],[5,6,7,8,9,10,11,12],r_ 14,r_ 15] [K_ (.slice A0 l.length c0),K_ (vN i),K_ (vI (((i:Nat):Int)+1)),K_ (elt (.slice A0 l.length c0) ((i+1)*4)),K_ (vSg (sgi l (i+1))),K_ (.slice A0 l.length c0),K_ (vN i),K_ (vI (((i:Nat):Int)+1)),K_ (elt (.slice A0 l.length c0) ((i+1)*4)),K_ (elt (.slice A0 l.length c0) ((i+1)*4)),K_ (vI ((sgi l (i+1)).d)),K_ (vL ((sgi l (i+1)).d) 0 0),KE_ fun env=>bigF (jn ((sgi l (i+1)).d) 0 0) (env 12),KE_ fun env=>bigF (fS (sgi l (i+1)) (jn (sgi l (i+1)).d 0 0)) (env 13),none] (fun E3=>[(1,vI day),(2,vI off),(8,vP (pb E1 0) 0)]) (S:=[⟨0,14,fun env=>[.bool (decide (fS (sgi l (i+1)) (jn (sgi l (i+1)).d 0 0) < 0)),rS (fS (sgi l (i+1)) (jn (sgi l (i+1)).d 0 0)) ((bA (env 13))) ((bC (env 13)))]⟩]) (F:=[(12,fun env w=>BigN w0.heap.size w (env 12) (jn ((sgi l (i+1)).d) 0 0)),(13,fun env w=>BigN w0.heap.size w (env 13) (fS (sgi l (i+1)) (jn (sgi l (i+1)).d 0 0)))]) (L1:=fun E3=>[fun w=>BigN w0.heap.size w (E3 12) (jn ((sgi l (i+1)).d) 0 0),fun w=>BigN w0.heap.size w (E3 13) (fS (sgi l (i+1)) (jn (sgi l (i+1)).d 0 0))]) (M':=fun E3=>[((pb E1 0),39,[.bool (decide (fS (sgi l (i+1)) (jn (sgi l (i+1)).d 0 0) < 0)),rS (fS (sgi l (i+1)) (jn (sgi l (i+1)).d 0 0)) ((bA (E3 13))) ((bC (E3 13)))])]) (hs:=c_ mv_<|c_ mv_<|c_ (bi0 (vN i) (vI 1))<|c_ (ia_ Tryz.underlying82 sz128 (i+1) ((i+1)*4) (((i:Nat):Int)+1) (fun _ env _ wd hA=>(hl.grown hA.j.st.gr).els) (by omega) (by omega) rfl)<|c_ (le_ ((i+1)*4) (fun _ env _ wd hA=>(hl.grown hA.j.st.gr).els) (by omega) (le128 (by exact sgC_0 l (i+1)) (by exact sgC_1 l (i+1)) (by exact sgC_2 l (i+1)) (by exact sgC_3 l (i+1))))<|c_ mv_<|c_ mv_<|c_ (bi0 (vN i) (vI 1))<|c_ (ia_ Tryz.underlying82 sz128 (i+1) ((i+1)*4) (((i:Nat):Int)+1) (fun _ env _ wd hA=>(hl.grown hA.j.st.gr).els) (by omega) (by omega) rfl)<|c_ (s_fa rfl rfl rfl (fun _=>wanted_none rfl _) ((i+1)*4) 0 ((i+1)*4) rfl (s:=fun _=>.slice A0 l.length c0) rfl (fun _=>rfl) (fun {D env ac wd} hA=>(hl.grown hA.j.st.gr).els) (by omega) (fun b q w=>by simp [go_sem,Tryz.underlying128]))<|c_ (le_ ((i+1)*4) (fun _ env _ wd hA=>(hl.grown hA.j.st.gr).els) (by omega) (le3 (by exact sgC_0 l (i+1))))<|c_ (bd0 ([vI ((sgi l (i+1)).d)]))<|c_ (cb_ Tryz.func78 (jn ((sgi l (i+1)).d) 0 0) (h:=fun _ env _ wd hA=>⟨_,Join_any wd ((sgi l (i+1)).d) 0 0 (by omega) (by omega) (by omega) (by omega) (by omega) (by omega),rfl⟩))<|c_ (cb_ Tryz.func77 (fS (sgi l (i+1)) (jn (sgi l (i+1)).d 0 0)) (h:=fun _ env _ wd hA=>⟨_,F_any wd (sgi l (i+1)) hs _ (bA (env 12)) (bC (env 12)) (jn (sgi l (i+1)).d 0 0) rfl (At.bigN hA 12 rfl rfl rfl) (by omega) (by omega),rfl⟩))<|c_ (se_ 0 (hst:=by exact fun _ _ _ hc=>st39 rfl rfl rfl hc))<|e_) (k:=fun E3 ac wd h_3=>?_)
 clear h_2
 refine then_n (wp_ret (then_ret ?_))
 have s8:=h_3.g (t:=8) rfl
 have hc8:=(h_3.st.own 0 _ rfl).2
 have c8_0:=own_cell (o:=0) hc8 rfl
 have c8_1:=own_cell (o:=1) hc8 rfl
 refine leave (v:=bigF (fS (sgi l (i+1)) (jn (sgi l (i+1)).d 0 0)) (E3 13)) h_3.df (by simp [results,Tryz.results80,go_sem,Array.getD_eq_getD_getElem?,s8,c8_0,c8_1,Tryz.underlying39]) ?_
 exact ⟨_,rfl,h_3.st.below,BigN.eq (BigN.mk rfl rfl (Facts.bN h_3.st.now 1 rfl)) (by unfold endS;rw [if_pos h])⟩
 refine rf_ h_1 [[0],[0,1],[2],[2,3],r_ 5] [K_ (vN i),K_ (vI (((i:Nat):Int)+1)),K_ (.slice A0 l.length c0),K_ (vN l.length),K_ bF] (fun E2=>[(0,.slice A0 l.length c0),(1,vI day),(2,vI off),(3,vN i),(8,vP (pb E1 0) 0),(13,bF)]) (hs:=c_ mv_<|c_ (bi0 (vN i) (vI 1))<|c_ mv_<|c_ (ln_ Tryz.underlying82 fun _ env _ wd hA=>(hl.grown hA.j.st.gr).els)<|c_ (bi0 (vI (((i:Nat):Int)+1)) (vN l.length))<|e_) (k:=fun E2 ac wd h_2=>?_)
 clear h_1
 refine then_n ?_
 refine wp_cond_false (eval_tmp (h_2.g (t:=13) rfl)) ?_
 refine wp_skip (then_n (wp_seq ?_))
 refine rf_ h_2 [[0],[1],[0,1,2],r_ 4,r_ 5] [K_ (vI day),K_ (vI off),K_ (vL day off 0),KE_ fun env=>bigF (jn day off 0) (env 3),none] (fun E3=>[(8,vP (pb E1 0) 0)]) (S:=[⟨0,4,fun env=>[.bool (decide (jn day off 0 < 0)),rS (jn day off 0) ((bA (env 3))) ((bC (env 3)))]⟩]) (F:=[(3,fun env w=>BigN w0.heap.size w (env 3) (jn day off 0))]) (L1:=fun E3=>[fun w=>BigN w0.heap.size w (E3 3) (jn day off 0)]) (M':=fun E3=>[((pb E1 0),39,[.bool (decide (jn day off 0 < 0)),rS (jn day off 0) ((bA (E3 3))) ((bC (E3 3)))])]) (hs:=c_ mv_<|c_ mv_<|c_ (bd0 ([vI day,vI off]))<|c_ (cb_ Tryz.func78 (jn day off 0) (h:=fun _ env _ wd hA=>⟨_,Join_any wd day off 0 (by omega) (by omega) (by omega) (by omega) (by omega) (by omega),rfl⟩))<|c_ (se_ 0 (hst:=by exact fun _ _ _ hc=>st39 rfl rfl rfl hc))<|e_) (k:=fun E3 ac wd h_3=>?_)
 clear h_2
 refine then_n (wp_ret ?_)
 have s8:=h_3.g (t:=8) rfl
 have hc8:=(h_3.st.own 0 _ rfl).2
 have c8_0:=own_cell (o:=0) hc8 rfl
 have c8_1:=own_cell (o:=1) hc8 rfl
 refine leave (v:=bigF (jn day off 0) (E3 3)) h_3.df (by simp [results,Tryz.results80,go_sem,Array.getD_eq_getD_getElem?,s8,c8_0,c8_1,Tryz.underlying39]) ?_
 exact ⟨_,rfl,h_3.st.below,BigN.eq (BigN.mk rfl rfl (Facts.bN h_3.st.now 0 rfl)) (by unfold endS;rw [if_neg h])⟩
end Go.Proofs.YtdfkghpgekmmlaaGreat
namespace Go.Proofs.YtdfkghpgekmmlaaGreat
open Go.RowKit
attribute [local go_sem] vN bT bF rS vSg vW vM vL vT2 vT3 vP vI execOp Act.eval evC bigF vB hi_zero lo_zero Tryz.underlying128 Tryz.underlying39
theorem cmpZ_le {x y:Int}:cmpZ x y≤0↔x≤y:=by unfold cmpZ;split <;> (try split) <;> omega
theorem cmpZ_lt {x y:Int}:cmpZ x y < 0↔x < y:=by unfold cmpZ;split <;> (try split) <;> omega
theorem cmpZ_ge {x y:Int}:0≤cmpZ x y↔y≤x:=by unfold cmpZ;split <;> (try split) <;> omega
theorem cmpZ_gt {x y:Int}:0 < cmpZ x y↔y < x:=by unfold cmpZ;split <;> (try split) <;> omega
end Go.Proofs.YtdfkghpgekmmlaaGreat
namespace Go.Proofs.YtdfkghpgekmmlaaGreat
open Go.RowKit
attribute [local go_sem] vN bT bF rS vSg vW vM vL vT2 vT3 vP vI execOp Act.eval evC bigF vB hi_zero lo_zero Tryz.underlying26 Tryz.underlying39
theorem BigN.nil {B:Nat} {w:World} {z:Int} (h:z=0):BigN B w (.agg #[.bool false,.slice none 0 0]) z:=by
 subst h
 exact ⟨none,0,by simp [vB,digs_zero],by rw [digs_zero];exact ⟨⟨none,0,rfl,Nat.le_refl _,by simp,.inl rfl⟩,fun b h=>by cases h⟩⟩
theorem begS_bd {l:List Sg} {day off:Int} (h:LOk l day off) {i:Nat} (hi:i < l.length):-100000000000000000000000000000≤begS l i∧begS l i≤100000000000000000000000000000:=by
 have hs:=h.seg i hi
 have h0:=hs.d0;have h1:=hs.d1
 have h2:Cn (jn (sgi l i).d 0 0):=cn_jn (by omega) (by omega) (by omega) (by omega) (by omega) (by omega)
 have h3:=fS_bd hs h2
 unfold begS
 unfold jn at *;omega
theorem lab_early {l:List Sg} {day off t:Int} (h:t < begS l 0):labE l day off t=8∧labD l day off t=0∧labS l day off t=0∧labA l day off t=0:=by
 have e:labE l day off t=8:=by unfold labE;rw [if_pos h]
 unfold labD labS labA
 rw [e]
 exact ⟨rfl,rfl,rfl,rfl⟩
theorem lab_late {l:List Sg} {day off t:Int} (h:¬ t < begS l 0) (h2:∀ j,j < l.length→endS l day off j≤t):labE l day off t=9∧labD l day off t=0∧labS l day off t=0∧labA l day off t=0:=by
 have e0:iS l day off t=l.length:=fst1_none (fun j hj=>decide_eq_false (by have:=h2 j hj;omega))
 have e:labE l day off t=9:=by unfold labE;rw [if_neg h,e0,if_neg (by omega)]
 unfold labD labS labA
 rw [e]
 exact ⟨rfl,rfl,rfl,rfl⟩
theorem lab_in {l:List Sg} {day off t:Int} {i:Nat} (h:¬ t < begS l 0) (hi:i < l.length) (h2:∀ j,j < i→endS l day off j≤t) (h3:t < endS l day off i):labE l day off t=0∧labD l day off t=lblD (untS l day i) (gS (sgi l i) t)∧labS l day off t=lblS (untS l day i) (gS (sgi l i) t)∧labA l day off t=splA (gS (sgi l i) t):=by
 have e0:iS l day off t=i:=fst1_eq hi (fun j hj=>decide_eq_false (by have:=h2 j hj;omega)) (decide_eq_true h3)
 have e:labE l day off t=0:=by unfold labE;rw [if_neg h,e0,if_pos hi]
 unfold labD labS labA labU
 rw [if_pos e,if_pos e,if_pos e,e0]
 exact ⟨e,rfl,rfl,rfl⟩
theorem rTai_any (w0:World) (A0:Option Addr) (c0:Nat) (l:List Sg) (hl:SegU w0 (.slice A0 l.length c0) l) (day off:Int) (hL:LOk l day off) (d s a:Int) (hd0:-9223372036854775808≤d) (hd1:d < 9223372036854775808) (hs0:-9223372036854775808≤s) (hs1:s < 9223372036854775808) (ha0:-9223372036854775808≤a) (ha1:a < 9223372036854775808):Calls Tryz.prog 46 #[.slice A0 l.length c0,vI day,vI off,vL d s a] w0 fun e w'=>∃ v,e = .returned (.tuple #[v,vI (taiE l day off d s a)])∧Below w0.heap.size w0 w'∧BigN w0.heap.size w' v (taiV l day off d s a):=by
 have n0:=hL.n0;have n1:=hL.n1;have y0:=hL.y0;have y1:=hL.y1;have o0:=hL.o0;have o1:=hL.o1
 have hst:=St.start w0 (Θ:=fun _=>True) (fun _ _=>trivial)
 refine enter Tryz.func46 rfl (n:=92) rfl (Nat.le_of_ble_eq_true rfl) hst (L:=[(0,.slice A0 l.length c0),(1,vI day),(2,vI off),(3,vL d s a)]) (lk_args rfl) (fun ac h=>?_)
 replace h:=h.facts
 refine wp_seq ?_
 refine rf_ h [[0],[1],[2]] [KE_ fun env=>vP (pb env 0) 0,KE_ fun env=>vP (pb env 1) 0,K_ (vI 0)] (fun E1=>[(0,.slice A0 l.length c0),(1,vI day),(2,vI off),(7,vP (pb E1 0) 0),(8,vP (pb E1 1) 0),(9,vI 0)]) (W:=[{ i:=0,T:=26,c0:=[vI d,vI s,vI a] },{ i:=1,T:=39,c0:=[bF,.slice none 0 0] }]) (M':=fun E1=>[((pb E1 0),26,[vI d,vI s,vI a]),((pb E1 1),39,[bF,.slice none 0 0])]) (hs:=c_ (bx0 0 (vL d s a))<|c_ (al_ 1)<|c_ mv_<|e_) (k:=fun E1 ac wd h_1=>?_)
 clear h
 refine then_n (wp_seq (wp_seq ?_))
 by_cases h0:s < 0
 refine rf_ h_1 (tri 18) [K_ (vP (pb E1 0) 1),K_ (vI s),K_ bT,K_ bT,K_ undef,K_ undef,K_ undef,K_ bT,K_ bT,K_ undef,K_ undef,K_ undef,K_ bT,K_ bT,K_ undef,K_ undef,K_ undef,K_ bT] (fun E2=>[(0,.slice A0 l.length c0),(1,vI day),(2,vI off),(7,vP (pb E1 0) 0),(8,vP (pb E1 1) 0),(9,vI 0),(30,bT)]) (hs:=c_ (fa0 (vP (pb E1 0) 0))<|c_ (ld_ 0 (hrd:=by exact rd3 rfl))<|c_ (bi0 (vI s) (vI 0))<|c_ mv_<|c_ off_<|c_ off_<|c_ off_<|c_ (pk0 bT bT undef)<|c_ mv_<|c_ off_<|c_ off_<|c_ off_<|c_ (pk0 bT bT undef)<|c_ mv_<|c_ off_<|c_ off_<|c_ off_<|c_ (pk0 bT bT undef)<|e_) (k:=fun E2 ac wd h_2=>?_)
 clear h_1
 refine then_n ?_
 refine wp_cond_true (eval_tmp (h_2.g (t:=30) rfl)) ?_
 refine wp_seq ?_
 refine rf_ h_2 (tri 3) [K_ (.agg #[bF,.slice none 0 0]),none,K_ (vI 1)] (fun E3=>[(0,.slice A0 l.length c0),(1,vI day),(2,vI off),(7,vP (pb E1 0) 0),(8,vP (pb E1 1) 0),(9,vI 1)]) (S:=[⟨1,1,fun _=>[bF,.slice none 0 0]⟩]) (M':=fun E3=>[((pb E1 0),26,[vI d,vI s,vI a]),((pb E1 1),39,[bF,.slice none 0 0])]) (hs:=c_ (bd0 ([]))<|c_ (se_ 1 (hst:=by exact fun _ _ _ hc=>st39 rfl rfl rfl hc))<|c_ mv_<|e_) (k:=fun E3 ac wd h_3=>?_)
 clear h_2
 refine then_n (wp_ret (then_ret ?_))
 have s8:=h_3.g (t:=8) rfl
 have hc8:=(h_3.st.own 1 _ rfl).2
 have c8_0:=own_cell (o:=0) hc8 rfl
 have c8_1:=own_cell (o:=1) hc8 rfl
 have s9:=h_3.g (t:=9) rfl
 refine leave (v:=vT2 (.agg #[.bool false,.slice none 0 0]) (vI 1)) h_3.df (by simp [results,Tryz.results46,go_sem,Array.getD_eq_getD_getElem?,s8,c8_0,c8_1,Tryz.underlying39,s9]) ?_
 have hE2:taiE l day off d s a=1:=by have hfb:formB s a=false:=(by have:¬ formB s a=true:=(by simp only [formB,Bool.and_eq_true,wthn_iff];omega);simpa using this);unfold taiE;rw [if_pos hfb]
 have hV2:taiV l day off d s a=0:=by unfold taiV;rw [if_neg (by rw [hE2];omega)]
 exact ⟨.agg #[.bool false,.slice none 0 0],by rw [hE2],h_3.st.below,BigN.nil hV2⟩
 by_cases h1:86400 < s
 refine rf_ h_1 (tri 18) [K_ (vP (pb E1 0) 1),K_ (vI s),K_ bF,K_ bF,K_ (vP (pb E1 0) 1),K_ (vI s),K_ bT,K_ bT,K_ bT,K_ undef,K_ undef,K_ undef,K_ bT,K_ bT,K_ undef,K_ undef,K_ undef,K_ bT] (fun E2=>[(0,.slice A0 l.length c0),(1,vI day),(2,vI off),(7,vP (pb E1 0) 0),(8,vP (pb E1 1) 0),(9,vI 0),(30,bT)]) (hs:=c_ (fa0 (vP (pb E1 0) 0))<|c_ (ld_ 0 (hrd:=by exact rd3 rfl))<|c_ (bi0 (vI s) (vI 0))<|c_ mv_<|c_ (fa0 (vP (pb E1 0) 0))<|c_ (ld_ 0 (hrd:=by exact rd3 rfl))<|c_ (bi0 (vI s) (vI 86400))<|c_ (pk0 bF bT bT)<|c_ mv_<|c_ off_<|c_ off_<|c_ off_<|c_ (pk0 bT bT undef)<|c_ mv_<|c_ off_<|c_ off_<|c_ off_<|c_ (pk0 bT bT undef)<|e_) (k:=fun E2 ac wd h_2=>?_)
 clear h_1
 refine then_n ?_
 refine wp_cond_true (eval_tmp (h_2.g (t:=30) rfl)) ?_
 refine wp_seq ?_
 refine rf_ h_2 (tri 3) [K_ (.agg #[bF,.slice none 0 0]),none,K_ (vI 1)] (fun E3=>[(0,.slice A0 l.length c0),(1,vI day),(2,vI off),(7,vP (pb E1 0) 0),(8,vP (pb E1 1) 0),(9,vI 1)]) (S:=[⟨1,1,fun _=>[bF,.slice none 0 0]⟩]) (M':=fun E3=>[((pb E1 0),26,[vI d,vI s,vI a]),((pb E1 1),39,[bF,.slice none 0 0])]) (hs:=c_ (bd0 ([]))<|c_ (se_ 1 (hst:=by exact fun _ _ _ hc=>st39 rfl rfl rfl hc))<|c_ mv_<|e_) (k:=fun E3 ac wd h_3=>?_)
 clear h_2
 refine then_n (wp_ret (then_ret ?_))
 have s8:=h_3.g (t:=8) rfl
 have hc8:=(h_3.st.own 1 _ rfl).2
 have c8_0:=own_cell (o:=0) hc8 rfl
 have c8_1:=own_cell (o:=1) hc8 rfl
 have s9:=h_3.g (t:=9) rfl
 refine leave (v:=vT2 (.agg #[.bool false,.slice none 0 0]) (vI 1)) h_3.df (by simp [results,Tryz.results46,go_sem,Array.getD_eq_getD_getElem?,s8,c8_0,c8_1,Tryz.underlying39,s9]) ?_
 have hE2:taiE l day off d s a=1:=by have hfb:formB s a=false:=(by have:¬ formB s a=true:=(by simp only [formB,Bool.and_eq_true,wthn_iff];omega);simpa using this);unfold taiE;rw [if_pos hfb]
 have hV2:taiV l day off d s a=0:=by unfold taiV;rw [if_neg (by rw [hE2];omega)]
 exact ⟨.agg #[.bool false,.slice none 0 0],by rw [hE2],h_3.st.below,BigN.nil hV2⟩
 by_cases h2:a < 0
 refine rf_ h_1 (tri 18) [K_ (vP (pb E1 0) 1),K_ (vI s),K_ bF,K_ bF,K_ (vP (pb E1 0) 1),K_ (vI s),K_ bF,K_ bF,K_ bF,K_ (vP (pb E1 0) 2),K_ (vI a),K_ bT,K_ bT,K_ bT,K_ undef,K_ undef,K_ undef,K_ bT] (fun E2=>[(0,.slice A0 l.length c0),(1,vI day),(2,vI off),(7,vP (pb E1 0) 0),(8,vP (pb E1 1) 0),(9,vI 0),(30,bT)]) (hs:=c_ (fa0 (vP (pb E1 0) 0))<|c_ (ld_ 0 (hrd:=by exact rd3 rfl))<|c_ (bi0 (vI s) (vI 0))<|c_ mv_<|c_ (fa0 (vP (pb E1 0) 0))<|c_ (ld_ 0 (hrd:=by exact rd3 rfl))<|c_ (bi0 (vI s) (vI 86400))<|c_ (pk0 bF bT bF)<|c_ mv_<|c_ (fa0 (vP (pb E1 0) 0))<|c_ (ld_ 0 (hrd:=by exact rd3 rfl))<|c_ (bi0 (vI a) (vI 0))<|c_ (pk0 bF bT bT)<|c_ mv_<|c_ off_<|c_ off_<|c_ off_<|c_ (pk0 bT bT undef)<|e_) (k:=fun E2 ac wd h_2=>?_)
 clear h_1
 refine then_n ?_
 refine wp_cond_true (eval_tmp (h_2.g (t:=30) rfl)) ?_
 refine wp_seq ?_
 refine rf_ h_2 (tri 3) [K_ (.agg #[bF,.slice none 0 0]),none,K_ (vI 1)] (fun E3=>[(0,.slice A0 l.length c0),(1,vI day),(2,vI off),(7,vP (pb E1 0) 0),(8,vP (pb E1 1) 0),(9,vI 1)]) (S:=[⟨1,1,fun _=>[bF,.slice none 0 0]⟩]) (M':=fun E3=>[((pb E1 0),26,[vI d,vI s,vI a]),((pb E1 1),39,[bF,.slice none 0 0])]) (hs:=c_ (bd0 ([]))<|c_ (se_ 1 (hst:=by exact fun _ _ _ hc=>st39 rfl rfl rfl hc))<|c_ mv_<|e_) (k:=fun E3 ac wd h_3=>?_)
 clear h_2
 refine then_n (wp_ret (then_ret ?_))
 have s8:=h_3.g (t:=8) rfl
 have hc8:=(h_3.st.own 1 _ rfl).2
 have c8_0:=own_cell (o:=0) hc8 rfl
 have c8_1:=own_cell (o:=1) hc8 rfl
 have s9:=h_3.g (t:=9) rfl
 refine leave (v:=vT2 (.agg #[.bool false,.slice none 0 0]) (vI 1)) h_3.df (by simp [results,Tryz.results46,go_sem,Array.getD_eq_getD_getElem?,s8,c8_0,c8_1,Tryz.underlying39,s9]) ?_
 have hE2:taiE l day off d s a=1:=by have hfb:formB s a=false:=(by have:¬ formB s a=true:=(by simp only [formB,Bool.and_eq_true,wthn_iff];omega);simpa using this);unfold taiE;rw [if_pos hfb]
 have hV2:taiV l day off d s a=0:=by unfold taiV;rw [if_neg (by rw [hE2];omega)]
 exact ⟨.agg #[.bool false,.slice none 0 0],by rw [hE2],h_3.st.below,BigN.nil hV2⟩
 by_cases h3:1000000000000000000≤a
 refine rf_ h_1 (tri 18) [K_ (vP (pb E1 0) 1),K_ (vI s),K_ bF,K_ bF,K_ (vP (pb E1 0) 1),K_ (vI s),K_ bF,K_ bF,K_ bF,K_ (vP (pb E1 0) 2),K_ (vI a),K_ bF,K_ bF,K_ bF,K_ (vP (pb E1 0) 2),K_ (vI a),K_ bT,K_ bT] (fun E2=>[(0,.slice A0 l.length c0),(1,vI day),(2,vI off),(7,vP (pb E1 0) 0),(8,vP (pb E1 1) 0),(9,vI 0),(30,bT)]) (hs:=c_ (fa0 (vP (pb E1 0) 0))<|c_ (ld_ 0 (hrd:=by exact rd3 rfl))<|c_ (bi0 (vI s) (vI 0))<|c_ mv_<|c_ (fa0 (vP (pb E1 0) 0))<|c_ (ld_ 0 (hrd:=by exact rd3 rfl))<|c_ (bi0 (vI s) (vI 86400))<|c_ (pk0 bF bT bF)<|c_ mv_<|c_ (fa0 (vP (pb E1 0) 0))<|c_ (ld_ 0 (hrd:=by exact rd3 rfl))<|c_ (bi0 (vI a) (vI 0))<|c_ (pk0 bF bT bF)<|c_ mv_<|c_ (fa0 (vP (pb E1 0) 0))<|c_ (ld_ 0 (hrd:=by exact rd3 rfl))<|c_ (bi0 (vI a) (vI 1000000000000000000))<|c_ (pk0 bF bT bT)<|e_) (k:=fun E2 ac wd h_2=>?_)
 clear h_1
 refine then_n ?_
 refine wp_cond_true (eval_tmp (h_2.g (t:=30) rfl)) ?_
 refine wp_seq ?_
 refine rf_ h_2 (tri 3) [K_ (.agg #[bF,.slice none 0 0]),none,K_ (vI 1)] (fun E3=>[(0,.slice A0 l.length c0),(1,vI day),(2,vI off),(7,vP (pb E1 0) 0),(8,vP (pb E1 1) 0),(9,vI 1)]) (S:=[⟨1,1,fun _=>[bF,.slice none 0 0]⟩]) (M':=fun E3=>[((pb E1 0),26,[vI d,vI s,vI a]),((pb E1 1),39,[bF,.slice none 0 0])]) (hs:=c_ (bd0 ([]))<|c_ (se_ 1 (hst:=by exact fun _ _ _ hc=>st39 rfl rfl rfl hc))<|c_ mv_<|e_) (k:=fun E3 ac wd h_3=>?_)
 clear h_2
 refine then_n (wp_ret (then_ret ?_))
 have s8:=h_3.g (t:=8) rfl
 have hc8:=(h_3.st.own 1 _ rfl).2
 have c8_0:=own_cell (o:=0) hc8 rfl
 have c8_1:=own_cell (o:=1) hc8 rfl
 have s9:=h_3.g (t:=9) rfl
 refine leave (v:=vT2 (.agg #[.bool false,.slice none 0 0]) (vI 1)) h_3.df (by simp [results,Tryz.results46,go_sem,Array.getD_eq_getD_getElem?,s8,c8_0,c8_1,Tryz.underlying39,s9]) ?_
 have hE2:taiE l day off d s a=1:=by have hfb:formB s a=false:=(by have:¬ formB s a=true:=(by simp only [formB,Bool.and_eq_true,wthn_iff];omega);simpa using this);unfold taiE;rw [if_pos hfb]
 have hV2:taiV l day off d s a=0:=by unfold taiV;rw [if_neg (by rw [hE2];omega)]
 exact ⟨.agg #[.bool false,.slice none 0 0],by rw [hE2],h_3.st.below,BigN.nil hV2⟩
 refine rf_ h_1 (tri 18) [K_ (vP (pb E1 0) 1),K_ (vI s),K_ bF,K_ bF,K_ (vP (pb E1 0) 1),K_ (vI s),K_ bF,K_ bF,K_ bF,K_ (vP (pb E1 0) 2),K_ (vI a),K_ bF,K_ bF,K_ bF,K_ (vP (pb E1 0) 2),K_ (vI a),K_ bF,K_ bF] (fun E2=>[(0,.slice A0 l.length c0),(1,vI day),(2,vI off),(7,vP (pb E1 0) 0),(8,vP (pb E1 1) 0),(9,vI 0),(30,bF)]) (hs:=c_ (fa0 (vP (pb E1 0) 0))<|c_ (ld_ 0 (hrd:=by exact rd3 rfl))<|c_ (bi0 (vI s) (vI 0))<|c_ mv_<|c_ (fa0 (vP (pb E1 0) 0))<|c_ (ld_ 0 (hrd:=by exact rd3 rfl))<|c_ (bi0 (vI s) (vI 86400))<|c_ (pk0 bF bT bF)<|c_ mv_<|c_ (fa0 (vP (pb E1 0) 0))<|c_ (ld_ 0 (hrd:=by exact rd3 rfl))<|c_ (bi0 (vI a) (vI 0))<|c_ (pk0 bF bT bF)<|c_ mv_<|c_ (fa0 (vP (pb E1 0) 0))<|c_ (ld_ 0 (hrd:=by exact rd3 rfl))<|c_ (bi0 (vI a) (vI 1000000000000000000))<|c_ (pk0 bF bT bF)<|e_) (k:=fun E2 ac wd h_2=>?_)
 clear h_1
 refine then_n ?_
 refine wp_cond_false (eval_tmp (h_2.g (t:=30) rfl)) ?_
 refine wp_skip (then_n (wp_seq (wp_seq ?_)))
 have hfb:formB s a=true:=by simp only [formB,Bool.and_eq_true,wthn_iff];omega
 by_cases g1:d < (sgi l 0).d
 refine rf_ h_2 [[0],[0,1],[2],[2,3],[2,3,4],[2,3,4,5],r_ 7] [K_ (vP (pb E1 0) 0),K_ (vI d),K_ (.slice A0 l.length c0),K_ (elt (.slice A0 l.length c0) (0*4)),K_ (elt (.slice A0 l.length c0) (0*4)),K_ (vI ((sgi l 0).d)),K_ bT] (fun E3=>[(0,.slice A0 l.length c0),(1,vI day),(2,vI off),(7,vP (pb E1 0) 0),(8,vP (pb E1 1) 0),(9,vI 0),(38,bT)]) (hs:=c_ (fa0 (vP (pb E1 0) 0))<|c_ (ld_ 0 (hrd:=by exact rd3 rfl))<|c_ mv_<|c_ (ia_ Tryz.underlying82 sz128 0 (0*4) 0 (fun _ env _ wd hA=>(hl.grown hA.j.st.gr).els) (rfl) (by omega) rfl)<|c_ (s_fa rfl rfl rfl (fun _=>wanted_none rfl _) (0*4) 0 (0*4) rfl (s:=fun _=>.slice A0 l.length c0) rfl (fun _=>rfl) (fun {D env ac wd} hA=>(hl.grown hA.j.st.gr).els) (by omega) (fun b q w=>by simp [go_sem,Tryz.underlying128]))<|c_ (le_ (0*4) (fun _ env _ wd hA=>(hl.grown hA.j.st.gr).els) (by omega) (le3 (by exact sgC_0 l 0)))<|c_ (bi0 (vI d) (vI ((sgi l 0).d)))<|e_) (k:=fun E3 ac wd h_3=>?_)
 clear h_2
 refine then_n ?_
 refine wp_cond_true (eval_tmp (h_3.g (t:=38) rfl)) ?_
 refine wp_seq ?_
 refine rf_ h_3 (tri 3) [K_ (.agg #[bF,.slice none 0 0]),none,K_ (vI 8)] (fun E4=>[(0,.slice A0 l.length c0),(1,vI day),(2,vI off),(7,vP (pb E1 0) 0),(8,vP (pb E1 1) 0),(9,vI 8)]) (S:=[⟨1,1,fun _=>[bF,.slice none 0 0]⟩]) (M':=fun E4=>[((pb E1 0),26,[vI d,vI s,vI a]),((pb E1 1),39,[bF,.slice none 0 0])]) (hs:=c_ (bd0 ([]))<|c_ (se_ 1 (hst:=by exact fun _ _ _ hc=>st39 rfl rfl rfl hc))<|c_ mv_<|e_) (k:=fun E4 ac wd h_4=>?_)
 clear h_3
 refine then_n (wp_ret (then_ret ?_))
 have s8:=h_4.g (t:=8) rfl
 have hc8:=(h_4.st.own 1 _ rfl).2
 have c8_0:=own_cell (o:=0) hc8 rfl
 have c8_1:=own_cell (o:=1) hc8 rfl
 have s9:=h_4.g (t:=9) rfl
 refine leave (v:=vT2 (.agg #[.bool false,.slice none 0 0]) (vI 8)) h_4.df (by simp [results,Tryz.results46,go_sem,Array.getD_eq_getD_getElem?,s8,c8_0,c8_1,Tryz.underlying39,s9]) ?_
 have hE2:taiE l day off d s a=8:=by unfold taiE;rw [if_neg (by rw [hfb];simp),if_pos g1]
 have hV2:taiV l day off d s a=0:=by unfold taiV;rw [if_neg (by rw [hE2];omega)]
 exact ⟨.agg #[.bool false,.slice none 0 0],by rw [hE2],h_4.st.below,BigN.nil hV2⟩
 refine rf_ h_2 [[0],[0,1],[2],[2,3],[2,3,4],[2,3,4,5],r_ 7] [K_ (vP (pb E1 0) 0),K_ (vI d),K_ (.slice A0 l.length c0),K_ (elt (.slice A0 l.length c0) (0*4)),K_ (elt (.slice A0 l.length c0) (0*4)),K_ (vI ((sgi l 0).d)),K_ bF] (fun E3=>[(0,.slice A0 l.length c0),(1,vI day),(2,vI off),(7,vP (pb E1 0) 0),(8,vP (pb E1 1) 0),(9,vI 0),(38,bF)]) (hs:=c_ (fa0 (vP (pb E1 0) 0))<|c_ (ld_ 0 (hrd:=by exact rd3 rfl))<|c_ mv_<|c_ (ia_ Tryz.underlying82 sz128 0 (0*4) 0 (fun _ env _ wd hA=>(hl.grown hA.j.st.gr).els) (rfl) (by omega) rfl)<|c_ (s_fa rfl rfl rfl (fun _=>wanted_none rfl _) (0*4) 0 (0*4) rfl (s:=fun _=>.slice A0 l.length c0) rfl (fun _=>rfl) (fun {D env ac wd} hA=>(hl.grown hA.j.st.gr).els) (by omega) (fun b q w=>by simp [go_sem,Tryz.underlying128]))<|c_ (le_ (0*4) (fun _ env _ wd hA=>(hl.grown hA.j.st.gr).els) (by omega) (le3 (by exact sgC_0 l 0)))<|c_ (bi0 (vI d) (vI ((sgi l 0).d)))<|e_) (k:=fun E3 ac wd h_3=>?_)
 clear h_2
 refine then_n ?_
 refine wp_cond_false (eval_tmp (h_3.g (t:=38) rfl)) ?_
 refine wp_skip (then_n (wp_seq (wp_seq ?_)))
 by_cases g2:day≤d
 refine rf_ h_3 [[0],[0,1],[2],r_ 4] [K_ (vP (pb E1 0) 0),K_ (vI d),K_ (vI day),K_ bT] (fun E4=>[(0,.slice A0 l.length c0),(1,vI day),(2,vI off),(7,vP (pb E1 0) 0),(8,vP (pb E1 1) 0),(9,vI 0),(43,bT)]) (hs:=c_ (fa0 (vP (pb E1 0) 0))<|c_ (ld_ 0 (hrd:=by exact rd3 rfl))<|c_ mv_<|c_ (bi0 (vI d) (vI day))<|e_) (k:=fun E4 ac wd h_4=>?_)
 clear h_3
 refine then_n ?_
 refine wp_cond_true (eval_tmp (h_4.g (t:=43) rfl)) ?_
 refine wp_seq ?_
 refine rf_ h_4 (tri 3) [K_ (.agg #[bF,.slice none 0 0]),none,K_ (vI 9)] (fun E5=>[(0,.slice A0 l.length c0),(1,vI day),(2,vI off),(7,vP (pb E1 0) 0),(8,vP (pb E1 1) 0),(9,vI 9)]) (S:=[⟨1,1,fun _=>[bF,.slice none 0 0]⟩]) (M':=fun E5=>[((pb E1 0),26,[vI d,vI s,vI a]),((pb E1 1),39,[bF,.slice none 0 0])]) (hs:=c_ (bd0 ([]))<|c_ (se_ 1 (hst:=by exact fun _ _ _ hc=>st39 rfl rfl rfl hc))<|c_ mv_<|e_) (k:=fun E5 ac wd h_5=>?_)
 clear h_4
 refine then_n (wp_ret (then_ret ?_))
 have s8:=h_5.g (t:=8) rfl
 have hc8:=(h_5.st.own 1 _ rfl).2
 have c8_0:=own_cell (o:=0) hc8 rfl
 have c8_1:=own_cell (o:=1) hc8 rfl
 have s9:=h_5.g (t:=9) rfl
 refine leave (v:=vT2 (.agg #[.bool false,.slice none 0 0]) (vI 9)) h_5.df (by simp [results,Tryz.results46,go_sem,Array.getD_eq_getD_getElem?,s8,c8_0,c8_1,Tryz.underlying39,s9]) ?_
 have hE2:taiE l day off d s a=9:=by unfold taiE;rw [if_neg (by rw [hfb];simp),if_neg g1,if_pos g2]
 have hV2:taiV l day off d s a=0:=by unfold taiV;rw [if_neg (by rw [hE2];omega)]
 exact ⟨.agg #[.bool false,.slice none 0 0],by rw [hE2],h_5.st.below,BigN.nil hV2⟩
 refine rf_ h_3 [[0],[0,1],[2],r_ 4] [K_ (vP (pb E1 0) 0),K_ (vI d),K_ (vI day),K_ bF] (fun E4=>[(0,.slice A0 l.length c0),(1,vI day),(2,vI off),(7,vP (pb E1 0) 0),(8,vP (pb E1 1) 0),(9,vI 0),(43,bF)]) (hs:=c_ (fa0 (vP (pb E1 0) 0))<|c_ (ld_ 0 (hrd:=by exact rd3 rfl))<|c_ mv_<|c_ (bi0 (vI d) (vI day))<|e_) (k:=fun E4 ac wd h_4=>?_)
 clear h_3
 refine then_n ?_
 refine wp_cond_false (eval_tmp (h_4.g (t:=43) rfl)) ?_
 refine wp_skip (then_n (wp_seq ?_))
 refine rf_ h_4 [[0]] [K_ (vI 0)] (fun E5=>[(0,.slice A0 l.length c0),(1,vI day),(2,vI off),(7,vP (pb E1 0) 0),(8,vP (pb E1 1) 0),(9,vI 0),(10,vI 0)]) (hs:=c_ mv_<|e_) (k:=fun E5 ac wd h_5=>?_)
 clear h_4
 refine then_n (wp_seq (wp_seq ?_))
 refine rf_ h_5 [[0]] [K_ (vI 0)] (fun E6=>[(0,.slice A0 l.length c0),(1,vI day),(2,vI off),(7,vP (pb E1 0) 0),(8,vP (pb E1 1) 0),(9,vI 0),(10,vI 0),(11,vI 0)]) (hs:=c_ mv_<|e_) (k:=fun E6 ac wd h_6=>?_)
 clear h_5
 refine then_n (wp_block ?_)
 refine wp_loop (fun ac wd=>∃ i:Nat,i≤l.length∧Cur 92 w0 none none (Facts []) (fun _=>True) [(0,.slice A0 l.length c0),(1,vI day),(2,vI off),(7,vP (pb E1 0) 0),(8,vP (pb E1 1) 0),(9,vI 0),(10,vN (kS l d i)),(11,vN i)] [((pb E1 0),26,[vI d,vI s,vI a]),((pb E1 1),39,[bF,.slice none 0 0])] ac wd) (fun ac _=>((l.length:Int)-sI ac 11).toNat) ⟨0,by omega,(h_6.re rfl).th (fun _ h=>h)⟩ ?_
 rintro ac wd ⟨i,hi1,h_7⟩
 clear h_6
 have hmu:sI ac 11=((i:Nat):Int):=sI_eq (h_7.g (t:=11) rfl)
 refine wp_seq (wp_seq ?_)
 by_cases h1:i < l.length
 refine rf_ h_7 [[0],[1],[1,2],r_ 4] [K_ (vN i),K_ (.slice A0 l.length c0),K_ (vN l.length),K_ bT] (fun E8=>[(0,.slice A0 l.length c0),(1,vI day),(2,vI off),(7,vP (pb E1 0) 0),(8,vP (pb E1 1) 0),(9,vI 0),(10,vN (kS l d i)),(11,vN i),(45,vN i),(46,.slice A0 l.length c0),(47,vN l.length),(48,bT)]) (hs:=c_ mv_<|c_ mv_<|c_ (ln_ Tryz.underlying82 fun _ env _ wd hA=>(hl.grown hA.j.st.gr).els)<|c_ (bi0 (vN i) (vN l.length))<|e_) (k:=fun E8 ac wd h_8=>?_)
 clear h_7
 refine then_n ?_
 refine wp_cond_true (eval_tmp (h_8.g (t:=48) rfl)) ?_
 refine wp_skip (then_n (wp_seq (wp_block (wp_seq ?_))))
 by_cases hc:(sgi l i).d≤d
 refine rf_ h_8 [[0],[1],[0,1,2],r_ 4,r_ 5,[5],[5,6],r_ 8] [K_ (.slice A0 l.length c0),K_ (vN i),K_ (elt (.slice A0 l.length c0) (i*4)),K_ (elt (.slice A0 l.length c0) (i*4)),K_ (vI ((sgi l i).d)),K_ (vP (pb E1 0) 0),K_ (vI d),K_ bT] (fun E9=>[(0,.slice A0 l.length c0),(1,vI day),(2,vI off),(7,vP (pb E1 0) 0),(8,vP (pb E1 1) 0),(9,vI 0),(10,vN (kS l d i)),(11,vN i),(45,vN i),(46,.slice A0 l.length c0),(47,vN l.length),(48,bT),(51,.slice A0 l.length c0),(52,vN i),(53,elt (.slice A0 l.length c0) (i*4)),(54,elt (.slice A0 l.length c0) (i*4)),(55,vI ((sgi l i).d)),(56,vP (pb E1 0) 0),(57,vI d),(58,bT)]) (hs:=c_ mv_<|c_ mv_<|c_ (ia_ Tryz.underlying82 sz128 i (i*4) ((i:Nat):Int) (fun _ env _ wd hA=>(hl.grown hA.j.st.gr).els) (rfl) (by omega) rfl)<|c_ (s_fa rfl rfl rfl (fun _=>wanted_none rfl _) (i*4) 0 (i*4) rfl (s:=fun _=>.slice A0 l.length c0) rfl (fun _=>rfl) (fun {D env ac wd} hA=>(hl.grown hA.j.st.gr).els) (by omega) (fun b q w=>by simp [go_sem,Tryz.underlying128]))<|c_ (le_ (i*4) (fun _ env _ wd hA=>(hl.grown hA.j.st.gr).els) (by omega) (le3 (by exact sgC_0 l i)))<|c_ (fa0 (vP (pb E1 0) 0))<|c_ (ld_ 0 (hrd:=by exact rd3 rfl))<|c_ (bi0 (vI ((sgi l i).d)) (vI d) (h:=by intro env w;simp [go_sem,hc]))<|e_) (k:=fun E9 ac wd h_9=>?_)
 clear h_8
 refine then_n ?_
 refine wp_cond_true (eval_tmp (h_9.g (t:=58) rfl)) ?_
 refine rf_ h_9 [[0],[0,1]] [K_ (vN i),K_ (vN i)] (fun E10=>[(0,.slice A0 l.length c0),(1,vI day),(2,vI off),(7,vP (pb E1 0) 0),(8,vP (pb E1 1) 0),(9,vI 0),(10,vN i),(11,vN i),(45,vN i),(46,.slice A0 l.length c0),(47,vN l.length),(48,bT),(51,.slice A0 l.length c0),(52,vN i),(53,elt (.slice A0 l.length c0) (i*4)),(54,elt (.slice A0 l.length c0) (i*4)),(55,vI ((sgi l i).d)),(56,vP (pb E1 0) 0),(57,vI d),(58,bT),(59,vN i)]) (hs:=c_ mv_<|c_ mv_<|e_) (k:=fun E10 ac wd h_10=>?_)
 clear h_9
 refine blk_n (then_n ?_)
 refine rf_ h_10 (tri 3) [K_ (vN i),K_ (vI (((i:Nat):Int)+1)),K_ (vI (((i:Nat):Int)+1))] (fun E11=>[(0,.slice A0 l.length c0),(1,vI day),(2,vI off),(7,vP (pb E1 0) 0),(8,vP (pb E1 1) 0),(9,vI 0),(10,vN i),(11,vI (((i:Nat):Int)+1)),(45,vN i),(46,.slice A0 l.length c0),(47,vN l.length),(48,bT),(49,vN i),(50,vI (((i:Nat):Int)+1)),(51,.slice A0 l.length c0),(52,vN i),(53,elt (.slice A0 l.length c0) (i*4)),(54,elt (.slice A0 l.length c0) (i*4)),(55,vI ((sgi l i).d)),(56,vP (pb E1 0) 0),(57,vI d),(58,bT),(59,vN i)]) (hs:=c_ mv_<|c_ (bi0 (vN i) (vI 1))<|c_ mv_<|e_) (k:=fun E11 ac wd h_11=>?_)
 clear h_10
 refine then_n ?_
 have hk:kS l d (i+1)=i:=by simp only [kS];rw [if_pos hc]
 refine ⟨⟨i+1,by omega,?_⟩,by rw [sI_eq (h_11.g (t:=11) rfl),hmu];omega⟩
 rw [hk];exact h_11.re rfl
 refine rf_ h_8 [[0],[1],[0,1,2],r_ 4,r_ 5,[5],[5,6],r_ 8] [K_ (.slice A0 l.length c0),K_ (vN i),K_ (elt (.slice A0 l.length c0) (i*4)),K_ (elt (.slice A0 l.length c0) (i*4)),K_ (vI ((sgi l i).d)),K_ (vP (pb E1 0) 0),K_ (vI d),K_ bF] (fun E9=>[(0,.slice A0 l.length c0),(1,vI day),(2,vI off),(7,vP (pb E1 0) 0),(8,vP (pb E1 1) 0),(9,vI 0),(10,vN (kS l d i)),(11,vN i),(45,vN i),(46,.slice A0 l.length c0),(47,vN l.length),(48,bT),(51,.slice A0 l.length c0),(52,vN i),(53,elt (.slice A0 l.length c0) (i*4)),(54,elt (.slice A0 l.length c0) (i*4)),(55,vI ((sgi l i).d)),(56,vP (pb E1 0) 0),(57,vI d),(58,bF)]) (hs:=c_ mv_<|c_ mv_<|c_ (ia_ Tryz.underlying82 sz128 i (i*4) ((i:Nat):Int) (fun _ env _ wd hA=>(hl.grown hA.j.st.gr).els) (rfl) (by omega) rfl)<|c_ (s_fa rfl rfl rfl (fun _=>wanted_none rfl _) (i*4) 0 (i*4) rfl (s:=fun _=>.slice A0 l.length c0) rfl (fun _=>rfl) (fun {D env ac wd} hA=>(hl.grown hA.j.st.gr).els) (by omega) (fun b q w=>by simp [go_sem,Tryz.underlying128]))<|c_ (le_ (i*4) (fun _ env _ wd hA=>(hl.grown hA.j.st.gr).els) (by omega) (le3 (by exact sgC_0 l i)))<|c_ (fa0 (vP (pb E1 0) 0))<|c_ (ld_ 0 (hrd:=by exact rd3 rfl))<|c_ (bi0 (vI ((sgi l i).d)) (vI d) (h:=by intro env w;simp [go_sem,hc]))<|e_) (k:=fun E9 ac wd h_9=>?_)
 clear h_8
 refine then_n ?_
 refine wp_cond_false (eval_tmp (h_9.g (t:=58) rfl)) ?_
 refine wp_skip (blk_n (then_n ?_))
 refine rf_ h_9 (tri 3) [K_ (vN i),K_ (vI (((i:Nat):Int)+1)),K_ (vI (((i:Nat):Int)+1))] (fun E10=>[(0,.slice A0 l.length c0),(1,vI day),(2,vI off),(7,vP (pb E1 0) 0),(8,vP (pb E1 1) 0),(9,vI 0),(10,vN (kS l d i)),(11,vI (((i:Nat):Int)+1)),(45,vN i),(46,.slice A0 l.length c0),(47,vN l.length),(48,bT),(49,vN i),(50,vI (((i:Nat):Int)+1)),(51,.slice A0 l.length c0),(52,vN i),(53,elt (.slice A0 l.length c0) (i*4)),(54,elt (.slice A0 l.length c0) (i*4)),(55,vI ((sgi l i).d)),(56,vP (pb E1 0) 0),(57,vI d),(58,bF)]) (hs:=c_ mv_<|c_ (bi0 (vN i) (vI 1))<|c_ mv_<|e_) (k:=fun E10 ac wd h_10=>?_)
 clear h_9
 refine then_n ?_
 have hk:kS l d (i+1)=kS l d i:=by simp only [kS];rw [if_neg hc]
 refine ⟨⟨i+1,by omega,?_⟩,by rw [sI_eq (h_10.g (t:=11) rfl),hmu];omega⟩
 rw [hk];exact h_10.re rfl
 obtain rfl:i=l.length:=by omega
 refine rf_ h_7 [[0],[1],[1,2],r_ 4] [K_ (vN l.length),K_ (.slice A0 l.length c0),K_ (vN l.length),K_ bF] (fun E8=>[(0,.slice A0 l.length c0),(1,vI day),(2,vI off),(7,vP (pb E1 0) 0),(8,vP (pb E1 1) 0),(9,vI 0),(10,vN (kS l d l.length)),(11,vN l.length),(45,vN l.length),(46,.slice A0 l.length c0),(47,vN l.length),(48,bF)]) (hs:=c_ mv_<|c_ mv_<|c_ (ln_ Tryz.underlying82 fun _ env _ wd hA=>(hl.grown hA.j.st.gr).els)<|c_ (bi0 (vN l.length) (vN l.length))<|e_) (k:=fun E8 ac wd h_8=>?_)
 clear h_7
 refine then_n ?_
 refine wp_cond_false (eval_tmp (h_8.g (t:=48) rfl)) ?_
 refine wp_exit (then_e (then_e (blk_x (then_n (wp_seq ?_)))))
 obtain ⟨k1,k2,k3⟩:=kS_in hL (x:=d) (by omega) (by omega)
 obtain ⟨k,hk⟩:∃ k,k=kS l d l.length:=⟨_,rfl⟩
 rw [← hk] at k1 k2 k3 h_8
 have hs:=hL.seg k k1
 have hE:=hL.end_bd k1
 have q0:=hs.d0;have q1:=hL.unt_day k1
 refine rf_ h_8 [[0],[1],[0,1,2],r_ 4,[4],[4,5],r_ 7,[7],r_ 9] [K_ (.slice A0 l.length c0),K_ (vN k),K_ (elt (.slice A0 l.length c0) (k*4)),K_ (vSg (sgi l k)),K_ (vL d s a),KE_ fun env=>bigF (jn d s a) (env 5),KE_ fun env=>bigF (fS (sgi l k) (jn d s a)) (env 6),KE_ fun env=>vP (pb env 7) 0,none] (fun E9=>[(0,.slice A0 l.length c0),(1,vI day),(2,vI off),(7,vP (pb E1 0) 0),(8,vP (pb E1 1) 0),(9,vI 0),(10,vN k),(12,vP (pb E9 7) 0)]) (W:=[{ i:=7,T:=39,c0:=[bF,.slice none 0 0],s:=some 8,c1:=fun env=>[.bool (decide (fS (sgi l k) (jn d s a) < 0)),rS (fS (sgi l k) (jn d s a)) ((bA (env 6))) ((bC (env 6)))] }]) (F:=[(5,fun env w=>BigN w0.heap.size w (env 5) (jn d s a)),(6,fun env w=>BigN w0.heap.size w (env 6) (fS (sgi l k) (jn d s a)))]) (L1:=fun E9=>[fun w=>BigN w0.heap.size w (E9 5) (jn d s a),fun w=>BigN w0.heap.size w (E9 6) (fS (sgi l k) (jn d s a))]) (M':=fun E9=>[((pb E1 0),26,[vI d,vI s,vI a]),((pb E1 1),39,[bF,.slice none 0 0]),((pb E9 7),39,[.bool (decide (fS (sgi l k) (jn d s a) < 0)),rS (fS (sgi l k) (jn d s a)) ((bA (E9 6))) ((bC (E9 6)))])]) (hs:=c_ mv_<|c_ mv_<|c_ (ia_ Tryz.underlying82 sz128 k (k*4) ((k:Nat):Int) (fun _ env _ wd hA=>(hl.grown hA.j.st.gr).els) (rfl) (by omega) rfl)<|c_ (le_ (k*4) (fun _ env _ wd hA=>(hl.grown hA.j.st.gr).els) (by omega) (le128 (by exact sgC_0 l k) (by exact sgC_1 l k) (by exact sgC_2 l k) (by exact sgC_3 l k)))<|c_ (ld_ 0 (hrd:=by exact rd26 rfl rfl rfl))<|c_ (cb_ Tryz.func78 (jn d s a) (h:=fun _ env _ wd hA=>⟨_,Join_any wd d s a (by omega) (by omega) (by omega) (by omega) (by omega) (by omega),rfl⟩))<|c_ (cb_ Tryz.func77 (fS (sgi l k) (jn d s a)) (h:=fun _ env _ wd hA=>⟨_,F_any wd (sgi l k) hs _ (bA (env 5)) (bC (env 5)) (jn d s a) rfl (At.bigN hA 5 rfl rfl rfl) (by unfold jn;omega) (by unfold jn;omega),rfl⟩))<|c_ (al_ 2)<|c_ (sw_ 2 7 (hst:=by exact fun _ _ _ hc=>st39 rfl rfl rfl hc))<|e_) (k:=fun E9 ac wd h_9=>?_)
 clear h_8
 refine then_n (wp_seq (wp_seq ?_))
 by_cases e1:s=86400
 by_cases e2:d+1=untS l day k
 by_cases e3:endS l day off k≤fS (sgi l k) (jn d s a)
 refine rf_ h_9 [[0],[0,1],[0,1,2],r_ 4,r_ 5,r_ 6,r_ 7,[0,1,2,3,7],[0,1,2,3,8],[0,1,2,3,9],[0,1,2,3,7,8,9,10],r_ 12,r_ 13,r_ 14,r_ 15,[0,1,2,3,4,5,6,7,8,9,10,11,12,13,15],[0,1,2,3,4,5,6,7,8,9,10,11,12,13,16],[0,1,2,3,4,5,6,7,8,9,10,11,12,13,17],[0,1,2,3,4,5,6,7,8,9,10,11,12,13,18],[0,1,2,3,4,5,6,7,8,9,10,11,12,13,15,16,17,18,19],r_ 21,r_ 22,r_ 23] [K_ (vP (pb E1 0) 1),K_ (vI s),K_ bT,K_ bT,K_ (vP (pb E1 0) 0),K_ (vI d),K_ (vI (d+1)),K_ (.slice A0 l.length c0),K_ (vI day),K_ (vN k),K_ (vI (untS l day k)),K_ bF,K_ bF,K_ bF,K_ (bigF (fS (sgi l k) (jn d s a)) (E9 6)),K_ (.slice A0 l.length c0),K_ (vI day),K_ (vI off),K_ (vN k),KE_ fun env=>bigF (endS l day off k) (env 19),K_ (vI (cmpZ (fS (sgi l k) (jn d s a)) (endS l day off k))),K_ bT,K_ bT] (fun E10=>[(8,vP (pb E1 1) 0),(9,vI 0),(12,vP (pb E9 7) 0),(89,bT)]) (F:=[(19,fun env w=>BigN w0.heap.size w (env 19) (endS l day off k))]) (L1:=fun E10=>[fun w=>BigN w0.heap.size w (E9 5) (jn d s a),fun w=>BigN w0.heap.size w (E9 6) (fS (sgi l k) (jn d s a)),fun w=>BigN w0.heap.size w (E10 19) (endS l day off k)]) (hs:=c_ (fa0 (vP (pb E1 0) 0))<|c_ (ld_ 0 (hrd:=by exact rd3 rfl))<|c_ (bi0 (vI s) (vI 86400) (h:=by intro env w;simp [go_sem,e1]))<|c_ mv_<|c_ (fa0 (vP (pb E1 0) 0))<|c_ (ld_ 0 (hrd:=by exact rd3 rfl))<|c_ (bi0 (vI d) (vI 1))<|c_ (gm0 (.slice A0 l.length c0))<|c_ (gm0 (vI day))<|c_ (gm0 (vN k))<|c_ (cw_ Tryz.func79 (h:=fun _ env _ wd hA=>⟨_,Until_any wd A0 c0 l (hl.grown hA.j.st.gr) day k (by omega),rfl⟩))<|c_ (bi0 (vI (d+1)) (vI (untS l day k)) (h:=by intro env w;simp [go_sem,e2]))<|c_ (pk0 bT bF bF (h:=by intro env w;simp [go_sem,e2]))<|c_ mv_<|c_ (ld_ 2 (hrd:=by exact rd39 rfl rfl))<|c_ (gm0 (.slice A0 l.length c0))<|c_ (gm0 (vI day))<|c_ (gm0 (vI off))<|c_ (gm0 (vN k))<|c_ (cb_ Tryz.func80 (endS l day off k) (h:=fun _ env _ wd hA=>⟨_,End_any wd A0 c0 l (hl.grown hA.j.st.gr) day off hL k (by omega),rfl⟩))<|c_ (cw_ Tryz.func50 (h:=fun _ env _ wd hA=>⟨_,Cmp_any wd (decide (fS (sgi l k) (jn d s a) < 0)) (bA (E9 6)) (bC (E9 6)) (fS (sgi l k) (jn d s a)) rfl (Facts.bigN (hA.j.st.now).1 1 rfl)  (decide (endS l day off k < 0)) (bA (env 19)) (bC (env 19)) (endS l day off k) rfl (At.bigN hA 19 rfl rfl rfl) ,rfl⟩))<|c_ (bi0 (vI (cmpZ (fS (sgi l k) (jn d s a)) (endS l day off k))) (vI 0) (h:=by intro env w;simp [go_sem,cmpZ_le,cmpZ_lt,cmpZ_ge,cmpZ_gt,e3]))<|c_ (pk0 bF bT bT (h:=by intro env w;simp [go_sem,cmpZ_le,cmpZ_lt,cmpZ_ge,cmpZ_gt,e3]))<|e_) (k:=fun E10 ac wd h_10=>?_)
 clear h_9
 refine then_n ?_
 refine wp_cond_true (eval_tmp (h_10.g (t:=89) rfl)) ?_
 refine wp_seq ?_
 refine rf_ h_10 (tri 3) [K_ (.agg #[bF,.slice none 0 0]),none,K_ (vI 6)] (fun E11=>[(8,vP (pb E1 1) 0),(9,vI 6),(12,vP (pb E9 7) 0)]) (S:=[⟨1,1,fun _=>[bF,.slice none 0 0]⟩]) (M':=fun E11=>[((pb E1 0),26,[vI d,vI s,vI a]),((pb E1 1),39,[bF,.slice none 0 0]),((pb E9 7),39,[.bool (decide (fS (sgi l k) (jn d s a) < 0)),rS (fS (sgi l k) (jn d s a)) ((bA (E9 6))) ((bC (E9 6)))])]) (hs:=c_ (bd0 ([]))<|c_ (se_ 1 (hst:=by exact fun _ _ _ hc=>st39 rfl rfl rfl hc))<|c_ mv_<|e_) (k:=fun E11 ac wd h_11=>?_)
 clear h_10
 refine then_n (wp_ret (then_ret ?_))
 have s8:=h_11.g (t:=8) rfl
 have hc8:=(h_11.st.own 1 _ rfl).2
 have c8_0:=own_cell (o:=0) hc8 rfl
 have c8_1:=own_cell (o:=1) hc8 rfl
 have s9:=h_11.g (t:=9) rfl
 refine leave (v:=vT2 (.agg #[.bool false,.slice none 0 0]) (vI 6)) h_11.df (by simp [results,Tryz.results46,go_sem,Array.getD_eq_getD_getElem?,s8,c8_0,c8_1,Tryz.underlying39,s9]) ?_
 have hE2:taiE l day off d s a=6:=by unfold taiE;rw [if_neg (by rw [hfb];simp),if_neg g1,if_neg g2,← hk,if_pos (by omega)]
 have hV2:taiV l day off d s a=0:=by unfold taiV;rw [if_neg (by rw [hE2];omega)]
 exact ⟨.agg #[.bool false,.slice none 0 0],by rw [hE2],h_11.st.below,BigN.nil hV2⟩
 refine rf_ h_9 [[0],[0,1],[0,1,2],r_ 4,r_ 5,r_ 6,r_ 7,[0,1,2,3,7],[0,1,2,3,8],[0,1,2,3,9],[0,1,2,3,7,8,9,10],r_ 12,r_ 13,r_ 14,r_ 15,[0,1,2,3,4,5,6,7,8,9,10,11,12,13,15],[0,1,2,3,4,5,6,7,8,9,10,11,12,13,16],[0,1,2,3,4,5,6,7,8,9,10,11,12,13,17],[0,1,2,3,4,5,6,7,8,9,10,11,12,13,18],[0,1,2,3,4,5,6,7,8,9,10,11,12,13,15,16,17,18,19],r_ 21,r_ 22,r_ 23] [K_ (vP (pb E1 0) 1),K_ (vI s),K_ bT,K_ bT,K_ (vP (pb E1 0) 0),K_ (vI d),K_ (vI (d+1)),K_ (.slice A0 l.length c0),K_ (vI day),K_ (vN k),K_ (vI (untS l day k)),K_ bF,K_ bF,K_ bF,K_ (bigF (fS (sgi l k) (jn d s a)) (E9 6)),K_ (.slice A0 l.length c0),K_ (vI day),K_ (vI off),K_ (vN k),KE_ fun env=>bigF (endS l day off k) (env 19),K_ (vI (cmpZ (fS (sgi l k) (jn d s a)) (endS l day off k))),K_ bF,K_ bF] (fun E10=>[(8,vP (pb E1 1) 0),(9,vI 0),(12,vP (pb E9 7) 0),(89,bF)]) (F:=[(19,fun env w=>BigN w0.heap.size w (env 19) (endS l day off k))]) (L1:=fun E10=>[fun w=>BigN w0.heap.size w (E9 5) (jn d s a),fun w=>BigN w0.heap.size w (E9 6) (fS (sgi l k) (jn d s a)),fun w=>BigN w0.heap.size w (E10 19) (endS l day off k)]) (hs:=c_ (fa0 (vP (pb E1 0) 0))<|c_ (ld_ 0 (hrd:=by exact rd3 rfl))<|c_ (bi0 (vI s) (vI 86400) (h:=by intro env w;simp [go_sem,e1]))<|c_ mv_<|c_ (fa0 (vP (pb E1 0) 0))<|c_ (ld_ 0 (hrd:=by exact rd3 rfl))<|c_ (bi0 (vI d) (vI 1))<|c_ (gm0 (.slice A0 l.length c0))<|c_ (gm0 (vI day))<|c_ (gm0 (vN k))<|c_ (cw_ Tryz.func79 (h:=fun _ env _ wd hA=>⟨_,Until_any wd A0 c0 l (hl.grown hA.j.st.gr) day k (by omega),rfl⟩))<|c_ (bi0 (vI (d+1)) (vI (untS l day k)) (h:=by intro env w;simp [go_sem,e2]))<|c_ (pk0 bT bF bF (h:=by intro env w;simp [go_sem,e2]))<|c_ mv_<|c_ (ld_ 2 (hrd:=by exact rd39 rfl rfl))<|c_ (gm0 (.slice A0 l.length c0))<|c_ (gm0 (vI day))<|c_ (gm0 (vI off))<|c_ (gm0 (vN k))<|c_ (cb_ Tryz.func80 (endS l day off k) (h:=fun _ env _ wd hA=>⟨_,End_any wd A0 c0 l (hl.grown hA.j.st.gr) day off hL k (by omega),rfl⟩))<|c_ (cw_ Tryz.func50 (h:=fun _ env _ wd hA=>⟨_,Cmp_any wd (decide (fS (sgi l k) (jn d s a) < 0)) (bA (E9 6)) (bC (E9 6)) (fS (sgi l k) (jn d s a)) rfl (Facts.bigN (hA.j.st.now).1 1 rfl)  (decide (endS l day off k < 0)) (bA (env 19)) (bC (env 19)) (endS l day off k) rfl (At.bigN hA 19 rfl rfl rfl) ,rfl⟩))<|c_ (bi0 (vI (cmpZ (fS (sgi l k) (jn d s a)) (endS l day off k))) (vI 0) (h:=by intro env w;simp [go_sem,cmpZ_le,cmpZ_lt,cmpZ_ge,cmpZ_gt,e3]))<|c_ (pk0 bF bT bF (h:=by intro env w;simp [go_sem,cmpZ_le,cmpZ_lt,cmpZ_ge,cmpZ_gt,e3]))<|e_) (k:=fun E10 ac wd h_10=>?_)
 clear h_9
 refine then_n ?_
 refine wp_cond_false (eval_tmp (h_10.g (t:=89) rfl)) ?_
 refine wp_skip (then_n (wp_seq ?_))
 refine rf_ h_10 (tri 3) [K_ (bigF (fS (sgi l k) (jn d s a)) (E9 6)),none,K_ (vI 0)] (fun E11=>[(8,vP (pb E1 1) 0),(9,vI 0)]) (S:=[⟨1,1,fun _=>[.bool (decide (fS (sgi l k) (jn d s a) < 0)),rS (fS (sgi l k) (jn d s a)) ((bA (E9 6))) ((bC (E9 6)))]⟩]) (M':=fun E11=>[((pb E1 0),26,[vI d,vI s,vI a]),((pb E1 1),39,[.bool (decide (fS (sgi l k) (jn d s a) < 0)),rS (fS (sgi l k) (jn d s a)) ((bA (E9 6))) ((bC (E9 6)))]),((pb E9 7),39,[.bool (decide (fS (sgi l k) (jn d s a) < 0)),rS (fS (sgi l k) (jn d s a)) ((bA (E9 6))) ((bC (E9 6)))])]) (hs:=c_ (ld_ 2 (hrd:=by exact rd39 rfl rfl))<|c_ (se_ 1 (hst:=by exact fun _ _ _ hc=>st39 rfl rfl rfl hc))<|c_ mv_<|e_) (k:=fun E11 ac wd h_11=>?_)
 clear h_10
 refine then_n (wp_ret ?_)
 have s8:=h_11.g (t:=8) rfl
 have hc8:=(h_11.st.own 1 _ rfl).2
 have c8_0:=own_cell (o:=0) hc8 rfl
 have c8_1:=own_cell (o:=1) hc8 rfl
 have s9:=h_11.g (t:=9) rfl
 refine leave (v:=vT2 (bigF (fS (sgi l k) (jn d s a)) (E9 6)) (vI 0)) h_11.df (by simp [results,Tryz.results46,go_sem,Array.getD_eq_getD_getElem?,s8,c8_0,c8_1,Tryz.underlying39,s9]) ?_
 have hE2:taiE l day off d s a=0:=by unfold taiE;rw [if_neg (by rw [hfb];simp),if_neg g1,if_neg g2,← hk,if_neg (by omega)]
 have hV2:taiV l day off d s a=fS (sgi l k) (jn d s a):=by unfold taiV;rw [if_pos hE2,← hk]
 exact ⟨bigF (fS (sgi l k) (jn d s a)) (E9 6),by rw [hE2],h_11.st.below,BigN.eq (BigN.mk rfl rfl (Facts.bN h_11.st.now 1 rfl)) hV2.symm⟩
 refine rf_ h_9 [[0],[0,1],[0,1,2],r_ 4,r_ 5,r_ 6,r_ 7,[0,1,2,3,7],[0,1,2,3,8],[0,1,2,3,9],[0,1,2,3,7,8,9,10],r_ 12,r_ 13,r_ 14,r_ 15,[0,1,2,3,4,5,6,7,8,9,10,11,12,13,15],[0,1,2,3,4,5,6,7,8,9,10,11,12,13,16],[0,1,2,3,4,5,6,7,8,9,10,11,12,13,17],[0,1,2,3,4,5,6,7,8,9,10,11,12,13,18],[0,1,2,3,4,5,6,7,8,9,10,11,12,13,15,16,17,18,19],r_ 21,r_ 22,r_ 23] [K_ (vP (pb E1 0) 1),K_ (vI s),K_ bT,K_ bT,K_ (vP (pb E1 0) 0),K_ (vI d),K_ (vI (d+1)),K_ (.slice A0 l.length c0),K_ (vI day),K_ (vN k),K_ (vI (untS l day k)),K_ bT,K_ bT,K_ bT,K_ undef,K_ undef,K_ undef,K_ undef,K_ undef,K_ undef,K_ undef,K_ undef,K_ bT] (fun E10=>[(8,vP (pb E1 1) 0),(9,vI 0),(12,vP (pb E9 7) 0),(89,bT)]) (hs:=c_ (fa0 (vP (pb E1 0) 0))<|c_ (ld_ 0 (hrd:=by exact rd3 rfl))<|c_ (bi0 (vI s) (vI 86400) (h:=by intro env w;simp [go_sem,e1]))<|c_ mv_<|c_ (fa0 (vP (pb E1 0) 0))<|c_ (ld_ 0 (hrd:=by exact rd3 rfl))<|c_ (bi0 (vI d) (vI 1))<|c_ (gm0 (.slice A0 l.length c0))<|c_ (gm0 (vI day))<|c_ (gm0 (vN k))<|c_ (cw_ Tryz.func79 (h:=fun _ env _ wd hA=>⟨_,Until_any wd A0 c0 l (hl.grown hA.j.st.gr) day k (by omega),rfl⟩))<|c_ (bi0 (vI (d+1)) (vI (untS l day k)) (h:=by intro env w;simp [go_sem,e2]))<|c_ (pk0 bT bT bF (h:=by intro env w;simp [go_sem,e2]))<|c_ mv_<|c_ off_<|c_ off_<|c_ off_<|c_ off_<|c_ off_<|c_ off_<|c_ off_<|c_ off_<|c_ (pk0 bT bT undef)<|e_) (k:=fun E10 ac wd h_10=>?_)
 clear h_9
 refine then_n ?_
 refine wp_cond_true (eval_tmp (h_10.g (t:=89) rfl)) ?_
 refine wp_seq ?_
 refine rf_ h_10 (tri 3) [K_ (.agg #[bF,.slice none 0 0]),none,K_ (vI 6)] (fun E11=>[(8,vP (pb E1 1) 0),(9,vI 6),(12,vP (pb E9 7) 0)]) (S:=[⟨1,1,fun _=>[bF,.slice none 0 0]⟩]) (M':=fun E11=>[((pb E1 0),26,[vI d,vI s,vI a]),((pb E1 1),39,[bF,.slice none 0 0]),((pb E9 7),39,[.bool (decide (fS (sgi l k) (jn d s a) < 0)),rS (fS (sgi l k) (jn d s a)) ((bA (E9 6))) ((bC (E9 6)))])]) (hs:=c_ (bd0 ([]))<|c_ (se_ 1 (hst:=by exact fun _ _ _ hc=>st39 rfl rfl rfl hc))<|c_ mv_<|e_) (k:=fun E11 ac wd h_11=>?_)
 clear h_10
 refine then_n (wp_ret (then_ret ?_))
 have s8:=h_11.g (t:=8) rfl
 have hc8:=(h_11.st.own 1 _ rfl).2
 have c8_0:=own_cell (o:=0) hc8 rfl
 have c8_1:=own_cell (o:=1) hc8 rfl
 have s9:=h_11.g (t:=9) rfl
 refine leave (v:=vT2 (.agg #[.bool false,.slice none 0 0]) (vI 6)) h_11.df (by simp [results,Tryz.results46,go_sem,Array.getD_eq_getD_getElem?,s8,c8_0,c8_1,Tryz.underlying39,s9]) ?_
 have hE2:taiE l day off d s a=6:=by unfold taiE;rw [if_neg (by rw [hfb];simp),if_neg g1,if_neg g2,← hk,if_pos (by omega)]
 have hV2:taiV l day off d s a=0:=by unfold taiV;rw [if_neg (by rw [hE2];omega)]
 exact ⟨.agg #[.bool false,.slice none 0 0],by rw [hE2],h_11.st.below,BigN.nil hV2⟩
 by_cases e3:endS l day off k≤fS (sgi l k) (jn d s a)
 refine rf_ h_9 [[0],[0,1],[0,1,2],r_ 4,r_ 5,r_ 6,r_ 7,[0,1,2,3,7],[0,1,2,3,8],[0,1,2,3,9],[0,1,2,3,7,8,9,10],r_ 12,r_ 13,r_ 14,r_ 15,[0,1,2,3,4,5,6,7,8,9,10,11,12,13,15],[0,1,2,3,4,5,6,7,8,9,10,11,12,13,16],[0,1,2,3,4,5,6,7,8,9,10,11,12,13,17],[0,1,2,3,4,5,6,7,8,9,10,11,12,13,18],[0,1,2,3,4,5,6,7,8,9,10,11,12,13,15,16,17,18,19],r_ 21,r_ 22,r_ 23] [K_ (vP (pb E1 0) 1),K_ (vI s),K_ bF,K_ bF,K_ undef,K_ undef,K_ undef,K_ undef,K_ undef,K_ undef,K_ undef,K_ undef,K_ bF,K_ bF,K_ (bigF (fS (sgi l k) (jn d s a)) (E9 6)),K_ (.slice A0 l.length c0),K_ (vI day),K_ (vI off),K_ (vN k),KE_ fun env=>bigF (endS l day off k) (env 19),K_ (vI (cmpZ (fS (sgi l k) (jn d s a)) (endS l day off k))),K_ bT,K_ bT] (fun E10=>[(8,vP (pb E1 1) 0),(9,vI 0),(12,vP (pb E9 7) 0),(89,bT)]) (F:=[(19,fun env w=>BigN w0.heap.size w (env 19) (endS l day off k))]) (L1:=fun E10=>[fun w=>BigN w0.heap.size w (E9 5) (jn d s a),fun w=>BigN w0.heap.size w (E9 6) (fS (sgi l k) (jn d s a)),fun w=>BigN w0.heap.size w (E10 19) (endS l day off k)]) (hs:=c_ (fa0 (vP (pb E1 0) 0))<|c_ (ld_ 0 (hrd:=by exact rd3 rfl))<|c_ (bi0 (vI s) (vI 86400) (h:=by intro env w;simp [go_sem,e1]))<|c_ mv_<|c_ off_<|c_ off_<|c_ off_<|c_ off_<|c_ off_<|c_ off_<|c_ off_<|c_ off_<|c_ (pk0 bF undef bF)<|c_ mv_<|c_ (ld_ 2 (hrd:=by exact rd39 rfl rfl))<|c_ (gm0 (.slice A0 l.length c0))<|c_ (gm0 (vI day))<|c_ (gm0 (vI off))<|c_ (gm0 (vN k))<|c_ (cb_ Tryz.func80 (endS l day off k) (h:=fun _ env _ wd hA=>⟨_,End_any wd A0 c0 l (hl.grown hA.j.st.gr) day off hL k (by omega),rfl⟩))<|c_ (cw_ Tryz.func50 (h:=fun _ env _ wd hA=>⟨_,Cmp_any wd (decide (fS (sgi l k) (jn d s a) < 0)) (bA (E9 6)) (bC (E9 6)) (fS (sgi l k) (jn d s a)) rfl (Facts.bigN (hA.j.st.now).1 1 rfl)  (decide (endS l day off k < 0)) (bA (env 19)) (bC (env 19)) (endS l day off k) rfl (At.bigN hA 19 rfl rfl rfl) ,rfl⟩))<|c_ (bi0 (vI (cmpZ (fS (sgi l k) (jn d s a)) (endS l day off k))) (vI 0) (h:=by intro env w;simp [go_sem,cmpZ_le,cmpZ_lt,cmpZ_ge,cmpZ_gt,e3]))<|c_ (pk0 bF bT bT (h:=by intro env w;simp [go_sem,cmpZ_le,cmpZ_lt,cmpZ_ge,cmpZ_gt,e3]))<|e_) (k:=fun E10 ac wd h_10=>?_)
 clear h_9
 refine then_n ?_
 refine wp_cond_true (eval_tmp (h_10.g (t:=89) rfl)) ?_
 refine wp_seq ?_
 refine rf_ h_10 (tri 3) [K_ (.agg #[bF,.slice none 0 0]),none,K_ (vI 6)] (fun E11=>[(8,vP (pb E1 1) 0),(9,vI 6),(12,vP (pb E9 7) 0)]) (S:=[⟨1,1,fun _=>[bF,.slice none 0 0]⟩]) (M':=fun E11=>[((pb E1 0),26,[vI d,vI s,vI a]),((pb E1 1),39,[bF,.slice none 0 0]),((pb E9 7),39,[.bool (decide (fS (sgi l k) (jn d s a) < 0)),rS (fS (sgi l k) (jn d s a)) ((bA (E9 6))) ((bC (E9 6)))])]) (hs:=c_ (bd0 ([]))<|c_ (se_ 1 (hst:=by exact fun _ _ _ hc=>st39 rfl rfl rfl hc))<|c_ mv_<|e_) (k:=fun E11 ac wd h_11=>?_)
 clear h_10
 refine then_n (wp_ret (then_ret ?_))
 have s8:=h_11.g (t:=8) rfl
 have hc8:=(h_11.st.own 1 _ rfl).2
 have c8_0:=own_cell (o:=0) hc8 rfl
 have c8_1:=own_cell (o:=1) hc8 rfl
 have s9:=h_11.g (t:=9) rfl
 refine leave (v:=vT2 (.agg #[.bool false,.slice none 0 0]) (vI 6)) h_11.df (by simp [results,Tryz.results46,go_sem,Array.getD_eq_getD_getElem?,s8,c8_0,c8_1,Tryz.underlying39,s9]) ?_
 have hE2:taiE l day off d s a=6:=by unfold taiE;rw [if_neg (by rw [hfb];simp),if_neg g1,if_neg g2,← hk,if_pos (by omega)]
 have hV2:taiV l day off d s a=0:=by unfold taiV;rw [if_neg (by rw [hE2];omega)]
 exact ⟨.agg #[.bool false,.slice none 0 0],by rw [hE2],h_11.st.below,BigN.nil hV2⟩
 refine rf_ h_9 [[0],[0,1],[0,1,2],r_ 4,r_ 5,r_ 6,r_ 7,[0,1,2,3,7],[0,1,2,3,8],[0,1,2,3,9],[0,1,2,3,7,8,9,10],r_ 12,r_ 13,r_ 14,r_ 15,[0,1,2,3,4,5,6,7,8,9,10,11,12,13,15],[0,1,2,3,4,5,6,7,8,9,10,11,12,13,16],[0,1,2,3,4,5,6,7,8,9,10,11,12,13,17],[0,1,2,3,4,5,6,7,8,9,10,11,12,13,18],[0,1,2,3,4,5,6,7,8,9,10,11,12,13,15,16,17,18,19],r_ 21,r_ 22,r_ 23] [K_ (vP (pb E1 0) 1),K_ (vI s),K_ bF,K_ bF,K_ undef,K_ undef,K_ undef,K_ undef,K_ undef,K_ undef,K_ undef,K_ undef,K_ bF,K_ bF,K_ (bigF (fS (sgi l k) (jn d s a)) (E9 6)),K_ (.slice A0 l.length c0),K_ (vI day),K_ (vI off),K_ (vN k),KE_ fun env=>bigF (endS l day off k) (env 19),K_ (vI (cmpZ (fS (sgi l k) (jn d s a)) (endS l day off k))),K_ bF,K_ bF] (fun E10=>[(8,vP (pb E1 1) 0),(9,vI 0),(12,vP (pb E9 7) 0),(89,bF)]) (F:=[(19,fun env w=>BigN w0.heap.size w (env 19) (endS l day off k))]) (L1:=fun E10=>[fun w=>BigN w0.heap.size w (E9 5) (jn d s a),fun w=>BigN w0.heap.size w (E9 6) (fS (sgi l k) (jn d s a)),fun w=>BigN w0.heap.size w (E10 19) (endS l day off k)]) (hs:=c_ (fa0 (vP (pb E1 0) 0))<|c_ (ld_ 0 (hrd:=by exact rd3 rfl))<|c_ (bi0 (vI s) (vI 86400) (h:=by intro env w;simp [go_sem,e1]))<|c_ mv_<|c_ off_<|c_ off_<|c_ off_<|c_ off_<|c_ off_<|c_ off_<|c_ off_<|c_ off_<|c_ (pk0 bF undef bF)<|c_ mv_<|c_ (ld_ 2 (hrd:=by exact rd39 rfl rfl))<|c_ (gm0 (.slice A0 l.length c0))<|c_ (gm0 (vI day))<|c_ (gm0 (vI off))<|c_ (gm0 (vN k))<|c_ (cb_ Tryz.func80 (endS l day off k) (h:=fun _ env _ wd hA=>⟨_,End_any wd A0 c0 l (hl.grown hA.j.st.gr) day off hL k (by omega),rfl⟩))<|c_ (cw_ Tryz.func50 (h:=fun _ env _ wd hA=>⟨_,Cmp_any wd (decide (fS (sgi l k) (jn d s a) < 0)) (bA (E9 6)) (bC (E9 6)) (fS (sgi l k) (jn d s a)) rfl (Facts.bigN (hA.j.st.now).1 1 rfl)  (decide (endS l day off k < 0)) (bA (env 19)) (bC (env 19)) (endS l day off k) rfl (At.bigN hA 19 rfl rfl rfl) ,rfl⟩))<|c_ (bi0 (vI (cmpZ (fS (sgi l k) (jn d s a)) (endS l day off k))) (vI 0) (h:=by intro env w;simp [go_sem,cmpZ_le,cmpZ_lt,cmpZ_ge,cmpZ_gt,e3]))<|c_ (pk0 bF bT bF (h:=by intro env w;simp [go_sem,cmpZ_le,cmpZ_lt,cmpZ_ge,cmpZ_gt,e3]))<|e_) (k:=fun E10 ac wd h_10=>?_)
 clear h_9
 refine then_n ?_
 refine wp_cond_false (eval_tmp (h_10.g (t:=89) rfl)) ?_
 refine wp_skip (then_n (wp_seq ?_))
 refine rf_ h_10 (tri 3) [K_ (bigF (fS (sgi l k) (jn d s a)) (E9 6)),none,K_ (vI 0)] (fun E11=>[(8,vP (pb E1 1) 0),(9,vI 0)]) (S:=[⟨1,1,fun _=>[.bool (decide (fS (sgi l k) (jn d s a) < 0)),rS (fS (sgi l k) (jn d s a)) ((bA (E9 6))) ((bC (E9 6)))]⟩]) (M':=fun E11=>[((pb E1 0),26,[vI d,vI s,vI a]),((pb E1 1),39,[.bool (decide (fS (sgi l k) (jn d s a) < 0)),rS (fS (sgi l k) (jn d s a)) ((bA (E9 6))) ((bC (E9 6)))]),((pb E9 7),39,[.bool (decide (fS (sgi l k) (jn d s a) < 0)),rS (fS (sgi l k) (jn d s a)) ((bA (E9 6))) ((bC (E9 6)))])]) (hs:=c_ (ld_ 2 (hrd:=by exact rd39 rfl rfl))<|c_ (se_ 1 (hst:=by exact fun _ _ _ hc=>st39 rfl rfl rfl hc))<|c_ mv_<|e_) (k:=fun E11 ac wd h_11=>?_)
 clear h_10
 refine then_n (wp_ret ?_)
 have s8:=h_11.g (t:=8) rfl
 have hc8:=(h_11.st.own 1 _ rfl).2
 have c8_0:=own_cell (o:=0) hc8 rfl
 have c8_1:=own_cell (o:=1) hc8 rfl
 have s9:=h_11.g (t:=9) rfl
 refine leave (v:=vT2 (bigF (fS (sgi l k) (jn d s a)) (E9 6)) (vI 0)) h_11.df (by simp [results,Tryz.results46,go_sem,Array.getD_eq_getD_getElem?,s8,c8_0,c8_1,Tryz.underlying39,s9]) ?_
 have hE2:taiE l day off d s a=0:=by unfold taiE;rw [if_neg (by rw [hfb];simp),if_neg g1,if_neg g2,← hk,if_neg (by omega)]
 have hV2:taiV l day off d s a=fS (sgi l k) (jn d s a):=by unfold taiV;rw [if_pos hE2,← hk]
 exact ⟨bigF (fS (sgi l k) (jn d s a)) (E9 6),by rw [hE2],h_11.st.below,BigN.eq (BigN.mk rfl rfl (Facts.bN h_11.st.now 1 rfl)) hV2.symm⟩
end Go.Proofs.YtdfkghpgekmmlaaGreat
