/- Texts F13, F14, Q3, Q4, F15, Q5, Q6 of one proof, one behind the other; what nothing here names is left out. -/
import Derived.Test.YtdfkghpgekmmlaaGreatZ6
import Derived.Test.YtdfkghpgekmmlaaGreatT7
import Derived.Test.YtdfkghpgekmmlaaGreatZ4
import Derived.IntWalk
import Derived.Shelf.SlicesQ.IndexFunc
import Derived.Test.YtdfkghpgekmmlaaGreatZ5
set_option maxRecDepth 100000
set_option maxHeartbeats 8000000
set_option linter.unusedVariables false
set_option linter.unusedSimpArgs false
namespace Go.Proofs.YtdfkghpgekmmlaaGreat
open Go.RowKit
attribute [local go_sem] vN bT bF rS vSg vPc vW vM vL vT2 vT3 vP vI execOp Act.eval evC bigF vB hi_zero lo_zero Tryz.underlying126 Tryz.underlying128 Tryz.underlying130 Tryz.underlying26 Tryz.underlying34
theorem RowU_le {w:World} {A:Option Addr} {n c k:Nat} {f:Nat→Value} (h:RowU w (.slice A n c) n k f):n≤9223372036854775807:=by obtain ⟨_,_,_,_,h,_⟩:=h;exact h
theorem sizes_any (w0:World) (A0:Option Addr) (c0:Nat) (l:List Sg) (hl:SegU w0 (.slice A0 l.length c0) l) (day off:Int) (hd0:-9223372036854775808≤day) (hd1:day < 9223372036854775808):Calls Tryz.prog 66 #[.slice A0 l.length c0,vI day,vI off] w0 fun e w'=>e = .returned (.bool (szL l day off))∧Below w0.heap.size w0 w':=by
 have hle:=RowU_le hl
 have hst:=St.start w0 (Θ:=fun _=>True) (fun _ _=>trivial)
 refine enter Tryz.func66 rfl (n:=79) rfl (Nat.le_of_ble_eq_true rfl) hst (L:=[(0,.slice A0 l.length c0),(1,vI day),(2,vI off)]) (lk_args rfl) (fun ac h=>?_)
 refine wp_seq ?_
 refine rg_ h [[0]] [K_ bF] (fun E1=>[(0,.slice A0 l.length c0),(1,vI day),(2,vI off),(6,bF)]) (hs:=c_ mv_<|e_) (k:=fun E1 ac wd h_1=>?_)
 clear h
 refine then_n (wp_seq (wp_seq ?_))
 cases hA:wthn (l.length:Int) 1 32
 refine rg_ h_1 [[0],[0,1],[0,1,2],r_ 4,r_ 5,r_ 6,r_ 7,r_ 8,r_ 9,r_ 10,r_ 11,r_ 12,r_ 13,r_ 14,r_ 15,r_ 16,[0,1,2,3,4,5,6,7,8,9,10,11,12,13,14,16],[0,1,2,3,4,5,6,7,8,9,10,11,12,13,14,16,17],[0,1,2,3,4,5,6,7,8,9,10,11,12,13,14,16,17,18],r_ 20,r_ 21,r_ 22,[0,1,2,3,4,5,6,7,8,9,10,11,12,13,14,22],r_ 24,r_ 25] [K_ (.slice A0 l.length c0),K_ (vN l.length),K_ bF,K_ bT,K_ bT,K_ undef,K_ undef,K_ undef,K_ bT,K_ bT,K_ undef,K_ undef,K_ undef,K_ bT,K_ bT,K_ undef,K_ undef,K_ undef,K_ undef,K_ undef,K_ undef,K_ undef,K_ undef,K_ undef,K_ bT] (fun E2=>[(0,.slice A0 l.length c0),(6,bF),(33,bT)]) (hs:=c_ mv_<|c_ (ln_ Tryz.underlying82 fun _ env _ wd hA=>(hl.grown hA.j.st.gr).els)<|c_ (cl_ Tryz.func99 (h:=fun env=>⟨_,((rwithin_any (l.length:Int) 1 32).eq (congrArg Value.bool hA)),rfl⟩))<|c_ (un0 bF)<|c_ mv_<|c_ off_<|c_ off_<|c_ off_<|c_ (pk0 bT bT undef)<|c_ mv_<|c_ off_<|c_ off_<|c_ off_<|c_ (pk0 bT bT undef)<|c_ mv_<|c_ off_<|c_ off_<|c_ off_<|c_ off_<|c_ off_<|c_ off_<|c_ off_<|c_ off_<|c_ off_<|c_ (pk0 bT bT undef)<|e_) (k:=fun E2 ac wd h_2=>?_)
 clear h_1
 refine then_n ?_
 refine wp_cond_true (eval_tmp (h_2.g (t:=33) rfl)) ?_
 refine wp_seq ?_
 refine rg_ h_2 [[0]] [K_ bF] (fun E3=>[(0,.slice A0 l.length c0),(6,bF)]) (hs:=c_ mv_<|e_) (k:=fun E3 ac wd h_3=>?_)
 clear h_2
 refine then_n (wp_ret (then_ret ?_))
 have s6:=h_3.g (t:=6) rfl
 refine leave (v:=.bool false) h_3.df (by simp [results,Tryz.results66,go_sem,Array.getD_eq_getD_getElem?,s6]) ?_
 have hres:szL l day off=false:=by simp [szL,szH,hA]
 exact ⟨by rw [hres],h_3.st.below⟩
 cases hB:wthn day (-1048576) 1048576
 refine rg_ h_1 [[0],[0,1],[0,1,2],r_ 4,r_ 5,r_ 6,r_ 7,r_ 8,r_ 9,r_ 10,r_ 11,r_ 12,r_ 13,r_ 14,r_ 15,r_ 16,[0,1,2,3,4,5,6,7,8,9,10,11,12,13,14,16],[0,1,2,3,4,5,6,7,8,9,10,11,12,13,14,16,17],[0,1,2,3,4,5,6,7,8,9,10,11,12,13,14,16,17,18],r_ 20,r_ 21,r_ 22,[0,1,2,3,4,5,6,7,8,9,10,11,12,13,14,22],r_ 24,r_ 25] [K_ (.slice A0 l.length c0),K_ (vN l.length),K_ bT,K_ bF,K_ bF,K_ (vI day),K_ bF,K_ bT,K_ bT,K_ bT,K_ undef,K_ undef,K_ undef,K_ bT,K_ bT,K_ undef,K_ undef,K_ undef,K_ undef,K_ undef,K_ undef,K_ undef,K_ undef,K_ undef,K_ bT] (fun E2=>[(0,.slice A0 l.length c0),(6,bF),(33,bT)]) (hs:=c_ mv_<|c_ (ln_ Tryz.underlying82 fun _ env _ wd hA=>(hl.grown hA.j.st.gr).els)<|c_ (cl_ Tryz.func99 (h:=fun env=>⟨_,((rwithin_any (l.length:Int) 1 32).eq (congrArg Value.bool hA)),rfl⟩))<|c_ (un0 bT)<|c_ mv_<|c_ (gm0 (vI day))<|c_ (cl_ Tryz.func99 (h:=fun env=>⟨_,((rwithin_any day (-1048576) 1048576).eq (congrArg Value.bool hB)),rfl⟩))<|c_ (un0 bF)<|c_ (pk0 bF bT bT)<|c_ mv_<|c_ off_<|c_ off_<|c_ off_<|c_ (pk0 bT bT undef)<|c_ mv_<|c_ off_<|c_ off_<|c_ off_<|c_ off_<|c_ off_<|c_ off_<|c_ off_<|c_ off_<|c_ off_<|c_ (pk0 bT bT undef)<|e_) (k:=fun E2 ac wd h_2=>?_)
 clear h_1
 refine then_n ?_
 refine wp_cond_true (eval_tmp (h_2.g (t:=33) rfl)) ?_
 refine wp_seq ?_
 refine rg_ h_2 [[0]] [K_ bF] (fun E3=>[(0,.slice A0 l.length c0),(6,bF)]) (hs:=c_ mv_<|e_) (k:=fun E3 ac wd h_3=>?_)
 clear h_2
 refine then_n (wp_ret (then_ret ?_))
 have s6:=h_3.g (t:=6) rfl
 refine leave (v:=.bool false) h_3.df (by simp [results,Tryz.results66,go_sem,Array.getD_eq_getD_getElem?,s6]) ?_
 have hres:szL l day off=false:=by simp [szL,szH,hA,hB]
 exact ⟨by rw [hres],h_3.st.below⟩
 cases hC:wthn off 0 1000
 refine rg_ h_1 [[0],[0,1],[0,1,2],r_ 4,r_ 5,r_ 6,r_ 7,r_ 8,r_ 9,r_ 10,r_ 11,r_ 12,r_ 13,r_ 14,r_ 15,r_ 16,[0,1,2,3,4,5,6,7,8,9,10,11,12,13,14,16],[0,1,2,3,4,5,6,7,8,9,10,11,12,13,14,16,17],[0,1,2,3,4,5,6,7,8,9,10,11,12,13,14,16,17,18],r_ 20,r_ 21,r_ 22,[0,1,2,3,4,5,6,7,8,9,10,11,12,13,14,22],r_ 24,r_ 25] [K_ (.slice A0 l.length c0),K_ (vN l.length),K_ bT,K_ bF,K_ bF,K_ (vI day),K_ bT,K_ bF,K_ bF,K_ bF,K_ (vI off),K_ bF,K_ bT,K_ bT,K_ bT,K_ undef,K_ undef,K_ undef,K_ undef,K_ undef,K_ undef,K_ undef,K_ undef,K_ undef,K_ bT] (fun E2=>[(0,.slice A0 l.length c0),(6,bF),(33,bT)]) (hs:=c_ mv_<|c_ (ln_ Tryz.underlying82 fun _ env _ wd hA=>(hl.grown hA.j.st.gr).els)<|c_ (cl_ Tryz.func99 (h:=fun env=>⟨_,((rwithin_any (l.length:Int) 1 32).eq (congrArg Value.bool hA)),rfl⟩))<|c_ (un0 bT)<|c_ mv_<|c_ (gm0 (vI day))<|c_ (cl_ Tryz.func99 (h:=fun env=>⟨_,((rwithin_any day (-1048576) 1048576).eq (congrArg Value.bool hB)),rfl⟩))<|c_ (un0 bT)<|c_ (pk0 bF bT bF)<|c_ mv_<|c_ (gm0 (vI off))<|c_ (cl_ Tryz.func99 (h:=fun env=>⟨_,((rwithin_any off 0 1000).eq (congrArg Value.bool hC)),rfl⟩))<|c_ (un0 bF)<|c_ (pk0 bF bT bT)<|c_ mv_<|c_ off_<|c_ off_<|c_ off_<|c_ off_<|c_ off_<|c_ off_<|c_ off_<|c_ off_<|c_ off_<|c_ (pk0 bT bT undef)<|e_) (k:=fun E2 ac wd h_2=>?_)
 clear h_1
 refine then_n ?_
 refine wp_cond_true (eval_tmp (h_2.g (t:=33) rfl)) ?_
 refine wp_seq ?_
 refine rg_ h_2 [[0]] [K_ bF] (fun E3=>[(0,.slice A0 l.length c0),(6,bF)]) (hs:=c_ mv_<|e_) (k:=fun E3 ac wd h_3=>?_)
 clear h_2
 refine then_n (wp_ret (then_ret ?_))
 have s6:=h_3.g (t:=6) rfl
 refine leave (v:=.bool false) h_3.df (by simp [results,Tryz.results66,go_sem,Array.getD_eq_getD_getElem?,s6]) ?_
 have hres:szL l day off=false:=by simp [szL,szH,hA,hB,hC]
 exact ⟨by rw [hres],h_3.st.below⟩
 have hn32:=wthn_iff.1 hA
 by_cases hD:day≤(sgi l (l.length-1)).d
 refine rg_ h_1 [[0],[0,1],[0,1,2],r_ 4,r_ 5,r_ 6,r_ 7,r_ 8,r_ 9,r_ 10,r_ 11,r_ 12,r_ 13,r_ 14,r_ 15,r_ 16,[0,1,2,3,4,5,6,7,8,9,10,11,12,13,14,16],[0,1,2,3,4,5,6,7,8,9,10,11,12,13,14,16,17],[0,1,2,3,4,5,6,7,8,9,10,11,12,13,14,16,17,18],r_ 20,r_ 21,r_ 22,[0,1,2,3,4,5,6,7,8,9,10,11,12,13,14,22],r_ 24,r_ 25] [K_ (.slice A0 l.length c0),K_ (vN l.length),K_ bT,K_ bF,K_ bF,K_ (vI day),K_ bT,K_ bF,K_ bF,K_ bF,K_ (vI off),K_ bT,K_ bF,K_ bF,K_ bF,K_ (.slice A0 l.length c0),K_ (.slice A0 l.length c0),K_ (vN l.length),K_ (vI ((l.length:Int)-1)),K_ (elt (.slice A0 l.length c0) ((l.length-1)*4)),K_ (elt (.slice A0 l.length c0) ((l.length-1)*4)),K_ (vI ((sgi l (l.length-1)).d)),K_ (vI day),K_ bT,K_ bT] (fun E2=>[(0,.slice A0 l.length c0),(6,bF),(33,bT)]) (hs:=c_ mv_<|c_ (ln_ Tryz.underlying82 fun _ env _ wd hA=>(hl.grown hA.j.st.gr).els)<|c_ (cl_ Tryz.func99 (h:=fun env=>⟨_,((rwithin_any (l.length:Int) 1 32).eq (congrArg Value.bool hA)),rfl⟩))<|c_ (un0 bT)<|c_ mv_<|c_ (gm0 (vI day))<|c_ (cl_ Tryz.func99 (h:=fun env=>⟨_,((rwithin_any day (-1048576) 1048576).eq (congrArg Value.bool hB)),rfl⟩))<|c_ (un0 bT)<|c_ (pk0 bF bT bF)<|c_ mv_<|c_ (gm0 (vI off))<|c_ (cl_ Tryz.func99 (h:=fun env=>⟨_,((rwithin_any off 0 1000).eq (congrArg Value.bool hC)),rfl⟩))<|c_ (un0 bT)<|c_ (pk0 bF bT bF)<|c_ mv_<|c_ (gm0 (.slice A0 l.length c0))<|c_ (gm0 (.slice A0 l.length c0))<|c_ (ln_ Tryz.underlying82 fun _ env _ wd hA=>(hl.grown hA.j.st.gr).els)<|c_ (bi0 (vN l.length) (vI 1))<|c_ (ia_ Tryz.underlying82 sz128 (l.length-1) ((l.length-1)*4) ((l.length:Int)-1) (fun _ env _ wd hA=>(hl.grown hA.j.st.gr).els) (by omega) (by omega) rfl)<|c_ (s_fa rfl rfl rfl (fun hA=>hA.gy rfl rfl rfl) ((l.length-1)*4) 0 ((l.length-1)*4) rfl (s:=fun _=>.slice A0 l.length c0) rfl (fun _=>rfl) (fun {D env ac wd} hA=>(hl.grown hA.j.st.gr).els) (by omega) (fun b q w=>by simp [go_sem,Tryz.underlying128]))<|c_ (le_ ((l.length-1)*4) (fun _ env _ wd hA=>(hl.grown hA.j.st.gr).els) (by omega) (le3 (by exact sgC_0 l (l.length-1))))<|c_ (gm0 (vI day))<|c_ (bi0 (vI ((sgi l (l.length-1)).d)) (vI day))<|c_ (pk0 bF bT bT)<|e_) (k:=fun E2 ac wd h_2=>?_)
 clear h_1
 refine then_n ?_
 refine wp_cond_true (eval_tmp (h_2.g (t:=33) rfl)) ?_
 refine wp_seq ?_
 refine rg_ h_2 [[0]] [K_ bF] (fun E3=>[(0,.slice A0 l.length c0),(6,bF)]) (hs:=c_ mv_<|e_) (k:=fun E3 ac wd h_3=>?_)
 clear h_2
 refine then_n (wp_ret (then_ret ?_))
 have s6:=h_3.g (t:=6) rfl
 refine leave (v:=.bool false) h_3.df (by simp [results,Tryz.results66,go_sem,Array.getD_eq_getD_getElem?,s6]) ?_
 have hres:szL l day off=false:=by rw [szL,← szR_szA (day:=day) (by omega),decide_eq_false (by omega)];simp
 exact ⟨by rw [hres],h_3.st.below⟩
 refine rg_ h_1 [[0],[0,1],[0,1,2],r_ 4,r_ 5,r_ 6,r_ 7,r_ 8,r_ 9,r_ 10,r_ 11,r_ 12,r_ 13,r_ 14,r_ 15,r_ 16,[0,1,2,3,4,5,6,7,8,9,10,11,12,13,14,16],[0,1,2,3,4,5,6,7,8,9,10,11,12,13,14,16,17],[0,1,2,3,4,5,6,7,8,9,10,11,12,13,14,16,17,18],r_ 20,r_ 21,r_ 22,[0,1,2,3,4,5,6,7,8,9,10,11,12,13,14,22],r_ 24,r_ 25] [K_ (.slice A0 l.length c0),K_ (vN l.length),K_ bT,K_ bF,K_ bF,K_ (vI day),K_ bT,K_ bF,K_ bF,K_ bF,K_ (vI off),K_ bT,K_ bF,K_ bF,K_ bF,K_ (.slice A0 l.length c0),K_ (.slice A0 l.length c0),K_ (vN l.length),K_ (vI ((l.length:Int)-1)),K_ (elt (.slice A0 l.length c0) ((l.length-1)*4)),K_ (elt (.slice A0 l.length c0) ((l.length-1)*4)),K_ (vI ((sgi l (l.length-1)).d)),K_ (vI day),K_ bF,K_ bF] (fun E2=>[(0,.slice A0 l.length c0),(6,bF),(33,bF)]) (hs:=c_ mv_<|c_ (ln_ Tryz.underlying82 fun _ env _ wd hA=>(hl.grown hA.j.st.gr).els)<|c_ (cl_ Tryz.func99 (h:=fun env=>⟨_,((rwithin_any (l.length:Int) 1 32).eq (congrArg Value.bool hA)),rfl⟩))<|c_ (un0 bT)<|c_ mv_<|c_ (gm0 (vI day))<|c_ (cl_ Tryz.func99 (h:=fun env=>⟨_,((rwithin_any day (-1048576) 1048576).eq (congrArg Value.bool hB)),rfl⟩))<|c_ (un0 bT)<|c_ (pk0 bF bT bF)<|c_ mv_<|c_ (gm0 (vI off))<|c_ (cl_ Tryz.func99 (h:=fun env=>⟨_,((rwithin_any off 0 1000).eq (congrArg Value.bool hC)),rfl⟩))<|c_ (un0 bT)<|c_ (pk0 bF bT bF)<|c_ mv_<|c_ (gm0 (.slice A0 l.length c0))<|c_ (gm0 (.slice A0 l.length c0))<|c_ (ln_ Tryz.underlying82 fun _ env _ wd hA=>(hl.grown hA.j.st.gr).els)<|c_ (bi0 (vN l.length) (vI 1))<|c_ (ia_ Tryz.underlying82 sz128 (l.length-1) ((l.length-1)*4) ((l.length:Int)-1) (fun _ env _ wd hA=>(hl.grown hA.j.st.gr).els) (by omega) (by omega) rfl)<|c_ (s_fa rfl rfl rfl (fun hA=>hA.gy rfl rfl rfl) ((l.length-1)*4) 0 ((l.length-1)*4) rfl (s:=fun _=>.slice A0 l.length c0) rfl (fun _=>rfl) (fun {D env ac wd} hA=>(hl.grown hA.j.st.gr).els) (by omega) (fun b q w=>by simp [go_sem,Tryz.underlying128]))<|c_ (le_ ((l.length-1)*4) (fun _ env _ wd hA=>(hl.grown hA.j.st.gr).els) (by omega) (le3 (by exact sgC_0 l (l.length-1))))<|c_ (gm0 (vI day))<|c_ (bi0 (vI ((sgi l (l.length-1)).d)) (vI day))<|c_ (pk0 bF bT bF)<|e_) (k:=fun E2 ac wd h_2=>?_)
 clear h_1
 refine then_n ?_
 refine wp_cond_false (eval_tmp (h_2.g (t:=33) rfl)) ?_
 refine wp_skip (then_n (wp_seq (wp_seq ?_)))
 refine rg_ h_2 [[0],[0,1],[2]] [K_ (.slice A0 l.length c0),K_ (vN l.length),K_ (vI 0)] (fun E3=>[(0,.slice A0 l.length c0),(6,bF),(34,.slice A0 l.length c0),(35,vN l.length),(36,vI 0)]) (hs:=c_ mv_<|c_ (ln_ Tryz.underlying82 fun _ env _ wd hA=>(hl.grown hA.j.st.gr).els)<|c_ mv_<|e_) (k:=fun E3 ac wd h_3=>?_)
 clear h_2
 refine then_n (wp_block ?_)
 refine wp_loop (fun ac wd=>∃ i:Nat,(i≤l.length∧∀ j,j < i→szR l j=true)∧Cur 79 w0 none none (fun _=>True) (fun _=>True) [(0,.slice A0 l.length c0),(34,.slice A0 l.length c0),(35,vN l.length),(36,vN i)] [] ac wd) (fun ac _=>((l.length:Int)-sI ac 36).toNat) ⟨0,⟨by omega,fun j hj=>by omega⟩,(h_3.re rfl).th (fun _ h=>h)⟩ ?_
 rintro ac wd ⟨i,⟨hi1,hi2⟩,h_4⟩
 clear h_3
 have hmu:sI ac 36=((i:Nat):Int):=sI_eq (h_4.g (t:=36) rfl)
 refine wp_seq ?_
 by_cases h1:i < l.length
 refine rg_ h_4 [[0]] [K_ bT] (fun E5=>[(0,.slice A0 l.length c0),(34,.slice A0 l.length c0),(35,vN l.length),(36,vN i),(37,bT)]) (hs:=c_ (bi0 (vN i) (vN l.length))<|e_) (k:=fun E5 ac wd h_5=>?_)
 clear h_4
 refine then_n (wp_seq ?_)
 refine wp_cond_true (eval_tmp (h_5.g (t:=37) rfl)) ?_
 refine wp_skip (then_n (wp_seq (wp_block (wp_seq ?_))))
 refine rg_ h_5 [[0],[1],[1,2],[3],r_ 5,r_ 6] [K_ (vN i),K_ (elt (.slice A0 l.length c0) (i*4)),K_ (vSg (sgi l i)),KE_ fun env=>vP (pb env 3) 0,K_ (vN i),none] (fun E6=>[(0,.slice A0 l.length c0),(7,vN i),(8,vP (pb E6 3) 0),(34,.slice A0 l.length c0),(35,vN l.length),(36,vN i),(37,bT),(38,vN i),(39,elt (.slice A0 l.length c0) (i*4)),(40,vSg (sgi l i))]) (W:=[{ i:=3,T:=128,c0:=[vI 0,vI 0,vI 0,vI 0],s:=some 5,c1:=fun _=>[vI ((sgi l i).d),vI ((sgi l i).b),vI ((sgi l i).f),vI ((sgi l i).r)] }]) (M':=fun E6=>[((pb E6 3),128,[vI ((sgi l i).d),vI ((sgi l i).b),vI ((sgi l i).f),vI ((sgi l i).r)])]) (hs:=c_ mv_<|c_ (ia_ Tryz.underlying82 sz128 i (i*4) ((i:Nat):Int) (fun _ env _ wd hA=>(hl.grown hA.j.st.gr).els) (rfl) (by omega) rfl)<|c_ (le_ (i*4) (fun _ env _ wd hA=>(hl.grown hA.j.st.gr).els) (by omega) (le128 (by exact sgC_0 l i) (by exact sgC_1 l i) (by exact sgC_2 l i) (by exact sgC_3 l i)))<|c_ (al_ 0)<|c_ mv_<|c_ (sw_ 0 3 (hst:=by exact fun _ _ _ hc=>st128 rfl rfl rfl rfl rfl hc))<|e_) (k:=fun E6 ac wd h_6=>?_)
 clear h_5
 refine then_n (wp_seq ?_)
 cases gD:wthn (sgi l i).d (-1048576) 1048576
 refine rg_ h_6 [[0],[0,1],[0,1,2],r_ 4,r_ 5,r_ 6,r_ 7,r_ 8,r_ 9,r_ 10,r_ 11,r_ 12,r_ 13,r_ 14,r_ 15,r_ 16,r_ 17,r_ 18,r_ 19,r_ 20,r_ 21,r_ 22,r_ 23,r_ 24,r_ 25,r_ 26,r_ 27,[0,1,2,3,4,5,6,7,8,9,10,11,12,13,14,15,16,17,18,19,20,21,22,23,24,25,27],[0,1,2,3,4,5,6,7,8,9,10,11,12,13,14,15,16,17,18,19,20,21,22,23,24,25,27,28],r_ 30,r_ 31,r_ 32,[0,1,2,3,4,5,6,7,8,9,10,11,12,13,14,15,16,17,18,19,20,21,22,23,24,25,32],[0,1,2,3,4,5,6,7,8,9,10,11,12,13,14,15,16,17,18,19,20,21,22,23,24,25,32,33],r_ 35,r_ 36,r_ 37] [K_ (vP (pb E6 3) 0),K_ (vI ((sgi l i).d)),K_ bF,K_ bT,K_ bT,K_ undef,K_ undef,K_ undef,K_ undef,K_ bT,K_ bT,K_ undef,K_ undef,K_ undef,K_ undef,K_ bT,K_ bT,K_ undef,K_ undef,K_ undef,K_ undef,K_ bT,K_ bT,K_ undef,K_ undef,K_ undef,K_ undef,K_ undef,K_ undef,K_ undef,K_ undef,K_ undef,K_ undef,K_ undef,K_ undef,K_ undef,K_ bT] (fun E7=>[(0,.slice A0 l.length c0),(7,vN i),(8,vP (pb E6 3) 0),(34,.slice A0 l.length c0),(35,vN l.length),(36,vN i),(37,bT),(38,vN i),(39,elt (.slice A0 l.length c0) (i*4)),(40,vSg (sgi l i)),(41,vP (pb E6 3) 0),(42,vI ((sgi l i).d)),(43,bF),(44,bT),(45,bT),(46,undef),(47,undef),(48,undef),(49,undef),(50,bT),(51,bT),(52,undef),(53,undef),(54,undef),(55,undef),(56,bT),(57,bT),(58,undef),(59,undef),(60,undef),(61,undef),(62,bT),(63,bT),(64,undef),(65,undef),(66,undef),(67,undef),(68,undef),(69,undef),(70,undef),(71,undef),(72,undef),(73,undef),(74,undef),(75,undef),(76,undef),(77,bT)]) (hs:=c_ (fa0 (vP (pb E6 3) 0))<|c_ (ld_ 0 (hrd:=by exact rd3 rfl))<|c_ (cl_ Tryz.func99 (h:=fun env=>⟨_,((rwithin_any (sgi l i).d (-1048576) 1048576).eq (congrArg Value.bool gD)),rfl⟩))<|c_ (un0 bF)<|c_ mv_<|c_ off_<|c_ off_<|c_ off_<|c_ off_<|c_ (pk0 bT bT undef)<|c_ mv_<|c_ off_<|c_ off_<|c_ off_<|c_ off_<|c_ (pk0 bT bT undef)<|c_ mv_<|c_ off_<|c_ off_<|c_ off_<|c_ off_<|c_ (pk0 bT bT undef)<|c_ mv_<|c_ off_<|c_ off_<|c_ off_<|c_ off_<|c_ off_<|c_ off_<|c_ off_<|c_ off_<|c_ off_<|c_ off_<|c_ off_<|c_ off_<|c_ off_<|c_ (pk0 bT bT undef)<|e_) (k:=fun E7 ac wd h_7=>?_)
 clear h_6
 refine then_n ?_
 refine wp_cond_true (eval_tmp (h_7.g (t:=77) rfl)) ?_
 refine wp_seq ?_
 refine rg_ h_7 [[0]] [K_ bF] (fun E8=>[(0,.slice A0 l.length c0),(6,bF),(7,vN i),(8,vP (pb E6 3) 0),(34,.slice A0 l.length c0),(35,vN l.length),(36,vN i),(37,bT),(38,vN i),(39,elt (.slice A0 l.length c0) (i*4)),(40,vSg (sgi l i)),(41,vP (pb E6 3) 0),(42,vI ((sgi l i).d)),(43,bF),(44,bT),(45,bT),(46,undef),(47,undef),(48,undef),(49,undef),(50,bT),(51,bT),(52,undef),(53,undef),(54,undef),(55,undef),(56,bT),(57,bT),(58,undef),(59,undef),(60,undef),(61,undef),(62,bT),(63,bT),(64,undef),(65,undef),(66,undef),(67,undef),(68,undef),(69,undef),(70,undef),(71,undef),(72,undef),(73,undef),(74,undef),(75,undef),(76,undef),(77,bT)]) (hs:=c_ mv_<|e_) (k:=fun E8 ac wd h_8=>?_)
 clear h_7
 refine then_n (wp_ret (blk_ret (then_ret (then_ret (blk_ret (then_ret ?_))))))
 have s6:=h_8.g (t:=6) rfl
 refine leave (v:=.bool false) h_8.df (by simp [results,Tryz.results66,go_sem,Array.getD_eq_getD_getElem?,s6]) ?_
 have hres:szL l day off=false:=by (have hq:szR l i=false:=(by simp [szR,szS,gD]));rw [szL,← szR_szA (day:=day) (by omega),all_no h1 hq];simp
 exact ⟨by rw [hres],h_8.st.below⟩
 cases gB:wthn (sgi l i).b (-1000000000) 1000000000
 refine rg_ h_6 [[0],[0,1],[0,1,2],r_ 4,r_ 5,r_ 6,r_ 7,r_ 8,r_ 9,r_ 10,r_ 11,r_ 12,r_ 13,r_ 14,r_ 15,r_ 16,r_ 17,r_ 18,r_ 19,r_ 20,r_ 21,r_ 22,r_ 23,r_ 24,r_ 25,r_ 26,r_ 27,[0,1,2,3,4,5,6,7,8,9,10,11,12,13,14,15,16,17,18,19,20,21,22,23,24,25,27],[0,1,2,3,4,5,6,7,8,9,10,11,12,13,14,15,16,17,18,19,20,21,22,23,24,25,27,28],r_ 30,r_ 31,r_ 32,[0,1,2,3,4,5,6,7,8,9,10,11,12,13,14,15,16,17,18,19,20,21,22,23,24,25,32],[0,1,2,3,4,5,6,7,8,9,10,11,12,13,14,15,16,17,18,19,20,21,22,23,24,25,32,33],r_ 35,r_ 36,r_ 37] [K_ (vP (pb E6 3) 0),K_ (vI ((sgi l i).d)),K_ bT,K_ bF,K_ bF,K_ (vP (pb E6 3) 1),K_ (vI ((sgi l i).b)),K_ bF,K_ bT,K_ bT,K_ bT,K_ undef,K_ undef,K_ undef,K_ undef,K_ bT,K_ bT,K_ undef,K_ undef,K_ undef,K_ undef,K_ bT,K_ bT,K_ undef,K_ undef,K_ undef,K_ undef,K_ undef,K_ undef,K_ undef,K_ undef,K_ undef,K_ undef,K_ undef,K_ undef,K_ undef,K_ bT] (fun E7=>[(0,.slice A0 l.length c0),(7,vN i),(8,vP (pb E6 3) 0),(34,.slice A0 l.length c0),(35,vN l.length),(36,vN i),(37,bT),(38,vN i),(39,elt (.slice A0 l.length c0) (i*4)),(40,vSg (sgi l i)),(41,vP (pb E6 3) 0),(42,vI ((sgi l i).d)),(43,bT),(44,bF),(45,bF),(46,vP (pb E6 3) 1),(47,vI ((sgi l i).b)),(48,bF),(49,bT),(50,bT),(51,bT),(52,undef),(53,undef),(54,undef),(55,undef),(56,bT),(57,bT),(58,undef),(59,undef),(60,undef),(61,undef),(62,bT),(63,bT),(64,undef),(65,undef),(66,undef),(67,undef),(68,undef),(69,undef),(70,undef),(71,undef),(72,undef),(73,undef),(74,undef),(75,undef),(76,undef),(77,bT)]) (hs:=c_ (fa0 (vP (pb E6 3) 0))<|c_ (ld_ 0 (hrd:=by exact rd3 rfl))<|c_ (cl_ Tryz.func99 (h:=fun env=>⟨_,((rwithin_any (sgi l i).d (-1048576) 1048576).eq (congrArg Value.bool gD)),rfl⟩))<|c_ (un0 bT)<|c_ mv_<|c_ (fa0 (vP (pb E6 3) 0))<|c_ (ld_ 0 (hrd:=by exact rd3 rfl))<|c_ (cl_ Tryz.func99 (h:=fun env=>⟨_,((rwithin_any (sgi l i).b (-1000000000) 1000000000).eq (congrArg Value.bool gB)),rfl⟩))<|c_ (un0 bF)<|c_ (pk0 bF bT bT)<|c_ mv_<|c_ off_<|c_ off_<|c_ off_<|c_ off_<|c_ (pk0 bT bT undef)<|c_ mv_<|c_ off_<|c_ off_<|c_ off_<|c_ off_<|c_ (pk0 bT bT undef)<|c_ mv_<|c_ off_<|c_ off_<|c_ off_<|c_ off_<|c_ off_<|c_ off_<|c_ off_<|c_ off_<|c_ off_<|c_ off_<|c_ off_<|c_ off_<|c_ off_<|c_ (pk0 bT bT undef)<|e_) (k:=fun E7 ac wd h_7=>?_)
 clear h_6
 refine then_n ?_
 refine wp_cond_true (eval_tmp (h_7.g (t:=77) rfl)) ?_
 refine wp_seq ?_
 refine rg_ h_7 [[0]] [K_ bF] (fun E8=>[(0,.slice A0 l.length c0),(6,bF),(7,vN i),(8,vP (pb E6 3) 0),(34,.slice A0 l.length c0),(35,vN l.length),(36,vN i),(37,bT),(38,vN i),(39,elt (.slice A0 l.length c0) (i*4)),(40,vSg (sgi l i)),(41,vP (pb E6 3) 0),(42,vI ((sgi l i).d)),(43,bT),(44,bF),(45,bF),(46,vP (pb E6 3) 1),(47,vI ((sgi l i).b)),(48,bF),(49,bT),(50,bT),(51,bT),(52,undef),(53,undef),(54,undef),(55,undef),(56,bT),(57,bT),(58,undef),(59,undef),(60,undef),(61,undef),(62,bT),(63,bT),(64,undef),(65,undef),(66,undef),(67,undef),(68,undef),(69,undef),(70,undef),(71,undef),(72,undef),(73,undef),(74,undef),(75,undef),(76,undef),(77,bT)]) (hs:=c_ mv_<|e_) (k:=fun E8 ac wd h_8=>?_)
 clear h_7
 refine then_n (wp_ret (blk_ret (then_ret (then_ret (blk_ret (then_ret ?_))))))
 have s6:=h_8.g (t:=6) rfl
 refine leave (v:=.bool false) h_8.df (by simp [results,Tryz.results66,go_sem,Array.getD_eq_getD_getElem?,s6]) ?_
 have hres:szL l day off=false:=by (have hq:szR l i=false:=(by simp [szR,szS,gD,gB]));rw [szL,← szR_szA (day:=day) (by omega),all_no h1 hq];simp
 exact ⟨by rw [hres],h_8.st.below⟩
 cases gF:wthn (sgi l i).f (-1048576) 1048576
 refine rg_ h_6 [[0],[0,1],[0,1,2],r_ 4,r_ 5,r_ 6,r_ 7,r_ 8,r_ 9,r_ 10,r_ 11,r_ 12,r_ 13,r_ 14,r_ 15,r_ 16,r_ 17,r_ 18,r_ 19,r_ 20,r_ 21,r_ 22,r_ 23,r_ 24,r_ 25,r_ 26,r_ 27,[0,1,2,3,4,5,6,7,8,9,10,11,12,13,14,15,16,17,18,19,20,21,22,23,24,25,27],[0,1,2,3,4,5,6,7,8,9,10,11,12,13,14,15,16,17,18,19,20,21,22,23,24,25,27,28],r_ 30,r_ 31,r_ 32,[0,1,2,3,4,5,6,7,8,9,10,11,12,13,14,15,16,17,18,19,20,21,22,23,24,25,32],[0,1,2,3,4,5,6,7,8,9,10,11,12,13,14,15,16,17,18,19,20,21,22,23,24,25,32,33],r_ 35,r_ 36,r_ 37] [K_ (vP (pb E6 3) 0),K_ (vI ((sgi l i).d)),K_ bT,K_ bF,K_ bF,K_ (vP (pb E6 3) 1),K_ (vI ((sgi l i).b)),K_ bT,K_ bF,K_ bF,K_ bF,K_ (vP (pb E6 3) 2),K_ (vI ((sgi l i).f)),K_ bF,K_ bT,K_ bT,K_ bT,K_ undef,K_ undef,K_ undef,K_ undef,K_ bT,K_ bT,K_ undef,K_ undef,K_ undef,K_ undef,K_ undef,K_ undef,K_ undef,K_ undef,K_ undef,K_ undef,K_ undef,K_ undef,K_ undef,K_ bT] (fun E7=>[(0,.slice A0 l.length c0),(7,vN i),(8,vP (pb E6 3) 0),(34,.slice A0 l.length c0),(35,vN l.length),(36,vN i),(37,bT),(38,vN i),(39,elt (.slice A0 l.length c0) (i*4)),(40,vSg (sgi l i)),(41,vP (pb E6 3) 0),(42,vI ((sgi l i).d)),(43,bT),(44,bF),(45,bF),(46,vP (pb E6 3) 1),(47,vI ((sgi l i).b)),(48,bT),(49,bF),(50,bF),(51,bF),(52,vP (pb E6 3) 2),(53,vI ((sgi l i).f)),(54,bF),(55,bT),(56,bT),(57,bT),(58,undef),(59,undef),(60,undef),(61,undef),(62,bT),(63,bT),(64,undef),(65,undef),(66,undef),(67,undef),(68,undef),(69,undef),(70,undef),(71,undef),(72,undef),(73,undef),(74,undef),(75,undef),(76,undef),(77,bT)]) (hs:=c_ (fa0 (vP (pb E6 3) 0))<|c_ (ld_ 0 (hrd:=by exact rd3 rfl))<|c_ (cl_ Tryz.func99 (h:=fun env=>⟨_,((rwithin_any (sgi l i).d (-1048576) 1048576).eq (congrArg Value.bool gD)),rfl⟩))<|c_ (un0 bT)<|c_ mv_<|c_ (fa0 (vP (pb E6 3) 0))<|c_ (ld_ 0 (hrd:=by exact rd3 rfl))<|c_ (cl_ Tryz.func99 (h:=fun env=>⟨_,((rwithin_any (sgi l i).b (-1000000000) 1000000000).eq (congrArg Value.bool gB)),rfl⟩))<|c_ (un0 bT)<|c_ (pk0 bF bT bF)<|c_ mv_<|c_ (fa0 (vP (pb E6 3) 0))<|c_ (ld_ 0 (hrd:=by exact rd3 rfl))<|c_ (cl_ Tryz.func99 (h:=fun env=>⟨_,((rwithin_any (sgi l i).f (-1048576) 1048576).eq (congrArg Value.bool gF)),rfl⟩))<|c_ (un0 bF)<|c_ (pk0 bF bT bT)<|c_ mv_<|c_ off_<|c_ off_<|c_ off_<|c_ off_<|c_ (pk0 bT bT undef)<|c_ mv_<|c_ off_<|c_ off_<|c_ off_<|c_ off_<|c_ off_<|c_ off_<|c_ off_<|c_ off_<|c_ off_<|c_ off_<|c_ off_<|c_ off_<|c_ off_<|c_ (pk0 bT bT undef)<|e_) (k:=fun E7 ac wd h_7=>?_)
 clear h_6
 refine then_n ?_
 refine wp_cond_true (eval_tmp (h_7.g (t:=77) rfl)) ?_
 refine wp_seq ?_
 refine rg_ h_7 [[0]] [K_ bF] (fun E8=>[(0,.slice A0 l.length c0),(6,bF),(7,vN i),(8,vP (pb E6 3) 0),(34,.slice A0 l.length c0),(35,vN l.length),(36,vN i),(37,bT),(38,vN i),(39,elt (.slice A0 l.length c0) (i*4)),(40,vSg (sgi l i)),(41,vP (pb E6 3) 0),(42,vI ((sgi l i).d)),(43,bT),(44,bF),(45,bF),(46,vP (pb E6 3) 1),(47,vI ((sgi l i).b)),(48,bT),(49,bF),(50,bF),(51,bF),(52,vP (pb E6 3) 2),(53,vI ((sgi l i).f)),(54,bF),(55,bT),(56,bT),(57,bT),(58,undef),(59,undef),(60,undef),(61,undef),(62,bT),(63,bT),(64,undef),(65,undef),(66,undef),(67,undef),(68,undef),(69,undef),(70,undef),(71,undef),(72,undef),(73,undef),(74,undef),(75,undef),(76,undef),(77,bT)]) (hs:=c_ mv_<|e_) (k:=fun E8 ac wd h_8=>?_)
 clear h_7
 refine then_n (wp_ret (blk_ret (then_ret (then_ret (blk_ret (then_ret ?_))))))
 have s6:=h_8.g (t:=6) rfl
 refine leave (v:=.bool false) h_8.df (by simp [results,Tryz.results66,go_sem,Array.getD_eq_getD_getElem?,s6]) ?_
 have hres:szL l day off=false:=by (have hq:szR l i=false:=(by simp [szR,szS,gD,gB,gF]));rw [szL,← szR_szA (day:=day) (by omega),all_no h1 hq];simp
 exact ⟨by rw [hres],h_8.st.below⟩
 cases gR:wthn (sgi l i).r 0 1000000
 refine rg_ h_6 [[0],[0,1],[0,1,2],r_ 4,r_ 5,r_ 6,r_ 7,r_ 8,r_ 9,r_ 10,r_ 11,r_ 12,r_ 13,r_ 14,r_ 15,r_ 16,r_ 17,r_ 18,r_ 19,r_ 20,r_ 21,r_ 22,r_ 23,r_ 24,r_ 25,r_ 26,r_ 27,[0,1,2,3,4,5,6,7,8,9,10,11,12,13,14,15,16,17,18,19,20,21,22,23,24,25,27],[0,1,2,3,4,5,6,7,8,9,10,11,12,13,14,15,16,17,18,19,20,21,22,23,24,25,27,28],r_ 30,r_ 31,r_ 32,[0,1,2,3,4,5,6,7,8,9,10,11,12,13,14,15,16,17,18,19,20,21,22,23,24,25,32],[0,1,2,3,4,5,6,7,8,9,10,11,12,13,14,15,16,17,18,19,20,21,22,23,24,25,32,33],r_ 35,r_ 36,r_ 37] [K_ (vP (pb E6 3) 0),K_ (vI ((sgi l i).d)),K_ bT,K_ bF,K_ bF,K_ (vP (pb E6 3) 1),K_ (vI ((sgi l i).b)),K_ bT,K_ bF,K_ bF,K_ bF,K_ (vP (pb E6 3) 2),K_ (vI ((sgi l i).f)),K_ bT,K_ bF,K_ bF,K_ bF,K_ (vP (pb E6 3) 3),K_ (vI ((sgi l i).r)),K_ bF,K_ bT,K_ bT,K_ bT,K_ undef,K_ undef,K_ undef,K_ undef,K_ undef,K_ undef,K_ undef,K_ undef,K_ undef,K_ undef,K_ undef,K_ undef,K_ undef,K_ bT] (fun E7=>[(0,.slice A0 l.length c0),(7,vN i),(8,vP (pb E6 3) 0),(34,.slice A0 l.length c0),(35,vN l.length),(36,vN i),(37,bT),(38,vN i),(39,elt (.slice A0 l.length c0) (i*4)),(40,vSg (sgi l i)),(41,vP (pb E6 3) 0),(42,vI ((sgi l i).d)),(43,bT),(44,bF),(45,bF),(46,vP (pb E6 3) 1),(47,vI ((sgi l i).b)),(48,bT),(49,bF),(50,bF),(51,bF),(52,vP (pb E6 3) 2),(53,vI ((sgi l i).f)),(54,bT),(55,bF),(56,bF),(57,bF),(58,vP (pb E6 3) 3),(59,vI ((sgi l i).r)),(60,bF),(61,bT),(62,bT),(63,bT),(64,undef),(65,undef),(66,undef),(67,undef),(68,undef),(69,undef),(70,undef),(71,undef),(72,undef),(73,undef),(74,undef),(75,undef),(76,undef),(77,bT)]) (hs:=c_ (fa0 (vP (pb E6 3) 0))<|c_ (ld_ 0 (hrd:=by exact rd3 rfl))<|c_ (cl_ Tryz.func99 (h:=fun env=>⟨_,((rwithin_any (sgi l i).d (-1048576) 1048576).eq (congrArg Value.bool gD)),rfl⟩))<|c_ (un0 bT)<|c_ mv_<|c_ (fa0 (vP (pb E6 3) 0))<|c_ (ld_ 0 (hrd:=by exact rd3 rfl))<|c_ (cl_ Tryz.func99 (h:=fun env=>⟨_,((rwithin_any (sgi l i).b (-1000000000) 1000000000).eq (congrArg Value.bool gB)),rfl⟩))<|c_ (un0 bT)<|c_ (pk0 bF bT bF)<|c_ mv_<|c_ (fa0 (vP (pb E6 3) 0))<|c_ (ld_ 0 (hrd:=by exact rd3 rfl))<|c_ (cl_ Tryz.func99 (h:=fun env=>⟨_,((rwithin_any (sgi l i).f (-1048576) 1048576).eq (congrArg Value.bool gF)),rfl⟩))<|c_ (un0 bT)<|c_ (pk0 bF bT bF)<|c_ mv_<|c_ (fa0 (vP (pb E6 3) 0))<|c_ (ld_ 0 (hrd:=by exact rd3 rfl))<|c_ (cl_ Tryz.func99 (h:=fun env=>⟨_,((rwithin_any (sgi l i).r 0 1000000).eq (congrArg Value.bool gR)),rfl⟩))<|c_ (un0 bF)<|c_ (pk0 bF bT bT)<|c_ mv_<|c_ off_<|c_ off_<|c_ off_<|c_ off_<|c_ off_<|c_ off_<|c_ off_<|c_ off_<|c_ off_<|c_ off_<|c_ off_<|c_ off_<|c_ off_<|c_ (pk0 bT bT undef)<|e_) (k:=fun E7 ac wd h_7=>?_)
 clear h_6
 refine then_n ?_
 refine wp_cond_true (eval_tmp (h_7.g (t:=77) rfl)) ?_
 refine wp_seq ?_
 refine rg_ h_7 [[0]] [K_ bF] (fun E8=>[(0,.slice A0 l.length c0),(6,bF),(7,vN i),(8,vP (pb E6 3) 0),(34,.slice A0 l.length c0),(35,vN l.length),(36,vN i),(37,bT),(38,vN i),(39,elt (.slice A0 l.length c0) (i*4)),(40,vSg (sgi l i)),(41,vP (pb E6 3) 0),(42,vI ((sgi l i).d)),(43,bT),(44,bF),(45,bF),(46,vP (pb E6 3) 1),(47,vI ((sgi l i).b)),(48,bT),(49,bF),(50,bF),(51,bF),(52,vP (pb E6 3) 2),(53,vI ((sgi l i).f)),(54,bT),(55,bF),(56,bF),(57,bF),(58,vP (pb E6 3) 3),(59,vI ((sgi l i).r)),(60,bF),(61,bT),(62,bT),(63,bT),(64,undef),(65,undef),(66,undef),(67,undef),(68,undef),(69,undef),(70,undef),(71,undef),(72,undef),(73,undef),(74,undef),(75,undef),(76,undef),(77,bT)]) (hs:=c_ mv_<|e_) (k:=fun E8 ac wd h_8=>?_)
 clear h_7
 refine then_n (wp_ret (blk_ret (then_ret (then_ret (blk_ret (then_ret ?_))))))
 have s6:=h_8.g (t:=6) rfl
 refine leave (v:=.bool false) h_8.df (by simp [results,Tryz.results66,go_sem,Array.getD_eq_getD_getElem?,s6]) ?_
 have hres:szL l day off=false:=by (have hq:szR l i=false:=(by simp [szR,szS,gD,gB,gF,gR]));rw [szL,← szR_szA (day:=day) (by omega),all_no h1 hq];simp
 exact ⟨by rw [hres],h_8.st.below⟩
 by_cases g0:i=0
 refine rg_ h_6 [[0],[0,1],[0,1,2],r_ 4,r_ 5,r_ 6,r_ 7,r_ 8,r_ 9,r_ 10,r_ 11,r_ 12,r_ 13,r_ 14,r_ 15,r_ 16,r_ 17,r_ 18,r_ 19,r_ 20,r_ 21,r_ 22,r_ 23,r_ 24,r_ 25,r_ 26,r_ 27,[0,1,2,3,4,5,6,7,8,9,10,11,12,13,14,15,16,17,18,19,20,21,22,23,24,25,27],[0,1,2,3,4,5,6,7,8,9,10,11,12,13,14,15,16,17,18,19,20,21,22,23,24,25,27,28],r_ 30,r_ 31,r_ 32,[0,1,2,3,4,5,6,7,8,9,10,11,12,13,14,15,16,17,18,19,20,21,22,23,24,25,32],[0,1,2,3,4,5,6,7,8,9,10,11,12,13,14,15,16,17,18,19,20,21,22,23,24,25,32,33],r_ 35,r_ 36,r_ 37] [K_ (vP (pb E6 3) 0),K_ (vI ((sgi l i).d)),K_ bT,K_ bF,K_ bF,K_ (vP (pb E6 3) 1),K_ (vI ((sgi l i).b)),K_ bT,K_ bF,K_ bF,K_ bF,K_ (vP (pb E6 3) 2),K_ (vI ((sgi l i).f)),K_ bT,K_ bF,K_ bF,K_ bF,K_ (vP (pb E6 3) 3),K_ (vI ((sgi l i).r)),K_ bT,K_ bF,K_ bF,K_ bF,K_ (vN i),K_ bF,K_ bF,K_ undef,K_ undef,K_ undef,K_ undef,K_ undef,K_ undef,K_ undef,K_ undef,K_ undef,K_ bF,K_ bF] (fun E7=>[(0,.slice A0 l.length c0),(7,vN i),(8,vP (pb E6 3) 0),(34,.slice A0 l.length c0),(35,vN l.length),(36,vN i),(37,bT),(38,vN i),(39,elt (.slice A0 l.length c0) (i*4)),(40,vSg (sgi l i)),(41,vP (pb E6 3) 0),(42,vI ((sgi l i).d)),(43,bT),(44,bF),(45,bF),(46,vP (pb E6 3) 1),(47,vI ((sgi l i).b)),(48,bT),(49,bF),(50,bF),(51,bF),(52,vP (pb E6 3) 2),(53,vI ((sgi l i).f)),(54,bT),(55,bF),(56,bF),(57,bF),(58,vP (pb E6 3) 3),(59,vI ((sgi l i).r)),(60,bT),(61,bF),(62,bF),(63,bF),(64,vN i),(65,bF),(66,bF),(67,undef),(68,undef),(69,undef),(70,undef),(71,undef),(72,undef),(73,undef),(74,undef),(75,undef),(76,bF),(77,bF)]) (hs:=c_ (fa0 (vP (pb E6 3) 0))<|c_ (ld_ 0 (hrd:=by exact rd3 rfl))<|c_ (cl_ Tryz.func99 (h:=fun env=>⟨_,((rwithin_any (sgi l i).d (-1048576) 1048576).eq (congrArg Value.bool gD)),rfl⟩))<|c_ (un0 bT)<|c_ mv_<|c_ (fa0 (vP (pb E6 3) 0))<|c_ (ld_ 0 (hrd:=by exact rd3 rfl))<|c_ (cl_ Tryz.func99 (h:=fun env=>⟨_,((rwithin_any (sgi l i).b (-1000000000) 1000000000).eq (congrArg Value.bool gB)),rfl⟩))<|c_ (un0 bT)<|c_ (pk0 bF bT bF)<|c_ mv_<|c_ (fa0 (vP (pb E6 3) 0))<|c_ (ld_ 0 (hrd:=by exact rd3 rfl))<|c_ (cl_ Tryz.func99 (h:=fun env=>⟨_,((rwithin_any (sgi l i).f (-1048576) 1048576).eq (congrArg Value.bool gF)),rfl⟩))<|c_ (un0 bT)<|c_ (pk0 bF bT bF)<|c_ mv_<|c_ (fa0 (vP (pb E6 3) 0))<|c_ (ld_ 0 (hrd:=by exact rd3 rfl))<|c_ (cl_ Tryz.func99 (h:=fun env=>⟨_,((rwithin_any (sgi l i).r 0 1000000).eq (congrArg Value.bool gR)),rfl⟩))<|c_ (un0 bT)<|c_ (pk0 bF bT bF)<|c_ mv_<|c_ (gm0 (vN i))<|c_ (bi0 (vN i) (vI 0))<|c_ (gm0 bF)<|c_ off_<|c_ off_<|c_ off_<|c_ off_<|c_ off_<|c_ off_<|c_ off_<|c_ off_<|c_ off_<|c_ (pk0 bF undef bF)<|c_ (pk0 bF bT bF)<|e_) (k:=fun E7 ac wd h_7=>?_)
 clear h_6
 refine then_n ?_
 refine wp_cond_false (eval_tmp (h_7.g (t:=77) rfl)) ?_
 refine wp_skip (blk_n (then_n ?_))
 refine rg_ h_7 [[0],[0,1]] [K_ (vI (((i:Nat):Int)+1)),K_ (vI (((i:Nat):Int)+1))] (fun E8=>[(0,.slice A0 l.length c0),(7,vN i),(8,vP (pb E6 3) 0),(34,.slice A0 l.length c0),(35,vN l.length),(36,vI (((i:Nat):Int)+1)),(37,bT),(38,vN i),(39,elt (.slice A0 l.length c0) (i*4)),(40,vSg (sgi l i)),(41,vP (pb E6 3) 0),(42,vI ((sgi l i).d)),(43,bT),(44,bF),(45,bF),(46,vP (pb E6 3) 1),(47,vI ((sgi l i).b)),(48,bT),(49,bF),(50,bF),(51,bF),(52,vP (pb E6 3) 2),(53,vI ((sgi l i).f)),(54,bT),(55,bF),(56,bF),(57,bF),(58,vP (pb E6 3) 3),(59,vI ((sgi l i).r)),(60,bT),(61,bF),(62,bF),(63,bF),(64,vN i),(65,bF),(66,bF),(67,undef),(68,undef),(69,undef),(70,undef),(71,undef),(72,undef),(73,undef),(74,undef),(75,undef),(76,bF),(77,bF),(78,vI (((i:Nat):Int)+1))]) (hs:=c_ (bi0 (vN i) (vI 1))<|c_ mv_<|e_) (k:=fun E8 ac wd h_8=>?_)
 clear h_7
 refine then_n ?_
 have hS:szS (sgi l i)=true:=by simp [szS,gD,gB,gF,gR]
 have hb:(Nat.beq i 0 || decide ((sgi l (i-1)).d < (sgi l i).d))=true:=by rw [g0];rfl
 have hq:szR l i=true:=by unfold szR;rw [hS,hb];rfl
 exact ⟨⟨i+1,⟨by omega,steps_snoc (p:=fun j=>szR l j=true) hi2 hq⟩,(h_8.take (M1:=[]) rfl).re rfl⟩,by rw [sI_eq (h_8.g (t:=36) rfl),hmu];omega⟩
 by_cases gP:(sgi l i).d≤(sgi l (i-1)).d
 refine rg_ h_6 [[0],[0,1],[0,1,2],r_ 4,r_ 5,r_ 6,r_ 7,r_ 8,r_ 9,r_ 10,r_ 11,r_ 12,r_ 13,r_ 14,r_ 15,r_ 16,r_ 17,r_ 18,r_ 19,r_ 20,r_ 21,r_ 22,r_ 23,r_ 24,r_ 25,r_ 26,r_ 27,[0,1,2,3,4,5,6,7,8,9,10,11,12,13,14,15,16,17,18,19,20,21,22,23,24,25,27],[0,1,2,3,4,5,6,7,8,9,10,11,12,13,14,15,16,17,18,19,20,21,22,23,24,25,27,28],r_ 30,r_ 31,r_ 32,[0,1,2,3,4,5,6,7,8,9,10,11,12,13,14,15,16,17,18,19,20,21,22,23,24,25,32],[0,1,2,3,4,5,6,7,8,9,10,11,12,13,14,15,16,17,18,19,20,21,22,23,24,25,32,33],r_ 35,r_ 36,r_ 37] [K_ (vP (pb E6 3) 0),K_ (vI ((sgi l i).d)),K_ bT,K_ bF,K_ bF,K_ (vP (pb E6 3) 1),K_ (vI ((sgi l i).b)),K_ bT,K_ bF,K_ bF,K_ bF,K_ (vP (pb E6 3) 2),K_ (vI ((sgi l i).f)),K_ bT,K_ bF,K_ bF,K_ bF,K_ (vP (pb E6 3) 3),K_ (vI ((sgi l i).r)),K_ bT,K_ bF,K_ bF,K_ bF,K_ (vN i),K_ bT,K_ bT,K_ (.slice A0 l.length c0),K_ (vN i),K_ (vI (((i:Nat):Int)-1)),K_ (elt (.slice A0 l.length c0) ((i-1)*4)),K_ (elt (.slice A0 l.length c0) ((i-1)*4)),K_ (vI ((sgi l (i-1)).d)),K_ (vP (pb E6 3) 0),K_ (vI ((sgi l i).d)),K_ bT,K_ bT,K_ bT] (fun E7=>[(0,.slice A0 l.length c0),(7,vN i),(8,vP (pb E6 3) 0),(34,.slice A0 l.length c0),(35,vN l.length),(36,vN i),(37,bT),(38,vN i),(39,elt (.slice A0 l.length c0) (i*4)),(40,vSg (sgi l i)),(41,vP (pb E6 3) 0),(42,vI ((sgi l i).d)),(43,bT),(44,bF),(45,bF),(46,vP (pb E6 3) 1),(47,vI ((sgi l i).b)),(48,bT),(49,bF),(50,bF),(51,bF),(52,vP (pb E6 3) 2),(53,vI ((sgi l i).f)),(54,bT),(55,bF),(56,bF),(57,bF),(58,vP (pb E6 3) 3),(59,vI ((sgi l i).r)),(60,bT),(61,bF),(62,bF),(63,bF),(64,vN i),(65,bT),(66,bT),(67,.slice A0 l.length c0),(68,vN i),(69,vI (((i:Nat):Int)-1)),(70,elt (.slice A0 l.length c0) ((i-1)*4)),(71,elt (.slice A0 l.length c0) ((i-1)*4)),(72,vI ((sgi l (i-1)).d)),(73,vP (pb E6 3) 0),(74,vI ((sgi l i).d)),(75,bT),(76,bT),(77,bT)]) (hs:=c_ (fa0 (vP (pb E6 3) 0))<|c_ (ld_ 0 (hrd:=by exact rd3 rfl))<|c_ (cl_ Tryz.func99 (h:=fun env=>⟨_,((rwithin_any (sgi l i).d (-1048576) 1048576).eq (congrArg Value.bool gD)),rfl⟩))<|c_ (un0 bT)<|c_ mv_<|c_ (fa0 (vP (pb E6 3) 0))<|c_ (ld_ 0 (hrd:=by exact rd3 rfl))<|c_ (cl_ Tryz.func99 (h:=fun env=>⟨_,((rwithin_any (sgi l i).b (-1000000000) 1000000000).eq (congrArg Value.bool gB)),rfl⟩))<|c_ (un0 bT)<|c_ (pk0 bF bT bF)<|c_ mv_<|c_ (fa0 (vP (pb E6 3) 0))<|c_ (ld_ 0 (hrd:=by exact rd3 rfl))<|c_ (cl_ Tryz.func99 (h:=fun env=>⟨_,((rwithin_any (sgi l i).f (-1048576) 1048576).eq (congrArg Value.bool gF)),rfl⟩))<|c_ (un0 bT)<|c_ (pk0 bF bT bF)<|c_ mv_<|c_ (fa0 (vP (pb E6 3) 0))<|c_ (ld_ 0 (hrd:=by exact rd3 rfl))<|c_ (cl_ Tryz.func99 (h:=fun env=>⟨_,((rwithin_any (sgi l i).r 0 1000000).eq (congrArg Value.bool gR)),rfl⟩))<|c_ (un0 bT)<|c_ (pk0 bF bT bF)<|c_ mv_<|c_ (gm0 (vN i))<|c_ (bi0 (vN i) (vI 0))<|c_ (gm0 bT)<|c_ (gm0 (.slice A0 l.length c0))<|c_ (gm0 (vN i))<|c_ (bi0 (vN i) (vI 1))<|c_ (ia_ Tryz.underlying82 sz128 (i-1) ((i-1)*4) (((i:Nat):Int)-1) (fun _ env _ wd hA=>(hl.grown hA.j.st.gr).els) (by omega) (by omega) rfl)<|c_ (s_fa rfl rfl rfl (fun hA=>hA.gy rfl rfl rfl) ((i-1)*4) 0 ((i-1)*4) rfl (s:=fun _=>.slice A0 l.length c0) rfl (fun _=>rfl) (fun {D env ac wd} hA=>(hl.grown hA.j.st.gr).els) (by omega) (fun b q w=>by simp [go_sem,Tryz.underlying128]))<|c_ (le_ ((i-1)*4) (fun _ env _ wd hA=>(hl.grown hA.j.st.gr).els) (by omega) (le3 (by exact sgC_0 l (i-1))))<|c_ (fa0 (vP (pb E6 3) 0))<|c_ (ld_ 0 (hrd:=by exact rd3 rfl))<|c_ (bi0 (vI ((sgi l (i-1)).d)) (vI ((sgi l i).d)) (h:=by intro env w;simp [go_sem,gP]))<|c_ (pk0 bT bT bF (h:=by intro env w;simp [go_sem,gP]))<|c_ (pk0 bF bT bT (h:=by intro env w;simp [go_sem,gP]))<|e_) (k:=fun E7 ac wd h_7=>?_)
 clear h_6
 refine then_n ?_
 refine wp_cond_true (eval_tmp (h_7.g (t:=77) rfl)) ?_
 refine wp_seq ?_
 refine rg_ h_7 [[0]] [K_ bF] (fun E8=>[(0,.slice A0 l.length c0),(6,bF),(7,vN i),(8,vP (pb E6 3) 0),(34,.slice A0 l.length c0),(35,vN l.length),(36,vN i),(37,bT),(38,vN i),(39,elt (.slice A0 l.length c0) (i*4)),(40,vSg (sgi l i)),(41,vP (pb E6 3) 0),(42,vI ((sgi l i).d)),(43,bT),(44,bF),(45,bF),(46,vP (pb E6 3) 1),(47,vI ((sgi l i).b)),(48,bT),(49,bF),(50,bF),(51,bF),(52,vP (pb E6 3) 2),(53,vI ((sgi l i).f)),(54,bT),(55,bF),(56,bF),(57,bF),(58,vP (pb E6 3) 3),(59,vI ((sgi l i).r)),(60,bT),(61,bF),(62,bF),(63,bF),(64,vN i),(65,bT),(66,bT),(67,.slice A0 l.length c0),(68,vN i),(69,vI (((i:Nat):Int)-1)),(70,elt (.slice A0 l.length c0) ((i-1)*4)),(71,elt (.slice A0 l.length c0) ((i-1)*4)),(72,vI ((sgi l (i-1)).d)),(73,vP (pb E6 3) 0),(74,vI ((sgi l i).d)),(75,bT),(76,bT),(77,bT)]) (hs:=c_ mv_<|e_) (k:=fun E8 ac wd h_8=>?_)
 clear h_7
 refine then_n (wp_ret (blk_ret (then_ret (then_ret (blk_ret (then_ret ?_))))))
 have s6:=h_8.g (t:=6) rfl
 refine leave (v:=.bool false) h_8.df (by simp [results,Tryz.results66,go_sem,Array.getD_eq_getD_getElem?,s6]) ?_
 have hres:szL l day off=false:=by (have hS:szS (sgi l i)=true:=(by simp [szS,gD,gB,gF,gR]));(have hb:Nat.beq i 0=false:=(by cases h:Nat.beq i 0 with | false=>rfl | true=>exact absurd (Nat.eq_of_beq_eq_true h) g0));(have hq:szR l i=false:=(by unfold szR;rw [hS,hb,decide_eq_false (by omega)];rfl));rw [szL,← szR_szA (day:=day) (by omega),all_no h1 hq];simp
 exact ⟨by rw [hres],h_8.st.below⟩
 refine rg_ h_6 [[0],[0,1],[0,1,2],r_ 4,r_ 5,r_ 6,r_ 7,r_ 8,r_ 9,r_ 10,r_ 11,r_ 12,r_ 13,r_ 14,r_ 15,r_ 16,r_ 17,r_ 18,r_ 19,r_ 20,r_ 21,r_ 22,r_ 23,r_ 24,r_ 25,r_ 26,r_ 27,[0,1,2,3,4,5,6,7,8,9,10,11,12,13,14,15,16,17,18,19,20,21,22,23,24,25,27],[0,1,2,3,4,5,6,7,8,9,10,11,12,13,14,15,16,17,18,19,20,21,22,23,24,25,27,28],r_ 30,r_ 31,r_ 32,[0,1,2,3,4,5,6,7,8,9,10,11,12,13,14,15,16,17,18,19,20,21,22,23,24,25,32],[0,1,2,3,4,5,6,7,8,9,10,11,12,13,14,15,16,17,18,19,20,21,22,23,24,25,32,33],r_ 35,r_ 36,r_ 37] [K_ (vP (pb E6 3) 0),K_ (vI ((sgi l i).d)),K_ bT,K_ bF,K_ bF,K_ (vP (pb E6 3) 1),K_ (vI ((sgi l i).b)),K_ bT,K_ bF,K_ bF,K_ bF,K_ (vP (pb E6 3) 2),K_ (vI ((sgi l i).f)),K_ bT,K_ bF,K_ bF,K_ bF,K_ (vP (pb E6 3) 3),K_ (vI ((sgi l i).r)),K_ bT,K_ bF,K_ bF,K_ bF,K_ (vN i),K_ bT,K_ bT,K_ (.slice A0 l.length c0),K_ (vN i),K_ (vI (((i:Nat):Int)-1)),K_ (elt (.slice A0 l.length c0) ((i-1)*4)),K_ (elt (.slice A0 l.length c0) ((i-1)*4)),K_ (vI ((sgi l (i-1)).d)),K_ (vP (pb E6 3) 0),K_ (vI ((sgi l i).d)),K_ bF,K_ bF,K_ bF] (fun E7=>[(0,.slice A0 l.length c0),(7,vN i),(8,vP (pb E6 3) 0),(34,.slice A0 l.length c0),(35,vN l.length),(36,vN i),(37,bT),(38,vN i),(39,elt (.slice A0 l.length c0) (i*4)),(40,vSg (sgi l i)),(41,vP (pb E6 3) 0),(42,vI ((sgi l i).d)),(43,bT),(44,bF),(45,bF),(46,vP (pb E6 3) 1),(47,vI ((sgi l i).b)),(48,bT),(49,bF),(50,bF),(51,bF),(52,vP (pb E6 3) 2),(53,vI ((sgi l i).f)),(54,bT),(55,bF),(56,bF),(57,bF),(58,vP (pb E6 3) 3),(59,vI ((sgi l i).r)),(60,bT),(61,bF),(62,bF),(63,bF),(64,vN i),(65,bT),(66,bT),(67,.slice A0 l.length c0),(68,vN i),(69,vI (((i:Nat):Int)-1)),(70,elt (.slice A0 l.length c0) ((i-1)*4)),(71,elt (.slice A0 l.length c0) ((i-1)*4)),(72,vI ((sgi l (i-1)).d)),(73,vP (pb E6 3) 0),(74,vI ((sgi l i).d)),(75,bF),(76,bF),(77,bF)]) (hs:=c_ (fa0 (vP (pb E6 3) 0))<|c_ (ld_ 0 (hrd:=by exact rd3 rfl))<|c_ (cl_ Tryz.func99 (h:=fun env=>⟨_,((rwithin_any (sgi l i).d (-1048576) 1048576).eq (congrArg Value.bool gD)),rfl⟩))<|c_ (un0 bT)<|c_ mv_<|c_ (fa0 (vP (pb E6 3) 0))<|c_ (ld_ 0 (hrd:=by exact rd3 rfl))<|c_ (cl_ Tryz.func99 (h:=fun env=>⟨_,((rwithin_any (sgi l i).b (-1000000000) 1000000000).eq (congrArg Value.bool gB)),rfl⟩))<|c_ (un0 bT)<|c_ (pk0 bF bT bF)<|c_ mv_<|c_ (fa0 (vP (pb E6 3) 0))<|c_ (ld_ 0 (hrd:=by exact rd3 rfl))<|c_ (cl_ Tryz.func99 (h:=fun env=>⟨_,((rwithin_any (sgi l i).f (-1048576) 1048576).eq (congrArg Value.bool gF)),rfl⟩))<|c_ (un0 bT)<|c_ (pk0 bF bT bF)<|c_ mv_<|c_ (fa0 (vP (pb E6 3) 0))<|c_ (ld_ 0 (hrd:=by exact rd3 rfl))<|c_ (cl_ Tryz.func99 (h:=fun env=>⟨_,((rwithin_any (sgi l i).r 0 1000000).eq (congrArg Value.bool gR)),rfl⟩))<|c_ (un0 bT)<|c_ (pk0 bF bT bF)<|c_ mv_<|c_ (gm0 (vN i))<|c_ (bi0 (vN i) (vI 0))<|c_ (gm0 bT)<|c_ (gm0 (.slice A0 l.length c0))<|c_ (gm0 (vN i))<|c_ (bi0 (vN i) (vI 1))<|c_ (ia_ Tryz.underlying82 sz128 (i-1) ((i-1)*4) (((i:Nat):Int)-1) (fun _ env _ wd hA=>(hl.grown hA.j.st.gr).els) (by omega) (by omega) rfl)<|c_ (s_fa rfl rfl rfl (fun hA=>hA.gy rfl rfl rfl) ((i-1)*4) 0 ((i-1)*4) rfl (s:=fun _=>.slice A0 l.length c0) rfl (fun _=>rfl) (fun {D env ac wd} hA=>(hl.grown hA.j.st.gr).els) (by omega) (fun b q w=>by simp [go_sem,Tryz.underlying128]))<|c_ (le_ ((i-1)*4) (fun _ env _ wd hA=>(hl.grown hA.j.st.gr).els) (by omega) (le3 (by exact sgC_0 l (i-1))))<|c_ (fa0 (vP (pb E6 3) 0))<|c_ (ld_ 0 (hrd:=by exact rd3 rfl))<|c_ (bi0 (vI ((sgi l (i-1)).d)) (vI ((sgi l i).d)) (h:=by intro env w;simp [go_sem,gP]))<|c_ (pk0 bT bF bF (h:=by intro env w;simp [go_sem,gP]))<|c_ (pk0 bF bT bF (h:=by intro env w;simp [go_sem,gP]))<|e_) (k:=fun E7 ac wd h_7=>?_)
 clear h_6
 refine then_n ?_
 refine wp_cond_false (eval_tmp (h_7.g (t:=77) rfl)) ?_
 refine wp_skip (blk_n (then_n ?_))
 refine rg_ h_7 [[0],[0,1]] [K_ (vI (((i:Nat):Int)+1)),K_ (vI (((i:Nat):Int)+1))] (fun E8=>[(0,.slice A0 l.length c0),(7,vN i),(8,vP (pb E6 3) 0),(34,.slice A0 l.length c0),(35,vN l.length),(36,vI (((i:Nat):Int)+1)),(37,bT),(38,vN i),(39,elt (.slice A0 l.length c0) (i*4)),(40,vSg (sgi l i)),(41,vP (pb E6 3) 0),(42,vI ((sgi l i).d)),(43,bT),(44,bF),(45,bF),(46,vP (pb E6 3) 1),(47,vI ((sgi l i).b)),(48,bT),(49,bF),(50,bF),(51,bF),(52,vP (pb E6 3) 2),(53,vI ((sgi l i).f)),(54,bT),(55,bF),(56,bF),(57,bF),(58,vP (pb E6 3) 3),(59,vI ((sgi l i).r)),(60,bT),(61,bF),(62,bF),(63,bF),(64,vN i),(65,bT),(66,bT),(67,.slice A0 l.length c0),(68,vN i),(69,vI (((i:Nat):Int)-1)),(70,elt (.slice A0 l.length c0) ((i-1)*4)),(71,elt (.slice A0 l.length c0) ((i-1)*4)),(72,vI ((sgi l (i-1)).d)),(73,vP (pb E6 3) 0),(74,vI ((sgi l i).d)),(75,bF),(76,bF),(77,bF),(78,vI (((i:Nat):Int)+1))]) (hs:=c_ (bi0 (vN i) (vI 1))<|c_ mv_<|e_) (k:=fun E8 ac wd h_8=>?_)
 clear h_7
 refine then_n ?_
 have hS:szS (sgi l i)=true:=by simp [szS,gD,gB,gF,gR]
 have hb:(Nat.beq i 0 || decide ((sgi l (i-1)).d < (sgi l i).d))=true:=by rw [decide_eq_true (by omega)];simp
 have hq:szR l i=true:=by unfold szR;rw [hS,hb];rfl
 exact ⟨⟨i+1,⟨by omega,steps_snoc (p:=fun j=>szR l j=true) hi2 hq⟩,(h_8.take (M1:=[]) rfl).re rfl⟩,by rw [sI_eq (h_8.g (t:=36) rfl),hmu];omega⟩
 obtain rfl:i=l.length:=by omega
 refine rg_ h_4 [[0]] [K_ bF] (fun E5=>[(0,.slice A0 l.length c0),(34,.slice A0 l.length c0),(35,vN l.length),(36,vN l.length),(37,bF)]) (hs:=c_ (bi0 (vN l.length) (vN l.length))<|e_) (k:=fun E5 ac wd h_5=>?_)
 clear h_4
 refine then_n (wp_seq ?_)
 refine wp_cond_false (eval_tmp (h_5.g (t:=37) rfl)) ?_
 refine wp_exit (then_e (then_e (blk_x (then_n (wp_seq ?_)))))
 refine rg_ h_5 [[0]] [K_ bT] (fun E6=>[(6,bT)]) (hs:=c_ mv_<|e_) (k:=fun E6 ac wd h_6=>?_)
 clear h_5
 refine then_n (wp_ret ?_)
 have s6:=h_6.g (t:=6) rfl
 refine leave (v:=.bool true) h_6.df (by simp [results,Tryz.results66,go_sem,Array.getD_eq_getD_getElem?,s6]) ?_
 have hres:szL l day off=true:=by rw [szL,← szR_szA (day:=day) (by omega),all_yes hi2,decide_eq_true (by omega)];simp [szH,hA,hB,hC]
 exact ⟨by rw [hres],h_6.st.below⟩
theorem rFirst_any (w0:World) (b g c:Nat) (l:List Sg) (day off:Int) (hR:RubA w0 b g c l day off) (n0:0 < l.length):Calls Tryz.prog 108 #[vP b 0] w0 fun e w'=>e = .returned (vI ((sgi l 0).d))∧Below w0.heap.size w0 w':=by
 have hst:=St.start w0 (Θ:=fun _=>True) (fun _ _=>trivial)
 refine enter Tryz.func108 rfl (n:=12) rfl (Nat.le_of_ble_eq_true rfl) hst (L:=[(0,vP b 0)]) (lk_args rfl) (fun ac h=>?_)
 refine wp_seq ?_
 refine rg_ h [[0]] [K_ (vI 0)] (fun E1=>[(0,vP b 0),(2,vI 0)]) (hs:=c_ mv_<|e_) (k:=fun E1 ac wd h_1=>?_)
 clear h
 refine then_n (wp_seq (wp_seq ?_))
 refine rg_ h_1 [[0],[0,1]] [K_ (vP b 0),K_ bF] (fun E2=>[(0,vP b 0),(2,vI 0),(4,bF)]) (hs:=c_ mv_<|c_ (bi0 (vP b 0) (.pointer none))<|e_) (k:=fun E2 ac wd h_2=>?_)
 clear h_1
 refine then_n ?_
 refine wp_cond_false (eval_tmp (h_2.g (t:=4) rfl)) ?_
 refine wp_skip (then_n (wp_seq ?_))
 refine rg_ h_2 (tri 8) [K_ (vP b 0),K_ (vP b 0),K_ (vP b 0),K_ (.slice ((some ⟨g,0,none⟩)) l.length c),K_ (elt (.slice ((some ⟨g,0,none⟩)) l.length c) (0*14)),K_ (elt (.slice ((some ⟨g,0,none⟩)) l.length c) (0*14)),K_ (vI ((sgi l 0).d)),K_ (vI ((sgi l 0).d))] (fun E3=>[(2,vI ((sgi l 0).d))]) (hs:=c_ mv_<|c_ (nc0 (vP b 0))<|c_ (fa0 (vP b 0))<|c_ (by refine s_v rfl rfl rfl rfl (fun {D env ac wd} hA=>?_);have e7:ac.tmps[7]? = some (vP b 0):=hA.g rfl;have hc:=(hR.grown hA.j.st.gr).cell;simp [go_sem,e7,hc])<|c_ (ia_ Tryz.underlying124 sz130 0 (0*14) 0 (fun _ env _ wd hA=>(hR.grown hA.j.st.gr).els) (rfl) (by omega) rfl)<|c_ (s_fa rfl rfl rfl (fun _=>wanted_none rfl _) (0*14) 0 (0*14) rfl (s:=fun _=>.slice ((some ⟨g,0,none⟩)) l.length c) rfl (fun _=>rfl) (fun {D env ac wd} hA=>(hR.grown hA.j.st.gr).els) (by omega) (fun b q w=>by simp [go_sem,Tryz.underlying130]))<|c_ (le_ (0*14) (fun _ env _ wd hA=>(hR.grown hA.j.st.gr).els) (by omega) (le3 (by exact pcC_at l day off 0 0 (by omega))))<|c_ mv_<|e_) (k:=fun E3 ac wd h_3=>?_)
 clear h_2
 refine then_n (wp_ret ?_)
 have s2:=h_3.g (t:=2) rfl
 refine leave (v:=vI ((sgi l 0).d)) h_3.df (by simp [results,Tryz.results108,go_sem,Array.getD_eq_getD_getElem?,s2]) ?_
 exact ⟨rfl,h_3.st.below⟩
theorem tai_any (w0:World) (b g c:Nat) (l:List Sg) (day off:Int) (hR:RubA w0 b g c l day off) (hL:LOk l day off) (d s a:Int) (hd0:-9223372036854775808≤d) (hd1:d < 9223372036854775808):Calls Tryz.prog 72 #[vP b 0,vL d s a] w0 fun e w'=>e = .returned (vT2 (vW (taiV l day off d s a)) (vI (taiE l day off d s a)))∧Below w0.heap.size w0 w':=by
 have n0:=hL.n0;have n1:=hL.n1;have y0:=hL.y0;have y1:=hL.y1;have o0:=hL.o0;have o1:=hL.o1
 have hst:=St.start w0 (Θ:=fun _=>True) (fun _ _=>trivial)
 refine enter Tryz.func72 rfl (n:=65) rfl (Nat.le_of_ble_eq_true rfl) hst (L:=[(0,vP b 0),(1,vL d s a)]) (lk_args rfl) (fun ac h=>?_)
 refine wp_seq ?_
 refine rg_ h [[0],[1],[2]] [KE_ fun env=>vP (pb env 0) 0,KE_ fun env=>vP (pb env 1) 0,K_ (vI 0)] (fun E1=>[(0,vP b 0),(3,vP (pb E1 0) 0),(4,vP (pb E1 1) 0),(5,vI 0)]) (W:=[{ i:=0,T:=26,c0:=[vI d,vI s,vI a] },{ i:=1,T:=34,c0:=[vI 0,.int .u64 0] }]) (M':=fun E1=>[((pb E1 0),26,[vI d,vI s,vI a]),((pb E1 1),34,[vI 0,.int .u64 0])]) (hs:=c_ (bx0 0 (vL d s a))<|c_ (al_ 1)<|c_ mv_<|e_) (k:=fun E1 ac wd h_1=>?_)
 clear h
 refine then_n (wp_scope_straight (wp_seq (wp_block (wp_seq ?_))))
 refine rg_ h_1 (tri 3) [K_ (vP b 0),K_ bF,K_ bF] (fun E2=>[(0,vP b 0),(3,vP (pb E1 0) 0),(4,vP (pb E1 1) 0),(5,vI 0),(9,bF)]) (hs:=c_ mv_<|c_ (bi0 (vP b 0) (.pointer none))<|c_ mv_<|e_) (k:=fun E2 ac wd h_2=>?_)
 clear h_1
 refine then_n ?_
 refine wp_cond_false (eval_tmp (h_2.g (t:=9) rfl)) ?_
 refine wp_seq ?_
 cases hfb:formB s a
 refine rg_ h_2 (tri 4) [K_ (vL d s a),K_ bF,K_ bT,K_ bT] (fun E3=>[(0,vP b 0),(3,vP (pb E1 0) 0),(4,vP (pb E1 1) 0),(5,vI 0),(13,bT)]) (hs:=c_ (ld_ 0 (hrd:=by exact rd26 rfl rfl rfl))<|c_ (cl_ Tryz.func107 (h:=fun env=>⟨_,((rform_any d s a).eq (congrArg Value.bool hfb)),rfl⟩))<|c_ (un0 bF)<|c_ mv_<|e_) (k:=fun E3 ac wd h_3=>?_)
 clear h_2
 refine then_n ?_
 refine wp_cond_true (eval_tmp (h_3.g (t:=13) rfl)) ?_
 refine wp_seq ?_
 refine rg_ h_3 (tri 3) [K_ (.agg #[vI 0,.int .u64 0]),none,K_ (vI 1)] (fun E4=>[(0,vP b 0),(3,vP (pb E1 0) 0),(4,vP (pb E1 1) 0),(5,vI 1)]) (S:=[⟨1,1,fun _=>[vI 0,.int .u64 0]⟩]) (M':=fun E4=>[((pb E1 0),26,[vI d,vI s,vI a]),((pb E1 1),34,[vI 0,.int .u64 0])]) (hs:=c_ (bd0 ([]))<|c_ (se_ 1 (hst:=by exact fun _ _ _ hc=>st34 rfl rfl rfl hc))<|c_ mv_<|e_) (k:=fun E4 ac wd h_4=>?_)
 clear h_3
 refine then_n (wp_ret (blk_ret (then_ret (sc_r ?_))))
 have s4:=h_4.g (t:=4) rfl
 have hc4:=(h_4.st.own 1 _ rfl).2
 have c4_0:=own_cell (o:=0) hc4 rfl
 have c4_1:=own_cell (o:=1) hc4 rfl
 have s5:=h_4.g (t:=5) rfl
 refine leave (v:=vT2 (.agg #[vI 0,.int .u64 0]) (vI 1)) h_4.df (by simp [results,Tryz.results72,go_sem,Array.getD_eq_getD_getElem?,s4,c4_0,c4_1,Tryz.underlying34,s5]) ?_
 have hE2:taiE l day off d s a=1:=by unfold taiE;rw [if_pos hfb]
 have hV2:taiV l day off d s a=0:=by unfold taiV;rw [if_neg (by rw [hE2];omega)]
 exact ⟨by first | (rw [hE2,hV2];done) | (rw [hE2,hV2];rfl),h_4.st.below⟩
 have hfb2:=hfb;simp only [formB,Bool.and_eq_true,wthn_iff] at hfb2;obtain ⟨⟨b0,b1⟩,b2,b3⟩:=hfb2
 refine rg_ h_2 (tri 4) [K_ (vL d s a),K_ bT,K_ bF,K_ bF] (fun E3=>[(0,vP b 0),(3,vP (pb E1 0) 0),(4,vP (pb E1 1) 0),(5,vI 0),(13,bF)]) (hs:=c_ (ld_ 0 (hrd:=by exact rd26 rfl rfl rfl))<|c_ (cl_ Tryz.func107 (h:=fun env=>⟨_,((rform_any d s a).eq (congrArg Value.bool hfb)),rfl⟩))<|c_ (un0 bT)<|c_ mv_<|e_) (k:=fun E3 ac wd h_3=>?_)
 clear h_2
 refine then_n ?_
 refine wp_cond_false (eval_tmp (h_3.g (t:=13) rfl)) ?_
 refine wp_seq ?_
 by_cases g1:d < (sgi l 0).d
 refine rg_ h_3 [[0],[0,1],[2],[2,3],r_ 5,r_ 6] [K_ (vP (pb E1 0) 0),K_ (vI d),K_ (vP b 0),K_ (vI ((sgi l 0).d)),K_ bT,K_ bT] (fun E4=>[(0,vP b 0),(3,vP (pb E1 0) 0),(4,vP (pb E1 1) 0),(5,vI 0),(18,bT)]) (hs:=c_ (fa0 (vP (pb E1 0) 0))<|c_ (ld_ 0 (hrd:=by exact rd3 rfl))<|c_ mv_<|c_ (cw_ Tryz.func108 (h:=fun _ env _ wd hA=>⟨_,rFirst_any wd b g c l day off (hR.grown hA.j.st.gr) n0,rfl⟩))<|c_ (bi0 (vI d) (vI ((sgi l 0).d)) (h:=by intro env w;simp [go_sem,g1]))<|c_ mv_<|e_) (k:=fun E4 ac wd h_4=>?_)
 clear h_3
 refine then_n ?_
 refine wp_cond_true (eval_tmp (h_4.g (t:=18) rfl)) ?_
 refine wp_seq ?_
 refine rg_ h_4 (tri 3) [K_ (.agg #[vI 0,.int .u64 0]),none,K_ (vI 8)] (fun E5=>[(0,vP b 0),(3,vP (pb E1 0) 0),(4,vP (pb E1 1) 0),(5,vI 8)]) (S:=[⟨1,1,fun _=>[vI 0,.int .u64 0]⟩]) (M':=fun E5=>[((pb E1 0),26,[vI d,vI s,vI a]),((pb E1 1),34,[vI 0,.int .u64 0])]) (hs:=c_ (bd0 ([]))<|c_ (se_ 1 (hst:=by exact fun _ _ _ hc=>st34 rfl rfl rfl hc))<|c_ mv_<|e_) (k:=fun E5 ac wd h_5=>?_)
 clear h_4
 refine then_n (wp_ret (blk_ret (then_ret (sc_r ?_))))
 have s4:=h_5.g (t:=4) rfl
 have hc4:=(h_5.st.own 1 _ rfl).2
 have c4_0:=own_cell (o:=0) hc4 rfl
 have c4_1:=own_cell (o:=1) hc4 rfl
 have s5:=h_5.g (t:=5) rfl
 refine leave (v:=vT2 (.agg #[vI 0,.int .u64 0]) (vI 8)) h_5.df (by simp [results,Tryz.results72,go_sem,Array.getD_eq_getD_getElem?,s4,c4_0,c4_1,Tryz.underlying34,s5]) ?_
 have hE2:taiE l day off d s a=8:=by unfold taiE;rw [if_neg (by rw [hfb];simp),if_pos g1]
 have hV2:taiV l day off d s a=0:=by unfold taiV;rw [if_neg (by rw [hE2];omega)]
 exact ⟨by first | (rw [hE2,hV2];done) | (rw [hE2,hV2];rfl),h_5.st.below⟩
 refine rg_ h_3 [[0],[0,1],[2],[2,3],r_ 5,r_ 6] [K_ (vP (pb E1 0) 0),K_ (vI d),K_ (vP b 0),K_ (vI ((sgi l 0).d)),K_ bF,K_ bF] (fun E4=>[(0,vP b 0),(3,vP (pb E1 0) 0),(4,vP (pb E1 1) 0),(5,vI 0),(18,bF)]) (hs:=c_ (fa0 (vP (pb E1 0) 0))<|c_ (ld_ 0 (hrd:=by exact rd3 rfl))<|c_ mv_<|c_ (cw_ Tryz.func108 (h:=fun _ env _ wd hA=>⟨_,rFirst_any wd b g c l day off (hR.grown hA.j.st.gr) n0,rfl⟩))<|c_ (bi0 (vI d) (vI ((sgi l 0).d)) (h:=by intro env w;simp [go_sem,g1]))<|c_ mv_<|e_) (k:=fun E4 ac wd h_4=>?_)
 clear h_3
 refine then_n ?_
 refine wp_cond_false (eval_tmp (h_4.g (t:=18) rfl)) ?_
 refine wp_skip (blk_n (then_n (wp_seq (wp_label (then_n (wp_seq (wp_seq ?_)))))))
 refine rg_ h_4 [[0],[0,1],[0,1,2],r_ 4,r_ 5,[5]] [K_ (vP b 0),K_ (vP b 0),K_ (vP b 0),K_ (.slice ((some ⟨g,0,none⟩)) l.length c),K_ (vN l.length),K_ (vI 0)] (fun E5=>[(3,vP (pb E1 0) 0),(4,vP (pb E1 1) 0),(5,vI 0),(28,.slice ((some ⟨g,0,none⟩)) l.length c),(29,vN l.length),(30,vI 0)]) (hs:=c_ mv_<|c_ (nc0 (vP b 0))<|c_ (fa0 (vP b 0))<|c_ (by refine s_v rfl rfl rfl rfl (fun {D env ac wd} hA=>?_);have e27:ac.tmps[27]? = some (vP b 0):=hA.g rfl;have hc:=(hR.grown hA.j.st.gr).cell;simp [go_sem,e27,hc])<|c_ (ln_ Tryz.underlying124 fun _ env _ wd hA=>(hR.grown hA.j.st.gr).els)<|c_ mv_<|e_) (k:=fun E5 ac wd h_5=>?_)
 clear h_4
 refine then_n (wp_block ?_)
 refine wp_loop (fun ac wd=>∃ i:Nat,(i≤l.length∧∀ j,j < i→untS l day j≤d)∧Cur 65 w0 none none (fun _=>True) (fun _=>True) [(3,vP (pb E1 0) 0),(4,vP (pb E1 1) 0),(28,.slice ((some ⟨g,0,none⟩)) l.length c),(29,vN l.length),(30,vN i)] [((pb E1 0),26,[vI d,vI s,vI a]),((pb E1 1),34,[vI 0,.int .u64 0])] ac wd) (fun ac _=>((l.length:Int)-sI ac 30).toNat) ⟨0,⟨by omega,fun j hj=>by omega⟩,(h_5.re rfl).th (fun _ h=>h)⟩ ?_
 rintro ac wd ⟨i,⟨hi1,hi2⟩,h_6⟩
 clear h_5
 have hmu:sI ac 30=((i:Nat):Int):=sI_eq (h_6.g (t:=30) rfl)
 refine wp_seq ?_
 by_cases h1:i < l.length
 have hs:=hL.seg i h1;have hE:=hL.end_bd h1;have q1:=hL.unt_day h1;have q2:=hL.unt_ge h1;have f0:=(hL.seg 0 n0).d0
 refine rg_ h_6 [[0]] [K_ bT] (fun E7=>[(3,vP (pb E1 0) 0),(4,vP (pb E1 1) 0),(28,.slice ((some ⟨g,0,none⟩)) l.length c),(29,vN l.length),(30,vN i),(31,bT)]) (hs:=c_ (bi0 (vN i) (vN l.length))<|e_) (k:=fun E7 ac wd h_7=>?_)
 clear h_6
 refine then_n (wp_seq ?_)
 refine wp_cond_true (eval_tmp (h_7.g (t:=31) rfl)) ?_
 refine wp_skip (then_n (wp_seq (wp_block (wp_seq ?_))))
 refine rg_ h_7 [[0],[0,1],[2],r_ 4] [K_ (elt (.slice ((some ⟨g,0,none⟩)) l.length c) (i*14)),K_ (vPc ((sgi l i).d) ((sgi l i).b*100000000000) (jn (sgi l i).f 0 0) ((sgi l i).r*100000000000) (endS l day off i) (untS l day i)),KE_ fun env=>vP (pb env 2) 0,none] (fun E8=>[(3,vP (pb E1 0) 0),(4,vP (pb E1 1) 0),(7,vP (pb E8 2) 0),(28,.slice ((some ⟨g,0,none⟩)) l.length c),(29,vN l.length),(30,vN i),(31,bT),(32,elt (.slice ((some ⟨g,0,none⟩)) l.length c) (i*14)),(33,vPc ((sgi l i).d) ((sgi l i).b*100000000000) (jn (sgi l i).f 0 0) ((sgi l i).r*100000000000) (endS l day off i) (untS l day i))]) (W:=[{ i:=2,T:=130,c0:=[vI 0,vI 0,.int .u64 0,vI 0,.int .u64 0,vI 0,.int .u64 0,vI 0,.int .u64 0,vI 0,.int .u64 0,vI 0,.int .u64 0,vI 0],s:=some 3,c1:=fun _=>[vI ((sgi l i).d),vI (hi ((sgi l i).b*100000000000)),.int .u64 (lo ((sgi l i).b*100000000000)),vI (hi (jn (sgi l i).f 0 0)),.int .u64 (lo (jn (sgi l i).f 0 0)),vI (hi (dayA)),.int .u64 (lo (dayA)),vI (hi (dayA+(sgi l i).r*100000000000)),.int .u64 (lo (dayA+(sgi l i).r*100000000000)),vI (hi ((sgi l i).r*100000000000)),.int .u64 (lo ((sgi l i).r*100000000000)),vI (hi (endS l day off i)),.int .u64 (lo (endS l day off i)),vI (untS l day i)] }]) (M':=fun E8=>[((pb E1 0),26,[vI d,vI s,vI a]),((pb E1 1),34,[vI 0,.int .u64 0]),((pb E8 2),130,[vI ((sgi l i).d),vI (hi ((sgi l i).b*100000000000)),.int .u64 (lo ((sgi l i).b*100000000000)),vI (hi (jn (sgi l i).f 0 0)),.int .u64 (lo (jn (sgi l i).f 0 0)),vI (hi (dayA)),.int .u64 (lo (dayA)),vI (hi (dayA+(sgi l i).r*100000000000)),.int .u64 (lo (dayA+(sgi l i).r*100000000000)),vI (hi ((sgi l i).r*100000000000)),.int .u64 (lo ((sgi l i).r*100000000000)),vI (hi (endS l day off i)),.int .u64 (lo (endS l day off i)),vI (untS l day i)])]) (hs:=c_ (ia_ Tryz.underlying124 sz130 i (i*14) ((i:Nat):Int) (fun _ env _ wd hA=>(hR.grown hA.j.st.gr).els) (rfl) (by omega) rfl)<|c_ (le_ (i*14) (fun _ env _ wd hA=>(hR.grown hA.j.st.gr).els) (by omega) (le130 (by exact pcC_at l day off i 0 (by omega)) (by exact pcC_at l day off i 1 (by omega)) (by exact pcC_at l day off i 2 (by omega)) (by exact pcC_at l day off i 3 (by omega)) (by exact pcC_at l day off i 4 (by omega)) (by exact pcC_at l day off i 5 (by omega)) (by exact pcC_at l day off i 6 (by omega)) (by exact pcC_at l day off i 7 (by omega)) (by exact pcC_at l day off i 8 (by omega)) (by exact pcC_at l day off i 9 (by omega)) (by exact pcC_at l day off i 10 (by omega)) (by exact pcC_at l day off i 11 (by omega)) (by exact pcC_at l day off i 12 (by omega)) (by exact pcC_at l day off i 13 (by omega))))<|c_ (al_ 2)<|c_ (sw_ 2 2 (hst:=by exact fun _ _ _ hc=>st130 rfl rfl rfl rfl rfl rfl rfl rfl rfl rfl rfl rfl rfl rfl rfl hc))<|e_) (k:=fun E8 ac wd h_8=>?_)
 clear h_7
 refine then_n (wp_seq (wp_seq ?_))
 by_cases hc:untS l day i≤d
 refine rg_ h_8 [[0],[0,1],[2],[2,3],r_ 5] [K_ (vP (pb E1 0) 0),K_ (vI d),K_ (vP (pb E8 2) 13),K_ (vI (untS l day i)),K_ bT] (fun E9=>[(3,vP (pb E1 0) 0),(4,vP (pb E1 1) 0),(7,vP (pb E8 2) 0),(28,.slice ((some ⟨g,0,none⟩)) l.length c),(29,vN l.length),(30,vN i),(31,bT),(32,elt (.slice ((some ⟨g,0,none⟩)) l.length c) (i*14)),(33,vPc ((sgi l i).d) ((sgi l i).b*100000000000) (jn (sgi l i).f 0 0) ((sgi l i).r*100000000000) (endS l day off i) (untS l day i)),(34,vP (pb E1 0) 0),(35,vI d),(36,vP (pb E8 2) 13),(37,vI (untS l day i)),(38,bT)]) (hs:=c_ (fa0 (vP (pb E1 0) 0))<|c_ (ld_ 0 (hrd:=by exact rd3 rfl))<|c_ (fa0 (vP (pb E8 2) 0))<|c_ (ld_ 2 (hrd:=by exact rd3 rfl))<|c_ (bi0 (vI d) (vI (untS l day i)) (h:=by intro env w;simp [go_sem,hc]))<|e_) (k:=fun E9 ac wd h_9=>?_)
 clear h_8
 refine then_n ?_
 refine wp_cond_true (eval_tmp (h_9.g (t:=38) rfl)) ?_
 refine wp_exit (then_e (blk_x (then_n ?_)))
 refine rg_ h_9 [[0],[0,1]] [K_ (vI (((i:Nat):Int)+1)),K_ (vI (((i:Nat):Int)+1))] (fun E10=>[(3,vP (pb E1 0) 0),(4,vP (pb E1 1) 0),(7,vP (pb E8 2) 0),(28,.slice ((some ⟨g,0,none⟩)) l.length c),(29,vN l.length),(30,vI (((i:Nat):Int)+1)),(31,bT),(32,elt (.slice ((some ⟨g,0,none⟩)) l.length c) (i*14)),(33,vPc ((sgi l i).d) ((sgi l i).b*100000000000) (jn (sgi l i).f 0 0) ((sgi l i).r*100000000000) (endS l day off i) (untS l day i)),(34,vP (pb E1 0) 0),(35,vI d),(36,vP (pb E8 2) 13),(37,vI (untS l day i)),(38,bT),(63,vI (((i:Nat):Int)+1))]) (hs:=c_ (bi0 (vN i) (vI 1))<|c_ mv_<|e_) (k:=fun E10 ac wd h_10=>?_)
 clear h_9
 refine then_n ?_
 exact ⟨⟨i+1,⟨by omega,steps_snoc (p:=fun j=>untS l day j≤d) hi2 hc⟩,(h_10.take (M1:=[_,_]) rfl).re rfl⟩,by rw [sI_eq (h_10.g (t:=30) rfl),hmu];omega⟩
 have hk:=fst_kS hL (x:=d) (by omega) h1 hi2 (by omega);have hcn:Cn (jn d s a):=cn_jn (by omega) (by omega) (by omega) (by omega) (by omega) (by omega);have hnr:=hcn.near;have hfd:=fS_bd hs hcn;unfold Cn at hcn
 refine rg_ h_8 [[0],[0,1],[2],[2,3],r_ 5] [K_ (vP (pb E1 0) 0),K_ (vI d),K_ (vP (pb E8 2) 13),K_ (vI (untS l day i)),K_ bF] (fun E9=>[(3,vP (pb E1 0) 0),(4,vP (pb E1 1) 0),(7,vP (pb E8 2) 0),(28,.slice ((some ⟨g,0,none⟩)) l.length c),(29,vN l.length),(30,vN i),(31,bT),(32,elt (.slice ((some ⟨g,0,none⟩)) l.length c) (i*14)),(33,vPc ((sgi l i).d) ((sgi l i).b*100000000000) (jn (sgi l i).f 0 0) ((sgi l i).r*100000000000) (endS l day off i) (untS l day i)),(34,vP (pb E1 0) 0),(35,vI d),(36,vP (pb E8 2) 13),(37,vI (untS l day i)),(38,bF)]) (hs:=c_ (fa0 (vP (pb E1 0) 0))<|c_ (ld_ 0 (hrd:=by exact rd3 rfl))<|c_ (fa0 (vP (pb E8 2) 0))<|c_ (ld_ 2 (hrd:=by exact rd3 rfl))<|c_ (bi0 (vI d) (vI (untS l day i)) (h:=by intro env w;simp [go_sem,hc]))<|e_) (k:=fun E9 ac wd h_9=>?_)
 clear h_8
 refine then_n ?_
 refine wp_cond_false (eval_tmp (h_9.g (t:=38) rfl)) ?_
 refine wp_skip (then_n (wp_seq ?_))
 refine rg_ h_9 [[0],[1],[1,2],r_ 4,[4],r_ 6] [K_ (vPc ((sgi l i).d) ((sgi l i).b*100000000000) (jn (sgi l i).f 0 0) ((sgi l i).r*100000000000) (endS l day off i) (untS l day i)),K_ (vL d s a),K_ (vW (jn d s a)),K_ (vW (fS (sgi l i) (jn d s a))),KE_ fun env=>vP (pb env 4) 0,none] (fun E10=>[(3,vP (pb E1 0) 0),(4,vP (pb E1 1) 0),(7,vP (pb E8 2) 0),(8,vP (pb E10 4) 0),(28,.slice ((some ⟨g,0,none⟩)) l.length c),(29,vN l.length),(30,vN i),(31,bT),(32,elt (.slice ((some ⟨g,0,none⟩)) l.length c) (i*14)),(33,vPc ((sgi l i).d) ((sgi l i).b*100000000000) (jn (sgi l i).f 0 0) ((sgi l i).r*100000000000) (endS l day off i) (untS l day i)),(34,vP (pb E1 0) 0),(35,vI d),(36,vP (pb E8 2) 13),(37,vI (untS l day i)),(38,bF),(39,vPc ((sgi l i).d) ((sgi l i).b*100000000000) (jn (sgi l i).f 0 0) ((sgi l i).r*100000000000) (endS l day off i) (untS l day i)),(40,vL d s a),(41,vW (jn d s a)),(42,vW (fS (sgi l i) (jn d s a)))]) (W:=[{ i:=4,T:=34,c0:=[vI 0,.int .u64 0],s:=some 5,c1:=fun _=>[vI (hi (fS (sgi l i) (jn d s a))),.int .u64 (lo (fS (sgi l i) (jn d s a)))] }]) (M':=fun E10=>[((pb E1 0),26,[vI d,vI s,vI a]),((pb E1 1),34,[vI 0,.int .u64 0]),((pb E8 2),130,[vI ((sgi l i).d),vI (hi ((sgi l i).b*100000000000)),.int .u64 (lo ((sgi l i).b*100000000000)),vI (hi (jn (sgi l i).f 0 0)),.int .u64 (lo (jn (sgi l i).f 0 0)),vI (hi (dayA)),.int .u64 (lo (dayA)),vI (hi (dayA+(sgi l i).r*100000000000)),.int .u64 (lo (dayA+(sgi l i).r*100000000000)),vI (hi ((sgi l i).r*100000000000)),.int .u64 (lo ((sgi l i).r*100000000000)),vI (hi (endS l day off i)),.int .u64 (lo (endS l day off i)),vI (untS l day i)]),((pb E10 4),34,[vI (hi (fS (sgi l i) (jn d s a))),.int .u64 (lo (fS (sgi l i) (jn d s a)))])]) (hs:=c_ (ld_ 2 (hrd:=by exact rd130 rfl rfl rfl rfl rfl rfl rfl rfl rfl rfl rfl rfl rfl rfl))<|c_ (ld_ 0 (hrd:=by exact rd26 rfl rfl rfl))<|c_ (cl_ Tryz.func70 (h:=fun env=>⟨_,(rcount_any d s a (by omega) (by omega) (by omega) (by omega) (by omega) (by omega)),rfl⟩))<|c_ (cl_ Tryz.func68 (h:=fun env=>⟨_,(pat_any (sgi l i).d ((sgi l i).b*100000000000) (jn (sgi l i).f 0 0) ((sgi l i).r*100000000000) (endS l day off i) (untS l day i) (jn d s a) hs.pc hnr),rfl⟩))<|c_ (al_ 3)<|c_ (sw_ 3 4 (hst:=by exact fun _ _ _ hc=>st34 rfl rfl rfl hc))<|e_) (k:=fun E10 ac wd h_10=>?_)
 clear h_9
 refine then_n (wp_seq (wp_seq ?_))
 by_cases e1:s=86400
 by_cases e2:d=untS l day i-1
 by_cases e3:endS l day off i≤fS (sgi l i) (jn d s a)
 refine rg_ h_10 [[0],[0,1],[0,1,2],r_ 4,r_ 5,r_ 6,[0,1,2,3,6],[0,1,2,3,6,7],[0,1,2,3,6,7,8],r_ 10,r_ 11,r_ 12,r_ 13,[0,1,2,3,4,5,6,7,8,9,10,11,13],[0,1,2,3,4,5,6,7,8,9,10,11,13,14],r_ 16,r_ 17,r_ 18] [K_ (vP (pb E1 0) 1),K_ (vI s),K_ bT,K_ bT,K_ (vP (pb E1 0) 0),K_ (vI d),K_ (vP (pb E8 2) 13),K_ (vI (untS l day i)),K_ (vI ((untS l day i)-1)),K_ bF,K_ bF,K_ bF,K_ (vW (fS (sgi l i) (jn d s a))),K_ (vP (pb E8 2) 11),K_ (vW (endS l day off i)),K_ (vI (cmpZ (fS (sgi l i) (jn d s a)) (endS l day off i))),K_ bT,K_ bT] (fun E11=>[(3,vP (pb E1 0) 0),(4,vP (pb E1 1) 0),(7,vP (pb E8 2) 0),(8,vP (pb E10 4) 0),(28,.slice ((some ⟨g,0,none⟩)) l.length c),(29,vN l.length),(30,vN i),(31,bT),(32,elt (.slice ((some ⟨g,0,none⟩)) l.length c) (i*14)),(33,vPc ((sgi l i).d) ((sgi l i).b*100000000000) (jn (sgi l i).f 0 0) ((sgi l i).r*100000000000) (endS l day off i) (untS l day i)),(34,vP (pb E1 0) 0),(35,vI d),(36,vP (pb E8 2) 13),(37,vI (untS l day i)),(38,bF),(39,vPc ((sgi l i).d) ((sgi l i).b*100000000000) (jn (sgi l i).f 0 0) ((sgi l i).r*100000000000) (endS l day off i) (untS l day i)),(40,vL d s a),(41,vW (jn d s a)),(42,vW (fS (sgi l i) (jn d s a))),(43,vP (pb E1 0) 1),(44,vI s),(45,bT),(46,bT),(47,vP (pb E1 0) 0),(48,vI d),(49,vP (pb E8 2) 13),(50,vI (untS l day i)),(51,vI ((untS l day i)-1)),(52,bF),(53,bF),(54,bF),(55,vW (fS (sgi l i) (jn d s a))),(56,vP (pb E8 2) 11),(57,vW (endS l day off i)),(58,vI (cmpZ (fS (sgi l i) (jn d s a)) (endS l day off i))),(59,bT),(60,bT)]) (hs:=c_ (fa0 (vP (pb E1 0) 0))<|c_ (ld_ 0 (hrd:=by exact rd3 rfl))<|c_ (bi0 (vI s) (vI 86400) (h:=by intro env w;simp [go_sem,e1]))<|c_ mv_<|c_ (fa0 (vP (pb E1 0) 0))<|c_ (ld_ 0 (hrd:=by exact rd3 rfl))<|c_ (fa0 (vP (pb E8 2) 0))<|c_ (ld_ 2 (hrd:=by exact rd3 rfl))<|c_ (bi0 (vI (untS l day i)) (vI 1))<|c_ (bi0 (vI d) (vI ((untS l day i)-1)) (h:=by intro env w;simp [go_sem,e2]))<|c_ (pk0 bT bF bF (h:=by intro env w;simp [go_sem,e2]))<|c_ mv_<|c_ (ld_ 3 (hrd:=by exact rd34 rfl rfl))<|c_ (fa0 (vP (pb E8 2) 0))<|c_ (ld_ 2 (hrd:=by exact rd34 rfl rfl))<|c_ (cl_ Tryz.func106 (h:=fun env=>⟨_,(wcmpZ (fS (sgi l i) (jn d s a)) (endS l day off i) (by unfold InW at *;omega) (by unfold InW;omega)),rfl⟩))<|c_ (bi0 (vI (cmpZ (fS (sgi l i) (jn d s a)) (endS l day off i))) (vI 0) (h:=by intro env w;(first | (simp [go_sem,cmpZ_le,cmpZ_lt,cmpZ_ge,cmpZ_gt,e3];done) | (simp [go_sem,cmpZ_le,cmpZ_lt,cmpZ_ge,cmpZ_gt];omega))))<|c_ (pk0 bF bT bT (h:=by intro env w;(first | (simp [go_sem,cmpZ_le,cmpZ_lt,cmpZ_ge,cmpZ_gt,e3];done) | (simp [go_sem,cmpZ_le,cmpZ_lt,cmpZ_ge,cmpZ_gt];omega))))<|e_) (k:=fun E11 ac wd h_11=>?_)
 clear h_10
 refine then_n ?_
 refine wp_cond_true (eval_tmp (h_11.g (t:=60) rfl)) ?_
 refine wp_seq ?_
 refine rg_ h_11 (tri 3) [K_ (.agg #[vI 0,.int .u64 0]),none,K_ (vI 6)] (fun E12=>[(3,vP (pb E1 0) 0),(4,vP (pb E1 1) 0),(5,vI 6),(7,vP (pb E8 2) 0),(8,vP (pb E10 4) 0),(28,.slice ((some ⟨g,0,none⟩)) l.length c),(29,vN l.length),(30,vN i),(31,bT),(32,elt (.slice ((some ⟨g,0,none⟩)) l.length c) (i*14)),(33,vPc ((sgi l i).d) ((sgi l i).b*100000000000) (jn (sgi l i).f 0 0) ((sgi l i).r*100000000000) (endS l day off i) (untS l day i)),(34,vP (pb E1 0) 0),(35,vI d),(36,vP (pb E8 2) 13),(37,vI (untS l day i)),(38,bF),(39,vPc ((sgi l i).d) ((sgi l i).b*100000000000) (jn (sgi l i).f 0 0) ((sgi l i).r*100000000000) (endS l day off i) (untS l day i)),(40,vL d s a),(41,vW (jn d s a)),(42,vW (fS (sgi l i) (jn d s a))),(43,vP (pb E1 0) 1),(44,vI s),(45,bT),(46,bT),(47,vP (pb E1 0) 0),(48,vI d),(49,vP (pb E8 2) 13),(50,vI (untS l day i)),(51,vI ((untS l day i)-1)),(52,bF),(53,bF),(54,bF),(55,vW (fS (sgi l i) (jn d s a))),(56,vP (pb E8 2) 11),(57,vW (endS l day off i)),(58,vI (cmpZ (fS (sgi l i) (jn d s a)) (endS l day off i))),(59,bT),(60,bT),(61,.agg #[vI 0,.int .u64 0])]) (S:=[⟨1,1,fun _=>[vI 0,.int .u64 0]⟩]) (M':=fun E12=>[((pb E1 0),26,[vI d,vI s,vI a]),((pb E1 1),34,[vI 0,.int .u64 0]),((pb E8 2),130,[vI ((sgi l i).d),vI (hi ((sgi l i).b*100000000000)),.int .u64 (lo ((sgi l i).b*100000000000)),vI (hi (jn (sgi l i).f 0 0)),.int .u64 (lo (jn (sgi l i).f 0 0)),vI (hi (dayA)),.int .u64 (lo (dayA)),vI (hi (dayA+(sgi l i).r*100000000000)),.int .u64 (lo (dayA+(sgi l i).r*100000000000)),vI (hi ((sgi l i).r*100000000000)),.int .u64 (lo ((sgi l i).r*100000000000)),vI (hi (endS l day off i)),.int .u64 (lo (endS l day off i)),vI (untS l day i)]),((pb E10 4),34,[vI (hi (fS (sgi l i) (jn d s a))),.int .u64 (lo (fS (sgi l i) (jn d s a)))])]) (hs:=c_ (bd0 ([]))<|c_ (se_ 1 (hst:=by exact fun _ _ _ hc=>st34 rfl rfl rfl hc))<|c_ mv_<|e_) (k:=fun E12 ac wd h_12=>?_)
 clear h_11
 refine then_n (wp_ret (then_ret (blk_ret (then_ret (then_ret (blk_ret (then_ret (sc_r ?_))))))))
 have s4:=h_12.g (t:=4) rfl
 have hc4:=(h_12.st.own 1 _ rfl).2
 have c4_0:=own_cell (o:=0) hc4 rfl
 have c4_1:=own_cell (o:=1) hc4 rfl
 have s5:=h_12.g (t:=5) rfl
 refine leave (v:=vT2 (.agg #[vI 0,.int .u64 0]) (vI 6)) h_12.df (by simp [results,Tryz.results72,go_sem,Array.getD_eq_getD_getElem?,s4,c4_0,c4_1,Tryz.underlying34,s5]) ?_
 have hE2:taiE l day off d s a=6:=by unfold taiE;rw [if_neg (by rw [hfb];simp),if_neg g1,if_neg (by omega),← hk,if_pos (by omega)]
 have hV2:taiV l day off d s a=0:=by unfold taiV;rw [if_neg (by rw [hE2];omega)]
 exact ⟨by first | (rw [hE2,hV2];done) | (rw [hE2,hV2];rfl),h_12.st.below⟩
 refine rg_ h_10 [[0],[0,1],[0,1,2],r_ 4,r_ 5,r_ 6,[0,1,2,3,6],[0,1,2,3,6,7],[0,1,2,3,6,7,8],r_ 10,r_ 11,r_ 12,r_ 13,[0,1,2,3,4,5,6,7,8,9,10,11,13],[0,1,2,3,4,5,6,7,8,9,10,11,13,14],r_ 16,r_ 17,r_ 18] [K_ (vP (pb E1 0) 1),K_ (vI s),K_ bT,K_ bT,K_ (vP (pb E1 0) 0),K_ (vI d),K_ (vP (pb E8 2) 13),K_ (vI (untS l day i)),K_ (vI ((untS l day i)-1)),K_ bF,K_ bF,K_ bF,K_ (vW (fS (sgi l i) (jn d s a))),K_ (vP (pb E8 2) 11),K_ (vW (endS l day off i)),K_ (vI (cmpZ (fS (sgi l i) (jn d s a)) (endS l day off i))),K_ bF,K_ bF] (fun E11=>[(3,vP (pb E1 0) 0),(4,vP (pb E1 1) 0),(7,vP (pb E8 2) 0),(8,vP (pb E10 4) 0),(28,.slice ((some ⟨g,0,none⟩)) l.length c),(29,vN l.length),(30,vN i),(31,bT),(32,elt (.slice ((some ⟨g,0,none⟩)) l.length c) (i*14)),(33,vPc ((sgi l i).d) ((sgi l i).b*100000000000) (jn (sgi l i).f 0 0) ((sgi l i).r*100000000000) (endS l day off i) (untS l day i)),(34,vP (pb E1 0) 0),(35,vI d),(36,vP (pb E8 2) 13),(37,vI (untS l day i)),(38,bF),(39,vPc ((sgi l i).d) ((sgi l i).b*100000000000) (jn (sgi l i).f 0 0) ((sgi l i).r*100000000000) (endS l day off i) (untS l day i)),(40,vL d s a),(41,vW (jn d s a)),(42,vW (fS (sgi l i) (jn d s a))),(43,vP (pb E1 0) 1),(44,vI s),(45,bT),(46,bT),(47,vP (pb E1 0) 0),(48,vI d),(49,vP (pb E8 2) 13),(50,vI (untS l day i)),(51,vI ((untS l day i)-1)),(52,bF),(53,bF),(54,bF),(55,vW (fS (sgi l i) (jn d s a))),(56,vP (pb E8 2) 11),(57,vW (endS l day off i)),(58,vI (cmpZ (fS (sgi l i) (jn d s a)) (endS l day off i))),(59,bF),(60,bF)]) (hs:=c_ (fa0 (vP (pb E1 0) 0))<|c_ (ld_ 0 (hrd:=by exact rd3 rfl))<|c_ (bi0 (vI s) (vI 86400) (h:=by intro env w;simp [go_sem,e1]))<|c_ mv_<|c_ (fa0 (vP (pb E1 0) 0))<|c_ (ld_ 0 (hrd:=by exact rd3 rfl))<|c_ (fa0 (vP (pb E8 2) 0))<|c_ (ld_ 2 (hrd:=by exact rd3 rfl))<|c_ (bi0 (vI (untS l day i)) (vI 1))<|c_ (bi0 (vI d) (vI ((untS l day i)-1)) (h:=by intro env w;simp [go_sem,e2]))<|c_ (pk0 bT bF bF (h:=by intro env w;simp [go_sem,e2]))<|c_ mv_<|c_ (ld_ 3 (hrd:=by exact rd34 rfl rfl))<|c_ (fa0 (vP (pb E8 2) 0))<|c_ (ld_ 2 (hrd:=by exact rd34 rfl rfl))<|c_ (cl_ Tryz.func106 (h:=fun env=>⟨_,(wcmpZ (fS (sgi l i) (jn d s a)) (endS l day off i) (by unfold InW at *;omega) (by unfold InW;omega)),rfl⟩))<|c_ (bi0 (vI (cmpZ (fS (sgi l i) (jn d s a)) (endS l day off i))) (vI 0) (h:=by intro env w;(first | (simp [go_sem,cmpZ_le,cmpZ_lt,cmpZ_ge,cmpZ_gt,e3];done) | (simp [go_sem,cmpZ_le,cmpZ_lt,cmpZ_ge,cmpZ_gt];omega))))<|c_ (pk0 bF bT bF (h:=by intro env w;(first | (simp [go_sem,cmpZ_le,cmpZ_lt,cmpZ_ge,cmpZ_gt,e3];done) | (simp [go_sem,cmpZ_le,cmpZ_lt,cmpZ_ge,cmpZ_gt];omega))))<|e_) (k:=fun E11 ac wd h_11=>?_)
 clear h_10
 refine then_n ?_
 refine wp_cond_false (eval_tmp (h_11.g (t:=60) rfl)) ?_
 refine wp_skip (then_n (wp_seq ?_))
 refine rg_ h_11 (tri 3) [K_ (vW (fS (sgi l i) (jn d s a))),none,K_ (vI 0)] (fun E12=>[(3,vP (pb E1 0) 0),(4,vP (pb E1 1) 0),(5,vI 0),(7,vP (pb E8 2) 0),(8,vP (pb E10 4) 0),(28,.slice ((some ⟨g,0,none⟩)) l.length c),(29,vN l.length),(30,vN i),(31,bT),(32,elt (.slice ((some ⟨g,0,none⟩)) l.length c) (i*14)),(33,vPc ((sgi l i).d) ((sgi l i).b*100000000000) (jn (sgi l i).f 0 0) ((sgi l i).r*100000000000) (endS l day off i) (untS l day i)),(34,vP (pb E1 0) 0),(35,vI d),(36,vP (pb E8 2) 13),(37,vI (untS l day i)),(38,bF),(39,vPc ((sgi l i).d) ((sgi l i).b*100000000000) (jn (sgi l i).f 0 0) ((sgi l i).r*100000000000) (endS l day off i) (untS l day i)),(40,vL d s a),(41,vW (jn d s a)),(42,vW (fS (sgi l i) (jn d s a))),(43,vP (pb E1 0) 1),(44,vI s),(45,bT),(46,bT),(47,vP (pb E1 0) 0),(48,vI d),(49,vP (pb E8 2) 13),(50,vI (untS l day i)),(51,vI ((untS l day i)-1)),(52,bF),(53,bF),(54,bF),(55,vW (fS (sgi l i) (jn d s a))),(56,vP (pb E8 2) 11),(57,vW (endS l day off i)),(58,vI (cmpZ (fS (sgi l i) (jn d s a)) (endS l day off i))),(59,bF),(60,bF),(62,vW (fS (sgi l i) (jn d s a)))]) (S:=[⟨1,1,fun _=>[vI (hi (fS (sgi l i) (jn d s a))),.int .u64 (lo (fS (sgi l i) (jn d s a)))]⟩]) (M':=fun E12=>[((pb E1 0),26,[vI d,vI s,vI a]),((pb E1 1),34,[vI (hi (fS (sgi l i) (jn d s a))),.int .u64 (lo (fS (sgi l i) (jn d s a)))]),((pb E8 2),130,[vI ((sgi l i).d),vI (hi ((sgi l i).b*100000000000)),.int .u64 (lo ((sgi l i).b*100000000000)),vI (hi (jn (sgi l i).f 0 0)),.int .u64 (lo (jn (sgi l i).f 0 0)),vI (hi (dayA)),.int .u64 (lo (dayA)),vI (hi (dayA+(sgi l i).r*100000000000)),.int .u64 (lo (dayA+(sgi l i).r*100000000000)),vI (hi ((sgi l i).r*100000000000)),.int .u64 (lo ((sgi l i).r*100000000000)),vI (hi (endS l day off i)),.int .u64 (lo (endS l day off i)),vI (untS l day i)]),((pb E10 4),34,[vI (hi (fS (sgi l i) (jn d s a))),.int .u64 (lo (fS (sgi l i) (jn d s a)))])]) (hs:=c_ (ld_ 3 (hrd:=by exact rd34 rfl rfl))<|c_ (se_ 1 (hst:=by exact fun _ _ _ hc=>st34 rfl rfl rfl hc))<|c_ mv_<|e_) (k:=fun E12 ac wd h_12=>?_)
 clear h_11
 refine then_n (wp_ret (blk_ret (then_ret (then_ret (blk_ret (then_ret (sc_r ?_)))))))
 have s4:=h_12.g (t:=4) rfl
 have hc4:=(h_12.st.own 1 _ rfl).2
 have c4_0:=own_cell (o:=0) hc4 rfl
 have c4_1:=own_cell (o:=1) hc4 rfl
 have s5:=h_12.g (t:=5) rfl
 refine leave (v:=vT2 (vW (fS (sgi l i) (jn d s a))) (vI 0)) h_12.df (by simp [results,Tryz.results72,go_sem,Array.getD_eq_getD_getElem?,s4,c4_0,c4_1,Tryz.underlying34,s5]) ?_
 have hE2:taiE l day off d s a=0:=by unfold taiE;rw [if_neg (by rw [hfb];simp),if_neg g1,if_neg (by omega),← hk,if_neg (by omega)]
 have hV2:taiV l day off d s a=fS (sgi l i) (jn d s a):=by unfold taiV;rw [if_pos hE2,← hk]
 exact ⟨by first | (rw [hE2,hV2];done) | (rw [hE2,hV2];rfl),h_12.st.below⟩
 refine rg_ h_10 [[0],[0,1],[0,1,2],r_ 4,r_ 5,r_ 6,[0,1,2,3,6],[0,1,2,3,6,7],[0,1,2,3,6,7,8],r_ 10,r_ 11,r_ 12,r_ 13,[0,1,2,3,4,5,6,7,8,9,10,11,13],[0,1,2,3,4,5,6,7,8,9,10,11,13,14],r_ 16,r_ 17,r_ 18] [K_ (vP (pb E1 0) 1),K_ (vI s),K_ bT,K_ bT,K_ (vP (pb E1 0) 0),K_ (vI d),K_ (vP (pb E8 2) 13),K_ (vI (untS l day i)),K_ (vI ((untS l day i)-1)),K_ bT,K_ bT,K_ bT,K_ undef,K_ undef,K_ undef,K_ undef,K_ undef,K_ bT] (fun E11=>[(3,vP (pb E1 0) 0),(4,vP (pb E1 1) 0),(7,vP (pb E8 2) 0),(8,vP (pb E10 4) 0),(28,.slice ((some ⟨g,0,none⟩)) l.length c),(29,vN l.length),(30,vN i),(31,bT),(32,elt (.slice ((some ⟨g,0,none⟩)) l.length c) (i*14)),(33,vPc ((sgi l i).d) ((sgi l i).b*100000000000) (jn (sgi l i).f 0 0) ((sgi l i).r*100000000000) (endS l day off i) (untS l day i)),(34,vP (pb E1 0) 0),(35,vI d),(36,vP (pb E8 2) 13),(37,vI (untS l day i)),(38,bF),(39,vPc ((sgi l i).d) ((sgi l i).b*100000000000) (jn (sgi l i).f 0 0) ((sgi l i).r*100000000000) (endS l day off i) (untS l day i)),(40,vL d s a),(41,vW (jn d s a)),(42,vW (fS (sgi l i) (jn d s a))),(43,vP (pb E1 0) 1),(44,vI s),(45,bT),(46,bT),(47,vP (pb E1 0) 0),(48,vI d),(49,vP (pb E8 2) 13),(50,vI (untS l day i)),(51,vI ((untS l day i)-1)),(52,bT),(53,bT),(54,bT),(55,undef),(56,undef),(57,undef),(58,undef),(59,undef),(60,bT)]) (hs:=c_ (fa0 (vP (pb E1 0) 0))<|c_ (ld_ 0 (hrd:=by exact rd3 rfl))<|c_ (bi0 (vI s) (vI 86400) (h:=by intro env w;simp [go_sem,e1]))<|c_ mv_<|c_ (fa0 (vP (pb E1 0) 0))<|c_ (ld_ 0 (hrd:=by exact rd3 rfl))<|c_ (fa0 (vP (pb E8 2) 0))<|c_ (ld_ 2 (hrd:=by exact rd3 rfl))<|c_ (bi0 (vI (untS l day i)) (vI 1))<|c_ (bi0 (vI d) (vI ((untS l day i)-1)) (h:=by intro env w;simp [go_sem,e2]))<|c_ (pk0 bT bT bF (h:=by intro env w;simp [go_sem,e2]))<|c_ mv_<|c_ off_<|c_ off_<|c_ off_<|c_ off_<|c_ off_<|c_ (pk0 bT bT undef)<|e_) (k:=fun E11 ac wd h_11=>?_)
 clear h_10
 refine then_n ?_
 refine wp_cond_true (eval_tmp (h_11.g (t:=60) rfl)) ?_
 refine wp_seq ?_
 refine rg_ h_11 (tri 3) [K_ (.agg #[vI 0,.int .u64 0]),none,K_ (vI 6)] (fun E12=>[(3,vP (pb E1 0) 0),(4,vP (pb E1 1) 0),(5,vI 6),(7,vP (pb E8 2) 0),(8,vP (pb E10 4) 0),(28,.slice ((some ⟨g,0,none⟩)) l.length c),(29,vN l.length),(30,vN i),(31,bT),(32,elt (.slice ((some ⟨g,0,none⟩)) l.length c) (i*14)),(33,vPc ((sgi l i).d) ((sgi l i).b*100000000000) (jn (sgi l i).f 0 0) ((sgi l i).r*100000000000) (endS l day off i) (untS l day i)),(34,vP (pb E1 0) 0),(35,vI d),(36,vP (pb E8 2) 13),(37,vI (untS l day i)),(38,bF),(39,vPc ((sgi l i).d) ((sgi l i).b*100000000000) (jn (sgi l i).f 0 0) ((sgi l i).r*100000000000) (endS l day off i) (untS l day i)),(40,vL d s a),(41,vW (jn d s a)),(42,vW (fS (sgi l i) (jn d s a))),(43,vP (pb E1 0) 1),(44,vI s),(45,bT),(46,bT),(47,vP (pb E1 0) 0),(48,vI d),(49,vP (pb E8 2) 13),(50,vI (untS l day i)),(51,vI ((untS l day i)-1)),(52,bT),(53,bT),(54,bT),(55,undef),(56,undef),(57,undef),(58,undef),(59,undef),(60,bT),(61,.agg #[vI 0,.int .u64 0])]) (S:=[⟨1,1,fun _=>[vI 0,.int .u64 0]⟩]) (M':=fun E12=>[((pb E1 0),26,[vI d,vI s,vI a]),((pb E1 1),34,[vI 0,.int .u64 0]),((pb E8 2),130,[vI ((sgi l i).d),vI (hi ((sgi l i).b*100000000000)),.int .u64 (lo ((sgi l i).b*100000000000)),vI (hi (jn (sgi l i).f 0 0)),.int .u64 (lo (jn (sgi l i).f 0 0)),vI (hi (dayA)),.int .u64 (lo (dayA)),vI (hi (dayA+(sgi l i).r*100000000000)),.int .u64 (lo (dayA+(sgi l i).r*100000000000)),vI (hi ((sgi l i).r*100000000000)),.int .u64 (lo ((sgi l i).r*100000000000)),vI (hi (endS l day off i)),.int .u64 (lo (endS l day off i)),vI (untS l day i)]),((pb E10 4),34,[vI (hi (fS (sgi l i) (jn d s a))),.int .u64 (lo (fS (sgi l i) (jn d s a)))])]) (hs:=c_ (bd0 ([]))<|c_ (se_ 1 (hst:=by exact fun _ _ _ hc=>st34 rfl rfl rfl hc))<|c_ mv_<|e_) (k:=fun E12 ac wd h_12=>?_)
 clear h_11
 refine then_n (wp_ret (then_ret (blk_ret (then_ret (then_ret (blk_ret (then_ret (sc_r ?_))))))))
 have s4:=h_12.g (t:=4) rfl
 have hc4:=(h_12.st.own 1 _ rfl).2
 have c4_0:=own_cell (o:=0) hc4 rfl
 have c4_1:=own_cell (o:=1) hc4 rfl
 have s5:=h_12.g (t:=5) rfl
 refine leave (v:=vT2 (.agg #[vI 0,.int .u64 0]) (vI 6)) h_12.df (by simp [results,Tryz.results72,go_sem,Array.getD_eq_getD_getElem?,s4,c4_0,c4_1,Tryz.underlying34,s5]) ?_
 have hE2:taiE l day off d s a=6:=by unfold taiE;rw [if_neg (by rw [hfb];simp),if_neg g1,if_neg (by omega),← hk,if_pos (by omega)]
 have hV2:taiV l day off d s a=0:=by unfold taiV;rw [if_neg (by rw [hE2];omega)]
 exact ⟨by first | (rw [hE2,hV2];done) | (rw [hE2,hV2];rfl),h_12.st.below⟩
 by_cases e3:endS l day off i≤fS (sgi l i) (jn d s a)
 refine rg_ h_10 [[0],[0,1],[0,1,2],r_ 4,r_ 5,r_ 6,[0,1,2,3,6],[0,1,2,3,6,7],[0,1,2,3,6,7,8],r_ 10,r_ 11,r_ 12,r_ 13,[0,1,2,3,4,5,6,7,8,9,10,11,13],[0,1,2,3,4,5,6,7,8,9,10,11,13,14],r_ 16,r_ 17,r_ 18] [K_ (vP (pb E1 0) 1),K_ (vI s),K_ bF,K_ bF,K_ undef,K_ undef,K_ undef,K_ undef,K_ undef,K_ undef,K_ bF,K_ bF,K_ (vW (fS (sgi l i) (jn d s a))),K_ (vP (pb E8 2) 11),K_ (vW (endS l day off i)),K_ (vI (cmpZ (fS (sgi l i) (jn d s a)) (endS l day off i))),K_ bT,K_ bT] (fun E11=>[(3,vP (pb E1 0) 0),(4,vP (pb E1 1) 0),(7,vP (pb E8 2) 0),(8,vP (pb E10 4) 0),(28,.slice ((some ⟨g,0,none⟩)) l.length c),(29,vN l.length),(30,vN i),(31,bT),(32,elt (.slice ((some ⟨g,0,none⟩)) l.length c) (i*14)),(33,vPc ((sgi l i).d) ((sgi l i).b*100000000000) (jn (sgi l i).f 0 0) ((sgi l i).r*100000000000) (endS l day off i) (untS l day i)),(34,vP (pb E1 0) 0),(35,vI d),(36,vP (pb E8 2) 13),(37,vI (untS l day i)),(38,bF),(39,vPc ((sgi l i).d) ((sgi l i).b*100000000000) (jn (sgi l i).f 0 0) ((sgi l i).r*100000000000) (endS l day off i) (untS l day i)),(40,vL d s a),(41,vW (jn d s a)),(42,vW (fS (sgi l i) (jn d s a))),(43,vP (pb E1 0) 1),(44,vI s),(45,bF),(46,bF),(47,undef),(48,undef),(49,undef),(50,undef),(51,undef),(52,undef),(53,bF),(54,bF),(55,vW (fS (sgi l i) (jn d s a))),(56,vP (pb E8 2) 11),(57,vW (endS l day off i)),(58,vI (cmpZ (fS (sgi l i) (jn d s a)) (endS l day off i))),(59,bT),(60,bT)]) (hs:=c_ (fa0 (vP (pb E1 0) 0))<|c_ (ld_ 0 (hrd:=by exact rd3 rfl))<|c_ (bi0 (vI s) (vI 86400) (h:=by intro env w;simp [go_sem,e1]))<|c_ mv_<|c_ off_<|c_ off_<|c_ off_<|c_ off_<|c_ off_<|c_ off_<|c_ (pk0 bF undef bF)<|c_ mv_<|c_ (ld_ 3 (hrd:=by exact rd34 rfl rfl))<|c_ (fa0 (vP (pb E8 2) 0))<|c_ (ld_ 2 (hrd:=by exact rd34 rfl rfl))<|c_ (cl_ Tryz.func106 (h:=fun env=>⟨_,(wcmpZ (fS (sgi l i) (jn d s a)) (endS l day off i) (by unfold InW at *;omega) (by unfold InW;omega)),rfl⟩))<|c_ (bi0 (vI (cmpZ (fS (sgi l i) (jn d s a)) (endS l day off i))) (vI 0) (h:=by intro env w;(first | (simp [go_sem,cmpZ_le,cmpZ_lt,cmpZ_ge,cmpZ_gt,e3];done) | (simp [go_sem,cmpZ_le,cmpZ_lt,cmpZ_ge,cmpZ_gt];omega))))<|c_ (pk0 bF bT bT (h:=by intro env w;(first | (simp [go_sem,cmpZ_le,cmpZ_lt,cmpZ_ge,cmpZ_gt,e3];done) | (simp [go_sem,cmpZ_le,cmpZ_lt,cmpZ_ge,cmpZ_gt];omega))))<|e_) (k:=fun E11 ac wd h_11=>?_)
 clear h_10
 refine then_n ?_
 refine wp_cond_true (eval_tmp (h_11.g (t:=60) rfl)) ?_
 refine wp_seq ?_
 refine rg_ h_11 (tri 3) [K_ (.agg #[vI 0,.int .u64 0]),none,K_ (vI 6)] (fun E12=>[(3,vP (pb E1 0) 0),(4,vP (pb E1 1) 0),(5,vI 6),(7,vP (pb E8 2) 0),(8,vP (pb E10 4) 0),(28,.slice ((some ⟨g,0,none⟩)) l.length c),(29,vN l.length),(30,vN i),(31,bT),(32,elt (.slice ((some ⟨g,0,none⟩)) l.length c) (i*14)),(33,vPc ((sgi l i).d) ((sgi l i).b*100000000000) (jn (sgi l i).f 0 0) ((sgi l i).r*100000000000) (endS l day off i) (untS l day i)),(34,vP (pb E1 0) 0),(35,vI d),(36,vP (pb E8 2) 13),(37,vI (untS l day i)),(38,bF),(39,vPc ((sgi l i).d) ((sgi l i).b*100000000000) (jn (sgi l i).f 0 0) ((sgi l i).r*100000000000) (endS l day off i) (untS l day i)),(40,vL d s a),(41,vW (jn d s a)),(42,vW (fS (sgi l i) (jn d s a))),(43,vP (pb E1 0) 1),(44,vI s),(45,bF),(46,bF),(47,undef),(48,undef),(49,undef),(50,undef),(51,undef),(52,undef),(53,bF),(54,bF),(55,vW (fS (sgi l i) (jn d s a))),(56,vP (pb E8 2) 11),(57,vW (endS l day off i)),(58,vI (cmpZ (fS (sgi l i) (jn d s a)) (endS l day off i))),(59,bT),(60,bT),(61,.agg #[vI 0,.int .u64 0])]) (S:=[⟨1,1,fun _=>[vI 0,.int .u64 0]⟩]) (M':=fun E12=>[((pb E1 0),26,[vI d,vI s,vI a]),((pb E1 1),34,[vI 0,.int .u64 0]),((pb E8 2),130,[vI ((sgi l i).d),vI (hi ((sgi l i).b*100000000000)),.int .u64 (lo ((sgi l i).b*100000000000)),vI (hi (jn (sgi l i).f 0 0)),.int .u64 (lo (jn (sgi l i).f 0 0)),vI (hi (dayA)),.int .u64 (lo (dayA)),vI (hi (dayA+(sgi l i).r*100000000000)),.int .u64 (lo (dayA+(sgi l i).r*100000000000)),vI (hi ((sgi l i).r*100000000000)),.int .u64 (lo ((sgi l i).r*100000000000)),vI (hi (endS l day off i)),.int .u64 (lo (endS l day off i)),vI (untS l day i)]),((pb E10 4),34,[vI (hi (fS (sgi l i) (jn d s a))),.int .u64 (lo (fS (sgi l i) (jn d s a)))])]) (hs:=c_ (bd0 ([]))<|c_ (se_ 1 (hst:=by exact fun _ _ _ hc=>st34 rfl rfl rfl hc))<|c_ mv_<|e_) (k:=fun E12 ac wd h_12=>?_)
 clear h_11
 refine then_n (wp_ret (then_ret (blk_ret (then_ret (then_ret (blk_ret (then_ret (sc_r ?_))))))))
 have s4:=h_12.g (t:=4) rfl
 have hc4:=(h_12.st.own 1 _ rfl).2
 have c4_0:=own_cell (o:=0) hc4 rfl
 have c4_1:=own_cell (o:=1) hc4 rfl
 have s5:=h_12.g (t:=5) rfl
 refine leave (v:=vT2 (.agg #[vI 0,.int .u64 0]) (vI 6)) h_12.df (by simp [results,Tryz.results72,go_sem,Array.getD_eq_getD_getElem?,s4,c4_0,c4_1,Tryz.underlying34,s5]) ?_
 have hE2:taiE l day off d s a=6:=by unfold taiE;rw [if_neg (by rw [hfb];simp),if_neg g1,if_neg (by omega),← hk,if_pos (by omega)]
 have hV2:taiV l day off d s a=0:=by unfold taiV;rw [if_neg (by rw [hE2];omega)]
 exact ⟨by first | (rw [hE2,hV2];done) | (rw [hE2,hV2];rfl),h_12.st.below⟩
 refine rg_ h_10 [[0],[0,1],[0,1,2],r_ 4,r_ 5,r_ 6,[0,1,2,3,6],[0,1,2,3,6,7],[0,1,2,3,6,7,8],r_ 10,r_ 11,r_ 12,r_ 13,[0,1,2,3,4,5,6,7,8,9,10,11,13],[0,1,2,3,4,5,6,7,8,9,10,11,13,14],r_ 16,r_ 17,r_ 18] [K_ (vP (pb E1 0) 1),K_ (vI s),K_ bF,K_ bF,K_ undef,K_ undef,K_ undef,K_ undef,K_ undef,K_ undef,K_ bF,K_ bF,K_ (vW (fS (sgi l i) (jn d s a))),K_ (vP (pb E8 2) 11),K_ (vW (endS l day off i)),K_ (vI (cmpZ (fS (sgi l i) (jn d s a)) (endS l day off i))),K_ bF,K_ bF] (fun E11=>[(3,vP (pb E1 0) 0),(4,vP (pb E1 1) 0),(7,vP (pb E8 2) 0),(8,vP (pb E10 4) 0),(28,.slice ((some ⟨g,0,none⟩)) l.length c),(29,vN l.length),(30,vN i),(31,bT),(32,elt (.slice ((some ⟨g,0,none⟩)) l.length c) (i*14)),(33,vPc ((sgi l i).d) ((sgi l i).b*100000000000) (jn (sgi l i).f 0 0) ((sgi l i).r*100000000000) (endS l day off i) (untS l day i)),(34,vP (pb E1 0) 0),(35,vI d),(36,vP (pb E8 2) 13),(37,vI (untS l day i)),(38,bF),(39,vPc ((sgi l i).d) ((sgi l i).b*100000000000) (jn (sgi l i).f 0 0) ((sgi l i).r*100000000000) (endS l day off i) (untS l day i)),(40,vL d s a),(41,vW (jn d s a)),(42,vW (fS (sgi l i) (jn d s a))),(43,vP (pb E1 0) 1),(44,vI s),(45,bF),(46,bF),(47,undef),(48,undef),(49,undef),(50,undef),(51,undef),(52,undef),(53,bF),(54,bF),(55,vW (fS (sgi l i) (jn d s a))),(56,vP (pb E8 2) 11),(57,vW (endS l day off i)),(58,vI (cmpZ (fS (sgi l i) (jn d s a)) (endS l day off i))),(59,bF),(60,bF)]) (hs:=c_ (fa0 (vP (pb E1 0) 0))<|c_ (ld_ 0 (hrd:=by exact rd3 rfl))<|c_ (bi0 (vI s) (vI 86400) (h:=by intro env w;simp [go_sem,e1]))<|c_ mv_<|c_ off_<|c_ off_<|c_ off_<|c_ off_<|c_ off_<|c_ off_<|c_ (pk0 bF undef bF)<|c_ mv_<|c_ (ld_ 3 (hrd:=by exact rd34 rfl rfl))<|c_ (fa0 (vP (pb E8 2) 0))<|c_ (ld_ 2 (hrd:=by exact rd34 rfl rfl))<|c_ (cl_ Tryz.func106 (h:=fun env=>⟨_,(wcmpZ (fS (sgi l i) (jn d s a)) (endS l day off i) (by unfold InW at *;omega) (by unfold InW;omega)),rfl⟩))<|c_ (bi0 (vI (cmpZ (fS (sgi l i) (jn d s a)) (endS l day off i))) (vI 0) (h:=by intro env w;(first | (simp [go_sem,cmpZ_le,cmpZ_lt,cmpZ_ge,cmpZ_gt,e3];done) | (simp [go_sem,cmpZ_le,cmpZ_lt,cmpZ_ge,cmpZ_gt];omega))))<|c_ (pk0 bF bT bF (h:=by intro env w;(first | (simp [go_sem,cmpZ_le,cmpZ_lt,cmpZ_ge,cmpZ_gt,e3];done) | (simp [go_sem,cmpZ_le,cmpZ_lt,cmpZ_ge,cmpZ_gt];omega))))<|e_) (k:=fun E11 ac wd h_11=>?_)
 clear h_10
 refine then_n ?_
 refine wp_cond_false (eval_tmp (h_11.g (t:=60) rfl)) ?_
 refine wp_skip (then_n (wp_seq ?_))
 refine rg_ h_11 (tri 3) [K_ (vW (fS (sgi l i) (jn d s a))),none,K_ (vI 0)] (fun E12=>[(3,vP (pb E1 0) 0),(4,vP (pb E1 1) 0),(5,vI 0),(7,vP (pb E8 2) 0),(8,vP (pb E10 4) 0),(28,.slice ((some ⟨g,0,none⟩)) l.length c),(29,vN l.length),(30,vN i),(31,bT),(32,elt (.slice ((some ⟨g,0,none⟩)) l.length c) (i*14)),(33,vPc ((sgi l i).d) ((sgi l i).b*100000000000) (jn (sgi l i).f 0 0) ((sgi l i).r*100000000000) (endS l day off i) (untS l day i)),(34,vP (pb E1 0) 0),(35,vI d),(36,vP (pb E8 2) 13),(37,vI (untS l day i)),(38,bF),(39,vPc ((sgi l i).d) ((sgi l i).b*100000000000) (jn (sgi l i).f 0 0) ((sgi l i).r*100000000000) (endS l day off i) (untS l day i)),(40,vL d s a),(41,vW (jn d s a)),(42,vW (fS (sgi l i) (jn d s a))),(43,vP (pb E1 0) 1),(44,vI s),(45,bF),(46,bF),(47,undef),(48,undef),(49,undef),(50,undef),(51,undef),(52,undef),(53,bF),(54,bF),(55,vW (fS (sgi l i) (jn d s a))),(56,vP (pb E8 2) 11),(57,vW (endS l day off i)),(58,vI (cmpZ (fS (sgi l i) (jn d s a)) (endS l day off i))),(59,bF),(60,bF),(62,vW (fS (sgi l i) (jn d s a)))]) (S:=[⟨1,1,fun _=>[vI (hi (fS (sgi l i) (jn d s a))),.int .u64 (lo (fS (sgi l i) (jn d s a)))]⟩]) (M':=fun E12=>[((pb E1 0),26,[vI d,vI s,vI a]),((pb E1 1),34,[vI (hi (fS (sgi l i) (jn d s a))),.int .u64 (lo (fS (sgi l i) (jn d s a)))]),((pb E8 2),130,[vI ((sgi l i).d),vI (hi ((sgi l i).b*100000000000)),.int .u64 (lo ((sgi l i).b*100000000000)),vI (hi (jn (sgi l i).f 0 0)),.int .u64 (lo (jn (sgi l i).f 0 0)),vI (hi (dayA)),.int .u64 (lo (dayA)),vI (hi (dayA+(sgi l i).r*100000000000)),.int .u64 (lo (dayA+(sgi l i).r*100000000000)),vI (hi ((sgi l i).r*100000000000)),.int .u64 (lo ((sgi l i).r*100000000000)),vI (hi (endS l day off i)),.int .u64 (lo (endS l day off i)),vI (untS l day i)]),((pb E10 4),34,[vI (hi (fS (sgi l i) (jn d s a))),.int .u64 (lo (fS (sgi l i) (jn d s a)))])]) (hs:=c_ (ld_ 3 (hrd:=by exact rd34 rfl rfl))<|c_ (se_ 1 (hst:=by exact fun _ _ _ hc=>st34 rfl rfl rfl hc))<|c_ mv_<|e_) (k:=fun E12 ac wd h_12=>?_)
 clear h_11
 refine then_n (wp_ret (blk_ret (then_ret (then_ret (blk_ret (then_ret (sc_r ?_)))))))
 have s4:=h_12.g (t:=4) rfl
 have hc4:=(h_12.st.own 1 _ rfl).2
 have c4_0:=own_cell (o:=0) hc4 rfl
 have c4_1:=own_cell (o:=1) hc4 rfl
 have s5:=h_12.g (t:=5) rfl
 refine leave (v:=vT2 (vW (fS (sgi l i) (jn d s a))) (vI 0)) h_12.df (by simp [results,Tryz.results72,go_sem,Array.getD_eq_getD_getElem?,s4,c4_0,c4_1,Tryz.underlying34,s5]) ?_
 have hE2:taiE l day off d s a=0:=by unfold taiE;rw [if_neg (by rw [hfb];simp),if_neg g1,if_neg (by omega),← hk,if_neg (by omega)]
 have hV2:taiV l day off d s a=fS (sgi l i) (jn d s a):=by unfold taiV;rw [if_pos hE2,← hk]
 exact ⟨by first | (rw [hE2,hV2];done) | (rw [hE2,hV2];rfl),h_12.st.below⟩
 obtain rfl:i=l.length:=by omega
 refine rg_ h_6 [[0]] [K_ bF] (fun E7=>[(3,vP (pb E1 0) 0),(4,vP (pb E1 1) 0),(28,.slice ((some ⟨g,0,none⟩)) l.length c),(29,vN l.length),(30,vN l.length),(31,bF)]) (hs:=c_ (bi0 (vN l.length) (vN l.length))<|e_) (k:=fun E7 ac wd h_7=>?_)
 clear h_6
 refine then_n (wp_seq ?_)
 refine wp_cond_false (eval_tmp (h_7.g (t:=31) rfl)) ?_
 refine wp_exit (then_e (then_e (blk_x (then_n (wp_seq ?_)))))
 refine rg_ h_7 (tri 3) [K_ (.agg #[vI 0,.int .u64 0]),none,K_ (vI 9)] (fun E8=>[(4,vP (pb E1 1) 0),(5,vI 9)]) (S:=[⟨1,1,fun _=>[vI 0,.int .u64 0]⟩]) (M':=fun E8=>[((pb E1 0),26,[vI d,vI s,vI a]),((pb E1 1),34,[vI 0,.int .u64 0])]) (hs:=c_ (bd0 ([]))<|c_ (se_ 1 (hst:=by exact fun _ _ _ hc=>st34 rfl rfl rfl hc))<|c_ mv_<|e_) (k:=fun E8 ac wd h_8=>?_)
 clear h_7
 refine then_n (wp_ret (sc_r ?_))
 have s4:=h_8.g (t:=4) rfl
 have hc4:=(h_8.st.own 1 _ rfl).2
 have c4_0:=own_cell (o:=0) hc4 rfl
 have c4_1:=own_cell (o:=1) hc4 rfl
 have s5:=h_8.g (t:=5) rfl
 refine leave (v:=vT2 (.agg #[vI 0,.int .u64 0]) (vI 9)) h_8.df (by simp [results,Tryz.results72,go_sem,Array.getD_eq_getD_getElem?,s4,c4_0,c4_1,Tryz.underlying34,s5]) ?_
 have hE2:taiE l day off d s a=9:=by have hday:day≤d:=(by have:=hi2 (l.length-1) (by omega);unfold untS at this;rw [if_neg (by omega)] at this;exact this);unfold taiE;rw [if_neg (by rw [hfb];simp),if_neg g1,if_pos hday]
 have hV2:taiV l day off d s a=0:=by unfold taiV;rw [if_neg (by rw [hE2];omega)]
 exact ⟨by first | (rw [hE2,hV2];done) | (rw [hE2,hV2];rfl),h_8.st.below⟩
theorem label_any (w0:World) (b g c:Nat) (l:List Sg) (day off:Int) (hR:RubA w0 b g c l day off) (hL:LOk l day off) (t:Int) (ht:InW t):Calls Tryz.prog 86 #[vP b 0,vW t] w0 fun e w'=>e = .returned (vT2 (vL (labD l day off t) (labS l day off t) (labA l day off t)) (vI (labE l day off t)))∧Below w0.heap.size w0 w':=by
 have n0:=hL.n0;have n1:=hL.n1;have y0:=hL.y0;have y1:=hL.y1;have o0:=hL.o0;have o1:=hL.o1
 have hs0:=hL.seg 0 n0;have f0:=hs0.d0;have f1:=hs0.d1;have hb0:=begS_bd hL n0
 have hn0:Near (jn (sgi l 0).d 0 0):=(cn_jn (by omega) (by omega) (by omega) (by omega) (by omega) (by omega)).near
 have hst:=St.start w0 (Θ:=fun _=>True) (fun _ _=>trivial)
 refine enter Tryz.func86 rfl (n:=48) rfl (Nat.le_of_ble_eq_true rfl) hst (L:=[(0,vP b 0),(1,vW t)]) (lk_args rfl) (fun ac h=>?_)
 refine wp_seq ?_
 refine rg_ h [[0],[1],[2]] [KE_ fun env=>vP (pb env 0) 0,KE_ fun env=>vP (pb env 1) 0,K_ (vI 0)] (fun E1=>[(0,vP b 0),(3,vP (pb E1 0) 0),(4,vP (pb E1 1) 0),(5,vI 0)]) (W:=[{ i:=0,T:=34,c0:=[vI (hi (t)),.int .u64 (lo (t))] },{ i:=1,T:=26,c0:=[vI 0,vI 0,vI 0] }]) (M':=fun E1=>[((pb E1 0),34,[vI (hi (t)),.int .u64 (lo (t))]),((pb E1 1),26,[vI 0,vI 0,vI 0])]) (hs:=c_ (bx0 0 (vW t))<|c_ (al_ 1)<|c_ mv_<|e_) (k:=fun E1 ac wd h_1=>?_)
 clear h
 refine then_n (wp_seq (wp_seq ?_))
 refine rg_ h_1 [[0],[0,1]] [K_ (vP b 0),K_ bF] (fun E2=>[(0,vP b 0),(3,vP (pb E1 0) 0),(4,vP (pb E1 1) 0),(5,vI 0),(10,bF)]) (hs:=c_ mv_<|c_ (bi0 (vP b 0) (.pointer none))<|e_) (k:=fun E2 ac wd h_2=>?_)
 clear h_1
 refine then_n ?_
 refine wp_cond_false (eval_tmp (h_2.g (t:=10) rfl)) ?_
 refine wp_skip (then_n (wp_seq ?_))
 refine rg_ h_2 [[0],[0,1],[0,1,2],r_ 4,r_ 5,r_ 6,[6],r_ 8] [K_ (vP b 0),K_ (vP b 0),K_ (vP b 0),K_ (.slice ((some ⟨g,0,none⟩)) l.length c),K_ (elt (.slice ((some ⟨g,0,none⟩)) l.length c) (0*14)),K_ (vPc ((sgi l 0).d) ((sgi l 0).b*100000000000) (jn (sgi l 0).f 0 0) ((sgi l 0).r*100000000000) (endS l day off 0) (untS l day 0)),KE_ fun env=>vP (pb env 6) 0,none] (fun E3=>[(0,vP b 0),(3,vP (pb E1 0) 0),(4,vP (pb E1 1) 0),(5,vI 0),(6,vP (pb E3 6) 0)]) (W:=[{ i:=6,T:=130,c0:=[vI 0,vI 0,.int .u64 0,vI 0,.int .u64 0,vI 0,.int .u64 0,vI 0,.int .u64 0,vI 0,.int .u64 0,vI 0,.int .u64 0,vI 0],s:=some 7,c1:=fun _=>[vI ((sgi l 0).d),vI (hi ((sgi l 0).b*100000000000)),.int .u64 (lo ((sgi l 0).b*100000000000)),vI (hi (jn (sgi l 0).f 0 0)),.int .u64 (lo (jn (sgi l 0).f 0 0)),vI (hi (dayA)),.int .u64 (lo (dayA)),vI (hi (dayA+(sgi l 0).r*100000000000)),.int .u64 (lo (dayA+(sgi l 0).r*100000000000)),vI (hi ((sgi l 0).r*100000000000)),.int .u64 (lo ((sgi l 0).r*100000000000)),vI (hi (endS l day off 0)),.int .u64 (lo (endS l day off 0)),vI (untS l day 0)] }]) (M':=fun E3=>[((pb E1 0),34,[vI (hi (t)),.int .u64 (lo (t))]),((pb E1 1),26,[vI 0,vI 0,vI 0]),((pb E3 6),130,[vI ((sgi l 0).d),vI (hi ((sgi l 0).b*100000000000)),.int .u64 (lo ((sgi l 0).b*100000000000)),vI (hi (jn (sgi l 0).f 0 0)),.int .u64 (lo (jn (sgi l 0).f 0 0)),vI (hi (dayA)),.int .u64 (lo (dayA)),vI (hi (dayA+(sgi l 0).r*100000000000)),.int .u64 (lo (dayA+(sgi l 0).r*100000000000)),vI (hi ((sgi l 0).r*100000000000)),.int .u64 (lo ((sgi l 0).r*100000000000)),vI (hi (endS l day off 0)),.int .u64 (lo (endS l day off 0)),vI (untS l day 0)])]) (hs:=c_ mv_<|c_ (nc0 (vP b 0))<|c_ (fa0 (vP b 0))<|c_ (by refine s_v rfl rfl rfl rfl (fun {D env ac wd} hA=>?_);have e14:ac.tmps[14]? = some (vP b 0):=hA.g rfl;have hc:=(hR.grown hA.j.st.gr).cell;simp [go_sem,e14,hc])<|c_ (ia_ Tryz.underlying124 sz130 0 (0*14) 0 (fun _ env _ wd hA=>(hR.grown hA.j.st.gr).els) (rfl) (by omega) rfl)<|c_ (le_ (0*14) (fun _ env _ wd hA=>(hR.grown hA.j.st.gr).els) (by omega) (le130 (by exact pcC_at l day off 0 0 (by omega)) (by exact pcC_at l day off 0 1 (by omega)) (by exact pcC_at l day off 0 2 (by omega)) (by exact pcC_at l day off 0 3 (by omega)) (by exact pcC_at l day off 0 4 (by omega)) (by exact pcC_at l day off 0 5 (by omega)) (by exact pcC_at l day off 0 6 (by omega)) (by exact pcC_at l day off 0 7 (by omega)) (by exact pcC_at l day off 0 8 (by omega)) (by exact pcC_at l day off 0 9 (by omega)) (by exact pcC_at l day off 0 10 (by omega)) (by exact pcC_at l day off 0 11 (by omega)) (by exact pcC_at l day off 0 12 (by omega)) (by exact pcC_at l day off 0 13 (by omega))))<|c_ (al_ 2)<|c_ (sw_ 2 6 (hst:=by exact fun _ _ _ hc=>st130 rfl rfl rfl rfl rfl rfl rfl rfl rfl rfl rfl rfl rfl rfl rfl hc))<|e_) (k:=fun E3 ac wd h_3=>?_)
 clear h_2
 refine then_n (wp_seq (wp_seq ?_))
 by_cases g1:t < begS l 0
 refine rg_ h_3 [[0],[1],[2],[2,3],[2,3,4],[1,2,3,4,5],r_ 7,r_ 8] [K_ (vW t),K_ (vPc ((sgi l 0).d) ((sgi l 0).b*100000000000) (jn (sgi l 0).f 0 0) ((sgi l 0).r*100000000000) (endS l day off 0) (untS l day 0)),K_ (vP (pb E3 6) 0),K_ (vI ((sgi l 0).d)),K_ (vW (jn (sgi l 0).d 0 0)),K_ (vW (begS l 0)),K_ (vI (cmpZ t (begS l 0))),K_ bT] (fun E4=>[(0,vP b 0),(3,vP (pb E1 0) 0),(4,vP (pb E1 1) 0),(5,vI 0),(25,bT)]) (hs:=c_ (ld_ 0 (hrd:=by exact rd34 rfl rfl))<|c_ (ld_ 2 (hrd:=by exact rd130 rfl rfl rfl rfl rfl rfl rfl rfl rfl rfl rfl rfl rfl rfl))<|c_ (fa0 (vP (pb E3 6) 0))<|c_ (ld_ 2 (hrd:=by exact rd3 rfl))<|c_ (cl_ Tryz.func69 (h:=fun env=>⟨_,(begin_any (sgi l 0).d (by omega) (by omega)),rfl⟩))<|c_ (cl_ Tryz.func68 (h:=fun env=>⟨_,(pat_any (sgi l 0).d ((sgi l 0).b*100000000000) (jn (sgi l 0).f 0 0) ((sgi l 0).r*100000000000) (endS l day off 0) (untS l day 0) (jn (sgi l 0).d 0 0) hs0.pc hn0),rfl⟩))<|c_ (cl_ Tryz.func106 (h:=fun env=>⟨_,(wcmpZ t (begS l 0) (by unfold InW at *;omega) (by unfold InW;omega)),rfl⟩))<|c_ (bi0 (vI (cmpZ t (begS l 0))) (vI 0) (h:=by intro env w;(first | (simp [go_sem,cmpZ_le,cmpZ_lt,cmpZ_ge,cmpZ_gt,g1];done) | (simp [go_sem,cmpZ_le,cmpZ_lt,cmpZ_ge,cmpZ_gt];omega))))<|e_) (k:=fun E4 ac wd h_4=>?_)
 clear h_3
 refine then_n ?_
 refine wp_cond_true (eval_tmp (h_4.g (t:=25) rfl)) ?_
 refine wp_seq ?_
 refine rg_ h_4 (tri 3) [K_ (vL 0 0 0),none,K_ (vI 8)] (fun E5=>[(0,vP b 0),(3,vP (pb E1 0) 0),(4,vP (pb E1 1) 0),(5,vI 8)]) (S:=[⟨1,1,fun _=>[vI 0,vI 0,vI 0]⟩]) (M':=fun E5=>[((pb E1 0),34,[vI (hi (t)),.int .u64 (lo (t))]),((pb E1 1),26,[vI 0,vI 0,vI 0]),((pb E3 6),130,[vI ((sgi l 0).d),vI (hi ((sgi l 0).b*100000000000)),.int .u64 (lo ((sgi l 0).b*100000000000)),vI (hi (jn (sgi l 0).f 0 0)),.int .u64 (lo (jn (sgi l 0).f 0 0)),vI (hi (dayA)),.int .u64 (lo (dayA)),vI (hi (dayA+(sgi l 0).r*100000000000)),.int .u64 (lo (dayA+(sgi l 0).r*100000000000)),vI (hi ((sgi l 0).r*100000000000)),.int .u64 (lo ((sgi l 0).r*100000000000)),vI (hi (endS l day off 0)),.int .u64 (lo (endS l day off 0)),vI (untS l day 0)])]) (hs:=c_ (bd0 ([]))<|c_ (se_ 1 (hst:=by exact fun _ _ _ hc=>st26 rfl rfl rfl rfl hc))<|c_ mv_<|e_) (k:=fun E5 ac wd h_5=>?_)
 clear h_4
 refine then_n (wp_ret (then_ret ?_))
 have s4:=h_5.g (t:=4) rfl
 have hc4:=(h_5.st.own 1 _ rfl).2
 have c4_0:=own_cell (o:=0) hc4 rfl
 have c4_1:=own_cell (o:=1) hc4 rfl
 have c4_2:=own_cell (o:=2) hc4 rfl
 have s5:=h_5.g (t:=5) rfl
 refine leave (v:=vT2 (vL 0 0 0) (vI 8)) h_5.df (by simp [results,Tryz.results86,go_sem,Array.getD_eq_getD_getElem?,s4,c4_0,c4_1,c4_2,Tryz.underlying26,s5]) ?_
 obtain ⟨q1,q2,q3,q4⟩:=lab_early (day:=day) (off:=off) g1
 exact ⟨by rw [q1,q2,q3,q4],h_5.st.below⟩
 refine rg_ h_3 [[0],[1],[2],[2,3],[2,3,4],[1,2,3,4,5],r_ 7,r_ 8] [K_ (vW t),K_ (vPc ((sgi l 0).d) ((sgi l 0).b*100000000000) (jn (sgi l 0).f 0 0) ((sgi l 0).r*100000000000) (endS l day off 0) (untS l day 0)),K_ (vP (pb E3 6) 0),K_ (vI ((sgi l 0).d)),K_ (vW (jn (sgi l 0).d 0 0)),K_ (vW (begS l 0)),K_ (vI (cmpZ t (begS l 0))),K_ bF] (fun E4=>[(0,vP b 0),(3,vP (pb E1 0) 0),(4,vP (pb E1 1) 0),(5,vI 0),(25,bF)]) (hs:=c_ (ld_ 0 (hrd:=by exact rd34 rfl rfl))<|c_ (ld_ 2 (hrd:=by exact rd130 rfl rfl rfl rfl rfl rfl rfl rfl rfl rfl rfl rfl rfl rfl))<|c_ (fa0 (vP (pb E3 6) 0))<|c_ (ld_ 2 (hrd:=by exact rd3 rfl))<|c_ (cl_ Tryz.func69 (h:=fun env=>⟨_,(begin_any (sgi l 0).d (by omega) (by omega)),rfl⟩))<|c_ (cl_ Tryz.func68 (h:=fun env=>⟨_,(pat_any (sgi l 0).d ((sgi l 0).b*100000000000) (jn (sgi l 0).f 0 0) ((sgi l 0).r*100000000000) (endS l day off 0) (untS l day 0) (jn (sgi l 0).d 0 0) hs0.pc hn0),rfl⟩))<|c_ (cl_ Tryz.func106 (h:=fun env=>⟨_,(wcmpZ t (begS l 0) (by unfold InW at *;omega) (by unfold InW;omega)),rfl⟩))<|c_ (bi0 (vI (cmpZ t (begS l 0))) (vI 0) (h:=by intro env w;(first | (simp [go_sem,cmpZ_le,cmpZ_lt,cmpZ_ge,cmpZ_gt,g1];done) | (simp [go_sem,cmpZ_le,cmpZ_lt,cmpZ_ge,cmpZ_gt];omega))))<|e_) (k:=fun E4 ac wd h_4=>?_)
 clear h_3
 refine then_n ?_
 refine wp_cond_false (eval_tmp (h_4.g (t:=25) rfl)) ?_
 refine wp_skip (then_n (wp_seq (wp_seq ?_)))
 refine rg_ h_4 [[0],[0,1],[0,1,2],r_ 4,r_ 5,[5]] [K_ (vP b 0),K_ (vP b 0),K_ (vP b 0),K_ (.slice ((some ⟨g,0,none⟩)) l.length c),K_ (vN l.length),K_ (vI 0)] (fun E5=>[(3,vP (pb E1 0) 0),(4,vP (pb E1 1) 0),(5,vI 0),(30,.slice ((some ⟨g,0,none⟩)) l.length c),(31,vN l.length),(32,vI 0)]) (hs:=c_ mv_<|c_ (nc0 (vP b 0))<|c_ (fa0 (vP b 0))<|c_ (by refine s_v rfl rfl rfl rfl (fun {D env ac wd} hA=>?_);have e29:ac.tmps[29]? = some (vP b 0):=hA.g rfl;have hc:=(hR.grown hA.j.st.gr).cell;simp [go_sem,e29,hc])<|c_ (ln_ Tryz.underlying124 fun _ env _ wd hA=>(hR.grown hA.j.st.gr).els)<|c_ mv_<|e_) (k:=fun E5 ac wd h_5=>?_)
 clear h_4
 refine then_n (wp_block ?_)
 refine wp_loop (fun ac wd=>∃ i:Nat,(i≤l.length∧∀ j,j < i→endS l day off j≤t)∧Cur 48 w0 none none (fun _=>True) (fun _=>True) [(3,vP (pb E1 0) 0),(4,vP (pb E1 1) 0),(30,.slice ((some ⟨g,0,none⟩)) l.length c),(31,vN l.length),(32,vN i)] [((pb E1 0),34,[vI (hi (t)),.int .u64 (lo (t))]),((pb E1 1),26,[vI 0,vI 0,vI 0]),((pb E3 6),130,[vI ((sgi l 0).d),vI (hi ((sgi l 0).b*100000000000)),.int .u64 (lo ((sgi l 0).b*100000000000)),vI (hi (jn (sgi l 0).f 0 0)),.int .u64 (lo (jn (sgi l 0).f 0 0)),vI (hi (dayA)),.int .u64 (lo (dayA)),vI (hi (dayA+(sgi l 0).r*100000000000)),.int .u64 (lo (dayA+(sgi l 0).r*100000000000)),vI (hi ((sgi l 0).r*100000000000)),.int .u64 (lo ((sgi l 0).r*100000000000)),vI (hi (endS l day off 0)),.int .u64 (lo (endS l day off 0)),vI (untS l day 0)])] ac wd) (fun ac _=>((l.length:Int)-sI ac 32).toNat) ⟨0,⟨by omega,fun j hj=>by omega⟩,(h_5.re rfl).th (fun _ h=>h)⟩ ?_
 rintro ac wd ⟨i,⟨hi1,hi2⟩,h_6⟩
 clear h_5
 have hmu:sI ac 32=((i:Nat):Int):=sI_eq (h_6.g (t:=32) rfl)
 refine wp_seq ?_
 by_cases h1:i < l.length
 have hs:=hL.seg i h1;have hE:=hL.end_bd h1;have hB:=begS_bd hL hL.n0;have hun:=hL.unt_day h1;have hun2:=hL.unt_ge h1
 refine rg_ h_6 [[0]] [K_ bT] (fun E7=>[(3,vP (pb E1 0) 0),(4,vP (pb E1 1) 0),(30,.slice ((some ⟨g,0,none⟩)) l.length c),(31,vN l.length),(32,vN i),(33,bT)]) (hs:=c_ (bi0 (vN i) (vN l.length))<|e_) (k:=fun E7 ac wd h_7=>?_)
 clear h_6
 refine then_n (wp_seq ?_)
 refine wp_cond_true (eval_tmp (h_7.g (t:=33) rfl)) ?_
 refine wp_skip (then_n (wp_seq (wp_block (wp_seq ?_))))
 refine rg_ h_7 [[0],[0,1],[2],r_ 4] [K_ (elt (.slice ((some ⟨g,0,none⟩)) l.length c) (i*14)),K_ (vPc ((sgi l i).d) ((sgi l i).b*100000000000) (jn (sgi l i).f 0 0) ((sgi l i).r*100000000000) (endS l day off i) (untS l day i)),KE_ fun env=>vP (pb env 2) 0,none] (fun E8=>[(3,vP (pb E1 0) 0),(4,vP (pb E1 1) 0),(8,vP (pb E8 2) 0),(30,.slice ((some ⟨g,0,none⟩)) l.length c),(31,vN l.length),(32,vN i),(33,bT),(34,elt (.slice ((some ⟨g,0,none⟩)) l.length c) (i*14)),(35,vPc ((sgi l i).d) ((sgi l i).b*100000000000) (jn (sgi l i).f 0 0) ((sgi l i).r*100000000000) (endS l day off i) (untS l day i))]) (W:=[{ i:=2,T:=130,c0:=[vI 0,vI 0,.int .u64 0,vI 0,.int .u64 0,vI 0,.int .u64 0,vI 0,.int .u64 0,vI 0,.int .u64 0,vI 0,.int .u64 0,vI 0],s:=some 3,c1:=fun _=>[vI ((sgi l i).d),vI (hi ((sgi l i).b*100000000000)),.int .u64 (lo ((sgi l i).b*100000000000)),vI (hi (jn (sgi l i).f 0 0)),.int .u64 (lo (jn (sgi l i).f 0 0)),vI (hi (dayA)),.int .u64 (lo (dayA)),vI (hi (dayA+(sgi l i).r*100000000000)),.int .u64 (lo (dayA+(sgi l i).r*100000000000)),vI (hi ((sgi l i).r*100000000000)),.int .u64 (lo ((sgi l i).r*100000000000)),vI (hi (endS l day off i)),.int .u64 (lo (endS l day off i)),vI (untS l day i)] }]) (M':=fun E8=>[((pb E1 0),34,[vI (hi (t)),.int .u64 (lo (t))]),((pb E1 1),26,[vI 0,vI 0,vI 0]),((pb E3 6),130,[vI ((sgi l 0).d),vI (hi ((sgi l 0).b*100000000000)),.int .u64 (lo ((sgi l 0).b*100000000000)),vI (hi (jn (sgi l 0).f 0 0)),.int .u64 (lo (jn (sgi l 0).f 0 0)),vI (hi (dayA)),.int .u64 (lo (dayA)),vI (hi (dayA+(sgi l 0).r*100000000000)),.int .u64 (lo (dayA+(sgi l 0).r*100000000000)),vI (hi ((sgi l 0).r*100000000000)),.int .u64 (lo ((sgi l 0).r*100000000000)),vI (hi (endS l day off 0)),.int .u64 (lo (endS l day off 0)),vI (untS l day 0)]),((pb E8 2),130,[vI ((sgi l i).d),vI (hi ((sgi l i).b*100000000000)),.int .u64 (lo ((sgi l i).b*100000000000)),vI (hi (jn (sgi l i).f 0 0)),.int .u64 (lo (jn (sgi l i).f 0 0)),vI (hi (dayA)),.int .u64 (lo (dayA)),vI (hi (dayA+(sgi l i).r*100000000000)),.int .u64 (lo (dayA+(sgi l i).r*100000000000)),vI (hi ((sgi l i).r*100000000000)),.int .u64 (lo ((sgi l i).r*100000000000)),vI (hi (endS l day off i)),.int .u64 (lo (endS l day off i)),vI (untS l day i)])]) (hs:=c_ (ia_ Tryz.underlying124 sz130 i (i*14) ((i:Nat):Int) (fun _ env _ wd hA=>(hR.grown hA.j.st.gr).els) (rfl) (by omega) rfl)<|c_ (le_ (i*14) (fun _ env _ wd hA=>(hR.grown hA.j.st.gr).els) (by omega) (le130 (by exact pcC_at l day off i 0 (by omega)) (by exact pcC_at l day off i 1 (by omega)) (by exact pcC_at l day off i 2 (by omega)) (by exact pcC_at l day off i 3 (by omega)) (by exact pcC_at l day off i 4 (by omega)) (by exact pcC_at l day off i 5 (by omega)) (by exact pcC_at l day off i 6 (by omega)) (by exact pcC_at l day off i 7 (by omega)) (by exact pcC_at l day off i 8 (by omega)) (by exact pcC_at l day off i 9 (by omega)) (by exact pcC_at l day off i 10 (by omega)) (by exact pcC_at l day off i 11 (by omega)) (by exact pcC_at l day off i 12 (by omega)) (by exact pcC_at l day off i 13 (by omega))))<|c_ (al_ 3)<|c_ (sw_ 3 2 (hst:=by exact fun _ _ _ hc=>st130 rfl rfl rfl rfl rfl rfl rfl rfl rfl rfl rfl rfl rfl rfl rfl hc))<|e_) (k:=fun E8 ac wd h_8=>?_)
 clear h_7
 refine then_n (wp_seq ?_)
 by_cases hc:endS l day off i≤t
 refine rg_ h_8 [[0],[1],[1,2],r_ 4,r_ 5] [K_ (vW t),K_ (vP (pb E8 2) 11),K_ (vW (endS l day off i)),K_ (vI (cmpZ t (endS l day off i))),K_ bF] (fun E9=>[(3,vP (pb E1 0) 0),(4,vP (pb E1 1) 0),(8,vP (pb E8 2) 0),(30,.slice ((some ⟨g,0,none⟩)) l.length c),(31,vN l.length),(32,vN i),(33,bT),(34,elt (.slice ((some ⟨g,0,none⟩)) l.length c) (i*14)),(35,vPc ((sgi l i).d) ((sgi l i).b*100000000000) (jn (sgi l i).f 0 0) ((sgi l i).r*100000000000) (endS l day off i) (untS l day i)),(36,vW t),(37,vP (pb E8 2) 11),(38,vW (endS l day off i)),(39,vI (cmpZ t (endS l day off i))),(40,bF)]) (hs:=c_ (ld_ 0 (hrd:=by exact rd34 rfl rfl))<|c_ (fa0 (vP (pb E8 2) 0))<|c_ (ld_ 3 (hrd:=by exact rd34 rfl rfl))<|c_ (cl_ Tryz.func106 (h:=fun env=>⟨_,(wcmpZ t (endS l day off i) (by unfold InW at *;omega) (by unfold InW;omega)),rfl⟩))<|c_ (bi0 (vI (cmpZ t (endS l day off i))) (vI 0) (h:=by intro env w;(first | (simp [go_sem,cmpZ_le,cmpZ_lt,cmpZ_ge,cmpZ_gt,hc];done) | (simp [go_sem,cmpZ_le,cmpZ_lt,cmpZ_ge,cmpZ_gt];omega))))<|e_) (k:=fun E9 ac wd h_9=>?_)
 clear h_8
 refine then_n ?_
 refine wp_cond_false (eval_tmp (h_9.g (t:=40) rfl)) ?_
 refine wp_skip (blk_n (then_n ?_))
 refine rg_ h_9 [[0],[0,1]] [K_ (vI (((i:Nat):Int)+1)),K_ (vI (((i:Nat):Int)+1))] (fun E10=>[(3,vP (pb E1 0) 0),(4,vP (pb E1 1) 0),(8,vP (pb E8 2) 0),(30,.slice ((some ⟨g,0,none⟩)) l.length c),(31,vN l.length),(32,vI (((i:Nat):Int)+1)),(33,bT),(34,elt (.slice ((some ⟨g,0,none⟩)) l.length c) (i*14)),(35,vPc ((sgi l i).d) ((sgi l i).b*100000000000) (jn (sgi l i).f 0 0) ((sgi l i).r*100000000000) (endS l day off i) (untS l day i)),(36,vW t),(37,vP (pb E8 2) 11),(38,vW (endS l day off i)),(39,vI (cmpZ t (endS l day off i))),(40,bF),(46,vI (((i:Nat):Int)+1))]) (hs:=c_ (bi0 (vN i) (vI 1))<|c_ mv_<|e_) (k:=fun E10 ac wd h_10=>?_)
 clear h_9
 refine then_n ?_
 exact ⟨⟨i+1,⟨by omega,steps_snoc (p:=fun j=>endS l day off j≤t) hi2 hc⟩,(h_10.take (M1:=[_,_,_]) rfl).re rfl⟩,by rw [sI_eq (h_10.g (t:=32) rfl),hmu];omega⟩
 have hG:=gS_bd hs (t:=t) (by omega) (by omega);have hnt:Near t:=(by unfold Near;omega);have hng:Near (gS (sgi l i) t):=(by unfold Near;omega)
 refine rg_ h_8 [[0],[1],[1,2],r_ 4,r_ 5] [K_ (vW t),K_ (vP (pb E8 2) 11),K_ (vW (endS l day off i)),K_ (vI (cmpZ t (endS l day off i))),K_ bT] (fun E9=>[(3,vP (pb E1 0) 0),(4,vP (pb E1 1) 0),(8,vP (pb E8 2) 0),(30,.slice ((some ⟨g,0,none⟩)) l.length c),(31,vN l.length),(32,vN i),(33,bT),(34,elt (.slice ((some ⟨g,0,none⟩)) l.length c) (i*14)),(35,vPc ((sgi l i).d) ((sgi l i).b*100000000000) (jn (sgi l i).f 0 0) ((sgi l i).r*100000000000) (endS l day off i) (untS l day i)),(36,vW t),(37,vP (pb E8 2) 11),(38,vW (endS l day off i)),(39,vI (cmpZ t (endS l day off i))),(40,bT)]) (hs:=c_ (ld_ 0 (hrd:=by exact rd34 rfl rfl))<|c_ (fa0 (vP (pb E8 2) 0))<|c_ (ld_ 3 (hrd:=by exact rd34 rfl rfl))<|c_ (cl_ Tryz.func106 (h:=fun env=>⟨_,(wcmpZ t (endS l day off i) (by unfold InW at *;omega) (by unfold InW;omega)),rfl⟩))<|c_ (bi0 (vI (cmpZ t (endS l day off i))) (vI 0) (h:=by intro env w;(first | (simp [go_sem,cmpZ_le,cmpZ_lt,cmpZ_ge,cmpZ_gt,hc];done) | (simp [go_sem,cmpZ_le,cmpZ_lt,cmpZ_ge,cmpZ_gt];omega))))<|e_) (k:=fun E9 ac wd h_9=>?_)
 clear h_8
 refine then_n ?_
 refine wp_cond_true (eval_tmp (h_9.g (t:=40) rfl)) ?_
 refine wp_seq ?_
 refine rg_ h_9 [[0],[1],[2],[1,2,3],r_ 5,r_ 6,r_ 7] [K_ (vPc ((sgi l i).d) ((sgi l i).b*100000000000) (jn (sgi l i).f 0 0) ((sgi l i).r*100000000000) (endS l day off i) (untS l day i)),K_ (vPc ((sgi l i).d) ((sgi l i).b*100000000000) (jn (sgi l i).f 0 0) ((sgi l i).r*100000000000) (endS l day off i) (untS l day i)),K_ (vW t),K_ (vW (gS (sgi l i) t)),K_ (vL (lblD (untS l day i) (gS (sgi l i) t)) (lblS (untS l day i) (gS (sgi l i) t)) (splA (gS (sgi l i) t))),none,K_ (vI 0)] (fun E10=>[(3,vP (pb E1 0) 0),(4,vP (pb E1 1) 0),(5,vI 0),(8,vP (pb E8 2) 0),(30,.slice ((some ⟨g,0,none⟩)) l.length c),(31,vN l.length),(32,vN i),(33,bT),(34,elt (.slice ((some ⟨g,0,none⟩)) l.length c) (i*14)),(35,vPc ((sgi l i).d) ((sgi l i).b*100000000000) (jn (sgi l i).f 0 0) ((sgi l i).r*100000000000) (endS l day off i) (untS l day i)),(36,vW t),(37,vP (pb E8 2) 11),(38,vW (endS l day off i)),(39,vI (cmpZ t (endS l day off i))),(40,bT),(41,vPc ((sgi l i).d) ((sgi l i).b*100000000000) (jn (sgi l i).f 0 0) ((sgi l i).r*100000000000) (endS l day off i) (untS l day i)),(42,vPc ((sgi l i).d) ((sgi l i).b*100000000000) (jn (sgi l i).f 0 0) ((sgi l i).r*100000000000) (endS l day off i) (untS l day i)),(43,vW t),(44,vW (gS (sgi l i) t)),(45,vL (lblD (untS l day i) (gS (sgi l i) t)) (lblS (untS l day i) (gS (sgi l i) t)) (splA (gS (sgi l i) t)))]) (S:=[⟨1,5,fun _=>[vI (lblD (untS l day i) (gS (sgi l i) t)),vI (lblS (untS l day i) (gS (sgi l i) t)),vI (splA (gS (sgi l i) t))]⟩]) (M':=fun E10=>[((pb E1 0),34,[vI (hi (t)),.int .u64 (lo (t))]),((pb E1 1),26,[vI (lblD (untS l day i) (gS (sgi l i) t)),vI (lblS (untS l day i) (gS (sgi l i) t)),vI (splA (gS (sgi l i) t))]),((pb E3 6),130,[vI ((sgi l 0).d),vI (hi ((sgi l 0).b*100000000000)),.int .u64 (lo ((sgi l 0).b*100000000000)),vI (hi (jn (sgi l 0).f 0 0)),.int .u64 (lo (jn (sgi l 0).f 0 0)),vI (hi (dayA)),.int .u64 (lo (dayA)),vI (hi (dayA+(sgi l 0).r*100000000000)),.int .u64 (lo (dayA+(sgi l 0).r*100000000000)),vI (hi ((sgi l 0).r*100000000000)),.int .u64 (lo ((sgi l 0).r*100000000000)),vI (hi (endS l day off 0)),.int .u64 (lo (endS l day off 0)),vI (untS l day 0)]),((pb E8 2),130,[vI ((sgi l i).d),vI (hi ((sgi l i).b*100000000000)),.int .u64 (lo ((sgi l i).b*100000000000)),vI (hi (jn (sgi l i).f 0 0)),.int .u64 (lo (jn (sgi l i).f 0 0)),vI (hi (dayA)),.int .u64 (lo (dayA)),vI (hi (dayA+(sgi l i).r*100000000000)),.int .u64 (lo (dayA+(sgi l i).r*100000000000)),vI (hi ((sgi l i).r*100000000000)),.int .u64 (lo ((sgi l i).r*100000000000)),vI (hi (endS l day off i)),.int .u64 (lo (endS l day off i)),vI (untS l day i)])]) (hs:=c_ (ld_ 3 (hrd:=by exact rd130 rfl rfl rfl rfl rfl rfl rfl rfl rfl rfl rfl rfl rfl rfl))<|c_ (ld_ 3 (hrd:=by exact rd130 rfl rfl rfl rfl rfl rfl rfl rfl rfl rfl rfl rfl rfl rfl))<|c_ (ld_ 0 (hrd:=by exact rd34 rfl rfl))<|c_ (cl_ Tryz.func120 (h:=fun env=>⟨_,(back_any (sgi l i).d ((sgi l i).b*100000000000) (jn (sgi l i).f 0 0) ((sgi l i).r*100000000000) (endS l day off i) (untS l day i) t hs.pc hnt),rfl⟩))<|c_ (cl_ Tryz.func119 (h:=fun env=>⟨_,((plabel_any (sgi l i).d ((sgi l i).b*100000000000) (jn (sgi l i).f 0 0) ((sgi l i).r*100000000000) (endS l day off i) (untS l day i) (gS (sgi l i) t) hng).eq (lbl_eq _ _)),rfl⟩))<|c_ (se_ 1 (hst:=by exact fun _ _ _ hc=>st26 rfl rfl rfl rfl hc))<|c_ mv_<|e_) (k:=fun E10 ac wd h_10=>?_)
 clear h_9
 refine then_n (wp_ret (blk_ret (then_ret (then_ret (blk_ret (then_ret ?_))))))
 have s4:=h_10.g (t:=4) rfl
 have hc4:=(h_10.st.own 1 _ rfl).2
 have c4_0:=own_cell (o:=0) hc4 rfl
 have c4_1:=own_cell (o:=1) hc4 rfl
 have c4_2:=own_cell (o:=2) hc4 rfl
 have s5:=h_10.g (t:=5) rfl
 refine leave (v:=vT2 (vL (lblD (untS l day i) (gS (sgi l i) t)) (lblS (untS l day i) (gS (sgi l i) t)) (splA (gS (sgi l i) t))) (vI 0)) h_10.df (by simp [results,Tryz.results86,go_sem,Array.getD_eq_getD_getElem?,s4,c4_0,c4_1,c4_2,Tryz.underlying26,s5]) ?_
 obtain ⟨q1,q2,q3,q4⟩:=lab_in g1 h1 hi2 (by omega:t < endS l day off i)
 exact ⟨by rw [q1,q2,q3,q4],h_10.st.below⟩
 obtain rfl:i=l.length:=by omega
 refine rg_ h_6 [[0]] [K_ bF] (fun E7=>[(3,vP (pb E1 0) 0),(4,vP (pb E1 1) 0),(30,.slice ((some ⟨g,0,none⟩)) l.length c),(31,vN l.length),(32,vN l.length),(33,bF)]) (hs:=c_ (bi0 (vN l.length) (vN l.length))<|e_) (k:=fun E7 ac wd h_7=>?_)
 clear h_6
 refine then_n (wp_seq ?_)
 refine wp_cond_false (eval_tmp (h_7.g (t:=33) rfl)) ?_
 refine wp_exit (then_e (then_e (blk_x (then_n (wp_seq ?_)))))
 refine rg_ h_7 (tri 3) [K_ (vL 0 0 0),none,K_ (vI 9)] (fun E8=>[(4,vP (pb E1 1) 0),(5,vI 9)]) (S:=[⟨1,1,fun _=>[vI 0,vI 0,vI 0]⟩]) (M':=fun E8=>[((pb E1 0),34,[vI (hi (t)),.int .u64 (lo (t))]),((pb E1 1),26,[vI 0,vI 0,vI 0]),((pb E3 6),130,[vI ((sgi l 0).d),vI (hi ((sgi l 0).b*100000000000)),.int .u64 (lo ((sgi l 0).b*100000000000)),vI (hi (jn (sgi l 0).f 0 0)),.int .u64 (lo (jn (sgi l 0).f 0 0)),vI (hi (dayA)),.int .u64 (lo (dayA)),vI (hi (dayA+(sgi l 0).r*100000000000)),.int .u64 (lo (dayA+(sgi l 0).r*100000000000)),vI (hi ((sgi l 0).r*100000000000)),.int .u64 (lo ((sgi l 0).r*100000000000)),vI (hi (endS l day off 0)),.int .u64 (lo (endS l day off 0)),vI (untS l day 0)])]) (hs:=c_ (bd0 ([]))<|c_ (se_ 1 (hst:=by exact fun _ _ _ hc=>st26 rfl rfl rfl rfl hc))<|c_ mv_<|e_) (k:=fun E8 ac wd h_8=>?_)
 clear h_7
 refine then_n (wp_ret ?_)
 have s4:=h_8.g (t:=4) rfl
 have hc4:=(h_8.st.own 1 _ rfl).2
 have c4_0:=own_cell (o:=0) hc4 rfl
 have c4_1:=own_cell (o:=1) hc4 rfl
 have c4_2:=own_cell (o:=2) hc4 rfl
 have s5:=h_8.g (t:=5) rfl
 refine leave (v:=vT2 (vL 0 0 0) (vI 9)) h_8.df (by simp [results,Tryz.results86,go_sem,Array.getD_eq_getD_getElem?,s4,c4_0,c4_1,c4_2,Tryz.underlying26,s5]) ?_
 obtain ⟨q1,q2,q3,q4⟩:=lab_late g1 hi2
 exact ⟨by rw [q1,q2,q3,q4],h_8.st.below⟩
end Go.Proofs.YtdfkghpgekmmlaaGreat
namespace Go.Proofs.YtdfkghpgekmmlaaGreat
open Go.RowKit
attribute [local go_sem] vN bT bF rS vSg vPc vW vM vL vT2 vT3 vP vI execOp Act.eval evC bigF vB hi_zero lo_zero Tryz.underlying130 Tryz.underlying26 Tryz.underlying34
theorem step1_any (l:List Sg) (day off:Int) (i:Nat) (hL:LOk l day off) (h1:i < l.length):Ret 105 #[vPc ((sgi l i).d) ((sgi l i).b*100000000000) (jn (sgi l i).f 0 0) ((sgi l i).r*100000000000) (endS l day off i) (untS l day i)] (.bool (!stB l day off i)):=by
 have hs:=hL.seg i h1;have hE:=hL.end_bd h1;have q1:=hL.unt_day h1;have q2:=hL.unt_ge h1;have y0:=hL.y0;have y1:=hL.y1
 have c1:=cn_jn (d:=untS l day i-1) (s:=0) (a:=0) (by omega) (by omega) (by omega) (by omega) (by omega) (by omega)
 have c2:=cn_jn (d:=untS l day i) (s:=1) (a:=0) (by omega) (by omega) (by omega) (by omega) (by omega) (by omega)
 have hn1:=c1.near;have hn2:=c2.near;have b1:=fS_bd hs c1;have b2:=fS_bd hs c2;unfold Cn at c1 c2
 intro w0
 have hst:=St.start w0 (Θ:=fun _=>True) (fun _ _=>trivial)
 refine enter Tryz.func105 rfl (n:=29) rfl (Nat.le_of_ble_eq_true rfl) hst (L:=[(0,vPc ((sgi l i).d) ((sgi l i).b*100000000000) (jn (sgi l i).f 0 0) ((sgi l i).r*100000000000) (endS l day off i) (untS l day i))]) (lk_args rfl) (fun ac h=>?_)
 refine wp_seq ?_
 refine rg_ h [[0],[1]] [KE_ fun env=>vP (pb env 0) 0,K_ bF] (fun E1=>[(1,vP (pb E1 0) 0),(2,bF)]) (W:=[{ i:=0,T:=130,c0:=[vI ((sgi l i).d),vI (hi ((sgi l i).b*100000000000)),.int .u64 (lo ((sgi l i).b*100000000000)),vI (hi (jn (sgi l i).f 0 0)),.int .u64 (lo (jn (sgi l i).f 0 0)),vI (hi (dayA)),.int .u64 (lo (dayA)),vI (hi (dayA+(sgi l i).r*100000000000)),.int .u64 (lo (dayA+(sgi l i).r*100000000000)),vI (hi ((sgi l i).r*100000000000)),.int .u64 (lo ((sgi l i).r*100000000000)),vI (hi (endS l day off i)),.int .u64 (lo (endS l day off i)),vI (untS l day i)] }]) (M':=fun E1=>[((pb E1 0),130,[vI ((sgi l i).d),vI (hi ((sgi l i).b*100000000000)),.int .u64 (lo ((sgi l i).b*100000000000)),vI (hi (jn (sgi l i).f 0 0)),.int .u64 (lo (jn (sgi l i).f 0 0)),vI (hi (dayA)),.int .u64 (lo (dayA)),vI (hi (dayA+(sgi l i).r*100000000000)),.int .u64 (lo (dayA+(sgi l i).r*100000000000)),vI (hi ((sgi l i).r*100000000000)),.int .u64 (lo ((sgi l i).r*100000000000)),vI (hi (endS l day off i)),.int .u64 (lo (endS l day off i)),vI (untS l day i)])]) (hs:=c_ (bx0 0 (vPc ((sgi l i).d) ((sgi l i).b*100000000000) (jn (sgi l i).f 0 0) ((sgi l i).r*100000000000) (endS l day off i) (untS l day i)))<|c_ mv_<|e_) (k:=fun E1 ac wd h_1=>?_)
 clear h
 refine then_n (wp_seq ?_)
 refine rg_ h_1 [[0],[1],[1,2],[1,2,3],[1,2,3,4],r_ 6,[6],r_ 8] [K_ (vPc ((sgi l i).d) ((sgi l i).b*100000000000) (jn (sgi l i).f 0 0) ((sgi l i).r*100000000000) (endS l day off i) (untS l day i)),K_ (vP (pb E1 0) 13),K_ (vI (untS l day i)),K_ (vI ((untS l day i)-1)),K_ (vW (jn ((untS l day i)-1) 0 0)),K_ (vW (fS (sgi l i) (jn ((untS l day i)-1) 0 0))),KE_ fun env=>vP (pb env 6) 0,none] (fun E2=>[(1,vP (pb E1 0) 0),(2,bF),(3,vP (pb E2 6) 0)]) (W:=[{ i:=6,T:=34,c0:=[vI 0,.int .u64 0],s:=some 7,c1:=fun _=>[vI (hi (fS (sgi l i) (jn ((untS l day i)-1) 0 0))),.int .u64 (lo (fS (sgi l i) (jn ((untS l day i)-1) 0 0)))] }]) (M':=fun E2=>[((pb E1 0),130,[vI ((sgi l i).d),vI (hi ((sgi l i).b*100000000000)),.int .u64 (lo ((sgi l i).b*100000000000)),vI (hi (jn (sgi l i).f 0 0)),.int .u64 (lo (jn (sgi l i).f 0 0)),vI (hi (dayA)),.int .u64 (lo (dayA)),vI (hi (dayA+(sgi l i).r*100000000000)),.int .u64 (lo (dayA+(sgi l i).r*100000000000)),vI (hi ((sgi l i).r*100000000000)),.int .u64 (lo ((sgi l i).r*100000000000)),vI (hi (endS l day off i)),.int .u64 (lo (endS l day off i)),vI (untS l day i)]),((pb E2 6),34,[vI (hi (fS (sgi l i) (jn ((untS l day i)-1) 0 0))),.int .u64 (lo (fS (sgi l i) (jn ((untS l day i)-1) 0 0)))])]) (hs:=c_ (ld_ 0 (hrd:=by exact rd130 rfl rfl rfl rfl rfl rfl rfl rfl rfl rfl rfl rfl rfl rfl))<|c_ (fa0 (vP (pb E1 0) 0))<|c_ (ld_ 0 (hrd:=by exact rd3 rfl))<|c_ (bi0 (vI (untS l day i)) (vI 1))<|c_ (cl_ Tryz.func69 (h:=fun env=>⟨_,(begin_any ((untS l day i)-1) (by omega) (by omega)),rfl⟩))<|c_ (cl_ Tryz.func68 (h:=fun env=>⟨_,(pat_any (sgi l i).d ((sgi l i).b*100000000000) (jn (sgi l i).f 0 0) ((sgi l i).r*100000000000) (endS l day off i) (untS l day i) (jn ((untS l day i)-1) 0 0) hs.pc hn1),rfl⟩))<|c_ (al_ 1)<|c_ (sw_ 1 6 (hst:=by exact fun _ _ _ hc=>st34 rfl rfl rfl hc))<|e_) (k:=fun E2 ac wd h_2=>?_)
 clear h_1
 refine then_n (wp_seq ?_)
 refine rg_ h_2 [[0],[1],[1,2],[1,2,3],[1,2,3,4],r_ 6,[6],r_ 8] [K_ (vPc ((sgi l i).d) ((sgi l i).b*100000000000) (jn (sgi l i).f 0 0) ((sgi l i).r*100000000000) (endS l day off i) (untS l day i)),K_ (vP (pb E1 0) 13),K_ (vI (untS l day i)),K_ (vL (untS l day i) 1 0),K_ (vW (jn (untS l day i) 1 0)),K_ (vW (fS (sgi l i) (jn (untS l day i) 1 0))),KE_ fun env=>vP (pb env 6) 0,none] (fun E3=>[(1,vP (pb E1 0) 0),(2,bF),(3,vP (pb E2 6) 0),(4,vP (pb E3 6) 0)]) (W:=[{ i:=6,T:=34,c0:=[vI 0,.int .u64 0],s:=some 7,c1:=fun _=>[vI (hi (fS (sgi l i) (jn (untS l day i) 1 0))),.int .u64 (lo (fS (sgi l i) (jn (untS l day i) 1 0)))] }]) (M':=fun E3=>[((pb E1 0),130,[vI ((sgi l i).d),vI (hi ((sgi l i).b*100000000000)),.int .u64 (lo ((sgi l i).b*100000000000)),vI (hi (jn (sgi l i).f 0 0)),.int .u64 (lo (jn (sgi l i).f 0 0)),vI (hi (dayA)),.int .u64 (lo (dayA)),vI (hi (dayA+(sgi l i).r*100000000000)),.int .u64 (lo (dayA+(sgi l i).r*100000000000)),vI (hi ((sgi l i).r*100000000000)),.int .u64 (lo ((sgi l i).r*100000000000)),vI (hi (endS l day off i)),.int .u64 (lo (endS l day off i)),vI (untS l day i)]),((pb E2 6),34,[vI (hi (fS (sgi l i) (jn ((untS l day i)-1) 0 0))),.int .u64 (lo (fS (sgi l i) (jn ((untS l day i)-1) 0 0)))]),((pb E3 6),34,[vI (hi (fS (sgi l i) (jn (untS l day i) 1 0))),.int .u64 (lo (fS (sgi l i) (jn (untS l day i) 1 0)))])]) (hs:=c_ (ld_ 0 (hrd:=by exact rd130 rfl rfl rfl rfl rfl rfl rfl rfl rfl rfl rfl rfl rfl rfl))<|c_ (fa0 (vP (pb E1 0) 0))<|c_ (ld_ 0 (hrd:=by exact rd3 rfl))<|c_ (bd0 ([vI (untS l day i),vI 1]))<|c_ (cl_ Tryz.func70 (h:=fun env=>⟨_,(rcount_any (untS l day i) 1 0 (by omega) (by omega) (by omega) (by omega) (by omega) (by omega)),rfl⟩))<|c_ (cl_ Tryz.func68 (h:=fun env=>⟨_,(pat_any (sgi l i).d ((sgi l i).b*100000000000) (jn (sgi l i).f 0 0) ((sgi l i).r*100000000000) (endS l day off i) (untS l day i) (jn (untS l day i) 1 0) hs.pc hn2),rfl⟩))<|c_ (al_ 2)<|c_ (sw_ 2 6 (hst:=by exact fun _ _ _ hc=>st34 rfl rfl rfl hc))<|e_) (k:=fun E3 ac wd h_3=>?_)
 clear h_2
 refine then_n (wp_seq ?_)
 by_cases hV:endS l day off i≤fS (sgi l i) (jn (untS l day i-1) 0 0)
 refine rg_ h_3 [[0],[0,1],[2],r_ 4,r_ 5,r_ 6,r_ 7,r_ 8,[0,1,2,3,4,5,8],r_ 10,r_ 11,r_ 12,r_ 13] [K_ (vP (pb E1 0) 11),K_ (vW (endS l day off i)),K_ (vW (fS (sgi l i) (jn ((untS l day i)-1) 0 0))),K_ (vI (cmpZ (endS l day off i) (fS (sgi l i) (jn ((untS l day i)-1) 0 0)))),K_ bT,K_ bT,K_ undef,K_ undef,K_ undef,K_ undef,K_ undef,K_ bT,K_ bT] (fun E4=>[(2,bT)]) (hs:=c_ (fa0 (vP (pb E1 0) 0))<|c_ (ld_ 0 (hrd:=by exact rd34 rfl rfl))<|c_ (ld_ 1 (hrd:=by exact rd34 rfl rfl))<|c_ (cl_ Tryz.func106 (h:=fun env=>⟨_,(wcmpZ (endS l day off i) (fS (sgi l i) (jn ((untS l day i)-1) 0 0)) (by unfold InW;omega) (by unfold InW;omega)),rfl⟩))<|c_ (bi0 (vI (cmpZ (endS l day off i) (fS (sgi l i) (jn ((untS l day i)-1) 0 0)))) (vI 0) (h:=by intro env w;(first | (simp [go_sem,cmpZ_le,cmpZ_lt,cmpZ_ge,cmpZ_gt,hV];done) | (simp [go_sem,cmpZ_le,cmpZ_lt,cmpZ_ge,cmpZ_gt];omega))))<|c_ mv_<|c_ off_<|c_ off_<|c_ off_<|c_ off_<|c_ off_<|c_ (pk0 bT bT undef)<|c_ mv_<|e_) (k:=fun E4 ac wd h_4=>?_)
 clear h_3
 refine then_n (wp_ret ?_)
 have s2:=h_4.g (t:=2) rfl
 refine leave (v:=.bool true) h_4.df (by simp [results,Tryz.results105,go_sem,Array.getD_eq_getD_getElem?,s2]) ?_
 have hres:stB l day off i=false:=by simp [stB];omega
 exact ⟨by rw [hres];rfl,h_4.st.below⟩
 by_cases hW:fS (sgi l i) (jn (untS l day i) 1 0) < endS l day off i
 refine rg_ h_3 [[0],[0,1],[2],r_ 4,r_ 5,r_ 6,r_ 7,r_ 8,[0,1,2,3,4,5,8],r_ 10,r_ 11,r_ 12,r_ 13] [K_ (vP (pb E1 0) 11),K_ (vW (endS l day off i)),K_ (vW (fS (sgi l i) (jn ((untS l day i)-1) 0 0))),K_ (vI (cmpZ (endS l day off i) (fS (sgi l i) (jn ((untS l day i)-1) 0 0)))),K_ bF,K_ bF,K_ (vP (pb E1 0) 11),K_ (vW (endS l day off i)),K_ (vW (fS (sgi l i) (jn (untS l day i) 1 0))),K_ (vI (cmpZ (endS l day off i) (fS (sgi l i) (jn (untS l day i) 1 0)))),K_ bT,K_ bT,K_ bT] (fun E4=>[(2,bT)]) (hs:=c_ (fa0 (vP (pb E1 0) 0))<|c_ (ld_ 0 (hrd:=by exact rd34 rfl rfl))<|c_ (ld_ 1 (hrd:=by exact rd34 rfl rfl))<|c_ (cl_ Tryz.func106 (h:=fun env=>⟨_,(wcmpZ (endS l day off i) (fS (sgi l i) (jn ((untS l day i)-1) 0 0)) (by unfold InW;omega) (by unfold InW;omega)),rfl⟩))<|c_ (bi0 (vI (cmpZ (endS l day off i) (fS (sgi l i) (jn ((untS l day i)-1) 0 0)))) (vI 0) (h:=by intro env w;(first | (simp [go_sem,cmpZ_le,cmpZ_lt,cmpZ_ge,cmpZ_gt,hV];done) | (simp [go_sem,cmpZ_le,cmpZ_lt,cmpZ_ge,cmpZ_gt];omega))))<|c_ mv_<|c_ (fa0 (vP (pb E1 0) 0))<|c_ (ld_ 0 (hrd:=by exact rd34 rfl rfl))<|c_ (ld_ 2 (hrd:=by exact rd34 rfl rfl))<|c_ (cl_ Tryz.func106 (h:=fun env=>⟨_,(wcmpZ (endS l day off i) (fS (sgi l i) (jn (untS l day i) 1 0)) (by unfold InW;omega) (by unfold InW;omega)),rfl⟩))<|c_ (bi0 (vI (cmpZ (endS l day off i) (fS (sgi l i) (jn (untS l day i) 1 0)))) (vI 0) (h:=by intro env w;(first | (simp [go_sem,cmpZ_le,cmpZ_lt,cmpZ_ge,cmpZ_gt,hW];done) | (simp [go_sem,cmpZ_le,cmpZ_lt,cmpZ_ge,cmpZ_gt];omega))))<|c_ (pk0 bF bT bT (h:=by intro env w;(first | (simp [go_sem,cmpZ_le,cmpZ_lt,cmpZ_ge,cmpZ_gt,hW];done) | (simp [go_sem,cmpZ_le,cmpZ_lt,cmpZ_ge,cmpZ_gt];omega))))<|c_ mv_<|e_) (k:=fun E4 ac wd h_4=>?_)
 clear h_3
 refine then_n (wp_ret ?_)
 have s2:=h_4.g (t:=2) rfl
 refine leave (v:=.bool true) h_4.df (by simp [results,Tryz.results105,go_sem,Array.getD_eq_getD_getElem?,s2]) ?_
 have hres:stB l day off i=false:=by simp [stB];omega
 exact ⟨by rw [hres];rfl,h_4.st.below⟩
 refine rg_ h_3 [[0],[0,1],[2],r_ 4,r_ 5,r_ 6,r_ 7,r_ 8,[0,1,2,3,4,5,8],r_ 10,r_ 11,r_ 12,r_ 13] [K_ (vP (pb E1 0) 11),K_ (vW (endS l day off i)),K_ (vW (fS (sgi l i) (jn ((untS l day i)-1) 0 0))),K_ (vI (cmpZ (endS l day off i) (fS (sgi l i) (jn ((untS l day i)-1) 0 0)))),K_ bF,K_ bF,K_ (vP (pb E1 0) 11),K_ (vW (endS l day off i)),K_ (vW (fS (sgi l i) (jn (untS l day i) 1 0))),K_ (vI (cmpZ (endS l day off i) (fS (sgi l i) (jn (untS l day i) 1 0)))),K_ bF,K_ bF,K_ bF] (fun E4=>[(2,bF)]) (hs:=c_ (fa0 (vP (pb E1 0) 0))<|c_ (ld_ 0 (hrd:=by exact rd34 rfl rfl))<|c_ (ld_ 1 (hrd:=by exact rd34 rfl rfl))<|c_ (cl_ Tryz.func106 (h:=fun env=>⟨_,(wcmpZ (endS l day off i) (fS (sgi l i) (jn ((untS l day i)-1) 0 0)) (by unfold InW;omega) (by unfold InW;omega)),rfl⟩))<|c_ (bi0 (vI (cmpZ (endS l day off i) (fS (sgi l i) (jn ((untS l day i)-1) 0 0)))) (vI 0) (h:=by intro env w;(first | (simp [go_sem,cmpZ_le,cmpZ_lt,cmpZ_ge,cmpZ_gt,hV];done) | (simp [go_sem,cmpZ_le,cmpZ_lt,cmpZ_ge,cmpZ_gt];omega))))<|c_ mv_<|c_ (fa0 (vP (pb E1 0) 0))<|c_ (ld_ 0 (hrd:=by exact rd34 rfl rfl))<|c_ (ld_ 2 (hrd:=by exact rd34 rfl rfl))<|c_ (cl_ Tryz.func106 (h:=fun env=>⟨_,(wcmpZ (endS l day off i) (fS (sgi l i) (jn (untS l day i) 1 0)) (by unfold InW;omega) (by unfold InW;omega)),rfl⟩))<|c_ (bi0 (vI (cmpZ (endS l day off i) (fS (sgi l i) (jn (untS l day i) 1 0)))) (vI 0) (h:=by intro env w;(first | (simp [go_sem,cmpZ_le,cmpZ_lt,cmpZ_ge,cmpZ_gt,hW];done) | (simp [go_sem,cmpZ_le,cmpZ_lt,cmpZ_ge,cmpZ_gt];omega))))<|c_ (pk0 bF bT bF (h:=by intro env w;(first | (simp [go_sem,cmpZ_le,cmpZ_lt,cmpZ_ge,cmpZ_gt,hW];done) | (simp [go_sem,cmpZ_le,cmpZ_lt,cmpZ_ge,cmpZ_gt];omega))))<|c_ mv_<|e_) (k:=fun E4 ac wd h_4=>?_)
 clear h_3
 refine then_n (wp_ret ?_)
 have s2:=h_4.g (t:=2) rfl
 refine leave (v:=.bool false) h_4.df (by simp [results,Tryz.results105,go_sem,Array.getD_eq_getD_getElem?,s2]) ?_
 have hres:stB l day off i=true:=by simp [stB];omega
 exact ⟨by rw [hres];rfl,h_4.st.below⟩
end Go.Proofs.YtdfkghpgekmmlaaGreat
namespace Go.Proofs.YtdfkghpgekmmlaaGreat
open Go.RowKit
def has_ren:Go.Shelf.Ren:=⟨fun | 6=>133 | 8=>104 | n=>n,fun | 0=>0 | 3=>3 | 4=>4 | 22=>124 | 23=>130 | 25=>166 | n=>n,fun n=>n⟩
theorem has_lays:SlLaysH0.n8 Tryz.prog has_ren:={ mixed:=by kernel_rfl,f6:=⟨Tryz.f133.name,by kernel_rfl,Tryz.func133.trans (congrArg some (by kernel_rfl))⟩,f8:=⟨Tryz.f104.name,by kernel_rfl,Tryz.func104.trans (congrArg some (by kernel_rfl))⟩,t0:=Tryz.underlying0,a0:=Tryz.isAgg0,z0:=Tryz.sizeOf0,v0:=Tryz.zeroValue0,t3:=Tryz.underlying3,a3:=Tryz.isAgg3,z3:=Tryz.sizeOf3,v3:=Tryz.zeroValue3,t4:=Tryz.underlying4,a4:=Tryz.isAgg4,z4:=Tryz.sizeOf4,v4:=Tryz.zeroValue4,t22:=Tryz.underlying124,a22:=Tryz.isAgg124,z22:=Tryz.sizeOf124,v22:=Tryz.zeroValue124,t25:=Tryz.underlying166,a25:=Tryz.isAgg166,z25:=Tryz.sizeOf166,v25:=Tryz.zeroValue166 }
theorem call_step1 (args:Array Value) (w:World):(callFunc 105 args).run Tryz.prog w = .ok (.enter 105 args) w:=enters' Tryz.func105 (by kernel_rfl) rfl args w
theorem any_fin {n:Nat} (p:Nat→Bool):((List.finRange n).take n).any (fun x=>!p x.1) = !(List.range n).all p:=by
  have e:(List.finRange n).take n=List.finRange n:=List.take_of_length_le (by simp)
  rw [e,Bool.eq_iff_iff]
  simp only [List.any_eq_true,Bool.not_eq_true',List.all_eq_false,List.mem_range]
  constructor
  · rintro ⟨x,_,h⟩;exact ⟨x.1,x.2,by simp [h]⟩
  · rintro ⟨x,hx,h⟩;exact ⟨⟨x,hx⟩,List.mem_finRange _,by simpa using h⟩
theorem contains_any (w0:World) (g c:Nat) (l:List Sg) (day off:Int) (hP:PcT w0 (.slice (some ⟨g,0,none⟩) l.length c) l day off) (hL:LOk l day off) :
    Calls Tryz.prog 104 #[.slice (some ⟨g,0,none⟩) l.length c,.func (.func 105) #[] #[]] w0 fun e w'=>e = .returned (.bool (!(List.range l.length).all (stB l day off)))∧Below w0.heap.size w0 w':=by
  have n0:=hL.n0
  have n1:=hL.n1
  haveI:Inhabited (Fin l.length):=⟨⟨0,n0⟩⟩
  obtain ⟨A',c',e,h1,h2,h3⟩:=hP
  simp only [Value.slice.injEq,true_and] at e
  obtain ⟨rfl,rfl⟩:=e
  rcases h3 with h3 | ⟨b,o,cur,fz,hA,hb,hc⟩
  · omega
  simp only [Option.some.injEq,Addr.mk.injEq,and_true] at hA
  obtain ⟨rfl,rfl⟩:=hA
  have h:=AnyQ.slices_ContainsFunc (α:=Fin l.length) has_lays 14 (fun w=>Tryz.isAgg130 w) (fun w=>Tryz.sizeOf130 w) (fun x=>pcL l day off x.1) (fun x=>rfl) (fun x=>!stB l day off x.1) 105 #[] call_step1 g 0 l.length c (List.finRange l.length) w0
    (fun W x hW=>by
      have:=step1_any l day off x.1 hL x.2 W
      exact this.mono (fun e w' ⟨h1,h2⟩=>⟨h1,below_to hW h2⟩))
    (by simp) (by omega) (lt_of_some hb)
    (fun j hj i v hv=>by
      have hjl:j < l.length:=by simpa using hj
      have e1:(List.finRange l.length)[j]! = ⟨j,hjl⟩:=by
        rw [List.getElem!_eq_getElem?_getD,List.getElem?_eq_getElem hj];simp
      rw [e1] at hv
      have hi:i < 14:=(List.getElem?_eq_some_iff.1 hv).1
      have hx:=hc (j*14+i) (by omega)
      have e2:pcC l day off (j*14+i)=v:=by
        rw [pcC_at l day off j i hi,List.getD_eq_getElem?_getD,hv];rfl
      rw [e2] at hx
      rw [Nat.zero_add] at hx
      simp [World.cell?,hb,hx])
  rw [any_fin] at h
  exact h
end Go.Proofs.YtdfkghpgekmmlaaGreat
namespace Go.Proofs.YtdfkghpgekmmlaaGreat
open Go.RowKit
theorem pc_info:(Tryz.prog.info? 130).map (fun i=>(i.zero,i.size,i.bytes))=some (some (.agg #[vI 0,vI 0,.int .u64 0,vI 0,.int .u64 0,vI 0,.int .u64 0,vI 0,.int .u64 0,vI 0,.int .u64 0,vI 0,.int .u64 0,vI 0]),14,112):=by kernel_rfl
def rawP (l:List Sg) (i:Nat):List Value:=
 [vI (sgi l i).d,vI (hi ((sgi l i).b*100000000000)),.int .u64 (lo ((sgi l i).b*100000000000)),vI (hi (jn (sgi l i).f 0 0)),.int .u64 (lo (jn (sgi l i).f 0 0)),vI (hi dayA),.int .u64 (lo dayA),vI (hi (dayA+(sgi l i).r*100000000000)),.int .u64 (lo (dayA+(sgi l i).r*100000000000)),vI (hi ((sgi l i).r*100000000000)),.int .u64 (lo ((sgi l i).r*100000000000)),vI (hi 0),.int .u64 (lo 0),vI 0]
def rawC (l:List Sg) (i:Nat):Value:=(rawP l (i / 14)).getD (i % 14) undef
theorem rawC_at (l:List Sg) (j q:Nat) (hq:q < 14):rawC l (j*14+q)=(rawP l j).getD q undef:=by
 unfold rawC;rw [show (j*14+q) / 14=j by omega,show (j*14+q) % 14=q by omega]
def rawL (l:List Sg) (i:Nat):List Value:=(List.range (i*14)).map (rawC l)
theorem rawL_succ (l:List Sg) (i:Nat):rawL l (i+1)=rawL l i ++ rawP l i:=by
 unfold rawL
 rw [show (i+1)*14=i*14+14 by omega,List.range_add,List.map_append,List.map_map]
 congr 1
 apply List.ext_getElem (by rfl)
 intro q h1 h2
 have hq:q < 14:=by simpa using h1
 simp only [List.getElem_map,List.getElem_range,Function.comp_apply]
 rw [rawC_at l i q hq,List.getD_eq_getElem?_getD,List.getElem?_eq_getElem h2]
 rfl
def cellS (l:List Sg) (day off:Int) (j q:Nat):Value:=if q / 14 < j then pcC l day off q else rawC l q
def pcS (l:List Sg) (day off:Int) (j:Nat):List Value:=(List.range (l.length*14)).map (cellS l day off j)
theorem pcS_len (l:List Sg) (day off:Int) (j:Nat):(pcS l day off j).length=l.length*14:=by simp [pcS]
theorem pcS_zero (l:List Sg) (day off:Int):pcS l day off 0=rawL l l.length:=by
 unfold pcS rawL
 apply List.map_congr_left
 intro q _
 simp [cellS]
theorem cellS_get (l:List Sg) (day off:Int) (j:Nat):∀ i,i < l.length*14→(pcS l day off j)[i]? = some (cellS l day off j i):=by
 intro i hi
 simp [pcS,hi]
theorem cellS_raw (l:List Sg) (day off:Int) {j i:Nat} (h:j≤i) (q:Nat) (hq:q < 14):cellS l day off j (i*14+q)=(rawP l i).getD q undef:=by
 unfold cellS
 rw [if_neg (by omega),rawC_at l i q hq]
theorem cellS_all (l:List Sg) (day off:Int):∀ i,i < l.length*14→(pcS l day off l.length)[i]? = some (pcC l day off i):=by
 intro i hi
 rw [cellS_get l day off _ i hi]
 unfold cellS
 rw [if_pos (by omega)]
theorem set_map {m:Nat} (f:Nat→Value) (q:Nat) (v:Value):((List.range m).map f).set q v=(List.range m).map (fun i=>if i=q then v else f i):=by
  apply List.ext_getElem (by simp)
  intro i h1 h2
  simp only [List.getElem_set,List.getElem_map,List.getElem_range]
  by_cases h:q=i
  · subst h;simp
  · rw [if_neg h,if_neg (Ne.symm h)]
theorem pcS_step (l:List Sg) (day off:Int) (j:Nat):(((pcS l day off j).set (0+(j*14+13)) (vI (untS l day j))).set (0+(j*14+11)) (vI (hi (endS l day off j)))).set (0+(j*14+11)+1) (.int .u64 (lo (endS l day off j)))=pcS l day off (j+1):=by
  unfold pcS
  rw [set_map,set_map,set_map]
  apply List.map_congr_left
  intro i _
  by_cases hj:i / 14=j
  · obtain ⟨q,hq,rfl⟩:∃ q,q < 14∧i=j*14+q:=⟨i % 14,by omega,by omega⟩
    have e1:cellS l day off (j+1) (j*14+q)=(pcL l day off j).getD q undef:=by
      unfold cellS;rw [if_pos (by omega),pcC_at l day off j q hq]
    rw [e1,cellS_raw l day off (Nat.le_refl j) q hq]
    match q,hq with
    | 0,_ | 1,_ | 2,_ | 3,_ | 4,_ | 5,_ | 6,_ | 7,_ | 8,_ | 9,_ | 10,_=>rw [if_neg (by omega),if_neg (by omega),if_neg (by omega)];rfl
    | 11,_=>rw [if_neg (by omega),if_pos (by omega)];rfl
    | 12,_=>rw [if_pos (by omega)];rfl
    | 13,_=>rw [if_neg (by omega),if_neg (by omega),if_pos (by omega)];rfl
  · rw [if_neg (by omega),if_neg (by omega),if_neg (by omega)]
    unfold cellS
    by_cases h:i / 14 < j
    · rw [if_pos h,if_pos (by omega)]
    · rw [if_neg h,if_neg (by omega)]
theorem OwnK.rowP {T:TypeId} {k:Nat} {w:World} {B:Nat} {v:Value} {n:Nat} {cs:List Value} {f:Nat→Value} (hf:∀ i,i < n*k→cs[i]? = some (f i)) (hn:n≤140737488351232) (h:OwnK T k w B v n cs):RowT T w v n k f:=h.rowT hn hf
theorem OwnK.some {T:TypeId} {k:Nat} {w:World} {B:Nat} {v:Value} {n:Nat} {cs:List Value} (h:OwnK T k w B v n cs) (hn:0 < n):∃ g c,v = .slice (some ⟨g,0,none⟩) n c∧B≤g:=by
  obtain ⟨_,h2⟩:=h
  rcases h2 with ⟨_,h2⟩ | ⟨g,cap,cur,rfl,hB,_⟩
  · omega
  · exact ⟨g,cap,rfl,hB⟩
theorem take_of {ds cs:List Value} {m:Nat} (hl:ds.length=m) (h:∀ (p:Nat) (u:Value),ds[p]? = some u→cs[p]? = some u):cs.take m=ds:=by
  apply List.ext_getElem?
  intro p
  rw [List.getElem?_take]
  by_cases hp:p < m
  · rw [if_pos hp]
    have:=h p ds[p] (List.getElem?_eq_getElem (by omega))
    rw [this,List.getElem?_eq_getElem (by omega)]
  · rw [if_neg hp,List.getElem?_eq_none (by omega)]
theorem stK_int {g q n k:Nat} {T:TypeId} {ds:List Value} (hl:ds.length=n*k) (hq:q < n*k) (z:Int):∀ (cs:List Value) (w:World),(∀ (p:Nat) (u:Value),ds[p]? = some u→cs[p]? = some u)→w.heap[g]? = some (.cells cs.toArray T (0,0)) →
    ∃ (cs':List Value) (w':World),(Instr.storeAt 3 (vP g q) (vI z)).run Tryz.prog w = .ok () w'∧Put w w' g (.cells cs'.toArray T (0,0))∧cs'.length=cs.length∧cs'.take (n*k)=ds.set q (vI z):=by
  intro cs w hp hh
  have ht:=take_of hl hp
  have hu:=hp q ds[q] (List.getElem?_eq_getElem (by omega))
  obtain ⟨w',hr,hput⟩:=st3 (b:=g) (off:=q) (T0:=T) (cs:=cs) (n0:=z) hu rfl hh
  exact ⟨_,w',hr,hput,by simp,by rw [List.take_set,ht]⟩
theorem stK_wide {g q n k:Nat} {T:TypeId} {ds:List Value} (hl:ds.length=n*k) (hq:q+1 < n*k) (z:Int):∀ (cs:List Value) (w:World),(∀ (p:Nat) (u:Value),ds[p]? = some u→cs[p]? = some u)→w.heap[g]? = some (.cells cs.toArray T (0,0)) →
    ∃ (cs':List Value) (w':World),(Instr.storeAt 34 (vP g q) (vW z)).run Tryz.prog w = .ok () w'∧Put w w' g (.cells cs'.toArray T (0,0))∧cs'.length=cs.length∧cs'.take (n*k)=(ds.set q (vI (hi z))).set (q+1) (.int .u64 (lo z)):=by
  intro cs w hp hh
  have ht:=take_of hl hp
  have hu:=hp q ds[q] (List.getElem?_eq_getElem (by omega))
  have hu2:=hp (q+1) ds[q+1] (List.getElem?_eq_getElem (by omega))
  obtain ⟨w',hr,hput⟩:=st34 (b:=g) (off:=q) (T0:=T) (cs:=cs) (n0:=hi z) (n1:=lo z) hu hu2 rfl hh
  exact ⟨_,w',hr,hput,by simp,by rw [List.take_set,List.take_set,ht]⟩
def IsRN (B:Nat) (w:World) (v:Value) (l:List Sg) (day off:Int):Prop:=∃ b g c,v=vP b 0∧RubA w b g c l day off∧B≤b∧B≤g
theorem IsRN.x {B:Nat} {w:World} {v:Value} {l:List Sg} {day off:Int} (h:IsRN B w v l day off) {ex:Option Nat} (hx:∀ k,ex=some k→k < B):IsR ex w v l day off:=by
 obtain ⟨b,g,c,e,h1,h2,h3⟩:=h
 exact ⟨b,g,c,e,h1,fun h=>by have:=hx b h;omega,fun h=>by have:=hx g h;omega⟩
end Go.Proofs.YtdfkghpgekmmlaaGreat
namespace Go.Proofs.YtdfkghpgekmmlaaGreat
open Go.RowKit
attribute [local go_sem] vN bT bF rS vSg vPc vW vM vL vT2 vT3 vP vI execOp Act.eval evC bigF vB hi_zero lo_zero elt Tryz.underlying126 Tryz.underlying128 Tryz.underlying130 Tryz.underlying26
theorem steps_any (w0:World) (b g c:Nat) (l:List Sg) (day off:Int) (hR:RubA w0 b g c l day off) (hL:LOk l day off):Calls Tryz.prog 71 #[vP b 0] w0 fun e w'=>e = .returned (.bool ((List.range l.length).all (stB l day off)))∧Below w0.heap.size w0 w':=by
 have hst:=St.start w0 (Θ:=fun _=>True) (fun _ _=>trivial)
 refine enter Tryz.func71 rfl (n:=9) rfl (Nat.le_of_ble_eq_true rfl) hst (L:=[(0,vP b 0)]) (lk_args rfl) (fun ac h=>?_)
 refine wp_seq ?_
 refine rg_ h [[0]] [K_ bF] (fun E1=>[(0,vP b 0),(2,bF)]) (hs:=c_ mv_<|e_) (k:=fun E1 ac wd h_1=>?_)
 clear h
 refine then_n (wp_seq ?_)
 refine rg_ h_1 (tri 7) [K_ (vP b 0),K_ (vP b 0),K_ (vP b 0),K_ (.slice ((some ⟨g,0,none⟩)) l.length c),K_ (.bool (!(List.range l.length).all (stB l day off))),K_ (.bool ((List.range l.length).all (stB l day off))),K_ (.bool ((List.range l.length).all (stB l day off)))] (fun E2=>[(2,.bool ((List.range l.length).all (stB l day off)))]) (hs:=c_ mv_<|c_ (nc0 (vP b 0))<|c_ (fa0 (vP b 0))<|c_ (by refine s_v rfl rfl rfl rfl (fun {D env ac wd} hA=>?_);have e5:ac.tmps[5]? = some (vP b 0):=hA.g rfl;have hc:=(hR.grown hA.j.st.gr).cell;simp [go_sem,e5,hc])<|c_ (s_callw rfl rfl rfl Tryz.func104 (by kernel_rfl) rfl rfl (fun _=>wanted_none rfl _) (fun {D env ac wd} hA=>⟨_,(by have e6:ac.tmps[6]? = some (.slice ((some ⟨g,0,none⟩)) l.length c):=hA.g rfl;simp [Act.eval,e6]),contains_any wd g c l day off (hR.grown hA.j.st.gr).hp hL⟩))<|c_ (un0 (.bool (!(List.range l.length).all (stB l day off))))<|c_ mv_<|e_) (k:=fun E2 ac wd h_2=>?_)
 clear h_1
 refine then_n (wp_ret ?_)
 have s2:=h_2.g (t:=2) rfl
 refine leave (v:=.bool ((List.range l.length).all (stB l day off))) h_2.df (by simp [results,Tryz.results71,go_sem,Array.getD_eq_getD_getElem?,s2]) ?_
 exact ⟨rfl,h_2.st.below⟩
theorem rNew_any (w0:World) (A0:Option Addr) (c0:Nat) (l:List Sg) (hl:SegU w0 (.slice A0 l.length c0) l) (day off:Int) (hd0:-9223372036854775808≤day) (hd1:day < 9223372036854775808):Calls Tryz.prog 41 #[.slice A0 l.length c0,vI day,vI off] w0 fun e w'=>∃ v x,e = .returned (.tuple #[v,vI x])∧Below w0.heap.size w0 w'∧(if mayS l day off=true then x=0∧IsRN w0.heap.size w' v l day off else x=10∧v = .pointer none):=by
  have hle:=RowU_le hl
  have hst:=St.start w0 (Θ:=fun _=>True) (fun _ _=>trivial)
  refine enter Tryz.func41 rfl (n:=98) rfl (Nat.le_of_ble_eq_true rfl) hst (L:=[(0,.slice A0 l.length c0),(1,vI day),(2,vI off)]) (lk_args rfl) (fun ac h=>?_)
  replace h:=h.facts
  refine wp_seq ?_
  refine rf_ h [[0],[0,1]] [K_ (.pointer none),K_ (vI 0)] (fun E1=>[(0,.slice A0 l.length c0),(1,vI day),(2,vI off),(6,.pointer none),(7,vI 0)]) (hs:=c_ mv_<|c_ mv_<|e_) (k:=fun E1 ac wd h_1=>?_)
  clear h
  refine then_n (wp_seq (wp_seq ?_))
  cases hz:szL l day off
  refine rf_ h_1 [[0],[1],[2],r_ 4,r_ 5] [K_ (.slice A0 l.length c0),K_ (vI day),K_ (vI off),K_ bF,K_ bT] (fun E2=>[(0,.slice A0 l.length c0),(1,vI day),(2,vI off),(6,.pointer none),(7,vI 0),(18,bT)]) (hs:=c_ mv_<|c_ mv_<|c_ mv_<|c_ (cw_ Tryz.func66 (h:=fun _ env _ wd hA=>⟨_,((sizes_any wd A0 c0 l (hl.grown hA.j.st.gr) day off hd0 hd1).mono (fun e w' h=>by rw [hz] at h;exact h)),rfl⟩))<|c_ (un0 bF)<|e_) (k:=fun E2 ac wd h_2=>?_)
  clear h_1
  refine then_n ?_
  refine wp_cond_true (eval_tmp (h_2.g (t:=18) rfl)) ?_
  refine wp_seq ?_
  refine rf_ h_2 [[0],[0,1]] [K_ (.pointer none),K_ (vI 10)] (fun E3=>[(0,.slice A0 l.length c0),(1,vI day),(2,vI off),(6,.pointer none),(7,vI 10)]) (hs:=c_ mv_<|c_ mv_<|e_) (k:=fun E3 ac wd h_3=>?_)
  clear h_2
  refine then_n (wp_ret (then_ret ?_))
  have s6:=h_3.g (t:=6) rfl
  have s7:=h_3.g (t:=7) rfl
  refine leave (v:=vT2 (.pointer none) (vI 10)) h_3.df (by simp [results,Tryz.results41,go_sem,Array.getD_eq_getD_getElem?,s6,s7]) ?_
  have hm:mayS l day off=false:=by simp [mayS,hz]
  exact ⟨_,_,rfl,h_3.st.below,by rw [hm];exact ⟨rfl,rfl⟩⟩
  have hL:=szL_ok hz;have n0:=hL.n0;have n1:=hL.n1;have y0:=hL.y0;have y1:=hL.y1;have o0:=hL.o0;have o1:=hL.o1
  refine rf_ h_1 [[0],[1],[2],r_ 4,r_ 5] [K_ (.slice A0 l.length c0),K_ (vI day),K_ (vI off),K_ bT,K_ bF] (fun E2=>[(0,.slice A0 l.length c0),(1,vI day),(2,vI off),(6,.pointer none),(7,vI 0),(18,bF)]) (hs:=c_ mv_<|c_ mv_<|c_ mv_<|c_ (cw_ Tryz.func66 (h:=fun _ env _ wd hA=>⟨_,((sizes_any wd A0 c0 l (hl.grown hA.j.st.gr) day off hd0 hd1).mono (fun e w' h=>by rw [hz] at h;exact h)),rfl⟩))<|c_ (un0 bT)<|e_) (k:=fun E2 ac wd h_2=>?_)
  clear h_1
  refine then_n ?_
  refine wp_cond_false (eval_tmp (h_2.g (t:=18) rfl)) ?_
  refine wp_skip (then_n (wp_seq ?_))
  refine rf_ h_2 (tri 3) [K_ (.agg #[.slice none 0 0]),KE_ fun env=>vP (pb env 1) 0,KE_ fun env=>vP (pb env 1) 0] (fun E3=>[(0,.slice A0 l.length c0),(1,vI day),(2,vI off),(6,.pointer none),(7,vI 0),(8,vP (pb E3 1) 0)]) (W:=[{ i:=1,T:=126,c0:=[.slice none 0 0] }]) (M':=fun E3=>[((pb E3 1),126,[.slice none 0 0])]) (hs:=c_ (bd0 ([]))<|c_ (bx0 0 (.agg #[.slice none 0 0]))<|c_ mv_<|e_) (k:=fun E3 ac wd h_3=>?_)
  clear h_2
  refine then_n (wp_seq (wp_seq ?_))
  refine rf_ h_3 [[0],[0,1],[2]] [K_ (.slice A0 l.length c0),K_ (vN l.length),K_ (vI 0)] (fun E4=>[(1,vI day),(2,vI off),(6,.pointer none),(7,vI 0),(8,vP (pb E3 1) 0),(21,.slice A0 l.length c0),(22,vN l.length),(23,vI 0)]) (hs:=c_ mv_<|c_ (ln_ Tryz.underlying82 fun _ env _ wd hA=>(hl.grown hA.j.st.gr).els)<|c_ mv_<|e_) (k:=fun E4 ac wd h_4=>?_)
  clear h_3
  refine then_n (wp_block ?_)
  refine wp_loop (fun ac wd=>∃ (v:Value) (i:Nat),i≤l.length∧Cur 98 w0 none none (Facts []) (fun w=>OwnK 130 14 w w0.heap.size v i (rawL l i)) [(1,vI day),(2,vI off),(6,.pointer none),(7,vI 0),(8,vP (pb E3 1) 0),(21,.slice A0 l.length c0),(22,vN l.length),(23,vN i)] [((pb E3 1),126,[v])] ac wd) (fun ac _=>((l.length:Int)-sI ac 23).toNat) ⟨.slice none 0 0,0,by omega,(h_4.re rfl).th (fun w _=>OwnK.nil w _)⟩ ?_
  rintro ac wd ⟨v,i,hi1,h_5⟩
  clear h_4
  have hmu:sI ac 23=((i:Nat):Int):=sI_eq (h_5.g (t:=23) rfl)
  refine wp_seq ?_
  by_cases h1:i < l.length
  have hs:=hL.seg i h1;have b0:=hs.b0;have b1:=hs.b1;have f0:=hs.f0;have f1:=hs.f1;have r0:=hs.r0;have r1:=hs.r1;have d0:=hs.d0;have d1:=hs.d1
  refine rf_ h_5 [[0]] [K_ bT] (fun E6=>[(1,vI day),(2,vI off),(6,.pointer none),(7,vI 0),(8,vP (pb E3 1) 0),(21,.slice A0 l.length c0),(22,vN l.length),(23,vN i),(24,bT)]) (hs:=c_ (bi0 (vN i) (vN l.length))<|e_) (k:=fun E6 ac wd h_6=>?_)
  clear h_5
  refine then_n (wp_seq ?_)
  refine wp_cond_true (eval_tmp (h_6.g (t:=24) rfl)) ?_
  refine wp_skip (then_n (wp_seq (wp_block (wp_seq ?_))))
  refine rf_ h_6 [[0],[0,1],[2],r_ 4] [K_ (elt (.slice A0 l.length c0) (i*4)),K_ (vSg (sgi l i)),KE_ fun env=>vP (pb env 2) 0,none] (fun E7=>[(1,vI day),(2,vI off),(6,.pointer none),(7,vI 0),(8,vP (pb E3 1) 0),(10,vP (pb E7 2) 0),(21,.slice A0 l.length c0),(22,vN l.length),(23,vN i),(24,bT),(25,elt (.slice A0 l.length c0) (i*4)),(26,vSg (sgi l i))]) (W:=[{ i:=2,T:=128,c0:=[vI 0,vI 0,vI 0,vI 0],s:=some 3,c1:=fun _=>[vI ((sgi l i).d),vI ((sgi l i).b),vI ((sgi l i).f),vI ((sgi l i).r)] }]) (M':=fun E7=>[((pb E3 1),126,[v]),((pb E7 2),128,[vI ((sgi l i).d),vI ((sgi l i).b),vI ((sgi l i).f),vI ((sgi l i).r)])]) (hs:=c_ (ia_ Tryz.underlying82 sz128 i (i*4) ((i:Nat):Int) (fun _ env _ wd hA=>(hl.grown hA.j.st.gr).els) (rfl) (by omega) rfl)<|c_ (le_ (i*4) (fun _ env _ wd hA=>(hl.grown hA.j.st.gr).els) (by omega) (le128 (by exact sgC_0 l i) (by exact sgC_1 l i) (by exact sgC_2 l i) (by exact sgC_3 l i)))<|c_ (al_ 1)<|c_ (sw_ 1 2 (hst:=by exact fun _ _ _ hc=>st128 rfl rfl rfl rfl rfl hc))<|e_) (k:=fun E7 ac wd h_7=>?_)
  clear h_6
  refine then_n ?_
  refine rf_ h_7 [[0],[1],[1,2],[1,2,3],[1,2,3,4],[5],[5,6],[5,6,7],[1,2,3,4,5,6,7,8],r_ 10,r_ 11,r_ 12] [K_ (vP (pb E3 1) 0),K_ (vP (pb E3 1) 0),K_ (vP (pb E3 1) 0),K_ (vP (pb E3 1) 0),K_ v,K_ (vSg (sgi l i)),K_ (vPc ((sgi l i).d) ((sgi l i).b*100000000000) (jn (sgi l i).f 0 0) ((sgi l i).r*100000000000) 0 0),KE_ fun env=>.slice (some ⟨(pb env 7),0,none⟩) 1 1,KE_ fun env=>.slice (sA (env 8)) (i+1) (sC (env 8)),K_ (vP (pb E3 1) 0),K_ (vP (pb E3 1) 0),none] (fun E8=>[(1,vI day),(2,vI off),(6,.pointer none),(7,vI 0),(8,vP (pb E3 1) 0),(10,vP (pb E7 2) 0),(21,.slice A0 l.length c0),(22,vN l.length),(23,vN i),(24,bT),(25,elt (.slice A0 l.length c0) (i*4)),(26,vSg (sgi l i)),(27,vP (pb E3 1) 0),(28,vP (pb E3 1) 0),(29,vP (pb E3 1) 0),(30,vP (pb E3 1) 0),(31,v),(32,vSg (sgi l i)),(33,vPc ((sgi l i).d) ((sgi l i).b*100000000000) (jn (sgi l i).f 0 0) ((sgi l i).r*100000000000) 0 0),(34,.slice (some ⟨(pb E8 7),0,none⟩) 1 1),(35,.slice (sA (E8 8)) (i+1) (sC (E8 8))),(36,vP (pb E3 1) 0),(37,vP (pb E3 1) 0)]) (S:=[⟨0,11,fun env=>[.slice (sA (env 8)) (i+1) (sC (env 8))]⟩]) (W:=[{ i:=7,T:=130,c0:=[vI ((sgi l i).d),vI (hi ((sgi l i).b*100000000000)),.int .u64 (lo ((sgi l i).b*100000000000)),vI (hi (jn (sgi l i).f 0 0)),.int .u64 (lo (jn (sgi l i).f 0 0)),vI (hi (dayA)),.int .u64 (lo (dayA)),vI (hi (dayA+(sgi l i).r*100000000000)),.int .u64 (lo (dayA+(sgi l i).r*100000000000)),vI (hi ((sgi l i).r*100000000000)),.int .u64 (lo ((sgi l i).r*100000000000)),vI (hi (0)),.int .u64 (lo (0)),vI 0] }]) (th:=(some (8,fun env w=>OwnK 130 14 w w0.heap.size (.slice (sA (env 8)) (i+1) (sC (env 8))) (i+1) (rawL l i ++ [vI ((sgi l i).d),vI (hi ((sgi l i).b*100000000000)),.int .u64 (lo ((sgi l i).b*100000000000)),vI (hi (jn (sgi l i).f 0 0)),.int .u64 (lo (jn (sgi l i).f 0 0)),vI (hi (dayA)),.int .u64 (lo (dayA)),vI (hi (dayA+(sgi l i).r*100000000000)),.int .u64 (lo (dayA+(sgi l i).r*100000000000)),vI (hi ((sgi l i).r*100000000000)),.int .u64 (lo ((sgi l i).r*100000000000)),vI (hi (0)),.int .u64 (lo (0)),vI 0])))) (T:=fun E8=>fun w=>OwnK 130 14 w w0.heap.size (.slice (sA (E8 8)) (i+1) (sC (E8 8))) (i+1) (rawL l i ++ [vI ((sgi l i).d),vI (hi ((sgi l i).b*100000000000)),.int .u64 (lo ((sgi l i).b*100000000000)),vI (hi (jn (sgi l i).f 0 0)),.int .u64 (lo (jn (sgi l i).f 0 0)),vI (hi (dayA)),.int .u64 (lo (dayA)),vI (hi (dayA+(sgi l i).r*100000000000)),.int .u64 (lo (dayA+(sgi l i).r*100000000000)),vI (hi ((sgi l i).r*100000000000)),.int .u64 (lo ((sgi l i).r*100000000000)),vI (hi (0)),.int .u64 (lo (0)),vI 0])) (M':=fun E8=>[((pb E3 1),126,[.slice (sA (E8 8)) (i+1) (sC (E8 8))]),((pb E7 2),128,[vI ((sgi l i).d),vI ((sgi l i).b),vI ((sgi l i).f),vI ((sgi l i).r)]),((pb E8 7),130,[vI ((sgi l i).d),vI (hi ((sgi l i).b*100000000000)),.int .u64 (lo ((sgi l i).b*100000000000)),vI (hi (jn (sgi l i).f 0 0)),.int .u64 (lo (jn (sgi l i).f 0 0)),vI (hi (dayA)),.int .u64 (lo (dayA)),vI (hi (dayA+(sgi l i).r*100000000000)),.int .u64 (lo (dayA+(sgi l i).r*100000000000)),vI (hi ((sgi l i).r*100000000000)),.int .u64 (lo ((sgi l i).r*100000000000)),vI (hi (0)),.int .u64 (lo (0)),vI 0])]) (hs:=c_ mv_<|c_ mv_<|c_ (nc0 (vP (pb E3 1) 0))<|c_ (fa0 (vP (pb E3 1) 0))<|c_ (ld_ 0 (hrd:=by exact rd124 rfl))<|c_ (ld_ 1 (hrd:=by exact rd128 rfl rfl rfl rfl))<|c_ (cl_ Tryz.func67 (h:=fun env=>⟨_,(cut_core (sgi l i).d (sgi l i).b (sgi l i).f (sgi l i).r d0 d1 b0 b1 f0 f1 r0 r1),rfl⟩))<|c_ (s_bsM rfl rfl 2 rfl rfl 1 rfl (fun {D env ac wd} hA=>by have e33:ac.tmps[33]? = some (vPc ((sgi l i).d) ((sgi l i).b*100000000000) (jn (sgi l i).f 0 0) ((sgi l i).r*100000000000) 0 0):=hA.g rfl;simp [go_sem,e33,Tryz.underlying124]))<|c_ (s_appS rfl rfl rfl rfl Tryz.underlying124 pc_info rfl (by omega) (by omega) rfl rfl (fun _ _ h=>by cases h) rfl (fun _ h=>h) [vI ((sgi l i).d),vI (hi ((sgi l i).b*100000000000)),.int .u64 (lo ((sgi l i).b*100000000000)),vI (hi (jn (sgi l i).f 0 0)),.int .u64 (lo (jn (sgi l i).f 0 0)),vI (hi (dayA)),.int .u64 (lo (dayA)),vI (hi (dayA+(sgi l i).r*100000000000)),.int .u64 (lo (dayA+(sgi l i).r*100000000000)),vI (hi ((sgi l i).r*100000000000)),.int .u64 (lo ((sgi l i).r*100000000000)),vI (hi (0)),.int .u64 (lo (0)),vI 0] rfl (by simp [Value.oneCell']) rfl (by omega) 7 2 rfl rfl rfl rfl rfl (fun _=>rfl) (fun hA=>hA.e rfl))<|c_ (nc0 (vP (pb E3 1) 0))<|c_ (fa0 (vP (pb E3 1) 0))<|c_ (se_ 0 (hst:=by exact fun _ _ _ hc=>st124 rfl rfl hc))<|e_) (k:=fun E8 ac wd h_8=>?_)
  clear h_7
  refine blk_n (then_n ?_)
  refine rf_ h_8 [[0],[0,1]] [K_ (vI (((i:Nat):Int)+1)),K_ (vI (((i:Nat):Int)+1))] (fun E9=>[(1,vI day),(2,vI off),(6,.pointer none),(7,vI 0),(8,vP (pb E3 1) 0),(10,vP (pb E7 2) 0),(21,.slice A0 l.length c0),(22,vN l.length),(23,vI (((i:Nat):Int)+1)),(24,bT),(25,elt (.slice A0 l.length c0) (i*4)),(26,vSg (sgi l i)),(27,vP (pb E3 1) 0),(28,vP (pb E3 1) 0),(29,vP (pb E3 1) 0),(30,vP (pb E3 1) 0),(31,v),(32,vSg (sgi l i)),(33,vPc ((sgi l i).d) ((sgi l i).b*100000000000) (jn (sgi l i).f 0 0) ((sgi l i).r*100000000000) 0 0),(34,.slice (some ⟨(pb E8 7),0,none⟩) 1 1),(35,.slice (sA (E8 8)) (i+1) (sC (E8 8))),(36,vP (pb E3 1) 0),(37,vP (pb E3 1) 0),(38,vI (((i:Nat):Int)+1))]) (hs:=c_ (bi0 (vN i) (vI 1))<|c_ mv_<|e_) (k:=fun E9 ac wd h_9=>?_)
  clear h_8
  refine then_n ?_
  exact ⟨⟨.slice (sA (E8 8)) (i+1) (sC (E8 8)),i+1,by omega,((h_9.take (M1:=[_]) rfl).re rfl).th (fun w hw=>by rw [rawL_succ];exact hw)⟩,by rw [sI_eq (h_9.g (t:=23) rfl),hmu];omega⟩
  obtain rfl:i=l.length:=by omega
  refine rf_ h_5 [[0]] [K_ bF] (fun E6=>[(1,vI day),(2,vI off),(6,.pointer none),(7,vI 0),(8,vP (pb E3 1) 0),(21,.slice A0 l.length c0),(22,vN l.length),(23,vN l.length),(24,bF)]) (hs:=c_ (bi0 (vN l.length) (vN l.length))<|e_) (k:=fun E6 ac wd h_6=>?_)
  clear h_5
  refine then_n (wp_seq ?_)
  refine wp_cond_false (eval_tmp (h_6.g (t:=24) rfl)) ?_
  refine wp_exit (then_e (then_e (blk_x (then_n (wp_seq (wp_seq ?_))))))
  obtain ⟨g,c,rfl,hgB⟩:=OwnK.some h_6.st.nowT n0
  replace h_6:=Cur.exInK h_6 (fun _ h=>h)
  rw [← pcS_zero l day off] at h_6
  refine rf_ h_6 [[0],[0,1],[0,1,2],r_ 4,r_ 5,[5]] [K_ (vP (pb E3 1) 0),K_ (vP (pb E3 1) 0),K_ (vP (pb E3 1) 0),K_ (.slice ((some ⟨g,0,none⟩)) l.length c),K_ (vN l.length),K_ (vI 0)] (fun E7=>[(1,vI day),(2,vI off),(6,.pointer none),(7,vI 0),(8,vP (pb E3 1) 0),(43,vN l.length),(44,vI 0)]) (hs:=c_ mv_<|c_ (nc0 (vP (pb E3 1) 0))<|c_ (fa0 (vP (pb E3 1) 0))<|c_ (ld_ 0 (hrd:=by exact rd124 rfl))<|c_ (ln_ Tryz.underlying124 fun _ env _ wd hA=>(OwnK.rowP (cellS_get l day off 0) (by omega) (hA.thO rfl)).els)<|c_ mv_<|e_) (k:=fun E7 ac wd h_7=>?_)
  clear h_6
  refine then_n (wp_block ?_)
  refine wp_loop (fun ac wd=>∃ j:Nat,j≤l.length∧Cur 98 w0 none (some g) (Facts []) (fun w=>OwnK 130 14 w w0.heap.size (.slice (some ⟨g,0,none⟩) l.length c) l.length (pcS l day off j)) [(1,vI day),(2,vI off),(6,.pointer none),(7,vI 0),(8,vP (pb E3 1) 0),(43,vN l.length),(44,vN j)] [((pb E3 1),126,[.slice ((some ⟨g,0,none⟩)) l.length c])] ac wd) (fun ac _=>((l.length:Int)-sI ac 44).toNat) ⟨0,by omega,(h_7.re rfl).th (fun _ h=>h)⟩ ?_
  rintro ac wd ⟨j,hj1,h_8⟩
  clear h_7
  have hmu:sI ac 44=((j:Nat):Int):=sI_eq (h_8.g (t:=44) rfl)
  refine wp_seq ?_
  by_cases h1:j < l.length
  refine rf_ h_8 [[0]] [K_ bT] (fun E9=>[(1,vI day),(2,vI off),(6,.pointer none),(7,vI 0),(8,vP (pb E3 1) 0),(43,vN l.length),(44,vN j),(45,bT)]) (hs:=c_ (bi0 (vN j) (vN l.length))<|e_) (k:=fun E9 ac wd h_9=>?_)
  clear h_8
  refine then_n (wp_seq ?_)
  refine wp_cond_true (eval_tmp (h_9.g (t:=45) rfl)) ?_
  refine wp_skip (then_n (wp_seq (wp_block (wp_seq ?_))))
  refine rf_ h_9 [[0],[0,1]] [K_ (vN j),K_ (vN j)] (fun E10=>[(1,vI day),(2,vI off),(6,.pointer none),(7,vI 0),(8,vP (pb E3 1) 0),(11,vN j),(43,vN l.length),(44,vN j),(45,bT),(46,vN j)]) (hs:=c_ mv_<|c_ mv_<|e_) (k:=fun E10 ac wd h_10=>?_)
  clear h_9
  refine then_n (wp_seq ?_)
  refine rf_ h_10 [[0],[0,1],[0,1,2],r_ 4,[4],r_ 6,r_ 7] [K_ (vP (pb E3 1) 0),K_ (vP (pb E3 1) 0),K_ (vP (pb E3 1) 0),K_ (.slice ((some ⟨g,0,none⟩)) l.length c),K_ (vN j),K_ (elt (.slice ((some ⟨g,0,none⟩)) l.length c) (j*14)),K_ (elt (.slice ((some ⟨g,0,none⟩)) l.length c) (j*14))] (fun E11=>[(1,vI day),(2,vI off),(6,.pointer none),(7,vI 0),(8,vP (pb E3 1) 0),(11,vN j),(12,elt (.slice ((some ⟨g,0,none⟩)) l.length c) (j*14)),(43,vN l.length),(44,vN j),(45,bT),(46,vN j),(47,vP (pb E3 1) 0),(48,vP (pb E3 1) 0),(49,vP (pb E3 1) 0),(50,.slice ((some ⟨g,0,none⟩)) l.length c),(51,vN j),(52,elt (.slice ((some ⟨g,0,none⟩)) l.length c) (j*14))]) (hs:=c_ mv_<|c_ (nc0 (vP (pb E3 1) 0))<|c_ (fa0 (vP (pb E3 1) 0))<|c_ (ld_ 0 (hrd:=by exact rd124 rfl))<|c_ mv_<|c_ (ia_ Tryz.underlying124 sz130 j (j*14) ((j:Nat):Int) (fun _ env _ wd hA=>(OwnK.rowP (cellS_get l day off j) (by omega) (hA.thO rfl)).els) (rfl) (by omega) rfl)<|c_ mv_<|e_) (k:=fun E11 ac wd h_11=>?_)
  clear h_10
  refine then_n (wp_seq (wp_seq ?_))
  by_cases h2:j+1 < l.length
  have hs:=hL.seg (j+1) h2;have d0:=hs.d0;have d1:=hs.d1;have hcn:Cn (jn (sgi l (j+1)).d 0 0):=cn_jn (by omega) (by omega) (by omega) (by omega) (by omega) (by omega);have hnr:=hcn.near;have eU:untS l day j=(sgi l (j+1)).d:=(by unfold untS;rw [if_pos h2]);have eE:endS l day off j=fS (sgi l (j+1)) (jn (sgi l (j+1)).d 0 0):=(by unfold endS;rw [if_pos h2])
  refine rf_ h_11 [[0],[0,1],[2],[2,3],[2,3,4],[2,3,4,5],[2,3,4,5,6],r_ 8] [K_ (vN j),K_ (vI (((j:Nat):Int)+1)),K_ (vP (pb E3 1) 0),K_ (vP (pb E3 1) 0),K_ (vP (pb E3 1) 0),K_ (.slice ((some ⟨g,0,none⟩)) l.length c),K_ (vN l.length),K_ bT] (fun E12=>[(1,vI day),(2,vI off),(6,.pointer none),(7,vI 0),(8,vP (pb E3 1) 0),(11,vN j),(12,elt (.slice ((some ⟨g,0,none⟩)) l.length c) (j*14)),(43,vN l.length),(44,vN j),(45,bT),(46,vN j),(47,vP (pb E3 1) 0),(48,vP (pb E3 1) 0),(49,vP (pb E3 1) 0),(50,.slice ((some ⟨g,0,none⟩)) l.length c),(51,vN j),(52,elt (.slice ((some ⟨g,0,none⟩)) l.length c) (j*14)),(53,vN j),(54,vI (((j:Nat):Int)+1)),(55,vP (pb E3 1) 0),(56,vP (pb E3 1) 0),(57,vP (pb E3 1) 0),(58,.slice ((some ⟨g,0,none⟩)) l.length c),(59,vN l.length),(60,bT)]) (hs:=c_ mv_<|c_ (bi0 (vN j) (vI 1))<|c_ mv_<|c_ (nc0 (vP (pb E3 1) 0))<|c_ (fa0 (vP (pb E3 1) 0))<|c_ (ld_ 0 (hrd:=by exact rd124 rfl))<|c_ (ln_ Tryz.underlying124 fun _ env _ wd hA=>(OwnK.rowP (cellS_get l day off j) (by omega) (hA.thO rfl)).els)<|c_ (bi0 (vI (((j:Nat):Int)+1)) (vN l.length))<|e_) (k:=fun E12 ac wd h_12=>?_)
  clear h_11
  refine then_n ?_
  refine wp_cond_true (eval_tmp (h_12.g (t:=60) rfl)) ?_
  refine wp_seq ?_
  refine rf_ h_12 [[0],[0,1],[0,1,2],r_ 4,[4],[4,5],r_ 7,r_ 8,[8],r_ 10] [K_ (vP (pb E3 1) 0),K_ (vP (pb E3 1) 0),K_ (vP (pb E3 1) 0),K_ (.slice ((some ⟨g,0,none⟩)) l.length c),K_ (vN j),K_ (vI (((j:Nat):Int)+1)),K_ (elt (.slice ((some ⟨g,0,none⟩)) l.length c) ((j+1)*14)),K_ (vPc ((sgi l (j+1)).d) ((sgi l (j+1)).b*100000000000) (jn (sgi l (j+1)).f 0 0) ((sgi l (j+1)).r*100000000000) 0 0),KE_ fun env=>vP (pb env 8) 0,none] (fun E13=>[(1,vI day),(2,vI off),(6,.pointer none),(7,vI 0),(8,vP (pb E3 1) 0),(11,vN j),(12,elt (.slice ((some ⟨g,0,none⟩)) l.length c) (j*14)),(13,vP (pb E13 8) 0),(43,vN l.length),(44,vN j),(45,bT),(46,vN j),(47,vP (pb E3 1) 0),(48,vP (pb E3 1) 0),(49,vP (pb E3 1) 0),(50,.slice ((some ⟨g,0,none⟩)) l.length c),(51,vN j),(52,elt (.slice ((some ⟨g,0,none⟩)) l.length c) (j*14)),(53,vN j),(54,vI (((j:Nat):Int)+1)),(55,vP (pb E3 1) 0),(56,vP (pb E3 1) 0),(57,vP (pb E3 1) 0),(58,.slice ((some ⟨g,0,none⟩)) l.length c),(59,vN l.length),(60,bT),(61,vP (pb E3 1) 0),(62,vP (pb E3 1) 0),(63,vP (pb E3 1) 0),(64,.slice ((some ⟨g,0,none⟩)) l.length c),(65,vN j),(66,vI (((j:Nat):Int)+1)),(67,elt (.slice ((some ⟨g,0,none⟩)) l.length c) ((j+1)*14)),(68,vPc ((sgi l (j+1)).d) ((sgi l (j+1)).b*100000000000) (jn (sgi l (j+1)).f 0 0) ((sgi l (j+1)).r*100000000000) 0 0)]) (W:=[{ i:=8,T:=130,c0:=[vI 0,vI 0,.int .u64 0,vI 0,.int .u64 0,vI 0,.int .u64 0,vI 0,.int .u64 0,vI 0,.int .u64 0,vI 0,.int .u64 0,vI 0],s:=some 9,c1:=fun _=>[vI ((sgi l (j+1)).d),vI (hi ((sgi l (j+1)).b*100000000000)),.int .u64 (lo ((sgi l (j+1)).b*100000000000)),vI (hi (jn (sgi l (j+1)).f 0 0)),.int .u64 (lo (jn (sgi l (j+1)).f 0 0)),vI (hi (dayA)),.int .u64 (lo (dayA)),vI (hi (dayA+(sgi l (j+1)).r*100000000000)),.int .u64 (lo (dayA+(sgi l (j+1)).r*100000000000)),vI (hi ((sgi l (j+1)).r*100000000000)),.int .u64 (lo ((sgi l (j+1)).r*100000000000)),vI (hi (0)),.int .u64 (lo (0)),vI 0] }]) (M':=fun E13=>[((pb E3 1),126,[.slice ((some ⟨g,0,none⟩)) l.length c]),((pb E13 8),130,[vI ((sgi l (j+1)).d),vI (hi ((sgi l (j+1)).b*100000000000)),.int .u64 (lo ((sgi l (j+1)).b*100000000000)),vI (hi (jn (sgi l (j+1)).f 0 0)),.int .u64 (lo (jn (sgi l (j+1)).f 0 0)),vI (hi (dayA)),.int .u64 (lo (dayA)),vI (hi (dayA+(sgi l (j+1)).r*100000000000)),.int .u64 (lo (dayA+(sgi l (j+1)).r*100000000000)),vI (hi ((sgi l (j+1)).r*100000000000)),.int .u64 (lo ((sgi l (j+1)).r*100000000000)),vI (hi (0)),.int .u64 (lo (0)),vI 0])]) (hs:=c_ mv_<|c_ (nc0 (vP (pb E3 1) 0))<|c_ (fa0 (vP (pb E3 1) 0))<|c_ (ld_ 0 (hrd:=by exact rd124 rfl))<|c_ mv_<|c_ (bi0 (vN j) (vI 1))<|c_ (ia_ Tryz.underlying124 sz130 (j+1) ((j+1)*14) (((j:Nat):Int)+1) (fun _ env _ wd hA=>(OwnK.rowP (cellS_get l day off j) (by omega) (hA.thO rfl)).els) (by omega) (by omega) rfl)<|c_ (le_ ((j+1)*14) (fun _ env _ wd hA=>(OwnK.rowP (cellS_get l day off j) (by omega) (hA.thO rfl)).els) (by omega) (le130 (by exact cellS_raw l day off (j:=j) (i:=(j+1)) (by omega) 0 (by omega)) (by exact cellS_raw l day off (j:=j) (i:=(j+1)) (by omega) 1 (by omega)) (by exact cellS_raw l day off (j:=j) (i:=(j+1)) (by omega) 2 (by omega)) (by exact cellS_raw l day off (j:=j) (i:=(j+1)) (by omega) 3 (by omega)) (by exact cellS_raw l day off (j:=j) (i:=(j+1)) (by omega) 4 (by omega)) (by exact cellS_raw l day off (j:=j) (i:=(j+1)) (by omega) 5 (by omega)) (by exact cellS_raw l day off (j:=j) (i:=(j+1)) (by omega) 6 (by omega)) (by exact cellS_raw l day off (j:=j) (i:=(j+1)) (by omega) 7 (by omega)) (by exact cellS_raw l day off (j:=j) (i:=(j+1)) (by omega) 8 (by omega)) (by exact cellS_raw l day off (j:=j) (i:=(j+1)) (by omega) 9 (by omega)) (by exact cellS_raw l day off (j:=j) (i:=(j+1)) (by omega) 10 (by omega)) (by exact cellS_raw l day off (j:=j) (i:=(j+1)) (by omega) 11 (by omega)) (by exact cellS_raw l day off (j:=j) (i:=(j+1)) (by omega) 12 (by omega)) (by exact cellS_raw l day off (j:=j) (i:=(j+1)) (by omega) 13 (by omega))))<|c_ (al_ 1)<|c_ (sw_ 1 8 (hst:=by exact fun _ _ _ hc=>st130 rfl rfl rfl rfl rfl rfl rfl rfl rfl rfl rfl rfl rfl rfl rfl hc))<|e_) (k:=fun E13 ac wd h_13=>?_)
  clear h_12
  refine then_n (wp_seq ?_)
  refine reg_cut mixed 12 [[0],[1],[2],[2,3],[4],[5],[5,6],[5,6,7],[4,5,6,7,8],[0,2,3,4,5,6,7,8,9],[0,2,3,4,5,6,7,8,9,10],[0,2,3,4,5,6,7,8,9,10,11],[0,1,2,3,4,5,6,7,8,9,10,11,12],[0,1,2,3,4,5,6,7,8,9,10,11,12,13],[0,1,2,3,4,5,6,7,8,9,10,11,12,13,14]] (by kernel_rfl) h_13 [some 69,some 70,some 71,some 72,some 73,some 74,some 75,some 76,some 77,some 78,some 79,none] [[0],[1],[2],[2,3],[4],[5],[5,6],[5,6,7],[4,5,6,7,8],[0,2,3,4,5,6,7,8,9],[0,2,3,4,5,6,7,8,9,10],[0,2,3,4,5,6,7,8,9,10,11]] [] [] [some fun _=>elt (.slice ((some ⟨g,0,none⟩)) l.length c) (j*14),some fun _=>elt (.slice ((some ⟨g,0,none⟩)) l.length c) (j*14),some fun _=>vP (pb E13 8) 0,some fun _=>vI ((sgi l (j+1)).d),some fun _=>vPc ((sgi l (j+1)).d) ((sgi l (j+1)).b*100000000000) (jn (sgi l (j+1)).f 0 0) ((sgi l (j+1)).r*100000000000) 0 0,some fun _=>vP (pb E13 8) 0,some fun _=>vI ((sgi l (j+1)).d),some fun _=>vW (jn ((sgi l (j+1)).d) 0 0),some fun _=>vW (fS (sgi l (j+1)) (jn (sgi l (j+1)).d 0 0)),some fun _=>elt (.slice ((some ⟨g,0,none⟩)) l.length c) (j*14),some fun _=>elt (.slice ((some ⟨g,0,none⟩)) l.length c) (j*14+13),none] [] (some (11,fun _ w=>OwnK 130 14 w w0.heap.size (.slice ((some ⟨g,0,none⟩)) l.length c) l.length ((pcS l day off j).set (0+(j*14+13)) (vI ((sgi l (j+1)).d))))) rfl (by kernel_rfl) (by kernel_rfl) (sn (sn (sn (sn (sn (sn (sn (sn (sn (sn (sn (sn s0 ?_) ?_) ?_) ?_) ?_) ?_) ?_) ?_) ?_) ?_) ?_) ?_) ?_
  · exact mv_
  · exact mv_
  · exact (fa0 (vP (pb E13 8) 0))
  · exact (ld_ 1 (hrd:=by exact rd3 rfl))
  · exact (ld_ 1 (hrd:=by exact rd130 rfl rfl rfl rfl rfl rfl rfl rfl rfl rfl rfl rfl rfl rfl))
  · exact (fa0 (vP (pb E13 8) 0))
  · exact (ld_ 1 (hrd:=by exact rd3 rfl))
  · exact (cl_ Tryz.func69 (h:=fun env=>⟨_,(begin_any ((sgi l (j+1)).d) (by omega) (by omega)),rfl⟩))
  · exact (cl_ Tryz.func68 (h:=fun env=>⟨_,(pat_any (sgi l (j+1)).d ((sgi l (j+1)).b*100000000000) (jn (sgi l (j+1)).f 0 0) ((sgi l (j+1)).r*100000000000) 0 0 (jn (sgi l (j+1)).d 0 0) hs.pc hnr),rfl⟩))
  · exact (nc0 (elt (.slice ((some ⟨g,0,none⟩)) l.length c) (j*14)))
  · exact s_fa rfl rfl rfl (fun _=>wanted_none rfl _) (j*14) 13 (j*14+13) rfl (s:=fun _=>.slice ((some ⟨g,0,none⟩)) l.length c) rfl (fun _=>rfl) (fun {D env ac wd} hA=>OwnK.elsX (hA.thO rfl)) (by omega) (fun b q w=>by simp [go_sem,Tryz.underlying130])
  · exact s_srK rfl rfl rfl rfl rfl rfl rfl (fun _ h=>h) (0+(j*14+13)) rfl (fun _=>rfl) (fun _=>rfl) (by simp) (stK_int (by simp [pcS_len]) (by omega) ((sgi l (j+1)).d))
  intro E14 ac wd hJ
  have h_14:Cur 98 w0 none (some g) (Facts []) (fun w=>OwnK 130 14 w w0.heap.size (.slice ((some ⟨g,0,none⟩)) l.length c) l.length ((pcS l day off j).set (0+(j*14+13)) (vI ((sgi l (j+1)).d)))) [(1,vI day),(2,vI off),(6,.pointer none),(7,vI 0),(8,vP (pb E3 1) 0),(11,vI (((j:Nat):Int))),(12,elt (.slice ((some ⟨g,0,none⟩)) l.length c) (j*14)),(13,vP (pb E13 8) 0),(43,vI ((l.length:Int))),(44,vI (((j:Nat):Int))),(45,.bool true),(46,vI (((j:Nat):Int))),(47,vP (pb E3 1) 0),(48,vP (pb E3 1) 0),(49,vP (pb E3 1) 0),(50,.slice ((some ⟨g,0,none⟩)) l.length c),(51,vI (((j:Nat):Int))),(52,elt (.slice ((some ⟨g,0,none⟩)) l.length c) (j*14)),(53,vI (((j:Nat):Int))),(54,vI (((j:Nat):Int)+1)),(55,vP (pb E3 1) 0),(56,vP (pb E3 1) 0),(57,vP (pb E3 1) 0),(58,.slice ((some ⟨g,0,none⟩)) l.length c),(59,vI ((l.length:Int))),(60,.bool true),(61,vP (pb E3 1) 0),(62,vP (pb E3 1) 0),(63,vP (pb E3 1) 0),(64,.slice ((some ⟨g,0,none⟩)) l.length c),(65,vI (((j:Nat):Int))),(66,vI (((j:Nat):Int)+1)),(67,elt (.slice ((some ⟨g,0,none⟩)) l.length c) ((j+1)*14)),(68,vPc ((sgi l (j+1)).d) ((sgi l (j+1)).b*100000000000) (jn (sgi l (j+1)).f 0 0) ((sgi l (j+1)).r*100000000000) 0 0),(69,elt (.slice ((some ⟨g,0,none⟩)) l.length c) (j*14)),(70,elt (.slice ((some ⟨g,0,none⟩)) l.length c) (j*14)),(71,vP (pb E13 8) 0),(72,vI ((sgi l (j+1)).d)),(73,vPc ((sgi l (j+1)).d) ((sgi l (j+1)).b*100000000000) (jn (sgi l (j+1)).f 0 0) ((sgi l (j+1)).r*100000000000) 0 0),(74,vP (pb E13 8) 0),(75,vI ((sgi l (j+1)).d)),(76,vW (jn ((sgi l (j+1)).d) 0 0)),(77,vW (fS (sgi l (j+1)) (jn (sgi l (j+1)).d 0 0))),(78,elt (.slice ((some ⟨g,0,none⟩)) l.length c) (j*14)),(79,elt (.slice ((some ⟨g,0,none⟩)) l.length c) (j*14+13))] [((pb E3 1),126,[.slice ((some ⟨g,0,none⟩)) l.length c]),((pb E13 8),130,[vI ((sgi l (j+1)).d),vI (hi ((sgi l (j+1)).b*100000000000)),.int .u64 (lo ((sgi l (j+1)).b*100000000000)),vI (hi (jn (sgi l (j+1)).f 0 0)),.int .u64 (lo (jn (sgi l (j+1)).f 0 0)),vI (hi (dayA)),.int .u64 (lo (dayA)),vI (hi (dayA+(sgi l (j+1)).r*100000000000)),.int .u64 (lo (dayA+(sgi l (j+1)).r*100000000000)),vI (hi ((sgi l (j+1)).r*100000000000)),.int .u64 (lo ((sgi l (j+1)).r*100000000000)),vI (hi (0)),.int .u64 (lo (0)),vI 0])] ac wd:=hJ.curF rfl rfl rfl (fun _ h=>h) rfl rfl rfl
  clear hJ h_13
  refine reg_rest h_14 [some 80,some 81,none] [[0],[0,1],[0,1,2]] [] [] [some fun _=>elt (.slice ((some ⟨g,0,none⟩)) l.length c) (j*14),some fun _=>elt (.slice ((some ⟨g,0,none⟩)) l.length c) (j*14+11),none] [] (some (2,fun _ w=>OwnK 130 14 w w0.heap.size (.slice ((some ⟨g,0,none⟩)) l.length c) l.length ((((pcS l day off j).set (0+(j*14+13)) (vI ((sgi l (j+1)).d))).set (0+(j*14+11)) (vI (hi (fS (sgi l (j+1)) (jn (sgi l (j+1)).d 0 0))))).set ((0+(j*14+11))+1) (.int .u64 (lo (fS (sgi l (j+1)) (jn (sgi l (j+1)).d 0 0))))))) rfl (by kernel_rfl) (by kernel_rfl) (by kernel_rfl) (sn (sn (sn s0 ?_) ?_) ?_) ?_
  · exact (nc0 (elt (.slice ((some ⟨g,0,none⟩)) l.length c) (j*14)))
  · exact s_fa rfl rfl rfl (fun _=>wanted_none rfl _) (j*14) 11 (j*14+11) rfl (s:=fun _=>.slice ((some ⟨g,0,none⟩)) l.length c) rfl (fun _=>rfl) (fun {D env ac wd} hA=>OwnK.elsX (hA.thO rfl)) (by omega) (fun b q w=>by simp [go_sem,Tryz.underlying130])
  · exact s_srK rfl rfl rfl rfl rfl rfl rfl (fun _ h=>h) (0+(j*14+11)) rfl (fun _=>rfl) (fun _=>rfl) (by simp) (stK_wide (by simp [pcS_len]) (by omega) (fS (sgi l (j+1)) (jn (sgi l (j+1)).d 0 0)))
  intro E15 ac wd hJ
  have h_15:Cur 98 w0 none (some g) (Facts []) (fun w=>OwnK 130 14 w w0.heap.size (.slice ((some ⟨g,0,none⟩)) l.length c) l.length ((((pcS l day off j).set (0+(j*14+13)) (vI ((sgi l (j+1)).d))).set (0+(j*14+11)) (vI (hi (fS (sgi l (j+1)) (jn (sgi l (j+1)).d 0 0))))).set ((0+(j*14+11))+1) (.int .u64 (lo (fS (sgi l (j+1)) (jn (sgi l (j+1)).d 0 0)))))) [(1,vI day),(2,vI off),(6,.pointer none),(7,vI 0),(8,vP (pb E3 1) 0),(11,vI (((j:Nat):Int))),(12,elt (.slice ((some ⟨g,0,none⟩)) l.length c) (j*14)),(13,vP (pb E13 8) 0),(43,vI ((l.length:Int))),(44,vI (((j:Nat):Int))),(45,.bool true),(46,vI (((j:Nat):Int))),(47,vP (pb E3 1) 0),(48,vP (pb E3 1) 0),(49,vP (pb E3 1) 0),(50,.slice ((some ⟨g,0,none⟩)) l.length c),(51,vI (((j:Nat):Int))),(52,elt (.slice ((some ⟨g,0,none⟩)) l.length c) (j*14)),(53,vI (((j:Nat):Int))),(54,vI (((j:Nat):Int)+1)),(55,vP (pb E3 1) 0),(56,vP (pb E3 1) 0),(57,vP (pb E3 1) 0),(58,.slice ((some ⟨g,0,none⟩)) l.length c),(59,vI ((l.length:Int))),(60,.bool true),(61,vP (pb E3 1) 0),(62,vP (pb E3 1) 0),(63,vP (pb E3 1) 0),(64,.slice ((some ⟨g,0,none⟩)) l.length c),(65,vI (((j:Nat):Int))),(66,vI (((j:Nat):Int)+1)),(67,elt (.slice ((some ⟨g,0,none⟩)) l.length c) ((j+1)*14)),(68,vPc ((sgi l (j+1)).d) ((sgi l (j+1)).b*100000000000) (jn (sgi l (j+1)).f 0 0) ((sgi l (j+1)).r*100000000000) 0 0),(69,elt (.slice ((some ⟨g,0,none⟩)) l.length c) (j*14)),(70,elt (.slice ((some ⟨g,0,none⟩)) l.length c) (j*14)),(71,vP (pb E13 8) 0),(72,vI ((sgi l (j+1)).d)),(73,vPc ((sgi l (j+1)).d) ((sgi l (j+1)).b*100000000000) (jn (sgi l (j+1)).f 0 0) ((sgi l (j+1)).r*100000000000) 0 0),(74,vP (pb E13 8) 0),(75,vI ((sgi l (j+1)).d)),(76,vW (jn ((sgi l (j+1)).d) 0 0)),(77,vW (fS (sgi l (j+1)) (jn (sgi l (j+1)).d 0 0))),(78,elt (.slice ((some ⟨g,0,none⟩)) l.length c) (j*14)),(79,elt (.slice ((some ⟨g,0,none⟩)) l.length c) (j*14+13)),(80,elt (.slice ((some ⟨g,0,none⟩)) l.length c) (j*14)),(81,elt (.slice ((some ⟨g,0,none⟩)) l.length c) (j*14+11))] [((pb E3 1),126,[.slice ((some ⟨g,0,none⟩)) l.length c]),((pb E13 8),130,[vI ((sgi l (j+1)).d),vI (hi ((sgi l (j+1)).b*100000000000)),.int .u64 (lo ((sgi l (j+1)).b*100000000000)),vI (hi (jn (sgi l (j+1)).f 0 0)),.int .u64 (lo (jn (sgi l (j+1)).f 0 0)),vI (hi (dayA)),.int .u64 (lo (dayA)),vI (hi (dayA+(sgi l (j+1)).r*100000000000)),.int .u64 (lo (dayA+(sgi l (j+1)).r*100000000000)),vI (hi ((sgi l (j+1)).r*100000000000)),.int .u64 (lo ((sgi l (j+1)).r*100000000000)),vI (hi (0)),.int .u64 (lo (0)),vI 0])] ac wd:=hJ.curF rfl rfl rfl (fun _ h=>h) rfl rfl rfl
  clear hJ h_14
  refine then_n (wp_exit (then_e (blk_x (then_n ?_))))
  refine rf_ h_15 [[0],[0,1]] [K_ (vI (((j:Nat):Int)+1)),K_ (vI (((j:Nat):Int)+1))] (fun E16=>[(1,vI day),(2,vI off),(6,.pointer none),(7,vI 0),(8,vP (pb E3 1) 0),(11,vN j),(12,elt (.slice ((some ⟨g,0,none⟩)) l.length c) (j*14)),(13,vP (pb E13 8) 0),(43,vN l.length),(44,vI (((j:Nat):Int)+1)),(45,bT),(46,vN j),(47,vP (pb E3 1) 0),(48,vP (pb E3 1) 0),(49,vP (pb E3 1) 0),(50,.slice ((some ⟨g,0,none⟩)) l.length c),(51,vN j),(52,elt (.slice ((some ⟨g,0,none⟩)) l.length c) (j*14)),(53,vN j),(54,vI (((j:Nat):Int)+1)),(55,vP (pb E3 1) 0),(56,vP (pb E3 1) 0),(57,vP (pb E3 1) 0),(58,.slice ((some ⟨g,0,none⟩)) l.length c),(59,vN l.length),(60,bT),(61,vP (pb E3 1) 0),(62,vP (pb E3 1) 0),(63,vP (pb E3 1) 0),(64,.slice ((some ⟨g,0,none⟩)) l.length c),(65,vN j),(66,vI (((j:Nat):Int)+1)),(67,elt (.slice ((some ⟨g,0,none⟩)) l.length c) ((j+1)*14)),(68,vPc ((sgi l (j+1)).d) ((sgi l (j+1)).b*100000000000) (jn (sgi l (j+1)).f 0 0) ((sgi l (j+1)).r*100000000000) 0 0),(69,elt (.slice ((some ⟨g,0,none⟩)) l.length c) (j*14)),(70,elt (.slice ((some ⟨g,0,none⟩)) l.length c) (j*14)),(71,vP (pb E13 8) 0),(72,vI ((sgi l (j+1)).d)),(73,vPc ((sgi l (j+1)).d) ((sgi l (j+1)).b*100000000000) (jn (sgi l (j+1)).f 0 0) ((sgi l (j+1)).r*100000000000) 0 0),(74,vP (pb E13 8) 0),(75,vI ((sgi l (j+1)).d)),(76,vW (jn ((sgi l (j+1)).d) 0 0)),(77,vW (fS (sgi l (j+1)) (jn (sgi l (j+1)).d 0 0))),(78,elt (.slice ((some ⟨g,0,none⟩)) l.length c) (j*14)),(79,elt (.slice ((some ⟨g,0,none⟩)) l.length c) (j*14+13)),(80,elt (.slice ((some ⟨g,0,none⟩)) l.length c) (j*14)),(81,elt (.slice ((some ⟨g,0,none⟩)) l.length c) (j*14+11)),(93,vI (((j:Nat):Int)+1))]) (hs:=c_ (bi0 (vN j) (vI 1))<|c_ mv_<|e_) (k:=fun E16 ac wd h_16=>?_)
  clear h_15
  refine then_n ?_
  exact ⟨⟨j+1,by omega,((h_16.take (M1:=[_]) rfl).re rfl).th (fun w hw=>by rw [← pcS_step,eU,eE];exact hw)⟩,by rw [sI_eq (h_16.g (t:=44) rfl),hmu];omega⟩
  have eU:untS l day j=day:=(by unfold untS;rw [if_neg h2]);have eE:endS l day off j=jn day off 0:=(by unfold endS;rw [if_neg h2])
  refine rf_ h_11 [[0],[0,1],[2],[2,3],[2,3,4],[2,3,4,5],[2,3,4,5,6],r_ 8] [K_ (vN j),K_ (vI (((j:Nat):Int)+1)),K_ (vP (pb E3 1) 0),K_ (vP (pb E3 1) 0),K_ (vP (pb E3 1) 0),K_ (.slice ((some ⟨g,0,none⟩)) l.length c),K_ (vN l.length),K_ bF] (fun E12=>[(1,vI day),(2,vI off),(6,.pointer none),(7,vI 0),(8,vP (pb E3 1) 0),(11,vN j),(12,elt (.slice ((some ⟨g,0,none⟩)) l.length c) (j*14)),(43,vN l.length),(44,vN j),(45,bT),(46,vN j),(47,vP (pb E3 1) 0),(48,vP (pb E3 1) 0),(49,vP (pb E3 1) 0),(50,.slice ((some ⟨g,0,none⟩)) l.length c),(51,vN j),(52,elt (.slice ((some ⟨g,0,none⟩)) l.length c) (j*14)),(53,vN j),(54,vI (((j:Nat):Int)+1)),(55,vP (pb E3 1) 0),(56,vP (pb E3 1) 0),(57,vP (pb E3 1) 0),(58,.slice ((some ⟨g,0,none⟩)) l.length c),(59,vN l.length),(60,bF)]) (hs:=c_ mv_<|c_ (bi0 (vN j) (vI 1))<|c_ mv_<|c_ (nc0 (vP (pb E3 1) 0))<|c_ (fa0 (vP (pb E3 1) 0))<|c_ (ld_ 0 (hrd:=by exact rd124 rfl))<|c_ (ln_ Tryz.underlying124 fun _ env _ wd hA=>(OwnK.rowP (cellS_get l day off j) (by omega) (hA.thO rfl)).els)<|c_ (bi0 (vI (((j:Nat):Int)+1)) (vN l.length))<|e_) (k:=fun E12 ac wd h_12=>?_)
  clear h_11
  refine then_n ?_
  refine wp_cond_false (eval_tmp (h_12.g (t:=60) rfl)) ?_
  refine wp_skip (then_n ?_)
  refine reg_cut mixed 10 [[0],[1],[2],[3],[4],[3,4,5],[3,4,5,6],[0,2,3,4,5,6,7],[0,2,3,4,5,6,7,8],[0,2,3,4,5,6,7,8,9],[0,1,2,3,4,5,6,7,8,9,10],[0,1,2,3,4,5,6,7,8,9,10,11],[0,1,2,3,4,5,6,7,8,9,10,11,12]] (by kernel_rfl) h_12 [some 82,some 83,some 84,some 85,some 86,some 87,some 88,some 89,some 90,none] [[0],[1],[2],[3],[4],[3,4,5],[3,4,5,6],[0,2,3,4,5,6,7],[0,2,3,4,5,6,7,8],[0,2,3,4,5,6,7,8,9]] [] [] [some fun _=>elt (.slice ((some ⟨g,0,none⟩)) l.length c) (j*14),some fun _=>elt (.slice ((some ⟨g,0,none⟩)) l.length c) (j*14),some fun _=>vI day,some fun _=>vI day,some fun _=>vI off,some fun _=>vL day off 0,some fun _=>vW (jn day off 0),some fun _=>elt (.slice ((some ⟨g,0,none⟩)) l.length c) (j*14),some fun _=>elt (.slice ((some ⟨g,0,none⟩)) l.length c) (j*14+13),none] [] (some (9,fun _ w=>OwnK 130 14 w w0.heap.size (.slice ((some ⟨g,0,none⟩)) l.length c) l.length ((pcS l day off j).set (0+(j*14+13)) (vI day)))) rfl (by kernel_rfl) (by kernel_rfl) (sn (sn (sn (sn (sn (sn (sn (sn (sn (sn s0 ?_) ?_) ?_) ?_) ?_) ?_) ?_) ?_) ?_) ?_) ?_
  · exact mv_
  · exact mv_
  · exact mv_
  · exact mv_
  · exact mv_
  · exact (bd0 ([vI day,vI off]))
  · exact (cl_ Tryz.func70 (h:=fun env=>⟨_,(rcount_any day off 0 (by omega) (by omega) (by omega) (by omega) (by omega) (by omega)),rfl⟩))
  · exact (nc0 (elt (.slice ((some ⟨g,0,none⟩)) l.length c) (j*14)))
  · exact s_fa rfl rfl rfl (fun _=>wanted_none rfl _) (j*14) 13 (j*14+13) rfl (s:=fun _=>.slice ((some ⟨g,0,none⟩)) l.length c) rfl (fun _=>rfl) (fun {D env ac wd} hA=>OwnK.elsX (hA.thO rfl)) (by omega) (fun b q w=>by simp [go_sem,Tryz.underlying130])
  · exact s_srK rfl rfl rfl rfl rfl rfl rfl (fun _ h=>h) (0+(j*14+13)) rfl (fun _=>rfl) (fun _=>rfl) (by simp) (stK_int (by simp [pcS_len]) (by omega) day)
  intro E13 ac wd hJ
  have h_13:Cur 98 w0 none (some g) (Facts []) (fun w=>OwnK 130 14 w w0.heap.size (.slice ((some ⟨g,0,none⟩)) l.length c) l.length ((pcS l day off j).set (0+(j*14+13)) (vI day))) [(1,vI day),(2,vI off),(6,.pointer none),(7,vI 0),(8,vP (pb E3 1) 0),(11,vI (((j:Nat):Int))),(12,elt (.slice ((some ⟨g,0,none⟩)) l.length c) (j*14)),(43,vI ((l.length:Int))),(44,vI (((j:Nat):Int))),(45,.bool true),(46,vI (((j:Nat):Int))),(47,vP (pb E3 1) 0),(48,vP (pb E3 1) 0),(49,vP (pb E3 1) 0),(50,.slice ((some ⟨g,0,none⟩)) l.length c),(51,vI (((j:Nat):Int))),(52,elt (.slice ((some ⟨g,0,none⟩)) l.length c) (j*14)),(53,vI (((j:Nat):Int))),(54,vI (((j:Nat):Int)+1)),(55,vP (pb E3 1) 0),(56,vP (pb E3 1) 0),(57,vP (pb E3 1) 0),(58,.slice ((some ⟨g,0,none⟩)) l.length c),(59,vI ((l.length:Int))),(60,.bool false),(82,elt (.slice ((some ⟨g,0,none⟩)) l.length c) (j*14)),(83,elt (.slice ((some ⟨g,0,none⟩)) l.length c) (j*14)),(84,vI day),(85,vI day),(86,vI off),(87,vL day off 0),(88,vW (jn day off 0)),(89,elt (.slice ((some ⟨g,0,none⟩)) l.length c) (j*14)),(90,elt (.slice ((some ⟨g,0,none⟩)) l.length c) (j*14+13))] [((pb E3 1),126,[.slice ((some ⟨g,0,none⟩)) l.length c])] ac wd:=hJ.curF rfl rfl rfl (fun _ h=>h) rfl rfl rfl
  clear hJ h_12
  refine reg_rest h_13 [some 91,some 92,none] [[0],[0,1],[0,1,2]] [] [] [some fun _=>elt (.slice ((some ⟨g,0,none⟩)) l.length c) (j*14),some fun _=>elt (.slice ((some ⟨g,0,none⟩)) l.length c) (j*14+11),none] [] (some (2,fun _ w=>OwnK 130 14 w w0.heap.size (.slice ((some ⟨g,0,none⟩)) l.length c) l.length ((((pcS l day off j).set (0+(j*14+13)) (vI day)).set (0+(j*14+11)) (vI (hi (jn day off 0)))).set ((0+(j*14+11))+1) (.int .u64 (lo (jn day off 0)))))) rfl (by kernel_rfl) (by kernel_rfl) (by kernel_rfl) (sn (sn (sn s0 ?_) ?_) ?_) ?_
  · exact (nc0 (elt (.slice ((some ⟨g,0,none⟩)) l.length c) (j*14)))
  · exact s_fa rfl rfl rfl (fun _=>wanted_none rfl _) (j*14) 11 (j*14+11) rfl (s:=fun _=>.slice ((some ⟨g,0,none⟩)) l.length c) rfl (fun _=>rfl) (fun {D env ac wd} hA=>OwnK.elsX (hA.thO rfl)) (by omega) (fun b q w=>by simp [go_sem,Tryz.underlying130])
  · exact s_srK rfl rfl rfl rfl rfl rfl rfl (fun _ h=>h) (0+(j*14+11)) rfl (fun _=>rfl) (fun _=>rfl) (by simp) (stK_wide (by simp [pcS_len]) (by omega) (jn day off 0))
  intro E14 ac wd hJ
  have h_14:Cur 98 w0 none (some g) (Facts []) (fun w=>OwnK 130 14 w w0.heap.size (.slice ((some ⟨g,0,none⟩)) l.length c) l.length ((((pcS l day off j).set (0+(j*14+13)) (vI day)).set (0+(j*14+11)) (vI (hi (jn day off 0)))).set ((0+(j*14+11))+1) (.int .u64 (lo (jn day off 0))))) [(1,vI day),(2,vI off),(6,.pointer none),(7,vI 0),(8,vP (pb E3 1) 0),(11,vI (((j:Nat):Int))),(12,elt (.slice ((some ⟨g,0,none⟩)) l.length c) (j*14)),(43,vI ((l.length:Int))),(44,vI (((j:Nat):Int))),(45,.bool true),(46,vI (((j:Nat):Int))),(47,vP (pb E3 1) 0),(48,vP (pb E3 1) 0),(49,vP (pb E3 1) 0),(50,.slice ((some ⟨g,0,none⟩)) l.length c),(51,vI (((j:Nat):Int))),(52,elt (.slice ((some ⟨g,0,none⟩)) l.length c) (j*14)),(53,vI (((j:Nat):Int))),(54,vI (((j:Nat):Int)+1)),(55,vP (pb E3 1) 0),(56,vP (pb E3 1) 0),(57,vP (pb E3 1) 0),(58,.slice ((some ⟨g,0,none⟩)) l.length c),(59,vI ((l.length:Int))),(60,.bool false),(82,elt (.slice ((some ⟨g,0,none⟩)) l.length c) (j*14)),(83,elt (.slice ((some ⟨g,0,none⟩)) l.length c) (j*14)),(84,vI day),(85,vI day),(86,vI off),(87,vL day off 0),(88,vW (jn day off 0)),(89,elt (.slice ((some ⟨g,0,none⟩)) l.length c) (j*14)),(90,elt (.slice ((some ⟨g,0,none⟩)) l.length c) (j*14+13)),(91,elt (.slice ((some ⟨g,0,none⟩)) l.length c) (j*14)),(92,elt (.slice ((some ⟨g,0,none⟩)) l.length c) (j*14+11))] [((pb E3 1),126,[.slice ((some ⟨g,0,none⟩)) l.length c])] ac wd:=hJ.curF rfl rfl rfl (fun _ h=>h) rfl rfl rfl
  clear hJ h_13
  refine blk_n (then_n ?_)
  refine rf_ h_14 [[0],[0,1]] [K_ (vI (((j:Nat):Int)+1)),K_ (vI (((j:Nat):Int)+1))] (fun E15=>[(1,vI day),(2,vI off),(6,.pointer none),(7,vI 0),(8,vP (pb E3 1) 0),(11,vN j),(12,elt (.slice ((some ⟨g,0,none⟩)) l.length c) (j*14)),(43,vN l.length),(44,vI (((j:Nat):Int)+1)),(45,bT),(46,vN j),(47,vP (pb E3 1) 0),(48,vP (pb E3 1) 0),(49,vP (pb E3 1) 0),(50,.slice ((some ⟨g,0,none⟩)) l.length c),(51,vN j),(52,elt (.slice ((some ⟨g,0,none⟩)) l.length c) (j*14)),(53,vN j),(54,vI (((j:Nat):Int)+1)),(55,vP (pb E3 1) 0),(56,vP (pb E3 1) 0),(57,vP (pb E3 1) 0),(58,.slice ((some ⟨g,0,none⟩)) l.length c),(59,vN l.length),(60,bF),(82,elt (.slice ((some ⟨g,0,none⟩)) l.length c) (j*14)),(83,elt (.slice ((some ⟨g,0,none⟩)) l.length c) (j*14)),(84,vI day),(85,vI day),(86,vI off),(87,vL day off 0),(88,vW (jn day off 0)),(89,elt (.slice ((some ⟨g,0,none⟩)) l.length c) (j*14)),(90,elt (.slice ((some ⟨g,0,none⟩)) l.length c) (j*14+13)),(91,elt (.slice ((some ⟨g,0,none⟩)) l.length c) (j*14)),(92,elt (.slice ((some ⟨g,0,none⟩)) l.length c) (j*14+11)),(93,vI (((j:Nat):Int)+1))]) (hs:=c_ (bi0 (vN j) (vI 1))<|c_ mv_<|e_) (k:=fun E15 ac wd h_15=>?_)
  clear h_14
  refine then_n ?_
  exact ⟨⟨j+1,by omega,((h_15.take (M1:=[_]) rfl).re rfl).th (fun w hw=>by rw [← pcS_step,eU,eE];exact hw)⟩,by rw [sI_eq (h_15.g (t:=44) rfl),hmu];omega⟩
  obtain rfl:j=l.length:=by omega
  refine rf_ h_8 [[0]] [K_ bF] (fun E9=>[(1,vI day),(2,vI off),(6,.pointer none),(7,vI 0),(8,vP (pb E3 1) 0),(43,vN l.length),(44,vN l.length),(45,bF)]) (hs:=c_ (bi0 (vN l.length) (vN l.length))<|e_) (k:=fun E9 ac wd h_9=>?_)
  clear h_8
  refine then_n (wp_seq ?_)
  refine wp_cond_false (eval_tmp (h_9.g (t:=45) rfl)) ?_
  refine wp_exit (then_e (then_e (blk_x (then_n (wp_seq (wp_seq ?_))))))
  cases hst2:(List.range l.length).all (stB l day off)
  refine rf_ h_9 (tri 3) [K_ (vP (pb E3 1) 0),K_ bF,K_ bT] (fun E10=>[(6,.pointer none),(7,vI 0),(8,vP (pb E3 1) 0),(96,bT)]) (hs:=c_ mv_<|c_ (cw_ Tryz.func71 (h:=fun _ env _ wd hA=>⟨_,((steps_any wd (pb E3 1) g c l day off ⟨hA.own 0 rfl rfl trivial,OwnK.rowP (cellS_all l day off) (by omega) (hA.thO rfl)⟩ hL).mono (fun e w' h=>by rw [hst2] at h;exact h)),rfl⟩))<|c_ (un0 bF)<|e_) (k:=fun E10 ac wd h_10=>?_)
  clear h_9
  refine then_n ?_
  refine wp_cond_true (eval_tmp (h_10.g (t:=96) rfl)) ?_
  refine wp_seq ?_
  refine rf_ h_10 [[0],[0,1]] [K_ (.pointer none),K_ (vI 10)] (fun E11=>[(6,.pointer none),(7,vI 10),(8,vP (pb E3 1) 0)]) (hs:=c_ mv_<|c_ mv_<|e_) (k:=fun E11 ac wd h_11=>?_)
  clear h_10
  refine then_n (wp_ret (then_ret ?_))
  have s6:=h_11.g (t:=6) rfl
  have s7:=h_11.g (t:=7) rfl
  refine leave (v:=vT2 (.pointer none) (vI 10)) h_11.df (by simp [results,Tryz.results41,go_sem,Array.getD_eq_getD_getElem?,s6,s7]) ?_
  have hm:mayS l day off=false:=by simp [mayS,hst2]
  exact ⟨_,_,rfl,h_11.st.below,by rw [hm];exact ⟨rfl,rfl⟩⟩
  refine rf_ h_9 (tri 3) [K_ (vP (pb E3 1) 0),K_ bT,K_ bF] (fun E10=>[(6,.pointer none),(7,vI 0),(8,vP (pb E3 1) 0),(96,bF)]) (hs:=c_ mv_<|c_ (cw_ Tryz.func71 (h:=fun _ env _ wd hA=>⟨_,((steps_any wd (pb E3 1) g c l day off ⟨hA.own 0 rfl rfl trivial,OwnK.rowP (cellS_all l day off) (by omega) (hA.thO rfl)⟩ hL).mono (fun e w' h=>by rw [hst2] at h;exact h)),rfl⟩))<|c_ (un0 bT)<|e_) (k:=fun E10 ac wd h_10=>?_)
  clear h_9
  refine then_n ?_
  refine wp_cond_false (eval_tmp (h_10.g (t:=96) rfl)) ?_
  refine wp_skip (then_n (wp_seq ?_))
  refine rf_ h_10 (tri 3) [K_ (vP (pb E3 1) 0),K_ (vP (pb E3 1) 0),K_ (vI 0)] (fun E11=>[(6,vP (pb E3 1) 0),(7,vI 0)]) (hs:=c_ mv_<|c_ mv_<|c_ mv_<|e_) (k:=fun E11 ac wd h_11=>?_)
  clear h_10
  refine then_n (wp_ret ?_)
  have s6:=h_11.g (t:=6) rfl
  have s7:=h_11.g (t:=7) rfl
  refine leave (v:=vT2 (vP (pb E3 1) 0) (vI 0)) h_11.df (by simp [results,Tryz.results41,go_sem,Array.getD_eq_getD_getElem?,s6,s7]) ?_
  have hm:mayS l day off=true:=by simp [mayS,hz,hst2]
  exact ⟨_,_,rfl,h_11.st.below,by rw [hm];exact ⟨rfl,_,g,c,rfl,⟨(h_11.st.own 0 _ rfl).2,OwnK.rowP (cellS_all l day off) (by omega) h_11.st.nowT⟩,(h_11.st.own 0 _ rfl).1,hgB⟩⟩
end Go.Proofs.YtdfkghpgekmmlaaGreat
namespace Go.Proofs.YtdfkghpgekmmlaaGreat
open Go.RowKit
def NewX (ex:Option Nat) (w:World) (v:Value) (l:List Sg) (day off:Int):Prop:=v = .tuple #[tp v 0,vI 0]∧IsR ex w (tp v 0) l day off
def newF (v:Value):Value:=.tuple #[vP (ptrB (tp v 0)) 0,vI 0]
theorem NewX.form {ex:Option Nat} {w:World} {v:Value} {l:List Sg} {day off:Int} (h:NewX ex w v l day off):v=newF v:=by
 unfold newF
 rw [← h.2.form]
 exact h.1
theorem NewX.keep {ex:Option Nat} {w w':World} {v:Value} {l:List Sg} {day off:Int} (h:NewX ex w v l day off) (hk:KeepT [126,130] ex w w'):NewX ex w' v l day off:=⟨h.1,h.2.keep hk⟩
theorem rNew_yes (w0:World) (A0:Option Addr) (c0:Nat) (l:List Sg) (hl:SegU w0 (.slice A0 l.length c0) l) (day off:Int) (hd0:-9223372036854775808≤day) (hd1:day < 9223372036854775808) (hm:mayS l day off=true) {ex:Option Nat} (hx:∀ k,ex=some k→k < w0.heap.size) :
    Calls Tryz.prog 41 #[.slice A0 l.length c0,vI day,vI off] w0 fun e w'=>∃ v,e = .returned v∧Below w0.heap.size w0 w'∧NewX ex w' v l day off:=by
  refine (rNew_any w0 A0 c0 l hl day off hd0 hd1).mono ?_
  rintro e w' ⟨v,x,rfl,hb,h⟩
  rw [if_pos hm] at h
  obtain ⟨rfl,h⟩:=h
  exact ⟨_,rfl,hb,rfl,h.x hx⟩
section
variable {w0:World} {ex:Option Nat} {v:Value} {l:List Sg} {day off:Int} (h:IsR ex w0 v l day off) (hL:LOk l day off)
include h hL
theorem tai_X (d s a:Int) (hd0:-9223372036854775808≤d) (hd1:d < 9223372036854775808):Calls Tryz.prog 72 #[vP (ptrB v) 0,vL d s a] w0 fun e w'=>e = .returned (vT2 (vW (taiV l day off d s a)) (vI (taiE l day off d s a)))∧Below w0.heap.size w0 w':=by
 obtain ⟨g,c,hR⟩:=h.at
 exact tai_any w0 _ g c l day off hR hL d s a hd0 hd1
theorem label_X (t:Int) (ht:InW t):Calls Tryz.prog 86 #[vP (ptrB v) 0,vW t] w0 fun e w'=>e = .returned (vT2 (vL (labD l day off t) (labS l day off t) (labA l day off t)) (vI (labE l day off t)))∧Below w0.heap.size w0 w':=by
 obtain ⟨g,c,hR⟩:=h.at
 exact label_any w0 _ g c l day off hR hL t ht
end
def SegN (B:Nat) (w:World) (v:Value) (l:List Sg):Prop:=SegT w v l∧∀ b,v.ownBlock=some b→B≤b
def segF (l:List Sg) (v:Value):Value:=.slice (sA v) l.length (sC v)
theorem SegN.form {B:Nat} {w:World} {v:Value} {l:List Sg} (h:SegN B w v l):v=segF l v:=h.1.form
theorem SegN.keep {B:Nat} {w w':World} {v:Value} {l:List Sg} (h:SegN B w v l) (hk:KeepT [128] none w w'):SegN B w' v l:=⟨h.1.keep (Ts:=[128]) rfl hk (fun _ h=>by cases h),h.2⟩
theorem SegN.u {B:Nat} {w:World} {v:Value} {l:List Sg} (h:SegN B w v l):SegU w (.slice (sA v) l.length (sC v)) l:=h.1.u.re
def pubC:Array Value:=((List.range 52).map (sgC pubS)).toArray
theorem pub_new (w:World):SegN w.heap.size (w.alloc (.cells pubC 128)) (.slice (some ⟨w.heap.size,0,none⟩) 13 13) pubS:=by
  refine ⟨⟨_,13,rfl,by decide,by decide,.inr ⟨w.heap.size,0,pubC,_,rfl,heap_alloc_new w _,fun i hi=>?_⟩⟩,fun b hb=>?_⟩
  · have hi':i < 52:=by have:pubS.length=13:=rfl;omega
    simp [pubC,hi']
  · simp only [Value.ownBlock,Option.some.injEq] at hb;omega
theorem pub_new' (w:World) (c:Array Value) (hc:c=pubC):SegN w.heap.size (w.alloc (.cells c 128)) (.slice (some ⟨w.heap.size,0,none⟩) 13 13) pubS:=by subst hc;exact pub_new w
theorem segments_any (w:World):Calls Tryz.prog 42 #[] w fun e w'=>∃ v,e = .returned v∧Below w.heap.size w w'∧SegN w.heap.size w' v pubS:=by
 go_enter Tryz.func42,Tryz.ntmps42
 go_wp2
 go_ret
 exact ⟨_,rfl,(by repeat (first | exact Below.refl _ _ | assumption | refine below_al ?_ _ | refine below_dr ?_ | refine below_drN ?_ _ | refine below_set ?_ (by simp;try omega) _ | (refine below_to ?_ (by assumption)))),pub_new' w _ (by kernel_rfl)⟩
theorem pub_may:mayS pubS 41317 10=true:=by decide +kernel
theorem pub_ok:MOk pubS 41317 10:=mayS_ok pub_may
end Go.Proofs.YtdfkghpgekmmlaaGreat
namespace Go.Proofs.YtdfkghpgekmmlaaGreat
open Go.RowKit
def TaiX (B:Nat) (w:World) (v:Value) (z e:Int):Prop:=v = .tuple #[tp v 0,vI e]∧BigN B w (tp v 0) z
def taiF (z e:Int) (v:Value):Value:=.tuple #[bigF z (tp v 0),vI e]
theorem TaiX.form {B:Nat} {w:World} {v:Value} {z e:Int} (h:TaiX B w v z e):v=taiF z e v:=by
 unfold taiF
 rw [← h.2.form]
 exact h.1
theorem TaiX.keep {B:Nat} {w w':World} {v:Value} {z e:Int} (h:TaiX B w v z e) (hk:Keep none w w'):TaiX B w' v z e:=⟨h.1,h.2.keep hk⟩
section
variable {l:List Sg} {day off:Int}
theorem taiV_bd (h:MOk l day off) (d s a:Int):-100000000000000000000000000000≤taiV l day off d s a∧taiV l day off d s a≤100000000000000000000000000000:=by
  by_cases he:taiE l day off d s a=0
  · obtain ⟨hs,ha,hk,h1,h2,h3,h4,h5⟩:=tai_ok h he
    have hb:=begS_bd h.toLOk hk
    have hc:=h.toLOk.end_bd hk
    have h6:begS l (kS l d l.length)≤fS (sgi l (kS l d l.length)) (jn d s a):=(fS_le (h.seg _ hk)).2 (by unfold jn;omega)
    rw [h5];omega
  · unfold taiV;rw [if_neg he];omega
theorem taiV_in (h:MOk l day off) (d s a:Int):InW (taiV l day off d s a):=by
 have:=taiV_bd h d s a
 unfold InW;omega
theorem taiV_no {d s a:Int} (he:¬ taiE l day off d s a=0):taiV l day off d s a=0:=by unfold taiV;rw [if_neg he]
end
end Go.Proofs.YtdfkghpgekmmlaaGreat
