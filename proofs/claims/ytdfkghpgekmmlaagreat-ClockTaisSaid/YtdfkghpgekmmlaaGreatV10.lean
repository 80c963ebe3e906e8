/- Texts P17, U4, U5, Y1, P18, Y2, Y3, Y4 of one proof, one behind the other; what nothing here names is left out. -/
import Derived.Test.YtdfkghpgekmmlaaGreatV9
import Derived.Test.YtdfkghpgekmmlaaGreatZ6
import Derived.Test.YtdfkghpgekmmlaaGreatV7
import Derived.Test.YtdfkghpgekmmlaaGreatZ4
import Derived.IntWalk
import Derived.Test.YtdfkghpgekmmlaaGreatV8
set_option maxRecDepth 100000
set_option maxHeartbeats 8000000
set_option linter.unusedVariables false
set_option linter.unusedSimpArgs false
namespace Go.Proofs.YtdfkghpgekmmlaaGreat
open Go.RowKit
theorem jn_start (S z:Int):jn 0 S 0≤z↔S≤z / 1000000000000000000:=by unfold jn;omega
section
variable {es:List (Int × Int)} (h:okPre es es.length=true)
include h
theorem st_bd {i:Nat} (hi:i < es.length):1000000000≤startOf (es.getD i (0,0))∧startOf (es.getD i (0,0))≤2000000000000000:=by
 have:=okPre_num h hi
 unfold startOf dayOf
 omega
theorem rl_early (hn:0 < es.length) {z:Int} (h0:z < jn 0 (startOf (es.getD 0 (0,0))) 0):labUt es z=(8,0,0,0):=by
  have hb:=st_bd h hn
  have hs:z / 1000000000000000000 < startOf (es.getD 0 (0,0)):=Int.not_le.1 fun hh=>by have:=(jn_start _ _).2 hh;omega
  have hc:cnt startOf es (z / 1000000000000000000)=0:=by
    rcases Nat.eq_zero_or_pos (cnt startOf es (z / 1000000000000000000)) with h1 | h1
    · exact h1
    · have:=(cnt_start h (z / 1000000000000000000) hn).2 h1;omega
  unfold labUt labR
  by_cases h64:z / 1000000000000000000 < -9223372036854775808∨9223372036854775808≤z / 1000000000000000000
  · rw [if_pos h64,if_pos (by omega)]
  · rw [if_neg h64,if_pos hc]
end
end Go.Proofs.YtdfkghpgekmmlaaGreat
namespace Go.Proofs.YtdfkghpgekmmlaaGreat
open Go.RowKit
attribute [local go_sem] vN bT bF rS vW vM vL vT2 vT3 vP vI execOp Act.eval evC bigF vB hi_zero lo_zero Tryz.underlying24 Tryz.underlying26 Tryz.underlying39
theorem rform12_any (d s x:Int):Ret 74 #[vL d s x] (.bool (formB s x)):=by
 intro w0
 have hst:=St.start w0 (Θ:=fun _=>True) (fun _ _=>trivial)
 refine enter Tryz.func74 rfl (n:=21) rfl (Nat.le_of_ble_eq_true rfl) hst (L:=[(0,vL d s x)]) (lk_args rfl) (fun ac h=>?_)
 refine wp_seq ?_
 refine rg_ h [[0],[1]] [KE_ fun env=>vP (pb env 0) 0,K_ bF] (fun E1=>[(1,vP (pb E1 0) 0),(2,bF)]) (W:=[{ i:=0,T:=26,c0:=[vI d,vI s,vI x] }]) (M':=fun E1=>[((pb E1 0),26,[vI d,vI s,vI x])]) (hs:=c_ (bx0 0 (vL d s x))<|c_ mv_<|e_) (k:=fun E1 ac wd h_1=>?_)
 clear h
 refine then_n (wp_seq ?_)
 by_cases h0:0≤s
 by_cases h1:s≤86400
 by_cases h2:0≤x
 refine rg_ h_1 (tri 19) [K_ (vP (pb E1 0) 1),K_ (vI s),K_ bT,K_ bT,K_ (vP (pb E1 0) 1),K_ (vI s),K_ bT,K_ bT,K_ bT,K_ (vP (pb E1 0) 2),K_ (vI x),K_ bT,K_ bT,K_ bT,K_ (vP (pb E1 0) 2),K_ (vI x),K_ (.bool (decide (x < 1000000000000000000))),K_ (.bool (decide (x < 1000000000000000000))),K_ (.bool (decide (x < 1000000000000000000)))] (fun E2=>[(2,.bool (decide (x < 1000000000000000000)))]) (hs:=c_ (fa0 (vP (pb E1 0) 0))<|c_ (ld_ 0 (hrd:=by exact rd3 rfl))<|c_ (bi0 (vI s) (vI 0) (h:=by intro env w;simp [go_sem,h0]))<|c_ mv_<|c_ (fa0 (vP (pb E1 0) 0))<|c_ (ld_ 0 (hrd:=by exact rd3 rfl))<|c_ (bi0 (vI s) (vI 86400) (h:=by intro env w;simp [go_sem,h1]))<|c_ (pk0 bT bT bF (h:=by intro env w;simp [go_sem,h1]))<|c_ mv_<|c_ (fa0 (vP (pb E1 0) 0))<|c_ (ld_ 0 (hrd:=by exact rd3 rfl))<|c_ (bi0 (vI x) (vI 0) (h:=by intro env w;simp [go_sem,h2]))<|c_ (pk0 bT bT bF (h:=by intro env w;simp [go_sem,h2]))<|c_ mv_<|c_ (fa0 (vP (pb E1 0) 0))<|c_ (ld_ 0 (hrd:=by exact rd3 rfl))<|c_ (bi0 (vI x) (vI 1000000000000000000))<|c_ (pk0 bT (.bool (decide (x < 1000000000000000000))) bF)<|c_ mv_<|e_) (k:=fun E2 ac wd h_2=>?_)
 clear h_1
 refine then_n (wp_ret ?_)
 have s2:=h_2.g (t:=2) rfl
 refine leave (v:=.bool (decide (x < 1000000000000000000))) h_2.df (by simp [results,Tryz.results74,go_sem,Array.getD_eq_getD_getElem?,s2]) ?_
 have e:formB s x=decide (x < 1000000000000000000):=by have e0:=decide_eq_true h0;have e1:=decide_eq_true h1;have e2:=decide_eq_true h2;unfold formB wthn;rw [e0,e1,e2];simp only [Bool.true_and];exact decide_eq_decide.2 (by omega)
 exact ⟨by rw [e],h_2.st.below⟩
 refine rg_ h_1 (tri 19) [K_ (vP (pb E1 0) 1),K_ (vI s),K_ bT,K_ bT,K_ (vP (pb E1 0) 1),K_ (vI s),K_ bT,K_ bT,K_ bT,K_ (vP (pb E1 0) 2),K_ (vI x),K_ bF,K_ bF,K_ bF,K_ undef,K_ undef,K_ undef,K_ bF,K_ bF] (fun E2=>[(2,bF)]) (hs:=c_ (fa0 (vP (pb E1 0) 0))<|c_ (ld_ 0 (hrd:=by exact rd3 rfl))<|c_ (bi0 (vI s) (vI 0) (h:=by intro env w;simp [go_sem,h0]))<|c_ mv_<|c_ (fa0 (vP (pb E1 0) 0))<|c_ (ld_ 0 (hrd:=by exact rd3 rfl))<|c_ (bi0 (vI s) (vI 86400) (h:=by intro env w;simp [go_sem,h1]))<|c_ (pk0 bT bT bF (h:=by intro env w;simp [go_sem,h1]))<|c_ mv_<|c_ (fa0 (vP (pb E1 0) 0))<|c_ (ld_ 0 (hrd:=by exact rd3 rfl))<|c_ (bi0 (vI x) (vI 0) (h:=by intro env w;simp [go_sem,h2]))<|c_ (pk0 bT bF bF (h:=by intro env w;simp [go_sem,h2]))<|c_ mv_<|c_ off_<|c_ off_<|c_ off_<|c_ (pk0 bF undef bF)<|c_ mv_<|e_) (k:=fun E2 ac wd h_2=>?_)
 clear h_1
 refine then_n (wp_ret ?_)
 have s2:=h_2.g (t:=2) rfl
 refine leave (v:=.bool false) h_2.df (by simp [results,Tryz.results74,go_sem,Array.getD_eq_getD_getElem?,s2]) ?_
 have e:formB s x=false:=by simp [formB,wthn];omega
 exact ⟨by rw [e],h_2.st.below⟩
 refine rg_ h_1 (tri 19) [K_ (vP (pb E1 0) 1),K_ (vI s),K_ bT,K_ bT,K_ (vP (pb E1 0) 1),K_ (vI s),K_ bF,K_ bF,K_ bF,K_ undef,K_ undef,K_ undef,K_ bF,K_ bF,K_ undef,K_ undef,K_ undef,K_ bF,K_ bF] (fun E2=>[(2,bF)]) (hs:=c_ (fa0 (vP (pb E1 0) 0))<|c_ (ld_ 0 (hrd:=by exact rd3 rfl))<|c_ (bi0 (vI s) (vI 0) (h:=by intro env w;simp [go_sem,h0]))<|c_ mv_<|c_ (fa0 (vP (pb E1 0) 0))<|c_ (ld_ 0 (hrd:=by exact rd3 rfl))<|c_ (bi0 (vI s) (vI 86400) (h:=by intro env w;simp [go_sem,h1]))<|c_ (pk0 bT bF bF (h:=by intro env w;simp [go_sem,h1]))<|c_ mv_<|c_ off_<|c_ off_<|c_ off_<|c_ (pk0 bF undef bF)<|c_ mv_<|c_ off_<|c_ off_<|c_ off_<|c_ (pk0 bF undef bF)<|c_ mv_<|e_) (k:=fun E2 ac wd h_2=>?_)
 clear h_1
 refine then_n (wp_ret ?_)
 have s2:=h_2.g (t:=2) rfl
 refine leave (v:=.bool false) h_2.df (by simp [results,Tryz.results74,go_sem,Array.getD_eq_getD_getElem?,s2]) ?_
 have e:formB s x=false:=by simp [formB,wthn];omega
 exact ⟨by rw [e],h_2.st.below⟩
 refine rg_ h_1 (tri 19) [K_ (vP (pb E1 0) 1),K_ (vI s),K_ bF,K_ bF,K_ undef,K_ undef,K_ undef,K_ bF,K_ bF,K_ undef,K_ undef,K_ undef,K_ bF,K_ bF,K_ undef,K_ undef,K_ undef,K_ bF,K_ bF] (fun E2=>[(2,bF)]) (hs:=c_ (fa0 (vP (pb E1 0) 0))<|c_ (ld_ 0 (hrd:=by exact rd3 rfl))<|c_ (bi0 (vI s) (vI 0) (h:=by intro env w;simp [go_sem,h0]))<|c_ mv_<|c_ off_<|c_ off_<|c_ off_<|c_ (pk0 bF undef bF)<|c_ mv_<|c_ off_<|c_ off_<|c_ off_<|c_ (pk0 bF undef bF)<|c_ mv_<|c_ off_<|c_ off_<|c_ off_<|c_ (pk0 bF undef bF)<|c_ mv_<|e_) (k:=fun E2 ac wd h_2=>?_)
 clear h_1
 refine then_n (wp_ret ?_)
 have s2:=h_2.g (t:=2) rfl
 refine leave (v:=.bool false) h_2.df (by simp [results,Tryz.results74,go_sem,Array.getD_eq_getD_getElem?,s2]) ?_
 have e:formB s x=false:=by simp [formB,wthn];omega
 exact ⟨by rw [e],h_2.st.below⟩
theorem cnt0_iff {es:List (Int × Int)} (h:okPre es es.length=true) (hn:0 < es.length) (d:Int):cnt dayOf es d=0↔d < day0 es:=by
 have:=cnt_day h d hn
 unfold day0;omega
theorem u_res_eq {P:Program} {f:FuncId} {args:Array Value} {w0:World} {v v':Value} (h:Calls P f args w0 fun e w'=>e = .returned v∧Below w0.heap.size w0 w') (e:v=v'):Calls P f args w0 fun e w'=>e = .returned v'∧Below w0.heap.size w0 w':=by subst e;exact h
theorem off_no {es:List (Int × Int)} (h:okPre es es.length=true) (hn:0 < es.length) {d:Int} (hd:d < day0 es):Value.tuple #[.int .i64 (rOff es (cnt dayOf es d)),.bool (rOk (cnt dayOf es d))]=vT2 (vI (offV es d)) (.bool false):=by
 rw [(cnt0_iff h hn d).2 hd,show offV es d=rOff es (cnt dayOf es d) from rfl,(cnt0_iff h hn d).2 hd];rfl
theorem off_yes {es:List (Int × Int)} (h:okPre es es.length=true) (hn:0 < es.length) {d:Int} (hd:¬ d < day0 es):Value.tuple #[.int .i64 (rOff es (cnt dayOf es d)),.bool (rOk (cnt dayOf es d))]=vT2 (vI (offV es d)) (.bool true):=by
 have h1:cnt dayOf es d≠0:=fun hc=>hd ((cnt0_iff h hn d).1 hc)
 obtain ⟨k,hk⟩:∃ k,cnt dayOf es d=k+1:=⟨cnt dayOf es d-1,by omega⟩
 rw [show offV es d=rOff es (cnt dayOf es d) from rfl,hk];rfl
theorem rWhy_any (w0:World) (A0:Option Addr) (c0:Nat) (es:List (Int × Int)) (u x:Int) (hv:Ents w0 w0.heap.size (.slice A0 es.length c0) es) (hp:okPre es es.length=true) (hn0:0 < es.length) (d s a:Int):Calls Tryz.prog 45 #[.agg #[vI u,vI x,.slice A0 es.length c0],vL d s a] w0 fun e w'=>e = .returned (vI (whyU es d s a))∧Below w0.heap.size w0 w':=by
 have hst:=St.start w0 (Θ:=fun _=>True) (fun _ _=>trivial)
 refine enter Tryz.func45 rfl (n:=31) rfl (Nat.le_of_ble_eq_true rfl) hst (L:=[(0,.agg #[vI u,vI x,.slice A0 es.length c0]),(1,vL d s a)]) (lk_args rfl) (fun ac h=>?_)
 refine wp_seq ?_
 refine rg_ h [[0],[1],[2]] [KE_ fun env=>vP (pb env 0) 0,KE_ fun env=>vP (pb env 1) 0,K_ (vI 0)] (fun E1=>[(2,vP (pb E1 0) 0),(3,vP (pb E1 1) 0),(4,vI 0)]) (W:=[{ i:=0,T:=24,c0:=[vI u,vI x,.slice A0 es.length c0] },{ i:=1,T:=26,c0:=[vI d,vI s,vI a] }]) (M':=fun E1=>[((pb E1 0),24,[vI u,vI x,.slice A0 es.length c0]),((pb E1 1),26,[vI d,vI s,vI a])]) (hs:=c_ (bx0 0 (.agg #[vI u,vI x,.slice A0 es.length c0]))<|c_ (bx0 1 (vL d s a))<|c_ mv_<|e_) (k:=fun E1 ac wd h_1=>?_)
 clear h
 refine then_n (wp_seq (wp_seq ?_))
 cases hf:formB s a
 refine rg_ h_1 (tri 3) [K_ (vL d s a),K_ bF,K_ bT] (fun E2=>[(2,vP (pb E1 0) 0),(3,vP (pb E1 1) 0),(4,vI 0),(9,bT)]) (hs:=c_ (ld_ 1 (hrd:=by exact rd26 rfl rfl rfl))<|c_ (cl_ Tryz.func74 (h:=fun env=>⟨_,((rform12_any d s a).eq (congrArg Value.bool hf)),rfl⟩))<|c_ (un0 bF)<|e_) (k:=fun E2 ac wd h_2=>?_)
 clear h_1
 refine then_n ?_
 refine wp_cond_true (eval_tmp (h_2.g (t:=9) rfl)) ?_
 refine wp_seq ?_
 refine rg_ h_2 [[0]] [K_ (vI 1)] (fun E3=>[(2,vP (pb E1 0) 0),(3,vP (pb E1 1) 0),(4,vI 1)]) (hs:=c_ mv_<|e_) (k:=fun E3 ac wd h_3=>?_)
 clear h_2
 refine then_n (wp_ret (then_ret ?_))
 have s4:=h_3.g (t:=4) rfl
 refine leave (v:=vI 1) h_3.df (by simp [results,Tryz.results45,go_sem,Array.getD_eq_getD_getElem?,s4]) ?_
 have e:whyU es d s a=1:=by unfold whyU;simp [hf]
 exact ⟨by rw [e],h_3.st.below⟩
 refine rg_ h_1 (tri 3) [K_ (vL d s a),K_ bT,K_ bF] (fun E2=>[(2,vP (pb E1 0) 0),(3,vP (pb E1 1) 0),(4,vI 0),(9,bF)]) (hs:=c_ (ld_ 1 (hrd:=by exact rd26 rfl rfl rfl))<|c_ (cl_ Tryz.func74 (h:=fun env=>⟨_,((rform12_any d s a).eq (congrArg Value.bool hf)),rfl⟩))<|c_ (un0 bT)<|e_) (k:=fun E2 ac wd h_2=>?_)
 clear h_1
 refine then_n ?_
 refine wp_cond_false (eval_tmp (h_2.g (t:=9) rfl)) ?_
 refine wp_skip (then_n (wp_seq (wp_seq ?_)))
 cases hin:wthn d (-1099511627776) 1099511627776
 refine rg_ h_2 (tri 4) [K_ (vP (pb E1 1) 0),K_ (vI d),K_ bF,K_ bT] (fun E3=>[(2,vP (pb E1 0) 0),(3,vP (pb E1 1) 0),(4,vI 0),(13,bT)]) (hs:=c_ (fa0 (vP (pb E1 1) 0))<|c_ (ld_ 1 (hrd:=by exact rd3 rfl))<|c_ (cl_ Tryz.func75 (h:=fun env=>⟨_,((In_any d).eq (congrArg Value.bool hin)),rfl⟩))<|c_ (un0 bF)<|e_) (k:=fun E3 ac wd h_3=>?_)
 clear h_2
 refine then_n ?_
 refine wp_cond_true (eval_tmp (h_3.g (t:=13) rfl)) ?_
 refine wp_seq ?_
 refine rg_ h_3 [[0]] [K_ (vI 2)] (fun E4=>[(2,vP (pb E1 0) 0),(3,vP (pb E1 1) 0),(4,vI 2)]) (hs:=c_ mv_<|e_) (k:=fun E4 ac wd h_4=>?_)
 clear h_3
 refine then_n (wp_ret (then_ret ?_))
 have s4:=h_4.g (t:=4) rfl
 refine leave (v:=vI 2) h_4.df (by simp [results,Tryz.results45,go_sem,Array.getD_eq_getD_getElem?,s4]) ?_
 have e:whyU es d s a=2:=by unfold whyU;simp [hf,hin]
 exact ⟨by rw [e],h_4.st.below⟩
 refine rg_ h_2 (tri 4) [K_ (vP (pb E1 1) 0),K_ (vI d),K_ bT,K_ bF] (fun E3=>[(2,vP (pb E1 0) 0),(3,vP (pb E1 1) 0),(4,vI 0),(13,bF)]) (hs:=c_ (fa0 (vP (pb E1 1) 0))<|c_ (ld_ 1 (hrd:=by exact rd3 rfl))<|c_ (cl_ Tryz.func75 (h:=fun env=>⟨_,((In_any d).eq (congrArg Value.bool hin)),rfl⟩))<|c_ (un0 bT)<|e_) (k:=fun E3 ac wd h_3=>?_)
 clear h_2
 refine then_n ?_
 refine wp_cond_false (eval_tmp (h_3.g (t:=13) rfl)) ?_
 refine wp_skip (then_n (wp_seq (wp_seq ?_)))
 by_cases hd:d < day0 es
 refine rg_ h_3 [[0],[1],[1,2],r_ 4,r_ 5,r_ 6,[0,1,2,3,4,6],[0,1,2,3,4,5,7],r_ 9] [K_ (.agg #[vI u,vI x,.slice A0 es.length c0]),K_ (vP (pb E1 1) 0),K_ (vI d),K_ (vT2 (vI (offV es d)) bF),K_ (vT2 (vI (offV es d)) bF),K_ (vI (offV es d)),K_ bF,K_ (vI (offV es d)),K_ bF] (fun E4=>[(2,vP (pb E1 0) 0),(3,vP (pb E1 1) 0),(4,vI 0),(6,bF)]) (hs:=c_ (ld_ 0 (hrd:=by exact rd24 rfl rfl rfl))<|c_ (fa0 (vP (pb E1 1) 0))<|c_ (ld_ 1 (hrd:=by exact rd3 rfl))<|c_ (cw_ Tryz.func76 (h:=fun _ env _ wd hA=>⟨_,(u_res_eq (roffset_any _ es u x d wd (hv.gn hA.j.st.gr) hp) (off_no hp hn0 hd)),rfl⟩))<|c_ mv_<|c_ ext_<|c_ ext_<|c_ mv_<|c_ mv_<|e_) (k:=fun E4 ac wd h_4=>?_)
 clear h_3
 refine then_n (wp_seq ?_)
 refine rg_ h_4 [[0],[0,1]] [K_ bF,K_ bT] (fun E5=>[(2,vP (pb E1 0) 0),(3,vP (pb E1 1) 0),(4,vI 0),(22,bT)]) (hs:=c_ mv_<|c_ (un0 bF)<|e_) (k:=fun E5 ac wd h_5=>?_)
 clear h_4
 refine then_n ?_
 refine wp_cond_true (eval_tmp (h_5.g (t:=22) rfl)) ?_
 refine wp_seq ?_
 refine rg_ h_5 [[0]] [K_ (vI 8)] (fun E6=>[(2,vP (pb E1 0) 0),(3,vP (pb E1 1) 0),(4,vI 8)]) (hs:=c_ mv_<|e_) (k:=fun E6 ac wd h_6=>?_)
 clear h_5
 refine then_n (wp_ret (then_ret ?_))
 have s4:=h_6.g (t:=4) rfl
 refine leave (v:=vI 8) h_6.df (by simp [results,Tryz.results45,go_sem,Array.getD_eq_getD_getElem?,s4]) ?_
 have e:whyU es d s a=8:=by unfold whyU;simp [hf,hin,hd]
 exact ⟨by rw [e],h_6.st.below⟩
 obtain ⟨g0,g1⟩:=chgV_bd hp d
 refine rg_ h_3 [[0],[1],[1,2],r_ 4,r_ 5,r_ 6,[0,1,2,3,4,6],[0,1,2,3,4,5,7],r_ 9] [K_ (.agg #[vI u,vI x,.slice A0 es.length c0]),K_ (vP (pb E1 1) 0),K_ (vI d),K_ (vT2 (vI (offV es d)) bT),K_ (vT2 (vI (offV es d)) bT),K_ (vI (offV es d)),K_ bT,K_ (vI (offV es d)),K_ bT] (fun E4=>[(2,vP (pb E1 0) 0),(3,vP (pb E1 1) 0),(4,vI 0),(6,bT)]) (hs:=c_ (ld_ 0 (hrd:=by exact rd24 rfl rfl rfl))<|c_ (fa0 (vP (pb E1 1) 0))<|c_ (ld_ 1 (hrd:=by exact rd3 rfl))<|c_ (cw_ Tryz.func76 (h:=fun _ env _ wd hA=>⟨_,(u_res_eq (roffset_any _ es u x d wd (hv.gn hA.j.st.gr) hp) (off_yes hp hn0 hd)),rfl⟩))<|c_ mv_<|c_ ext_<|c_ ext_<|c_ mv_<|c_ mv_<|e_) (k:=fun E4 ac wd h_4=>?_)
 clear h_3
 refine then_n (wp_seq ?_)
 refine rg_ h_4 [[0],[0,1]] [K_ bT,K_ bF] (fun E5=>[(2,vP (pb E1 0) 0),(3,vP (pb E1 1) 0),(4,vI 0),(22,bF)]) (hs:=c_ mv_<|c_ (un0 bT)<|e_) (k:=fun E5 ac wd h_5=>?_)
 clear h_4
 refine then_n ?_
 refine wp_cond_false (eval_tmp (h_5.g (t:=22) rfl)) ?_
 refine wp_skip (then_n (wp_seq (wp_seq ?_)))
 by_cases hs:86400+chgV es d≤s
 refine rg_ h_5 [[0],[0,1],[2],[3],[3,4],[2,3,4,5],[2,3,4,5,6],r_ 8] [K_ (vP (pb E1 1) 1),K_ (vI s),K_ (.agg #[vI u,vI x,.slice A0 es.length c0]),K_ (vP (pb E1 1) 0),K_ (vI d),K_ (vI (chgV es d)),K_ (vI (86400+(chgV es d))),K_ bT] (fun E6=>[(4,vI 0),(30,bT)]) (hs:=c_ (fa0 (vP (pb E1 1) 0))<|c_ (ld_ 1 (hrd:=by exact rd3 rfl))<|c_ (ld_ 0 (hrd:=by exact rd24 rfl rfl rfl))<|c_ (fa0 (vP (pb E1 1) 0))<|c_ (ld_ 1 (hrd:=by exact rd3 rfl))<|c_ (cw_ Tryz.func37 (h:=fun _ env _ wd hA=>⟨_,(rchange_any _ es u x d wd (hv.gn hA.j.st.gr) hp),rfl⟩))<|c_ (bi0 (vI 86400) (vI (chgV es d)))<|c_ (bi0 (vI s) (vI (86400+(chgV es d))) (h:=by intro env w;simp [go_sem,hs]))<|e_) (k:=fun E6 ac wd h_6=>?_)
 clear h_5
 refine then_n ?_
 refine wp_cond_true (eval_tmp (h_6.g (t:=30) rfl)) ?_
 refine wp_seq ?_
 refine rg_ h_6 [[0]] [K_ (vI 6)] (fun E7=>[(4,vI 6)]) (hs:=c_ mv_<|e_) (k:=fun E7 ac wd h_7=>?_)
 clear h_6
 refine then_n (wp_ret (then_ret ?_))
 have s4:=h_7.g (t:=4) rfl
 refine leave (v:=vI 6) h_7.df (by simp [results,Tryz.results45,go_sem,Array.getD_eq_getD_getElem?,s4]) ?_
 have e:whyU es d s a=6:=by unfold whyU;simp [hf,hin,hd,hs]
 exact ⟨by rw [e],h_7.st.below⟩
 refine rg_ h_5 [[0],[0,1],[2],[3],[3,4],[2,3,4,5],[2,3,4,5,6],r_ 8] [K_ (vP (pb E1 1) 1),K_ (vI s),K_ (.agg #[vI u,vI x,.slice A0 es.length c0]),K_ (vP (pb E1 1) 0),K_ (vI d),K_ (vI (chgV es d)),K_ (vI (86400+(chgV es d))),K_ bF] (fun E6=>[(4,vI 0),(30,bF)]) (hs:=c_ (fa0 (vP (pb E1 1) 0))<|c_ (ld_ 1 (hrd:=by exact rd3 rfl))<|c_ (ld_ 0 (hrd:=by exact rd24 rfl rfl rfl))<|c_ (fa0 (vP (pb E1 1) 0))<|c_ (ld_ 1 (hrd:=by exact rd3 rfl))<|c_ (cw_ Tryz.func37 (h:=fun _ env _ wd hA=>⟨_,(rchange_any _ es u x d wd (hv.gn hA.j.st.gr) hp),rfl⟩))<|c_ (bi0 (vI 86400) (vI (chgV es d)))<|c_ (bi0 (vI s) (vI (86400+(chgV es d))) (h:=by intro env w;simp [go_sem,hs]))<|e_) (k:=fun E6 ac wd h_6=>?_)
 clear h_5
 refine then_n ?_
 refine wp_cond_false (eval_tmp (h_6.g (t:=30) rfl)) ?_
 refine wp_skip (then_n (wp_seq ?_))
 refine rg_ h_6 [[0]] [K_ (vI 0)] (fun E7=>[(4,vI 0)]) (hs:=c_ mv_<|e_) (k:=fun E7 ac wd h_7=>?_)
 clear h_6
 refine then_n (wp_ret ?_)
 have s4:=h_7.g (t:=4) rfl
 refine leave (v:=vI 0) h_7.df (by simp [results,Tryz.results45,go_sem,Array.getD_eq_getD_getElem?,s4]) ?_
 have e:whyU es d s a=0:=by unfold whyU;simp [hf,hin,hd,hs]
 exact ⟨by rw [e],h_7.st.below⟩
theorem rTai12_any (w0:World) (A0:Option Addr) (c0:Nat) (es:List (Int × Int)) (u x:Int) (hv:Ents w0 w0.heap.size (.slice A0 es.length c0) es) (hp:okPre es es.length=true) (d s a:Int) (q0:0≤s) (q1:s≤86400) (q2:0≤a) (q3:a < 1000000000000000000) (q4:-1099511627776≤d) (q5:d≤1099511627776):Calls Tryz.prog 48 #[.agg #[vI u,vI x,.slice A0 es.length c0],vL d s a] w0 fun e w'=>∃ v,e = .returned v∧Below w0.heap.size w0 w'∧BigN w0.heap.size w' v (jn d (s+offV es d) a):=by
 obtain ⟨g0,g1⟩:=u_off_bd hp d
 have hst:=St.start w0 (Θ:=fun _=>True) (fun _ _=>trivial)
 refine enter Tryz.func48 rfl (n:=21) rfl (Nat.le_of_ble_eq_true rfl) hst (L:=[(0,.agg #[vI u,vI x,.slice A0 es.length c0]),(1,vL d s a)]) (lk_args rfl) (fun ac h=>?_)
 replace h:=h.facts
 refine wp_seq ?_
 refine rf_ h [[0],[1],[2]] [KE_ fun env=>vP (pb env 0) 0,KE_ fun env=>vP (pb env 1) 0,KE_ fun env=>vP (pb env 2) 0] (fun E1=>[(2,vP (pb E1 0) 0),(3,vP (pb E1 1) 0),(4,vP (pb E1 2) 0)]) (W:=[{ i:=0,T:=24,c0:=[vI u,vI x,.slice A0 es.length c0] },{ i:=1,T:=26,c0:=[vI d,vI s,vI a] },{ i:=2,T:=39,c0:=[bF,.slice none 0 0] }]) (M':=fun E1=>[((pb E1 0),24,[vI u,vI x,.slice A0 es.length c0]),((pb E1 1),26,[vI d,vI s,vI a]),((pb E1 2),39,[bF,.slice none 0 0])]) (hs:=c_ (bx0 0 (.agg #[vI u,vI x,.slice A0 es.length c0]))<|c_ (bx0 1 (vL d s a))<|c_ (al_ 2)<|e_) (k:=fun E1 ac wd h_1=>?_)
 clear h
 refine then_n (wp_seq ?_)
 refine rf_ h_1 [[0],[1],[1,2],r_ 4,r_ 5,r_ 6,[0,1,2,3,4,6],[0,1,2,3,4,5,7],r_ 9] [K_ (.agg #[vI u,vI x,.slice A0 es.length c0]),K_ (vP (pb E1 1) 0),K_ (vI d),K_ (vT2 (vI (offV es d)) (.bool (rOk (cnt dayOf es d)))),K_ (vT2 (vI (offV es d)) (.bool (rOk (cnt dayOf es d)))),K_ (vI (offV es d)),K_ (.bool (rOk (cnt dayOf es d))),K_ (vI (offV es d)),K_ (.bool (rOk (cnt dayOf es d)))] (fun E2=>[(3,vP (pb E1 1) 0),(4,vP (pb E1 2) 0),(5,vI (offV es d))]) (hs:=c_ (ld_ 0 (hrd:=by exact rd24 rfl rfl rfl))<|c_ (fa0 (vP (pb E1 1) 0))<|c_ (ld_ 1 (hrd:=by exact rd3 rfl))<|c_ (cw_ Tryz.func76 (h:=fun _ env _ wd hA=>⟨_,(u_res_eq (roffset_any _ es u x d wd (hv.gn hA.j.st.gr) hp) rfl),rfl⟩))<|c_ mv_<|c_ ext_<|c_ ext_<|c_ mv_<|c_ mv_<|e_) (k:=fun E2 ac wd h_2=>?_)
 clear h_1
 refine then_n (wp_seq ?_)
 refine rf_ h_2 [[0],[0,1],[2],r_ 4,r_ 5,r_ 6] [K_ (vP (pb E1 1) 1),K_ (vI s),K_ (vI (offV es d)),K_ (vI (s+(offV es d))),K_ (vP (pb E1 1) 1),none] (fun E3=>[(3,vP (pb E1 1) 0),(4,vP (pb E1 2) 0)]) (S:=[⟨1,5,fun _=>[vI d,vI (s+(offV es d)),vI a]⟩]) (M':=fun E3=>[((pb E1 0),24,[vI u,vI x,.slice A0 es.length c0]),((pb E1 1),26,[vI d,vI (s+(offV es d)),vI a]),((pb E1 2),39,[bF,.slice none 0 0])]) (hs:=c_ (fa0 (vP (pb E1 1) 0))<|c_ (ld_ 1 (hrd:=by exact rd3 rfl))<|c_ mv_<|c_ (bi0 (vI s) (vI (offV es d)))<|c_ (fa0 (vP (pb E1 1) 0))<|c_ (se_ 1 (hst:=by exact fun _ _ _ hc=>st3 rfl rfl hc))<|e_) (k:=fun E3 ac wd h_3=>?_)
 clear h_2
 refine then_n (wp_seq ?_)
 refine rf_ h_3 (tri 3) [K_ (vL d (s+(offV es d)) a),KE_ fun env=>bigF (jn d (s+(offV es d)) a) (env 1),none] (fun E4=>[(4,vP (pb E1 2) 0)]) (S:=[⟨2,2,fun env=>[.bool (decide (jn d (s+(offV es d)) a < 0)),rS (jn d (s+(offV es d)) a) ((bA (env 1))) ((bC (env 1)))]⟩]) (F:=[(1,fun env w=>BigN w0.heap.size w (env 1) (jn d (s+(offV es d)) a))]) (L1:=fun E4=>[fun w=>BigN w0.heap.size w (E4 1) (jn d (s+(offV es d)) a)]) (M':=fun E4=>[((pb E1 0),24,[vI u,vI x,.slice A0 es.length c0]),((pb E1 1),26,[vI d,vI (s+(offV es d)),vI a]),((pb E1 2),39,[.bool (decide (jn d (s+(offV es d)) a < 0)),rS (jn d (s+(offV es d)) a) ((bA (E4 1))) ((bC (E4 1)))])]) (hs:=c_ (ld_ 1 (hrd:=by exact rd26 rfl rfl rfl))<|c_ (cb_ Tryz.func78 (jn d (s+(offV es d)) a) (h:=fun _ env _ wd hA=>⟨_,Join_any wd d (s+(offV es d)) a (by omega) (by omega) (by omega) (by omega) (by omega) (by omega),rfl⟩))<|c_ (se_ 2 (hst:=by exact fun _ _ _ hc=>st39 rfl rfl rfl hc))<|e_) (k:=fun E4 ac wd h_4=>?_)
 clear h_3
 refine then_n (wp_ret ?_)
 have s4:=h_4.g (t:=4) rfl
 have hc4:=(h_4.st.own 2 _ rfl).2
 have c4_0:=own_cell (o:=0) hc4 rfl
 have c4_1:=own_cell (o:=1) hc4 rfl
 refine leave (v:=bigF (jn d (s+(offV es d)) a) (E4 1)) h_4.df (by simp [results,Tryz.results48,go_sem,Array.getD_eq_getD_getElem?,s4,c4_0,c4_1,Tryz.underlying39]) ?_
 exact ⟨_,rfl,h_4.st.below,BigN.mk rfl rfl (Facts.bN h_4.st.now 0 rfl)⟩
end Go.Proofs.YtdfkghpgekmmlaaGreat
namespace Go.Proofs.YtdfkghpgekmmlaaGreat
open Go.RowKit
attribute [local go_sem] vN bT bF rS vW vM vL vT2 vT3 vP vI execOp Act.eval evC bigF vB hi_zero lo_zero Tryz.underlying24 Tryz.underlying26 Tryz.underlying39
def enC (es:List (Int × Int)) (p:Nat):Value:=if p % 2=0 then vI (es.getD (p / 2) (0,0)).1 else vI (es.getD (p / 2) (0,0)).2
theorem enC_0 (es:List (Int × Int)) (j:Nat):enC es (j*2)=vI (es.getD j (0,0)).1:=by unfold enC;rw [if_pos (by omega),show j*2 / 2=j by omega]
theorem enC_1 (es:List (Int × Int)) (j:Nat):enC es (j*2+1)=vI (es.getD j (0,0)).2:=by unfold enC;rw [if_neg (by omega),show (j*2+1) / 2=j by omega]
theorem Ents.els {w:World} {B:Nat} {v:Value} {es:List (Int × Int)} (h:Ents w B v es):Els w v es.length 2 (enC es):=by
  obtain ⟨A,c,rfl,h1,h2,h3⟩:=h
  refine ⟨A,c,rfl,h1,?_⟩
  rcases Nat.eq_zero_or_pos es.length with h0 | h0
  · exact .inl h0
  · obtain ⟨b,off,hA,hb,hc⟩:=h3 h0
    refine .inr ⟨b,off,hA,fun i hi=>?_⟩
    have h5:=hc (i / 2) (by omega)
    rcases Nat.mod_two_eq_zero_or_one i with h6 | h6
    · rw [show off+i=off+i / 2*2 by omega,h5.1];unfold enC;rw [if_pos h6]
    · rw [show off+i=off+i / 2*2+1 by omega,h5.2];unfold enC;rw [if_neg (by omega)]
end Go.Proofs.YtdfkghpgekmmlaaGreat
namespace Go.Proofs.YtdfkghpgekmmlaaGreat
open Go.RowKit
abbrev cT:List TypeId:=[113,70,121,78,126,130]
def oldB (es:List (Int × Int)):Bool:=decide (day0 es=41317) && decide ((es.getD 0 (0,0)).2=10)
def IsC (w:World) (c g:Nat) (b:Value) (u x:Int) (es:List (Int × Int)):Prop:=
 c≠g∧Blk w c 78 #[vP g 0,b,vI x]∧IsLx w g u x es∧(oldB es=true→IsR (some g) w b pubS 41317 10)∧(oldB es=false→b = .pointer none)
theorem KeepT.mono {Ts Ts':List TypeId} {ex:Option Nat} {w w':World} (h:KeepT Ts ex w w') (hT:∀ T,Ts'.contains T=true→Ts.contains T=true):KeepT Ts' ex w w':=fun b cur T fz h1 h2 h3=>h b cur T fz h1 (hT T h2) h3
theorem cT_le:∀ T,leT.contains T=true→cT.contains T=true:=by
  intro T h
  simp only [leT,cT,List.contains_cons,Bool.or_eq_true] at *
  rcases h with h | h | h | h
  · exact .inl h
  · exact .inr (.inl h)
  · exact .inr (.inr (.inl h))
  · cases h
theorem cT_r:∀ T,([126,130]:List TypeId).contains T=true→cT.contains T=true:=by
  intro T h
  simp only [cT,List.contains_cons,Bool.or_eq_true] at *
  rcases h with h | h | h
  · exact .inr (.inr (.inr (.inr (.inl h))))
  · exact .inr (.inr (.inr (.inr (.inr (.inl h)))))
  · cases h
theorem KeepT.ofGrown {Ts:List TypeId} {g:Nat} {w w':World} (h:w.grownBy w' (some g)):KeepT Ts (some g) w w':=fun b cur T fz h1 _ h3=>h.block b (lt_of_some h1) (fun e=>h3 e.symm)
section
variable {w w':World} {c g:Nat} {b:Value} {u x:Int} {es:List (Int × Int)}
theorem IsC.keepT (h:IsC w c g b u x es) (hg:w'.heap[g]? = w.heap[g]?) (hk:KeepT cT (some g) w w'):IsC w' c g b u x es:=by
 obtain ⟨h1,h2,h3,h4,h5⟩:=h
 unfold Blk at h2
 refine ⟨h1,?_,h3.keepT hg (hk.mono cT_le),fun ho=>(h4 ho).keep (hk.mono cT_r),h5⟩
 unfold Blk
 rw [hk c _ _ _ h2 rfl (fun e=>h1 (Option.some.inj e).symm)]
 exact h2
theorem IsC.grown (h:IsC w c g b u x es) (hL:IsLx w' g u x es) (hg:w.grownBy w' (some g)):IsC w' c g b u x es:=by
 obtain ⟨h1,h2,h3,h4,h5⟩:=h
 exact ⟨h1,h2.grown hg (fun e=>h1 (Option.some.inj e)),hL,fun ho=>(h4 ho).keep (KeepT.ofGrown hg),h5⟩
theorem IsC.lx (h:IsC w c g b u x es):IsLx w g u x es:=h.2.2.1
theorem IsC.ok (h:IsC w c g b u x es):okT u x es=true:=h.2.2.1.ok
theorem IsC.lt (h:IsC w c g b u x es):g < w.heap.size:=h.2.2.1.lt
theorem IsC.r (h:IsC w c g b u x es) (ho:oldB es=true):IsR (some g) w b pubS 41317 10:=h.2.2.2.1 ho
theorem IsC.nil (h:IsC w c g b u x es) (ho:oldB es=false):b = .pointer none:=h.2.2.2.2 ho
theorem IsC.bform (h:IsC w c g b u x es) (ho:oldB es=true):b=vP (ptrB b) 0:=(h.r ho).form
theorem IsC.cell0 (h:IsC w c g b u x es):w.cell? ⟨c,0,none⟩=some (vP g 0):=h.2.1.cell 0
theorem IsC.cell1 (h:IsC w c g b u x es):w.cell? ⟨c,1,none⟩=some b:=h.2.1.cell 1
theorem St.startC (w:World) (h:IsC w c g b u x es):St w (some g) (some g) w (mem []) (fun _=>True) (fun w=>IsC w c g b u x es):=
 ⟨⟨rfl,rfl,rfl,Nat.le_refl _,fun _ _ _=>rfl⟩,fun m m' e e' h=>(by simp [mem] at h),fun m e h=>(by simp [mem] at h),fun k hk=>(by obtain rfl:=Option.some.inj hk;exact ⟨h.lt,fun m e hm=>by simp [mem] at hm,.inr rfl⟩),fun _ _=>trivial,fun w' ha=>h.keepT (ha.2 g h.lt (fun m e hm=>by simp [mem] at hm) (by simp)) (fun b cur T fz hb _ _=>ha.2 b (lt_of_some hb) (fun m e hm=>by simp [mem] at hm) (by simp))⟩
def ClkC (P:Program) (f:FuncId) (vs:List Value) (w:World) (c g:Nat) (b:Value) (u x:Int) (es:List (Int × Int)) (v:Value):Prop:=Calls P f vs.toArray w fun e w'=>e = .returned v∧IsC w' c g b u x es∧w.grownBy w' (some g)
theorem LeapC.clk {P:Program} {f:FuncId} {vs:List Value} {v:Value} (hC:IsC w c g b u x es) (h:LeapC P f vs w g u x es v):ClkC P f vs w c g b u x es v:=
 h.mono (fun e w' h=>⟨h.1,hC.grown h.2.1 h.2.2,h.2.2⟩)
theorem ClkC.eq {P:Program} {f:FuncId} {vs:List Value} {v v':Value} (h:ClkC P f vs w c g b u x es v) (e:v=v'):ClkC P f vs w c g b u x es v':=e▸h
end
section
variable {R:Reg} {Q:Exit→Act→World→Prop} {i:Nat} {o:Oper} {P:Program}
theorem s_clk {V:Env→Value} {f:FuncId} {fn:Func} {ps:Array Operand} {ts:Array TypeId} (hfn:P.funcs[f]? = some fn) {c g:Nat} {b:Value} {u x:Int} {es:List (Int × Int)} (hΘ:∀ w,R.Θ w→IsC w c g b u x es) (hΘ':∀ w,IsC w c g b u x es→R.Θ w) (ho:R.ops[i]? = some o:=by rfl) (hf:free' R i=true:=by rfl) (hop:o.op = .call { callee:=.value (.func f),args:=ps,argTypes:=ts }:=by rfl) (hname:(fn.name == "runtime.NumGoroutine")=false:=by kernel_rfl) (hb:fn.body.isSome=true:=by rfl) (hV:R.v? i=some V:=by rfl)
    (hw:∀ D env a w,At R i D env a w→Region.wanted o (yielded R.ops a.tmps)=true:=by intro D env a w hA;first | exact wanted_none rfl _ | exact hA.gy rfl rfl rfl) (hx:R.ex=some g:=by rfl) (hth:R.th=none:=by rfl) (hT:tFree cT R=true:=by rfl) (hn:noF R i=true:=by rfl) (hr:∀ env x,V (restr (R.cl.getD i []) (upd env i x))=V env:=by intros;rfl)
    (h:∀ D env a w,At R i D env a w→IsC w c g b u x es→∃ vs:List Value,ClkC P f vs w c g b u x es (V env)∧ps.toList.map (opAt R i env)=vs.map some):SR P Q R i:=
  s_callx ho hf hop hfn hname hb (fun {D env a w} hA=>by
    have hL:IsC w c g b u x es:=hΘ w (by have:=hA.j.st.nowT;unfold Reg.tht at this;rw [hth] at this;exact this)
    obtain ⟨vs,h1,h2⟩:=h D env a w hA hL
    refine ⟨hw _ _ _ _ hA,vs.toArray,hA.args h2,h1.mono ?_⟩
    rintro e w' ⟨rfl,hL',hg⟩
    refine ⟨_,rfl,?_,fun w'' _=>f_val hA.ok ho hV hn hr _ w''⟩
    refine hA.j.st.callg hx hg (fun w'' ha=>?_)
    have hst':=hA.j.st.callg hx hg (Θ':=fun _=>True) (fun _ _=>trivial)
    unfold Reg.tht
    rw [hth]
    refine hΘ' w'' (hL'.keepT ?_ ?_)
    · obtain ⟨k1,k2,_⟩:=hst'.exb g hx
      exact ha.2 g k1 (fun m e hm=>k2 m e hm) (by simp)
    · have:=apart_keepT (Ts:=cT) hT hst' (.inr rfl) ha
      rw [hx] at this
      exact this)
end
def NewC (w:World) (v:Value) (g:Nat) (b:Value) (u x:Int) (es:List (Int × Int)) (B:Nat):Prop:=v = .tuple #[vP (ptrB (tp v 0)) 0,vI 0]∧IsC w (ptrB (tp v 0)) g b u x es∧B≤g
def NewCx (w:World) (v:Value) (u x:Int) (es:List (Int × Int)) (B:Nat):Prop:=∃ g b,NewC w v g b u x es B
theorem NewCx.form {w:World} {v:Value} {u x:Int} {es:List (Int × Int)} {B:Nat} (h:NewCx w v u x es B):v=newLF v:=by obtain ⟨g,b,h,_⟩:=h;exact h
theorem NewCx.keep {w w':World} {v:Value} {u x:Int} {es:List (Int × Int)} {B:Nat} (h:NewCx w v u x es B) (hk:KeepT cT none w w'):NewCx w' v u x es B:=by
 obtain ⟨g,b,h1,h2,h3⟩:=h
 refine ⟨g,b,h1,h2.keepT ?_ (fun b cur T fz hb hT _=>hk b cur T fz hb hT (by simp)),h3⟩
 obtain ⟨q,_,ge,d,mv,_,hb,_⟩:=h2.lx
 unfold Blk at hb
 exact hk _ _ _ _ hb rfl (by simp)
theorem Cur.exInC {n:Nat} {w0:World} {Θ:World→Prop} {L:Slots} {M:List Ent} {a:Act} {w:World} {v:Value} {u x:Int} {es:List (Int × Int)} {Fs:List (World→Prop)} (h0:Cur n w0 none none (Facts Fs) Θ L M a w) (k:Nat) (hk:Fs[k]? = some (fun w=>NewCx w v u x es w0.heap.size)):∃ g b,Cur n w0 none (some g) (Facts []) (fun w=>IsC w (ptrB (tp v 0)) g b u x es) L M a w:=by
  have hN:∀ w',Apart (mem M) none w w'→∃ g b,IsC w' (ptrB (tp v 0)) g b u x es∧w0.heap.size≤g:=fun w' ha=>by
    obtain ⟨g,b,_,h2,h3⟩:=show NewCx w' v u x es w0.heap.size from (h0.st.psi w' ha).get k hk
    exact ⟨g,b,h2,h3⟩
  obtain ⟨g,b,hI,hB⟩:=hN w (Apart.refl _ _ _)
  generalize ptrB (tp v 0)=c at *
  have turn:∀ (k m:Nat) (e:Ent),M[m]? = some e→e.1=k→Apart (mem M) none w { w with heap:=w.heap.setIfInBounds k (.map #[] 0) }:=fun k m e hm he=>⟨by simp,fun j hj hM _=>by
    show (w.heap.setIfInBounds _ _)[j]? = _
    rw [Array.getElem?_setIfInBounds_ne (fun e'=>hM m e hm (by rw [he,e']))]⟩
  have gone:∀ k,k < w.heap.size→({ w with heap:=w.heap.setIfInBounds k (.map #[] 0) }:World).heap[k]? = some (.map #[] 0):=fun k hk'=>by
    show (w.heap.setIfInBounds _ _)[k]? = _
    rw [Array.getElem?_setIfInBounds_self_of_lt hk']
  have hcM:∀ (m:Nat) (e:Ent),M[m]? = some e→e.1≠c:=fun m e hm he=>by
    obtain ⟨g',b',h',_⟩:=hN _ (turn c m e hm he)
    have hb:=h'.2.1
    unfold Blk at hb
    rw [gone c hI.2.1.lt] at hb
    cases hb
  have hall:∀ w',Apart (mem M) none w w'→IsC w' c g b u x es:=fun w' ha=>by
    obtain ⟨g',b',h',_⟩:=hN w' ha
    have e1:=h'.2.1
    have e2:=hI.2.1
    unfold Blk at e1 e2
    rw [ha.2 c hI.2.1.lt (fun m e hm=>hcM m e hm) (by simp),e2] at e1
    simp at e1
    obtain ⟨rfl,rfl⟩:=e1
    exact h'
  have hgM:∀ (m:Nat) (e:Ent),M[m]? = some e→e.1≠g:=fun m e hm he=>by
    obtain ⟨q,_,ge,d,mv,_,hb,_⟩:=(hall _ (turn g m e hm he)).lx
    unfold Blk at hb
    rw [gone g hI.lt] at hb
    cases hb
  exact ⟨g,b,h0.sz,h0.df,⟨h0.st.gr,h0.st.nod,h0.st.own,fun g' hg'=>by obtain rfl:=Option.some.inj hg';exact ⟨hI.lt,hgM,.inl hB⟩,fun _ _ φ hφ=>(by cases hφ),hall⟩,h0.sl⟩
end Go.Proofs.YtdfkghpgekmmlaaGreat
namespace Go.Proofs.YtdfkghpgekmmlaaGreat
open Go.RowKit
def useR (es:List (Int × Int)) (d:Int):Bool:=oldB es && decide (d < 41317)
def ctE (es:List (Int × Int)) (d s a:Int):Int:=if useR es d=true then taiE pubS 41317 10 d s a else whyU es d s a
def ctV (es:List (Int × Int)) (d s a:Int):Int:=if useR es d=true then taiV pubS 41317 10 d s a else taiU es d s a
def overB (x d s:Int):Bool:=decide (x≤(d-15020)*86400+s)
def expB (x:Int) (lax:Bool) (d s:Int):Bool:=!lax && overB x d s
def tE (es:List (Int × Int)) (x:Int) (lax:Bool) (d s a:Int):Int:=if ctE es d s a=0 then (if expB x lax d s=true then 9 else 0) else ctE es d s a
def tV (es:List (Int × Int)) (x:Int) (lax:Bool) (d s a:Int):Int:=if tE es x lax d s a=0 then ctV es d s a else 0
def useL (es:List (Int × Int)) (z:Int):Bool:=oldB es && decide ((labUt es z).1=8)
def clb (es:List (Int × Int)) (z:Int):Int × Int × Int × Int:=if useL es z=true then (labE pubS 41317 10 z,labD pubS 41317 10 z,labS pubS 41317 10 z,labA pubS 41317 10 z) else labUt es z
def lbl4 (es:List (Int × Int)) (x:Int) (lax:Bool) (z:Int):Int × Int × Int × Int:=if (clb es z).1=0 then (if expB x lax (clb es z).2.1 (clb es z).2.2.1=true then (9,0,0,0) else clb es z) else ((clb es z).1,0,0,0)
theorem oldB_iff {es:List (Int × Int)}:oldB es=true↔day0 es=41317∧(es.getD 0 (0,0)).2=10:=by unfold oldB;simp
theorem useR_iff {es:List (Int × Int)} {d:Int}:useR es d=true↔oldB es=true∧d < 41317:=by unfold useR;simp
theorem useL_iff {es:List (Int × Int)} {z:Int}:useL es z=true↔oldB es=true∧(labUt es z).1=8:=by unfold useL;simp
theorem tai_lt_end {l:List Sg} {day off:Int} (h:MOk l day off) {d s a:Int} (he:taiE l day off d s a=0):taiV l day off d s a < jn day off 0:=by
  obtain ⟨hs,ha,hk,h1,h2,h3,h4,h5⟩:=tai_ok h he
  have n0:=h.n0
  have hl:endS l day off (l.length-1)=jn day off 0:=by unfold endS;rw [if_neg (by omega)]
  rw [h5]
  by_cases hk1:kS l d l.length=l.length-1
  · rw [hk1] at h4 ⊢;omega
  · have e1:=h.end_le (i:=kS l d l.length) (j:=l.length-1) (by omega) (by omega)
    have e2:=h.beg_end (i:=l.length-1) (by omega)
    omega
theorem tai_day {l:List Sg} {day off:Int} (h:MOk l day off) {d s a:Int} (he:taiE l day off d s a=0):d < day:=by
 obtain ⟨hs,ha,hk,h1,h2,h3,h4,h5⟩:=tai_ok h he
 have:=h.toLOk.unt_day hk
 omega
section
variable {es:List (Int × Int)} (hp:okPre es es.length=true) (hn:0 < es.length)
include hp hn
theorem clk_back {d s a:Int} (he:ctE es d s a=0):InW (ctV es d s a)∧clb es (ctV es d s a)=(0,d,s,a):=by
  unfold ctE at he
  unfold ctV
  by_cases hu:useR es d=true
  · rw [if_pos hu] at he ⊢
    obtain ⟨ho,hd⟩:=useR_iff.1 hu
    obtain ⟨o1,o2⟩:=oldB_iff.1 ho
    have hlt:=tai_lt_end pub_ok he
    have hearly:labUt es (taiV pubS 41317 10 d s a)=(8,0,0,0):=rl_early hp hn (by
      have:startOf (es.getD 0 (0,0))=41317*86400+10:=by unfold startOf;unfold day0 at o1;rw [o1,o2]
      rw [this];unfold jn at *;omega)
    refine ⟨taiV_in pub_ok d s a,?_⟩
    obtain ⟨q1,q2,q3,q4⟩:=tai_lab pub_ok he
    unfold clb
    rw [if_pos (useL_iff.2 ⟨ho,by rw [hearly]⟩),q1,q2,q3,q4]
  · rw [if_neg hu] at he ⊢
    obtain ⟨h1,h2⟩:=utc_back hp hn he
    refine ⟨h1,?_⟩
    unfold clb
    rw [if_neg (fun h=>by have:=(useL_iff.1 h).2;rw [h2] at this;cases this),h2]
theorem clk_forth {z:Int} (he:(clb es z).1=0):ctE es (clb es z).2.1 (clb es z).2.2.1 (clb es z).2.2.2=0∧(ctV es (clb es z).2.1 (clb es z).2.2.1 (clb es z).2.2.2=z∨oldB es=true∧(clb es z).2.1 < 41317∧ctV es (clb es z).2.1 (clb es z).2.2.1 (clb es z).2.2.2=z-1):=by
  have _:=hn
  unfold clb at *
  by_cases hu:useL es z=true
  · rw [if_pos hu] at he ⊢
    obtain ⟨ho,h8⟩:=useL_iff.1 hu
    obtain ⟨q1,q2⟩:=lab_tai pub_ok he
    have hd:=tai_day pub_ok q1
    have hr:useR es (labD pubS 41317 10 z)=true:=useR_iff.2 ⟨ho,hd⟩
    unfold ctE ctV
    simp only [hr,if_true]
    refine ⟨q1,?_⟩
    rcases q2 with q2 | q2
    · exact .inl q2
    · exact .inr ⟨ho,hd,q2⟩
  · rw [if_neg hu] at he ⊢
    obtain ⟨h1,h2⟩:=utc_forth hp he
    obtain ⟨_,_,_,_,_,_,h3,_⟩:=whyU_ok h1
    have hr:¬ useR es (labUt es z).2.1=true:=fun h=>by
      obtain ⟨ho,hd⟩:=useR_iff.1 h
      have:=(oldB_iff.1 ho).1
      omega
    unfold ctE ctV
    rw [if_neg hr,if_neg hr]
    exact ⟨h1,.inl h2⟩
theorem ctV_in (d s a:Int):InW (ctV es d s a):=by
  by_cases he:ctE es d s a=0
  · exact (clk_back hp hn he).1
  · unfold ctE at he
    unfold ctV
    split
    · exact taiV_in pub_ok d s a
    · rename_i hu
      rw [if_neg hu] at he
      unfold taiU
      rw [if_neg he];unfold InW;omega
end
theorem ctE_bd {es:List (Int × Int)} {d s a:Int} (he:ctE es d s a=0):0≤s∧s≤86400∧0≤a∧a < 1000000000000000000 ∧ -1099511627776≤d∧d≤1099511627776:=by
  unfold ctE at he
  by_cases hu:useR es d=true
  · rw [if_pos hu] at he
    obtain ⟨hs,ha,hk,h1,h2,_⟩:=tai_ok pub_ok he
    have:=pub_ok.toLOk.unt_day hk
    have:=(pub_ok.seg _ hk).d0
    omega
  · rw [if_neg hu] at he
    have:=whyU_ok he
    omega
theorem tE_lax {es:List (Int × Int)} {x d s a:Int}:tE es x true d s a=ctE es d s a:=by unfold tE expB;simp;intro h;exact h.symm
theorem tV_in {es:List (Int × Int)} (hp:okPre es es.length=true) (hn:0 < es.length) (x:Int) (lax:Bool) (d s a:Int):InW (tV es x lax d s a):=by
  unfold tV
  split
  · exact ctV_in hp hn d s a
  · unfold InW;omega
end Go.Proofs.YtdfkghpgekmmlaaGreat
namespace Go.Proofs.YtdfkghpgekmmlaaGreat
open Go.RowKit
theorem IsC.cellR {w:World} {c g:Nat} {b:Value} {u x:Int} {es:List (Int × Int)} (h:IsC w c g b u x es) (ho:oldB es=true):w.cell? ⟨c,1,none⟩=some (vP (ptrB b) 0):=h.cell1.trans (congrArg some (h.bform ho))
theorem IsC.pre {w:World} {c g:Nat} {b:Value} {u x:Int} {es:List (Int × Int)} (h:IsC w c g b u x es):okPre es es.length=true∧0 < es.length∧es.length≤64:=okT_pre h.ok
section
variable {w:World} {c g:Nat} {b:Value} {u x:Int} {es:List (Int × Int)} (h:IsC w c g b u x es)
include h
theorem cleaps_any:Calls Tryz.prog 25 #[vP c 0] w fun e w'=>e = .returned (vP g 0)∧Below w.heap.size w w':=by
 have c0:=h.cell0
 clear h
 go_enter Tryz.func25,Tryz.ntmps25
 go_wp2
 go_ret
 exact ⟨rfl,Below.refl _ _⟩
theorem cold_any:Calls Tryz.prog 24 #[vP c 0] w fun e w'=>e = .returned (.bool (oldB es))∧Below w.heap.size w w':=by
  have c1:=h.cell1
  cases ho:oldB es
  · obtain rfl:=h.nil ho
    clear h
    go_enter Tryz.func24,Tryz.ntmps24
    go_wp2
    go_ret
    exact ⟨rfl,Below.refl _ _⟩
  · have hb:=h.bform ho
    generalize ptrB b=k at hb
    subst hb
    clear h
    go_enter Tryz.func24,Tryz.ntmps24
    go_wp2
    go_ret
    exact ⟨rfl,Below.refl _ _⟩
end
theorem Cur.off {n:Nat} {w0:World} {row ex:Option Nat} {Ψ Θ:World→Prop} {L:Slots} {M:List Ent} {a:Act} {w:World} (h:Cur n w0 row ex Ψ Θ L M a w):Cur n w0 row none Ψ (fun _=>True) L M a w:=
 ⟨h.sz,h.df,⟨h.st.gr,h.st.nod,h.st.own,fun _ hg=>(by cases hg),fun w' ha=>h.st.psi w' ⟨ha.1,fun k hk hM _=>ha.2 k hk hM (by simp)⟩,fun _ _=>trivial⟩,h.sl⟩
def TaiG (g:Nat) (w:World) (v:Value) (z e:Int):Prop:=v = .tuple #[tp v 0,vI e]∧BigX (some g) w (tp v 0) z
theorem TaiG.form {g:Nat} {w:World} {v:Value} {z e:Int} (h:TaiG g w v z e):v=taiF z e v:=by
 unfold taiF
 rw [← h.2.form]
 exact h.1
theorem TaiG.keep {g:Nat} {w w':World} {v:Value} {z e:Int} (h:TaiG g w v z e) (hk:Keep (some g) w w'):TaiG g w' v z e:=⟨h.1,h.2.keep hk⟩
theorem Facts.taiG {L:List (World→Prop)} {w:World} {g:Nat} {v:Value} {z e:Int} (h:Facts L w) (k:Nat) (hk:L[k]? = some (fun w=>TaiG g w v z e)):Row w (.slice (bA (tp v 0)) (digs z).length (bC (tp v 0))) (digs z):=BigX.row (show TaiG g w v z e from h.get k hk).2
theorem At.taiG {R:Reg} {i:Nat} {D:Nat→Bool} {env:Env} {a:Act} {w:World} (h:At R i D env a w) (j:Nat) {g:Nat} {z e:Int} (hj:((R.cl.getD i []).contains j && !(j == i))=true) (hs:((R.cl.getD j []).contains j)=true) (hF:R.F.filter (fun p=>Nat.beq p.1 j)=[(j,fun env w=>TaiG g w (env j) z e)]):Row w (.slice (bA (tp (env j) 0)) (digs z).length (bC (tp (env j) 0))) (digs z):=BigX.row (h.fact j (φ:=fun v w=>TaiG g w v z e) hj hs hF).2
theorem toTaiG {P:Program} {f:FuncId} {args:Array Value} {w:World} {z e:Int} {g:Nat} (hg:g < w.heap.size) (h:Calls P f args w fun x w'=>∃ v,x = .returned (.tuple #[v,vI e])∧Below w.heap.size w w'∧BigN w.heap.size w' v z):Calls P f args w fun x w'=>∃ v,x = .returned v∧Below w.heap.size w w'∧TaiG g w' v z e:=by
 refine h.mono ?_
 rintro x w' ⟨v,rfl,hb,A,c,rfl,h2,h3⟩
 refine ⟨_,rfl,hb,rfl,A,c,rfl,h2,fun k hk hb'=>?_⟩
 obtain rfl:=Option.some.inj hk
 have:=h3 _ hb'
 omega
theorem Facts.tN {L:List (World→Prop)} {w:World} {B:Nat} {v:Value} {z e:Int} (h:Facts L w) (k:Nat) (hk:L[k]? = some (fun w=>TaiX B w v z e)):RowN B w (.slice (bA (tp v 0)) (digs z).length (bC (tp v 0))) (digs z):=BigN.row (show TaiX B w v z e from h.get k hk).2
def SegG (ex:Option Nat) (w:World) (v:Value) (l:List Sg):Prop:=SegT w v l∧∀ k,ex=some k→v.ownBlock≠some k
theorem SegG.form {ex:Option Nat} {w:World} {v:Value} {l:List Sg} (h:SegG ex w v l):v=segF l v:=h.1.form
theorem SegG.keep {ex:Option Nat} {w w':World} {v:Value} {l:List Sg} (h:SegG ex w v l) (hk:KeepT [128] ex w w'):SegG ex w' v l:=⟨h.1.keep (Ts:=[128]) rfl hk h.2,h.2⟩
theorem SegG.u {ex:Option Nat} {w:World} {v:Value} {l:List Sg} (h:SegG ex w v l):SegU w (.slice (sA v) l.length (sC v)) l:=h.1.u.re
theorem Facts.segG {L:List (World→Prop)} {w:World} {ex:Option Nat} {v:Value} {l:List Sg} (h:Facts L w) (k:Nat) (hk:L[k]? = some (fun w=>SegG ex w v l)):SegU w (.slice (sA v) l.length (sC v)) l:=(show SegG ex w v l from h.get k hk).u
theorem At.segG {R:Reg} {i:Nat} {D:Nat→Bool} {env:Env} {a:Act} {w:World} (h:At R i D env a w) (j:Nat) {ex:Option Nat} {l:List Sg} (hj:((R.cl.getD i []).contains j && !(j == i))=true) (hs:((R.cl.getD j []).contains j)=true) (hF:R.F.filter (fun p=>Nat.beq p.1 j)=[(j,fun env w=>SegG ex w (env j) l)]):SegU w (.slice (sA (env j)) l.length (sC (env j))) l:=(h.fact j (φ:=fun v w=>SegG ex w v l) hj hs hF).u
theorem segments_g {g:Nat} {w:World} (hg:g < w.heap.size):Calls Tryz.prog 42 #[] w fun e w'=>∃ v,e = .returned v∧Below w.heap.size w w'∧SegG (some g) w' v pubS:=by
 refine (segments_any w).mono ?_
 rintro e w' ⟨v,rfl,hb,h1,h2⟩
 refine ⟨v,rfl,hb,h1,fun k hk hb'=>?_⟩
 obtain rfl:=Option.some.inj hk
 have:=h2 _ hb'
 omega
theorem clk_first {w:World} {g:Nat} {u x:Int} {es:List (Int × Int)} (h:IsLx w g u x es):LeapC Tryz.prog 40 [vP g 0] w g u x es (vI (day0 es)):=by
 obtain ⟨q,h⟩:=h
 exact (first_any g u x q es w h).mono (fun e w' h=>⟨h.1,⟨_,h.2.1⟩,h.2.2⟩)
end Go.Proofs.YtdfkghpgekmmlaaGreat
namespace Go.Proofs.YtdfkghpgekmmlaaGreat
open Go.RowKit
attribute [local go_sem] vN bT bF rS vW vM vL vT2 vT3 vP vI execOp Act.eval evC bigF vB hi_zero lo_zero Tryz.underlying26 Tryz.underlying34 Tryz.underlying78
theorem ct_rub {es:List (Int × Int)} {d s a:Int} (ho:oldB es=true) (hd:d < 41317):ctV es d s a=taiV pubS 41317 10 d s a∧ctE es d s a=taiE pubS 41317 10 d s a:=by
 have hu:=useR_iff.2 ⟨ho,hd⟩
 unfold ctV ctE
 rw [if_pos hu,if_pos hu]
 exact ⟨rfl,rfl⟩
theorem ct_utc {es:List (Int × Int)} {d s a:Int} (h:oldB es=false∨¬ d < 41317):ctV es d s a=taiU es d s a∧ctE es d s a=whyU es d s a:=by
  have hu:¬ useR es d=true:=fun hu=>by
    obtain ⟨h1,h2⟩:=useR_iff.1 hu
    rcases h with h | h
    · rw [h1] at h;cases h
    · exact h h2
  unfold ctV ctE
  rw [if_neg hu,if_neg hu]
  exact ⟨rfl,rfl⟩
theorem clb_rub {es:List (Int × Int)} {z:Int} (ho:oldB es=true) (h8:(labUt es z).1=8):clb es z=(labE pubS 41317 10 z,labD pubS 41317 10 z,labS pubS 41317 10 z,labA pubS 41317 10 z):=by
 unfold clb
 rw [if_pos (useL_iff.2 ⟨ho,h8⟩)]
theorem clb_utc {es:List (Int × Int)} {z:Int} (h:oldB es=false∨¬ (labUt es z).1=8):clb es z=labUt es z:=by
  unfold clb
  rw [if_neg]
  intro hu
  obtain ⟨h1,h2⟩:=useL_iff.1 hu
  rcases h with h | h
  · rw [h1] at h;cases h
  · exact h h2
theorem IsR.re {ex:Option Nat} {w:World} {v:Value} {l:List Sg} {day off:Int} (h:IsR ex w v l day off):IsR ex w (vP (ptrB v) 0) l day off:=by
 have e:=h.form
 rw [← e]
 exact h
theorem IsC.bdL {w:World} {c g:Nat} {b:Value} {u x:Int} {es:List (Int × Int)} (h:IsC w c g b u x es) {z:Int} (he:(clb es z).1=0):0≤(clb es z).2.2.1∧(clb es z).2.2.1≤86400∧0≤(clb es z).2.2.2∧(clb es z).2.2.2 < 1000000000000000000 ∧ -1099511627776≤(clb es z).2.1∧(clb es z).2.1≤1099511627776:=by
 obtain ⟨hp,hn,_⟩:=h.pre
 exact ctE_bd (clk_forth hp hn he).1
theorem cover_w (w0:World) (c g:Nat) (b:Value) (u x:Int) (es:List (Int × Int)) (hC:IsC w0 c g b u x es) (d s a:Int) (q4:-1099511627776≤d) (q5:d≤1099511627776) (q0:0≤s) (q1:s≤86400):Calls Tryz.prog 44 #[vP c 0,vL d s a] w0 fun e w'=>e = .returned (.bool (overB x d s))∧Below w0.heap.size w0 w':=by
 have hst:=St.start w0 (Θ:=fun _=>True) (fun _ _=>trivial)
 refine enter Tryz.func44 rfl (n:=17) rfl (Nat.le_of_ble_eq_true rfl) hst (L:=[(0,vP c 0),(1,vL d s a)]) (lk_args rfl) (fun ac h=>?_)
 refine wp_seq ?_
 refine rg_ h [[0],[1]] [KE_ fun env=>vP (pb env 0) 0,K_ bF] (fun E1=>[(0,vP c 0),(3,vP (pb E1 0) 0),(4,bF)]) (W:=[{ i:=0,T:=26,c0:=[vI d,vI s,vI a] }]) (M':=fun E1=>[((pb E1 0),26,[vI d,vI s,vI a])]) (hs:=c_ (bx0 0 (vL d s a))<|c_ mv_<|e_) (k:=fun E1 ac wd h_1=>?_)
 clear h
 refine then_n (wp_seq ?_)
 refine rg_ h_1 [[0],[0,1],[0,1,2],r_ 4,[4],[4,5],r_ 7,[7],[7,8],[7,8,9],[7,8,9,10],r_ 12,r_ 13] [K_ (vP (pb E1 0) 0),K_ (vI d),K_ (vI (d-15020)),K_ (vI ((d-15020)*86400)),K_ (vP (pb E1 0) 1),K_ (vI s),K_ (vI (((d-15020)*86400)+s)),K_ (vP c 0),K_ (vP c 0),K_ (vP c 2),K_ (vI x),K_ (.bool (decide (x≤((d-15020)*86400)+s))),K_ (.bool (decide (x≤((d-15020)*86400)+s)))] (fun E2=>[(4,.bool (decide (x≤((d-15020)*86400)+s)))]) (hs:=c_ (fa0 (vP (pb E1 0) 0))<|c_ (ld_ 0 (hrd:=by exact rd3 rfl))<|c_ (bi0 (vI d) (vI 15020))<|c_ (bi0 (vI (d-15020)) (vI 86400))<|c_ (fa0 (vP (pb E1 0) 0))<|c_ (ld_ 0 (hrd:=by exact rd3 rfl))<|c_ (bi0 (vI ((d-15020)*86400)) (vI s))<|c_ mv_<|c_ (nc0 (vP c 0))<|c_ (fa0 (vP c 0))<|c_ (by refine s_v rfl rfl rfl rfl (fun {D env ac wd} hA=>?_);have e14:ac.tmps[14]? = some (vP c 2):=hA.g rfl;have hcx:wd.cell? ⟨c,2,none⟩=some (vI x):=(Blk.grown hC.2.1 hA.j.st.gr (by simp)).cell 2;simp [go_sem,e14,hcx])<|c_ (bi0 (vI (((d-15020)*86400)+s)) (vI x))<|c_ mv_<|e_) (k:=fun E2 ac wd h_2=>?_)
 clear h_1
 refine then_n (wp_ret ?_)
 have s4:=h_2.g (t:=4) rfl
 refine leave (v:=.bool (decide (x≤((d-15020)*86400)+s))) h_2.df (by simp [results,Tryz.results44,go_sem,Array.getD_eq_getD_getElem?,s4]) ?_
 exact ⟨rfl,h_2.st.below⟩
theorem cover_any {w:World} {c g:Nat} {b:Value} {u x:Int} {es:List (Int × Int)} (hC:IsC w c g b u x es) (d s a:Int) (q4:-1099511627776≤d) (q5:d≤1099511627776) (q0:0≤s) (q1:s≤86400):Calls Tryz.prog 44 #[vP c 0,vL d s a] w fun e w'=>e = .returned (.bool (overB x d s))∧Below w.heap.size w w':=cover_w w c g b u x es hC d s a q4 q5 q0 q1
theorem ctai_c (w0:World) (c g:Nat) (b:Value) (u x:Int) (es:List (Int × Int)) (hC:IsC w0 c g b u x es) (d s a:Int) (hd0:-9223372036854775808≤d) (hd1:d < 9223372036854775808):ClkC Tryz.prog 43 [vP c 0,vL d s a] w0 c g b u x es (vT2 (vW (ctV es d s a)) (vI (ctE es d s a))):=by
 unfold ClkC
 have hst:=St.startC w0 hC
 refine enter Tryz.func43 rfl (n:=27) rfl (Nat.le_of_ble_eq_true rfl) hst (L:=[(0,vP c 0),(1,vL d s a)]) (lk_args rfl) (fun ac h=>?_)
 refine wp_seq ?_
 refine rg_ h [[0],[1],[2]] [KE_ fun env=>vP (pb env 0) 0,KE_ fun env=>vP (pb env 1) 0,K_ (vI 0)] (fun E1=>[(0,vP c 0),(3,vP (pb E1 0) 0),(4,vP (pb E1 1) 0),(5,vI 0)]) (W:=[{ i:=0,T:=26,c0:=[vI d,vI s,vI a] },{ i:=1,T:=34,c0:=[vI 0,.int .u64 0] }]) (M':=fun E1=>[((pb E1 0),26,[vI d,vI s,vI a]),((pb E1 1),34,[vI 0,.int .u64 0])]) (hs:=c_ (bx0 0 (vL d s a))<|c_ (al_ 1)<|c_ mv_<|e_) (k:=fun E1 ac wd h_1=>?_)
 clear h
 refine then_n (wp_seq (wp_seq ?_))
 cases ho:oldB es
 refine rg_ h_1 (tri 7) [K_ (vP c 0),K_ bF,K_ bF,K_ undef,K_ undef,K_ undef,K_ bF] (fun E2=>[(0,vP c 0),(3,vP (pb E1 0) 0),(4,vP (pb E1 1) 0),(5,vI 0),(12,bF)]) (hs:=c_ mv_<|c_ (cw_ Tryz.func24 (h:=fun _ env _ wd hA=>⟨_,(u_res_eq (cold_any (hA.thO rfl)) (congrArg Value.bool ho)),rfl⟩))<|c_ mv_<|c_ off_<|c_ off_<|c_ off_<|c_ (pk0 bF undef bF)<|e_) (k:=fun E2 ac wd h_2=>?_)
 clear h_1
 refine then_n ?_
 refine wp_cond_false (eval_tmp (h_2.g (t:=12) rfl)) ?_
 refine wp_skip (then_n (wp_seq ?_))
 refine rg_ h_2 [[0],[0,1],[2],r_ 4,r_ 5,[0,1,2,3,5],r_ 7,r_ 8] [K_ (vP c 0),K_ (vP g 0),K_ (vL d s a),K_ (vT2 (vW (taiU es d s a)) (vI (whyU es d s a))),K_ (vW (taiU es d s a)),K_ (vI (whyU es d s a)),none,K_ (vI (whyU es d s a))] (fun E3=>[(4,vP (pb E1 1) 0),(5,vI (whyU es d s a))]) (S:=[⟨1,6,fun _=>[vI (hi (taiU es d s a)),.int .u64 (lo (taiU es d s a))]⟩]) (M':=fun E3=>[((pb E1 0),26,[vI d,vI s,vI a]),((pb E1 1),34,[vI (hi (taiU es d s a)),.int .u64 (lo (taiU es d s a))])]) (hs:=c_ mv_<|c_ (cw_ Tryz.func25 (h:=fun _ env _ wd hA=>⟨_,(cleaps_any (hA.thO rfl)),rfl⟩))<|c_ (ld_ 0 (hrd:=by exact rd26 rfl rfl rfl))<|c_ (s_clk (c:=c) (g:=g) (b:=b) (u:=u) (x:=x) (es:=es) Tryz.func73 (fun _ h=>h) (fun _ h=>h) (h:=fun D env ac wd hA hC=>⟨_,LeapC.clk hC (utai_l _ g u x es (IsC.lx hC) d s a),rfl⟩))<|c_ ext_<|c_ ext_<|c_ (se_ 1 (hst:=by exact fun _ _ _ hc=>st34 rfl rfl rfl hc))<|c_ mv_<|e_) (k:=fun E3 ac wd h_3=>?_)
 clear h_2
 refine then_n (wp_ret ?_)
 have s4:=h_3.g (t:=4) rfl
 have hc4:=(h_3.st.own 1 _ rfl).2
 have c4_0:=own_cell (o:=0) hc4 rfl
 have c4_1:=own_cell (o:=1) hc4 rfl
 have s5:=h_3.g (t:=5) rfl
 refine leave (v:=vT2 (vW (taiU es d s a)) (vI (whyU es d s a))) h_3.df (by simp [results,Tryz.results43,go_sem,Array.getD_eq_getD_getElem?,s4,c4_0,c4_1,Tryz.underlying34,s5]) ?_
 obtain ⟨e1,e2⟩:ctV es d s a=taiU es d s a∧ctE es d s a=whyU es d s a:=ct_utc (.inl ho)
 exact ⟨by rw [e1,e2],h_3.st.nowT,h_3.st.gr⟩
 by_cases hd:d < 41317
 refine rg_ h_1 (tri 7) [K_ (vP c 0),K_ bT,K_ bT,K_ (vP (pb E1 0) 0),K_ (vI d),K_ bT,K_ bT] (fun E2=>[(0,vP c 0),(3,vP (pb E1 0) 0),(4,vP (pb E1 1) 0),(5,vI 0),(12,bT)]) (hs:=c_ mv_<|c_ (cw_ Tryz.func24 (h:=fun _ env _ wd hA=>⟨_,(u_res_eq (cold_any (hA.thO rfl)) (congrArg Value.bool ho)),rfl⟩))<|c_ mv_<|c_ (fa0 (vP (pb E1 0) 0))<|c_ (ld_ 0 (hrd:=by exact rd3 rfl))<|c_ (bi0 (vI d) (vI 41317) (h:=by intro env w;simp [go_sem,hd]))<|c_ (pk0 bT bT bF (h:=by intro env w;simp [go_sem,hd]))<|e_) (k:=fun E2 ac wd h_2=>?_)
 clear h_1
 refine then_n ?_
 refine wp_cond_true (eval_tmp (h_2.g (t:=12) rfl)) ?_
 refine wp_seq ?_
 refine rg_ h_2 [[0],[0,1],[0,1,2],r_ 4,[4],r_ 6,r_ 7,[0,1,2,3,4,5,7],r_ 9,r_ 10] [K_ (vP c 0),K_ (vP c 0),K_ (vP c 1),K_ (vP (ptrB b) 0),K_ (vL d s a),K_ (vT2 (vW (taiV pubS 41317 10 d s a)) (vI (taiE pubS 41317 10 d s a))),K_ (vW (taiV pubS 41317 10 d s a)),K_ (vI (taiE pubS 41317 10 d s a)),none,K_ (vI (taiE pubS 41317 10 d s a))] (fun E3=>[(0,vP c 0),(3,vP (pb E1 0) 0),(4,vP (pb E1 1) 0),(5,vI (taiE pubS 41317 10 d s a))]) (S:=[⟨1,8,fun _=>[vI (hi (taiV pubS 41317 10 d s a)),.int .u64 (lo (taiV pubS 41317 10 d s a))]⟩]) (M':=fun E3=>[((pb E1 0),26,[vI d,vI s,vI a]),((pb E1 1),34,[vI (hi (taiV pubS 41317 10 d s a)),.int .u64 (lo (taiV pubS 41317 10 d s a))])]) (hs:=c_ mv_<|c_ (nc0 (vP c 0))<|c_ (fa0 (vP c 0))<|c_ (by refine s_v rfl rfl rfl rfl (fun {D env ac wd} hA=>?_);have e15:ac.tmps[15]? = some (vP c 1):=hA.g rfl;have hcr:=IsC.cellR (hA.thO rfl) ho;simp [go_sem,e15,hcr])<|c_ (ld_ 0 (hrd:=by exact rd26 rfl rfl rfl))<|c_ (cw_ Tryz.func72 (h:=fun _ env _ wd hA=>⟨_,(tai_X (IsC.r (hA.thO rfl) ho) pub_ok.toLOk d s a hd0 hd1),rfl⟩))<|c_ ext_<|c_ ext_<|c_ (se_ 1 (hst:=by exact fun _ _ _ hc=>st34 rfl rfl rfl hc))<|c_ mv_<|e_) (k:=fun E3 ac wd h_3=>?_)
 clear h_2
 refine then_n (wp_ret (then_ret ?_))
 have s4:=h_3.g (t:=4) rfl
 have hc4:=(h_3.st.own 1 _ rfl).2
 have c4_0:=own_cell (o:=0) hc4 rfl
 have c4_1:=own_cell (o:=1) hc4 rfl
 have s5:=h_3.g (t:=5) rfl
 refine leave (v:=vT2 (vW (taiV pubS 41317 10 d s a)) (vI (taiE pubS 41317 10 d s a))) h_3.df (by simp [results,Tryz.results43,go_sem,Array.getD_eq_getD_getElem?,s4,c4_0,c4_1,Tryz.underlying34,s5]) ?_
 obtain ⟨e1,e2⟩:ctV es d s a=taiV pubS 41317 10 d s a∧ctE es d s a=taiE pubS 41317 10 d s a:=ct_rub ho hd
 exact ⟨by rw [e1,e2],h_3.st.nowT,h_3.st.gr⟩
 refine rg_ h_1 (tri 7) [K_ (vP c 0),K_ bT,K_ bT,K_ (vP (pb E1 0) 0),K_ (vI d),K_ bF,K_ bF] (fun E2=>[(0,vP c 0),(3,vP (pb E1 0) 0),(4,vP (pb E1 1) 0),(5,vI 0),(12,bF)]) (hs:=c_ mv_<|c_ (cw_ Tryz.func24 (h:=fun _ env _ wd hA=>⟨_,(u_res_eq (cold_any (hA.thO rfl)) (congrArg Value.bool ho)),rfl⟩))<|c_ mv_<|c_ (fa0 (vP (pb E1 0) 0))<|c_ (ld_ 0 (hrd:=by exact rd3 rfl))<|c_ (bi0 (vI d) (vI 41317) (h:=by intro env w;simp [go_sem,hd]))<|c_ (pk0 bT bF bF (h:=by intro env w;simp [go_sem,hd]))<|e_) (k:=fun E2 ac wd h_2=>?_)
 clear h_1
 refine then_n ?_
 refine wp_cond_false (eval_tmp (h_2.g (t:=12) rfl)) ?_
 refine wp_skip (then_n (wp_seq ?_))
 refine rg_ h_2 [[0],[0,1],[2],r_ 4,r_ 5,[0,1,2,3,5],r_ 7,r_ 8] [K_ (vP c 0),K_ (vP g 0),K_ (vL d s a),K_ (vT2 (vW (taiU es d s a)) (vI (whyU es d s a))),K_ (vW (taiU es d s a)),K_ (vI (whyU es d s a)),none,K_ (vI (whyU es d s a))] (fun E3=>[(4,vP (pb E1 1) 0),(5,vI (whyU es d s a))]) (S:=[⟨1,6,fun _=>[vI (hi (taiU es d s a)),.int .u64 (lo (taiU es d s a))]⟩]) (M':=fun E3=>[((pb E1 0),26,[vI d,vI s,vI a]),((pb E1 1),34,[vI (hi (taiU es d s a)),.int .u64 (lo (taiU es d s a))])]) (hs:=c_ mv_<|c_ (cw_ Tryz.func25 (h:=fun _ env _ wd hA=>⟨_,(cleaps_any (hA.thO rfl)),rfl⟩))<|c_ (ld_ 0 (hrd:=by exact rd26 rfl rfl rfl))<|c_ (s_clk (c:=c) (g:=g) (b:=b) (u:=u) (x:=x) (es:=es) Tryz.func73 (fun _ h=>h) (fun _ h=>h) (h:=fun D env ac wd hA hC=>⟨_,LeapC.clk hC (utai_l _ g u x es (IsC.lx hC) d s a),rfl⟩))<|c_ ext_<|c_ ext_<|c_ (se_ 1 (hst:=by exact fun _ _ _ hc=>st34 rfl rfl rfl hc))<|c_ mv_<|e_) (k:=fun E3 ac wd h_3=>?_)
 clear h_2
 refine then_n (wp_ret ?_)
 have s4:=h_3.g (t:=4) rfl
 have hc4:=(h_3.st.own 1 _ rfl).2
 have c4_0:=own_cell (o:=0) hc4 rfl
 have c4_1:=own_cell (o:=1) hc4 rfl
 have s5:=h_3.g (t:=5) rfl
 refine leave (v:=vT2 (vW (taiU es d s a)) (vI (whyU es d s a))) h_3.df (by simp [results,Tryz.results43,go_sem,Array.getD_eq_getD_getElem?,s4,c4_0,c4_1,Tryz.underlying34,s5]) ?_
 obtain ⟨e1,e2⟩:ctV es d s a=taiU es d s a∧ctE es d s a=whyU es d s a:=ct_utc (.inr hd)
 exact ⟨by rw [e1,e2],h_3.st.nowT,h_3.st.gr⟩
theorem cexists_c (w0:World) (c g:Nat) (b:Value) (u x:Int) (es:List (Int × Int)) (hC:IsC w0 c g b u x es) (d s a:Int) (hd0:-9223372036854775808≤d) (hd1:d < 9223372036854775808):ClkC Tryz.prog 17 [vP c 0,vL d s a] w0 c g b u x es (.bool (ctE es d s a == 0)):=by
 unfold ClkC
 have hst:=St.startC w0 hC
 refine enter Tryz.func17 rfl (n:=15) rfl (Nat.le_of_ble_eq_true rfl) hst (L:=[(0,vP c 0),(1,vL d s a)]) (lk_args rfl) (fun ac h=>?_)
 refine wp_seq ?_
 refine rg_ h [[0],[1]] [KE_ fun env=>vP (pb env 0) 0,K_ bF] (fun E1=>[(0,vP c 0),(3,vP (pb E1 0) 0),(4,bF)]) (W:=[{ i:=0,T:=26,c0:=[vI d,vI s,vI a] }]) (M':=fun E1=>[((pb E1 0),26,[vI d,vI s,vI a])]) (hs:=c_ (bx0 0 (vL d s a))<|c_ mv_<|e_) (k:=fun E1 ac wd h_1=>?_)
 clear h
 refine then_n (wp_seq ?_)
 refine rg_ h_1 [[0],[1],[0,1,2],r_ 4,r_ 5,[0,1,2,3,5],[6],[0,1,2,3,4,6,7],r_ 9] [K_ (vP c 0),K_ (vL d s a),K_ (vT2 (vW (ctV es d s a)) (vI (ctE es d s a))),K_ (vT2 (vW (ctV es d s a)) (vI (ctE es d s a))),K_ (vW (ctV es d s a)),K_ (vI (ctE es d s a)),KE_ fun env=>vP (pb env 6) 0,none,K_ (vI (ctE es d s a))] (fun E2=>[(4,bF),(6,vI (ctE es d s a))]) (W:=[{ i:=6,T:=34,c0:=[vI 0,.int .u64 0],s:=some 7,c1:=fun _=>[vI (hi (ctV es d s a)),.int .u64 (lo (ctV es d s a))] }]) (M':=fun E2=>[((pb E1 0),26,[vI d,vI s,vI a]),((pb E2 6),34,[vI (hi (ctV es d s a)),.int .u64 (lo (ctV es d s a))])]) (hs:=c_ mv_<|c_ (ld_ 0 (hrd:=by exact rd26 rfl rfl rfl))<|c_ (s_clk (c:=c) (g:=g) (b:=b) (u:=u) (x:=x) (es:=es) Tryz.func43 (fun _ h=>h) (fun _ h=>h) (h:=fun D env ac wd hA hC=>⟨_,ctai_c _ c g b u x es hC d s a hd0 hd1,rfl⟩))<|c_ mv_<|c_ ext_<|c_ ext_<|c_ (al_ 1)<|c_ (sw_ 1 6 (hst:=by exact fun _ _ _ hc=>st34 rfl rfl rfl hc))<|c_ mv_<|e_) (k:=fun E2 ac wd h_2=>?_)
 clear h_1
 refine then_n (wp_seq ?_)
 refine rg_ h_2 (tri 3) [K_ (vI (ctE es d s a)),K_ (.bool ((ctE es d s a) == 0)),K_ (.bool ((ctE es d s a) == 0))] (fun E3=>[(4,.bool ((ctE es d s a) == 0))]) (hs:=c_ mv_<|c_ (bi0 (vI (ctE es d s a)) (vI 0))<|c_ mv_<|e_) (k:=fun E3 ac wd h_3=>?_)
 clear h_2
 refine then_n (wp_ret ?_)
 have s4:=h_3.g (t:=4) rfl
 refine leave (v:=.bool ((ctE es d s a) == 0)) h_3.df (by simp [results,Tryz.results17,go_sem,Array.getD_eq_getD_getElem?,s4]) ?_
 exact ⟨rfl,h_3.st.nowT,h_3.st.gr⟩
theorem cTai_c (w0:World) (c g:Nat) (b:Value) (u x:Int) (es:List (Int × Int)) (hC:IsC w0 c g b u x es) (lax:Bool) (d s a:Int) (hd0:-9223372036854775808≤d) (hd1:d < 9223372036854775808):ClkC Tryz.prog 15 [vP c 0,vL d s a,.bool (lax)] w0 c g b u x es (vT2 (vW (tV es x lax d s a)) (vI (tE es x lax d s a))):=by
 unfold ClkC
 have hst:=St.startC w0 hC
 refine enter Tryz.func15 rfl (n:=31) rfl (Nat.le_of_ble_eq_true rfl) hst (L:=[(0,vP c 0),(1,vL d s a),(2,.bool (lax))]) (lk_args rfl) (fun ac h=>?_)
 refine wp_seq ?_
 refine rg_ h [[0],[1],[2]] [KE_ fun env=>vP (pb env 0) 0,KE_ fun env=>vP (pb env 1) 0,K_ (vI 0)] (fun E1=>[(0,vP c 0),(2,.bool (lax)),(4,vP (pb E1 0) 0),(6,vP (pb E1 1) 0),(7,vI 0)]) (W:=[{ i:=0,T:=26,c0:=[vI d,vI s,vI a] },{ i:=1,T:=34,c0:=[vI 0,.int .u64 0] }]) (M':=fun E1=>[((pb E1 0),26,[vI d,vI s,vI a]),((pb E1 1),34,[vI 0,.int .u64 0])]) (hs:=c_ (bx0 0 (vL d s a))<|c_ (al_ 1)<|c_ mv_<|e_) (k:=fun E1 ac wd h_1=>?_)
 clear h
 refine then_n (wp_seq ?_)
 refine rg_ h_1 [[0],[1],[0,1,2],r_ 4,r_ 5,[0,1,2,3,5],[6],[0,1,2,3,4,6,7],r_ 9] [K_ (vP c 0),K_ (vL d s a),K_ (vT2 (vW (ctV es d s a)) (vI (ctE es d s a))),K_ (vT2 (vW (ctV es d s a)) (vI (ctE es d s a))),K_ (vW (ctV es d s a)),K_ (vI (ctE es d s a)),KE_ fun env=>vP (pb env 6) 0,none,K_ (vI (ctE es d s a))] (fun E2=>[(0,vP c 0),(2,.bool (lax)),(4,vP (pb E1 0) 0),(6,vP (pb E1 1) 0),(7,vI 0),(8,vP (pb E2 6) 0),(9,vI (ctE es d s a))]) (W:=[{ i:=6,T:=34,c0:=[vI 0,.int .u64 0],s:=some 7,c1:=fun _=>[vI (hi (ctV es d s a)),.int .u64 (lo (ctV es d s a))] }]) (M':=fun E2=>[((pb E1 0),26,[vI d,vI s,vI a]),((pb E1 1),34,[vI 0,.int .u64 0]),((pb E2 6),34,[vI (hi (ctV es d s a)),.int .u64 (lo (ctV es d s a))])]) (hs:=c_ mv_<|c_ (ld_ 0 (hrd:=by exact rd26 rfl rfl rfl))<|c_ (s_clk (c:=c) (g:=g) (b:=b) (u:=u) (x:=x) (es:=es) Tryz.func43 (fun _ h=>h) (fun _ h=>h) (h:=fun D env ac wd hA hC=>⟨_,ctai_c _ c g b u x es hC d s a hd0 hd1,rfl⟩))<|c_ mv_<|c_ ext_<|c_ ext_<|c_ (al_ 2)<|c_ (sw_ 2 6 (hst:=by exact fun _ _ _ hc=>st34 rfl rfl rfl hc))<|c_ mv_<|e_) (k:=fun E2 ac wd h_2=>?_)
 clear h_1
 refine then_n (wp_seq (wp_block (wp_seq ?_)))
 by_cases he:ctE es d s a=0
 obtain ⟨q0,q1,q2,q3,q4,q5⟩:=ctE_bd he
 refine rg_ h_2 (tri 3) [K_ (vI (ctE es d s a)),K_ bF,K_ bF] (fun E3=>[(0,vP c 0),(2,.bool (lax)),(4,vP (pb E1 0) 0),(6,vP (pb E1 1) 0),(7,vI 0),(8,vP (pb E2 6) 0),(9,vI (ctE es d s a)),(16,bF)]) (hs:=c_ mv_<|c_ (bi0 (vI (ctE es d s a)) (vI 0) (h:=by intro env w;simp [go_sem,he]))<|c_ mv_<|e_) (k:=fun E3 ac wd h_3=>?_)
 clear h_2
 refine then_n ?_
 refine wp_cond_false (eval_tmp (h_3.g (t:=16) rfl)) ?_
 refine wp_seq ?_
 rcases lax with _ | _
 cases hov:overB x d s
 refine rg_ h_3 [[0],[0,1],[0,1,2],r_ 4,[0,1,2,4],r_ 6,r_ 7,r_ 8] [K_ bF,K_ bT,K_ bT,K_ (vP c 0),K_ (vL d s a),K_ bF,K_ bF,K_ bF] (fun E4=>[(6,vP (pb E1 1) 0),(7,vI 0),(8,vP (pb E2 6) 0),(21,bF)]) (hs:=c_ mv_<|c_ (un0 bF)<|c_ mv_<|c_ (gm0 (vP c 0))<|c_ (ld_ 0 (hrd:=by exact rd26 rfl rfl rfl))<|c_ (cw_ Tryz.func44 (h:=fun _ env _ wd hA=>⟨_,(u_res_eq (cover_any (hA.thO rfl) d s a q4 q5 q0 q1) (congrArg Value.bool hov)),rfl⟩))<|c_ (pk0 bT bF bF)<|c_ mv_<|e_) (k:=fun E4 ac wd h_4=>?_)
 clear h_3
 refine then_n ?_
 refine wp_cond_false (eval_tmp (h_4.g (t:=21) rfl)) ?_
 refine wp_skip (blk_n (then_n (wp_seq ?_)))
 refine rg_ h_4 (tri 3) [K_ (vW (ctV es d s a)),none,K_ (vI 0)] (fun E5=>[(6,vP (pb E1 1) 0),(7,vI 0)]) (S:=[⟨1,1,fun _=>[vI (hi (ctV es d s a)),.int .u64 (lo (ctV es d s a))]⟩]) (M':=fun E5=>[((pb E1 0),26,[vI d,vI s,vI a]),((pb E1 1),34,[vI (hi (ctV es d s a)),.int .u64 (lo (ctV es d s a))]),((pb E2 6),34,[vI (hi (ctV es d s a)),.int .u64 (lo (ctV es d s a))])]) (hs:=c_ (ld_ 2 (hrd:=by exact rd34 rfl rfl))<|c_ (se_ 1 (hst:=by exact fun _ _ _ hc=>st34 rfl rfl rfl hc))<|c_ mv_<|e_) (k:=fun E5 ac wd h_5=>?_)
 clear h_4
 refine then_n (wp_ret ?_)
 have s6:=h_5.g (t:=6) rfl
 have hc6:=(h_5.st.own 1 _ rfl).2
 have c6_0:=own_cell (o:=0) hc6 rfl
 have c6_1:=own_cell (o:=1) hc6 rfl
 have s7:=h_5.g (t:=7) rfl
 refine leave (v:=vT2 (vW (ctV es d s a)) (vI 0)) h_5.df (by simp [results,Tryz.results15,go_sem,Array.getD_eq_getD_getElem?,s6,c6_0,c6_1,Tryz.underlying34,s7]) ?_
 have e1:tE es x false d s a=0:=by unfold tE expB;rw [if_pos he];simp [hov]
 have e2:tV es x false d s a=ctV es d s a:=by unfold tV;rw [e1,if_pos rfl]
 exact ⟨by rw [e1,e2],h_5.st.nowT,h_5.st.gr⟩
 refine rg_ h_3 [[0],[0,1],[0,1,2],r_ 4,[0,1,2,4],r_ 6,r_ 7,r_ 8] [K_ bF,K_ bT,K_ bT,K_ (vP c 0),K_ (vL d s a),K_ bT,K_ bT,K_ bT] (fun E4=>[(6,vP (pb E1 1) 0),(7,vI 0),(8,vP (pb E2 6) 0),(21,bT)]) (hs:=c_ mv_<|c_ (un0 bF)<|c_ mv_<|c_ (gm0 (vP c 0))<|c_ (ld_ 0 (hrd:=by exact rd26 rfl rfl rfl))<|c_ (cw_ Tryz.func44 (h:=fun _ env _ wd hA=>⟨_,(u_res_eq (cover_any (hA.thO rfl) d s a q4 q5 q0 q1) (congrArg Value.bool hov)),rfl⟩))<|c_ (pk0 bT bT bF)<|c_ mv_<|e_) (k:=fun E4 ac wd h_4=>?_)
 clear h_3
 refine then_n ?_
 refine wp_cond_true (eval_tmp (h_4.g (t:=21) rfl)) ?_
 refine wp_seq ?_
 refine rg_ h_4 (tri 3) [K_ (.agg #[vI 0,.int .u64 0]),none,K_ (vI 9)] (fun E5=>[(6,vP (pb E1 1) 0),(7,vI 9),(8,vP (pb E2 6) 0)]) (S:=[⟨1,1,fun _=>[vI 0,.int .u64 0]⟩]) (M':=fun E5=>[((pb E1 0),26,[vI d,vI s,vI a]),((pb E1 1),34,[vI 0,.int .u64 0]),((pb E2 6),34,[vI (hi (ctV es d s a)),.int .u64 (lo (ctV es d s a))])]) (hs:=c_ (bd0 ([]))<|c_ (se_ 1 (hst:=by exact fun _ _ _ hc=>st34 rfl rfl rfl hc))<|c_ mv_<|e_) (k:=fun E5 ac wd h_5=>?_)
 clear h_4
 refine then_n (wp_ret (blk_ret (then_ret ?_)))
 have s6:=h_5.g (t:=6) rfl
 have hc6:=(h_5.st.own 1 _ rfl).2
 have c6_0:=own_cell (o:=0) hc6 rfl
 have c6_1:=own_cell (o:=1) hc6 rfl
 have s7:=h_5.g (t:=7) rfl
 refine leave (v:=vT2 (.agg #[vI 0,.int .u64 0]) (vI 9)) h_5.df (by simp [results,Tryz.results15,go_sem,Array.getD_eq_getD_getElem?,s6,c6_0,c6_1,Tryz.underlying34,s7]) ?_
 have e1:tE es x false d s a=9:=by unfold tE expB;rw [if_pos he];simp [hov]
 have e2:tV es x false d s a=0:=by unfold tV;rw [e1,if_neg (by omega)]
 exact ⟨by rw [e1,e2,vW,hi_zero,lo_zero],h_5.st.nowT,h_5.st.gr⟩
 refine rg_ h_3 [[0],[0,1],[0,1,2],r_ 4,[0,1,2,4],r_ 6,r_ 7,r_ 8] [K_ bT,K_ bF,K_ bF,K_ undef,K_ undef,K_ undef,K_ bF,K_ bF] (fun E4=>[(6,vP (pb E1 1) 0),(7,vI 0),(8,vP (pb E2 6) 0),(21,bF)]) (hs:=c_ mv_<|c_ (un0 bT)<|c_ mv_<|c_ off_<|c_ off_<|c_ off_<|c_ (pk0 bF undef bF)<|c_ mv_<|e_) (k:=fun E4 ac wd h_4=>?_)
 clear h_3
 refine then_n ?_
 refine wp_cond_false (eval_tmp (h_4.g (t:=21) rfl)) ?_
 refine wp_skip (blk_n (then_n (wp_seq ?_)))
 refine rg_ h_4 (tri 3) [K_ (vW (ctV es d s a)),none,K_ (vI 0)] (fun E5=>[(6,vP (pb E1 1) 0),(7,vI 0)]) (S:=[⟨1,1,fun _=>[vI (hi (ctV es d s a)),.int .u64 (lo (ctV es d s a))]⟩]) (M':=fun E5=>[((pb E1 0),26,[vI d,vI s,vI a]),((pb E1 1),34,[vI (hi (ctV es d s a)),.int .u64 (lo (ctV es d s a))]),((pb E2 6),34,[vI (hi (ctV es d s a)),.int .u64 (lo (ctV es d s a))])]) (hs:=c_ (ld_ 2 (hrd:=by exact rd34 rfl rfl))<|c_ (se_ 1 (hst:=by exact fun _ _ _ hc=>st34 rfl rfl rfl hc))<|c_ mv_<|e_) (k:=fun E5 ac wd h_5=>?_)
 clear h_4
 refine then_n (wp_ret ?_)
 have s6:=h_5.g (t:=6) rfl
 have hc6:=(h_5.st.own 1 _ rfl).2
 have c6_0:=own_cell (o:=0) hc6 rfl
 have c6_1:=own_cell (o:=1) hc6 rfl
 have s7:=h_5.g (t:=7) rfl
 refine leave (v:=vT2 (vW (ctV es d s a)) (vI 0)) h_5.df (by simp [results,Tryz.results15,go_sem,Array.getD_eq_getD_getElem?,s6,c6_0,c6_1,Tryz.underlying34,s7]) ?_
 have e1:tE es x true d s a=0:=by unfold tE expB;rw [if_pos he];simp
 have e2:tV es x true d s a=ctV es d s a:=by unfold tV;rw [e1,if_pos rfl]
 exact ⟨by rw [e1,e2],h_5.st.nowT,h_5.st.gr⟩
 refine rg_ h_2 (tri 3) [K_ (vI (ctE es d s a)),K_ bT,K_ bT] (fun E3=>[(0,vP c 0),(2,.bool (lax)),(4,vP (pb E1 0) 0),(6,vP (pb E1 1) 0),(7,vI 0),(8,vP (pb E2 6) 0),(9,vI (ctE es d s a)),(16,bT)]) (hs:=c_ mv_<|c_ (bi0 (vI (ctE es d s a)) (vI 0) (h:=by intro env w;simp [go_sem,he]))<|c_ mv_<|e_) (k:=fun E3 ac wd h_3=>?_)
 clear h_2
 refine then_n ?_
 refine wp_cond_true (eval_tmp (h_3.g (t:=16) rfl)) ?_
 refine wp_seq ?_
 refine rg_ h_3 [[0],[1],[0,2],r_ 4] [K_ (.agg #[vI 0,.int .u64 0]),K_ (vI (ctE es d s a)),none,K_ (vI (ctE es d s a))] (fun E4=>[(6,vP (pb E1 1) 0),(7,vI (ctE es d s a)),(8,vP (pb E2 6) 0)]) (S:=[⟨1,2,fun _=>[vI 0,.int .u64 0]⟩]) (M':=fun E4=>[((pb E1 0),26,[vI d,vI s,vI a]),((pb E1 1),34,[vI 0,.int .u64 0]),((pb E2 6),34,[vI (hi (ctV es d s a)),.int .u64 (lo (ctV es d s a))])]) (hs:=c_ (bd0 ([]))<|c_ mv_<|c_ (se_ 1 (hst:=by exact fun _ _ _ hc=>st34 rfl rfl rfl hc))<|c_ mv_<|e_) (k:=fun E4 ac wd h_4=>?_)
 clear h_3
 refine then_n (wp_ret (blk_ret (then_ret ?_)))
 have s6:=h_4.g (t:=6) rfl
 have hc6:=(h_4.st.own 1 _ rfl).2
 have c6_0:=own_cell (o:=0) hc6 rfl
 have c6_1:=own_cell (o:=1) hc6 rfl
 have s7:=h_4.g (t:=7) rfl
 refine leave (v:=vT2 (.agg #[vI 0,.int .u64 0]) (vI (ctE es d s a))) h_4.df (by simp [results,Tryz.results15,go_sem,Array.getD_eq_getD_getElem?,s6,c6_0,c6_1,Tryz.underlying34,s7]) ?_
 have e1:tE es x lax d s a=ctE es d s a:=by unfold tE;rw [if_neg he]
 have e2:tV es x lax d s a=0:=by unfold tV;rw [e1,if_neg he]
 exact ⟨by rw [e1,e2,vW,hi_zero,lo_zero],h_4.st.nowT,h_4.st.gr⟩
theorem clabel_c (w0:World) (c g:Nat) (b:Value) (u x:Int) (es:List (Int × Int)) (hC:IsC w0 c g b u x es) (z:Int) (hz:InW z):ClkC Tryz.prog 55 [vP c 0,vW z] w0 c g b u x es (vT2 (vL ((clb es z).2.1) ((clb es z).2.2.1) ((clb es z).2.2.2)) (vI ((clb es z).1))):=by
 unfold ClkC
 have hst:=St.startC w0 hC
 refine enter Tryz.func55 rfl (n:=31) rfl (Nat.le_of_ble_eq_true rfl) hst (L:=[(0,vP c 0),(1,vW z)]) (lk_args rfl) (fun ac h=>?_)
 refine wp_seq ?_
 refine rg_ h [[0],[1],[2]] [KE_ fun env=>vP (pb env 0) 0,KE_ fun env=>vP (pb env 1) 0,K_ (vI 0)] (fun E1=>[(0,vP c 0),(3,vP (pb E1 0) 0),(4,vP (pb E1 1) 0),(5,vI 0)]) (W:=[{ i:=0,T:=34,c0:=[vI (hi (z)),.int .u64 (lo (z))] },{ i:=1,T:=26,c0:=[vI 0,vI 0,vI 0] }]) (M':=fun E1=>[((pb E1 0),34,[vI (hi (z)),.int .u64 (lo (z))]),((pb E1 1),26,[vI 0,vI 0,vI 0])]) (hs:=c_ (bx0 0 (vW z))<|c_ (al_ 1)<|c_ mv_<|e_) (k:=fun E1 ac wd h_1=>?_)
 clear h
 refine then_n (wp_seq ?_)
 refine rg_ h_1 [[0],[0,1],[2],r_ 4,r_ 5,r_ 6,[0,1,2,3,4,6],[7],[0,1,2,3,4,5,7,8],r_ 10] [K_ (vP c 0),K_ (vP g 0),K_ (vW z),K_ (vT2 (vL ((labUt es z).2.1) ((labUt es z).2.2.1) ((labUt es z).2.2.2)) (vI ((labUt es z).1))),K_ (vT2 (vL ((labUt es z).2.1) ((labUt es z).2.2.1) ((labUt es z).2.2.2)) (vI ((labUt es z).1))),K_ (vL ((labUt es z).2.1) ((labUt es z).2.2.1) ((labUt es z).2.2.2)),K_ (vI ((labUt es z).1)),KE_ fun env=>vP (pb env 7) 0,none,K_ (vI ((labUt es z).1))] (fun E2=>[(0,vP c 0),(3,vP (pb E1 0) 0),(4,vP (pb E1 1) 0),(5,vI 0),(6,vP (pb E2 7) 0),(7,vI ((labUt es z).1))]) (W:=[{ i:=7,T:=26,c0:=[vI 0,vI 0,vI 0],s:=some 8,c1:=fun _=>[vI ((labUt es z).2.1),vI ((labUt es z).2.2.1),vI ((labUt es z).2.2.2)] }]) (M':=fun E2=>[((pb E1 0),34,[vI (hi (z)),.int .u64 (lo (z))]),((pb E1 1),26,[vI 0,vI 0,vI 0]),((pb E2 7),26,[vI ((labUt es z).2.1),vI ((labUt es z).2.2.1),vI ((labUt es z).2.2.2)])]) (hs:=c_ mv_<|c_ (cw_ Tryz.func25 (h:=fun _ env _ wd hA=>⟨_,(cleaps_any (hA.thO rfl)),rfl⟩))<|c_ (ld_ 0 (hrd:=by exact rd34 rfl rfl))<|c_ (s_clk (c:=c) (g:=g) (b:=b) (u:=u) (x:=x) (es:=es) Tryz.func85 (fun _ h=>h) (fun _ h=>h) (h:=fun D env ac wd hA hC=>⟨_,LeapC.clk hC (ulabel_l _ g u x es (IsC.lx hC) z hz),rfl⟩))<|c_ mv_<|c_ ext_<|c_ ext_<|c_ (al_ 2)<|c_ (sw_ 2 7 (hst:=by exact fun _ _ _ hc=>st26 rfl rfl rfl rfl hc))<|c_ mv_<|e_) (k:=fun E2 ac wd h_2=>?_)
 clear h_1
 refine then_n (wp_seq (wp_seq ?_))
 cases ho:oldB es
 refine rg_ h_2 (tri 6) [K_ (vP c 0),K_ bF,K_ bF,K_ undef,K_ undef,K_ bF] (fun E3=>[(0,vP c 0),(3,vP (pb E1 0) 0),(4,vP (pb E1 1) 0),(5,vI 0),(6,vP (pb E2 7) 0),(7,vI ((labUt es z).1)),(20,bF)]) (hs:=c_ mv_<|c_ (cw_ Tryz.func24 (h:=fun _ env _ wd hA=>⟨_,(u_res_eq (cold_any (hA.thO rfl)) (congrArg Value.bool ho)),rfl⟩))<|c_ mv_<|c_ off_<|c_ off_<|c_ (pk0 bF undef bF)<|e_) (k:=fun E3 ac wd h_3=>?_)
 clear h_2
 refine then_n ?_
 refine wp_cond_false (eval_tmp (h_3.g (t:=20) rfl)) ?_
 refine wp_skip (then_n (wp_seq ?_))
 refine rg_ h_3 [[0],[1],[0,2],r_ 4] [K_ (vL ((labUt es z).2.1) ((labUt es z).2.2.1) ((labUt es z).2.2.2)),K_ (vI ((labUt es z).1)),none,K_ (vI ((labUt es z).1))] (fun E4=>[(4,vP (pb E1 1) 0),(5,vI ((labUt es z).1))]) (S:=[⟨1,2,fun _=>[vI ((labUt es z).2.1),vI ((labUt es z).2.2.1),vI ((labUt es z).2.2.2)]⟩]) (M':=fun E4=>[((pb E1 0),34,[vI (hi (z)),.int .u64 (lo (z))]),((pb E1 1),26,[vI ((labUt es z).2.1),vI ((labUt es z).2.2.1),vI ((labUt es z).2.2.2)]),((pb E2 7),26,[vI ((labUt es z).2.1),vI ((labUt es z).2.2.1),vI ((labUt es z).2.2.2)])]) (hs:=c_ (ld_ 2 (hrd:=by exact rd26 rfl rfl rfl))<|c_ mv_<|c_ (se_ 1 (hst:=by exact fun _ _ _ hc=>st26 rfl rfl rfl rfl hc))<|c_ mv_<|e_) (k:=fun E4 ac wd h_4=>?_)
 clear h_3
 refine then_n (wp_ret ?_)
 have s4:=h_4.g (t:=4) rfl
 have hc4:=(h_4.st.own 1 _ rfl).2
 have c4_0:=own_cell (o:=0) hc4 rfl
 have c4_1:=own_cell (o:=1) hc4 rfl
 have c4_2:=own_cell (o:=2) hc4 rfl
 have s5:=h_4.g (t:=5) rfl
 refine leave (v:=vT2 (vL ((labUt es z).2.1) ((labUt es z).2.2.1) ((labUt es z).2.2.2)) (vI ((labUt es z).1))) h_4.df (by simp [results,Tryz.results55,go_sem,Array.getD_eq_getD_getElem?,s4,c4_0,c4_1,c4_2,Tryz.underlying26,s5]) ?_
 have e:clb es z=labUt es z:=clb_utc (.inl ho)
 exact ⟨by rw [e],h_4.st.nowT,h_4.st.gr⟩
 by_cases h8:(labUt es z).1=8
 refine rg_ h_2 (tri 6) [K_ (vP c 0),K_ bT,K_ bT,K_ (vI ((labUt es z).1)),K_ bT,K_ bT] (fun E3=>[(0,vP c 0),(3,vP (pb E1 0) 0),(4,vP (pb E1 1) 0),(5,vI 0),(6,vP (pb E2 7) 0),(7,vI ((labUt es z).1)),(20,bT)]) (hs:=c_ mv_<|c_ (cw_ Tryz.func24 (h:=fun _ env _ wd hA=>⟨_,(u_res_eq (cold_any (hA.thO rfl)) (congrArg Value.bool ho)),rfl⟩))<|c_ mv_<|c_ (gm0 (vI ((labUt es z).1)))<|c_ (bi0 (vI ((labUt es z).1)) (vI 8) (h:=by intro env w;simp [go_sem,h8]))<|c_ (pk0 bT bT bF (h:=by intro env w;simp [go_sem,h8]))<|e_) (k:=fun E3 ac wd h_3=>?_)
 clear h_2
 refine then_n ?_
 refine wp_cond_true (eval_tmp (h_3.g (t:=20) rfl)) ?_
 refine wp_seq ?_
 refine rg_ h_3 [[0],[0,1],[0,1,2],r_ 4,[4],r_ 6,r_ 7,[0,1,2,3,4,5,7],r_ 9,r_ 10] [K_ (vP c 0),K_ (vP c 0),K_ (vP c 1),K_ (vP (ptrB b) 0),K_ (vW z),K_ (vT2 (vL (labD pubS 41317 10 z) (labS pubS 41317 10 z) (labA pubS 41317 10 z)) (vI (labE pubS 41317 10 z))),K_ (vL (labD pubS 41317 10 z) (labS pubS 41317 10 z) (labA pubS 41317 10 z)),K_ (vI (labE pubS 41317 10 z)),none,K_ (vI (labE pubS 41317 10 z))] (fun E4=>[(4,vP (pb E1 1) 0),(5,vI (labE pubS 41317 10 z)),(6,vP (pb E2 7) 0),(7,vI ((labUt es z).1))]) (S:=[⟨1,8,fun _=>[vI (labD pubS 41317 10 z),vI (labS pubS 41317 10 z),vI (labA pubS 41317 10 z)]⟩]) (M':=fun E4=>[((pb E1 0),34,[vI (hi (z)),.int .u64 (lo (z))]),((pb E1 1),26,[vI (labD pubS 41317 10 z),vI (labS pubS 41317 10 z),vI (labA pubS 41317 10 z)]),((pb E2 7),26,[vI ((labUt es z).2.1),vI ((labUt es z).2.2.1),vI ((labUt es z).2.2.2)])]) (hs:=c_ mv_<|c_ (nc0 (vP c 0))<|c_ (fa0 (vP c 0))<|c_ (by refine s_v rfl rfl rfl rfl (fun {D env ac wd} hA=>?_);have e23:ac.tmps[23]? = some (vP c 1):=hA.g rfl;have hcr:=IsC.cellR (hA.thO rfl) ho;simp [go_sem,e23,hcr])<|c_ (ld_ 0 (hrd:=by exact rd34 rfl rfl))<|c_ (cw_ Tryz.func86 (h:=fun _ env _ wd hA=>⟨_,(label_X (IsC.r (hA.thO rfl) ho) pub_ok.toLOk z hz),rfl⟩))<|c_ ext_<|c_ ext_<|c_ (se_ 1 (hst:=by exact fun _ _ _ hc=>st26 rfl rfl rfl rfl hc))<|c_ mv_<|e_) (k:=fun E4 ac wd h_4=>?_)
 clear h_3
 refine then_n (wp_ret (then_ret ?_))
 have s4:=h_4.g (t:=4) rfl
 have hc4:=(h_4.st.own 1 _ rfl).2
 have c4_0:=own_cell (o:=0) hc4 rfl
 have c4_1:=own_cell (o:=1) hc4 rfl
 have c4_2:=own_cell (o:=2) hc4 rfl
 have s5:=h_4.g (t:=5) rfl
 refine leave (v:=vT2 (vL (labD pubS 41317 10 z) (labS pubS 41317 10 z) (labA pubS 41317 10 z)) (vI (labE pubS 41317 10 z))) h_4.df (by simp [results,Tryz.results55,go_sem,Array.getD_eq_getD_getElem?,s4,c4_0,c4_1,c4_2,Tryz.underlying26,s5]) ?_
 have e:clb es z=(labE pubS 41317 10 z,labD pubS 41317 10 z,labS pubS 41317 10 z,labA pubS 41317 10 z):=clb_rub ho h8
 exact ⟨by rw [e],h_4.st.nowT,h_4.st.gr⟩
 refine rg_ h_2 (tri 6) [K_ (vP c 0),K_ bT,K_ bT,K_ (vI ((labUt es z).1)),K_ bF,K_ bF] (fun E3=>[(0,vP c 0),(3,vP (pb E1 0) 0),(4,vP (pb E1 1) 0),(5,vI 0),(6,vP (pb E2 7) 0),(7,vI ((labUt es z).1)),(20,bF)]) (hs:=c_ mv_<|c_ (cw_ Tryz.func24 (h:=fun _ env _ wd hA=>⟨_,(u_res_eq (cold_any (hA.thO rfl)) (congrArg Value.bool ho)),rfl⟩))<|c_ mv_<|c_ (gm0 (vI ((labUt es z).1)))<|c_ (bi0 (vI ((labUt es z).1)) (vI 8) (h:=by intro env w;simp [go_sem,h8]))<|c_ (pk0 bT bF bF (h:=by intro env w;simp [go_sem,h8]))<|e_) (k:=fun E3 ac wd h_3=>?_)
 clear h_2
 refine then_n ?_
 refine wp_cond_false (eval_tmp (h_3.g (t:=20) rfl)) ?_
 refine wp_skip (then_n (wp_seq ?_))
 refine rg_ h_3 [[0],[1],[0,2],r_ 4] [K_ (vL ((labUt es z).2.1) ((labUt es z).2.2.1) ((labUt es z).2.2.2)),K_ (vI ((labUt es z).1)),none,K_ (vI ((labUt es z).1))] (fun E4=>[(4,vP (pb E1 1) 0),(5,vI ((labUt es z).1))]) (S:=[⟨1,2,fun _=>[vI ((labUt es z).2.1),vI ((labUt es z).2.2.1),vI ((labUt es z).2.2.2)]⟩]) (M':=fun E4=>[((pb E1 0),34,[vI (hi (z)),.int .u64 (lo (z))]),((pb E1 1),26,[vI ((labUt es z).2.1),vI ((labUt es z).2.2.1),vI ((labUt es z).2.2.2)]),((pb E2 7),26,[vI ((labUt es z).2.1),vI ((labUt es z).2.2.1),vI ((labUt es z).2.2.2)])]) (hs:=c_ (ld_ 2 (hrd:=by exact rd26 rfl rfl rfl))<|c_ mv_<|c_ (se_ 1 (hst:=by exact fun _ _ _ hc=>st26 rfl rfl rfl rfl hc))<|c_ mv_<|e_) (k:=fun E4 ac wd h_4=>?_)
 clear h_3
 refine then_n (wp_ret ?_)
 have s4:=h_4.g (t:=4) rfl
 have hc4:=(h_4.st.own 1 _ rfl).2
 have c4_0:=own_cell (o:=0) hc4 rfl
 have c4_1:=own_cell (o:=1) hc4 rfl
 have c4_2:=own_cell (o:=2) hc4 rfl
 have s5:=h_4.g (t:=5) rfl
 refine leave (v:=vT2 (vL ((labUt es z).2.1) ((labUt es z).2.2.1) ((labUt es z).2.2.2)) (vI ((labUt es z).1))) h_4.df (by simp [results,Tryz.results55,go_sem,Array.getD_eq_getD_getElem?,s4,c4_0,c4_1,c4_2,Tryz.underlying26,s5]) ?_
 have e:clb es z=labUt es z:=clb_utc (.inr h8)
 exact ⟨by rw [e],h_4.st.nowT,h_4.st.gr⟩
theorem cLabel_c (w0:World) (c g:Nat) (b:Value) (u x:Int) (es:List (Int × Int)) (hC:IsC w0 c g b u x es) (lax:Bool) (z:Int) (hz:InW z):ClkC Tryz.prog 20 [vP c 0,vW z,.bool (lax)] w0 c g b u x es (vT2 (vL ((lbl4 es x lax z).2.1) ((lbl4 es x lax z).2.2.1) ((lbl4 es x lax z).2.2.2)) (vI ((lbl4 es x lax z).1))):=by
 unfold ClkC
 have hst:=St.startC w0 hC
 refine enter Tryz.func20 rfl (n:=31) rfl (Nat.le_of_ble_eq_true rfl) hst (L:=[(0,vP c 0),(1,vW z),(2,.bool (lax))]) (lk_args rfl) (fun ac h=>?_)
 refine wp_seq ?_
 refine rg_ h [[0],[1],[2]] [KE_ fun env=>vP (pb env 0) 0,KE_ fun env=>vP (pb env 1) 0,K_ (vI 0)] (fun E1=>[(0,vP c 0),(2,.bool (lax)),(4,vP (pb E1 0) 0),(6,vP (pb E1 1) 0),(7,vI 0)]) (W:=[{ i:=0,T:=34,c0:=[vI (hi (z)),.int .u64 (lo (z))] },{ i:=1,T:=26,c0:=[vI 0,vI 0,vI 0] }]) (M':=fun E1=>[((pb E1 0),34,[vI (hi (z)),.int .u64 (lo (z))]),((pb E1 1),26,[vI 0,vI 0,vI 0])]) (hs:=c_ (bx0 0 (vW z))<|c_ (al_ 1)<|c_ mv_<|e_) (k:=fun E1 ac wd h_1=>?_)
 clear h
 refine then_n (wp_seq ?_)
 refine rg_ h_1 [[0],[1],[0,1,2],r_ 4,r_ 5,[0,1,2,3,5],[6],[0,1,2,3,4,6,7],r_ 9] [K_ (vP c 0),K_ (vW z),K_ (vT2 (vL ((clb es z).2.1) ((clb es z).2.2.1) ((clb es z).2.2.2)) (vI ((clb es z).1))),K_ (vT2 (vL ((clb es z).2.1) ((clb es z).2.2.1) ((clb es z).2.2.2)) (vI ((clb es z).1))),K_ (vL ((clb es z).2.1) ((clb es z).2.2.1) ((clb es z).2.2.2)),K_ (vI ((clb es z).1)),KE_ fun env=>vP (pb env 6) 0,none,K_ (vI ((clb es z).1))] (fun E2=>[(0,vP c 0),(2,.bool (lax)),(6,vP (pb E1 1) 0),(7,vI 0),(8,vP (pb E2 6) 0),(9,vI ((clb es z).1))]) (W:=[{ i:=6,T:=26,c0:=[vI 0,vI 0,vI 0],s:=some 7,c1:=fun _=>[vI ((clb es z).2.1),vI ((clb es z).2.2.1),vI ((clb es z).2.2.2)] }]) (M':=fun E2=>[((pb E1 0),34,[vI (hi (z)),.int .u64 (lo (z))]),((pb E1 1),26,[vI 0,vI 0,vI 0]),((pb E2 6),26,[vI ((clb es z).2.1),vI ((clb es z).2.2.1),vI ((clb es z).2.2.2)])]) (hs:=c_ mv_<|c_ (ld_ 0 (hrd:=by exact rd34 rfl rfl))<|c_ (s_clk (c:=c) (g:=g) (b:=b) (u:=u) (x:=x) (es:=es) Tryz.func55 (fun _ h=>h) (fun _ h=>h) (h:=fun D env ac wd hA hC=>⟨_,clabel_c _ c g b u x es hC z hz,rfl⟩))<|c_ mv_<|c_ ext_<|c_ ext_<|c_ (al_ 2)<|c_ (sw_ 2 6 (hst:=by exact fun _ _ _ hc=>st26 rfl rfl rfl rfl hc))<|c_ mv_<|e_) (k:=fun E2 ac wd h_2=>?_)
 clear h_1
 refine then_n (wp_seq (wp_block (wp_seq ?_)))
 by_cases he:(clb es z).1=0
 obtain ⟨q0,q1,q2,q3,q4,q5⟩:=hC.bdL he
 refine rg_ h_2 (tri 3) [K_ (vI ((clb es z).1)),K_ bF,K_ bF] (fun E3=>[(0,vP c 0),(2,.bool (lax)),(6,vP (pb E1 1) 0),(7,vI 0),(8,vP (pb E2 6) 0),(9,vI ((clb es z).1)),(16,bF)]) (hs:=c_ mv_<|c_ (bi0 (vI ((clb es z).1)) (vI 0) (h:=by intro env w;simp [go_sem,he]))<|c_ mv_<|e_) (k:=fun E3 ac wd h_3=>?_)
 clear h_2
 refine then_n ?_
 refine wp_cond_false (eval_tmp (h_3.g (t:=16) rfl)) ?_
 refine wp_seq ?_
 rcases lax with _ | _
 cases hov:overB x ((clb es z).2.1) ((clb es z).2.2.1)
 refine rg_ h_3 [[0],[0,1],[0,1,2],r_ 4,[0,1,2,4],r_ 6,r_ 7,r_ 8] [K_ bF,K_ bT,K_ bT,K_ (vP c 0),K_ (vL ((clb es z).2.1) ((clb es z).2.2.1) ((clb es z).2.2.2)),K_ bF,K_ bF,K_ bF] (fun E4=>[(6,vP (pb E1 1) 0),(7,vI 0),(8,vP (pb E2 6) 0),(21,bF)]) (hs:=c_ mv_<|c_ (un0 bF)<|c_ mv_<|c_ (gm0 (vP c 0))<|c_ (ld_ 2 (hrd:=by exact rd26 rfl rfl rfl))<|c_ (cw_ Tryz.func44 (h:=fun _ env _ wd hA=>⟨_,(u_res_eq (cover_any (hA.thO rfl) ((clb es z).2.1) ((clb es z).2.2.1) ((clb es z).2.2.2) q4 q5 q0 q1) (congrArg Value.bool hov)),rfl⟩))<|c_ (pk0 bT bF bF)<|c_ mv_<|e_) (k:=fun E4 ac wd h_4=>?_)
 clear h_3
 refine then_n ?_
 refine wp_cond_false (eval_tmp (h_4.g (t:=21) rfl)) ?_
 refine wp_skip (blk_n (then_n (wp_seq ?_)))
 refine rg_ h_4 (tri 3) [K_ (vL ((clb es z).2.1) ((clb es z).2.2.1) ((clb es z).2.2.2)),none,K_ (vI 0)] (fun E5=>[(6,vP (pb E1 1) 0),(7,vI 0)]) (S:=[⟨1,1,fun _=>[vI ((clb es z).2.1),vI ((clb es z).2.2.1),vI ((clb es z).2.2.2)]⟩]) (M':=fun E5=>[((pb E1 0),34,[vI (hi (z)),.int .u64 (lo (z))]),((pb E1 1),26,[vI ((clb es z).2.1),vI ((clb es z).2.2.1),vI ((clb es z).2.2.2)]),((pb E2 6),26,[vI ((clb es z).2.1),vI ((clb es z).2.2.1),vI ((clb es z).2.2.2)])]) (hs:=c_ (ld_ 2 (hrd:=by exact rd26 rfl rfl rfl))<|c_ (se_ 1 (hst:=by exact fun _ _ _ hc=>st26 rfl rfl rfl rfl hc))<|c_ mv_<|e_) (k:=fun E5 ac wd h_5=>?_)
 clear h_4
 refine then_n (wp_ret ?_)
 have s6:=h_5.g (t:=6) rfl
 have hc6:=(h_5.st.own 1 _ rfl).2
 have c6_0:=own_cell (o:=0) hc6 rfl
 have c6_1:=own_cell (o:=1) hc6 rfl
 have c6_2:=own_cell (o:=2) hc6 rfl
 have s7:=h_5.g (t:=7) rfl
 refine leave (v:=vT2 (vL ((clb es z).2.1) ((clb es z).2.2.1) ((clb es z).2.2.2)) (vI 0)) h_5.df (by simp [results,Tryz.results20,go_sem,Array.getD_eq_getD_getElem?,s6,c6_0,c6_1,c6_2,Tryz.underlying26,s7]) ?_
 have e1:lbl4 es x false z=clb es z:=by unfold lbl4 expB;rw [if_pos he];simp [hov]
 exact ⟨by rw [e1,he],h_5.st.nowT,h_5.st.gr⟩
 refine rg_ h_3 [[0],[0,1],[0,1,2],r_ 4,[0,1,2,4],r_ 6,r_ 7,r_ 8] [K_ bF,K_ bT,K_ bT,K_ (vP c 0),K_ (vL ((clb es z).2.1) ((clb es z).2.2.1) ((clb es z).2.2.2)),K_ bT,K_ bT,K_ bT] (fun E4=>[(6,vP (pb E1 1) 0),(7,vI 0),(8,vP (pb E2 6) 0),(21,bT)]) (hs:=c_ mv_<|c_ (un0 bF)<|c_ mv_<|c_ (gm0 (vP c 0))<|c_ (ld_ 2 (hrd:=by exact rd26 rfl rfl rfl))<|c_ (cw_ Tryz.func44 (h:=fun _ env _ wd hA=>⟨_,(u_res_eq (cover_any (hA.thO rfl) ((clb es z).2.1) ((clb es z).2.2.1) ((clb es z).2.2.2) q4 q5 q0 q1) (congrArg Value.bool hov)),rfl⟩))<|c_ (pk0 bT bT bF)<|c_ mv_<|e_) (k:=fun E4 ac wd h_4=>?_)
 clear h_3
 refine then_n ?_
 refine wp_cond_true (eval_tmp (h_4.g (t:=21) rfl)) ?_
 refine wp_seq ?_
 refine rg_ h_4 (tri 3) [K_ (vL 0 0 0),none,K_ (vI 9)] (fun E5=>[(6,vP (pb E1 1) 0),(7,vI 9),(8,vP (pb E2 6) 0)]) (S:=[⟨1,1,fun _=>[vI 0,vI 0,vI 0]⟩]) (M':=fun E5=>[((pb E1 0),34,[vI (hi (z)),.int .u64 (lo (z))]),((pb E1 1),26,[vI 0,vI 0,vI 0]),((pb E2 6),26,[vI ((clb es z).2.1),vI ((clb es z).2.2.1),vI ((clb es z).2.2.2)])]) (hs:=c_ (bd0 ([]))<|c_ (se_ 1 (hst:=by exact fun _ _ _ hc=>st26 rfl rfl rfl rfl hc))<|c_ mv_<|e_) (k:=fun E5 ac wd h_5=>?_)
 clear h_4
 refine then_n (wp_ret (blk_ret (then_ret ?_)))
 have s6:=h_5.g (t:=6) rfl
 have hc6:=(h_5.st.own 1 _ rfl).2
 have c6_0:=own_cell (o:=0) hc6 rfl
 have c6_1:=own_cell (o:=1) hc6 rfl
 have c6_2:=own_cell (o:=2) hc6 rfl
 have s7:=h_5.g (t:=7) rfl
 refine leave (v:=vT2 (vL 0 0 0) (vI 9)) h_5.df (by simp [results,Tryz.results20,go_sem,Array.getD_eq_getD_getElem?,s6,c6_0,c6_1,c6_2,Tryz.underlying26,s7]) ?_
 have e1:lbl4 es x false z=(9,0,0,0):=by unfold lbl4 expB;rw [if_pos he];simp [hov]
 exact ⟨by rw [e1],h_5.st.nowT,h_5.st.gr⟩
 refine rg_ h_3 [[0],[0,1],[0,1,2],r_ 4,[0,1,2,4],r_ 6,r_ 7,r_ 8] [K_ bT,K_ bF,K_ bF,K_ undef,K_ undef,K_ undef,K_ bF,K_ bF] (fun E4=>[(6,vP (pb E1 1) 0),(7,vI 0),(8,vP (pb E2 6) 0),(21,bF)]) (hs:=c_ mv_<|c_ (un0 bT)<|c_ mv_<|c_ off_<|c_ off_<|c_ off_<|c_ (pk0 bF undef bF)<|c_ mv_<|e_) (k:=fun E4 ac wd h_4=>?_)
 clear h_3
 refine then_n ?_
 refine wp_cond_false (eval_tmp (h_4.g (t:=21) rfl)) ?_
 refine wp_skip (blk_n (then_n (wp_seq ?_)))
 refine rg_ h_4 (tri 3) [K_ (vL ((clb es z).2.1) ((clb es z).2.2.1) ((clb es z).2.2.2)),none,K_ (vI 0)] (fun E5=>[(6,vP (pb E1 1) 0),(7,vI 0)]) (S:=[⟨1,1,fun _=>[vI ((clb es z).2.1),vI ((clb es z).2.2.1),vI ((clb es z).2.2.2)]⟩]) (M':=fun E5=>[((pb E1 0),34,[vI (hi (z)),.int .u64 (lo (z))]),((pb E1 1),26,[vI ((clb es z).2.1),vI ((clb es z).2.2.1),vI ((clb es z).2.2.2)]),((pb E2 6),26,[vI ((clb es z).2.1),vI ((clb es z).2.2.1),vI ((clb es z).2.2.2)])]) (hs:=c_ (ld_ 2 (hrd:=by exact rd26 rfl rfl rfl))<|c_ (se_ 1 (hst:=by exact fun _ _ _ hc=>st26 rfl rfl rfl rfl hc))<|c_ mv_<|e_) (k:=fun E5 ac wd h_5=>?_)
 clear h_4
 refine then_n (wp_ret ?_)
 have s6:=h_5.g (t:=6) rfl
 have hc6:=(h_5.st.own 1 _ rfl).2
 have c6_0:=own_cell (o:=0) hc6 rfl
 have c6_1:=own_cell (o:=1) hc6 rfl
 have c6_2:=own_cell (o:=2) hc6 rfl
 have s7:=h_5.g (t:=7) rfl
 refine leave (v:=vT2 (vL ((clb es z).2.1) ((clb es z).2.2.1) ((clb es z).2.2.2)) (vI 0)) h_5.df (by simp [results,Tryz.results20,go_sem,Array.getD_eq_getD_getElem?,s6,c6_0,c6_1,c6_2,Tryz.underlying26,s7]) ?_
 have e1:lbl4 es x true z=clb es z:=by unfold lbl4 expB;rw [if_pos he];simp
 exact ⟨by rw [e1,he],h_5.st.nowT,h_5.st.gr⟩
 refine rg_ h_2 (tri 3) [K_ (vI ((clb es z).1)),K_ bT,K_ bT] (fun E3=>[(0,vP c 0),(2,.bool (lax)),(6,vP (pb E1 1) 0),(7,vI 0),(8,vP (pb E2 6) 0),(9,vI ((clb es z).1)),(16,bT)]) (hs:=c_ mv_<|c_ (bi0 (vI ((clb es z).1)) (vI 0) (h:=by intro env w;simp [go_sem,he]))<|c_ mv_<|e_) (k:=fun E3 ac wd h_3=>?_)
 clear h_2
 refine then_n ?_
 refine wp_cond_true (eval_tmp (h_3.g (t:=16) rfl)) ?_
 refine wp_seq ?_
 refine rg_ h_3 [[0],[1],[0,2],r_ 4] [K_ (vL 0 0 0),K_ (vI ((clb es z).1)),none,K_ (vI ((clb es z).1))] (fun E4=>[(6,vP (pb E1 1) 0),(7,vI ((clb es z).1)),(8,vP (pb E2 6) 0)]) (S:=[⟨1,2,fun _=>[vI 0,vI 0,vI 0]⟩]) (M':=fun E4=>[((pb E1 0),34,[vI (hi (z)),.int .u64 (lo (z))]),((pb E1 1),26,[vI 0,vI 0,vI 0]),((pb E2 6),26,[vI ((clb es z).2.1),vI ((clb es z).2.2.1),vI ((clb es z).2.2.2)])]) (hs:=c_ (bd0 ([]))<|c_ mv_<|c_ (se_ 1 (hst:=by exact fun _ _ _ hc=>st26 rfl rfl rfl rfl hc))<|c_ mv_<|e_) (k:=fun E4 ac wd h_4=>?_)
 clear h_3
 refine then_n (wp_ret (blk_ret (then_ret ?_)))
 have s6:=h_4.g (t:=6) rfl
 have hc6:=(h_4.st.own 1 _ rfl).2
 have c6_0:=own_cell (o:=0) hc6 rfl
 have c6_1:=own_cell (o:=1) hc6 rfl
 have c6_2:=own_cell (o:=2) hc6 rfl
 have s7:=h_4.g (t:=7) rfl
 refine leave (v:=vT2 (vL 0 0 0) (vI ((clb es z).1))) h_4.df (by simp [results,Tryz.results20,go_sem,Array.getD_eq_getD_getElem?,s6,c6_0,c6_1,c6_2,Tryz.underlying26,s7]) ?_
 have e1:lbl4 es x lax z=((clb es z).1,0,0,0):=by unfold lbl4;rw [if_neg he]
 exact ⟨by rw [e1],h_4.st.nowT,h_4.st.gr⟩
end Go.Proofs.YtdfkghpgekmmlaaGreat
namespace Go.Proofs.YtdfkghpgekmmlaaGreat
open Go.RowKit
attribute [local go_sem] vN bT bF rS vW vM vL vT2 vT3 vP vI execOp Act.eval evC bigF vB hi_zero lo_zero Tryz.underlying24 Tryz.underlying26 Tryz.underlying34 Tryz.underlying78
theorem y_day0 (es:List (Int × Int)):vI (dayOf ((es.getD 0 (0,0)).1,(es.getD 0 (0,0)).2))=vI (day0 es):=rfl
theorem cnew_no_core (w0:World) (A0:Option Addr) (c0:Nat) (es:List (Int × Int)) (u x:Int) (hv:Ents w0 w0.heap.size (.slice A0 es.length c0) es) (hu:I64 u) (hx:I64 x) (hes:∀ i,I64 (es.getD i (0,0)).1∧I64 (es.getD i (0,0)).2) (hok:okT u x es=false):Calls Tryz.prog 13 #[.agg #[vI u,vI x,.slice A0 es.length c0]] w0 fun e w'=>e = .returned (vT2 (.pointer none) (vI 10))∧Below w0.heap.size w0 w':=by
 have hst:=St.start w0 (Θ:=fun _=>True) (fun _ _=>trivial)
 refine enter Tryz.func13 rfl (n:=40) rfl (Nat.le_of_ble_eq_true rfl) hst (L:=[(0,.agg #[vI u,vI x,.slice A0 es.length c0])]) (lk_args rfl) (fun ac h=>?_)
 replace h:=h.facts
 refine wp_seq ?_
 refine rf_ h [[0],[1],[1,2]] [KE_ fun env=>vP (pb env 0) 0,K_ (.pointer none),K_ (vI 0)] (fun E1=>[(1,vP (pb E1 0) 0),(2,.pointer none),(3,vI 0)]) (W:=[{ i:=0,T:=24,c0:=[vI u,vI x,.slice A0 es.length c0] }]) (M':=fun E1=>[((pb E1 0),24,[vI u,vI x,.slice A0 es.length c0])]) (hs:=c_ (bx0 0 (.agg #[vI u,vI x,.slice A0 es.length c0]))<|c_ mv_<|c_ mv_<|e_) (k:=fun E1 ac wd h_1=>?_)
 clear h
 refine then_n (wp_seq ?_)
 refine rf_ h_1 [[0],[0,1],[0,1,2],r_ 4,[0,1,2,4],[0,1,2,3,5],r_ 7] [K_ (.agg #[vI u,vI x,.slice A0 es.length c0]),K_ (vT2 (.pointer none) (vI 10)),K_ (vT2 (.pointer none) (vI 10)),K_ (.pointer none),K_ (vI 10),K_ (.pointer none),K_ (vI 10)] (fun E2=>[(1,vP (pb E1 0) 0),(2,.pointer none),(3,vI 0),(4,.pointer none),(5,vI 10)]) (hs:=c_ (ld_ 0 (hrd:=by exact rd24 rfl rfl rfl))<|c_ (cw_ Tryz.func39 (h:=fun _ env _ wd hA=>⟨_,((new_no _ es u x wd (hv.gn hA.j.st.gr) hu hx hes hok)),rfl⟩))<|c_ mv_<|c_ ext_<|c_ ext_<|c_ mv_<|c_ mv_<|e_) (k:=fun E2 ac wd h_2=>?_)
 clear h_1
 refine then_n (wp_seq (wp_seq ?_))
 refine rf_ h_2 [[0],[0,1]] [K_ (vI 10),K_ bT] (fun E3=>[(1,vP (pb E1 0) 0),(2,.pointer none),(3,vI 0),(4,.pointer none),(5,vI 10),(13,bT)]) (hs:=c_ mv_<|c_ (bi0 (vI 10) (vI 0))<|e_) (k:=fun E3 ac wd h_3=>?_)
 clear h_2
 refine then_n ?_
 refine wp_cond_true (eval_tmp (h_3.g (t:=13) rfl)) ?_
 refine wp_seq ?_
 refine rf_ h_3 [[0],[1],[0,1,2]] [K_ (vI 10),K_ (.pointer none),K_ (vI 10)] (fun E4=>[(1,vP (pb E1 0) 0),(2,.pointer none),(3,vI 10),(4,.pointer none)]) (hs:=c_ mv_<|c_ mv_<|c_ mv_<|e_) (k:=fun E4 ac wd h_4=>?_)
 clear h_3
 refine then_n (wp_ret (then_ret ?_))
 have s2:=h_4.g (t:=2) rfl
 have s3:=h_4.g (t:=3) rfl
 refine leave (v:=vT2 (.pointer none) (vI 10)) h_4.df (by simp [results,Tryz.results13,go_sem,Array.getD_eq_getD_getElem?,s2,s3]) ?_
 exact ⟨rfl,h_4.st.below⟩
theorem cnew_core (w0:World) (A0:Option Addr) (c0:Nat) (es:List (Int × Int)) (u x:Int) (hv:Ents w0 w0.heap.size (.slice A0 es.length c0) es) (hu:I64 u) (hx:I64 x) (hes:∀ i,I64 (es.getD i (0,0)).1∧I64 (es.getD i (0,0)).2) (hok:okT u x es=true):Calls Tryz.prog 13 #[.agg #[vI u,vI x,.slice A0 es.length c0]] w0 fun e w'=>∃ v',e = .returned v'∧Below w0.heap.size w0 w'∧NewCx w' v' u x es w0.heap.size:=by
 obtain ⟨hp,hn0,_⟩:=okT_pre hok
 have hst:=St.start w0 (Θ:=fun _=>True) (fun _ _=>trivial)
 refine enter Tryz.func13 rfl (n:=40) rfl (Nat.le_of_ble_eq_true rfl) hst (L:=[(0,.agg #[vI u,vI x,.slice A0 es.length c0])]) (lk_args rfl) (fun ac h=>?_)
 replace h:=h.facts
 refine wp_seq ?_
 refine rf_ h [[0],[1],[1,2]] [KE_ fun env=>vP (pb env 0) 0,K_ (.pointer none),K_ (vI 0)] (fun E1=>[(1,vP (pb E1 0) 0),(2,.pointer none),(3,vI 0)]) (W:=[{ i:=0,T:=24,c0:=[vI u,vI x,.slice A0 es.length c0] }]) (M':=fun E1=>[((pb E1 0),24,[vI u,vI x,.slice A0 es.length c0])]) (hs:=c_ (bx0 0 (.agg #[vI u,vI x,.slice A0 es.length c0]))<|c_ mv_<|c_ mv_<|e_) (k:=fun E1 ac wd h_1=>?_)
 clear h
 refine then_n (wp_seq ?_)
 refine rf_ h_1 [[0],[0,1],[0,1,2],r_ 4,[0,1,2,4],[0,1,2,3,5],r_ 7] [K_ (.agg #[vI u,vI x,.slice A0 es.length c0]),KE_ fun env=>vT2 (vP (ptrB (tp (env 1) 0)) 0) (vI 0),KE_ fun env=>vT2 (vP (ptrB (tp (env 1) 0)) 0) (vI 0),KE_ fun env=>vP (ptrB (tp (env 1) 0)) 0,K_ (vI 0),KE_ fun env=>vP (ptrB (tp (env 1) 0)) 0,K_ (vI 0)] (fun E2=>[(1,vP (pb E1 0) 0),(2,.pointer none),(3,vI 0),(4,vP (ptrB (tp (E2 1) 0)) 0),(5,vI 0)]) (F:=[(1,fun env w=>NewL w (env 1) u x es w0.heap.size)]) (L1:=fun E2=>[fun w=>NewL w (E2 1) u x es w0.heap.size]) (hs:=c_ (ld_ 0 (hrd:=by exact rd24 rfl rfl rfl))<|c_ (s_factT rfl rfl rfl Tryz.func39 (by kernel_rfl) rfl (fun _=>wanted_none rfl _) (fun v w=>NewL w v u x es w0.heap.size) newLF rfl rfl leT rfl (fun v w h=>h.form) (fun v w w' hk h=>h.keep hk) (fun {D env ac wd} hA=>⟨_,hA.args (vs:=[.agg #[vI u,vI x,.slice A0 es.length c0]]) rfl,lnew_yes hA.j.st.gr.size (hv.gn hA.j.st.gr) hu hx hes hok⟩))<|c_ mv_<|c_ ext_<|c_ ext_<|c_ mv_<|c_ mv_<|e_) (k:=fun E2 ac wd h_2=>?_)
 clear h_1
 refine then_n (wp_seq (wp_seq ?_))
 replace h_2:=Cur.exInF h_2 0 rfl;generalize ptrB (tp (E2 1) 0)=g at h_2
 refine rf_ h_2 [[0],[0,1]] [K_ (vI 0),K_ bF] (fun E3=>[(1,vP (pb E1 0) 0),(2,.pointer none),(3,vI 0),(4,vP g 0),(5,vI 0),(13,bF)]) (hs:=c_ mv_<|c_ (bi0 (vI 0) (vI 0) (h:=by intro env w;(first | (simp [go_sem];done) | (simp [go_sem];rfl))))<|e_) (k:=fun E3 ac wd h_3=>?_)
 clear h_2
 refine then_n ?_
 refine wp_cond_false (eval_tmp (h_3.g (t:=13) rfl)) ?_
 refine wp_skip (then_n (wp_seq ?_))
 refine rf_ h_3 [[0],[1],[1,2],r_ 4,r_ 5,r_ 6] [K_ (vP g 0),K_ (vP (pb E1 0) 1),K_ (vI x),K_ (.agg #[vP g 0,.pointer none,vI x]),KE_ fun env=>vP (pb env 4) 0,KE_ fun env=>vP (pb env 4) 0] (fun E4=>[(1,vP (pb E1 0) 0),(2,.pointer none),(3,vI 0),(4,vP g 0),(6,vP (pb E4 4) 0)]) (W:=[{ i:=4,T:=78,c0:=[vP g 0,.pointer none,vI x] }]) (M':=fun E4=>[((pb E1 0),24,[vI u,vI x,.slice A0 es.length c0]),((pb E4 4),78,[vP g 0,.pointer none,vI x])]) (hs:=c_ mv_<|c_ (fa0 (vP (pb E1 0) 0))<|c_ (ld_ 0 (hrd:=by exact rd3 rfl))<|c_ (bd0 ([vP g 0,vI x]))<|c_ (bx0 1 (.agg #[vP g 0,.pointer none,vI x]))<|c_ mv_<|e_) (k:=fun E4 ac wd h_4=>?_)
 clear h_3
 refine then_n (wp_seq (wp_seq ?_))
 by_cases h1:day0 es=41317
 by_cases h2:(es.getD 0 (0,0)).2=10
 have hob:oldB es=true:=oldB_iff.2 ⟨h1,h2⟩
 refine rf_ h_4 (tri 11) [K_ (vP g 0),K_ (vI (day0 es)),K_ bT,K_ bT,K_ (vP (pb E1 0) 2),K_ (.slice A0 es.length c0),K_ (elt (.slice A0 es.length c0) (0*2)),K_ (elt (.slice A0 es.length c0) (0*2+1)),K_ (vI ((es.getD 0 (0,0)).2)),K_ bT,K_ bT] (fun E5=>[(2,.pointer none),(3,vI 0),(6,vP (pb E4 4) 0),(30,bT)]) (hs:=c_ mv_<|c_ (s_leap (g:=g) (u:=u) (x:=x) (es:=es) Tryz.func40 (fun _ h=>h) (fun _ h=>h) (h:=fun D env ac wd hA hL=>⟨_,clk_first hL,rfl⟩))<|c_ (bi0 (vI (day0 es)) (vI 41317) (h:=by intro env w;simp [go_sem,h1]))<|c_ mv_<|c_ (fa0 (vP (pb E1 0) 0))<|c_ (ld_ 0 (hrd:=by exact rd22 rfl))<|c_ (ia_ Tryz.underlying22 sz70 0 (0*2) 0 (fun _ env _ wd hA=>(hv.gn hA.j.st.gr).els) (rfl) (hn0) rfl)<|c_ (s_fa rfl rfl rfl (fun hA=>hA.gy rfl rfl rfl) (0*2) 1 (0*2+1) rfl (s:=fun _=>.slice A0 es.length c0) rfl (fun _=>rfl) (fun {D env ac wd} hA=>(hv.gn hA.j.st.gr).els) (by omega) (fun b q w=>by simp [go_sem,Tryz.underlying70]))<|c_ (le_ (0*2+1) (fun _ env _ wd hA=>(hv.gn hA.j.st.gr).els) (by omega) (le3 (by exact enC_1 es 0)))<|c_ (bi0 (vI ((es.getD 0 (0,0)).2)) (vI 10) (h:=by intro env w;(first | (simp [go_sem,h2];done) | (simp [go_sem];simp only [List.getD_eq_getElem?_getD] at h2;simp [h2]))))<|c_ (pk0 bT bT bF (h:=by intro env w;(first | (simp [go_sem,h2];done) | (simp [go_sem];simp only [List.getD_eq_getElem?_getD] at h2;simp [h2]))))<|e_) (k:=fun E5 ac wd h_5=>?_)
 clear h_4
 refine then_n ?_
 refine wp_cond_true (eval_tmp (h_5.g (t:=30) rfl)) ?_
 refine rf_ h_5 [[0],[1],[1,2],[1,2,3],[1,2,3,4],[1,2,3,5],[0,1,2,3,4,6],[0,1,2,3,4,6,7],[0,1,2,3,4,6,7,8]] [K_ (vP (pb E4 4) 0),KE_ fun env=>.slice ((sA (env 1))) pubS.length ((sC (env 1))),KE_ fun env=>vT2 (vP (ptrB (tp (env 2) 0)) 0) (vI 0),KE_ fun env=>vT2 (vP (ptrB (tp (env 2) 0)) 0) (vI 0),KE_ fun env=>vP (ptrB (tp (env 2) 0)) 0,K_ (vI 0),K_ (vP (pb E4 4) 0),K_ (vP (pb E4 4) 1),none] (fun E6=>[(2,.pointer none),(3,vI 0),(6,vP (pb E4 4) 0)]) (S:=[⟨1,8,fun env=>[vP g 0,vP (ptrB (tp (env 2) 0)) 0,vI x]⟩]) (F:=[(1,fun env w=>SegG (some g) w (env 1) pubS),(2,fun env w=>NewX (some g) w (env 2) pubS 41317 10)]) (L1:=fun E6=>[fun w=>SegG (some g) w (E6 1) pubS,fun w=>NewX (some g) w (E6 2) pubS 41317 10]) (M':=fun E6=>[((pb E1 0),24,[vI u,vI x,.slice A0 es.length c0]),((pb E4 4),78,[vP g 0,vP (ptrB (tp (E6 2) 0)) 0,vI x])]) (hs:=c_ mv_<|c_ (s_factT rfl rfl rfl Tryz.func42 (by kernel_rfl) rfl (fun _=>wanted_none rfl _) (fun v w=>SegG (some g) w v pubS) (segF pubS) rfl rfl [128] rfl (fun v w h=>h.form) (fun v w w' hk h=>h.keep hk) (fun {D env ac wd} hA=>⟨_,hA.args (vs:=[]) rfl,segments_g (hA.j.st.exb g rfl).1⟩))<|c_ (s_factT rfl rfl rfl Tryz.func41 (by kernel_rfl) rfl (fun _=>wanted_none rfl _) (fun v w=>NewX (some g) w v pubS 41317 10) newF rfl rfl [126,130] rfl (fun v w h=>h.form) (fun v w w' hk h=>h.keep hk) (fun {D env ac wd} hA=>⟨_,hA.args (vs:=[.slice ((sA (env 1))) pubS.length ((sC (env 1))),vI 41317,vI 10]) rfl,rNew_yes wd ((sA (env 1))) ((sC (env 1))) pubS (At.segG hA 1 rfl rfl rfl) 41317 10 (by omega) (by omega) pub_may (fun k h=>by obtain rfl:=Option.some.inj h;exact (hA.j.st.exb g rfl).1)⟩))<|c_ mv_<|c_ ext_<|c_ ext_<|c_ (nc0 (vP (pb E4 4) 0))<|c_ (fa0 (vP (pb E4 4) 0))<|c_ (se_ 1 (hst:=by exact fun _ _ _ hc=>st76 rfl rfl hc))<|e_) (k:=fun E6 ac wd h_6=>?_)
 clear h_5
 refine then_n (wp_seq ?_)
 refine rf_ h_6 (tri 3) [K_ (vP (pb E4 4) 0),K_ (vP (pb E4 4) 0),K_ (vI 0)] (fun E7=>[(2,vP (pb E4 4) 0),(3,vI 0)]) (hs:=c_ mv_<|c_ mv_<|c_ mv_<|e_) (k:=fun E7 ac wd h_7=>?_)
 clear h_6
 refine then_n (wp_ret ?_)
 have s2:=h_7.g (t:=2) rfl
 have s3:=h_7.g (t:=3) rfl
 refine leave (v:=vT2 (vP (pb E4 4) 0) (vI 0)) h_7.df (by simp [results,Tryz.results13,go_sem,Array.getD_eq_getD_getElem?,s2,s3]) ?_
 have hR:IsR (some g) _ (tp (E6 2) 0) pubS 41317 10:=(show NewX (some g) _ (E6 2) pubS 41317 10 from h_7.st.now.get 1 rfl).2
 exact ⟨_,rfl,h_7.st.below,g,vP (ptrB (tp (E6 2) 0)) 0,rfl,⟨fun e=>(h_7.st.exb g rfl).2.1 1 _ rfl e,(h_7.st.own 1 _ rfl).2,h_7.st.nowT,(fun _=>hR.re),(fun ho=>by rw [hob] at ho;cases ho)⟩,(h_7.st.exb g rfl).2.2.resolve_right (by simp)⟩
 have hob:oldB es=false:=by unfold oldB;simp only [h1,h2,decide_true,decide_false,Bool.and_false]
 refine rf_ h_4 (tri 11) [K_ (vP g 0),K_ (vI (day0 es)),K_ bT,K_ bT,K_ (vP (pb E1 0) 2),K_ (.slice A0 es.length c0),K_ (elt (.slice A0 es.length c0) (0*2)),K_ (elt (.slice A0 es.length c0) (0*2+1)),K_ (vI ((es.getD 0 (0,0)).2)),K_ bF,K_ bF] (fun E5=>[(2,.pointer none),(3,vI 0),(6,vP (pb E4 4) 0),(30,bF)]) (hs:=c_ mv_<|c_ (s_leap (g:=g) (u:=u) (x:=x) (es:=es) Tryz.func40 (fun _ h=>h) (fun _ h=>h) (h:=fun D env ac wd hA hL=>⟨_,clk_first hL,rfl⟩))<|c_ (bi0 (vI (day0 es)) (vI 41317) (h:=by intro env w;simp [go_sem,h1]))<|c_ mv_<|c_ (fa0 (vP (pb E1 0) 0))<|c_ (ld_ 0 (hrd:=by exact rd22 rfl))<|c_ (ia_ Tryz.underlying22 sz70 0 (0*2) 0 (fun _ env _ wd hA=>(hv.gn hA.j.st.gr).els) (rfl) (hn0) rfl)<|c_ (s_fa rfl rfl rfl (fun hA=>hA.gy rfl rfl rfl) (0*2) 1 (0*2+1) rfl (s:=fun _=>.slice A0 es.length c0) rfl (fun _=>rfl) (fun {D env ac wd} hA=>(hv.gn hA.j.st.gr).els) (by omega) (fun b q w=>by simp [go_sem,Tryz.underlying70]))<|c_ (le_ (0*2+1) (fun _ env _ wd hA=>(hv.gn hA.j.st.gr).els) (by omega) (le3 (by exact enC_1 es 0)))<|c_ (bi0 (vI ((es.getD 0 (0,0)).2)) (vI 10) (h:=by intro env w;(first | (simp [go_sem,h2];done) | (simp [go_sem];simp only [List.getD_eq_getElem?_getD] at h2;simp [h2]))))<|c_ (pk0 bT bF bF (h:=by intro env w;(first | (simp [go_sem,h2];done) | (simp [go_sem];simp only [List.getD_eq_getElem?_getD] at h2;simp [h2]))))<|e_) (k:=fun E5 ac wd h_5=>?_)
 clear h_4
 refine then_n ?_
 refine wp_cond_false (eval_tmp (h_5.g (t:=30) rfl)) ?_
 refine wp_skip (then_n (wp_seq ?_))
 refine rf_ h_5 (tri 3) [K_ (vP (pb E4 4) 0),K_ (vP (pb E4 4) 0),K_ (vI 0)] (fun E6=>[(2,vP (pb E4 4) 0),(3,vI 0)]) (hs:=c_ mv_<|c_ mv_<|c_ mv_<|e_) (k:=fun E6 ac wd h_6=>?_)
 clear h_5
 refine then_n (wp_ret ?_)
 have s2:=h_6.g (t:=2) rfl
 have s3:=h_6.g (t:=3) rfl
 refine leave (v:=vT2 (vP (pb E4 4) 0) (vI 0)) h_6.df (by simp [results,Tryz.results13,go_sem,Array.getD_eq_getD_getElem?,s2,s3]) ?_
 exact ⟨_,rfl,h_6.st.below,g,.pointer none,rfl,⟨fun e=>(h_6.st.exb g rfl).2.1 1 _ rfl e,(h_6.st.own 1 _ rfl).2,h_6.st.nowT,(fun ho=>by rw [hob] at ho;cases ho),(fun _=>rfl)⟩,(h_6.st.exb g rfl).2.2.resolve_right (by simp)⟩
 have hob:oldB es=false:=by unfold oldB;simp [h1]
 refine rf_ h_4 (tri 11) [K_ (vP g 0),K_ (vI (day0 es)),K_ bF,K_ bF,K_ undef,K_ undef,K_ undef,K_ undef,K_ undef,K_ undef,K_ bF] (fun E5=>[(2,.pointer none),(3,vI 0),(6,vP (pb E4 4) 0),(30,bF)]) (hs:=c_ mv_<|c_ (s_leap (g:=g) (u:=u) (x:=x) (es:=es) Tryz.func40 (fun _ h=>h) (fun _ h=>h) (h:=fun D env ac wd hA hL=>⟨_,clk_first hL,rfl⟩))<|c_ (bi0 (vI (day0 es)) (vI 41317) (h:=by intro env w;simp [go_sem,h1]))<|c_ mv_<|c_ off_<|c_ off_<|c_ off_<|c_ off_<|c_ off_<|c_ off_<|c_ (pk0 bF undef bF)<|e_) (k:=fun E5 ac wd h_5=>?_)
 clear h_4
 refine then_n ?_
 refine wp_cond_false (eval_tmp (h_5.g (t:=30) rfl)) ?_
 refine wp_skip (then_n (wp_seq ?_))
 refine rf_ h_5 (tri 3) [K_ (vP (pb E4 4) 0),K_ (vP (pb E4 4) 0),K_ (vI 0)] (fun E6=>[(2,vP (pb E4 4) 0),(3,vI 0)]) (hs:=c_ mv_<|c_ mv_<|c_ mv_<|e_) (k:=fun E6 ac wd h_6=>?_)
 clear h_5
 refine then_n (wp_ret ?_)
 have s2:=h_6.g (t:=2) rfl
 have s3:=h_6.g (t:=3) rfl
 refine leave (v:=vT2 (vP (pb E4 4) 0) (vI 0)) h_6.df (by simp [results,Tryz.results13,go_sem,Array.getD_eq_getD_getElem?,s2,s3]) ?_
 exact ⟨_,rfl,h_6.st.below,g,.pointer none,rfl,⟨fun e=>(h_6.st.exb g rfl).2.1 1 _ rfl e,(h_6.st.own 1 _ rfl).2,h_6.st.nowT,(fun ho=>by rw [hob] at ho;cases ho),(fun _=>rfl)⟩,(h_6.st.exb g rfl).2.2.resolve_right (by simp)⟩
theorem cnew_no {w:World} {v:Value} {es:List (Int × Int)} (hv:Ents w w.heap.size v es) {u x:Int} (hu:I64 u) (hx:I64 x) (hes:∀ i,I64 (es.getD i (0,0)).1∧I64 (es.getD i (0,0)).2) (hok:okT u x es=false):Calls Tryz.prog 13 #[.agg #[vI u,vI x,v]] w fun e w'=>e = .returned (vT2 (.pointer none) (vI 10))∧Below w.heap.size w w':=by
 have hv0:=hv
 obtain ⟨A,c,rfl,_⟩:=hv
 exact cnew_no_core w A c es u x hv0 hu hx hes hok
theorem cnew_yes {B:Nat} {w:World} (hB:B≤w.heap.size) {v:Value} {es:List (Int × Int)} (hv:Ents w w.heap.size v es) {u x:Int} (hu:I64 u) (hx:I64 x) (hes:∀ i,I64 (es.getD i (0,0)).1∧I64 (es.getD i (0,0)).2) (hok:okT u x es=true):Calls Tryz.prog 13 #[.agg #[vI u,vI x,v]] w fun e w'=>∃ v',e = .returned v'∧Below w.heap.size w w'∧NewCx w' v' u x es B:=by
 have hv0:=hv
 obtain ⟨A,c,rfl,_⟩:=hv
 refine (cnew_core w A c es u x hv0 hu hx hes hok).mono ?_
 rintro e w' ⟨v',rfl,hb,g,b,h1,h2,h3⟩
 exact ⟨v',rfl,hb,g,b,h1,h2,Nat.le_trans hB h3⟩
end Go.Proofs.YtdfkghpgekmmlaaGreat
