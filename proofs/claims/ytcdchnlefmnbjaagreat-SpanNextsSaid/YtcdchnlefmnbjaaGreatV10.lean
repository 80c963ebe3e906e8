/- Texts P17, U4, U5, Y1, P18, Y2, Y3, Y4 of one proof, one behind the other; what nothing here names is left out. -/
import Derived.Test.YtcdchnlefmnbjaaGreatV9
import Derived.Test.YtcdchnlefmnbjaaGreatV6
import Derived.Test.YtcdchnlefmnbjaaGreatV7
import Derived.Test.YtcdchnlefmnbjaaGreatV3
import Derived.Test.YtcdchnlefmnbjaaGreatV4
import Derived.IntWalk
import Derived.Test.YtcdchnlefmnbjaaGreatV8
set_option maxRecDepth 100000
set_option maxHeartbeats 8000000
set_option linter.unusedVariables false
set_option linter.unusedSimpArgs false
namespace Go.Proofs.YtcdchnlefmnbjaaGreat
open Go.RowKit
def kL (es:List (Int × Int)) (z:Int):Nat→Nat
  | 0=>0
  | i+1=>if jn 0 (startOf (es.getD i (0,0))) 0≤z then i else kL es z i
theorem jn_start (S z:Int):jn 0 S 0≤z↔S≤z / 1000000000000000000:=by unfold jn;omega
section
variable {es:List (Int × Int)} (h:okPre es es.length=true)
include h
theorem st_bd {i:Nat} (hi:i < es.length):1000000000≤startOf (es.getD i (0,0))∧startOf (es.getD i (0,0))≤2000000000000000:=by
 have:=okPre_num h hi
 unfold startOf dayOf
 omega
theorem kL_eq (z:Int):∀ i,i≤es.length→kL es z i=min i (cnt startOf es (z / 1000000000000000000))-1
  | 0,_=>by simp [kL]
  | i+1,hi=>by
    have e:=cnt_start h (z / 1000000000000000000) (i:=i) (by omega)
    have h2:=kL_eq z i (by omega)
    unfold kL
    by_cases hc:startOf (es.getD i (0,0))≤z / 1000000000000000000
    · rw [if_pos ((jn_start _ _).2 hc)]
      have:=e.1 hc
      omega
    · rw [if_neg (fun hh=>hc ((jn_start _ _).1 hh)),h2]
      have:¬ i < cnt startOf es (z / 1000000000000000000):=fun hh=>hc (e.2 hh)
      omega
theorem kL_end (hn:0 < es.length) {z:Int} (h0:¬ z < jn 0 (startOf (es.getD 0 (0,0))) 0):kL es z es.length < es.length∧cnt startOf es (z / 1000000000000000000)=kL es z es.length+1:=by
 have e:=kL_eq h z es.length (Nat.le_refl _)
 have hle:=cnt_le startOf es (z / 1000000000000000000)
 have h1:=(cnt_start h (z / 1000000000000000000) hn).1 ((jn_start _ _).1 (by omega))
 omega
theorem rl_early (hn:0 < es.length) {z:Int} (h0:z < jn 0 (startOf (es.getD 0 (0,0))) 0):labUt es z=(8,0,0,0):=by
  have hb:=st_bd h hn
  have hs:z / 1000000000000000000 < startOf (es.getD 0 (0,0)):=Int.not_le.1 fun hh=>by have:=(jn_start _ _).2 hh;omega
  have hc:cnt startOf es (z / 1000000000000000000)=0:=by
    rcases Nat.eq_zero_or_pos (cnt startOf es (z / 1000000000000000000)) with h1 | h1
    · exact h1
    · have:=(cnt_start h (z / 1000000000000000000) hn).2 h1;omega
  unfold labUt labR
  by_cases h64:z / 1000000000000000000 < -9223372036854775808∨9223372036854775808≤z / 1000000000000000000
  · rw [if_pos h64,if_pos (by omega)]
  · rw [if_neg h64,if_pos hc]
theorem rl_k {z:Int} (hz:InW z) {k:Nat} (hk:k < es.length) (hc:cnt startOf es (z / 1000000000000000000)=k+1) {o q c r:Int} (ho:(es.getD k (0,0)).2=o)
    (hq:(z-jn 0 o 0) / 1000000000000000000 / 86400=q) (hcc:(z-jn 0 o 0) / 1000000000000000000 % 86400=c) (hr:(z-jn 0 o 0) % 1000000000000000000=r) :
    (¬ (-1099511627776≤q∧q≤1099511627776)→labUt es z=(2,0,0,0))∧((-1099511627776≤q∧q≤1099511627776)→((k+1 < es.length∧dayOf (es.getD (k+1) (0,0))≤q→labUt es z=(0,q-1,c+86400,r))∧(¬ (k+1 < es.length∧dayOf (es.getD (k+1) (0,0))≤q)→labUt es z=(0,q,c,r)))):=by
  have hb:=okPre_num h hk
  rw [ho] at hb
  have hs1:=(cnt_start h (z / 1000000000000000000) hk).2 (by omega)
  have hsb:=st_bd h hk
  obtain ⟨s,es_⟩:∃ s,z / 1000000000000000000=s:=⟨_,rfl⟩
  have hN:(z-jn 0 o 0) / 1000000000000000000=s-o:=by unfold jn;omega
  have hR:(z-jn 0 o 0) % 1000000000000000000=z % 1000000000000000000:=by unfold jn;omega
  rw [hN] at hq hcc
  rw [hR] at hr
  rw [es_] at hc hs1
  unfold labUt
  rw [es_,hr]
  have hz0:cnt startOf es s≠0:=by omega
  have hV:atV es s=o:=by unfold atV;rw [if_neg hz0,hc,Nat.add_sub_cancel];exact ho
  unfold labR
  rw [hV]
  unfold InW at hz
  by_cases h64:s < -9223372036854775808∨9223372036854775808≤s
  · rw [if_pos h64,if_neg (by omega)]
    exact ⟨fun _=>rfl,fun hh=>by omega⟩
  rw [if_neg h64,if_neg hz0,hq]
  by_cases hk1:k+1 < es.length
  · have hU:atU es s=dayOf (es.getD (k+1) (0,0)):=by unfold atU;rw [if_neg hz0,if_neg (by omega),hc]
    have hb2:=okPre_num h hk1
    have hnx:s < startOf (es.getD (k+1) (0,0)):=Int.not_le.1 fun hh=>by have:=(cnt_start h s hk1).1 hh;omega
    have hof:=off_step h hk1
    rw [ho] at hof
    have hDb:15000≤dayOf (es.getD (k+1) (0,0))∧dayOf (es.getD (k+1) (0,0))≤20000000000:=by unfold dayOf;omega
    unfold startOf at hnx
    rw [hU]
    by_cases hle:dayOf (es.getD (k+1) (0,0))≤q
    · have hqU:q=dayOf (es.getD (k+1) (0,0)):=by omega
      have hin:wthn (dayOf (es.getD (k+1) (0,0))-1) (-1099511627776) 1099511627776=true:=by unfold wthn;rw [decide_eq_true (by omega),decide_eq_true (by omega)];rfl
      rw [if_pos hle,if_pos hin]
      exact ⟨fun hh=>by omega,fun _=>⟨fun _=>tup4 rfl (by omega) (by omega) rfl,fun hh=>absurd ⟨hk1,hle⟩ hh⟩⟩
    · rw [if_neg hle]
      refine ⟨fun hh=>?_,fun hh=>⟨fun h2=>absurd h2.2 hle,fun _=>?_⟩⟩
      · have hin:wthn q (-1099511627776) 1099511627776=false:=by unfold wthn;simp;omega
        rw [if_neg (by rw [hin];exact Bool.false_ne_true)]
      · have hin:wthn q (-1099511627776) 1099511627776=true:=by unfold wthn;rw [decide_eq_true hh.1,decide_eq_true hh.2];rfl
        rw [if_pos hin]
        exact tup4 rfl rfl (by omega) rfl
  · have hU:atU es s=4611686018427387904:=by unfold atU;rw [if_neg hz0,if_pos (by omega)]
    rw [hU,if_neg (by omega)]
    refine ⟨fun hh=>?_,fun hh=>⟨fun h2=>absurd h2.1 hk1,fun _=>?_⟩⟩
    · have hin:wthn q (-1099511627776) 1099511627776=false:=by unfold wthn;simp;omega
      rw [if_neg (by rw [hin];exact Bool.false_ne_true)]
    · have hin:wthn q (-1099511627776) 1099511627776=true:=by unfold wthn;rw [decide_eq_true hh.1,decide_eq_true hh.2];rfl
      rw [if_pos hin]
      exact tup4 rfl rfl (by omega) rfl
end
end Go.Proofs.YtcdchnlefmnbjaaGreat
namespace Go.Proofs.YtcdchnlefmnbjaaGreat
open Go.RowKit
attribute [local go_sem] vN bT bF rS vW vM vL vT2 vT3 vP vI execOp Act.eval evC bigF vB hi_zero lo_zero Tryz.underlying24 Tryz.underlying26 Tryz.underlying40
theorem rform12_any (d s x:Int):Ret 81 #[vL d s x] (.bool (formB s x)):=by
 intro w0
 have hst:=St.start w0 (Θ:=fun _=>True) (fun _ _=>trivial)
 refine en_ Tryz.func81 hst 21 [(0,vL d s x)] (fun ac H_=>?_)
 refine gq H_ 1 [[0],[1]] [_,_] (fun E1=>[(1,vP (pb E1 0) 0)]) (W:=[{ i:=0,T:=26,c0:=[vI d,vI s,vI x] }]) (s:=⟨bx3 0,mv3⟩) (k:=fun E1 ac wd H_=>?_)
 by_cases h0:0≤s
 by_cases h1:s≤86400
 by_cases h2:0≤x
 refine gq1 H_ 18 (tri 19) [_,_,bT,_,_,_,bT,bT,_,_,_,bT,bT,_,_,_,K_ (.bool (decide (x < 1000000000000000000))),K_ (.bool (decide (x < 1000000000000000000))),_] (fun _=>[(2,.bool (decide (x < 1000000000000000000)))]) (s:=⟨fa3 1,ld31 0 sh3,bi3 (h:=by intro env w;simp [go_sem,h0]),mv3,fa3 1,ld31 0 sh3,bi3 (h:=by intro env w;simp [go_sem,h1]),pk3 (h:=by intro env w;simp [go_sem,h1]),mv3,fa3 2,ld31 0 sh3,bi3 (h:=by intro env w;simp [go_sem,h2]),pk3 (h:=by intro env w;simp [go_sem,h2]),mv3,fa3 2,ld31 0 sh3,bi3,pk3,mv3⟩) (k:=fun E2 ac wd H_=>?_)
 refine lvT3 Tryz.results81 H_ ?_
 have e:formB s x=decide (x < 1000000000000000000):=by have e0:=decide_eq_true h0;have e1:=decide_eq_true h1;have e2:=decide_eq_true h2;unfold formB wthn;rw [e0,e1,e2];simp only [Bool.true_and];exact decide_eq_decide.2 (by omega)
 exact ⟨by rw [e],H_.st.below⟩
 refine gq1 H_ 18 (tri 19) [_,_,bT,_,_,_,bT,bT,_,_,_,bF,bF,_,_,_,_,bF,_] (fun _=>[(2,bF)]) (s:=⟨fa3 1,ld31 0 sh3,bi3 (h:=by intro env w;simp [go_sem,h0]),mv3,fa3 1,ld31 0 sh3,bi3 (h:=by intro env w;simp [go_sem,h1]),pk3 (h:=by intro env w;simp [go_sem,h1]),mv3,fa3 2,ld31 0 sh3,bi3 (h:=by intro env w;simp [go_sem,h2]),pk3 (h:=by intro env w;simp [go_sem,h2]),mv3,off_,off_,off_,pk3,mv3⟩) (k:=fun E2 ac wd H_=>?_)
 refine lvT3 Tryz.results81 H_ ?_
 have e:formB s x=false:=by simp [formB,wthn];omega
 exact ⟨by rw [e],H_.st.below⟩
 refine gq1 H_ 18 (tri 19) [_,_,bT,_,_,_,bF,bF,_,_,_,_,bF,_,_,_,_,bF,_] (fun _=>[(2,bF)]) (s:=⟨fa3 1,ld31 0 sh3,bi3 (h:=by intro env w;simp [go_sem,h0]),mv3,fa3 1,ld31 0 sh3,bi3 (h:=by intro env w;simp [go_sem,h1]),pk3 (h:=by intro env w;simp [go_sem,h1]),mv3,off_,off_,off_,pk3,mv3,off_,off_,off_,pk3,mv3⟩) (k:=fun E2 ac wd H_=>?_)
 refine lvT3 Tryz.results81 H_ ?_
 have e:formB s x=false:=by simp [formB,wthn];omega
 exact ⟨by rw [e],H_.st.below⟩
 refine gq1 H_ 18 (tri 19) [_,_,bF,_,_,_,_,bF,_,_,_,_,bF,_,_,_,_,bF,_] (fun _=>[(2,bF)]) (s:=⟨fa3 1,ld31 0 sh3,bi3 (h:=by intro env w;simp [go_sem,h0]),mv3,off_,off_,off_,pk3,mv3,off_,off_,off_,pk3,mv3,off_,off_,off_,pk3,mv3⟩) (k:=fun E2 ac wd H_=>?_)
 refine lvT3 Tryz.results81 H_ ?_
 have e:formB s x=false:=by simp [formB,wthn];omega
 exact ⟨by rw [e],H_.st.below⟩
theorem cnt0_iff {es:List (Int × Int)} (h:okPre es es.length=true) (hn:0 < es.length) (d:Int):cnt dayOf es d=0↔d < day0 es:=by
 have:=cnt_day h d hn
 unfold day0;omega
theorem u_res_eq {P:Program} {f:FuncId} {args:Array Value} {w0:World} {v v':Value} (h:Calls P f args w0 fun e w'=>e = .returned v∧Below w0.heap.size w0 w') (e:v=v'):Calls P f args w0 fun e w'=>e = .returned v'∧Below w0.heap.size w0 w':=by subst e;exact h
theorem off_no {es:List (Int × Int)} (h:okPre es es.length=true) (hn:0 < es.length) {d:Int} (hd:d < day0 es):Value.tuple #[.int .i64 (rOff es (cnt dayOf es d)),.bool (rOk (cnt dayOf es d))]=vT2 (vI (offV es d)) (.bool false):=by
 rw [(cnt0_iff h hn d).2 hd,show offV es d=rOff es (cnt dayOf es d) from rfl,(cnt0_iff h hn d).2 hd];rfl
theorem off_yes {es:List (Int × Int)} (h:okPre es es.length=true) (hn:0 < es.length) {d:Int} (hd:¬ d < day0 es):Value.tuple #[.int .i64 (rOff es (cnt dayOf es d)),.bool (rOk (cnt dayOf es d))]=vT2 (vI (offV es d)) (.bool true):=by
 have h1:cnt dayOf es d≠0:=fun hc=>hd ((cnt0_iff h hn d).1 hc)
 obtain ⟨k,hk⟩:∃ k,cnt dayOf es d=k+1:=⟨cnt dayOf es d-1,by omega⟩
 rw [show offV es d=rOff es (cnt dayOf es d) from rfl,hk];rfl
theorem rWhy_any (w0:World) (A0:Option Addr) (c0:Nat) (es:List (Int × Int)) (u x:Int) (hv:Ents w0 w0.heap.size (.slice A0 es.length c0) es) (hp:okPre es es.length=true) (hn0:0 < es.length) (d s a:Int):Calls Tryz.prog 45 #[.agg #[vI u,vI x,.slice A0 es.length c0],vL d s a] w0 fun e w'=>e = .returned (vI (whyU es d s a))∧Below w0.heap.size w0 w':=by
 have hst:=St.start w0 (Θ:=fun _=>True) (fun _ _=>trivial)
 refine en_ Tryz.func45 hst 31 [(0,.agg #[vI u,vI x,.slice A0 es.length c0]),(1,vL d s a)] (fun ac H_=>?_)
 refine gq H_ 2 [[0],[1],[2]] [_,_,_] (fun E1=>[(2,vP (pb E1 0) 0),(3,vP (pb E1 1) 0)]) (W:=[{ i:=0,T:=24,c0:=[vI u,vI x,.slice A0 es.length c0] },{ i:=1,T:=26,c0:=[vI d,vI s,vI a] }]) (s:=⟨bx3 0,bx3 1,mv3⟩) (k:=fun E1 ac wd H_=>?_)
 cases hf:formB s a
 refine gq1 H_ 2 (tri 3) [_,_,bT] (fun _=>[(9,bT)]) (s:=⟨ld3c 1 sh26,cl3 Tryz.func81 (((rform12_any d s a).eq (congrArg Value.bool hf))),un3⟩) (k:=fun E2 ac wd H_=>?_)
 refine cT3 H_ ?_
 refine gq1 H_ 0 [[0]] [_] (fun _=>[(4,vI 1)]) (s:=mv3) (k:=fun E3 ac wd H_=>?_)
 refine lvT3 Tryz.results45 H_ ?_
 have e:whyU es d s a=1:=by unfold whyU;simp [hf]
 exact ⟨by rw [e],H_.st.below⟩
 refine gq1 H_ 2 (tri 3) [_,_,bF] (fun _=>[(9,bF)]) (s:=⟨ld3c 1 sh26,cl3 Tryz.func81 (((rform12_any d s a).eq (congrArg Value.bool hf))),un3⟩) (k:=fun E2 ac wd H_=>?_)
 refine cF3 H_ ?_
 cases hin:wthn d (-1099511627776) 1099511627776
 refine gq1 H_ 3 (tri 4) [_,_,_,bT] (fun _=>[(13,bT)]) (s:=⟨fa3 0,ld31 1 sh3,cl3 Tryz.func82 (((In_any d).eq (congrArg Value.bool hin))),un3⟩) (k:=fun E3 ac wd H_=>?_)
 refine cT3 H_ ?_
 refine gq1 H_ 0 [[0]] [_] (fun _=>[(4,vI 2)]) (s:=mv3) (k:=fun E4 ac wd H_=>?_)
 refine lvT3 Tryz.results45 H_ ?_
 have e:whyU es d s a=2:=by unfold whyU;simp [hf,hin]
 exact ⟨by rw [e],H_.st.below⟩
 refine gq1 H_ 3 (tri 4) [_,_,_,bF] (fun _=>[(13,bF)]) (s:=⟨fa3 0,ld31 1 sh3,cl3 Tryz.func82 (((In_any d).eq (congrArg Value.bool hin))),un3⟩) (k:=fun E3 ac wd H_=>?_)
 refine cF3 H_ ?_
 by_cases hd:d < day0 es
 refine gq1 H_ 8 [[0],[1],[1,2],r_ 4,r_ 5,r_ 6,[0,1,2,3,4,6],r_ 6++[7],r_ 9] [_,_,_,_,_,_,_,_,_] (fun _=>[(6,bF)]) (s:=⟨ld3c 0 sh24,fa3 0,ld31 1 sh3,cw3 Tryz.func83 fun wd hA=>(u_res_eq (roffset_any _ es u x d wd (hv.gn hA.j.st.gr) hp) (off_no hp hn0 hd)),mv3,xt3,xt3,mv3,mv3⟩) (k:=fun E4 ac wd H_=>?_)
 refine gq1 H_ 1 [[0],[0,1]] [_,bT] (fun _=>[(22,bT)]) (s:=⟨mv3,un3⟩) (k:=fun E5 ac wd H_=>?_)
 refine cT3 H_ ?_
 refine gq1 H_ 0 [[0]] [_] (fun _=>[(4,vI 8)]) (s:=mv3) (k:=fun E6 ac wd H_=>?_)
 refine lvT3 Tryz.results45 H_ ?_
 have e:whyU es d s a=8:=by unfold whyU;simp [hf,hin,hd]
 exact ⟨by rw [e],H_.st.below⟩
 obtain ⟨g0,g1⟩:=chgV_bd hp d
 refine gq1 H_ 8 [[0],[1],[1,2],r_ 4,r_ 5,r_ 6,[0,1,2,3,4,6],r_ 6++[7],r_ 9] [_,_,_,_,_,_,_,_,_] (fun _=>[(6,bT)]) (s:=⟨ld3c 0 sh24,fa3 0,ld31 1 sh3,cw3 Tryz.func83 fun wd hA=>(u_res_eq (roffset_any _ es u x d wd (hv.gn hA.j.st.gr) hp) (off_yes hp hn0 hd)),mv3,xt3,xt3,mv3,mv3⟩) (k:=fun E4 ac wd H_=>?_)
 refine gq1 H_ 1 [[0],[0,1]] [_,bF] (fun _=>[(22,bF)]) (s:=⟨mv3,un3⟩) (k:=fun E5 ac wd H_=>?_)
 refine cF3 H_ ?_
 by_cases hs:86400+chgV es d≤s
 refine gq1 H_ 7 [[0],[0,1],[2],[3],[3,4],[2,3,4,5],[2,3,4,5,6],r_ 8] [_,_,_,_,_,_,vI (86400+(chgV es d)),bT] (fun _=>[(30,bT)]) (s:=⟨fa3 1,ld31 1 sh3,ld3c 0 sh24,fa3 0,ld31 1 sh3,cw3 Tryz.func84 fun wd hA=>(rchange_any _ es u x d wd (hv.gn hA.j.st.gr) hp),bi3,bi3 (h:=by intro env w;simp [go_sem,hs])⟩) (k:=fun E6 ac wd H_=>?_)
 refine cT3 H_ ?_
 refine gq1 H_ 0 [[0]] [_] (fun _=>[(4,vI 6)]) (s:=mv3) (k:=fun E7 ac wd H_=>?_)
 refine lvT3 Tryz.results45 H_ ?_
 have e:whyU es d s a=6:=by unfold whyU;simp [hf,hin,hd,hs]
 exact ⟨by rw [e],H_.st.below⟩
 refine gq1 H_ 7 [[0],[0,1],[2],[3],[3,4],[2,3,4,5],[2,3,4,5,6],r_ 8] [_,_,_,_,_,_,vI (86400+(chgV es d)),bF] (fun _=>[(30,bF)]) (s:=⟨fa3 1,ld31 1 sh3,ld3c 0 sh24,fa3 0,ld31 1 sh3,cw3 Tryz.func84 fun wd hA=>(rchange_any _ es u x d wd (hv.gn hA.j.st.gr) hp),bi3,bi3 (h:=by intro env w;simp [go_sem,hs])⟩) (k:=fun E6 ac wd H_=>?_)
 refine cF3 H_ ?_
 refine gq1 H_ 0 [[0]] [_] (fun _=>[(4,vI 0)]) (s:=mv3) (k:=fun E7 ac wd H_=>?_)
 refine lvT3 Tryz.results45 H_ ?_
 have e:whyU es d s a=0:=by unfold whyU;simp [hf,hin,hd,hs]
 exact ⟨by rw [e],H_.st.below⟩
theorem rTai12_any (w0:World) (A0:Option Addr) (c0:Nat) (es:List (Int × Int)) (u x:Int) (hv:Ents w0 w0.heap.size (.slice A0 es.length c0) es) (hp:okPre es es.length=true) (d s a:Int) (q0:0≤s) (q1:s≤86400) (q2:0≤a) (q3:a < 1000000000000000000) (q4:-1099511627776≤d) (q5:d≤1099511627776):Calls Tryz.prog 49 #[.agg #[vI u,vI x,.slice A0 es.length c0],vL d s a] w0 fun e w'=>∃ v,e = .returned v∧Below w0.heap.size w0 w'∧BigN w0.heap.size w' v (jn d (s+offV es d) a):=by
 obtain ⟨g0,g1⟩:=u_off_bd hp d
 have hst:=St.start w0 (Θ:=fun _=>True) (fun _ _=>trivial)
 refine en_ Tryz.func49 hst 21 [(0,.agg #[vI u,vI x,.slice A0 es.length c0]),(1,vL d s a)] (fun ac H_=>?_)
 replace H_:=H_.facts
 refine fq H_ 2 [[0],[1],[2]] [_,_,_] (fun E1=>[(2,vP (pb E1 0) 0),(3,vP (pb E1 1) 0),(4,vP (pb E1 2) 0)]) (W:=[{ i:=0,T:=24,c0:=[vI u,vI x,.slice A0 es.length c0] },{ i:=1,T:=26,c0:=[vI d,vI s,vI a] },{ i:=2,T:=40,c0:=[bF,.slice none 0 0] }]) (s:=⟨bx3 0,bx3 1,al_ 2⟩) (k:=fun E1 ac wd H_=>?_)
 refine fq1 H_ 8 [[0],[1],[1,2],r_ 4,r_ 5,r_ 6,[0,1,2,3,4,6],r_ 6++[7],r_ 9] [_,_,_,_,_,_,_,_,_] (fun _=>[(5,vI (offV es d))]) (s:=⟨ld3c 0 sh24,fa3 0,ld31 1 sh3,cw3 Tryz.func83 fun wd hA=>(u_res_eq (roffset_any _ es u x d wd (hv.gn hA.j.st.gr) hp) rfl),mv3,xt3,xt3,mv3,mv3⟩) (k:=fun E2 ac wd H_=>?_)
 refine fq H_ 5 [[0],[0,1],[2],r_ 4,r_ 5,r_ 6] [_,_,_,vI (s+(offV es d)),_,none] (fun _=>[]) (S:=[⟨1,5,fun _=>[vI d,vI (s+(offV es d)),vI a]⟩]) (s:=⟨fa3 1,ld31 1 sh3,mv3,bi3,fa3 1,se3 1 sh3⟩) (k:=fun E3 ac wd H_=>?_)
 refine fq H_ 2 (tri 3) [_,_,none] (fun _=>[]) (S:=[⟨2,2,fun env=>[.bool (decide (jn d (s+(offV es d)) a < 0)),rS (jn d (s+(offV es d)) a) ((bA (env 1))) ((bC (env 1)))]⟩]) (F:=[fB w0 1 (jn d (s+(offV es d)) a)]) (s:=⟨ld3c 1 sh26,cb3 Tryz.func87 fun wd hA=>Join_any wd d (s+(offV es d)) a (by omega) (by omega) (by omega) (by omega) (by omega) (by omega),se3 2 sh40⟩) (k:=fun E4 ac wd H_=>?_)
 refine lvC3 (v:=bigF (jn d (s+(offV es d)) a) (E4 1)) Tryz.results49 H_ 2 (loadGc sh40 rfl ⟨rfl,rfl,trivial⟩) ?_
 exact ⟨_,rfl,H_.st.below,BigN.mk rfl rfl (Facts.bN H_.st.now 0 rfl)⟩
end Go.Proofs.YtcdchnlefmnbjaaGreat
namespace Go.Proofs.YtcdchnlefmnbjaaGreat
open Go.RowKit
attribute [local go_sem] vN bT bF rS vW vM vL vT2 vT3 vP vI execOp Act.eval evC bigF vB hi_zero lo_zero Tryz.underlying24 Tryz.underlying26 Tryz.underlying40
theorem Split_no (w0:World) (p:Bool) (A0:Option Addr) (c0:Nat) (x:Int) (hp:p=decide (x < 0)) (hr:Row w0 (.slice A0 (digs x).length c0) (digs x)) (hx:Sm x) (h0:-9223372036854775808≤x / 1000000000000000000 / 86400) (h1:x / 1000000000000000000 / 86400 < 9223372036854775808) (hno:¬ (-1099511627776≤x / 1000000000000000000 / 86400∧x / 1000000000000000000 / 86400≤1099511627776)):Calls Tryz.prog 91 #[.agg #[.bool (p),.slice A0 ((digs x).length) c0]] w0 fun e w'=>e = .returned (vT2 (vL 0 0 0) (.bool false))∧Below w0.heap.size w0 w':=by
 have hin:(decide (-1099511627776≤x / 1000000000000000000 / 86400) && decide (x / 1000000000000000000 / 86400≤1099511627776))=false:=by simp;omega
 have hst:=St.start w0 (Θ:=fun _=>True) (fun _ _=>trivial)
 refine en_ Tryz.func91 hst 53 [(0,.agg #[.bool (p),.slice A0 ((digs x).length) c0])] (fun ac H_=>?_)
 replace H_:=H_.facts
 refine fq H_ 2 [[0],[1],[2]] [_,_,_] (fun E1=>[(1,vP (pb E1 0) 0),(2,vP (pb E1 1) 0)]) (W:=[{ i:=0,T:=40,c0:=[.bool (p),rS x A0 c0] },{ i:=1,T:=26,c0:=[vI 0,vI 0,vI 0] }]) (s:=⟨bx3 0,al_ 1,mv3⟩) (k:=fun E1 ac wd H_=>?_)
 refine fq H_ 9 [[0],[1],[0,1,2],r_ 4,r_ 5,[0,1,2,3,5],[6],[7],[0,1,2,3,4,6,7,8],r_ 10] [_,_,KE_ fun env=>vT2 (bigF (x / 1000000000000000000) (tp (env 2) 0)) (bigF (x % 1000000000000000000) (tp (env 2) 1)),_,_,_,_,_,none,none] (fun E2=>[(4,vP (pb E2 6) 0),(5,vP (pb E2 7) 0)]) (W:=[{ i:=6,T:=40,c0:=[bF,.slice none 0 0],s:=some 8,c1:=fun env=>[.bool (decide (x / 1000000000000000000 < 0)),rS (x / 1000000000000000000) ((bA (tp (env 2) 0))) ((bC (tp (env 2) 0)))] },{ i:=7,T:=40,c0:=[bF,.slice none 0 0],s:=some 9,c1:=fun env=>[.bool (decide (x % 1000000000000000000 < 0)),rS (x % 1000000000000000000) ((bA (tp (env 2) 1))) ((bC (tp (env 2) 1)))] }]) (F:=[fB w0 1 1000000000000000000,(2,fun env w=>DivX w (env 2) (x / 1000000000000000000) (x % 1000000000000000000))]) (s:=⟨ld3b 0 sh40,cb3 Tryz.func25 fun wd hA=>Int_any wd 1000000000000000000 (by omega) (by omega),cf_ Tryz.func116 (fun v w=>DivX w v (x / 1000000000000000000) (x % 1000000000000000000)) (divF (x / 1000000000000000000) (x % 1000000000000000000)) (h:=fun _ env _ wd hA=>⟨_,toD (Div_any wd p A0 c0 x hp (hr.grown hA.j.st.gr) hx (decide (1000000000000000000 < 0)) (bA (env 1)) (bC (env 1)) 1000000000000000000 rfl (At.bigN hA 1 rfl rfl rfl) (by unfold Sm;omega) (by omega)),rfl⟩),mv3,xt3,xt3,al_ 2,al_ 3,sw3 2 6 sh40,sw3 3 7 sh40⟩) (k:=fun E2 ac wd H_=>?_)
 refine fq H_ 9 [[0],[1],[0,1,2],r_ 4,r_ 5,[0,1,2,3,5],[6],[7],[0,1,2,3,4,6,7,8],r_ 10] [_,_,KE_ fun env=>vT2 (bigF ((x / 1000000000000000000) / 86400) (tp (env 2) 0)) (bigF ((x / 1000000000000000000) % 86400) (tp (env 2) 1)),_,_,_,_,_,none,none] (fun E3=>[(6,vP (pb E3 6) 0),(7,vP (pb E3 7) 0)]) (W:=[{ i:=6,T:=40,c0:=[bF,.slice none 0 0],s:=some 8,c1:=fun env=>[.bool (decide ((x / 1000000000000000000) / 86400 < 0)),rS ((x / 1000000000000000000) / 86400) ((bA (tp (env 2) 0))) ((bC (tp (env 2) 0)))] },{ i:=7,T:=40,c0:=[bF,.slice none 0 0],s:=some 9,c1:=fun env=>[.bool (decide ((x / 1000000000000000000) % 86400 < 0)),rS ((x / 1000000000000000000) % 86400) ((bA (tp (env 2) 1))) ((bC (tp (env 2) 1)))] }]) (F:=[fB w0 1 86400,(2,fun env w=>DivX w (env 2) ((x / 1000000000000000000) / 86400) ((x / 1000000000000000000) % 86400))]) (s:=⟨ld3b 2 sh40,cb3 Tryz.func25 fun wd hA=>Int_any wd 86400 (by omega) (by omega),cf_ Tryz.func116 (fun v w=>DivX w v ((x / 1000000000000000000) / 86400) ((x / 1000000000000000000) % 86400)) (divF ((x / 1000000000000000000) / 86400) ((x / 1000000000000000000) % 86400)) (h:=fun _ env _ wd hA=>⟨_,toD (Div_any wd (decide (x / 1000000000000000000 < 0)) (bA (tp (E2 2) 0)) (bC (tp (E2 2) 0)) (x / 1000000000000000000) rfl (Facts.div1 (hA.j.st.now).1 1 rfl) (by unfold Sm at *;omega) (decide (86400 < 0)) (bA (env 1)) (bC (env 1)) 86400 rfl (At.bigN hA 1 rfl rfl rfl) (by unfold Sm;omega) (by omega)),rfl⟩),mv3,xt3,xt3,al_ 4,al_ 5,sw3 4 6 sh40,sw3 5 7 sh40⟩) (k:=fun E3 ac wd H_=>?_)
 refine fq1 H_ 6 (tri 4++[[0,1,2,4],[0,1,2,3,5],r_ 7]) [_,_,_,_,_,_,_] (fun _=>[(8,vI ((x / 1000000000000000000 / 86400))),(9,bT)]) (s:=⟨ld3b 4 sh40,cw3 Tryz.func118 fun wd hA=>Small_yes wd (decide ((x / 1000000000000000000) / 86400 < 0)) (bA (tp (E3 2) 0)) (bC (tp (E3 2) 0)) (x / 1000000000000000000 / 86400) rfl (Facts.div1 (hA.j.st.now).1 3 rfl)  (by omega) (by omega),mv3,xt3,xt3,mv3,mv3⟩) (k:=fun E4 ac wd H_=>?_)
 refine fq1 H_ 6 (tri 7) [_,bF,_,_,_,bT,bT] (fun _=>[(37,bT)]) (s:=⟨mv3,un3,mv3,gm3,cl3 Tryz.func82 (((In_any (x / 1000000000000000000 / 86400)).eq (congrArg Value.bool hin))),un3,pk3⟩) (k:=fun E5 ac wd H_=>?_)
 refine cT3 H_ ?_
 refine fq H_ 2 (tri 3) [vL 0 0 0,none,_] (fun _=>[(3,bF)]) (S:=[⟨1,1,fun _=>[vI 0,vI 0,vI 0]⟩]) (s:=⟨bd30,se3 1 sh26,mv3⟩) (k:=fun E6 ac wd H_=>?_)
 refine lvCT3 (v:=vL 0 0 0) Tryz.results91 H_ 1 (loadGc sh26 rfl ⟨rfl,rfl,rfl,trivial⟩) ?_
 exact ⟨rfl,H_.st.below⟩
def enC (es:List (Int × Int)) (p:Nat):Value:=if p % 2=0 then vI (es.getD (p / 2) (0,0)).1 else vI (es.getD (p / 2) (0,0)).2
theorem enC_0 (es:List (Int × Int)) (j:Nat):enC es (j*2)=vI (es.getD j (0,0)).1:=by unfold enC;rw [if_pos (by omega),show j*2 / 2=j by omega]
theorem enC_1 (es:List (Int × Int)) (j:Nat):enC es (j*2+1)=vI (es.getD j (0,0)).2:=by unfold enC;rw [if_neg (by omega),show (j*2+1) / 2=j by omega]
theorem Ents.els {w:World} {B:Nat} {v:Value} {es:List (Int × Int)} (h:Ents w B v es):Els w v es.length 2 (enC es):=by
  obtain ⟨A,c,rfl,h1,h2,h3⟩:=h
  refine ⟨A,c,rfl,h1,?_⟩
  rcases Nat.eq_zero_or_pos es.length with h0 | h0
  · exact .inl h0
  · obtain ⟨b,off,hA,hb,hc⟩:=h3 h0
    refine .inr ⟨b,off,hA,fun i hi=>?_⟩
    have h5:=hc (i / 2) (by omega)
    rcases Nat.mod_two_eq_zero_or_one i with h6 | h6
    · rw [show off+i=off+i / 2*2 by omega,h5.1];unfold enC;rw [if_pos h6]
    · rw [show off+i=off+i / 2*2+1 by omega,h5.2];unfold enC;rw [if_neg (by omega)]
theorem u_start (es:List (Int × Int)) (i:Nat):vI (startOf ((es.getD i (0,0)).1,(es.getD i (0,0)).2))=vI (startOf (es.getD i (0,0))):=rfl
theorem u_day (es:List (Int × Int)) (i:Nat):vI (dayOf ((es.getD i (0,0)).1,(es.getD i (0,0)).2))=vI (dayOf (es.getD i (0,0))):=rfl
theorem u_cmp_le {x y:Int}:cmpZ x y≤0↔x≤y:=by unfold cmpZ;split <;> (try split) <;> omega
theorem u_cmp_lt {x y:Int}:cmpZ x y < 0↔x < y:=by unfold cmpZ;split <;> (try split) <;> omega
theorem u_cmp_ge {x y:Int}:0≤cmpZ x y↔y≤x:=by unfold cmpZ;split <;> (try split) <;> omega
theorem u_cmp_gt {x y:Int}:0 < cmpZ x y↔y < x:=by unfold cmpZ;split <;> (try split) <;> omega
theorem sm_w {z:Int} (h:InW z):Sm z:=by unfold InW at h;unfold Sm;omega
theorem lab4 {es:List (Int × Int)} {z e d c r:Int} (h:labUt es z=(e,d,c,r)):vT2 (vL d c r) (vI e)=vT2 (vL (labUt es z).2.1 (labUt es z).2.2.1 (labUt es z).2.2.2) (vI (labUt es z).1):=by rw [h]
theorem rLabel12_any (w0:World) (A0:Option Addr) (c0:Nat) (es:List (Int × Int)) (u x:Int) (hv:Ents w0 w0.heap.size (.slice A0 es.length c0) es) (hk:okPre es es.length=true) (hn0:0 < es.length) (p:Bool) (A1:Option Addr) (k1_:Nat) (z:Int) (hp:p=decide (z < 0)) (hr:Row w0 (.slice A1 (digs z).length k1_) (digs z)) (hz:InW z):Calls Tryz.prog 58 #[.agg #[vI u,vI x,.slice A0 es.length c0],.agg #[.bool (p),.slice A1 ((digs z).length) k1_]] w0 fun e w'=>e = .returned (vT2 (vL ((labUt es z).2.1) ((labUt es z).2.2.1) ((labUt es z).2.2.2)) (vI ((labUt es z).1)))∧Below w0.heap.size w0 w':=by
  have hlen:=okPre_len hk
  have hst:=St.start w0 (Θ:=fun _=>True) (fun _ _=>trivial)
  refine en_ Tryz.func58 hst 87 [(0,.agg #[vI u,vI x,.slice A0 es.length c0]),(1,.agg #[.bool (p),.slice A1 ((digs z).length) k1_])] (fun ac H_=>?_)
  replace H_:=H_.facts
  refine fq H_ 3 [[0],[1],[2],[3]] [_,_,_,_] (fun E1=>[(2,vP (pb E1 0) 0),(3,vP (pb E1 1) 0),(4,vP (pb E1 2) 0)]) (W:=[{ i:=0,T:=24,c0:=[vI u,vI x,.slice A0 es.length c0] },{ i:=1,T:=40,c0:=[.bool (p),rS z A1 k1_] },{ i:=2,T:=26,c0:=[vI 0,vI 0,vI 0] }]) (s:=⟨bx3 0,bx3 1,al_ 2,mv3⟩) (k:=fun E1 ac wd H_=>?_)
  have hb0:=okPre_num hk (i:=0) (by omega);have hst0:=st_bd hk (i:=0) (by omega)
  refine fq H_ 8 (tri 7++[[7],r_ 9]) [_,_,elt (.slice A0 es.length c0) (0*2),K_ (.agg #[vI ((es.getD 0 (0,0)).1),vI ((es.getD 0 (0,0)).2)]),_,vL 0 (startOf (es.getD 0 (0,0))) 0,_,_,none] (fun E2=>[(6,vP (pb E2 7) 0)]) (W:=[{ i:=7,T:=40,c0:=[bF,.slice none 0 0],s:=some 8,c1:=fun env=>[.bool (decide (jn 0 (startOf (es.getD 0 (0,0))) 0 < 0)),rS (jn 0 (startOf (es.getD 0 (0,0))) 0) ((bA (env 6))) ((bC (env 6)))] }]) (F:=[fB w0 6 (jn 0 (startOf (es.getD 0 (0,0))) 0)]) (s:=⟨fa3 2,ld31 0 sh22,ia_ Tryz.underlying22 sz54 0 (0*2) 0 (fun _ env _ wd hA=>(hv.gn hA.j.st.gr).els) (rfl) (by omega) rfl,le_ (0*2) (fun _ env _ wd hA=>(hv.gn hA.j.st.gr).els) (by omega) (leGb sh54 (by exact enC_0 es 0) (by exact enC_1 es 0)),cl3 Tryz.func90 ((Ret.eq (rstart_any ((es.getD 0 (0,0)).1) ((es.getD 0 (0,0)).2) hb0.1 hb0.2.1 hb0.2.2.1 hb0.2.2.2.1) (u_start es 0))),bd31,cb3 Tryz.func87 fun wd hA=>Join_any wd 0 (startOf (es.getD 0 (0,0))) 0 (by omega) (by omega) (by omega) (by omega) (by omega) (by omega),al_ 3,sw3 3 7 sh40⟩) (k:=fun E2 ac wd H_=>?_)
  by_cases hE:z < jn 0 (startOf (es.getD 0 (0,0))) 0
  refine fq1 H_ 3 [[0],[1],[0,1,2],r_ 4] [_,_,_,bT] (fun _=>[(21,bT)]) (s:=⟨ld3b 1 sh40,ld3b 3 sh40,cw3 Tryz.func54 fun wd hA=>Cmp_any wd p A1 k1_ z hp (hr.grown hA.j.st.gr)  (decide (jn 0 (startOf (es.getD 0 (0,0))) 0 < 0)) (bA (E2 6)) (bC (E2 6)) (jn 0 (startOf (es.getD 0 (0,0))) 0) rfl (Facts.bigN (hA.j.st.now).1 0 rfl) ,bi3 (h:=by intro env w;(first | (simp [go_sem,u_cmp_le,u_cmp_lt,u_cmp_ge,u_cmp_gt,hE];done) | (simp [go_sem,u_cmp_le,u_cmp_lt,u_cmp_ge,u_cmp_gt];simp only [List.getD_eq_getElem?_getD] at *;omega)))⟩) (k:=fun E3 ac wd H_=>?_)
  refine cT3 H_ ?_
  refine fq H_ 2 (tri 3) [vL 0 0 0,none,_] (fun _=>[(5,vI 8)]) (S:=[⟨2,1,fun _=>[vI 0,vI 0,vI 0]⟩]) (s:=⟨bd30,se3 2 sh26,mv3⟩) (k:=fun E4 ac wd H_=>?_)
  refine lvCT3 (v:=vL 0 0 0) Tryz.results58 H_ 2 (loadGc sh26 rfl ⟨rfl,rfl,rfl,trivial⟩) ?_
  have e4:=lab4 (rl_early hk hn0 hE)
  exact ⟨congrArg Ending.returned e4,H_.st.below⟩
  refine fq1 H_ 3 [[0],[1],[0,1,2],r_ 4] [_,_,_,bF] (fun _=>[(21,bF)]) (s:=⟨ld3b 1 sh40,ld3b 3 sh40,cw3 Tryz.func54 fun wd hA=>Cmp_any wd p A1 k1_ z hp (hr.grown hA.j.st.gr)  (decide (jn 0 (startOf (es.getD 0 (0,0))) 0 < 0)) (bA (E2 6)) (bC (E2 6)) (jn 0 (startOf (es.getD 0 (0,0))) 0) rfl (Facts.bigN (hA.j.st.now).1 0 rfl) ,bi3 (h:=by intro env w;(first | (simp [go_sem,u_cmp_le,u_cmp_lt,u_cmp_ge,u_cmp_gt,hE];done) | (simp [go_sem,u_cmp_le,u_cmp_lt,u_cmp_ge,u_cmp_gt];simp only [List.getD_eq_getElem?_getD] at *;omega)))⟩) (k:=fun E3 ac wd H_=>?_)
  refine cF3 H_ ?_
  refine fq1 H_ 0 [[0]] [_] (fun _=>[(7,vI 0)]) (s:=mv3) (k:=fun E4 ac wd H_=>?_)
  refine fq1 H_ 0 [[0]] [_] (fun _=>[(8,vI 0)]) (s:=mv3) (k:=fun E5 ac wd H_=>?_)
  refine lp3 (fun ac wd=>∃ i:Nat,i≤es.length∧Cur 87 w0 none none (Facts []) (fun _=>True) [(2,vP (pb E1 0) 0),(3,vP (pb E1 1) 0),(4,vP (pb E1 2) 0),(7,vN (kL es z i)),(8,vN i)] [((pb E1 0),24,[vI u,vI x,.slice A0 es.length c0]),((pb E1 1),40,[.bool (p),rS z A1 k1_]),((pb E1 2),26,[vI 0,vI 0,vI 0]),((pb E2 7),40,[.bool (decide (jn 0 (startOf (es.getD 0 (0,0))) 0 < 0)),rS (jn 0 (startOf (es.getD 0 (0,0))) 0) ((bA (E2 6))) ((bC (E2 6)))])] ac wd) (fun ac _=>((es.length:Int)-sI ac 8).toNat) ⟨0,by omega,(H_.sel [] rfl).re rfl⟩ ?_
  rintro ac wd ⟨i,hi1,H_⟩
  have hmu:sI ac 8=((i:Nat):Int):=sI_eq (H_.g (t:=8) rfl)
  by_cases h1:i < es.length
  have hb:=okPre_num hk (i:=i) (by omega);have hst:=st_bd hk (i:=i) (by omega)
  refine fq1 H_ 4 [[0],[1],[1,2],[1,2,3],r_ 5] [_,_,_,vN es.length,bT] (fun _=>[(27,bT)]) (s:=⟨mv3,fa3 2,ld31 0 sh22,ln_ Tryz.underlying22 fun _ env _ wd hA=>(hv.gn hA.j.st.gr).els,bi3⟩) (k:=fun E7 ac wd H_=>?_)
  refine cT3 H_ ?_
  by_cases hc:jn 0 (startOf (es.getD i (0,0))) 0≤z
  refine fq H_ 10 [[0],[0,1],[2],r_ 4,r_ 5,r_ 6,r_ 7,r_ 8,[8],r_ 10,r_ 11] [_,_,_,elt (.slice A0 es.length c0) (i*2),K_ (.agg #[vI ((es.getD i (0,0)).1),vI ((es.getD i (0,0)).2)]),_,vL 0 (startOf (es.getD i (0,0))) 0,_,_,_,bT] (fun _=>[(40,bT)]) (F:=[fB w0 7 (jn 0 (startOf (es.getD i (0,0))) 0)]) (s:=⟨fa3 2,ld31 0 sh22,mv3,ia_ Tryz.underlying22 sz54 i (i*2) ((i:Nat):Int) (fun _ env _ wd hA=>(hv.gn hA.j.st.gr).els) (rfl) (by omega) rfl,le_ (i*2) (fun _ env _ wd hA=>(hv.gn hA.j.st.gr).els) (by omega) (leGb sh54 (by exact enC_0 es i) (by exact enC_1 es i)),cl3 Tryz.func90 ((Ret.eq (rstart_any ((es.getD i (0,0)).1) ((es.getD i (0,0)).2) hb.1 hb.2.1 hb.2.2.1 hb.2.2.2.1) (u_start es i))),bd31,cb3 Tryz.func87 fun wd hA=>Join_any wd 0 (startOf (es.getD i (0,0))) 0 (by omega) (by omega) (by omega) (by omega) (by omega) (by omega),ld3b 1 sh40,cw3e Tryz.func54 fun env wd hA=>Cmp_any wd (decide (jn 0 (startOf (es.getD i (0,0))) 0 < 0)) (bA (env 7)) (bC (env 7)) (jn 0 (startOf (es.getD i (0,0))) 0) rfl (At.bigN hA 7 rfl rfl rfl)  p A1 k1_ z hp (hr.grown hA.j.st.gr) ,bi3 (h:=by intro env w;(first | (simp [go_sem,u_cmp_le,u_cmp_lt,u_cmp_ge,u_cmp_gt,hc];done) | (simp [go_sem,u_cmp_le,u_cmp_lt,u_cmp_ge,u_cmp_gt];simp only [List.getD_eq_getElem?_getD] at *;omega)))⟩) (k:=fun E8 ac wd H_=>?_)
  refine cT3 H_ ?_
  refine fq1 H_ 1 [[0],[0,1]] [_,_] (fun _=>[(7,vN i)]) (s:=⟨mv3,mv3⟩) (k:=fun E9 ac wd H_=>?_)
  refine fq1 H_ 2 (tri 3) [_,vI (((i:Nat):Int)+1),_] (fun _=>[(8,vI (((i:Nat):Int)+1))]) (s:=⟨mv3,bi3,mv3⟩) (k:=fun E10 ac wd H_=>?_)
  refine then_n ?_
  have hk2:kL es z (i+1)=i:=by simp only [kL];rw [if_pos hc]
  refine ⟨⟨i+1,by omega,?_⟩,by rw [sI_eq (H_.g (t:=8) rfl),hmu];omega⟩
  rw [hk2];exact (H_.sel [] rfl).re rfl
  refine fq H_ 10 [[0],[0,1],[2],r_ 4,r_ 5,r_ 6,r_ 7,r_ 8,[8],r_ 10,r_ 11] [_,_,_,elt (.slice A0 es.length c0) (i*2),K_ (.agg #[vI ((es.getD i (0,0)).1),vI ((es.getD i (0,0)).2)]),_,vL 0 (startOf (es.getD i (0,0))) 0,_,_,_,bF] (fun _=>[(40,bF)]) (F:=[fB w0 7 (jn 0 (startOf (es.getD i (0,0))) 0)]) (s:=⟨fa3 2,ld31 0 sh22,mv3,ia_ Tryz.underlying22 sz54 i (i*2) ((i:Nat):Int) (fun _ env _ wd hA=>(hv.gn hA.j.st.gr).els) (rfl) (by omega) rfl,le_ (i*2) (fun _ env _ wd hA=>(hv.gn hA.j.st.gr).els) (by omega) (leGb sh54 (by exact enC_0 es i) (by exact enC_1 es i)),cl3 Tryz.func90 ((Ret.eq (rstart_any ((es.getD i (0,0)).1) ((es.getD i (0,0)).2) hb.1 hb.2.1 hb.2.2.1 hb.2.2.2.1) (u_start es i))),bd31,cb3 Tryz.func87 fun wd hA=>Join_any wd 0 (startOf (es.getD i (0,0))) 0 (by omega) (by omega) (by omega) (by omega) (by omega) (by omega),ld3b 1 sh40,cw3e Tryz.func54 fun env wd hA=>Cmp_any wd (decide (jn 0 (startOf (es.getD i (0,0))) 0 < 0)) (bA (env 7)) (bC (env 7)) (jn 0 (startOf (es.getD i (0,0))) 0) rfl (At.bigN hA 7 rfl rfl rfl)  p A1 k1_ z hp (hr.grown hA.j.st.gr) ,bi3 (h:=by intro env w;(first | (simp [go_sem,u_cmp_le,u_cmp_lt,u_cmp_ge,u_cmp_gt,hc];done) | (simp [go_sem,u_cmp_le,u_cmp_lt,u_cmp_ge,u_cmp_gt];simp only [List.getD_eq_getElem?_getD] at *;omega)))⟩) (k:=fun E8 ac wd H_=>?_)
  refine cF3 H_ ?_
  refine fq1 H_ 2 (tri 3) [_,vI (((i:Nat):Int)+1),_] (fun _=>[(8,vI (((i:Nat):Int)+1))]) (s:=⟨mv3,bi3,mv3⟩) (k:=fun E9 ac wd H_=>?_)
  refine then_n ?_
  have hk2:kL es z (i+1)=kL es z i:=by simp only [kL];rw [if_neg hc]
  refine ⟨⟨i+1,by omega,?_⟩,by rw [sI_eq (H_.g (t:=8) rfl),hmu];omega⟩
  rw [hk2];exact (H_.sel [] rfl).re rfl
  obtain rfl:i=es.length:=by omega
  refine fq1 H_ 4 [[0],[1],[1,2],[1,2,3],r_ 5] [_,_,_,vN es.length,bF] (fun _=>[(27,bF)]) (s:=⟨mv3,fa3 2,ld31 0 sh22,ln_ Tryz.underlying22 fun _ env _ wd hA=>(hv.gn hA.j.st.gr).els,bi3⟩) (k:=fun E7 ac wd H_=>?_)
  refine cF3 H_ ?_
  obtain ⟨k1,k2⟩:=kL_end hk hn0 hE
  obtain ⟨k,hkk⟩:∃ k,k=kL es z es.length:=⟨_,rfl⟩
  rw [← hkk] at k1 k2 H_
  have hbk:=okPre_num hk (i:=k) k1
  obtain ⟨o,ho⟩:∃ o,(es.getD k (0,0)).2=o:=⟨_,rfl⟩
  rw [ho] at hbk
  have hsz:=sm_w hz
  have hsj:Sm (jn 0 o 0):=by unfold jn Sm;omega
  have hsn:Sm (z-jn 0 o 0):=by unfold jn;unfold InW at hz;unfold Sm;omega
  have hrk:=rl_k hk hz k1 k2 ho rfl rfl rfl
  have hq0:-9223372036854775808≤(z-jn 0 o 0) / 1000000000000000000 / 86400:=by unfold jn;unfold InW at hz;omega
  have hq1:(z-jn 0 o 0) / 1000000000000000000 / 86400 < 9223372036854775808:=by unfold jn;unfold InW at hz;omega
  have hc0:0≤(z-jn 0 o 0) / 1000000000000000000 % 86400:=by omega
  have hc1:(z-jn 0 o 0) / 1000000000000000000 % 86400 < 86400:=by omega
  refine fq H_ 10 [[0],[1],[1,2],[3],[1,2,3,4],[1,2,3,4,5],[1,2,3,4,5,6],[1,2,3,4,5,6,7],[1,2,3,4,5,6,7,8],r_ 10,r_ 11] [_,_,_,_,elt (.slice A0 es.length c0) (k*2),elt (.slice A0 es.length c0) (k*2+1),vI o,vL 0 o 0,_,_,none] (fun _=>[]) (S:=[⟨1,10,fun env=>[.bool (decide (z-jn 0 o 0 < 0)),rS (z-jn 0 o 0) ((bA (env 9))) ((bC (env 9)))]⟩]) (F:=[fB w0 8 (jn 0 o 0),fB w0 9 (z-jn 0 o 0)]) (s:=⟨ld3b 1 sh40,fa3 2,ld31 0 sh22,mv3,ia_ Tryz.underlying22 sz54 k (k*2) ((k:Nat):Int) (fun _ env _ wd hA=>(hv.gn hA.j.st.gr).els) (rfl) (by omega) rfl,s_fa rfl rfl rfl (fun _=>wanted_none rfl _) (k*2) 1 (k*2+1) rfl (s:=fun _=>.slice A0 es.length c0) rfl (fun _=>rfl) (fun {D env ac wd} hA=>(hv.gn hA.j.st.gr).els) (by omega) (fun b q w=>by simp [go_sem,Tryz.underlying54]),le_ (k*2+1) (fun _ env _ wd hA=>(hv.gn hA.j.st.gr).els) (by omega) (leG1 sh3 ((enC_1 es k).trans (congrArg vI ho))),bd31,cb3 Tryz.func87 fun wd hA=>Join_any wd 0 o 0 (by omega) (by omega) (by omega) (by omega) (by omega) (by omega),cb3e Tryz.func56 fun env wd hA=>Sub_any wd p A1 k1_ z hp (hr.grown hA.j.st.gr) hsz (decide (jn 0 o 0 < 0)) (bA (env 8)) (bC (env 8)) (jn 0 o 0) rfl (At.bigN hA 8 rfl rfl rfl) hsj,se3 1 sh40⟩) (k:=fun E8 ac wd H_=>?_)
  by_cases hno:-1099511627776≤(z-jn 0 o 0) / 1000000000000000000 / 86400∧(z-jn 0 o 0) / 1000000000000000000 / 86400≤1099511627776
  obtain ⟨p0,p1⟩:=hno
  refine fq H_ 7 (tri 4++[[0,1,2,4],[5],[0,1,2,3,5,6],r_ 8]) [_,_,_,_,_,_,none,_] (fun E9=>[(9,vP (pb E9 5) 0),(10,bT)]) (W:=[{ i:=5,T:=26,c0:=[vI 0,vI 0,vI 0],s:=some 6,c1:=fun _=>[vI ((z-jn 0 o 0) / 1000000000000000000 / 86400),vI ((z-jn 0 o 0) / 1000000000000000000 % 86400),vI ((z-jn 0 o 0) % 1000000000000000000)] }]) (s:=⟨ld3b 1 sh40,cw3 Tryz.func91 fun wd hA=>Split_yes wd (decide (z-jn 0 o 0 < 0)) (bA (E8 9)) (bC (E8 9)) (z-jn 0 o 0) rfl (Facts.bigN (hA.j.st.now).1 1 rfl) hsn p0 p1,mv3,xt3,xt3,al_ 4,sw3 4 5 sh26,mv3⟩) (k:=fun E9 ac wd H_=>?_)
  refine fq1 H_ 1 [[0],[0,1]] [_,bF] (fun _=>[(58,bF)]) (s:=⟨mv3,un3⟩) (k:=fun E10 ac wd H_=>?_)
  refine cF3 H_ ?_
  by_cases g1:k+1 < es.length
  have hb2:=okPre_num hk (i:=k+1) g1
  by_cases g2:dayOf (es.getD (k+1) (0,0))≤(z-jn 0 o 0) / 1000000000000000000 / 86400
  refine fq1 H_ 17 [[0],[0,1],[2],[2,3],[2,3,4],r_ 6,r_ 7,r_ 8,r_ 9,r_ 7++[9],r_ 7++[9,10],r_ 7++[11],r_ 7++[11,12],r_ 7++[9,10,11,12,13],r_ 7++[9,10,11,12,13,14],r_ 7++[9,10,11,12,13,14,15],r_ 17,r_ 18] [_,vI (((k:Nat):Int)+1),_,_,vN es.length,bT,_,_,_,_,_,_,vI (((k:Nat):Int)+1),elt (.slice A0 es.length c0) ((k+1)*2),K_ (.agg #[vI ((es.getD (k+1) (0,0)).1),vI ((es.getD (k+1) (0,0)).2)]),_,bT,bT] (fun _=>[(77,bT)]) (s:=⟨mv3,bi3,fa3 2,ld31 0 sh22,ln_ Tryz.underlying22 fun _ env _ wd hA=>(hv.gn hA.j.st.gr).els,bi3,mv3,fa3 0,ld31 4 sh3,fa3 2,ld31 0 sh22,gm3,bi3,ia_ Tryz.underlying22 sz54 (k+1) ((k+1)*2) (((k:Nat):Int)+1) (fun _ env _ wd hA=>(hv.gn hA.j.st.gr).els) (by omega) (by omega) rfl,le_ ((k+1)*2) (fun _ env _ wd hA=>(hv.gn hA.j.st.gr).els) (by omega) (leGb sh54 (by exact enC_0 es (k+1)) (by exact enC_1 es (k+1))),cl3 Tryz.func85 ((Ret.eq (rday_any ((es.getD (k+1) (0,0)).1) ((es.getD (k+1) (0,0)).2) hb2.1 hb2.2.1) (u_day es (k+1)))),bi3 (h:=by intro env w;(first | (simp [go_sem,g2];done) | (simp [go_sem];simp only [List.getD_eq_getElem?_getD] at *;omega))),pk3 (h:=by intro env w;(first | (simp [go_sem,g2];done) | (simp [go_sem];simp only [List.getD_eq_getElem?_getD] at *;omega)))⟩) (k:=fun E11 ac wd H_=>?_)
  refine cT3 H_ ?_
  refine reg_cut mixed 8 [[0],[0,1],[0,1,2],[3],[3,4],[3,4,5],[0,1,2,3,4,6],[0,1,2,3,4,6,7],[0,1,2,3,4,5,6,7,8],[0,1,2,3,4,5,6,7,8,9]] (by kernel_rfl) H_ [some 78,some 79,some 80,some 81,some 82,some 83,some 84,none] [[0],[0,1],[0,1,2],[3],[3,4],[3,4,5],[0,1,2,3,4,6],[0,1,2,3,4,6,7]] [⟨4,7,fun _=>[vI (((z-jn 0 o 0) / 1000000000000000000 / 86400)-1),vI ((z-jn 0 o 0) / 1000000000000000000 % 86400),vI ((z-jn 0 o 0) % 1000000000000000000)]⟩] [] [some fun _=>vP (pb E9 5) 0,some fun _=>vI ((z-jn 0 o 0) / 1000000000000000000 / 86400),some fun _=>vI (((z-jn 0 o 0) / 1000000000000000000 / 86400)-1),some fun _=>vP (pb E9 5) 1,some fun _=>vI ((z-jn 0 o 0) / 1000000000000000000 % 86400),some fun _=>vI (((z-jn 0 o 0) / 1000000000000000000 % 86400)+86400),some fun _=>vP (pb E9 5) 0,none] [] none rfl (by kernel_rfl) (by kernel_rfl) (sn (sn (sn (sn (sn (sn (sn (sn s0 ?_) ?_) ?_) ?_) ?_) ?_) ?_) ?_) ?_
  · exact (fa3 0)
  · exact (ld31 4 sh3)
  · exact bi3
  · exact (fa3 1)
  · exact (ld31 4 sh3)
  · exact bi3
  · exact (fa3 0)
  · exact (se3 4 sh3)
  intro E12 ac wd hJ
  have H_:Cur 87 w0 none none (Facts [fun w=>BigN w0.heap.size w (E8 8) (jn 0 o 0),fun w=>BigN w0.heap.size w (E8 9) (z-jn 0 o 0)]) (fun _=>True) [(4,vP (pb E1 2) 0),(9,vP (pb E9 5) 0),(83,vI (((z-jn 0 o 0) / 1000000000000000000 % 86400)+86400))] [((pb E1 0),24,[vI u,vI x,.slice A0 es.length c0]),((pb E1 1),40,[.bool (decide (z-jn 0 o 0 < 0)),.slice ((bA (E8 9))) ((digs (z-jn 0 o 0)).length) ((bC (E8 9)))]),((pb E1 2),26,[vI 0,vI 0,vI 0]),((pb E2 7),40,[.bool (decide (jn 0 (startOf (es.getD 0 (0,0))) 0 < 0)),.slice ((bA (E2 6))) ((digs (jn 0 (startOf (es.getD 0 (0,0))) 0)).length) ((bC (E2 6)))]),((pb E9 5),26,[vI (((z-jn 0 o 0) / 1000000000000000000 / 86400)-1),vI ((z-jn 0 o 0) / 1000000000000000000 % 86400),vI ((z-jn 0 o 0) % 1000000000000000000)])] ac wd:=hJ.curF rfl rfl rfl (fun _ h=>h) rfl rfl rfl
  clear hJ
  refine reg_rest H_ [some 85,none] [[0],[0,1]] [⟨4,1,fun _=>[vI (((z-jn 0 o 0) / 1000000000000000000 / 86400)-1),vI (((z-jn 0 o 0) / 1000000000000000000 % 86400)+86400),vI ((z-jn 0 o 0) % 1000000000000000000)]⟩] [] [some fun _=>vP (pb E9 5) 1,none] [] none rfl (by kernel_rfl) (by kernel_rfl) (by kernel_rfl) (sn (sn s0 ?_) ?_) ?_
  · exact (fa3 1)
  · exact (se3 4 sh3)
  intro E13 ac wd hJ
  have H_:Cur 87 w0 none none (Facts [fun w=>BigN w0.heap.size w (E8 8) (jn 0 o 0),fun w=>BigN w0.heap.size w (E8 9) (z-jn 0 o 0)]) (fun _=>True) [(4,vP (pb E1 2) 0),(9,vP (pb E9 5) 0)] [((pb E1 0),24,[vI u,vI x,.slice A0 es.length c0]),((pb E1 1),40,[.bool (decide (z-jn 0 o 0 < 0)),.slice ((bA (E8 9))) ((digs (z-jn 0 o 0)).length) ((bC (E8 9)))]),((pb E1 2),26,[vI 0,vI 0,vI 0]),((pb E2 7),40,[.bool (decide (jn 0 (startOf (es.getD 0 (0,0))) 0 < 0)),.slice ((bA (E2 6))) ((digs (jn 0 (startOf (es.getD 0 (0,0))) 0)).length) ((bC (E2 6)))]),((pb E9 5),26,[vI (((z-jn 0 o 0) / 1000000000000000000 / 86400)-1),vI (((z-jn 0 o 0) / 1000000000000000000 % 86400)+86400),vI ((z-jn 0 o 0) % 1000000000000000000)])] ac wd:=hJ.curF rfl rfl rfl (fun _ h=>h) rfl rfl rfl
  clear hJ
  refine fq H_ 2 (tri 3) [_,none,_] (fun _=>[(5,vI 0)]) (S:=[⟨2,1,fun _=>[vI (((z-jn 0 o 0) / 1000000000000000000 / 86400)-1),vI (((z-jn 0 o 0) / 1000000000000000000 % 86400)+86400),vI ((z-jn 0 o 0) % 1000000000000000000)]⟩]) (s:=⟨ld3c 4 sh26,se3 2 sh26,mv3⟩) (k:=fun E14 ac wd H_=>?_)
  refine lvCT3 (v:=vL (((z-jn 0 o 0) / 1000000000000000000 / 86400)-1) (((z-jn 0 o 0) / 1000000000000000000 % 86400)+86400) ((z-jn 0 o 0) % 1000000000000000000)) Tryz.results58 H_ 2 (loadGc sh26 rfl ⟨rfl,rfl,rfl,trivial⟩) ?_
  have e4:=lab4 ((hrk.2 ⟨p0,p1⟩).1 ⟨g1,g2⟩)
  exact ⟨congrArg Ending.returned e4,H_.st.below⟩
  refine fq1 H_ 17 [[0],[0,1],[2],[2,3],[2,3,4],r_ 6,r_ 7,r_ 8,r_ 9,r_ 7++[9],r_ 7++[9,10],r_ 7++[11],r_ 7++[11,12],r_ 7++[9,10,11,12,13],r_ 7++[9,10,11,12,13,14],r_ 7++[9,10,11,12,13,14,15],r_ 17,r_ 18] [_,vI (((k:Nat):Int)+1),_,_,vN es.length,bT,_,_,_,_,_,_,vI (((k:Nat):Int)+1),elt (.slice A0 es.length c0) ((k+1)*2),K_ (.agg #[vI ((es.getD (k+1) (0,0)).1),vI ((es.getD (k+1) (0,0)).2)]),_,bF,bF] (fun _=>[(77,bF)]) (s:=⟨mv3,bi3,fa3 2,ld31 0 sh22,ln_ Tryz.underlying22 fun _ env _ wd hA=>(hv.gn hA.j.st.gr).els,bi3,mv3,fa3 0,ld31 4 sh3,fa3 2,ld31 0 sh22,gm3,bi3,ia_ Tryz.underlying22 sz54 (k+1) ((k+1)*2) (((k:Nat):Int)+1) (fun _ env _ wd hA=>(hv.gn hA.j.st.gr).els) (by omega) (by omega) rfl,le_ ((k+1)*2) (fun _ env _ wd hA=>(hv.gn hA.j.st.gr).els) (by omega) (leGb sh54 (by exact enC_0 es (k+1)) (by exact enC_1 es (k+1))),cl3 Tryz.func85 ((Ret.eq (rday_any ((es.getD (k+1) (0,0)).1) ((es.getD (k+1) (0,0)).2) hb2.1 hb2.2.1) (u_day es (k+1)))),bi3 (h:=by intro env w;(first | (simp [go_sem,g2];done) | (simp [go_sem];simp only [List.getD_eq_getElem?_getD] at *;omega))),pk3 (h:=by intro env w;(first | (simp [go_sem,g2];done) | (simp [go_sem];simp only [List.getD_eq_getElem?_getD] at *;omega)))⟩) (k:=fun E11 ac wd H_=>?_)
  refine cF3 H_ ?_
  refine fq H_ 2 (tri 3) [_,none,_] (fun _=>[(5,vI 0)]) (S:=[⟨2,1,fun _=>[vI ((z-jn 0 o 0) / 1000000000000000000 / 86400),vI ((z-jn 0 o 0) / 1000000000000000000 % 86400),vI ((z-jn 0 o 0) % 1000000000000000000)]⟩]) (s:=⟨ld3c 4 sh26,se3 2 sh26,mv3⟩) (k:=fun E12 ac wd H_=>?_)
  refine lvCT3 (v:=vL ((z-jn 0 o 0) / 1000000000000000000 / 86400) ((z-jn 0 o 0) / 1000000000000000000 % 86400) ((z-jn 0 o 0) % 1000000000000000000)) Tryz.results58 H_ 2 (loadGc sh26 rfl ⟨rfl,rfl,rfl,trivial⟩) ?_
  have e4:=lab4 ((hrk.2 ⟨p0,p1⟩).2 (fun hh=>g2 hh.2))
  exact ⟨congrArg Ending.returned e4,H_.st.below⟩
  refine fq1 H_ 17 [[0],[0,1],[2],[2,3],[2,3,4],r_ 6,r_ 7,r_ 8,r_ 9,r_ 7++[9],r_ 7++[9,10],r_ 7++[11],r_ 7++[11,12],r_ 7++[9,10,11,12,13],r_ 7++[9,10,11,12,13,14],r_ 7++[9,10,11,12,13,14,15],r_ 17,r_ 18] [_,vI (((k:Nat):Int)+1),_,_,vN es.length,bF,_,_,_,_,_,_,_,_,_,_,_,bF] (fun _=>[(77,bF)]) (s:=⟨mv3,bi3,fa3 2,ld31 0 sh22,ln_ Tryz.underlying22 fun _ env _ wd hA=>(hv.gn hA.j.st.gr).els,bi3,mv3,off_,off_,off_,off_,off_,off_,off_,off_,off_,off_,pk3⟩) (k:=fun E11 ac wd H_=>?_)
  refine cF3 H_ ?_
  refine fq H_ 2 (tri 3) [_,none,_] (fun _=>[(5,vI 0)]) (S:=[⟨2,1,fun _=>[vI ((z-jn 0 o 0) / 1000000000000000000 / 86400),vI ((z-jn 0 o 0) / 1000000000000000000 % 86400),vI ((z-jn 0 o 0) % 1000000000000000000)]⟩]) (s:=⟨ld3c 4 sh26,se3 2 sh26,mv3⟩) (k:=fun E12 ac wd H_=>?_)
  refine lvCT3 (v:=vL ((z-jn 0 o 0) / 1000000000000000000 / 86400) ((z-jn 0 o 0) / 1000000000000000000 % 86400) ((z-jn 0 o 0) % 1000000000000000000)) Tryz.results58 H_ 2 (loadGc sh26 rfl ⟨rfl,rfl,rfl,trivial⟩) ?_
  have e4:=lab4 ((hrk.2 ⟨p0,p1⟩).2 (fun hh=>g1 hh.1))
  exact ⟨congrArg Ending.returned e4,H_.st.below⟩
  refine fq H_ 7 (tri 4++[[0,1,2,4],[5],[0,1,2,3,5,6],r_ 8]) [_,_,_,_,_,_,none,_] (fun E9=>[(9,vP (pb E9 5) 0),(10,bF)]) (W:=[{ i:=5,T:=26,c0:=[vI 0,vI 0,vI 0],s:=some 6,c1:=fun _=>[vI 0,vI 0,vI 0] }]) (s:=⟨ld3b 1 sh40,cw3 Tryz.func91 fun wd hA=>Split_no wd (decide (z-jn 0 o 0 < 0)) (bA (E8 9)) (bC (E8 9)) (z-jn 0 o 0) rfl (Facts.bigN (hA.j.st.now).1 1 rfl) hsn hq0 hq1 hno,mv3,xt3,xt3,al_ 4,sw3 4 5 sh26,mv3⟩) (k:=fun E9 ac wd H_=>?_)
  refine fq1 H_ 1 [[0],[0,1]] [_,bT] (fun _=>[(58,bT)]) (s:=⟨mv3,un3⟩) (k:=fun E10 ac wd H_=>?_)
  refine cT3 H_ ?_
  refine fq H_ 2 (tri 3) [vL 0 0 0,none,_] (fun _=>[(5,vI 2)]) (S:=[⟨2,1,fun _=>[vI 0,vI 0,vI 0]⟩]) (s:=⟨bd30,se3 2 sh26,mv3⟩) (k:=fun E11 ac wd H_=>?_)
  refine lvCT3 (v:=vL 0 0 0) Tryz.results58 H_ 2 (loadGc sh26 rfl ⟨rfl,rfl,rfl,trivial⟩) ?_
  have e4:=lab4 (hrk.1 hno)
  exact ⟨congrArg Ending.returned e4,H_.st.below⟩
end Go.Proofs.YtcdchnlefmnbjaaGreat
namespace Go.Proofs.YtcdchnlefmnbjaaGreat
open Go.RowKit
abbrev cT:List TypeId:=[93,54,95,51,100,104]
def oldB (es:List (Int × Int)):Bool:=decide (day0 es=41317) && decide ((es.getD 0 (0,0)).2=10)
def IsC (w:World) (c g:Nat) (b:Value) (u x:Int) (es:List (Int × Int)):Prop:=
 c≠g∧Blk w c 51 #[vP g 0,b,vI x]∧IsLx w g u x es∧(oldB es=true→IsR (some g) w b pubS 41317 10)∧(oldB es=false→b = .pointer none)
theorem KeepT.mono {Ts Ts':List TypeId} {ex:Option Nat} {w w':World} (h:KeepT Ts ex w w') (hT:∀ T,Ts'.contains T=true→Ts.contains T=true):KeepT Ts' ex w w':=fun b cur T fz h1 h2 h3=>h b cur T fz h1 (hT T h2) h3
theorem cT_le:∀ T,leT.contains T=true→cT.contains T=true:=by
  intro T h
  simp only [leT,cT,List.contains_cons,Bool.or_eq_true] at *
  rcases h with h | h | h | h
  · exact .inl h
  · exact .inr (.inl h)
  · exact .inr (.inr (.inl h))
  · cases h
theorem cT_r:∀ T,([100,104]:List TypeId).contains T=true→cT.contains T=true:=by
  intro T h
  simp only [cT,List.contains_cons,Bool.or_eq_true] at *
  rcases h with h | h | h
  · exact .inr (.inr (.inr (.inr (.inl h))))
  · exact .inr (.inr (.inr (.inr (.inr (.inl h)))))
  · cases h
theorem KeepT.ofGrown {Ts:List TypeId} {g:Nat} {w w':World} (h:w.grownBy w' (some g)):KeepT Ts (some g) w w':=fun b cur T fz h1 _ h3=>h.block b (lt_of_some h1) (fun e=>h3 e.symm)
section
variable {w w':World} {c g:Nat} {b:Value} {u x:Int} {es:List (Int × Int)}
theorem IsC.keepT (h:IsC w c g b u x es) (hg:w'.heap[g]? = w.heap[g]?) (hk:KeepT cT (some g) w w'):IsC w' c g b u x es:=by
 obtain ⟨h1,h2,h3,h4,h5⟩:=h
 unfold Blk at h2
 refine ⟨h1,?_,h3.keepT hg (hk.mono cT_le),fun ho=>(h4 ho).keep (hk.mono cT_r),h5⟩
 unfold Blk
 rw [hk c _ _ _ h2 rfl (fun e=>h1 (Option.some.inj e).symm)]
 exact h2
theorem IsC.grown (h:IsC w c g b u x es) (hL:IsLx w' g u x es) (hg:w.grownBy w' (some g)):IsC w' c g b u x es:=by
 obtain ⟨h1,h2,h3,h4,h5⟩:=h
 exact ⟨h1,h2.grown hg (fun e=>h1 (Option.some.inj e)),hL,fun ho=>(h4 ho).keep (KeepT.ofGrown hg),h5⟩
theorem IsC.lx (h:IsC w c g b u x es):IsLx w g u x es:=h.2.2.1
theorem IsC.ok (h:IsC w c g b u x es):okT u x es=true:=h.2.2.1.ok
theorem IsC.lt (h:IsC w c g b u x es):g < w.heap.size:=h.2.2.1.lt
theorem IsC.r (h:IsC w c g b u x es) (ho:oldB es=true):IsR (some g) w b pubS 41317 10:=h.2.2.2.1 ho
theorem IsC.nil (h:IsC w c g b u x es) (ho:oldB es=false):b = .pointer none:=h.2.2.2.2 ho
theorem IsC.bform (h:IsC w c g b u x es) (ho:oldB es=true):b=vP (ptrB b) 0:=(h.r ho).form
theorem IsC.cell0 (h:IsC w c g b u x es):w.cell? ⟨c,0,none⟩=some (vP g 0):=h.2.1.cell 0
theorem IsC.cell1 (h:IsC w c g b u x es):w.cell? ⟨c,1,none⟩=some b:=h.2.1.cell 1
theorem St.startC (w:World) (h:IsC w c g b u x es):St w (some g) (some g) w (mem []) (fun _=>True) (fun w=>IsC w c g b u x es):=
 ⟨⟨rfl,rfl,rfl,Nat.le_refl _,fun _ _ _=>rfl⟩,fun m m' e e' h=>(by simp [mem] at h),fun m e h=>(by simp [mem] at h),fun k hk=>(by obtain rfl:=Option.some.inj hk;exact ⟨h.lt,fun m e hm=>by simp [mem] at hm,.inr rfl⟩),fun _ _=>trivial,fun w' ha=>h.keepT (ha.2 g h.lt (fun m e hm=>by simp [mem] at hm) (by simp)) (fun b cur T fz hb _ _=>ha.2 b (lt_of_some hb) (fun m e hm=>by simp [mem] at hm) (by simp))⟩
def ClkC (P:Program) (f:FuncId) (vs:List Value) (w:World) (c g:Nat) (b:Value) (u x:Int) (es:List (Int × Int)) (v:Value):Prop:=Calls P f vs.toArray w fun e w'=>e = .returned v∧IsC w' c g b u x es∧w.grownBy w' (some g)
theorem LeapC.clk {P:Program} {f:FuncId} {vs:List Value} {v:Value} (hC:IsC w c g b u x es) (h:LeapC P f vs w g u x es v):ClkC P f vs w c g b u x es v:=
 h.mono (fun e w' h=>⟨h.1,hC.grown h.2.1 h.2.2,h.2.2⟩)
theorem ClkC.eq {P:Program} {f:FuncId} {vs:List Value} {v v':Value} (h:ClkC P f vs w c g b u x es v) (e:v=v'):ClkC P f vs w c g b u x es v':=e▸h
end
section
variable {R:Reg} {Q:Exit→Act→World→Prop} {i:Nat} {o:Oper} {P:Program}
theorem s_clk {V:Env→Value} {f:FuncId} {fn:Func} {ps:Array Operand} {ts:Array TypeId} (hfn:P.funcs[f]? = some fn) {c g:Nat} {b:Value} {u x:Int} {es:List (Int × Int)} (hΘ:∀ w,R.Θ w→IsC w c g b u x es) (hΘ':∀ w,IsC w c g b u x es→R.Θ w) (ho:R.ops[i]? = some o:=by rfl) (hf:free' R i=true:=by rfl) (hop:o.op = .call { callee:=.value (.func f),args:=ps,argTypes:=ts }:=by rfl) (hname:(fn.name == "runtime.NumGoroutine")=false:=by kernel_rfl) (hb:fn.body.isSome=true:=by rfl) (hV:R.v? i=some V:=by rfl)
    (hw:∀ D env a w,At R i D env a w→Region.wanted o (yielded R.ops a.tmps)=true:=by intro D env a w hA;first | exact wanted_none rfl _ | exact hA.gy rfl rfl rfl) (hx:R.ex=some g:=by rfl) (hth:R.th=none:=by rfl) (hT:tFree cT R=true:=by rfl) (hn:noF R i=true:=by rfl) (hr:∀ env x,V (restr (R.cl.getD i []) (upd env i x))=V env:=by intros;rfl)
    (h:∀ D env a w,At R i D env a w→IsC w c g b u x es→∃ vs:List Value,ClkC P f vs w c g b u x es (V env)∧ps.toList.map (opAt R i env)=vs.map some):SR P Q R i:=
  s_callx ho hf hop hfn hname hb (fun {D env a w} hA=>by
    have hL:IsC w c g b u x es:=hΘ w (by have:=hA.j.st.nowT;unfold Reg.tht at this;rw [hth] at this;exact this)
    obtain ⟨vs,h1,h2⟩:=h D env a w hA hL
    refine ⟨hw _ _ _ _ hA,vs.toArray,hA.args h2,h1.mono ?_⟩
    rintro e w' ⟨rfl,hL',hg⟩
    refine ⟨_,rfl,?_,fun w'' _=>f_val hA.ok ho hV hn hr _ w''⟩
    refine hA.j.st.callg hx hg (fun w'' ha=>?_)
    have hst':=hA.j.st.callg hx hg (Θ':=fun _=>True) (fun _ _=>trivial)
    unfold Reg.tht
    rw [hth]
    refine hΘ' w'' (hL'.keepT ?_ ?_)
    · obtain ⟨k1,k2,_⟩:=hst'.exb g hx
      exact ha.2 g k1 (fun m e hm=>k2 m e hm) (by simp)
    · have:=apart_keepT (Ts:=cT) hT hst' (.inr rfl) ha
      rw [hx] at this
      exact this)
end
def NewC (w:World) (v:Value) (g:Nat) (b:Value) (u x:Int) (es:List (Int × Int)) (B:Nat):Prop:=v = .tuple #[vP (ptrB (tp v 0)) 0,vI 0]∧IsC w (ptrB (tp v 0)) g b u x es∧B≤g
def NewCx (w:World) (v:Value) (u x:Int) (es:List (Int × Int)) (B:Nat):Prop:=∃ g b,NewC w v g b u x es B
theorem NewCx.form {w:World} {v:Value} {u x:Int} {es:List (Int × Int)} {B:Nat} (h:NewCx w v u x es B):v=newLF v:=by obtain ⟨g,b,h,_⟩:=h;exact h
theorem NewCx.keep {w w':World} {v:Value} {u x:Int} {es:List (Int × Int)} {B:Nat} (h:NewCx w v u x es B) (hk:KeepT cT none w w'):NewCx w' v u x es B:=by
 obtain ⟨g,b,h1,h2,h3⟩:=h
 refine ⟨g,b,h1,h2.keepT ?_ (fun b cur T fz hb hT _=>hk b cur T fz hb hT (by simp)),h3⟩
 obtain ⟨q,_,ge,d,mv,_,hb,_⟩:=h2.lx
 unfold Blk at hb
 exact hk _ _ _ _ hb rfl (by simp)
theorem Cur.exInC {n:Nat} {w0:World} {Θ:World→Prop} {L:Slots} {M:List Ent} {a:Act} {w:World} {v:Value} {u x:Int} {es:List (Int × Int)} {Fs:List (World→Prop)} (h0:Cur n w0 none none (Facts Fs) Θ L M a w) (k:Nat) (hk:Fs[k]? = some (fun w=>NewCx w v u x es w0.heap.size)):∃ g b,Cur n w0 none (some g) (Facts []) (fun w=>IsC w (ptrB (tp v 0)) g b u x es) L M a w:=by
  have hN:∀ w',Apart (mem M) none w w'→∃ g b,IsC w' (ptrB (tp v 0)) g b u x es∧w0.heap.size≤g:=fun w' ha=>by
    obtain ⟨g,b,_,h2,h3⟩:=show NewCx w' v u x es w0.heap.size from (h0.st.psi w' ha).get k hk
    exact ⟨g,b,h2,h3⟩
  obtain ⟨g,b,hI,hB⟩:=hN w (Apart.refl _ _ _)
  generalize ptrB (tp v 0)=c at *
  have turn:∀ (k m:Nat) (e:Ent),M[m]? = some e→e.1=k→Apart (mem M) none w { w with heap:=w.heap.setIfInBounds k (.map #[] 0) }:=fun k m e hm he=>⟨by simp,fun j hj hM _=>by
    show (w.heap.setIfInBounds _ _)[j]? = _
    rw [Array.getElem?_setIfInBounds_ne (fun e'=>hM m e hm (by rw [he,e']))]⟩
  have gone:∀ k,k < w.heap.size→({ w with heap:=w.heap.setIfInBounds k (.map #[] 0) }:World).heap[k]? = some (.map #[] 0):=fun k hk'=>by
    show (w.heap.setIfInBounds _ _)[k]? = _
    rw [Array.getElem?_setIfInBounds_self_of_lt hk']
  have hcM:∀ (m:Nat) (e:Ent),M[m]? = some e→e.1≠c:=fun m e hm he=>by
    obtain ⟨g',b',h',_⟩:=hN _ (turn c m e hm he)
    have hb:=h'.2.1
    unfold Blk at hb
    rw [gone c hI.2.1.lt] at hb
    cases hb
  have hall:∀ w',Apart (mem M) none w w'→IsC w' c g b u x es:=fun w' ha=>by
    obtain ⟨g',b',h',_⟩:=hN w' ha
    have e1:=h'.2.1
    have e2:=hI.2.1
    unfold Blk at e1 e2
    rw [ha.2 c hI.2.1.lt (fun m e hm=>hcM m e hm) (by simp),e2] at e1
    simp at e1
    obtain ⟨rfl,rfl⟩:=e1
    exact h'
  have hgM:∀ (m:Nat) (e:Ent),M[m]? = some e→e.1≠g:=fun m e hm he=>by
    obtain ⟨q,_,ge,d,mv,_,hb,_⟩:=(hall _ (turn g m e hm he)).lx
    unfold Blk at hb
    rw [gone g hI.lt] at hb
    cases hb
  exact ⟨g,b,h0.sz,h0.df,⟨h0.st.gr,h0.st.nod,h0.st.own,fun g' hg'=>by obtain rfl:=Option.some.inj hg';exact ⟨hI.lt,hgM,.inl hB⟩,fun _ _ φ hφ=>(by cases hφ),hall⟩,h0.sl⟩
end Go.Proofs.YtcdchnlefmnbjaaGreat
namespace Go.Proofs.YtcdchnlefmnbjaaGreat
open Go.RowKit
def useR (es:List (Int × Int)) (d:Int):Bool:=oldB es && decide (d < 41317)
def ctE (es:List (Int × Int)) (d s a:Int):Int:=if useR es d=true then taiE pubS 41317 10 d s a else whyU es d s a
def ctV (es:List (Int × Int)) (d s a:Int):Int:=if useR es d=true then taiV pubS 41317 10 d s a else taiU es d s a
def overB (x d s:Int):Bool:=decide (x≤(d-15020)*86400+s)
def expB (x:Int) (lax:Bool) (d s:Int):Bool:=!lax && overB x d s
def tE (es:List (Int × Int)) (x:Int) (lax:Bool) (d s a:Int):Int:=if ctE es d s a=0 then (if expB x lax d s=true then 9 else 0) else ctE es d s a
def tV (es:List (Int × Int)) (x:Int) (lax:Bool) (d s a:Int):Int:=if tE es x lax d s a=0 then ctV es d s a else 0
def useL (es:List (Int × Int)) (z:Int):Bool:=oldB es && decide ((labUt es z).1=8)
def clb (es:List (Int × Int)) (z:Int):Int × Int × Int × Int:=if useL es z=true then (labE pubS 41317 10 z,labD pubS 41317 10 z,labS pubS 41317 10 z,labA pubS 41317 10 z) else labUt es z
def lbl4 (es:List (Int × Int)) (x:Int) (lax:Bool) (z:Int):Int × Int × Int × Int:=if (clb es z).1=0 then (if expB x lax (clb es z).2.1 (clb es z).2.2.1=true then (9,0,0,0) else clb es z) else ((clb es z).1,0,0,0)
theorem oldB_iff {es:List (Int × Int)}:oldB es=true↔day0 es=41317∧(es.getD 0 (0,0)).2=10:=by unfold oldB;simp
theorem useR_iff {es:List (Int × Int)} {d:Int}:useR es d=true↔oldB es=true∧d < 41317:=by unfold useR;simp
theorem useL_iff {es:List (Int × Int)} {z:Int}:useL es z=true↔oldB es=true∧(labUt es z).1=8:=by unfold useL;simp
theorem tai_lt_end {l:List Sg} {day off:Int} (h:MOk l day off) {d s a:Int} (he:taiE l day off d s a=0):taiV l day off d s a < jn day off 0:=by
  obtain ⟨hs,ha,hk,h1,h2,h3,h4,h5⟩:=tai_ok h he
  have n0:=h.n0
  have hl:endS l day off (l.length-1)=jn day off 0:=by unfold endS;rw [if_neg (by omega)]
  rw [h5]
  by_cases hk1:kS l d l.length=l.length-1
  · rw [hk1] at h4 ⊢;omega
  · have e1:=h.end_le (i:=kS l d l.length) (j:=l.length-1) (by omega) (by omega)
    have e2:=h.beg_end (i:=l.length-1) (by omega)
    omega
theorem tai_day {l:List Sg} {day off:Int} (h:MOk l day off) {d s a:Int} (he:taiE l day off d s a=0):d < day:=by
 obtain ⟨hs,ha,hk,h1,h2,h3,h4,h5⟩:=tai_ok h he
 have:=h.toLOk.unt_day hk
 omega
section
variable {es:List (Int × Int)} (hp:okPre es es.length=true) (hn:0 < es.length)
include hp hn
theorem clk_back {d s a:Int} (he:ctE es d s a=0):InW (ctV es d s a)∧clb es (ctV es d s a)=(0,d,s,a):=by
  unfold ctE at he
  unfold ctV
  by_cases hu:useR es d=true
  · rw [if_pos hu] at he ⊢
    obtain ⟨ho,hd⟩:=useR_iff.1 hu
    obtain ⟨o1,o2⟩:=oldB_iff.1 ho
    have hlt:=tai_lt_end pub_ok he
    have hearly:labUt es (taiV pubS 41317 10 d s a)=(8,0,0,0):=rl_early hp hn (by
      have:startOf (es.getD 0 (0,0))=41317*86400+10:=by unfold startOf;unfold day0 at o1;rw [o1,o2]
      rw [this];unfold jn at *;omega)
    refine ⟨taiV_in pub_ok d s a,?_⟩
    obtain ⟨q1,q2,q3,q4⟩:=tai_lab pub_ok he
    unfold clb
    rw [if_pos (useL_iff.2 ⟨ho,by rw [hearly]⟩),q1,q2,q3,q4]
  · rw [if_neg hu] at he ⊢
    obtain ⟨h1,h2⟩:=utc_back hp hn he
    refine ⟨h1,?_⟩
    unfold clb
    rw [if_neg (fun h=>by have:=(useL_iff.1 h).2;rw [h2] at this;cases this),h2]
theorem clk_forth {z:Int} (he:(clb es z).1=0):ctE es (clb es z).2.1 (clb es z).2.2.1 (clb es z).2.2.2=0∧(ctV es (clb es z).2.1 (clb es z).2.2.1 (clb es z).2.2.2=z∨oldB es=true∧(clb es z).2.1 < 41317∧ctV es (clb es z).2.1 (clb es z).2.2.1 (clb es z).2.2.2=z-1):=by
  have _:=hn
  unfold clb at *
  by_cases hu:useL es z=true
  · rw [if_pos hu] at he ⊢
    obtain ⟨ho,h8⟩:=useL_iff.1 hu
    obtain ⟨q1,q2⟩:=lab_tai pub_ok he
    have hd:=tai_day pub_ok q1
    have hr:useR es (labD pubS 41317 10 z)=true:=useR_iff.2 ⟨ho,hd⟩
    unfold ctE ctV
    simp only [hr,if_true]
    refine ⟨q1,?_⟩
    rcases q2 with q2 | q2
    · exact .inl q2
    · exact .inr ⟨ho,hd,q2⟩
  · rw [if_neg hu] at he ⊢
    obtain ⟨h1,h2⟩:=utc_forth hp he
    obtain ⟨_,_,_,_,_,_,h3,_⟩:=whyU_ok h1
    have hr:¬ useR es (labUt es z).2.1=true:=fun h=>by
      obtain ⟨ho,hd⟩:=useR_iff.1 h
      have:=(oldB_iff.1 ho).1
      omega
    unfold ctE ctV
    rw [if_neg hr,if_neg hr]
    exact ⟨h1,.inl h2⟩
theorem ctV_in (d s a:Int):InW (ctV es d s a):=by
  by_cases he:ctE es d s a=0
  · exact (clk_back hp hn he).1
  · unfold ctE at he
    unfold ctV
    split
    · exact taiV_in pub_ok d s a
    · rename_i hu
      rw [if_neg hu] at he
      unfold taiU
      rw [if_neg he];unfold InW;omega
end
theorem ctE_bd {es:List (Int × Int)} {d s a:Int} (he:ctE es d s a=0):0≤s∧s≤86400∧0≤a∧a < 1000000000000000000 ∧ -1099511627776≤d∧d≤1099511627776:=by
  unfold ctE at he
  by_cases hu:useR es d=true
  · rw [if_pos hu] at he
    obtain ⟨hs,ha,hk,h1,h2,_⟩:=tai_ok pub_ok he
    have:=pub_ok.toLOk.unt_day hk
    have:=(pub_ok.seg _ hk).d0
    omega
  · rw [if_neg hu] at he
    have:=whyU_ok he
    omega
theorem tE_ct {es:List (Int × Int)} {x d s a:Int} {lax:Bool} (h:tE es x lax d s a=0):ctE es d s a=0:=by
  unfold tE at h
  split at h
  · assumption
  · exact h
theorem tV_in {es:List (Int × Int)} (hp:okPre es es.length=true) (hn:0 < es.length) (x:Int) (lax:Bool) (d s a:Int):InW (tV es x lax d s a):=by
  unfold tV
  split
  · exact ctV_in hp hn d s a
  · unfold InW;omega
end Go.Proofs.YtcdchnlefmnbjaaGreat
namespace Go.Proofs.YtcdchnlefmnbjaaGreat
open Go.RowKit
theorem IsC.cellR {w:World} {c g:Nat} {b:Value} {u x:Int} {es:List (Int × Int)} (h:IsC w c g b u x es) (ho:oldB es=true):w.cell? ⟨c,1,none⟩=some (vP (ptrB b) 0):=h.cell1.trans (congrArg some (h.bform ho))
theorem IsC.pre {w:World} {c g:Nat} {b:Value} {u x:Int} {es:List (Int × Int)} (h:IsC w c g b u x es):okPre es es.length=true∧0 < es.length∧es.length≤64:=okT_pre h.ok
section
variable {w:World} {c g:Nat} {b:Value} {u x:Int} {es:List (Int × Int)} (h:IsC w c g b u x es)
include h
theorem cleaps_any:Calls Tryz.prog 77 #[vP c 0] w fun e w'=>e = .returned (vP g 0)∧Below w.heap.size w w':=by
 have c0:=h.cell0
 clear h
 go_enter Tryz.func77,Tryz.ntmps77
 go_wp2
 go_ret
 exact ⟨rfl,Below.refl _ _⟩
theorem cold_any:Calls Tryz.prog 74 #[vP c 0] w fun e w'=>e = .returned (.bool (oldB es))∧Below w.heap.size w w':=by
  have c1:=h.cell1
  cases ho:oldB es
  · obtain rfl:=h.nil ho
    clear h
    go_enter Tryz.func74,Tryz.ntmps74
    go_wp2
    go_ret
    exact ⟨rfl,Below.refl _ _⟩
  · have hb:=h.bform ho
    generalize ptrB b=k at hb
    subst hb
    clear h
    go_enter Tryz.func74,Tryz.ntmps74
    go_wp2
    go_ret
    exact ⟨rfl,Below.refl _ _⟩
end
theorem Cur.off {n:Nat} {w0:World} {row ex:Option Nat} {Ψ Θ:World→Prop} {L:Slots} {M:List Ent} {a:Act} {w:World} (h:Cur n w0 row ex Ψ Θ L M a w):Cur n w0 row none Ψ (fun _=>True) L M a w:=
 ⟨h.sz,h.df,⟨h.st.gr,h.st.nod,h.st.own,fun _ hg=>(by cases hg),fun w' ha=>h.st.psi w' ⟨ha.1,fun k hk hM _=>ha.2 k hk hM (by simp)⟩,fun _ _=>trivial⟩,h.sl⟩
def TaiG (g:Nat) (w:World) (v:Value) (z e:Int):Prop:=v = .tuple #[tp v 0,vI e]∧BigX (some g) w (tp v 0) z
theorem TaiG.form {g:Nat} {w:World} {v:Value} {z e:Int} (h:TaiG g w v z e):v=taiF z e v:=by
 unfold taiF
 rw [← h.2.form]
 exact h.1
theorem TaiG.keep {g:Nat} {w w':World} {v:Value} {z e:Int} (h:TaiG g w v z e) (hk:Keep (some g) w w'):TaiG g w' v z e:=⟨h.1,h.2.keep hk⟩
theorem Facts.tN {L:List (World→Prop)} {w:World} {B:Nat} {v:Value} {z e:Int} (h:Facts L w) (k:Nat) (hk:L[k]? = some (fun w=>TaiX B w v z e)):RowN B w (.slice (bA (tp v 0)) (digs z).length (bC (tp v 0))) (digs z):=BigN.row (show TaiX B w v z e from h.get k hk).2
def SegG (ex:Option Nat) (w:World) (v:Value) (l:List Sg):Prop:=SegT w v l∧∀ k,ex=some k→v.ownBlock≠some k
theorem SegG.form {ex:Option Nat} {w:World} {v:Value} {l:List Sg} (h:SegG ex w v l):v=segF l v:=h.1.form
theorem SegG.keep {ex:Option Nat} {w w':World} {v:Value} {l:List Sg} (h:SegG ex w v l) (hk:KeepT [102] ex w w'):SegG ex w' v l:=⟨h.1.keep (Ts:=[102]) rfl hk h.2,h.2⟩
theorem SegG.u {ex:Option Nat} {w:World} {v:Value} {l:List Sg} (h:SegG ex w v l):SegU w (.slice (sA v) l.length (sC v)) l:=h.1.u.re
theorem Facts.segG {L:List (World→Prop)} {w:World} {ex:Option Nat} {v:Value} {l:List Sg} (h:Facts L w) (k:Nat) (hk:L[k]? = some (fun w=>SegG ex w v l)):SegU w (.slice (sA v) l.length (sC v)) l:=(show SegG ex w v l from h.get k hk).u
theorem At.segG {R:Reg} {i:Nat} {D:Nat→Bool} {env:Env} {a:Act} {w:World} (h:At R i D env a w) (j:Nat) {ex:Option Nat} {l:List Sg} (hj:((R.cl.getD i []).contains j && !(j == i))=true) (hs:((R.cl.getD j []).contains j)=true) (hF:R.F.filter (fun p=>Nat.beq p.1 j)=[(j,fun env w=>SegG ex w (env j) l)]):SegU w (.slice (sA (env j)) l.length (sC (env j))) l:=(h.fact j (φ:=fun v w=>SegG ex w v l) hj hs hF).u
theorem segments_g {g:Nat} {w:World} (hg:g < w.heap.size):Calls Tryz.prog 15 #[] w fun e w'=>∃ v,e = .returned v∧Below w.heap.size w w'∧SegG (some g) w' v pubS:=by
 refine (segments_any w).mono ?_
 rintro e w' ⟨v,rfl,hb,h1,h2⟩
 refine ⟨v,rfl,hb,h1,fun k hk hb'=>?_⟩
 obtain rfl:=Option.some.inj hk
 have:=h2 _ hb'
 omega
theorem clk_first {w:World} {g:Nat} {u x:Int} {es:List (Int × Int)} (h:IsLx w g u x es):LeapC Tryz.prog 13 [vP g 0] w g u x es (vI (day0 es)):=by
 obtain ⟨q,h⟩:=h
 exact (first_any g u x q es w h).mono (fun e w' h=>⟨h.1,⟨_,h.2.1⟩,h.2.2⟩)
end Go.Proofs.YtcdchnlefmnbjaaGreat
namespace Go.Proofs.YtcdchnlefmnbjaaGreat
open Go.RowKit
attribute [local go_sem] vN bT bF rS vW vM vL vT2 vT3 vP vI execOp Act.eval evC bigF vB hi_zero lo_zero Tryz.underlying26 Tryz.underlying29 Tryz.underlying51
theorem ct_rub {es:List (Int × Int)} {d s a:Int} (ho:oldB es=true) (hd:d < 41317):ctV es d s a=taiV pubS 41317 10 d s a∧ctE es d s a=taiE pubS 41317 10 d s a:=by
 have hu:=useR_iff.2 ⟨ho,hd⟩
 unfold ctV ctE
 rw [if_pos hu,if_pos hu]
 exact ⟨rfl,rfl⟩
theorem ct_utc {es:List (Int × Int)} {d s a:Int} (h:oldB es=false∨¬ d < 41317):ctV es d s a=taiU es d s a∧ctE es d s a=whyU es d s a:=by
  have hu:¬ useR es d=true:=fun hu=>by
    obtain ⟨h1,h2⟩:=useR_iff.1 hu
    rcases h with h | h
    · rw [h1] at h;cases h
    · exact h h2
  unfold ctV ctE
  rw [if_neg hu,if_neg hu]
  exact ⟨rfl,rfl⟩
theorem clb_rub {es:List (Int × Int)} {z:Int} (ho:oldB es=true) (h8:(labUt es z).1=8):clb es z=(labE pubS 41317 10 z,labD pubS 41317 10 z,labS pubS 41317 10 z,labA pubS 41317 10 z):=by
 unfold clb
 rw [if_pos (useL_iff.2 ⟨ho,h8⟩)]
theorem clb_utc {es:List (Int × Int)} {z:Int} (h:oldB es=false∨¬ (labUt es z).1=8):clb es z=labUt es z:=by
  unfold clb
  rw [if_neg]
  intro hu
  obtain ⟨h1,h2⟩:=useL_iff.1 hu
  rcases h with h | h
  · rw [h1] at h;cases h
  · exact h h2
theorem fit_tup_no {z:Int} (h:¬ InW z):vT2 (vW (fitV z)) (vI (fitE z))=vT2 (vW 0) (vI 2):=by rw [(fit_no h).1,(fit_no h).2]
theorem IsR.re {ex:Option Nat} {w:World} {v:Value} {l:List Sg} {day off:Int} (h:IsR ex w v l day off):IsR ex w (vP (ptrB v) 0) l day off:=by
 have e:=h.form
 rw [← e]
 exact h
theorem IsC.bdL {w:World} {c g:Nat} {b:Value} {u x:Int} {es:List (Int × Int)} (h:IsC w c g b u x es) {z:Int} (he:(clb es z).1=0):0≤(clb es z).2.2.1∧(clb es z).2.2.1≤86400∧0≤(clb es z).2.2.2∧(clb es z).2.2.2 < 1000000000000000000 ∧ -1099511627776≤(clb es z).2.1∧(clb es z).2.1≤1099511627776:=by
 obtain ⟨hp,hn,_⟩:=h.pre
 exact ctE_bd (clk_forth hp hn he).1
theorem cover_w (w0:World) (c g:Nat) (b:Value) (u x:Int) (es:List (Int × Int)) (hC:IsC w0 c g b u x es) (d s a:Int) (q4:-1099511627776≤d) (q5:d≤1099511627776) (q0:0≤s) (q1:s≤86400):Calls Tryz.prog 40 #[vP c 0,vL d s a] w0 fun e w'=>e = .returned (.bool (overB x d s))∧Below w0.heap.size w0 w':=by
 have hst:=St.start w0 (Θ:=fun _=>True) (fun _ _=>trivial)
 refine en_ Tryz.func40 hst 17 [(0,vP c 0),(1,vL d s a)] (fun ac H_=>?_)
 refine gq H_ 1 [[0],[1]] [_,_] (fun E1=>[(3,vP (pb E1 0) 0)]) (W:=[{ i:=0,T:=26,c0:=[vI d,vI s,vI a] }]) (s:=⟨bx3 0,mv3⟩) (k:=fun E1 ac wd H_=>?_)
 refine gq1 H_ 12 (tri 4++[[4],[4,5],r_ 7,[7],[7,8],[7,8,9],[7,8,9,10],r_ 12,r_ 13]) [_,_,vI (d-15020),vI ((d-15020)*86400),_,_,vI (((d-15020)*86400)+s),_,_,_,vI x,K_ (.bool (decide (x≤((d-15020)*86400)+s))),_] (fun _=>[(4,.bool (decide (x≤((d-15020)*86400)+s)))]) (s:=⟨fa3 0,ld31 0 sh3,bi3,bi3,fa3 1,ld31 0 sh3,bi3,mv3,nc3,fa3 2,by refine s_v rfl rfl rfl rfl (fun {D env ac wd} hA=>?_);have e14:ac.tmps[14]? = some (vP c 2):=hA.g rfl;have hcx:wd.cell? ⟨c,2,none⟩=some (vI x):=(Blk.grown hC.2.1 hA.j.st.gr (by simp)).cell 2;simp [go_sem,e14,hcx],bi3,mv3⟩) (k:=fun E2 ac wd H_=>?_)
 refine lvT3 Tryz.results40 H_ ?_
 exact ⟨rfl,H_.st.below⟩
theorem cover_any {w:World} {c g:Nat} {b:Value} {u x:Int} {es:List (Int × Int)} (hC:IsC w c g b u x es) (d s a:Int) (q4:-1099511627776≤d) (q5:d≤1099511627776) (q0:0≤s) (q1:s≤86400):Calls Tryz.prog 40 #[vP c 0,vL d s a] w fun e w'=>e = .returned (.bool (overB x d s))∧Below w.heap.size w w':=cover_w w c g b u x es hC d s a q4 q5 q0 q1
theorem ctai_c (w0:World) (c g:Nat) (b:Value) (u x:Int) (es:List (Int × Int)) (hC:IsC w0 c g b u x es) (d s a:Int) (hd0:-9223372036854775808≤d) (hd1:d < 9223372036854775808):ClkC Tryz.prog 39 [vP c 0,vL d s a] w0 c g b u x es (vT2 (vW (ctV es d s a)) (vI (ctE es d s a))):=by
 unfold ClkC
 have hst:=St.startC w0 hC
 refine en_ Tryz.func39 hst 27 [(0,vP c 0),(1,vL d s a)] (fun ac H_=>?_)
 refine gq H_ 2 [[0],[1],[2]] [_,_,_] (fun E1=>[(3,vP (pb E1 0) 0),(4,vP (pb E1 1) 0)]) (W:=[{ i:=0,T:=26,c0:=[vI d,vI s,vI a] },{ i:=1,T:=29,c0:=[vI 0,.int .u64 0] }]) (s:=⟨bx3 0,al_ 1,mv3⟩) (k:=fun E1 ac wd H_=>?_)
 cases ho:oldB es
 refine gq1 H_ 6 (tri 7) [_,_,_,_,_,_,bF] (fun _=>[(12,bF)]) (s:=⟨mv3,cw3 Tryz.func74 fun wd hA=>(u_res_eq (cold_any (hA.thO rfl)) (congrArg Value.bool ho)),mv3,off_,off_,off_,pk3⟩) (k:=fun E2 ac wd H_=>?_)
 refine cF3 H_ ?_
 refine gq H_ 7 [[0],[0,1],[2],r_ 4,r_ 5,[0,1,2,3,5],r_ 7,r_ 8] [_,_,_,vT2 (vW (taiU es d s a)) (vI (whyU es d s a)),_,_,none,_] (fun _=>[(5,vI (whyU es d s a))]) (S:=[⟨1,6,fun _=>[vI (hi (taiU es d s a)),.int .u64 (lo (taiU es d s a))]⟩]) (s:=⟨mv3,cw3 Tryz.func77 fun wd hA=>(cleaps_any (hA.thO rfl)),ld3c 0 sh26,s_clk (c:=c) (g:=g) (b:=b) (u:=u) (x:=x) (es:=es) Tryz.func76 (fun _ h=>h) (fun _ h=>h) (h:=fun D env ac wd hA hC=>⟨_,LeapC.clk hC (utai_l _ g u x es (IsC.lx hC) d s a),rfl⟩),xt3,xt3,se3 1 sh29,mv3⟩) (k:=fun E3 ac wd H_=>?_)
 refine lvCT3 (v:=vW (taiU es d s a)) Tryz.results39 H_ 1 (loadGc sh29 rfl ⟨rfl,rfl,trivial⟩) ?_
 obtain ⟨e1,e2⟩:ctV es d s a=taiU es d s a∧ctE es d s a=whyU es d s a:=ct_utc (.inl ho)
 exact ⟨by rw [e1,e2],H_.st.nowT,H_.st.gr⟩
 by_cases hd:d < 41317
 refine gq1 H_ 6 (tri 7) [_,_,_,_,_,bT,bT] (fun _=>[(12,bT)]) (s:=⟨mv3,cw3 Tryz.func74 fun wd hA=>(u_res_eq (cold_any (hA.thO rfl)) (congrArg Value.bool ho)),mv3,fa3 0,ld31 0 sh3,bi3 (h:=by intro env w;simp [go_sem,hd]),pk3 (h:=by intro env w;simp [go_sem,hd])⟩) (k:=fun E2 ac wd H_=>?_)
 refine cT3 H_ ?_
 refine gq H_ 9 (tri 4++[[4],r_ 6,r_ 7,r_ 6++[7],r_ 9,r_ 10]) [_,_,_,vP (ptrB b) 0,_,_,_,_,none,_] (fun _=>[(5,vI (taiE pubS 41317 10 d s a))]) (S:=[⟨1,8,fun _=>[vI (hi (taiV pubS 41317 10 d s a)),.int .u64 (lo (taiV pubS 41317 10 d s a))]⟩]) (s:=⟨mv3,nc3,fa3 1,by refine s_v rfl rfl rfl rfl (fun {D env ac wd} hA=>?_);have e15:ac.tmps[15]? = some (vP c 1):=hA.g rfl;have hcr:=IsC.cellR (hA.thO rfl) ho;simp [go_sem,e15,hcr],ld3c 0 sh26,cw3 Tryz.func75 fun wd hA=>(tai_X (IsC.r (hA.thO rfl) ho) pub_ok.toLOk d s a hd0 hd1),xt3,xt3,se3 1 sh29,mv3⟩) (k:=fun E3 ac wd H_=>?_)
 refine lvCT3 (v:=vW (taiV pubS 41317 10 d s a)) Tryz.results39 H_ 1 (loadGc sh29 rfl ⟨rfl,rfl,trivial⟩) ?_
 obtain ⟨e1,e2⟩:ctV es d s a=taiV pubS 41317 10 d s a∧ctE es d s a=taiE pubS 41317 10 d s a:=ct_rub ho hd
 exact ⟨by rw [e1,e2],H_.st.nowT,H_.st.gr⟩
 refine gq1 H_ 6 (tri 7) [_,_,_,_,_,bF,bF] (fun _=>[(12,bF)]) (s:=⟨mv3,cw3 Tryz.func74 fun wd hA=>(u_res_eq (cold_any (hA.thO rfl)) (congrArg Value.bool ho)),mv3,fa3 0,ld31 0 sh3,bi3 (h:=by intro env w;simp [go_sem,hd]),pk3 (h:=by intro env w;simp [go_sem,hd])⟩) (k:=fun E2 ac wd H_=>?_)
 refine cF3 H_ ?_
 refine gq H_ 7 [[0],[0,1],[2],r_ 4,r_ 5,[0,1,2,3,5],r_ 7,r_ 8] [_,_,_,vT2 (vW (taiU es d s a)) (vI (whyU es d s a)),_,_,none,_] (fun _=>[(5,vI (whyU es d s a))]) (S:=[⟨1,6,fun _=>[vI (hi (taiU es d s a)),.int .u64 (lo (taiU es d s a))]⟩]) (s:=⟨mv3,cw3 Tryz.func77 fun wd hA=>(cleaps_any (hA.thO rfl)),ld3c 0 sh26,s_clk (c:=c) (g:=g) (b:=b) (u:=u) (x:=x) (es:=es) Tryz.func76 (fun _ h=>h) (fun _ h=>h) (h:=fun D env ac wd hA hC=>⟨_,LeapC.clk hC (utai_l _ g u x es (IsC.lx hC) d s a),rfl⟩),xt3,xt3,se3 1 sh29,mv3⟩) (k:=fun E3 ac wd H_=>?_)
 refine lvCT3 (v:=vW (taiU es d s a)) Tryz.results39 H_ 1 (loadGc sh29 rfl ⟨rfl,rfl,trivial⟩) ?_
 obtain ⟨e1,e2⟩:ctV es d s a=taiU es d s a∧ctE es d s a=whyU es d s a:=ct_utc (.inr hd)
 exact ⟨by rw [e1,e2],H_.st.nowT,H_.st.gr⟩
theorem cTai_c (w0:World) (c g:Nat) (b:Value) (u x:Int) (es:List (Int × Int)) (hC:IsC w0 c g b u x es) (lax:Bool) (d s a:Int) (hd0:-9223372036854775808≤d) (hd1:d < 9223372036854775808):ClkC Tryz.prog 18 [vP c 0,vL d s a,.bool (lax)] w0 c g b u x es (vT2 (vW (tV es x lax d s a)) (vI (tE es x lax d s a))):=by
 unfold ClkC
 have hst:=St.startC w0 hC
 refine en_ Tryz.func18 hst 31 [(0,vP c 0),(1,vL d s a),(2,.bool (lax))] (fun ac H_=>?_)
 refine gq H_ 2 [[0],[1],[2]] [_,_,_] (fun E1=>[(4,vP (pb E1 0) 0),(6,vP (pb E1 1) 0)]) (W:=[{ i:=0,T:=26,c0:=[vI d,vI s,vI a] },{ i:=1,T:=29,c0:=[vI 0,.int .u64 0] }]) (s:=⟨bx3 0,al_ 1,mv3⟩) (k:=fun E1 ac wd H_=>?_)
 refine gq H_ 8 [[0],[1],[0,1,2],r_ 4,r_ 5,[0,1,2,3,5],[6],[0,1,2,3,4,6,7],r_ 9] [_,_,vT2 (vW (ctV es d s a)) (vI (ctE es d s a)),_,_,_,_,none,_] (fun E2=>[(8,vP (pb E2 6) 0),(9,vI (ctE es d s a))]) (W:=[{ i:=6,T:=29,c0:=[vI 0,.int .u64 0],s:=some 7,c1:=fun _=>[vI (hi (ctV es d s a)),.int .u64 (lo (ctV es d s a))] }]) (s:=⟨mv3,ld3c 0 sh26,s_clk (c:=c) (g:=g) (b:=b) (u:=u) (x:=x) (es:=es) Tryz.func39 (fun _ h=>h) (fun _ h=>h) (h:=fun D env ac wd hA hC=>⟨_,ctai_c _ c g b u x es hC d s a hd0 hd1,rfl⟩),mv3,xt3,xt3,al_ 2,sw3 2 6 sh29,mv3⟩) (k:=fun E2 ac wd H_=>?_)
 by_cases he:ctE es d s a=0
 obtain ⟨q0,q1,q2,q3,q4,q5⟩:=ctE_bd he
 refine gq1 H_ 2 (tri 3) [_,bF,_] (fun _=>[(16,bF)]) (s:=⟨mv3,bi3 (h:=by intro env w;simp [go_sem,he]),mv3⟩) (k:=fun E3 ac wd H_=>?_)
 refine cF3 H_ ?_
 rcases lax with _ | _
 cases hov:overB x d s
 refine gq1 H_ 7 (tri 4++[[0,1,2,4],r_ 6,r_ 7,r_ 8]) [_,bT,_,_,_,_,bF,_] (fun _=>[(21,bF)]) (s:=⟨mv3,un3,mv3,gm3,ld3c 0 sh26,cw3 Tryz.func40 fun wd hA=>(u_res_eq (cover_any (hA.thO rfl) d s a q4 q5 q0 q1) (congrArg Value.bool hov)),pk3,mv3⟩) (k:=fun E4 ac wd H_=>?_)
 refine cF3 H_ ?_
 refine gq H_ 2 (tri 3) [_,none,_] (fun _=>[(7,vI 0)]) (S:=[⟨1,1,fun _=>[vI (hi (ctV es d s a)),.int .u64 (lo (ctV es d s a))]⟩]) (s:=⟨ld3b 2 sh29,se3 1 sh29,mv3⟩) (k:=fun E5 ac wd H_=>?_)
 refine lvCT3 (v:=vW (ctV es d s a)) Tryz.results18 H_ 1 (loadGc sh29 rfl ⟨rfl,rfl,trivial⟩) ?_
 have e1:tE es x false d s a=0:=by unfold tE expB;rw [if_pos he];simp [hov]
 have e2:tV es x false d s a=ctV es d s a:=by unfold tV;rw [e1,if_pos rfl]
 exact ⟨by rw [e1,e2],H_.st.nowT,H_.st.gr⟩
 refine gq1 H_ 7 (tri 4++[[0,1,2,4],r_ 6,r_ 7,r_ 8]) [_,bT,_,_,_,_,bT,_] (fun _=>[(21,bT)]) (s:=⟨mv3,un3,mv3,gm3,ld3c 0 sh26,cw3 Tryz.func40 fun wd hA=>(u_res_eq (cover_any (hA.thO rfl) d s a q4 q5 q0 q1) (congrArg Value.bool hov)),pk3,mv3⟩) (k:=fun E4 ac wd H_=>?_)
 refine cT3 H_ ?_
 refine gq H_ 2 (tri 3) [K_ (.agg #[vI 0,.int .u64 0]),none,_] (fun _=>[(7,vI 9)]) (S:=[⟨1,1,fun _=>[vI 0,.int .u64 0]⟩]) (s:=⟨bd30,se3 1 sh29,mv3⟩) (k:=fun E5 ac wd H_=>?_)
 refine lvCT3 (v:=.agg #[vI 0,.int .u64 0]) Tryz.results18 H_ 1 (loadGc sh29 rfl ⟨rfl,rfl,trivial⟩) ?_
 have e1:tE es x false d s a=9:=by unfold tE expB;rw [if_pos he];simp [hov]
 have e2:tV es x false d s a=0:=by unfold tV;rw [e1,if_neg (by omega)]
 exact ⟨by rw [e1,e2,vW,hi_zero,lo_zero],H_.st.nowT,H_.st.gr⟩
 refine gq1 H_ 7 (tri 4++[[0,1,2,4],r_ 6,r_ 7,r_ 8]) [_,bF,_,_,_,_,bF,_] (fun _=>[(21,bF)]) (s:=⟨mv3,un3,mv3,off_,off_,off_,pk3,mv3⟩) (k:=fun E4 ac wd H_=>?_)
 refine cF3 H_ ?_
 refine gq H_ 2 (tri 3) [_,none,_] (fun _=>[(7,vI 0)]) (S:=[⟨1,1,fun _=>[vI (hi (ctV es d s a)),.int .u64 (lo (ctV es d s a))]⟩]) (s:=⟨ld3b 2 sh29,se3 1 sh29,mv3⟩) (k:=fun E5 ac wd H_=>?_)
 refine lvCT3 (v:=vW (ctV es d s a)) Tryz.results18 H_ 1 (loadGc sh29 rfl ⟨rfl,rfl,trivial⟩) ?_
 have e1:tE es x true d s a=0:=by unfold tE expB;rw [if_pos he];simp
 have e2:tV es x true d s a=ctV es d s a:=by unfold tV;rw [e1,if_pos rfl]
 exact ⟨by rw [e1,e2],H_.st.nowT,H_.st.gr⟩
 refine gq1 H_ 2 (tri 3) [_,bT,_] (fun _=>[(16,bT)]) (s:=⟨mv3,bi3 (h:=by intro env w;simp [go_sem,he]),mv3⟩) (k:=fun E3 ac wd H_=>?_)
 refine cT3 H_ ?_
 refine gq H_ 3 [[0],[1],[0,2],r_ 4] [K_ (.agg #[vI 0,.int .u64 0]),_,none,_] (fun _=>[(7,vI (ctE es d s a))]) (S:=[⟨1,2,fun _=>[vI 0,.int .u64 0]⟩]) (s:=⟨bd30,mv3,se3 1 sh29,mv3⟩) (k:=fun E4 ac wd H_=>?_)
 refine lvCT3 (v:=.agg #[vI 0,.int .u64 0]) Tryz.results18 H_ 1 (loadGc sh29 rfl ⟨rfl,rfl,trivial⟩) ?_
 have e1:tE es x lax d s a=ctE es d s a:=by unfold tE;rw [if_neg he]
 have e2:tV es x lax d s a=0:=by unfold tV;rw [e1,if_neg he]
 exact ⟨by rw [e1,e2,vW,hi_zero,lo_zero],H_.st.nowT,H_.st.gr⟩
theorem clabel_c (w0:World) (c g:Nat) (b:Value) (u x:Int) (es:List (Int × Int)) (hC:IsC w0 c g b u x es) (z:Int) (hz:InW z):ClkC Tryz.prog 44 [vP c 0,vW z] w0 c g b u x es (vT2 (vL ((clb es z).2.1) ((clb es z).2.2.1) ((clb es z).2.2.2)) (vI ((clb es z).1))):=by
 unfold ClkC
 have hst:=St.startC w0 hC
 refine en_ Tryz.func44 hst 31 [(0,vP c 0),(1,vW z)] (fun ac H_=>?_)
 refine gq H_ 2 [[0],[1],[2]] [_,_,_] (fun E1=>[(3,vP (pb E1 0) 0),(4,vP (pb E1 1) 0)]) (W:=[{ i:=0,T:=29,c0:=[vI (hi (z)),.int .u64 (lo (z))] },{ i:=1,T:=26,c0:=[vI 0,vI 0,vI 0] }]) (s:=⟨bx3 0,al_ 1,mv3⟩) (k:=fun E1 ac wd H_=>?_)
 refine gq H_ 9 [[0],[0,1],[2],r_ 4,r_ 5,r_ 6,[0,1,2,3,4,6],[7],r_ 6++[7,8],r_ 10] [_,_,_,vT2 (vL ((labUt es z).2.1) ((labUt es z).2.2.1) ((labUt es z).2.2.2)) (vI ((labUt es z).1)),_,_,_,_,none,_] (fun E2=>[(6,vP (pb E2 7) 0),(7,vI ((labUt es z).1))]) (W:=[{ i:=7,T:=26,c0:=[vI 0,vI 0,vI 0],s:=some 8,c1:=fun _=>[vI ((labUt es z).2.1),vI ((labUt es z).2.2.1),vI ((labUt es z).2.2.2)] }]) (s:=⟨mv3,cw3 Tryz.func77 fun wd hA=>(cleaps_any (hA.thO rfl)),ld3b 0 sh29,s_clk (c:=c) (g:=g) (b:=b) (u:=u) (x:=x) (es:=es) Tryz.func79 (fun _ h=>h) (fun _ h=>h) (h:=fun D env ac wd hA hC=>⟨_,LeapC.clk hC (ulabel_l _ g u x es (IsC.lx hC) z hz),rfl⟩),mv3,xt3,xt3,al_ 2,sw3 2 7 sh26,mv3⟩) (k:=fun E2 ac wd H_=>?_)
 cases ho:oldB es
 refine gq1 H_ 5 (tri 6) [_,_,_,_,_,bF] (fun _=>[(20,bF)]) (s:=⟨mv3,cw3 Tryz.func74 fun wd hA=>(u_res_eq (cold_any (hA.thO rfl)) (congrArg Value.bool ho)),mv3,off_,off_,pk3⟩) (k:=fun E3 ac wd H_=>?_)
 refine cF3 H_ ?_
 refine gq H_ 3 [[0],[1],[0,2],r_ 4] [_,_,none,_] (fun _=>[(5,vI ((labUt es z).1))]) (S:=[⟨1,2,fun _=>[vI ((labUt es z).2.1),vI ((labUt es z).2.2.1),vI ((labUt es z).2.2.2)]⟩]) (s:=⟨ld3c 2 sh26,mv3,se3 1 sh26,mv3⟩) (k:=fun E4 ac wd H_=>?_)
 refine lvCT3 (v:=vL ((labUt es z).2.1) ((labUt es z).2.2.1) ((labUt es z).2.2.2)) Tryz.results44 H_ 1 (loadGc sh26 rfl ⟨rfl,rfl,rfl,trivial⟩) ?_
 have e:clb es z=labUt es z:=clb_utc (.inl ho)
 exact ⟨by rw [e],H_.st.nowT,H_.st.gr⟩
 by_cases h8:(labUt es z).1=8
 refine gq1 H_ 5 (tri 6) [_,_,_,_,bT,bT] (fun _=>[(20,bT)]) (s:=⟨mv3,cw3 Tryz.func74 fun wd hA=>(u_res_eq (cold_any (hA.thO rfl)) (congrArg Value.bool ho)),mv3,gm3,bi3 (h:=by intro env w;simp [go_sem,h8]),pk3 (h:=by intro env w;simp [go_sem,h8])⟩) (k:=fun E3 ac wd H_=>?_)
 refine cT3 H_ ?_
 refine gq H_ 9 (tri 4++[[4],r_ 6,r_ 7,r_ 6++[7],r_ 9,r_ 10]) [_,_,_,vP (ptrB b) 0,_,_,_,_,none,_] (fun _=>[(5,vI (labE pubS 41317 10 z))]) (S:=[⟨1,8,fun _=>[vI (labD pubS 41317 10 z),vI (labS pubS 41317 10 z),vI (labA pubS 41317 10 z)]⟩]) (s:=⟨mv3,nc3,fa3 1,by refine s_v rfl rfl rfl rfl (fun {D env ac wd} hA=>?_);have e23:ac.tmps[23]? = some (vP c 1):=hA.g rfl;have hcr:=IsC.cellR (hA.thO rfl) ho;simp [go_sem,e23,hcr],ld3b 0 sh29,cw3 Tryz.func80 fun wd hA=>(label_X (IsC.r (hA.thO rfl) ho) pub_ok.toLOk z hz),xt3,xt3,se3 1 sh26,mv3⟩) (k:=fun E4 ac wd H_=>?_)
 refine lvCT3 (v:=vL (labD pubS 41317 10 z) (labS pubS 41317 10 z) (labA pubS 41317 10 z)) Tryz.results44 H_ 1 (loadGc sh26 rfl ⟨rfl,rfl,rfl,trivial⟩) ?_
 have e:clb es z=(labE pubS 41317 10 z,labD pubS 41317 10 z,labS pubS 41317 10 z,labA pubS 41317 10 z):=clb_rub ho h8
 exact ⟨by rw [e],H_.st.nowT,H_.st.gr⟩
 refine gq1 H_ 5 (tri 6) [_,_,_,_,bF,bF] (fun _=>[(20,bF)]) (s:=⟨mv3,cw3 Tryz.func74 fun wd hA=>(u_res_eq (cold_any (hA.thO rfl)) (congrArg Value.bool ho)),mv3,gm3,bi3 (h:=by intro env w;simp [go_sem,h8]),pk3 (h:=by intro env w;simp [go_sem,h8])⟩) (k:=fun E3 ac wd H_=>?_)
 refine cF3 H_ ?_
 refine gq H_ 3 [[0],[1],[0,2],r_ 4] [_,_,none,_] (fun _=>[(5,vI ((labUt es z).1))]) (S:=[⟨1,2,fun _=>[vI ((labUt es z).2.1),vI ((labUt es z).2.2.1),vI ((labUt es z).2.2.2)]⟩]) (s:=⟨ld3c 2 sh26,mv3,se3 1 sh26,mv3⟩) (k:=fun E4 ac wd H_=>?_)
 refine lvCT3 (v:=vL ((labUt es z).2.1) ((labUt es z).2.2.1) ((labUt es z).2.2.2)) Tryz.results44 H_ 1 (loadGc sh26 rfl ⟨rfl,rfl,rfl,trivial⟩) ?_
 have e:clb es z=labUt es z:=clb_utc (.inr h8)
 exact ⟨by rw [e],H_.st.nowT,H_.st.gr⟩
theorem cLabel_c (w0:World) (c g:Nat) (b:Value) (u x:Int) (es:List (Int × Int)) (hC:IsC w0 c g b u x es) (lax:Bool) (z:Int) (hz:InW z):ClkC Tryz.prog 20 [vP c 0,vW z,.bool (lax)] w0 c g b u x es (vT2 (vL ((lbl4 es x lax z).2.1) ((lbl4 es x lax z).2.2.1) ((lbl4 es x lax z).2.2.2)) (vI ((lbl4 es x lax z).1))):=by
 unfold ClkC
 have hst:=St.startC w0 hC
 refine en_ Tryz.func20 hst 31 [(0,vP c 0),(1,vW z),(2,.bool (lax))] (fun ac H_=>?_)
 refine gq H_ 2 [[0],[1],[2]] [_,_,_] (fun E1=>[(4,vP (pb E1 0) 0),(6,vP (pb E1 1) 0)]) (W:=[{ i:=0,T:=29,c0:=[vI (hi (z)),.int .u64 (lo (z))] },{ i:=1,T:=26,c0:=[vI 0,vI 0,vI 0] }]) (s:=⟨bx3 0,al_ 1,mv3⟩) (k:=fun E1 ac wd H_=>?_)
 refine gq H_ 8 [[0],[1],[0,1,2],r_ 4,r_ 5,[0,1,2,3,5],[6],[0,1,2,3,4,6,7],r_ 9] [_,_,vT2 (vL ((clb es z).2.1) ((clb es z).2.2.1) ((clb es z).2.2.2)) (vI ((clb es z).1)),_,_,_,_,none,_] (fun E2=>[(8,vP (pb E2 6) 0),(9,vI ((clb es z).1))]) (W:=[{ i:=6,T:=26,c0:=[vI 0,vI 0,vI 0],s:=some 7,c1:=fun _=>[vI ((clb es z).2.1),vI ((clb es z).2.2.1),vI ((clb es z).2.2.2)] }]) (s:=⟨mv3,ld3b 0 sh29,s_clk (c:=c) (g:=g) (b:=b) (u:=u) (x:=x) (es:=es) Tryz.func44 (fun _ h=>h) (fun _ h=>h) (h:=fun D env ac wd hA hC=>⟨_,clabel_c _ c g b u x es hC z hz,rfl⟩),mv3,xt3,xt3,al_ 2,sw3 2 6 sh26,mv3⟩) (k:=fun E2 ac wd H_=>?_)
 by_cases he:(clb es z).1=0
 obtain ⟨q0,q1,q2,q3,q4,q5⟩:=hC.bdL he
 refine gq1 H_ 2 (tri 3) [_,bF,_] (fun _=>[(16,bF)]) (s:=⟨mv3,bi3 (h:=by intro env w;simp [go_sem,he]),mv3⟩) (k:=fun E3 ac wd H_=>?_)
 refine cF3 H_ ?_
 rcases lax with _ | _
 cases hov:overB x ((clb es z).2.1) ((clb es z).2.2.1)
 refine gq1 H_ 7 (tri 4++[[0,1,2,4],r_ 6,r_ 7,r_ 8]) [_,bT,_,_,_,_,bF,_] (fun _=>[(21,bF)]) (s:=⟨mv3,un3,mv3,gm3,ld3c 2 sh26,cw3 Tryz.func40 fun wd hA=>(u_res_eq (cover_any (hA.thO rfl) ((clb es z).2.1) ((clb es z).2.2.1) ((clb es z).2.2.2) q4 q5 q0 q1) (congrArg Value.bool hov)),pk3,mv3⟩) (k:=fun E4 ac wd H_=>?_)
 refine cF3 H_ ?_
 refine gq H_ 2 (tri 3) [_,none,_] (fun _=>[(7,vI 0)]) (S:=[⟨1,1,fun _=>[vI ((clb es z).2.1),vI ((clb es z).2.2.1),vI ((clb es z).2.2.2)]⟩]) (s:=⟨ld3c 2 sh26,se3 1 sh26,mv3⟩) (k:=fun E5 ac wd H_=>?_)
 refine lvCT3 (v:=vL ((clb es z).2.1) ((clb es z).2.2.1) ((clb es z).2.2.2)) Tryz.results20 H_ 1 (loadGc sh26 rfl ⟨rfl,rfl,rfl,trivial⟩) ?_
 have e1:lbl4 es x false z=clb es z:=by unfold lbl4 expB;rw [if_pos he];simp [hov]
 exact ⟨by rw [e1,he],H_.st.nowT,H_.st.gr⟩
 refine gq1 H_ 7 (tri 4++[[0,1,2,4],r_ 6,r_ 7,r_ 8]) [_,bT,_,_,_,_,bT,_] (fun _=>[(21,bT)]) (s:=⟨mv3,un3,mv3,gm3,ld3c 2 sh26,cw3 Tryz.func40 fun wd hA=>(u_res_eq (cover_any (hA.thO rfl) ((clb es z).2.1) ((clb es z).2.2.1) ((clb es z).2.2.2) q4 q5 q0 q1) (congrArg Value.bool hov)),pk3,mv3⟩) (k:=fun E4 ac wd H_=>?_)
 refine cT3 H_ ?_
 refine gq H_ 2 (tri 3) [vL 0 0 0,none,_] (fun _=>[(7,vI 9)]) (S:=[⟨1,1,fun _=>[vI 0,vI 0,vI 0]⟩]) (s:=⟨bd30,se3 1 sh26,mv3⟩) (k:=fun E5 ac wd H_=>?_)
 refine lvCT3 (v:=vL 0 0 0) Tryz.results20 H_ 1 (loadGc sh26 rfl ⟨rfl,rfl,rfl,trivial⟩) ?_
 have e1:lbl4 es x false z=(9,0,0,0):=by unfold lbl4 expB;rw [if_pos he];simp [hov]
 exact ⟨by rw [e1],H_.st.nowT,H_.st.gr⟩
 refine gq1 H_ 7 (tri 4++[[0,1,2,4],r_ 6,r_ 7,r_ 8]) [_,bF,_,_,_,_,bF,_] (fun _=>[(21,bF)]) (s:=⟨mv3,un3,mv3,off_,off_,off_,pk3,mv3⟩) (k:=fun E4 ac wd H_=>?_)
 refine cF3 H_ ?_
 refine gq H_ 2 (tri 3) [_,none,_] (fun _=>[(7,vI 0)]) (S:=[⟨1,1,fun _=>[vI ((clb es z).2.1),vI ((clb es z).2.2.1),vI ((clb es z).2.2.2)]⟩]) (s:=⟨ld3c 2 sh26,se3 1 sh26,mv3⟩) (k:=fun E5 ac wd H_=>?_)
 refine lvCT3 (v:=vL ((clb es z).2.1) ((clb es z).2.2.1) ((clb es z).2.2.2)) Tryz.results20 H_ 1 (loadGc sh26 rfl ⟨rfl,rfl,rfl,trivial⟩) ?_
 have e1:lbl4 es x true z=clb es z:=by unfold lbl4 expB;rw [if_pos he];simp
 exact ⟨by rw [e1,he],H_.st.nowT,H_.st.gr⟩
 refine gq1 H_ 2 (tri 3) [_,bT,_] (fun _=>[(16,bT)]) (s:=⟨mv3,bi3 (h:=by intro env w;simp [go_sem,he]),mv3⟩) (k:=fun E3 ac wd H_=>?_)
 refine cT3 H_ ?_
 refine gq H_ 3 [[0],[1],[0,2],r_ 4] [vL 0 0 0,_,none,_] (fun _=>[(7,vI ((clb es z).1))]) (S:=[⟨1,2,fun _=>[vI 0,vI 0,vI 0]⟩]) (s:=⟨bd30,mv3,se3 1 sh26,mv3⟩) (k:=fun E4 ac wd H_=>?_)
 refine lvCT3 (v:=vL 0 0 0) Tryz.results20 H_ 1 (loadGc sh26 rfl ⟨rfl,rfl,rfl,trivial⟩) ?_
 have e1:lbl4 es x lax z=((clb es z).1,0,0,0):=by unfold lbl4;rw [if_neg he]
 exact ⟨by rw [e1],H_.st.nowT,H_.st.gr⟩
end Go.Proofs.YtcdchnlefmnbjaaGreat
namespace Go.Proofs.YtcdchnlefmnbjaaGreat
open Go.RowKit
attribute [local go_sem] vN bT bF rS vW vM vL vT2 vT3 vP vI execOp Act.eval evC bigF vB hi_zero lo_zero Tryz.underlying24 Tryz.underlying26 Tryz.underlying29 Tryz.underlying51
theorem y_day0 (es:List (Int × Int)):vI (dayOf ((es.getD 0 (0,0)).1,(es.getD 0 (0,0)).2))=vI (day0 es):=rfl
theorem cnew_no_core (w0:World) (A0:Option Addr) (c0:Nat) (es:List (Int × Int)) (u x:Int) (hv:Ents w0 w0.heap.size (.slice A0 es.length c0) es) (hu:I64 u) (hx:I64 x) (hes:∀ i,I64 (es.getD i (0,0)).1∧I64 (es.getD i (0,0)).2) (hok:okT u x es=false):Calls Tryz.prog 5 #[.agg #[vI u,vI x,.slice A0 es.length c0]] w0 fun e w'=>e = .returned (vT2 (.pointer none) (vI 10))∧Below w0.heap.size w0 w':=by
 have hst:=St.start w0 (Θ:=fun _=>True) (fun _ _=>trivial)
 refine en_ Tryz.func5 hst 40 [(0,.agg #[vI u,vI x,.slice A0 es.length c0])] (fun ac H_=>?_)
 replace H_:=H_.facts
 refine fq H_ 2 [[0],[1],[1,2]] [_,_,_] (fun E1=>[(1,vP (pb E1 0) 0)]) (W:=[{ i:=0,T:=24,c0:=[vI u,vI x,.slice A0 es.length c0] }]) (s:=⟨bx3 0,mv3,mv3⟩) (k:=fun E1 ac wd H_=>?_)
 refine fq1 H_ 6 (tri 4++[[0,1,2,4],[0,1,2,3,5],r_ 7]) [_,_,_,_,_,_,_] (fun _=>[(4,.pointer none),(5,vI 10)]) (s:=⟨ld3c 0 sh24,cw3 Tryz.func12 fun wd hA=>((new_no _ es u x wd (hv.gn hA.j.st.gr) hu hx hes hok)),mv3,xt3,xt3,mv3,mv3⟩) (k:=fun E2 ac wd H_=>?_)
 refine fq1 H_ 1 [[0],[0,1]] [_,bT] (fun _=>[(13,bT)]) (s:=⟨mv3,bi3⟩) (k:=fun E3 ac wd H_=>?_)
 refine cT3 H_ ?_
 refine fq1 H_ 2 [[0],[1],[0,1,2]] [_,_,_] (fun _=>[(2,.pointer none),(3,vI 10)]) (s:=⟨mv3,mv3,mv3⟩) (k:=fun E4 ac wd H_=>?_)
 refine then_n (wp_ret (then_ret ?_))
 have s2:=H_.g (t:=2) rfl
 have s3:=H_.g (t:=3) rfl
 refine leave (v:=vT2 (.pointer none) (vI 10)) H_.df (by simp [results,Tryz.results5,go_sem,Array.getD_eq_getD_getElem?,s2,s3]) ?_
 exact ⟨rfl,H_.st.below⟩
theorem cnew_core (w0:World) (A0:Option Addr) (c0:Nat) (es:List (Int × Int)) (u x:Int) (hv:Ents w0 w0.heap.size (.slice A0 es.length c0) es) (hu:I64 u) (hx:I64 x) (hes:∀ i,I64 (es.getD i (0,0)).1∧I64 (es.getD i (0,0)).2) (hok:okT u x es=true):Calls Tryz.prog 5 #[.agg #[vI u,vI x,.slice A0 es.length c0]] w0 fun e w'=>∃ v',e = .returned v'∧Below w0.heap.size w0 w'∧NewCx w' v' u x es w0.heap.size:=by
 obtain ⟨hp,hn0,_⟩:=okT_pre hok
 have hst:=St.start w0 (Θ:=fun _=>True) (fun _ _=>trivial)
 refine en_ Tryz.func5 hst 40 [(0,.agg #[vI u,vI x,.slice A0 es.length c0])] (fun ac H_=>?_)
 replace H_:=H_.facts
 refine fq H_ 2 [[0],[1],[1,2]] [_,_,_] (fun E1=>[(1,vP (pb E1 0) 0)]) (W:=[{ i:=0,T:=24,c0:=[vI u,vI x,.slice A0 es.length c0] }]) (s:=⟨bx3 0,mv3,mv3⟩) (k:=fun E1 ac wd H_=>?_)
 refine fq H_ 6 (tri 4++[[0,1,2,4],[0,1,2,3,5],r_ 7]) [_,KE_ fun env=>vT2 (vP (ptrB (tp (env 1) 0)) 0) (vI 0),_,_,_,_,_] (fun E2=>[(4,vP (ptrB (tp (E2 1) 0)) 0),(5,vI 0)]) (F:=[(1,fun env w=>NewL w (env 1) u x es w0.heap.size)]) (s:=⟨ld3c 0 sh24,s_factT rfl rfl rfl Tryz.func12 (by kernel_rfl) rfl (fun _=>wanted_none rfl _) (fun v w=>NewL w v u x es w0.heap.size) newLF rfl rfl leT rfl (fun v w h=>h.form) (fun v w w' hk h=>h.keep hk) (fun {D env ac wd} hA=>⟨_,hA.args (vs:=[.agg #[vI u,vI x,.slice A0 es.length c0]]) rfl,lnew_yes hA.j.st.gr.size (hv.gn hA.j.st.gr) hu hx hes hok⟩),mv3,xt3,xt3,mv3,mv3⟩) (k:=fun E2 ac wd H_=>?_)
 replace H_:=Cur.exInF H_ 0 rfl;generalize ptrB (tp (E2 1) 0)=g at H_
 refine fq1 H_ 1 [[0],[0,1]] [_,bF] (fun _=>[(13,bF)]) (s:=⟨mv3,bi3 (h:=by intro env w;(first | (simp [go_sem];done) | (simp [go_sem];rfl)))⟩) (k:=fun E3 ac wd H_=>?_)
 refine cF3 H_ ?_
 refine fq H_ 5 [[0],[1],[1,2],r_ 4,r_ 5,r_ 6] [_,_,_,K_ (.agg #[vP g 0,.pointer none,vI x]),_,_] (fun E4=>[(6,vP (pb E4 4) 0)]) (W:=[{ i:=4,T:=51,c0:=[vP g 0,.pointer none,vI x] }]) (s:=⟨mv3,fa3 1,ld31 0 sh3,bd32,bx3 1,mv3⟩) (k:=fun E4 ac wd H_=>?_)
 by_cases h1:day0 es=41317
 by_cases h2:(es.getD 0 (0,0)).2=10
 have hob:oldB es=true:=oldB_iff.2 ⟨h1,h2⟩
 refine fq1 H_ 10 (tri 11) [_,vI (day0 es),bT,_,_,_,elt (.slice A0 es.length c0) (0*2),elt (.slice A0 es.length c0) (0*2+1),vI ((es.getD 0 (0,0)).2),bT,bT] (fun _=>[(30,bT)]) (s:=⟨mv3,s_leap (g:=g) (u:=u) (x:=x) (es:=es) Tryz.func13 (fun _ h=>h) (fun _ h=>h) (h:=fun D env ac wd hA hL=>⟨_,clk_first hL,rfl⟩),bi3 (h:=by intro env w;simp [go_sem,h1]),mv3,fa3 2,ld31 0 sh22,ia_ Tryz.underlying22 sz54 0 (0*2) 0 (fun _ env _ wd hA=>(hv.gn hA.j.st.gr).els) (rfl) (hn0) rfl,s_fa rfl rfl rfl (fun hA=>hA.gy rfl rfl rfl) (0*2) 1 (0*2+1) rfl (s:=fun _=>.slice A0 es.length c0) rfl (fun _=>rfl) (fun {D env ac wd} hA=>(hv.gn hA.j.st.gr).els) (by omega) (fun b q w=>by simp [go_sem,Tryz.underlying54]),le_ (0*2+1) (fun _ env _ wd hA=>(hv.gn hA.j.st.gr).els) (by omega) (leG1 sh3 (by exact enC_1 es 0)),bi3 (h:=by intro env w;(first | (simp [go_sem,h2];done) | (simp [go_sem];simp only [List.getD_eq_getElem?_getD] at h2;simp [h2]))),pk3 (h:=by intro env w;(first | (simp [go_sem,h2];done) | (simp [go_sem];simp only [List.getD_eq_getElem?_getD] at h2;simp [h2])))⟩) (k:=fun E5 ac wd H_=>?_)
 refine cT3 H_ ?_
 refine fq H_ 8 [[0],[1],[1,2],[1,2,3],[1,2,3,4],[1,2,3,5],[0,1,2,3,4,6],[0,1,2,3,4,6,7],[0,1,2,3,4,6,7,8]] [_,KE_ fun env=>.slice ((sA (env 1))) pubS.length ((sC (env 1))),KE_ fun env=>vT2 (vP (ptrB (tp (env 2) 0)) 0) (vI 0),_,_,_,_,_,none] (fun _=>[]) (S:=[⟨1,8,fun env=>[vP g 0,vP (ptrB (tp (env 2) 0)) 0,vI x]⟩]) (F:=[(1,fun env w=>SegG (some g) w (env 1) pubS),(2,fun env w=>NewX (some g) w (env 2) pubS 41317 10)]) (s:=⟨mv3,s_factT rfl rfl rfl Tryz.func15 (by kernel_rfl) rfl (fun _=>wanted_none rfl _) (fun v w=>SegG (some g) w v pubS) (segF pubS) rfl rfl [102] rfl (fun v w h=>h.form) (fun v w w' hk h=>h.keep hk) (fun {D env ac wd} hA=>⟨_,hA.args (vs:=[]) rfl,segments_g (hA.j.st.exb g rfl).1⟩),s_factT rfl rfl rfl Tryz.func14 (by kernel_rfl) rfl (fun _=>wanted_none rfl _) (fun v w=>NewX (some g) w v pubS 41317 10) newF rfl rfl [100,104] rfl (fun v w h=>h.form) (fun v w w' hk h=>h.keep hk) (fun {D env ac wd} hA=>⟨_,hA.args (vs:=[.slice ((sA (env 1))) pubS.length ((sC (env 1))),vI 41317,vI 10]) rfl,rNew_yes wd ((sA (env 1))) ((sC (env 1))) pubS (At.segG hA 1 rfl rfl rfl) 41317 10 (by omega) (by omega) pub_may (fun k h=>by obtain rfl:=Option.some.inj h;exact (hA.j.st.exb g rfl).1)⟩),mv3,xt3,xt3,nc3,fa3 1,se3 1 sh49⟩) (k:=fun E6 ac wd H_=>?_)
 refine fq1 H_ 2 (tri 3) [_,_,_] (fun _=>[(2,vP (pb E4 4) 0),(3,vI 0)]) (s:=⟨mv3,mv3,mv3⟩) (k:=fun E7 ac wd H_=>?_)
 refine then_n (wp_ret ?_)
 have s2:=H_.g (t:=2) rfl
 have s3:=H_.g (t:=3) rfl
 refine leave (v:=vT2 (vP (pb E4 4) 0) (vI 0)) H_.df (by simp [results,Tryz.results5,go_sem,Array.getD_eq_getD_getElem?,s2,s3]) ?_
 have hR:IsR (some g) _ (tp (E6 2) 0) pubS 41317 10:=(show NewX (some g) _ (E6 2) pubS 41317 10 from H_.st.now.get 1 rfl).2
 exact ⟨_,rfl,H_.st.below,g,vP (ptrB (tp (E6 2) 0)) 0,rfl,⟨fun e=>(H_.st.exb g rfl).2.1 1 _ rfl e,(H_.st.own 1 _ rfl).2,H_.st.nowT,(fun _=>hR.re),(fun ho=>by rw [hob] at ho;cases ho)⟩,(H_.st.exb g rfl).2.2.resolve_right (by simp)⟩
 have hob:oldB es=false:=by unfold oldB;simp only [h1,h2,decide_true,decide_false,Bool.and_false]
 refine fq1 H_ 10 (tri 11) [_,vI (day0 es),bT,_,_,_,elt (.slice A0 es.length c0) (0*2),elt (.slice A0 es.length c0) (0*2+1),vI ((es.getD 0 (0,0)).2),bF,bF] (fun _=>[(30,bF)]) (s:=⟨mv3,s_leap (g:=g) (u:=u) (x:=x) (es:=es) Tryz.func13 (fun _ h=>h) (fun _ h=>h) (h:=fun D env ac wd hA hL=>⟨_,clk_first hL,rfl⟩),bi3 (h:=by intro env w;simp [go_sem,h1]),mv3,fa3 2,ld31 0 sh22,ia_ Tryz.underlying22 sz54 0 (0*2) 0 (fun _ env _ wd hA=>(hv.gn hA.j.st.gr).els) (rfl) (hn0) rfl,s_fa rfl rfl rfl (fun hA=>hA.gy rfl rfl rfl) (0*2) 1 (0*2+1) rfl (s:=fun _=>.slice A0 es.length c0) rfl (fun _=>rfl) (fun {D env ac wd} hA=>(hv.gn hA.j.st.gr).els) (by omega) (fun b q w=>by simp [go_sem,Tryz.underlying54]),le_ (0*2+1) (fun _ env _ wd hA=>(hv.gn hA.j.st.gr).els) (by omega) (leG1 sh3 (by exact enC_1 es 0)),bi3 (h:=by intro env w;(first | (simp [go_sem,h2];done) | (simp [go_sem];simp only [List.getD_eq_getElem?_getD] at h2;simp [h2]))),pk3 (h:=by intro env w;(first | (simp [go_sem,h2];done) | (simp [go_sem];simp only [List.getD_eq_getElem?_getD] at h2;simp [h2])))⟩) (k:=fun E5 ac wd H_=>?_)
 refine cF3 H_ ?_
 refine fq1 H_ 2 (tri 3) [_,_,_] (fun _=>[(2,vP (pb E4 4) 0),(3,vI 0)]) (s:=⟨mv3,mv3,mv3⟩) (k:=fun E6 ac wd H_=>?_)
 refine then_n (wp_ret ?_)
 have s2:=H_.g (t:=2) rfl
 have s3:=H_.g (t:=3) rfl
 refine leave (v:=vT2 (vP (pb E4 4) 0) (vI 0)) H_.df (by simp [results,Tryz.results5,go_sem,Array.getD_eq_getD_getElem?,s2,s3]) ?_
 exact ⟨_,rfl,H_.st.below,g,.pointer none,rfl,⟨fun e=>(H_.st.exb g rfl).2.1 1 _ rfl e,(H_.st.own 1 _ rfl).2,H_.st.nowT,(fun ho=>by rw [hob] at ho;cases ho),(fun _=>rfl)⟩,(H_.st.exb g rfl).2.2.resolve_right (by simp)⟩
 have hob:oldB es=false:=by unfold oldB;simp [h1]
 refine fq1 H_ 10 (tri 11) [_,vI (day0 es),bF,_,_,_,_,_,_,_,bF] (fun _=>[(30,bF)]) (s:=⟨mv3,s_leap (g:=g) (u:=u) (x:=x) (es:=es) Tryz.func13 (fun _ h=>h) (fun _ h=>h) (h:=fun D env ac wd hA hL=>⟨_,clk_first hL,rfl⟩),bi3 (h:=by intro env w;simp [go_sem,h1]),mv3,off_,off_,off_,off_,off_,off_,pk3⟩) (k:=fun E5 ac wd H_=>?_)
 refine cF3 H_ ?_
 refine fq1 H_ 2 (tri 3) [_,_,_] (fun _=>[(2,vP (pb E4 4) 0),(3,vI 0)]) (s:=⟨mv3,mv3,mv3⟩) (k:=fun E6 ac wd H_=>?_)
 refine then_n (wp_ret ?_)
 have s2:=H_.g (t:=2) rfl
 have s3:=H_.g (t:=3) rfl
 refine leave (v:=vT2 (vP (pb E4 4) 0) (vI 0)) H_.df (by simp [results,Tryz.results5,go_sem,Array.getD_eq_getD_getElem?,s2,s3]) ?_
 exact ⟨_,rfl,H_.st.below,g,.pointer none,rfl,⟨fun e=>(H_.st.exb g rfl).2.1 1 _ rfl e,(H_.st.own 1 _ rfl).2,H_.st.nowT,(fun ho=>by rw [hob] at ho;cases ho),(fun _=>rfl)⟩,(H_.st.exb g rfl).2.2.resolve_right (by simp)⟩
theorem cnew_no {w:World} {v:Value} {es:List (Int × Int)} (hv:Ents w w.heap.size v es) {u x:Int} (hu:I64 u) (hx:I64 x) (hes:∀ i,I64 (es.getD i (0,0)).1∧I64 (es.getD i (0,0)).2) (hok:okT u x es=false):Calls Tryz.prog 5 #[.agg #[vI u,vI x,v]] w fun e w'=>e = .returned (vT2 (.pointer none) (vI 10))∧Below w.heap.size w w':=by
 have hv0:=hv
 obtain ⟨A,c,rfl,_⟩:=hv
 exact cnew_no_core w A c es u x hv0 hu hx hes hok
theorem cnew_yes {B:Nat} {w:World} (hB:B≤w.heap.size) {v:Value} {es:List (Int × Int)} (hv:Ents w w.heap.size v es) {u x:Int} (hu:I64 u) (hx:I64 x) (hes:∀ i,I64 (es.getD i (0,0)).1∧I64 (es.getD i (0,0)).2) (hok:okT u x es=true):Calls Tryz.prog 5 #[.agg #[vI u,vI x,v]] w fun e w'=>∃ v',e = .returned v'∧Below w.heap.size w w'∧NewCx w' v' u x es B:=by
 have hv0:=hv
 obtain ⟨A,c,rfl,_⟩:=hv
 refine (cnew_core w A c es u x hv0 hu hx hes hok).mono ?_
 rintro e w' ⟨v',rfl,hb,g,b,h1,h2,h3⟩
 exact ⟨v',rfl,hb,g,b,h1,h2,Nat.le_trans hB h3⟩
end Go.Proofs.YtcdchnlefmnbjaaGreat
