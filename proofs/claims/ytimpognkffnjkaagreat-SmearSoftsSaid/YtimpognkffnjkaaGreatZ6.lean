/- Texts P14, C12, C13, C14, C15, F9 of one proof, one behind the other; what nothing here names is left out. -/
import Derived.Lib.Hide
import Derived.Test.YtimpognkffnjkaaGreatZ3
import Derived.Test.YtimpognkffnjkaaGreatZ2
import Derived.IntWalk
import Derived.Test.YtimpognkffnjkaaGreatZ5
import Derived.Test.YtimpognkffnjkaaGreatZ4
set_option maxRecDepth 100000
set_option maxHeartbeats 8000000
set_option linter.unusedVariables false
set_option linter.unusedSimpArgs false
namespace Go.Proofs.YtimpognkffnjkaaGreat
def jn (d s a:Int):Int:=(d*86400+s)*1000000000000000000+a
end Go.Proofs.YtimpognkffnjkaaGreat
namespace Go.Proofs.YtimpognkffnjkaaGreat
open Go.RowKit
attribute [local go_sem] vN bT bF vW vM vL vT2 vT3 vP vI execOp Act.eval evC hi_zero lo_zero Tryz.underlying135 Tryz.underlying27
theorem hi_neg {z:Int}:hi z < 0↔z < 0:=by unfold hi;omega
theorem hilo0 {z:Int} (h:z≠0):¬ (hi z=0∧lo z=0):=fun ⟨h1,h2⟩=>h (by rw [← hilo z,h1,h2];rfl)
def mns (a b:Int):Bool:=decide (hi a < 0) != decide (hi b < 0)
theorem neg_ab (a b:Int):neg (mns a b) (ab a*ab b)=a*b:=by
 unfold neg mns ab
 have h1:=@hi_neg a
 have h2:=@hi_neg b
 by_cases ha:a < 0 <;> by_cases hb:b < 0 <;> simp [h1,h2,ha,hb,Int.neg_mul,Int.mul_neg]
theorem wmul_big (a b sa sb P Q:Int) (hP:P≠0) (HA:Ret 74 #[vW a] (vM sa)) (HB:Ret 74 #[vW b] (vM sb)) (HL:Ret 73 #[vM sa,vM sb] (vT2 (vM P) (vM Q))):Ret 65 #[vW a,vW b] (vT2 (vW 0) (vI 2)):=by
 have hne:=hilo0 hP
 intro w0
 have hst:=St.start w0 (Θ:=fun _=>True) (fun _ _=>trivial)
 refine en_ Tryz.func65 hst 31 [(0,vW a),(1,vW b)] (fun ac H_=>?_)
 refine gq H_ 3 [[0],[1],[2],[3]] [_,_,_,_] (fun E1=>[(2,vP (pb E1 0) 0),(3,vP (pb E1 1) 0),(4,vP (pb E1 2) 0)]) (W:=[{ i:=0,T:=27,c0:=[vI (hi (a)),.int .u64 (lo (a))] },{ i:=1,T:=27,c0:=[vI (hi (b)),.int .u64 (lo (b))] },{ i:=2,T:=27,c0:=[vI 0,.int .u64 0] }]) (s:=⟨bx3 0,bx3 1,al_ 2,mv3⟩) (k:=fun E1 ac wd H_=>?_)
 refine gq H_ 11 [[0],[0,1],[2],r_ 4,r_ 5,r_ 6,r_ 7,r_ 6++[7],[8],[9],r_ 7++[8,9,10],r_ 12] [_,_,_,_,_,_,_,_,_,_,none,none] (fun E2=>[(6,vP (pb E2 8) 0),(7,vP (pb E2 9) 0)]) (W:=[{ i:=8,T:=135,c0:=[.int .u64 0,.int .u64 0],s:=some 10,c1:=fun _=>[.int .u64 (hi (P)),.int .u64 (lo (P))] },{ i:=9,T:=135,c0:=[.int .u64 0,.int .u64 0],s:=some 11,c1:=fun _=>[.int .u64 (hi (Q)),.int .u64 (lo (Q))] }]) (s:=⟨ld3b 0 sh27,cl3 Tryz.func74 HA,ld3b 1 sh27,cl3 Tryz.func74 HB,cl3 Tryz.func73 HL,mv3,xt3,xt3,al_ 3,al_ 4,sw3 3 8 sh135,sw3 4 9 sh135⟩) (k:=fun E2 ac wd H_=>?_)
 refine gq1 H_ 2 [[0],[1],[0,1,2]] [_,K_ (.agg #[.int .u64 0,.int .u64 0]),bT] (fun _=>[(18,bT)]) (s:=⟨ld3b 3 sh135,bd30,bi3 (h:=by intro env w;simp [go_sem];exact fun g1 g2=>hne ⟨g1,g2⟩)⟩) (k:=fun E3 ac wd H_=>?_)
 refine cT3 H_ ?_
 refine gq H_ 2 (tri 3) [K_ (.agg #[vI 0,.int .u64 0]),none,_] (fun _=>[(5,vI 2)]) (S:=[⟨2,1,fun _=>[vI 0,.int .u64 0]⟩]) (s:=⟨bd30,se3 2 sh27,mv3⟩) (k:=fun E4 ac wd H_=>?_)
 refine lvCT3 (v:=.agg #[vI 0,.int .u64 0]) Tryz.results65 H_ 2 (loadGc sh27 rfl ⟨rfl,rfl,trivial⟩) ?_
 exact ⟨rfl,H_.st.below⟩
theorem wmul_small (a b sa sb P Q v e:Int) (hP:P=0) (HA:Ret 74 #[vW a] (vM sa)) (HB:Ret 74 #[vW b] (vM sb)) (HL:Ret 73 #[vM sa,vM sb] (vT2 (vM P) (vM Q))) (HS:Ret 77 #[vM Q,.bool (mns a b)] (vT2 (vW v) (vI e))):Ret 65 #[vW a,vW b] (vT2 (vW v) (vI e)):=by
 intro w0
 have hst:=St.start w0 (Θ:=fun _=>True) (fun _ _=>trivial)
 refine en_ Tryz.func65 hst 31 [(0,vW a),(1,vW b)] (fun ac H_=>?_)
 refine gq H_ 3 [[0],[1],[2],[3]] [_,_,_,_] (fun E1=>[(2,vP (pb E1 0) 0),(3,vP (pb E1 1) 0),(4,vP (pb E1 2) 0)]) (W:=[{ i:=0,T:=27,c0:=[vI (hi (a)),.int .u64 (lo (a))] },{ i:=1,T:=27,c0:=[vI (hi (b)),.int .u64 (lo (b))] },{ i:=2,T:=27,c0:=[vI 0,.int .u64 0] }]) (s:=⟨bx3 0,bx3 1,al_ 2,mv3⟩) (k:=fun E1 ac wd H_=>?_)
 refine gq H_ 11 [[0],[0,1],[2],r_ 4,r_ 5,r_ 6,r_ 7,r_ 6++[7],[8],[9],r_ 7++[8,9,10],r_ 12] [_,_,_,_,_,_,_,_,_,_,none,none] (fun E2=>[(6,vP (pb E2 8) 0),(7,vP (pb E2 9) 0)]) (W:=[{ i:=8,T:=135,c0:=[.int .u64 0,.int .u64 0],s:=some 10,c1:=fun _=>[.int .u64 (hi (P)),.int .u64 (lo (P))] },{ i:=9,T:=135,c0:=[.int .u64 0,.int .u64 0],s:=some 11,c1:=fun _=>[.int .u64 (hi (Q)),.int .u64 (lo (Q))] }]) (s:=⟨ld3b 0 sh27,cl3 Tryz.func74 HA,ld3b 1 sh27,cl3 Tryz.func74 HB,cl3 Tryz.func73 HL,mv3,xt3,xt3,al_ 3,al_ 4,sw3 3 8 sh135,sw3 4 9 sh135⟩) (k:=fun E2 ac wd H_=>?_)
 refine gq1 H_ 2 [[0],[1],[0,1,2]] [_,K_ (.agg #[.int .u64 0,.int .u64 0]),bF] (fun _=>[(18,bF)]) (s:=⟨ld3b 3 sh135,bd30,bi3 (h:=by intro env w;subst hP;simp [go_sem,hi_zero,lo_zero])⟩) (k:=fun E3 ac wd H_=>?_)
 refine cF3 H_ ?_
 refine gq H_ 12 [[0],[1],[1,2],[1,2,3],[4],[4,5],[4,5,6],[1,2,3,4,5,6,7],r_ 9,r_ 10,r_ 9++[10],r_ 12,r_ 13] [_,_,_,K_ (.bool (decide (hi (a) < 0))),_,_,K_ (.bool (decide (hi (b) < 0))),K_ (.bool ((decide (hi (a) < 0)) != (decide (hi (b) < 0)))),_,_,_,none,_] (fun _=>[(5,vI e)]) (S:=[⟨2,11,fun _=>[vI (hi (v)),.int .u64 (lo (v))]⟩]) (s:=⟨ld3b 4 sh135,fa3 0,ld31 0 sh2,bi3,fa3 0,ld31 1 sh2,bi3,bi3 (h:=by intro env w;simp [go_sem];cases (decide (hi (a) < 0)) <;> cases (decide (hi (b) < 0)) <;> rfl),cl3 Tryz.func77 HS,xt3,xt3,se3 2 sh27,mv3⟩) (k:=fun E4 ac wd H_=>?_)
 refine lvCT3 (v:=vW v) Tryz.results65 H_ 2 (loadGc sh27 rfl ⟨rfl,rfl,trivial⟩) ?_
 exact ⟨rfl,H_.st.below⟩
theorem wmul_any (a b:Int) (ha:InW a) (hb:InW b):Ret 65 #[vW a,vW b] (vT2 (vW (fitV (a*b))) (vI (fitE (a*b)))):=by
  have hn:=neg_ab a b
  have h0:=(ab_in ha).1
  have h1:=(ab_in hb).1
  have h2:0≤ab a*ab b:=Int.mul_nonneg h0 h1
  by_cases hP:ab a*ab b / 340282366920938463463374607431768211456=0
  · have e:ab a*ab b % 340282366920938463463374607431768211456=ab a*ab b:=by omega
    have HS:=signed_any (ab a*ab b) (by unfold InM;omega) (mns a b)
    rw [hn] at HS
    exact wmul_small a b (ab a) (ab b) _ _ _ _ hP (size_any a ha) (size_any b hb) (lmul_any (ab a) (ab b) (ab_in ha) (ab_in hb)) (by rw [e];exact HS)
  · have hf:¬ InW (a*b):=by
      rw [← hn];unfold neg InW;split <;> omega
    rw [(fit_no hf).1,(fit_no hf).2]
    exact wmul_big a b (ab a) (ab b) _ _ hP (size_any a ha) (size_any b hb) (lmul_any (ab a) (ab b) (ab_in ha) (ab_in hb))
end Go.Proofs.YtimpognkffnjkaaGreat
namespace Go.Proofs.YtimpognkffnjkaaGreat
open Go.RowKit
attribute [local go_sem] vN bT bF vW vM vL vT2 vT3 vP vI execOp Act.eval evC hi_zero lo_zero Tryz.underlying135 Tryz.underlying27
theorem md_core (a b d sa sb H L n left v e q1 e1 rr:Int) (m lb bb:Bool) (res:Value) (HV:Ret 72 #[vW d] (.bool true)) (HA:Ret 74 #[vW a] (vM sa)) (HB:Ret 74 #[vW b] (vM sb)) (HL:Ret 73 #[vM sa,vM sb] (vT2 (vM H) (vM L))) (HD:Ret 76 #[vW d] (vM d)) (hm:(decide (hi a < 0) != decide (hi b < 0))=m) (HQ:Ret 75 #[vM H,vM L,vM d] (vT3 (vM n) (vM left) (.bool true))) (HS:Ret 77 #[vM n,.bool (m)] (vT2 (vW v) (vI e))) (HF:Ret 78 #[vM left] (vW left)) (HE:Ret 79 #[vW v] (.bool (lb))) (HO:Ret 46 #[vI 1] (vW 1)) (HW:e=0→left≠0→lb=false→Ret 64 #[vW v,vW 1] (vT2 (vW q1) (vI e1))) (HLS:Ret 80 #[vM d,vM left] (vT2 (vM rr) (.bool (bb)))) (HF2:e=0→left≠0→Ret 78 #[vM rr] (vW rr)) (hr1:e≠0→res=vT3 (vW v) (vW 0) (vI e)) (hr2:e=0→m=false∨left=0→res=vT3 (vW v) (vW left) (vI 0)) (hr3:e=0→left≠0→m=true→lb=true→res=vT3 (vW 0) (vW 0) (vI 2)) (hr4:e=0→left≠0→m=true→lb=false→res=vT3 (vW q1) (vW rr) (vI 0)):Ret 44 #[vW a,vW b,vW d] (res):=by
 intro w0
 have hst:=St.start w0 (Θ:=fun _=>True) (fun _ _=>trivial)
 refine en_ Tryz.func44 hst 91 [(0,vW a),(1,vW b),(2,vW d)] (fun ac H_=>?_)
 refine gq H_ 5 [[0],[1],[2],[3],[4],[5]] [_,_,_,_,_,_] (fun E1=>[(3,vP (pb E1 0) 0),(4,vP (pb E1 1) 0),(5,vP (pb E1 2) 0),(6,vP (pb E1 3) 0),(7,vP (pb E1 4) 0)]) (W:=[{ i:=0,T:=27,c0:=[vI (hi (a)),.int .u64 (lo (a))] },{ i:=1,T:=27,c0:=[vI (hi (b)),.int .u64 (lo (b))] },{ i:=2,T:=27,c0:=[vI (hi (d)),.int .u64 (lo (d))] },{ i:=3,T:=27,c0:=[vI 0,.int .u64 0] },{ i:=4,T:=27,c0:=[vI 0,.int .u64 0] }]) (s:=⟨bx3 0,bx3 1,bx3 2,al_ 3,al_ 4,mv3⟩) (k:=fun E1 ac wd H_=>?_)
 refine gq1 H_ 2 (tri 3) [_,_,bF] (fun _=>[(19,bF)]) (s:=⟨ld3b 2 sh27,cl3 Tryz.func72 HV,un3⟩) (k:=fun E2 ac wd H_=>?_)
 refine cF3 H_ ?_
 refine gq H_ 11 [[0],[0,1],[2],r_ 4,r_ 5,r_ 6,r_ 7,r_ 6++[7],[8],[9],r_ 7++[8,9,10],r_ 12] [_,_,_,_,_,_,_,_,_,_,none,none] (fun E3=>[(9,vP (pb E3 8) 0),(10,vP (pb E3 9) 0)]) (W:=[{ i:=8,T:=135,c0:=[.int .u64 0,.int .u64 0],s:=some 10,c1:=fun _=>[.int .u64 (hi (H)),.int .u64 (lo (H))] },{ i:=9,T:=135,c0:=[.int .u64 0,.int .u64 0],s:=some 11,c1:=fun _=>[.int .u64 (hi (L)),.int .u64 (lo (L))] }]) (s:=⟨ld3b 0 sh27,cl3 Tryz.func74 HA,ld3b 1 sh27,cl3 Tryz.func74 HB,cl3 Tryz.func73 HL,mv3,xt3,xt3,al_ 5,al_ 6,sw3 5 8 sh135,sw3 6 9 sh135⟩) (k:=fun E3 ac wd H_=>?_)
 refine gq H_ 13 [[0],[1],[2],[2,3],r_ 5,r_ 6,r_ 7,r_ 6++[7],r_ 6++[8],[9],[10],r_ 7++[9,10,11],r_ 8++[9,10,11,12],r_ 14] [_,_,_,_,_,_,_,_,_,_,_,none,none,_] (fun E4=>[(11,vP (pb E4 9) 0),(12,vP (pb E4 10) 0),(13,bT)]) (W:=[{ i:=9,T:=135,c0:=[.int .u64 0,.int .u64 0],s:=some 11,c1:=fun _=>[.int .u64 (hi (n)),.int .u64 (lo (n))] },{ i:=10,T:=135,c0:=[.int .u64 0,.int .u64 0],s:=some 12,c1:=fun _=>[.int .u64 (hi (left)),.int .u64 (lo (left))] }]) (s:=⟨ld3b 5 sh135,ld3b 6 sh135,ld3b 2 sh27,cl3 Tryz.func76 HD,cl3 Tryz.func75 HQ,mv3,xt3,xt3,xt3,al_ 7,al_ 8,sw3 7 9 sh135,sw3 8 10 sh135,mv3⟩) (k:=fun E4 ac wd H_=>?_)
 refine gq1 H_ 1 [[0],[0,1]] [_,bF] (fun _=>[(40,bF)]) (s:=⟨mv3,un3⟩) (k:=fun E5 ac wd H_=>?_)
 refine cF3 H_ ?_
 refine gq1 H_ 7 [[0],[0,1],[0,1,2],[3],[3,4],[3,4,5],r_ 7,r_ 8] [_,_,K_ (.bool (decide (hi (a) < 0))),_,_,K_ (.bool (decide (hi (b) < 0))),K_ (.bool (m)),_] (fun _=>[(14,.bool (m))]) (s:=⟨fa3 0,ld31 0 sh2,bi3,fa3 0,ld31 1 sh2,bi3,bi3 (h:=by intro env w;(first | (simp [go_sem,hm];done) | (simp [go_sem];rw [← hm];cases (decide (hi a < 0)) <;> cases (decide (hi b < 0)) <;> rfl))),mv3⟩) (k:=fun E6 ac wd H_=>?_)
 refine gq H_ 7 [[0],[1],[0,1,2],r_ 4,r_ 5,[0,1,2,3,5],[0,1,2,3,4,6],r_ 8] [_,_,_,_,_,_,none,_] (fun _=>[(8,vI e)]) (S:=[⟨3,6,fun _=>[vI (hi (v)),.int .u64 (lo (v))]⟩]) (s:=⟨ld3b 7 sh135,mv3,cl3 Tryz.func77 HS,mv3,xt3,xt3,se3 3 sh27,mv3⟩) (k:=fun E7 ac wd H_=>?_)
 refine gq1 H_ 1 [[0],[0,1]] [_,K_ (.bool (e != 0))] (fun _=>[(57,.bool (e != 0))]) (s:=⟨mv3,bi3⟩) (k:=fun E8 ac wd H_=>?_)
 refine cS3 H_ (fun h9=>?_) (fun h9=>?_)
 refine gq H_ 5 [[0],[1],[2],[0,3],[0,1,3,4],r_ 6] [_,_,_,none,none,_] (fun _=>[(8,vI e)]) (S:=[⟨3,3,fun _=>[vI (hi (v)),.int .u64 (lo (v))]⟩,⟨4,4,fun _=>[vI 0,.int .u64 0]⟩]) (s:=⟨ld3b 3 sh27,ld3b 4 sh27,mv3,se3 3 sh27,se3 4 sh27,mv3⟩) (k:=fun E9 ac wd H_=>?_)
 refine then_n (wp_ret (then_ret ?_))
 have s6:=H_.g (t:=6) rfl
 have hc6:=(H_.st.own 3 _ rfl).2
 have c6_0:=own_cell (o:=0) hc6 rfl
 have c6_1:=own_cell (o:=1) hc6 rfl
 have s7:=H_.g (t:=7) rfl
 have hc7:=(H_.st.own 4 _ rfl).2
 have c7_0:=own_cell (o:=0) hc7 rfl
 have c7_1:=own_cell (o:=1) hc7 rfl
 have s8:=H_.g (t:=8) rfl
 refine leave (v:=vT3 (vW v) (.agg #[vI 0,.int .u64 0]) (vI e)) H_.df (by simp [results,Tryz.results44,go_sem,Array.getD_eq_getD_getElem?,s6,c6_0,c6_1,Tryz.underlying27,s7,c7_0,c7_1,Tryz.underlying27,s8]) ?_
 exact ⟨congrArg Ending.returned (hr1 (by simpa using h9)).symm,H_.st.below⟩
 cases m
 refine gq1 H_ 6 (tri 4++[[0,1,2,4],r_ 6,r_ 7]) [_,bT,_,_,_,_,bT] (fun _=>[(67,bT)]) (s:=⟨mv3,un3,mv3,off_,off_,off_,pk3⟩) (k:=fun E9 ac wd H_=>?_)
 refine cT3 H_ ?_
 refine gq H_ 5 [[0],[1],[1,2],r_ 4,r_ 5,r_ 6] [_,_,_,none,none,_] (fun _=>[(8,vI 0)]) (S:=[⟨3,3,fun _=>[vI (hi (v)),.int .u64 (lo (v))]⟩,⟨4,4,fun _=>[vI (hi (left)),.int .u64 (lo (left))]⟩]) (s:=⟨ld3b 3 sh27,ld3b 8 sh135,cl3 Tryz.func78 HF,se3 3 sh27,se3 4 sh27,mv3⟩) (k:=fun E10 ac wd H_=>?_)
 refine then_n (wp_ret (then_ret ?_))
 have s6:=H_.g (t:=6) rfl
 have hc6:=(H_.st.own 3 _ rfl).2
 have c6_0:=own_cell (o:=0) hc6 rfl
 have c6_1:=own_cell (o:=1) hc6 rfl
 have s7:=H_.g (t:=7) rfl
 have hc7:=(H_.st.own 4 _ rfl).2
 have c7_0:=own_cell (o:=0) hc7 rfl
 have c7_1:=own_cell (o:=1) hc7 rfl
 have s8:=H_.g (t:=8) rfl
 refine leave (v:=vT3 (vW v) (vW left) (vI 0)) H_.df (by simp [results,Tryz.results44,go_sem,Array.getD_eq_getD_getElem?,s6,c6_0,c6_1,Tryz.underlying27,s7,c7_0,c7_1,Tryz.underlying27,s8]) ?_
 exact ⟨congrArg Ending.returned (hr2 (by simpa using h9) (.inl rfl)).symm,H_.st.below⟩
 by_cases hl:left=0
 subst hl
 refine gq1 H_ 6 (tri 4++[[0,1,2,4],r_ 6,r_ 7]) [_,bF,_,_,K_ (.agg #[.int .u64 0,.int .u64 0]),bT,bT] (fun _=>[(67,bT)]) (s:=⟨mv3,un3,mv3,ld3b 8 sh135,bd30,bi3 (h:=by intro env w;simp [go_sem,hi_zero,lo_zero]),pk3 (h:=by intro env w;simp [go_sem,hi_zero,lo_zero])⟩) (k:=fun E9 ac wd H_=>?_)
 refine cT3 H_ ?_
 refine gq H_ 5 [[0],[1],[1,2],r_ 4,r_ 5,r_ 6] [_,_,_,none,none,_] (fun _=>[(8,vI 0)]) (S:=[⟨3,3,fun _=>[vI (hi (v)),.int .u64 (lo (v))]⟩,⟨4,4,fun _=>[vI (hi (0)),.int .u64 (lo (0))]⟩]) (s:=⟨ld3b 3 sh27,ld3b 8 sh135,cl3 Tryz.func78 HF,se3 3 sh27,se3 4 sh27,mv3⟩) (k:=fun E10 ac wd H_=>?_)
 refine then_n (wp_ret (then_ret ?_))
 have s6:=H_.g (t:=6) rfl
 have hc6:=(H_.st.own 3 _ rfl).2
 have c6_0:=own_cell (o:=0) hc6 rfl
 have c6_1:=own_cell (o:=1) hc6 rfl
 have s7:=H_.g (t:=7) rfl
 have hc7:=(H_.st.own 4 _ rfl).2
 have c7_0:=own_cell (o:=0) hc7 rfl
 have c7_1:=own_cell (o:=1) hc7 rfl
 have s8:=H_.g (t:=8) rfl
 refine leave (v:=vT3 (vW v) (vW 0) (vI 0)) H_.df (by simp [results,Tryz.results44,go_sem,Array.getD_eq_getD_getElem?,s6,c6_0,c6_1,Tryz.underlying27,s7,c7_0,c7_1,Tryz.underlying27,s8]) ?_
 exact ⟨congrArg Ending.returned (hr2 (by simpa using h9) (.inr rfl)).symm,H_.st.below⟩
 have hne:=hilo0 hl
 refine gq1 H_ 6 (tri 4++[[0,1,2,4],r_ 6,r_ 7]) [_,bF,_,_,K_ (.agg #[.int .u64 0,.int .u64 0]),bF,bF] (fun _=>[(67,bF)]) (s:=⟨mv3,un3,mv3,ld3b 8 sh135,bd30,bi3 (h:=by intro env w;(first | (simp [go_sem];done) | (simp [go_sem];exact fun g1 g2=>hne ⟨g1,g2⟩))),pk3 (h:=by intro env w;(first | (simp [go_sem];done) | (simp [go_sem];exact fun g1 g2=>hne ⟨g1,g2⟩)))⟩) (k:=fun E9 ac wd H_=>?_)
 refine cF3 H_ ?_
 refine gq1 H_ 1 [[0],[0,1]] [_,_] (fun _=>[(72,.bool (lb))]) (s:=⟨ld3b 3 sh27,cl3 Tryz.func79 HE⟩) (k:=fun E10 ac wd H_=>?_)
 refine cS3 H_ (fun h13=>?_) (fun h13=>?_)
 refine gq H_ 4 [[0],[1],[0,2],r_ 4,r_ 5] [K_ (.agg #[vI 0,.int .u64 0]),K_ (.agg #[vI 0,.int .u64 0]),none,none,_] (fun _=>[(8,vI 2)]) (S:=[⟨3,2,fun _=>[vI 0,.int .u64 0]⟩,⟨4,3,fun _=>[vI 0,.int .u64 0]⟩]) (s:=⟨bd30,bd30,se3 3 sh27,se3 4 sh27,mv3⟩) (k:=fun E11 ac wd H_=>?_)
 refine then_n (wp_ret (then_ret ?_))
 have s6:=H_.g (t:=6) rfl
 have hc6:=(H_.st.own 3 _ rfl).2
 have c6_0:=own_cell (o:=0) hc6 rfl
 have c6_1:=own_cell (o:=1) hc6 rfl
 have s7:=H_.g (t:=7) rfl
 have hc7:=(H_.st.own 4 _ rfl).2
 have c7_0:=own_cell (o:=0) hc7 rfl
 have c7_1:=own_cell (o:=1) hc7 rfl
 have s8:=H_.g (t:=8) rfl
 refine leave (v:=vT3 (.agg #[vI 0,.int .u64 0]) (.agg #[vI 0,.int .u64 0]) (vI 2)) H_.df (by simp [results,Tryz.results44,go_sem,Array.getD_eq_getD_getElem?,s6,c6_0,c6_1,Tryz.underlying27,s7,c7_0,c7_1,Tryz.underlying27,s8]) ?_
 exact ⟨congrArg Ending.returned (hr3 (by simpa using h9) hl rfl (by simpa using h13)).symm,H_.st.below⟩
 refine gq H_ 6 [[0],[1],[0,1,2],r_ 4,r_ 5,[0,1,2,3,5],[0,1,2,3,4,6]] [_,_,_,_,_,_,none] (fun _=>[]) (S:=[⟨3,6,fun _=>[vI (hi (q1)),.int .u64 (lo (q1))]⟩]) (s:=⟨ld3b 3 sh27,cl3 Tryz.func46 HO,cl3 Tryz.func64 ((HW (by simpa using h9) hl (by simpa using h13))),mv3,xt3,xt3,se3 3 sh27⟩) (k:=fun E11 ac wd H_=>?_)
 refine gq H_ 9 [[0],[0,1],[2],r_ 4,r_ 5,r_ 6,[0,1,2,3,4,6],[7],r_ 6++[7,8],r_ 10] [_,_,_,_,_,_,_,_,none,_] (fun E12=>[(15,vP (pb E12 7) 0)]) (W:=[{ i:=7,T:=135,c0:=[.int .u64 0,.int .u64 0],s:=some 8,c1:=fun _=>[.int .u64 (hi (rr)),.int .u64 (lo (rr))] }]) (s:=⟨ld3b 2 sh27,cl3 Tryz.func76 HD,ld3b 8 sh135,cl3 Tryz.func80 HLS,mv3,xt3,xt3,al_ 9,sw3 9 7 sh135,mv3⟩) (k:=fun E12 ac wd H_=>?_)
 refine gq H_ 5 [[0],[1],[1,2],r_ 4,r_ 5,r_ 6] [_,_,_,none,none,_] (fun _=>[(8,vI 0)]) (S:=[⟨3,3,fun _=>[vI (hi (q1)),.int .u64 (lo (q1))]⟩,⟨4,4,fun _=>[vI (hi (rr)),.int .u64 (lo (rr))]⟩]) (s:=⟨ld3b 3 sh27,ld3b 9 sh135,cl3 Tryz.func78 ((HF2 (by simpa using h9) hl)),se3 3 sh27,se3 4 sh27,mv3⟩) (k:=fun E13 ac wd H_=>?_)
 refine then_n (wp_ret ?_)
 have s6:=H_.g (t:=6) rfl
 have hc6:=(H_.st.own 3 _ rfl).2
 have c6_0:=own_cell (o:=0) hc6 rfl
 have c6_1:=own_cell (o:=1) hc6 rfl
 have s7:=H_.g (t:=7) rfl
 have hc7:=(H_.st.own 4 _ rfl).2
 have c7_0:=own_cell (o:=0) hc7 rfl
 have c7_1:=own_cell (o:=1) hc7 rfl
 have s8:=H_.g (t:=8) rfl
 refine leave (v:=vT3 (vW q1) (vW rr) (vI 0)) H_.df (by simp [results,Tryz.results44,go_sem,Array.getD_eq_getD_getElem?,s6,c6_0,c6_1,Tryz.underlying27,s7,c7_0,c7_1,Tryz.underlying27,s8]) ?_
 exact ⟨congrArg Ending.returned (hr4 (by simpa using h9) hl rfl (by simpa using h13)).symm,H_.st.below⟩
end Go.Proofs.YtimpognkffnjkaaGreat
namespace Go.Proofs.YtimpognkffnjkaaGreat
open Go.RowKit
attribute [local go_sem] vN bT bF vW vM vL vT2 vT3 vP vI execOp Act.eval evC hi_zero lo_zero Tryz.underlying25 Tryz.underlying27 Tryz.underlying3
theorem div_of {x d q r:Int} (h0:0≤r) (h1:r < d) (e:r+d*q=x):x / d=q∧x % d=r:=(Int.ediv_emod_unique (by omega)).2 ⟨e,h0,h1⟩
theorem wmuldiv_fits (a b d:Int) (ha:InW a) (hb:InW b) (hd:InW d) (h0:0 < d) (hf:InW (a*b / d)):Ret 44 #[vW a,vW b,vW d] (vT3 (vW (a*b / d)) (vW (a*b % d)) (vI 0)):=by
  have hn:=neg_ab a b
  have hP0:0≤ab a*ab b:=Int.mul_nonneg (ab_in ha).1 (ab_in hb).1
  obtain ⟨P,hP⟩:∃ P,P=ab a*ab b:=⟨_,rfl⟩
  obtain ⟨m,hm⟩:∃ m,m=mns a b:=⟨_,rfl⟩
  rw [← hP,← hm] at hn
  rw [← hP] at hP0
  have hV:Ret 72 #[vW d] (.bool true):=fun w=>by have:=above_any d hd w;rwa [decide_eq_true h0] at this
  have hdm:d % 340282366920938463463374607431768211456=d:=by unfold InW at hd;omega
  have HD:Ret 76 #[vW d] (vM d):=fun w=>by have:=bits_any d w;rwa [hdm] at this
  have HL:=lmul_any (ab a) (ab b) (ab_in ha) (ab_in hb)
  rw [← hP] at HL
  have hMd:InM d:=by unfold InW at hd;unfold InM;omega
  have hq:=Int.mul_ediv_add_emod P d
  have hr0:=Int.emod_nonneg P (Int.ne_of_gt h0)
  have hr1:=Int.emod_lt_of_pos P h0
  have hnn:0≤P / d:=Int.ediv_nonneg hP0 (by omega)
  obtain ⟨n,hn'⟩:∃ n,n=P / d:=⟨_,rfl⟩
  obtain ⟨l,hl'⟩:∃ l,l=P % d:=⟨_,rfl⟩
  rw [← hn',← hl'] at hq
  rw [← hn'] at hnn
  rw [← hl'] at hr0 hr1
  have key:m=false∨l=0→a*b / d=neg m n∧a*b % d=l:=by
    intro h
    cases m with
    | false=>simp only [neg] at hn ⊢;exact div_of hr0 hr1 (by rw [← hn];simp;omega)
    | true =>
      have h:l=0:=by simpa using h
      subst h
      simp only [neg,if_true] at hn ⊢
      exact div_of (q:=-n) (r:=0) (Int.le_refl _) h0 (by rw [← hn,Int.mul_neg];omega)
  have key2:m=true→l≠0→a*b / d = -n-1∧a*b % d=d-l:=by
    intro h1 h2
    subst h1
    simp only [neg,if_true] at hn
    exact div_of (q:=-n-1) (r:=d-l) (by omega) (by omega) (by rw [← hn,Int.mul_sub,Int.mul_neg,Int.mul_one];omega)
  have hni:InW (neg m n)∧n≤170141183460469231731687303715884105728:=by
    by_cases h:m=false∨l=0
    · rw [(key h).1] at hf
      refine ⟨hf,?_⟩
      unfold neg InW at hf;split at hf <;> omega
    · have h1:m=true:=by cases m with | true=>rfl | false=>exact absurd (.inl rfl) h
      have h2:l≠0:=fun e=>h (.inr e)
      rw [(key2 h1 h2).1] at hf
      subst h1
      unfold InW at hf ⊢
      simp only [neg,if_true]
      omega
  have hH:P / 340282366920938463463374607431768211456 < d:=by
    rw [Int.ediv_lt_iff_lt_mul (by omega)]
    have h1:d*n≤d*170141183460469231731687303715884105728:=Int.mul_le_mul_of_nonneg_left hni.2 (by omega)
    omega
  have HQ:=ldiv_any (P / 340282366920938463463374607431768211456) (P % 340282366920938463463374607431768211456) d (by unfold InW at hd;unfold InM;omega) (by unfold InM;omega) hMd hH
  rw [show P / 340282366920938463463374607431768211456*340282366920938463463374607431768211456+P % 340282366920938463463374607431768211456=P by omega] at HQ
  rw [← hn',← hl'] at HQ
  have HS:=signed_any n (by unfold InM;omega) m
  rw [(fit_yes hni.1).1,(fit_yes hni.1).2] at HS
  refine md_core a b d (ab a) (ab b) _ _ n l (neg m n) 0 (fitV (neg m n-1)) (fitE (neg m n-1)) (d-l) m (decide (neg m n = -170141183460469231731687303715884105728)) (decide (d < l)) (vT3 (vW (a*b / d)) (vW (a*b % d)) (vI 0)) hV (size_any a ha) (size_any b hb) HL HD hm.symm HQ HS
    (fun w=>by have:=from_any l (by unfold InW at hd;unfold InM;omega) w;rwa [show sgn l=l by unfold InW at hd;unfold sgn;split <;> omega] at this) (least_any _ hni.1) (of_any 1 (by omega) (by omega)) (fun _ _ _=>wsub_any _ 1 hni.1 (by unfold InW;omega))
    (fun w=>by have:=lsub_any d l hMd (by unfold InW at hd;unfold InM;omega) w;rwa [show (d-l) % 340282366920938463463374607431768211456=d-l by unfold InW at hd;omega] at this)
    (fun _ _ w=>by have:=from_any (d-l) (by unfold InW at hd;unfold InM;omega) w;rwa [show sgn (d-l)=d-l by unfold InW at hd;unfold sgn;split <;> omega] at this) (fun h=>absurd rfl h) (fun _ h2=>?_) (fun _ h1 h2 h3=>?_) (fun _ h1 h2 h3=>?_)
  · rw [(key h2).1,(key h2).2]
  · exfalso
    rw [(key2 h2 h1).1] at hf
    have h3:=of_decide_eq_true h3
    subst h2
    simp only [neg,if_true] at h3
    unfold InW at hf
    omega
  · rw [(key2 h2 h1).1,(key2 h2 h1).2]
    rw [(key2 h2 h1).1] at hf
    subst h2
    simp only [neg,if_true]
    rw [(fit_yes hf).1]
theorem wdiv_core (a d q r:Int) (HM:Ret 44 #[vW a,vW 1,vW d] (vT3 (vW q) (vW r) (vI 0))):Ret 57 #[vW a,vW d] (vT3 (vW q) (vW r) (vI 0)):=by
 intro w0
 have hst:=St.start w0 (Θ:=fun _=>True) (fun _ _=>trivial)
 refine en_ Tryz.func57 hst 14 [(0,vW a),(1,vW d)] (fun ac H_=>?_)
 refine gq H_ 4 [[0],[1],[2],[3],[4]] [_,_,_,_,_] (fun E1=>[(2,vP (pb E1 0) 0),(3,vP (pb E1 1) 0),(4,vP (pb E1 2) 0),(5,vP (pb E1 3) 0)]) (W:=[{ i:=0,T:=27,c0:=[vI (hi (a)),.int .u64 (lo (a))] },{ i:=1,T:=27,c0:=[vI (hi (d)),.int .u64 (lo (d))] },{ i:=2,T:=27,c0:=[vI 0,.int .u64 0] },{ i:=3,T:=27,c0:=[vI 0,.int .u64 0] }]) (s:=⟨bx3 0,bx3 1,al_ 2,al_ 3,mv3⟩) (k:=fun E1 ac wd H_=>?_)
 refine gq H_ 9 [[0],[1],[2],r_ 4,r_ 5,[0,1,2,3,5],[0,1,2,3,6],r_ 8,r_ 9,r_ 10] [_,_,_,_,_,_,_,none,none,_] (fun _=>[(6,vI 0)]) (S:=[⟨2,7,fun _=>[vI (hi (q)),.int .u64 (lo (q))]⟩,⟨3,8,fun _=>[vI (hi (r)),.int .u64 (lo (r))]⟩]) (s:=⟨ld3b 0 sh27,cl3 Tryz.func46 ((of_any 1 (by omega) (by omega))),ld3b 1 sh27,cl3 Tryz.func44 HM,xt3,xt3,xt3,se3 2 sh27,se3 3 sh27,mv3⟩) (k:=fun E2 ac wd H_=>?_)
 refine then_n (wp_ret ?_)
 have s4:=H_.g (t:=4) rfl
 have hc4:=(H_.st.own 2 _ rfl).2
 have c4_0:=own_cell (o:=0) hc4 rfl
 have c4_1:=own_cell (o:=1) hc4 rfl
 have s5:=H_.g (t:=5) rfl
 have hc5:=(H_.st.own 3 _ rfl).2
 have c5_0:=own_cell (o:=0) hc5 rfl
 have c5_1:=own_cell (o:=1) hc5 rfl
 have s6:=H_.g (t:=6) rfl
 refine leave (v:=vT3 (vW q) (vW r) (vI 0)) H_.df (by simp [results,Tryz.results57,go_sem,Array.getD_eq_getD_getElem?,s4,c4_0,c4_1,Tryz.underlying27,s5,c5_0,c5_1,Tryz.underlying27,s6]) ?_
 exact ⟨rfl,H_.st.below⟩
theorem wdiv_any (a d:Int) (ha:InW a) (hd:InW d) (h0:0 < d):Ret 57 #[vW a,vW d] (vT3 (vW (a / d)) (vW (a % d)) (vI 0)):=by
  have hf:InW (a*1 / d):=by
    rw [Int.mul_one]
    unfold InW at *
    constructor
    · exact Int.le_ediv_of_mul_le h0 (by
        have:-170141183460469231731687303715884105728*d ≤ -170141183460469231731687303715884105728*1:=Int.mul_le_mul_of_nonpos_left (by omega) (by omega)
        omega)
    · rcases Int.lt_or_le a 0 with h | h
      · have:=Int.ediv_neg_of_neg_of_pos h h0;omega
      · have:=Int.ediv_le_self d h;omega
  have:=wdiv_core a d _ _ (wmuldiv_fits a 1 d ha (by unfold InW;omega) hd h0 hf)
  rw [Int.mul_one] at this
  exact this
theorem wint_yes (z:Int) (h0:-9223372036854775808≤z) (h1:z < 9223372036854775808):Ret 70 #[vW z] (vT2 (vI z) (vI 0)):=by
 have hn:IntKind.i64.wrap (lo z)=z:=by rw [IntKind.wrap_i64];unfold lo;omega
 intro w0
 have hst:=St.start w0 (Θ:=fun _=>True) (fun _ _=>trivial)
 refine en_ Tryz.func70 hst 13 [(0,vW z)] (fun ac H_=>?_)
 refine gq H_ 2 [[0],[1],[1,2]] [_,_,_] (fun E1=>[(1,vP (pb E1 0) 0)]) (W:=[{ i:=0,T:=27,c0:=[vI (hi (z)),.int .u64 (lo (z))] }]) (s:=⟨bx3 0,mv3,mv3⟩) (k:=fun E1 ac wd H_=>?_)
 refine gq1 H_ 3 (tri 4) [_,_,vI z,_] (fun _=>[(4,vI z)]) (s:=⟨fa3 1,ld31 0 sh25,cv3 (h:=by intro env w;simp [go_sem];exact hn),mv3⟩) (k:=fun E2 ac wd H_=>?_)
 refine gq1 H_ 3 [[0],[0,1],[2],r_ 4] [_,_,_,bT] (fun _=>[(11,bT)]) (s:=⟨mv3,cl3 Tryz.func46 ((of_any z h0 h1)),ld3b 0 sh27,bi3⟩) (k:=fun E3 ac wd H_=>?_)
 refine cT3 H_ ?_
 refine gq1 H_ 2 (tri 3) [_,_,_] (fun _=>[(2,vI z),(3,vI 0)]) (s:=⟨mv3,mv3,mv3⟩) (k:=fun E4 ac wd H_=>?_)
 refine then_n (wp_ret (then_ret ?_))
 have s2:=H_.g (t:=2) rfl
 have s3:=H_.g (t:=3) rfl
 refine leave (v:=vT2 (vI z) (vI 0)) H_.df (by simp [results,Tryz.results70,go_sem,Array.getD_eq_getD_getElem?,s2,s3]) ?_
 exact ⟨rfl,H_.st.below⟩
end Go.Proofs.YtimpognkffnjkaaGreat
namespace Go.Proofs.YtimpognkffnjkaaGreat
open Go.RowKit
attribute [local go_sem] vN bT bF vW vM vL vT2 vT3 vP vI execOp Act.eval evC hi_zero lo_zero
def wthn (n l u:Int):Bool:=decide (l≤n) && decide (n≤u)
end Go.Proofs.YtimpognkffnjkaaGreat
namespace Go.Proofs.YtimpognkffnjkaaGreat
open Go.RowKit
attribute [local go_sem] vN bT bF rS vW vM vL vT2 vT3 vP vI execOp Act.eval evC bigF vB hi_zero lo_zero Tryz.underlying25 Tryz.underlying27 Tryz.underlying3 Tryz.underlying40 Tryz.underlying98
theorem Join_core (w0:World) (d s x:Int) (hd0:-9223372036854775808≤d) (hd1:d < 9223372036854775808) (hs0:-9223372036854775808≤s) (hs1:s < 9223372036854775808) (hx0:-9223372036854775808≤x) (hx1:x < 9223372036854775808):Calls Tryz.prog 37 #[vL d s x] w0 fun e w'=>∃ v,e = .returned v∧Below w0.heap.size w0 w'∧BigN w0.heap.size w' v ((d*86400+s)*1000000000000000000+x):=by
 have hst:=St.start w0 (Θ:=fun _=>True) (fun _ _=>trivial)
 refine en_ Tryz.func37 hst 20 [(0,vL d s x)] (fun ac H_=>?_)
 replace H_:=H_.facts
 refine fq H_ 1 [[0],[1]] [_,_] (fun E1=>[(1,vP (pb E1 0) 0),(2,vP (pb E1 1) 0)]) (W:=[{ i:=0,T:=98,c0:=[vI d,vI s,vI x] },{ i:=1,T:=40,c0:=[bF,.slice none 0 0] }]) (s:=⟨bx3 0,al_ 1⟩) (k:=fun E1 ac wd H_=>?_)
 refine fq H_ 10 (tri 5++[[5],[5,6],r_ 8,r_ 9,[9],r_ 11]) [_,_,_,_,_,_,_,_,_,_,none] (fun E2=>[(3,vP (pb E2 9) 0)]) (W:=[{ i:=9,T:=40,c0:=[bF,.slice none 0 0],s:=some 10,c1:=fun env=>[.bool (decide (d*86400+s < 0)),rS (d*86400+s) ((bA (env 8))) ((bC (env 8)))] }]) (F:=[fB w0 2 d,fB w0 3 86400,fB w0 4 (d*86400),fB w0 7 s,fB w0 8 (d*86400+s)]) (s:=⟨fa3 0,ld31 0 sh3,cb3 Tryz.func20 fun wd hA=>Int_any wd d (by omega) (by omega),cb3 Tryz.func20 fun wd hA=>Int_any wd 86400 (by omega) (by omega),cb3e Tryz.func30 fun env wd hA=>Mul_any wd (decide (d < 0)) (bA (env 2)) (bC (env 2)) d rfl (At.bigN hA 2 rfl rfl rfl) (by unfold Sm;omega) (decide (86400 < 0)) (bA (env 3)) (bC (env 3)) 86400 rfl (At.bigN hA 3 rfl rfl rfl) (by unfold Sm;omega),fa3 1,ld31 0 sh3,cb3 Tryz.func20 fun wd hA=>Int_any wd s (by omega) (by omega),cb3e Tryz.func29 fun env wd hA=>Add_any wd (decide (d*86400 < 0)) (bA (env 4)) (bC (env 4)) (d*86400) rfl (At.bigN hA 4 rfl rfl rfl) (by unfold Sm;omega) (decide (s < 0)) (bA (env 7)) (bC (env 7)) s rfl (At.bigN hA 7 rfl rfl rfl) (by unfold Sm;omega),al_ 2,sw3 2 9 sh40⟩) (k:=fun E2 ac wd H_=>?_)
 refine fq H_ 7 [[0],[1],[0,1,2],[3],[3,4],r_ 6,r_ 7,r_ 8] [_,_,_,_,_,_,_,none] (fun _=>[]) (S:=[⟨1,7,fun env=>[.bool (decide ((d*86400+s)*1000000000000000000+x < 0)),rS ((d*86400+s)*1000000000000000000+x) ((bA (env 6))) ((bC (env 6)))]⟩]) (F:=[fB w0 1 1000000000000000000,fB w0 2 ((d*86400+s)*1000000000000000000),fB w0 5 x,fB w0 6 ((d*86400+s)*1000000000000000000+x)]) (s:=⟨ld3b 2 sh40,cb3 Tryz.func20 fun wd hA=>Int_any wd 1000000000000000000 (by omega) (by omega),cb3e Tryz.func30 fun env wd hA=>Mul_any wd (decide (d*86400+s < 0)) (bA (E2 8)) (bC (E2 8)) (d*86400+s) rfl (Facts.bigN (hA.j.st.now).1 4 rfl) (by unfold Sm;omega) (decide (1000000000000000000 < 0)) (bA (env 1)) (bC (env 1)) 1000000000000000000 rfl (At.bigN hA 1 rfl rfl rfl) (by unfold Sm;omega),fa3 2,ld31 0 sh3,cb3 Tryz.func20 fun wd hA=>Int_any wd x (by omega) (by omega),cb3e Tryz.func29 fun env wd hA=>Add_any wd (decide ((d*86400+s)*1000000000000000000 < 0)) (bA (env 2)) (bC (env 2)) ((d*86400+s)*1000000000000000000) rfl (At.bigN hA 2 rfl rfl rfl) (by unfold Sm;omega) (decide (x < 0)) (bA (env 5)) (bC (env 5)) x rfl (At.bigN hA 5 rfl rfl rfl) (by unfold Sm;omega),se3 1 sh40⟩) (k:=fun E3 ac wd H_=>?_)
 refine lvC3 (v:=bigF ((d*86400+s)*1000000000000000000+x) (E3 6)) Tryz.results37 H_ 1 (loadGc sh40 rfl ⟨rfl,rfl,trivial⟩) ?_
 exact ⟨_,rfl,H_.st.below,BigN.mk rfl rfl (Facts.bN H_.st.now 8 rfl)⟩
theorem Join_any (w0:World) (d s x:Int) (hd0:-9223372036854775808≤d) (hd1:d < 9223372036854775808) (hs0:-9223372036854775808≤s) (hs1:s < 9223372036854775808) (hx0:-9223372036854775808≤x) (hx1:x < 9223372036854775808):Calls Tryz.prog 37 #[vL d s x] w0 fun e w'=>∃ v,e = .returned v∧Below w0.heap.size w0 w'∧BigN w0.heap.size w' v (jn d s x):=Join_core w0 d s x hd0 hd1 hs0 hs1 hx0 hx1
theorem In_any (n:Int):Ret 85 #[vI n] (.bool (decide (-1099511627776≤n) && decide (n≤1099511627776))):=by
 intro w0
 have hst:=St.start w0 (Θ:=fun _=>True) (fun _ _=>trivial)
 refine en_ Tryz.func85 hst 9 [(0,vI n)] (fun ac H_=>?_)
 refine gq0 H_ 0 [[0]] [_] (s:=mv3) (k:=fun E1 ac wd H_=>?_)
 by_cases h:-1099511627776≤n
 refine gq1 H_ 6 (tri 7) [_,bT,_,_,K_ (.bool (decide (n≤1099511627776))),K_ (.bool (decide (n≤1099511627776))),_] (fun _=>[(2,.bool (decide (n≤1099511627776)))]) (s:=⟨mv3,bi3 (h:=by intro env w;simp [go_sem,h]),mv3,gm3,bi3,pk3,mv3⟩) (k:=fun E2 ac wd H_=>?_)
 refine lvT3 Tryz.results85 H_ ?_
 exact ⟨by simp [h],H_.st.below⟩
 refine gq1 H_ 6 (tri 7) [_,bF,_,_,_,bF,_] (fun _=>[(2,bF)]) (s:=⟨mv3,bi3 (h:=by intro env w;simp [go_sem,h]),mv3,off_,off_,pk3,mv3⟩) (k:=fun E2 ac wd H_=>?_)
 refine lvT3 Tryz.results85 H_ ?_
 exact ⟨by simp [h],H_.st.below⟩
theorem bsame_yes (w0:World) (p:Bool) (A0:Option Addr) (c0:Nat) (x:Int) (hp:p=decide (x < 0)) (hr:Row w0 (.slice A0 (digs x).length c0) (digs x)) (q:Bool) (B0:Option Addr) (k0:Nat) (y:Int) (hq:q=decide (y < 0)) (hr2:Row w0 (.slice B0 (digs y).length k0) (digs y)) (e:x=y:=by rfl):Calls Tryz.prog 15 #[.agg #[.bool (p),.slice A0 ((digs x).length) c0],.agg #[.bool (q),.slice B0 ((digs y).length) k0]] w0 fun e w'=>e = .returned (.bool true)∧Below w0.heap.size w0 w':=by
 have:=Same_any w0 p A0 c0 x hp hr q B0 k0 y hq hr2
 rw [decide_eq_true e] at this
 exact this
theorem Small_yes (w0:World) (p:Bool) (A0:Option Addr) (c0:Nat) (x:Int) (hp:p=decide (x < 0)) (hr:Row w0 (.slice A0 (digs x).length c0) (digs x)) (h0:-9223372036854775808≤x) (h1:x < 9223372036854775808):Calls Tryz.prog 83 #[.agg #[.bool (p),.slice A0 ((digs x).length) c0]] w0 fun e w'=>e = .returned (vT2 (vI x) (.bool true))∧Below w0.heap.size w0 w':=by
 have hst:=St.start w0 (Θ:=fun _=>True) (fun _ _=>trivial)
 refine en_ Tryz.func83 hst 25 [(0,.agg #[.bool (p),.slice A0 ((digs x).length) c0])] (fun ac H_=>?_)
 replace H_:=H_.facts
 refine fq H_ 2 [[0],[1],[1,2]] [_,_,_] (fun E1=>[(1,vP (pb E1 0) 0)]) (W:=[{ i:=0,T:=40,c0:=[.bool (p),rS x A0 c0] }]) (s:=⟨bx3 0,mv3,mv3⟩) (k:=fun E1 ac wd H_=>?_)
 refine fq H_ 7 (tri 4++[[0,1,2,4],[5],[0,1,2,3,5,6],r_ 8]) [_,_,_,_,_,_,none,_] (fun E2=>[(4,vP (pb E2 5) 0),(5,bT)]) (W:=[{ i:=5,T:=27,c0:=[vI 0,.int .u64 0],s:=some 6,c1:=fun _=>[vI (hi (x)),.int .u64 (lo (x))] }]) (s:=⟨ld3b 0 sh40,cw3 Tryz.func25 fun wd hA=>Wide_yes wd p A0 c0 x hp (hr.grown hA.j.st.gr) (by omega) (by omega),mv3,xt3,xt3,al_ 1,sw3 1 5 sh27,mv3⟩) (k:=fun E2 ac wd H_=>?_)
 refine fq H_ 10 (tri 4++[[0,1,2,4],[0,1,2,4,5],[0,1,2,4,5,6],[0,1,2,4,5,6,7],r_ 9,r_ 10,r_ 11]) [_,bF,_,_,_,_,vI x,_,_,bF,bF] (fun _=>[(21,bF)]) (F:=[fB w0 7 x]) (s:=⟨mv3,un3,mv3,ld3b 0 sh40,fa3 1,ld31 1 sh25,cv3 (h:=by intro env w;simp [go_sem];rw [i64_of _ (by unfold lo;omega) (by unfold lo;omega)];unfold lo;split <;> omega),cb3 Tryz.func20 fun wd hA=>Int_any wd x h0 h1,cw3e Tryz.func15 fun env wd hA=>bsame_yes wd p A0 c0 x hp (hr.grown hA.j.st.gr)  (decide (x < 0)) (bA (env 7)) (bC (env 7)) x rfl (At.bigN hA 7 rfl rfl rfl) ,un3,pk3⟩) (k:=fun E3 ac wd H_=>?_)
 refine cF3 H_ ?_
 refine fq1 H_ 4 (tri 5) [_,_,vI x,_,_] (fun _=>[(2,vI x),(3,bT)]) (s:=⟨fa3 1,ld31 1 sh25,cv3 (h:=by intro env w;simp [go_sem];rw [i64_of _ (by unfold lo;omega) (by unfold lo;omega)];unfold lo;split <;> omega),mv3,mv3⟩) (k:=fun E4 ac wd H_=>?_)
 refine then_n (wp_ret ?_)
 have s2:=H_.g (t:=2) rfl
 have s3:=H_.g (t:=3) rfl
 refine leave (v:=vT2 (vI x) (.bool true)) H_.df (by simp [results,Tryz.results83,go_sem,Array.getD_eq_getD_getElem?,s2,s3]) ?_
 exact ⟨rfl,H_.st.below⟩
theorem Split_yes (w0:World) (p:Bool) (A0:Option Addr) (c0:Nat) (x:Int) (hp:p=decide (x < 0)) (hr:Row w0 (.slice A0 (digs x).length c0) (digs x)) (hx:Sm x) (h0:-1099511627776≤x / 1000000000000000000 / 86400) (h1:x / 1000000000000000000 / 86400≤1099511627776):Calls Tryz.prog 50 #[.agg #[.bool (p),.slice A0 ((digs x).length) c0]] w0 fun e w'=>e = .returned (vT2 (vL (x / 1000000000000000000 / 86400) (x / 1000000000000000000 % 86400) (x % 1000000000000000000)) (.bool true))∧Below w0.heap.size w0 w':=by
 have hin:(decide (-1099511627776≤x / 1000000000000000000 / 86400) && decide (x / 1000000000000000000 / 86400≤1099511627776))=true:=by simp [h0,h1]
 have hst:=St.start w0 (Θ:=fun _=>True) (fun _ _=>trivial)
 refine en_ Tryz.func50 hst 53 [(0,.agg #[.bool (p),.slice A0 ((digs x).length) c0])] (fun ac H_=>?_)
 replace H_:=H_.facts
 refine fq H_ 2 [[0],[1],[2]] [_,_,_] (fun E1=>[(1,vP (pb E1 0) 0),(2,vP (pb E1 1) 0)]) (W:=[{ i:=0,T:=40,c0:=[.bool (p),rS x A0 c0] },{ i:=1,T:=98,c0:=[vI 0,vI 0,vI 0] }]) (s:=⟨bx3 0,al_ 1,mv3⟩) (k:=fun E1 ac wd H_=>?_)
 refine fq H_ 9 [[0],[1],[0,1,2],r_ 4,r_ 5,[0,1,2,3,5],[6],[7],[0,1,2,3,4,6,7,8],r_ 10] [_,_,KE_ fun env=>vT2 (bigF (x / 1000000000000000000) (tp (env 2) 0)) (bigF (x % 1000000000000000000) (tp (env 2) 1)),_,_,_,_,_,none,none] (fun E2=>[(4,vP (pb E2 6) 0),(5,vP (pb E2 7) 0)]) (W:=[{ i:=6,T:=40,c0:=[bF,.slice none 0 0],s:=some 8,c1:=fun env=>[.bool (decide (x / 1000000000000000000 < 0)),rS (x / 1000000000000000000) ((bA (tp (env 2) 0))) ((bC (tp (env 2) 0)))] },{ i:=7,T:=40,c0:=[bF,.slice none 0 0],s:=some 9,c1:=fun env=>[.bool (decide (x % 1000000000000000000 < 0)),rS (x % 1000000000000000000) ((bA (tp (env 2) 1))) ((bC (tp (env 2) 1)))] }]) (F:=[fB w0 1 1000000000000000000,(2,fun env w=>DivX w (env 2) (x / 1000000000000000000) (x % 1000000000000000000))]) (s:=⟨ld3b 0 sh40,cb3 Tryz.func20 fun wd hA=>Int_any wd 1000000000000000000 (by omega) (by omega),cf_ Tryz.func51 (fun v w=>DivX w v (x / 1000000000000000000) (x % 1000000000000000000)) (divF (x / 1000000000000000000) (x % 1000000000000000000)) (h:=fun _ env _ wd hA=>⟨_,toD (Div_any wd p A0 c0 x hp (hr.grown hA.j.st.gr) hx (decide (1000000000000000000 < 0)) (bA (env 1)) (bC (env 1)) 1000000000000000000 rfl (At.bigN hA 1 rfl rfl rfl) (by unfold Sm;omega) (by omega)),rfl⟩),mv3,xt3,xt3,al_ 2,al_ 3,sw3 2 6 sh40,sw3 3 7 sh40⟩) (k:=fun E2 ac wd H_=>?_)
 refine fq H_ 9 [[0],[1],[0,1,2],r_ 4,r_ 5,[0,1,2,3,5],[6],[7],[0,1,2,3,4,6,7,8],r_ 10] [_,_,KE_ fun env=>vT2 (bigF ((x / 1000000000000000000) / 86400) (tp (env 2) 0)) (bigF ((x / 1000000000000000000) % 86400) (tp (env 2) 1)),_,_,_,_,_,none,none] (fun E3=>[(6,vP (pb E3 6) 0),(7,vP (pb E3 7) 0)]) (W:=[{ i:=6,T:=40,c0:=[bF,.slice none 0 0],s:=some 8,c1:=fun env=>[.bool (decide ((x / 1000000000000000000) / 86400 < 0)),rS ((x / 1000000000000000000) / 86400) ((bA (tp (env 2) 0))) ((bC (tp (env 2) 0)))] },{ i:=7,T:=40,c0:=[bF,.slice none 0 0],s:=some 9,c1:=fun env=>[.bool (decide ((x / 1000000000000000000) % 86400 < 0)),rS ((x / 1000000000000000000) % 86400) ((bA (tp (env 2) 1))) ((bC (tp (env 2) 1)))] }]) (F:=[fB w0 1 86400,(2,fun env w=>DivX w (env 2) ((x / 1000000000000000000) / 86400) ((x / 1000000000000000000) % 86400))]) (s:=⟨ld3b 2 sh40,cb3 Tryz.func20 fun wd hA=>Int_any wd 86400 (by omega) (by omega),cf_ Tryz.func51 (fun v w=>DivX w v ((x / 1000000000000000000) / 86400) ((x / 1000000000000000000) % 86400)) (divF ((x / 1000000000000000000) / 86400) ((x / 1000000000000000000) % 86400)) (h:=fun _ env _ wd hA=>⟨_,toD (Div_any wd (decide (x / 1000000000000000000 < 0)) (bA (tp (E2 2) 0)) (bC (tp (E2 2) 0)) (x / 1000000000000000000) rfl (Facts.div1 (hA.j.st.now).1 1 rfl) (by unfold Sm at *;omega) (decide (86400 < 0)) (bA (env 1)) (bC (env 1)) 86400 rfl (At.bigN hA 1 rfl rfl rfl) (by unfold Sm;omega) (by omega)),rfl⟩),mv3,xt3,xt3,al_ 4,al_ 5,sw3 4 6 sh40,sw3 5 7 sh40⟩) (k:=fun E3 ac wd H_=>?_)
 refine fq1 H_ 6 (tri 4++[[0,1,2,4],[0,1,2,3,5],r_ 7]) [_,_,_,_,_,_,_] (fun _=>[(8,vI ((x / 1000000000000000000 / 86400))),(9,bT)]) (s:=⟨ld3b 4 sh40,cw3 Tryz.func83 fun wd hA=>Small_yes wd (decide ((x / 1000000000000000000) / 86400 < 0)) (bA (tp (E3 2) 0)) (bC (tp (E3 2) 0)) (x / 1000000000000000000 / 86400) rfl (Facts.div1 (hA.j.st.now).1 3 rfl)  (by omega) (by omega),mv3,xt3,xt3,mv3,mv3⟩) (k:=fun E4 ac wd H_=>?_)
 refine fq1 H_ 6 (tri 7) [_,bF,_,_,_,bF,bF] (fun _=>[(37,bF)]) (s:=⟨mv3,un3,mv3,gm3,cl3 Tryz.func85 (((In_any (x / 1000000000000000000 / 86400)).eq (congrArg Value.bool hin))),un3,pk3⟩) (k:=fun E5 ac wd H_=>?_)
 refine cF3 H_ ?_
 refine fq1 H_ 6 (tri 4++[[0,1,2,4],[0,1,2,3,5],r_ 7]) [_,_,_,_,_,_,_] (fun _=>[(10,vI ((x / 1000000000000000000 % 86400)))]) (s:=⟨ld3b 5 sh40,cw3 Tryz.func83 fun wd hA=>Small_yes wd (decide ((x / 1000000000000000000) % 86400 < 0)) (bA (tp (E3 2) 1)) (bC (tp (E3 2) 1)) (x / 1000000000000000000 % 86400) rfl (Facts.div2 (hA.j.st.now).1 3 rfl)  (by omega) (by omega),mv3,xt3,xt3,mv3,mv3⟩) (k:=fun E6 ac wd H_=>?_)
 refine fq1 H_ 6 (tri 4++[[0,1,2,4],[0,1,2,3,5],r_ 7]) [_,_,_,_,_,_,_] (fun _=>[(12,vI ((x % 1000000000000000000)))]) (s:=⟨ld3b 3 sh40,cw3 Tryz.func83 fun wd hA=>Small_yes wd (decide (x % 1000000000000000000 < 0)) (bA (tp (E2 2) 1)) (bC (tp (E2 2) 1)) (x % 1000000000000000000) rfl (Facts.div2 (hA.j.st.now).1 1 rfl)  (by omega) (by omega),mv3,xt3,xt3,mv3,mv3⟩) (k:=fun E7 ac wd H_=>?_)
 refine fq H_ 5 [[0],[1],[2],r_ 4,r_ 5,r_ 6] [_,_,_,vL (x / 1000000000000000000 / 86400) (x / 1000000000000000000 % 86400) (x % 1000000000000000000),none,_] (fun _=>[(3,bT)]) (S:=[⟨1,4,fun _=>[vI ((x / 1000000000000000000 / 86400)),vI ((x / 1000000000000000000 % 86400)),vI ((x % 1000000000000000000))]⟩]) (s:=⟨mv3,mv3,mv3,bd33,se3 1 sh98,mv3⟩) (k:=fun E8 ac wd H_=>?_)
 refine lvCT3 (v:=vL (x / 1000000000000000000 / 86400) (x / 1000000000000000000 % 86400) (x % 1000000000000000000)) Tryz.results50 H_ 1 (loadGc sh98 rfl ⟨rfl,rfl,rfl,trivial⟩) ?_
 exact ⟨rfl,H_.st.below⟩
end Go.Proofs.YtimpognkffnjkaaGreat
