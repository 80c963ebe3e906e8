/- Texts P14, C12, C13, C14, C15, C16, P15, Q1, Q2 of one proof, one behind the other; what nothing here names is left out. -/
import Derived.Lib.Hide
import Derived.Test.YtailjojebdmnnaaGreatZ3
import Derived.Test.YtailjojebdmnnaaGreatZ2
import Derived.IntWalk
import Derived.Test.YtailjojebdmnnaaGreatZ5
set_option maxRecDepth 100000
set_option maxHeartbeats 8000000
set_option linter.unusedVariables false
set_option linter.unusedSimpArgs false
namespace Go.Proofs.YtailjojebdmnnaaGreat
theorem fdiv_le {a b c:Int} (h:0 < c):a / c≤b↔a < (b+1)*c:=by
 have:=Int.ediv_lt_iff_lt_mul (a:=a) (b:=b+1) h
 omega
def topq (N L:Int):Int:=if N % L=0 then N / L-1 else N / L
theorem topq_spec {N L:Int} (h:0 < L) (v:Int):v*L < N↔v≤topq N L:=by
  have e:=Int.mul_ediv_add_emod N L
  have m0:=Int.emod_nonneg N (Int.ne_of_gt h)
  have m1:=Int.emod_lt_of_pos N h
  unfold topq
  constructor
  · intro hv
    split
    · rename_i hz
      rcases Int.lt_or_le (N / L-1) v with hc | hc
      · exfalso
        have:N / L*L≤v*L:=Int.mul_le_mul_of_nonneg_right (by omega) (by omega)
        have:L*(N / L)=N / L*L:=Int.mul_comm _ _
        omega
      · exact hc
    · rcases Int.lt_or_le (N / L) v with hc | hc
      · exfalso
        have h1:(N / L+1)*L≤v*L:=Int.mul_le_mul_of_nonneg_right (by omega) (by omega)
        rw [Int.add_mul] at h1
        have:L*(N / L)=N / L*L:=Int.mul_comm _ _
        omega
      · exact hc
  · intro hv
    split at hv
    · rename_i hz
      have h1:v*L≤(N / L-1)*L:=Int.mul_le_mul_of_nonneg_right hv (by omega)
      rw [Int.sub_mul] at h1
      have:L*(N / L)=N / L*L:=Int.mul_comm _ _
      omega
    · have h1:v*L≤N / L*L:=Int.mul_le_mul_of_nonneg_right hv (by omega)
      have:L*(N / L)=N / L*L:=Int.mul_comm _ _
      omega
def jn (d s a:Int):Int:=(d*86400+s)*1000000000000000000+a
def dayA:Int:=86400000000000000000000
def fA (b f r u:Int):Int:=u+b+(u-f)*r / dayA
def gA (b f r t:Int):Int:=topq ((t-b-f+1)*dayA) (dayA+r)+f
theorem gA_spec {b f r:Int} (hr:0≤r) (t u:Int):fA b f r u≤t↔u≤gA b f r t:=by
  have h:=topq_spec (N:=(t-b-f+1)*dayA) (L:=dayA+r) (by unfold dayA;omega) (u-f)
  unfold gA
  have e:fA b f r u≤t↔(u-f)*r / dayA≤t-b-u:=by unfold fA;omega
  rw [e,fdiv_le (by unfold dayA;omega)]
  have e2:(u-f)*r < (t-b-u+1)*dayA↔(u-f)*(dayA+r) < (t-b-f+1)*dayA:=by
    rw [Int.mul_add]
    have:(t-b-f+1)*dayA=(t-b-u+1)*dayA+(u-f)*dayA:=by rw [← Int.add_mul];congr 1;omega
    omega
  rw [e2,h];omega
theorem fA_mono {b f r:Int} (hr:0≤r) {u v:Int} (h:u < v):fA b f r u < fA b f r v:=by
 have h1:(u-f)*r≤(v-f)*r:=Int.mul_le_mul_of_nonneg_right (by omega) hr
 have h2:(u-f)*r / dayA≤(v-f)*r / dayA:=Int.ediv_le_ediv (by unfold dayA;omega) h1
 unfold fA;omega
theorem fA_le {b f r:Int} (hr:0≤r) {u v:Int}:fA b f r u≤fA b f r v↔u≤v:=by
  constructor
  · intro h;rcases Int.lt_or_le v u with hc | hc
    · have:=fA_mono (b:=b) (f:=f) hr hc;omega
    · exact hc
  · intro h;rcases Int.lt_or_eq_of_le h with hc | hc
    · exact Int.le_of_lt (fA_mono hr hc)
    · rw [hc];exact Int.le_refl _
theorem fA_gA {b f r:Int} (hr:0≤r) (hr1:r≤dayA) (t:Int):fA b f r (gA b f r t)=t∨fA b f r (gA b f r t)=t-1:=by
  have h1:=(gA_spec (b:=b) (f:=f) hr t (gA b f r t)).2 (Int.le_refl _)
  have h2:t < fA b f r (gA b f r t+1):=by
    rcases Int.lt_or_le t (fA b f r (gA b f r t+1)) with hc | hc
    · exact hc
    · have:=(gA_spec (b:=b) (f:=f) hr t _).1 hc;omega
  have h3:fA b f r (gA b f r t+1)≤fA b f r (gA b f r t)+2:=by
    unfold fA
    have:(gA b f r t+1-f)*r / dayA≤(gA b f r t-f)*r / dayA+1:=by
      rw [fdiv_le (by unfold dayA;omega)]
      have e:=Int.mul_ediv_add_emod ((gA b f r t-f)*r) dayA
      have m1:=Int.emod_lt_of_pos ((gA b f r t-f)*r) (show 0 < dayA by unfold dayA;omega)
      have:(gA b f r t+1-f)*r=(gA b f r t-f)*r+r:=by rw [show gA b f r t+1-f=(gA b f r t-f)+1 by omega,Int.add_mul];omega
      rw [this,Int.add_mul,Int.add_mul,Int.mul_comm ((gA b f r t-f)*r / dayA) dayA];omega
    omega
  omega
end Go.Proofs.YtailjojebdmnnaaGreat
namespace Go.Proofs.YtailjojebdmnnaaGreat
open Go.RowKit
attribute [local go_sem] vN bT bF vW vM vL vT2 vT3 vP vI execOp Act.eval evC hi_zero lo_zero Tryz.underlying133 Tryz.underlying27
theorem hi_neg {z:Int}:hi z < 0↔z < 0:=by unfold hi;omega
theorem hilo0 {z:Int} (h:z≠0):¬ (hi z=0∧lo z=0):=fun ⟨h1,h2⟩=>h (by rw [← hilo z,h1,h2];rfl)
def mns (a b:Int):Bool:=decide (hi a < 0) != decide (hi b < 0)
theorem neg_ab (a b:Int):neg (mns a b) (ab a*ab b)=a*b:=by
 unfold neg mns ab
 have h1:=@hi_neg a
 have h2:=@hi_neg b
 by_cases ha:a < 0 <;> by_cases hb:b < 0 <;> simp [h1,h2,ha,hb,Int.neg_mul,Int.mul_neg]
theorem wmul_big (a b sa sb P Q:Int) (hP:P≠0) (HA:Ret 87 #[vW a] (vM sa)) (HB:Ret 87 #[vW b] (vM sb)) (HL:Ret 86 #[vM sa,vM sb] (vT2 (vM P) (vM Q))):Ret 68 #[vW a,vW b] (vT2 (vW 0) (vI 2)):=by
 have hne:=hilo0 hP
 intro w0
 have hst:=St.start w0 (Θ:=fun _=>True) (fun _ _=>trivial)
 refine en_ Tryz.func68 hst 31 [(0,vW a),(1,vW b)] (fun ac H_=>?_)
 refine gq H_ 3 [[0],[1],[2],[3]] [_,_,_,_] (fun E1=>[(2,vP (pb E1 0) 0),(3,vP (pb E1 1) 0),(4,vP (pb E1 2) 0)]) (W:=[{ i:=0,T:=27,c0:=[vI (hi (a)),.int .u64 (lo (a))] },{ i:=1,T:=27,c0:=[vI (hi (b)),.int .u64 (lo (b))] },{ i:=2,T:=27,c0:=[vI 0,.int .u64 0] }]) (s:=⟨bx3 0,bx3 1,al_ 2,mv3⟩) (k:=fun E1 ac wd H_=>?_)
 refine gq H_ 11 [[0],[0,1],[2],r_ 4,r_ 5,r_ 6,r_ 7,r_ 6++[7],[8],[9],r_ 7++[8,9,10],r_ 12] [_,_,_,_,_,_,_,_,_,_,none,none] (fun E2=>[(6,vP (pb E2 8) 0),(7,vP (pb E2 9) 0)]) (W:=[{ i:=8,T:=133,c0:=[.int .u64 0,.int .u64 0],s:=some 10,c1:=fun _=>[.int .u64 (hi (P)),.int .u64 (lo (P))] },{ i:=9,T:=133,c0:=[.int .u64 0,.int .u64 0],s:=some 11,c1:=fun _=>[.int .u64 (hi (Q)),.int .u64 (lo (Q))] }]) (s:=⟨ld3b 0 sh27,cl3 Tryz.func87 HA,ld3b 1 sh27,cl3 Tryz.func87 HB,cl3 Tryz.func86 HL,mv3,xt3,xt3,al_ 3,al_ 4,sw3 3 8 sh133,sw3 4 9 sh133⟩) (k:=fun E2 ac wd H_=>?_)
 refine gq1 H_ 2 [[0],[1],[0,1,2]] [_,K_ (.agg #[.int .u64 0,.int .u64 0]),bT] (fun _=>[(18,bT)]) (s:=⟨ld3b 3 sh133,bd30,bi3 (h:=by intro env w;simp [go_sem];exact fun g1 g2=>hne ⟨g1,g2⟩)⟩) (k:=fun E3 ac wd H_=>?_)
 refine cT3 H_ ?_
 refine gq H_ 2 (tri 3) [K_ (.agg #[vI 0,.int .u64 0]),none,_] (fun _=>[(5,vI 2)]) (S:=[⟨2,1,fun _=>[vI 0,.int .u64 0]⟩]) (s:=⟨bd30,se3 2 sh27,mv3⟩) (k:=fun E4 ac wd H_=>?_)
 refine lvCT3 (v:=.agg #[vI 0,.int .u64 0]) Tryz.results68 H_ 2 (loadGc sh27 rfl ⟨rfl,rfl,trivial⟩) ?_
 exact ⟨rfl,H_.st.below⟩
theorem wmul_small (a b sa sb P Q v e:Int) (hP:P=0) (HA:Ret 87 #[vW a] (vM sa)) (HB:Ret 87 #[vW b] (vM sb)) (HL:Ret 86 #[vM sa,vM sb] (vT2 (vM P) (vM Q))) (HS:Ret 89 #[vM Q,.bool (mns a b)] (vT2 (vW v) (vI e))):Ret 68 #[vW a,vW b] (vT2 (vW v) (vI e)):=by
 intro w0
 have hst:=St.start w0 (Θ:=fun _=>True) (fun _ _=>trivial)
 refine en_ Tryz.func68 hst 31 [(0,vW a),(1,vW b)] (fun ac H_=>?_)
 refine gq H_ 3 [[0],[1],[2],[3]] [_,_,_,_] (fun E1=>[(2,vP (pb E1 0) 0),(3,vP (pb E1 1) 0),(4,vP (pb E1 2) 0)]) (W:=[{ i:=0,T:=27,c0:=[vI (hi (a)),.int .u64 (lo (a))] },{ i:=1,T:=27,c0:=[vI (hi (b)),.int .u64 (lo (b))] },{ i:=2,T:=27,c0:=[vI 0,.int .u64 0] }]) (s:=⟨bx3 0,bx3 1,al_ 2,mv3⟩) (k:=fun E1 ac wd H_=>?_)
 refine gq H_ 11 [[0],[0,1],[2],r_ 4,r_ 5,r_ 6,r_ 7,r_ 6++[7],[8],[9],r_ 7++[8,9,10],r_ 12] [_,_,_,_,_,_,_,_,_,_,none,none] (fun E2=>[(6,vP (pb E2 8) 0),(7,vP (pb E2 9) 0)]) (W:=[{ i:=8,T:=133,c0:=[.int .u64 0,.int .u64 0],s:=some 10,c1:=fun _=>[.int .u64 (hi (P)),.int .u64 (lo (P))] },{ i:=9,T:=133,c0:=[.int .u64 0,.int .u64 0],s:=some 11,c1:=fun _=>[.int .u64 (hi (Q)),.int .u64 (lo (Q))] }]) (s:=⟨ld3b 0 sh27,cl3 Tryz.func87 HA,ld3b 1 sh27,cl3 Tryz.func87 HB,cl3 Tryz.func86 HL,mv3,xt3,xt3,al_ 3,al_ 4,sw3 3 8 sh133,sw3 4 9 sh133⟩) (k:=fun E2 ac wd H_=>?_)
 refine gq1 H_ 2 [[0],[1],[0,1,2]] [_,K_ (.agg #[.int .u64 0,.int .u64 0]),bF] (fun _=>[(18,bF)]) (s:=⟨ld3b 3 sh133,bd30,bi3 (h:=by intro env w;subst hP;simp [go_sem,hi_zero,lo_zero])⟩) (k:=fun E3 ac wd H_=>?_)
 refine cF3 H_ ?_
 refine gq H_ 12 [[0],[1],[1,2],[1,2,3],[4],[4,5],[4,5,6],[1,2,3,4,5,6,7],r_ 9,r_ 10,r_ 9++[10],r_ 12,r_ 13] [_,_,_,K_ (.bool (decide (hi (a) < 0))),_,_,K_ (.bool (decide (hi (b) < 0))),K_ (.bool ((decide (hi (a) < 0)) != (decide (hi (b) < 0)))),_,_,_,none,_] (fun _=>[(5,vI e)]) (S:=[⟨2,11,fun _=>[vI (hi (v)),.int .u64 (lo (v))]⟩]) (s:=⟨ld3b 4 sh133,fa3 0,ld31 0 sh2,bi3,fa3 0,ld31 1 sh2,bi3,bi3 (h:=by intro env w;simp [go_sem];cases (decide (hi (a) < 0)) <;> cases (decide (hi (b) < 0)) <;> rfl),cl3 Tryz.func89 HS,xt3,xt3,se3 2 sh27,mv3⟩) (k:=fun E4 ac wd H_=>?_)
 refine lvCT3 (v:=vW v) Tryz.results68 H_ 2 (loadGc sh27 rfl ⟨rfl,rfl,trivial⟩) ?_
 exact ⟨rfl,H_.st.below⟩
theorem wmul_any (a b:Int) (ha:InW a) (hb:InW b):Ret 68 #[vW a,vW b] (vT2 (vW (fitV (a*b))) (vI (fitE (a*b)))):=by
  have hn:=neg_ab a b
  have h0:=(ab_in ha).1
  have h1:=(ab_in hb).1
  have h2:0≤ab a*ab b:=Int.mul_nonneg h0 h1
  by_cases hP:ab a*ab b / 340282366920938463463374607431768211456=0
  · have e:ab a*ab b % 340282366920938463463374607431768211456=ab a*ab b:=by omega
    have HS:=signed_any (ab a*ab b) (by unfold InM;omega) (mns a b)
    rw [hn] at HS
    exact wmul_small a b (ab a) (ab b) _ _ _ _ hP (size_any a ha) (size_any b hb) (lmul_any (ab a) (ab b) (ab_in ha) (ab_in hb)) (by rw [e];exact HS)
  · have hf:¬ InW (a*b):=by
      rw [← hn];unfold neg InW;split <;> omega
    rw [(fit_no hf).1,(fit_no hf).2]
    exact wmul_big a b (ab a) (ab b) _ _ hP (size_any a ha) (size_any b hb) (lmul_any (ab a) (ab b) (ab_in ha) (ab_in hb))
end Go.Proofs.YtailjojebdmnnaaGreat
namespace Go.Proofs.YtailjojebdmnnaaGreat
open Go.RowKit
attribute [local go_sem] vN bT bF vW vM vL vT2 vT3 vP vI execOp Act.eval evC hi_zero lo_zero Tryz.underlying133 Tryz.underlying27
theorem md_core (a b d sa sb H L n left v e q1 e1 rr:Int) (m lb bb:Bool) (res:Value) (HV:Ret 85 #[vW d] (.bool true)) (HA:Ret 87 #[vW a] (vM sa)) (HB:Ret 87 #[vW b] (vM sb)) (HL:Ret 86 #[vM sa,vM sb] (vT2 (vM H) (vM L))) (HD:Ret 66 #[vW d] (vM d)) (hm:(decide (hi a < 0) != decide (hi b < 0))=m) (HQ:Ret 88 #[vM H,vM L,vM d] (vT3 (vM n) (vM left) (.bool true))) (HS:Ret 89 #[vM n,.bool (m)] (vT2 (vW v) (vI e))) (HF:Ret 67 #[vM left] (vW left)) (HE:Ret 90 #[vW v] (.bool (lb))) (HO:Ret 31 #[vI 1] (vW 1)) (HW:e=0→left≠0→lb=false→Ret 78 #[vW v,vW 1] (vT2 (vW q1) (vI e1))) (HLS:Ret 91 #[vM d,vM left] (vT2 (vM rr) (.bool (bb)))) (HF2:e=0→left≠0→Ret 67 #[vM rr] (vW rr)) (hr1:e≠0→res=vT3 (vW v) (vW 0) (vI e)) (hr2:e=0→m=false∨left=0→res=vT3 (vW v) (vW left) (vI 0)) (hr3:e=0→left≠0→m=true→lb=true→res=vT3 (vW 0) (vW 0) (vI 2)) (hr4:e=0→left≠0→m=true→lb=false→res=vT3 (vW q1) (vW rr) (vI 0)):Ret 56 #[vW a,vW b,vW d] (res):=by
 intro w0
 have hst:=St.start w0 (Θ:=fun _=>True) (fun _ _=>trivial)
 refine en_ Tryz.func56 hst 91 [(0,vW a),(1,vW b),(2,vW d)] (fun ac H_=>?_)
 refine gq H_ 5 [[0],[1],[2],[3],[4],[5]] [_,_,_,_,_,_] (fun E1=>[(3,vP (pb E1 0) 0),(4,vP (pb E1 1) 0),(5,vP (pb E1 2) 0),(6,vP (pb E1 3) 0),(7,vP (pb E1 4) 0)]) (W:=[{ i:=0,T:=27,c0:=[vI (hi (a)),.int .u64 (lo (a))] },{ i:=1,T:=27,c0:=[vI (hi (b)),.int .u64 (lo (b))] },{ i:=2,T:=27,c0:=[vI (hi (d)),.int .u64 (lo (d))] },{ i:=3,T:=27,c0:=[vI 0,.int .u64 0] },{ i:=4,T:=27,c0:=[vI 0,.int .u64 0] }]) (s:=⟨bx3 0,bx3 1,bx3 2,al_ 3,al_ 4,mv3⟩) (k:=fun E1 ac wd H_=>?_)
 refine gq1 H_ 2 (tri 3) [_,_,bF] (fun _=>[(19,bF)]) (s:=⟨ld3b 2 sh27,cl3 Tryz.func85 HV,un3⟩) (k:=fun E2 ac wd H_=>?_)
 refine cF3 H_ ?_
 refine gq H_ 11 [[0],[0,1],[2],r_ 4,r_ 5,r_ 6,r_ 7,r_ 6++[7],[8],[9],r_ 7++[8,9,10],r_ 12] [_,_,_,_,_,_,_,_,_,_,none,none] (fun E3=>[(9,vP (pb E3 8) 0),(10,vP (pb E3 9) 0)]) (W:=[{ i:=8,T:=133,c0:=[.int .u64 0,.int .u64 0],s:=some 10,c1:=fun _=>[.int .u64 (hi (H)),.int .u64 (lo (H))] },{ i:=9,T:=133,c0:=[.int .u64 0,.int .u64 0],s:=some 11,c1:=fun _=>[.int .u64 (hi (L)),.int .u64 (lo (L))] }]) (s:=⟨ld3b 0 sh27,cl3 Tryz.func87 HA,ld3b 1 sh27,cl3 Tryz.func87 HB,cl3 Tryz.func86 HL,mv3,xt3,xt3,al_ 5,al_ 6,sw3 5 8 sh133,sw3 6 9 sh133⟩) (k:=fun E3 ac wd H_=>?_)
 refine gq H_ 13 [[0],[1],[2],[2,3],r_ 5,r_ 6,r_ 7,r_ 6++[7],r_ 6++[8],[9],[10],r_ 7++[9,10,11],r_ 8++[9,10,11,12],r_ 14] [_,_,_,_,_,_,_,_,_,_,_,none,none,_] (fun E4=>[(11,vP (pb E4 9) 0),(12,vP (pb E4 10) 0),(13,bT)]) (W:=[{ i:=9,T:=133,c0:=[.int .u64 0,.int .u64 0],s:=some 11,c1:=fun _=>[.int .u64 (hi (n)),.int .u64 (lo (n))] },{ i:=10,T:=133,c0:=[.int .u64 0,.int .u64 0],s:=some 12,c1:=fun _=>[.int .u64 (hi (left)),.int .u64 (lo (left))] }]) (s:=⟨ld3b 5 sh133,ld3b 6 sh133,ld3b 2 sh27,cl3 Tryz.func66 HD,cl3 Tryz.func88 HQ,mv3,xt3,xt3,xt3,al_ 7,al_ 8,sw3 7 9 sh133,sw3 8 10 sh133,mv3⟩) (k:=fun E4 ac wd H_=>?_)
 refine gq1 H_ 1 [[0],[0,1]] [_,bF] (fun _=>[(40,bF)]) (s:=⟨mv3,un3⟩) (k:=fun E5 ac wd H_=>?_)
 refine cF3 H_ ?_
 refine gq1 H_ 7 [[0],[0,1],[0,1,2],[3],[3,4],[3,4,5],r_ 7,r_ 8] [_,_,K_ (.bool (decide (hi (a) < 0))),_,_,K_ (.bool (decide (hi (b) < 0))),K_ (.bool (m)),_] (fun _=>[(14,.bool (m))]) (s:=⟨fa3 0,ld31 0 sh2,bi3,fa3 0,ld31 1 sh2,bi3,bi3 (h:=by intro env w;(first | (simp [go_sem,hm];done) | (simp [go_sem];rw [← hm];cases (decide (hi a < 0)) <;> cases (decide (hi b < 0)) <;> rfl))),mv3⟩) (k:=fun E6 ac wd H_=>?_)
 refine gq H_ 7 [[0],[1],[0,1,2],r_ 4,r_ 5,[0,1,2,3,5],[0,1,2,3,4,6],r_ 8] [_,_,_,_,_,_,none,_] (fun _=>[(8,vI e)]) (S:=[⟨3,6,fun _=>[vI (hi (v)),.int .u64 (lo (v))]⟩]) (s:=⟨ld3b 7 sh133,mv3,cl3 Tryz.func89 HS,mv3,xt3,xt3,se3 3 sh27,mv3⟩) (k:=fun E7 ac wd H_=>?_)
 refine gq1 H_ 1 [[0],[0,1]] [_,K_ (.bool (e != 0))] (fun _=>[(57,.bool (e != 0))]) (s:=⟨mv3,bi3⟩) (k:=fun E8 ac wd H_=>?_)
 refine cS3 H_ (fun h9=>?_) (fun h9=>?_)
 refine gq H_ 5 [[0],[1],[2],[0,3],[0,1,3,4],r_ 6] [_,_,_,none,none,_] (fun _=>[(8,vI e)]) (S:=[⟨3,3,fun _=>[vI (hi (v)),.int .u64 (lo (v))]⟩,⟨4,4,fun _=>[vI 0,.int .u64 0]⟩]) (s:=⟨ld3b 3 sh27,ld3b 4 sh27,mv3,se3 3 sh27,se3 4 sh27,mv3⟩) (k:=fun E9 ac wd H_=>?_)
 refine then_n (wp_ret (then_ret ?_))
 have s6:=H_.g (t:=6) rfl
 have hc6:=(H_.st.own 3 _ rfl).2
 have c6_0:=own_cell (o:=0) hc6 rfl
 have c6_1:=own_cell (o:=1) hc6 rfl
 have s7:=H_.g (t:=7) rfl
 have hc7:=(H_.st.own 4 _ rfl).2
 have c7_0:=own_cell (o:=0) hc7 rfl
 have c7_1:=own_cell (o:=1) hc7 rfl
 have s8:=H_.g (t:=8) rfl
 refine leave (v:=vT3 (vW v) (.agg #[vI 0,.int .u64 0]) (vI e)) H_.df (by simp [results,Tryz.results56,go_sem,Array.getD_eq_getD_getElem?,s6,c6_0,c6_1,Tryz.underlying27,s7,c7_0,c7_1,Tryz.underlying27,s8]) ?_
 exact ⟨congrArg Ending.returned (hr1 (by simpa using h9)).symm,H_.st.below⟩
 cases m
 refine gq1 H_ 6 (tri 4++[[0,1,2,4],r_ 6,r_ 7]) [_,bT,_,_,_,_,bT] (fun _=>[(67,bT)]) (s:=⟨mv3,un3,mv3,off_,off_,off_,pk3⟩) (k:=fun E9 ac wd H_=>?_)
 refine cT3 H_ ?_
 refine gq H_ 5 [[0],[1],[1,2],r_ 4,r_ 5,r_ 6] [_,_,_,none,none,_] (fun _=>[(8,vI 0)]) (S:=[⟨3,3,fun _=>[vI (hi (v)),.int .u64 (lo (v))]⟩,⟨4,4,fun _=>[vI (hi (left)),.int .u64 (lo (left))]⟩]) (s:=⟨ld3b 3 sh27,ld3b 8 sh133,cl3 Tryz.func67 HF,se3 3 sh27,se3 4 sh27,mv3⟩) (k:=fun E10 ac wd H_=>?_)
 refine then_n (wp_ret (then_ret ?_))
 have s6:=H_.g (t:=6) rfl
 have hc6:=(H_.st.own 3 _ rfl).2
 have c6_0:=own_cell (o:=0) hc6 rfl
 have c6_1:=own_cell (o:=1) hc6 rfl
 have s7:=H_.g (t:=7) rfl
 have hc7:=(H_.st.own 4 _ rfl).2
 have c7_0:=own_cell (o:=0) hc7 rfl
 have c7_1:=own_cell (o:=1) hc7 rfl
 have s8:=H_.g (t:=8) rfl
 refine leave (v:=vT3 (vW v) (vW left) (vI 0)) H_.df (by simp [results,Tryz.results56,go_sem,Array.getD_eq_getD_getElem?,s6,c6_0,c6_1,Tryz.underlying27,s7,c7_0,c7_1,Tryz.underlying27,s8]) ?_
 exact ⟨congrArg Ending.returned (hr2 (by simpa using h9) (.inl rfl)).symm,H_.st.below⟩
 by_cases hl:left=0
 subst hl
 refine gq1 H_ 6 (tri 4++[[0,1,2,4],r_ 6,r_ 7]) [_,bF,_,_,K_ (.agg #[.int .u64 0,.int .u64 0]),bT,bT] (fun _=>[(67,bT)]) (s:=⟨mv3,un3,mv3,ld3b 8 sh133,bd30,bi3 (h:=by intro env w;simp [go_sem,hi_zero,lo_zero]),pk3 (h:=by intro env w;simp [go_sem,hi_zero,lo_zero])⟩) (k:=fun E9 ac wd H_=>?_)
 refine cT3 H_ ?_
 refine gq H_ 5 [[0],[1],[1,2],r_ 4,r_ 5,r_ 6] [_,_,_,none,none,_] (fun _=>[(8,vI 0)]) (S:=[⟨3,3,fun _=>[vI (hi (v)),.int .u64 (lo (v))]⟩,⟨4,4,fun _=>[vI (hi (0)),.int .u64 (lo (0))]⟩]) (s:=⟨ld3b 3 sh27,ld3b 8 sh133,cl3 Tryz.func67 HF,se3 3 sh27,se3 4 sh27,mv3⟩) (k:=fun E10 ac wd H_=>?_)
 refine then_n (wp_ret (then_ret ?_))
 have s6:=H_.g (t:=6) rfl
 have hc6:=(H_.st.own 3 _ rfl).2
 have c6_0:=own_cell (o:=0) hc6 rfl
 have c6_1:=own_cell (o:=1) hc6 rfl
 have s7:=H_.g (t:=7) rfl
 have hc7:=(H_.st.own 4 _ rfl).2
 have c7_0:=own_cell (o:=0) hc7 rfl
 have c7_1:=own_cell (o:=1) hc7 rfl
 have s8:=H_.g (t:=8) rfl
 refine leave (v:=vT3 (vW v) (vW 0) (vI 0)) H_.df (by simp [results,Tryz.results56,go_sem,Array.getD_eq_getD_getElem?,s6,c6_0,c6_1,Tryz.underlying27,s7,c7_0,c7_1,Tryz.underlying27,s8]) ?_
 exact ⟨congrArg Ending.returned (hr2 (by simpa using h9) (.inr rfl)).symm,H_.st.below⟩
 have hne:=hilo0 hl
 refine gq1 H_ 6 (tri 4++[[0,1,2,4],r_ 6,r_ 7]) [_,bF,_,_,K_ (.agg #[.int .u64 0,.int .u64 0]),bF,bF] (fun _=>[(67,bF)]) (s:=⟨mv3,un3,mv3,ld3b 8 sh133,bd30,bi3 (h:=by intro env w;(first | (simp [go_sem];done) | (simp [go_sem];exact fun g1 g2=>hne ⟨g1,g2⟩))),pk3 (h:=by intro env w;(first | (simp [go_sem];done) | (simp [go_sem];exact fun g1 g2=>hne ⟨g1,g2⟩)))⟩) (k:=fun E9 ac wd H_=>?_)
 refine cF3 H_ ?_
 refine gq1 H_ 1 [[0],[0,1]] [_,_] (fun _=>[(72,.bool (lb))]) (s:=⟨ld3b 3 sh27,cl3 Tryz.func90 HE⟩) (k:=fun E10 ac wd H_=>?_)
 refine cS3 H_ (fun h13=>?_) (fun h13=>?_)
 refine gq H_ 4 [[0],[1],[0,2],r_ 4,r_ 5] [K_ (.agg #[vI 0,.int .u64 0]),K_ (.agg #[vI 0,.int .u64 0]),none,none,_] (fun _=>[(8,vI 2)]) (S:=[⟨3,2,fun _=>[vI 0,.int .u64 0]⟩,⟨4,3,fun _=>[vI 0,.int .u64 0]⟩]) (s:=⟨bd30,bd30,se3 3 sh27,se3 4 sh27,mv3⟩) (k:=fun E11 ac wd H_=>?_)
 refine then_n (wp_ret (then_ret ?_))
 have s6:=H_.g (t:=6) rfl
 have hc6:=(H_.st.own 3 _ rfl).2
 have c6_0:=own_cell (o:=0) hc6 rfl
 have c6_1:=own_cell (o:=1) hc6 rfl
 have s7:=H_.g (t:=7) rfl
 have hc7:=(H_.st.own 4 _ rfl).2
 have c7_0:=own_cell (o:=0) hc7 rfl
 have c7_1:=own_cell (o:=1) hc7 rfl
 have s8:=H_.g (t:=8) rfl
 refine leave (v:=vT3 (.agg #[vI 0,.int .u64 0]) (.agg #[vI 0,.int .u64 0]) (vI 2)) H_.df (by simp [results,Tryz.results56,go_sem,Array.getD_eq_getD_getElem?,s6,c6_0,c6_1,Tryz.underlying27,s7,c7_0,c7_1,Tryz.underlying27,s8]) ?_
 exact ⟨congrArg Ending.returned (hr3 (by simpa using h9) hl rfl (by simpa using h13)).symm,H_.st.below⟩
 refine gq H_ 6 [[0],[1],[0,1,2],r_ 4,r_ 5,[0,1,2,3,5],[0,1,2,3,4,6]] [_,_,_,_,_,_,none] (fun _=>[]) (S:=[⟨3,6,fun _=>[vI (hi (q1)),.int .u64 (lo (q1))]⟩]) (s:=⟨ld3b 3 sh27,cl3 Tryz.func31 HO,cl3 Tryz.func78 ((HW (by simpa using h9) hl (by simpa using h13))),mv3,xt3,xt3,se3 3 sh27⟩) (k:=fun E11 ac wd H_=>?_)
 refine gq H_ 9 [[0],[0,1],[2],r_ 4,r_ 5,r_ 6,[0,1,2,3,4,6],[7],r_ 6++[7,8],r_ 10] [_,_,_,_,_,_,_,_,none,_] (fun E12=>[(15,vP (pb E12 7) 0)]) (W:=[{ i:=7,T:=133,c0:=[.int .u64 0,.int .u64 0],s:=some 8,c1:=fun _=>[.int .u64 (hi (rr)),.int .u64 (lo (rr))] }]) (s:=⟨ld3b 2 sh27,cl3 Tryz.func66 HD,ld3b 8 sh133,cl3 Tryz.func91 HLS,mv3,xt3,xt3,al_ 9,sw3 9 7 sh133,mv3⟩) (k:=fun E12 ac wd H_=>?_)
 refine gq H_ 5 [[0],[1],[1,2],r_ 4,r_ 5,r_ 6] [_,_,_,none,none,_] (fun _=>[(8,vI 0)]) (S:=[⟨3,3,fun _=>[vI (hi (q1)),.int .u64 (lo (q1))]⟩,⟨4,4,fun _=>[vI (hi (rr)),.int .u64 (lo (rr))]⟩]) (s:=⟨ld3b 3 sh27,ld3b 9 sh133,cl3 Tryz.func67 ((HF2 (by simpa using h9) hl)),se3 3 sh27,se3 4 sh27,mv3⟩) (k:=fun E13 ac wd H_=>?_)
 refine then_n (wp_ret ?_)
 have s6:=H_.g (t:=6) rfl
 have hc6:=(H_.st.own 3 _ rfl).2
 have c6_0:=own_cell (o:=0) hc6 rfl
 have c6_1:=own_cell (o:=1) hc6 rfl
 have s7:=H_.g (t:=7) rfl
 have hc7:=(H_.st.own 4 _ rfl).2
 have c7_0:=own_cell (o:=0) hc7 rfl
 have c7_1:=own_cell (o:=1) hc7 rfl
 have s8:=H_.g (t:=8) rfl
 refine leave (v:=vT3 (vW q1) (vW rr) (vI 0)) H_.df (by simp [results,Tryz.results56,go_sem,Array.getD_eq_getD_getElem?,s6,c6_0,c6_1,Tryz.underlying27,s7,c7_0,c7_1,Tryz.underlying27,s8]) ?_
 exact ⟨congrArg Ending.returned (hr4 (by simpa using h9) hl rfl (by simpa using h13)).symm,H_.st.below⟩
end Go.Proofs.YtailjojebdmnnaaGreat
namespace Go.Proofs.YtailjojebdmnnaaGreat
open Go.RowKit
attribute [local go_sem] vN bT bF vW vM vL vT2 vT3 vP vI execOp Act.eval evC hi_zero lo_zero Tryz.underlying25 Tryz.underlying27 Tryz.underlying3
theorem div_of {x d q r:Int} (h0:0≤r) (h1:r < d) (e:r+d*q=x):x / d=q∧x % d=r:=(Int.ediv_emod_unique (by omega)).2 ⟨e,h0,h1⟩
theorem wmuldiv_fits (a b d:Int) (ha:InW a) (hb:InW b) (hd:InW d) (h0:0 < d) (hf:InW (a*b / d)):Ret 56 #[vW a,vW b,vW d] (vT3 (vW (a*b / d)) (vW (a*b % d)) (vI 0)):=by
  have hn:=neg_ab a b
  have hP0:0≤ab a*ab b:=Int.mul_nonneg (ab_in ha).1 (ab_in hb).1
  obtain ⟨P,hP⟩:∃ P,P=ab a*ab b:=⟨_,rfl⟩
  obtain ⟨m,hm⟩:∃ m,m=mns a b:=⟨_,rfl⟩
  rw [← hP,← hm] at hn
  rw [← hP] at hP0
  have hV:Ret 85 #[vW d] (.bool true):=fun w=>by have:=above_any d hd w;rwa [decide_eq_true h0] at this
  have hdm:d % 340282366920938463463374607431768211456=d:=by unfold InW at hd;omega
  have HD:Ret 66 #[vW d] (vM d):=fun w=>by have:=bits_any d w;rwa [hdm] at this
  have HL:=lmul_any (ab a) (ab b) (ab_in ha) (ab_in hb)
  rw [← hP] at HL
  have hMd:InM d:=by unfold InW at hd;unfold InM;omega
  have hq:=Int.mul_ediv_add_emod P d
  have hr0:=Int.emod_nonneg P (Int.ne_of_gt h0)
  have hr1:=Int.emod_lt_of_pos P h0
  have hnn:0≤P / d:=Int.ediv_nonneg hP0 (by omega)
  obtain ⟨n,hn'⟩:∃ n,n=P / d:=⟨_,rfl⟩
  obtain ⟨l,hl'⟩:∃ l,l=P % d:=⟨_,rfl⟩
  rw [← hn',← hl'] at hq
  rw [← hn'] at hnn
  rw [← hl'] at hr0 hr1
  have key:m=false∨l=0→a*b / d=neg m n∧a*b % d=l:=by
    intro h
    cases m with
    | false=>simp only [neg] at hn ⊢;exact div_of hr0 hr1 (by rw [← hn];simp;omega)
    | true =>
      have h:l=0:=by simpa using h
      subst h
      simp only [neg,if_true] at hn ⊢
      exact div_of (q:=-n) (r:=0) (Int.le_refl _) h0 (by rw [← hn,Int.mul_neg];omega)
  have key2:m=true→l≠0→a*b / d = -n-1∧a*b % d=d-l:=by
    intro h1 h2
    subst h1
    simp only [neg,if_true] at hn
    exact div_of (q:=-n-1) (r:=d-l) (by omega) (by omega) (by rw [← hn,Int.mul_sub,Int.mul_neg,Int.mul_one];omega)
  have hni:InW (neg m n)∧n≤170141183460469231731687303715884105728:=by
    by_cases h:m=false∨l=0
    · rw [(key h).1] at hf
      refine ⟨hf,?_⟩
      unfold neg InW at hf;split at hf <;> omega
    · have h1:m=true:=by cases m with | true=>rfl | false=>exact absurd (.inl rfl) h
      have h2:l≠0:=fun e=>h (.inr e)
      rw [(key2 h1 h2).1] at hf
      subst h1
      unfold InW at hf ⊢
      simp only [neg,if_true]
      omega
  have hH:P / 340282366920938463463374607431768211456 < d:=by
    rw [Int.ediv_lt_iff_lt_mul (by omega)]
    have h1:d*n≤d*170141183460469231731687303715884105728:=Int.mul_le_mul_of_nonneg_left hni.2 (by omega)
    omega
  have HQ:=ldiv_any (P / 340282366920938463463374607431768211456) (P % 340282366920938463463374607431768211456) d (by unfold InW at hd;unfold InM;omega) (by unfold InM;omega) hMd hH
  rw [show P / 340282366920938463463374607431768211456*340282366920938463463374607431768211456+P % 340282366920938463463374607431768211456=P by omega] at HQ
  rw [← hn',← hl'] at HQ
  have HS:=signed_any n (by unfold InM;omega) m
  rw [(fit_yes hni.1).1,(fit_yes hni.1).2] at HS
  refine md_core a b d (ab a) (ab b) _ _ n l (neg m n) 0 (fitV (neg m n-1)) (fitE (neg m n-1)) (d-l) m (decide (neg m n = -170141183460469231731687303715884105728)) (decide (d < l)) (vT3 (vW (a*b / d)) (vW (a*b % d)) (vI 0)) hV (size_any a ha) (size_any b hb) HL HD hm.symm HQ HS
    (fun w=>by have:=from_any l (by unfold InW at hd;unfold InM;omega) w;rwa [show sgn l=l by unfold InW at hd;unfold sgn;split <;> omega] at this) (least_any _ hni.1) (of_any 1 (by omega) (by omega)) (fun _ _ _=>wsub_any _ 1 hni.1 (by unfold InW;omega))
    (fun w=>by have:=lsub_any d l hMd (by unfold InW at hd;unfold InM;omega) w;rwa [show (d-l) % 340282366920938463463374607431768211456=d-l by unfold InW at hd;omega] at this)
    (fun _ _ w=>by have:=from_any (d-l) (by unfold InW at hd;unfold InM;omega) w;rwa [show sgn (d-l)=d-l by unfold InW at hd;unfold sgn;split <;> omega] at this) (fun h=>absurd rfl h) (fun _ h2=>?_) (fun _ h1 h2 h3=>?_) (fun _ h1 h2 h3=>?_)
  · rw [(key h2).1,(key h2).2]
  · exfalso
    rw [(key2 h2 h1).1] at hf
    have h3:=of_decide_eq_true h3
    subst h2
    simp only [neg,if_true] at h3
    unfold InW at hf
    omega
  · rw [(key2 h2 h1).1,(key2 h2 h1).2]
    rw [(key2 h2 h1).1] at hf
    subst h2
    simp only [neg,if_true]
    rw [(fit_yes hf).1]
theorem wdiv_core (a d q r:Int) (HM:Ret 56 #[vW a,vW 1,vW d] (vT3 (vW q) (vW r) (vI 0))):Ret 82 #[vW a,vW d] (vT3 (vW q) (vW r) (vI 0)):=by
 intro w0
 have hst:=St.start w0 (Θ:=fun _=>True) (fun _ _=>trivial)
 refine en_ Tryz.func82 hst 14 [(0,vW a),(1,vW d)] (fun ac H_=>?_)
 refine gq H_ 4 [[0],[1],[2],[3],[4]] [_,_,_,_,_] (fun E1=>[(2,vP (pb E1 0) 0),(3,vP (pb E1 1) 0),(4,vP (pb E1 2) 0),(5,vP (pb E1 3) 0)]) (W:=[{ i:=0,T:=27,c0:=[vI (hi (a)),.int .u64 (lo (a))] },{ i:=1,T:=27,c0:=[vI (hi (d)),.int .u64 (lo (d))] },{ i:=2,T:=27,c0:=[vI 0,.int .u64 0] },{ i:=3,T:=27,c0:=[vI 0,.int .u64 0] }]) (s:=⟨bx3 0,bx3 1,al_ 2,al_ 3,mv3⟩) (k:=fun E1 ac wd H_=>?_)
 refine gq H_ 9 [[0],[1],[2],r_ 4,r_ 5,[0,1,2,3,5],[0,1,2,3,6],r_ 8,r_ 9,r_ 10] [_,_,_,_,_,_,_,none,none,_] (fun _=>[(6,vI 0)]) (S:=[⟨2,7,fun _=>[vI (hi (q)),.int .u64 (lo (q))]⟩,⟨3,8,fun _=>[vI (hi (r)),.int .u64 (lo (r))]⟩]) (s:=⟨ld3b 0 sh27,cl3 Tryz.func31 ((of_any 1 (by omega) (by omega))),ld3b 1 sh27,cl3 Tryz.func56 HM,xt3,xt3,xt3,se3 2 sh27,se3 3 sh27,mv3⟩) (k:=fun E2 ac wd H_=>?_)
 refine then_n (wp_ret ?_)
 have s4:=H_.g (t:=4) rfl
 have hc4:=(H_.st.own 2 _ rfl).2
 have c4_0:=own_cell (o:=0) hc4 rfl
 have c4_1:=own_cell (o:=1) hc4 rfl
 have s5:=H_.g (t:=5) rfl
 have hc5:=(H_.st.own 3 _ rfl).2
 have c5_0:=own_cell (o:=0) hc5 rfl
 have c5_1:=own_cell (o:=1) hc5 rfl
 have s6:=H_.g (t:=6) rfl
 refine leave (v:=vT3 (vW q) (vW r) (vI 0)) H_.df (by simp [results,Tryz.results82,go_sem,Array.getD_eq_getD_getElem?,s4,c4_0,c4_1,Tryz.underlying27,s5,c5_0,c5_1,Tryz.underlying27,s6]) ?_
 exact ⟨rfl,H_.st.below⟩
theorem wdiv_any (a d:Int) (ha:InW a) (hd:InW d) (h0:0 < d):Ret 82 #[vW a,vW d] (vT3 (vW (a / d)) (vW (a % d)) (vI 0)):=by
  have hf:InW (a*1 / d):=by
    rw [Int.mul_one]
    unfold InW at *
    constructor
    · exact Int.le_ediv_of_mul_le h0 (by
        have:-170141183460469231731687303715884105728*d ≤ -170141183460469231731687303715884105728*1:=Int.mul_le_mul_of_nonpos_left (by omega) (by omega)
        omega)
    · rcases Int.lt_or_le a 0 with h | h
      · have:=Int.ediv_neg_of_neg_of_pos h h0;omega
      · have:=Int.ediv_le_self d h;omega
  have:=wdiv_core a d _ _ (wmuldiv_fits a 1 d ha (by unfold InW;omega) hd h0 hf)
  rw [Int.mul_one] at this
  exact this
theorem wint_yes (z:Int) (h0:-9223372036854775808≤z) (h1:z < 9223372036854775808):Ret 83 #[vW z] (vT2 (vI z) (vI 0)):=by
 have hn:IntKind.i64.wrap (lo z)=z:=by rw [IntKind.wrap_i64];unfold lo;omega
 intro w0
 have hst:=St.start w0 (Θ:=fun _=>True) (fun _ _=>trivial)
 refine en_ Tryz.func83 hst 13 [(0,vW z)] (fun ac H_=>?_)
 refine gq H_ 2 [[0],[1],[1,2]] [_,_,_] (fun E1=>[(1,vP (pb E1 0) 0)]) (W:=[{ i:=0,T:=27,c0:=[vI (hi (z)),.int .u64 (lo (z))] }]) (s:=⟨bx3 0,mv3,mv3⟩) (k:=fun E1 ac wd H_=>?_)
 refine gq1 H_ 3 (tri 4) [_,_,vI z,_] (fun _=>[(4,vI z)]) (s:=⟨fa3 1,ld31 0 sh25,cv3 (h:=by intro env w;simp [go_sem];exact hn),mv3⟩) (k:=fun E2 ac wd H_=>?_)
 refine gq1 H_ 3 [[0],[0,1],[2],r_ 4] [_,_,_,bT] (fun _=>[(11,bT)]) (s:=⟨mv3,cl3 Tryz.func31 ((of_any z h0 h1)),ld3b 0 sh27,bi3⟩) (k:=fun E3 ac wd H_=>?_)
 refine cT3 H_ ?_
 refine gq1 H_ 2 (tri 3) [_,_,_] (fun _=>[(2,vI z),(3,vI 0)]) (s:=⟨mv3,mv3,mv3⟩) (k:=fun E4 ac wd H_=>?_)
 refine then_n (wp_ret (then_ret ?_))
 have s2:=H_.g (t:=2) rfl
 have s3:=H_.g (t:=3) rfl
 refine leave (v:=vT2 (vI z) (vI 0)) H_.df (by simp [results,Tryz.results83,go_sem,Array.getD_eq_getD_getElem?,s2,s3]) ?_
 exact ⟨rfl,H_.st.below⟩
theorem wint_no (z:Int) (hz:InW z) (h:z < -9223372036854775808∨9223372036854775808≤z):Ret 83 #[vW z] (vT2 (vI 0) (vI 2)):=by
 obtain ⟨n,hn⟩:∃ n,IntKind.i64.wrap (lo z)=n:=⟨_,rfl⟩
 have hb:-9223372036854775808≤n∧n < 9223372036854775808:=by rw [← hn,IntKind.wrap_i64];omega
 have hc:hi n=hi z→lo n=lo z→False:=fun e1 e2=>by have:=int_eq_of e1 e2;omega
 intro w0
 have hst:=St.start w0 (Θ:=fun _=>True) (fun _ _=>trivial)
 refine en_ Tryz.func83 hst 13 [(0,vW z)] (fun ac H_=>?_)
 refine gq H_ 2 [[0],[1],[1,2]] [_,_,_] (fun E1=>[(1,vP (pb E1 0) 0)]) (W:=[{ i:=0,T:=27,c0:=[vI (hi (z)),.int .u64 (lo (z))] }]) (s:=⟨bx3 0,mv3,mv3⟩) (k:=fun E1 ac wd H_=>?_)
 refine gq1 H_ 3 (tri 4) [_,_,vI n,_] (fun _=>[(4,vI n)]) (s:=⟨fa3 1,ld31 0 sh25,cv3 (h:=by intro env w;simp [go_sem];exact hn),mv3⟩) (k:=fun E2 ac wd H_=>?_)
 refine gq1 H_ 3 [[0],[0,1],[2],r_ 4] [_,_,_,bF] (fun _=>[(11,bF)]) (s:=⟨mv3,cl3 Tryz.func31 ((of_any n hb.1 hb.2)),ld3b 0 sh27,bi3 (h:=by intro env w;(first | (simp [go_sem];done) | (simp [go_sem];exact hc)))⟩) (k:=fun E3 ac wd H_=>?_)
 refine cF3 H_ ?_
 refine gq1 H_ 1 [[0],[0,1]] [_,_] (fun _=>[(2,vI 0),(3,vI 2)]) (s:=⟨mv3,mv3⟩) (k:=fun E4 ac wd H_=>?_)
 refine then_n (wp_ret ?_)
 have s2:=H_.g (t:=2) rfl
 have s3:=H_.g (t:=3) rfl
 refine leave (v:=vT2 (vI 0) (vI 2)) H_.df (by simp [results,Tryz.results83,go_sem,Array.getD_eq_getD_getElem?,s2,s3]) ?_
 exact ⟨rfl,H_.st.below⟩
end Go.Proofs.YtailjojebdmnnaaGreat
namespace Go.Proofs.YtailjojebdmnnaaGreat
open Go.RowKit
attribute [local go_sem] vN bT bF vW vM vL vT2 vT3 vP vI execOp Act.eval evC hi_zero lo_zero Tryz.underlying27 Tryz.underlying39
def In64 (n:Int):Prop:=-9223372036854775808≤n∧n < 9223372036854775808
theorem mul_abs {a b A B:Int} (a0:-A≤a) (a1:a≤A) (b0:-B≤b) (b1:b≤B) (hB:0≤B):-(A*B)≤a*b∧a*b≤A*B:=by
 have hA:0≤A:=by omega
 have h1:0≤(A-a)*(B+b):=Int.mul_nonneg (by omega) (by omega)
 have h2:0≤(A+a)*(B-b):=Int.mul_nonneg (by omega) (by omega)
 have h3:0≤(A-a)*(B-b):=Int.mul_nonneg (by omega) (by omega)
 have h4:0≤(A+a)*(B+b):=Int.mul_nonneg (by omega) (by omega)
 rw [Int.sub_mul,Int.mul_add,Int.mul_add] at h1
 rw [Int.add_mul,Int.mul_sub,Int.mul_sub] at h2
 rw [Int.sub_mul,Int.mul_sub,Int.mul_sub] at h3
 rw [Int.add_mul,Int.mul_add,Int.mul_add] at h4
 constructor <;> omega
theorem mul_64 {a b:Int} (ha:In64 a) (hb:In64 b):InW (a*b):=by
 have:=mul_abs (a:=a) (b:=b) (A:=9223372036854775808) (B:=9223372036854775808) ha.1 (Int.le_of_lt ha.2) hb.1 (Int.le_of_lt hb.2) (by omega)
 unfold InW;omega
theorem times_core (a b v e:Int) (HA:Ret 31 #[vI a] (vW a)) (HB:Ret 31 #[vI b] (vW b)) (HM:Ret 68 #[vW a,vW b] (vT2 (vW v) (vI e))):Ret 73 #[vI a,vI b] (vW v):=by
 intro w0
 have hst:=St.start w0 (Θ:=fun _=>True) (fun _ _=>trivial)
 refine en_ Tryz.func73 hst 16 [(0,vI a),(1,vI b)] (fun ac H_=>?_)
 refine gq H_ 0 [[0]] [_] (fun E1=>[(4,vP (pb E1 0) 0)]) (W:=[{ i:=0,T:=27,c0:=[vI 0,.int .u64 0] }]) (s:=(al_ 0)) (k:=fun E1 ac wd H_=>?_)
 refine gq H_ 10 [[0],[0,1],[2],r_ 4,r_ 5,r_ 6,r_ 7,r_ 6++[7],[8],r_ 7++[8,9],r_ 11] [_,_,_,_,_,_,_,_,_,none,_] (fun E2=>[(5,vP (pb E2 8) 0)]) (W:=[{ i:=8,T:=27,c0:=[vI 0,.int .u64 0],s:=some 9,c1:=fun _=>[vI (hi (v)),.int .u64 (lo (v))] }]) (s:=⟨mv3,cl3 Tryz.func31 HA,mv3,cl3 Tryz.func31 HB,cl3 Tryz.func68 HM,mv3,xt3,xt3,al_ 1,sw3 1 8 sh27,mv3⟩) (k:=fun E2 ac wd H_=>?_)
 refine gq H_ 1 [[0],[0,1]] [_,none] (fun _=>[]) (S:=[⟨0,1,fun _=>[vI (hi (v)),.int .u64 (lo (v))]⟩]) (s:=⟨ld3b 1 sh27,se3 0 sh27⟩) (k:=fun E3 ac wd H_=>?_)
 refine lvC3 (v:=vW v) Tryz.results73 H_ 0 (loadGc sh27 rfl ⟨rfl,rfl,trivial⟩) ?_
 exact ⟨rfl,H_.st.below⟩
theorem times_any (a b:Int) (ha:In64 a) (hb:In64 b):Ret 73 #[vI a,vI b] (vW (a*b)):=by
 have h:=mul_64 ha hb
 have:=times_core a b _ _ (of_any a ha.1 ha.2) (of_any b hb.1 hb.2) (wmul_any a b (by unfold In64 at ha;unfold InW;omega) (by unfold In64 at hb;unfold InW;omega))
 rw [(fit_yes h).1] at this
 exact this
theorem plus_core (a b v e:Int) (HM:Ret 29 #[vW a,vW b] (vT2 (vW v) (vI e))):Ret 74 #[vW a,vW b] (vW v):=by
 intro w0
 have hst:=St.start w0 (Θ:=fun _=>True) (fun _ _=>trivial)
 refine en_ Tryz.func74 hst 14 [(0,vW a),(1,vW b)] (fun ac H_=>?_)
 refine gq H_ 2 [[0],[1],[2]] [_,_,_] (fun E1=>[(2,vP (pb E1 0) 0),(3,vP (pb E1 1) 0),(4,vP (pb E1 2) 0)]) (W:=[{ i:=0,T:=27,c0:=[vI (hi (a)),.int .u64 (lo (a))] },{ i:=1,T:=27,c0:=[vI (hi (b)),.int .u64 (lo (b))] },{ i:=2,T:=27,c0:=[vI 0,.int .u64 0] }]) (s:=⟨bx3 0,bx3 1,al_ 2⟩) (k:=fun E1 ac wd H_=>?_)
 refine gq H_ 8 [[0],[1],[0,1,2],r_ 4,r_ 5,[0,1,2,3,5],[6],[0,1,2,3,4,6,7],r_ 9] [_,_,_,_,_,_,_,none,_] (fun E2=>[(5,vP (pb E2 6) 0)]) (W:=[{ i:=6,T:=27,c0:=[vI 0,.int .u64 0],s:=some 7,c1:=fun _=>[vI (hi (v)),.int .u64 (lo (v))] }]) (s:=⟨ld3b 0 sh27,ld3b 1 sh27,cl3 Tryz.func29 HM,mv3,xt3,xt3,al_ 3,sw3 3 6 sh27,mv3⟩) (k:=fun E2 ac wd H_=>?_)
 refine gq H_ 1 [[0],[0,1]] [_,none] (fun _=>[]) (S:=[⟨2,1,fun _=>[vI (hi (v)),.int .u64 (lo (v))]⟩]) (s:=⟨ld3b 3 sh27,se3 2 sh27⟩) (k:=fun E3 ac wd H_=>?_)
 refine lvC3 (v:=vW v) Tryz.results74 H_ 2 (loadGc sh27 rfl ⟨rfl,rfl,trivial⟩) ?_
 exact ⟨rfl,H_.st.below⟩
theorem plus_any (a b:Int) (ha:InW a) (hb:InW b) (h:InW (a+b)):Ret 74 #[vW a,vW b] (vW (a+b)):=by
 have:=plus_core a b _ _ (wadd_any a b ha hb)
 rw [(fit_yes h).1] at this
 exact this
theorem less_core (a b v e:Int) (HM:Ret 78 #[vW a,vW b] (vT2 (vW v) (vI e))):Ret 75 #[vW a,vW b] (vW v):=by
 intro w0
 have hst:=St.start w0 (Θ:=fun _=>True) (fun _ _=>trivial)
 refine en_ Tryz.func75 hst 14 [(0,vW a),(1,vW b)] (fun ac H_=>?_)
 refine gq H_ 2 [[0],[1],[2]] [_,_,_] (fun E1=>[(2,vP (pb E1 0) 0),(3,vP (pb E1 1) 0),(4,vP (pb E1 2) 0)]) (W:=[{ i:=0,T:=27,c0:=[vI (hi (a)),.int .u64 (lo (a))] },{ i:=1,T:=27,c0:=[vI (hi (b)),.int .u64 (lo (b))] },{ i:=2,T:=27,c0:=[vI 0,.int .u64 0] }]) (s:=⟨bx3 0,bx3 1,al_ 2⟩) (k:=fun E1 ac wd H_=>?_)
 refine gq H_ 8 [[0],[1],[0,1,2],r_ 4,r_ 5,[0,1,2,3,5],[6],[0,1,2,3,4,6,7],r_ 9] [_,_,_,_,_,_,_,none,_] (fun E2=>[(5,vP (pb E2 6) 0)]) (W:=[{ i:=6,T:=27,c0:=[vI 0,.int .u64 0],s:=some 7,c1:=fun _=>[vI (hi (v)),.int .u64 (lo (v))] }]) (s:=⟨ld3b 0 sh27,ld3b 1 sh27,cl3 Tryz.func78 HM,mv3,xt3,xt3,al_ 3,sw3 3 6 sh27,mv3⟩) (k:=fun E2 ac wd H_=>?_)
 refine gq H_ 1 [[0],[0,1]] [_,none] (fun _=>[]) (S:=[⟨2,1,fun _=>[vI (hi (v)),.int .u64 (lo (v))]⟩]) (s:=⟨ld3b 3 sh27,se3 2 sh27⟩) (k:=fun E3 ac wd H_=>?_)
 refine lvC3 (v:=vW v) Tryz.results75 H_ 2 (loadGc sh27 rfl ⟨rfl,rfl,trivial⟩) ?_
 exact ⟨rfl,H_.st.below⟩
theorem less_any (a b:Int) (ha:InW a) (hb:InW b) (h:InW (a-b)):Ret 75 #[vW a,vW b] (vW (a-b)):=by
 have:=less_core a b _ _ (wsub_any a b ha hb)
 rw [(fit_yes h).1] at this
 exact this
theorem count_core (d s x:Int) (hd:-1099511627777≤d) (hd1:d≤1099511627777) (hs:-1000000≤s) (hs1:s≤1000000) (hx:0≤x) (hx1:x < 1000000000000000000):Ret 45 #[vL d s x] (vW ((d*86400+s)*1000000000000000000+x)):=by
 intro w0
 have hst:=St.start w0 (Θ:=fun _=>True) (fun _ _=>trivial)
 refine en_ Tryz.func45 hst 14 [(0,vL d s x)] (fun ac H_=>?_)
 refine gq H_ 1 [[0],[1]] [_,_] (fun E1=>[(1,vP (pb E1 0) 0),(2,vP (pb E1 1) 0)]) (W:=[{ i:=0,T:=39,c0:=[vI d,vI s,vI x] },{ i:=1,T:=27,c0:=[vI 0,.int .u64 0] }]) (s:=⟨bx3 0,al_ 1⟩) (k:=fun E1 ac wd H_=>?_)
 refine gq H_ 11 [[0],[0,1],[0,1,2],[3],[3,4],r_ 6,r_ 7,[7],[7,8],r_ 10,r_ 11,r_ 12] [_,_,vI (d*86400),_,_,vI ((d*86400)+s),_,_,_,_,_,none] (fun _=>[]) (S:=[⟨1,11,fun _=>[vI (hi ((d*86400+s)*1000000000000000000+x)),.int .u64 (lo ((d*86400+s)*1000000000000000000+x))]⟩]) (s:=⟨fa3 0,ld31 0 sh3,bi3,fa3 1,ld31 0 sh3,bi3,cl3 Tryz.func73 ((times_any (d*86400+s) 1000000000000000000 (by unfold In64;omega) (by unfold In64;omega))),fa3 2,ld31 0 sh3,cl3 Tryz.func31 ((of_any x (by omega) (by omega))),cl4 Tryz.func74 (h:=(plus_any _ x (by unfold InW;omega) (by unfold InW;omega) (by unfold InW;omega))),se3 1 sh27⟩) (k:=fun E2 ac wd H_=>?_)
 refine lvC3 (v:=vW ((d*86400+s)*1000000000000000000+x)) Tryz.results45 H_ 1 (loadGc sh27 rfl ⟨rfl,rfl,trivial⟩) ?_
 exact ⟨rfl,H_.st.below⟩
theorem rcount_any (d s x:Int) (hd:-1099511627777≤d) (hd1:d≤1099511627777) (hs:-1000000≤s) (hs1:s≤1000000) (hx:0≤x) (hx1:x < 1000000000000000000):Ret 45 #[vL d s x] (vW (jn d s x)):=count_core d s x hd hd1 hs hs1 hx hx1
theorem begin_any (d:Int) (hd:-1099511627777≤d) (hd1:d≤1099511627777):Ret 44 #[vI d] (vW (jn d 0 0)):=by
 intro w0
 have hst:=St.start w0 (Θ:=fun _=>True) (fun _ _=>trivial)
 refine en_ Tryz.func44 hst 6 [(0,vI d)] (fun ac H_=>?_)
 refine gq H_ 0 [[0]] [_] (fun E1=>[(2,vP (pb E1 0) 0)]) (W:=[{ i:=0,T:=27,c0:=[vI 0,.int .u64 0] }]) (s:=(al_ 0)) (k:=fun E1 ac wd H_=>?_)
 refine gq H_ 3 (tri 4) [_,vL d 0 0,_,none] (fun _=>[]) (S:=[⟨0,3,fun _=>[vI (hi (jn d 0 0)),.int .u64 (lo (jn d 0 0))]⟩]) (s:=⟨mv3,bd31,cl3 Tryz.func45 ((rcount_any d 0 0 hd hd1 (by omega) (by omega) (by omega) (by omega))),se3 0 sh27⟩) (k:=fun E2 ac wd H_=>?_)
 refine lvC3 (v:=vW (jn d 0 0)) Tryz.results44 H_ 0 (loadGc sh27 rfl ⟨rfl,rfl,trivial⟩) ?_
 exact ⟨rfl,H_.st.below⟩
def wthn (n l u:Int):Bool:=decide (l≤n) && decide (n≤u)
theorem within_core (n l u:Int):Ret 72 #[vI n,vI l,vI u] (.bool (decide (l≤n) && decide (n≤u))):=by
 intro w0
 have hst:=St.start w0 (Θ:=fun _=>True) (fun _ _=>trivial)
 refine en_ Tryz.func72 hst 15 [(0,vI n),(1,vI l),(2,vI u)] (fun ac H_=>?_)
 refine gq0 H_ 0 [[0]] [_] (s:=mv3) (k:=fun E1 ac wd H_=>?_)
 by_cases h:l≤n
 refine gq1 H_ 8 [[0],[1],[0,1,2],r_ 4,r_ 5,[0,1,2,3,5],r_ 7,r_ 8,r_ 9] [_,_,bT,_,_,_,K_ (.bool (decide (n≤u))),K_ (.bool (decide (n≤u))),_] (fun _=>[(6,.bool (decide (n≤u)))]) (s:=⟨mv3,mv3,bi3 (h:=by intro env w;simp [go_sem,h]),mv3,gm3,gm3,bi3,pk3,mv3⟩) (k:=fun E2 ac wd H_=>?_)
 refine lvT3 Tryz.results72 H_ ?_
 exact ⟨by simp [h],H_.st.below⟩
 refine gq1 H_ 8 [[0],[1],[0,1,2],r_ 4,r_ 5,[0,1,2,3,5],r_ 7,r_ 8,r_ 9] [_,_,bF,_,_,_,_,bF,_] (fun _=>[(6,bF)]) (s:=⟨mv3,mv3,bi3 (h:=by intro env w;simp [go_sem,h]),mv3,off_,off_,off_,pk3,mv3⟩) (k:=fun E2 ac wd H_=>?_)
 refine lvT3 Tryz.results72 H_ ?_
 exact ⟨by simp [h],H_.st.below⟩
theorem rwithin_any (n l u:Int):Ret 72 #[vI n,vI l,vI u] (.bool (wthn n l u)):=within_core n l u
def formB (s x:Int):Bool:=wthn s 0 86400 && wthn x 0 999999999999999999
end Go.Proofs.YtailjojebdmnnaaGreat
namespace Go.Proofs.YtailjojebdmnnaaGreat
open Go.RowKit
attribute [local go_sem] vN bT bF vW vM vL vT2 vT3 vP vI execOp Act.eval evC hi_zero lo_zero Tryz.underlying111 Tryz.underlying113 Tryz.underlying27 Tryz.underlying39
abbrev vPc (d b f r e u:Int):Value:=.agg #[vI d,vI (hi b),.int .u64 (lo b),vI (hi f),.int .u64 (lo f),vI (hi dayA),.int .u64 (lo dayA),vI (hi (dayA+r)),.int .u64 (lo (dayA+r)),vI (hi r),.int .u64 (lo r),vI (hi e),.int .u64 (lo e),vI u]
attribute [local go_sem] vPc
theorem congrArg2 {α β γ:Type} (f:α→β→γ) {a a':α} {b b':β} (h1:a=a') (h2:b=b'):f a b=f a' b':=by rw [h1,h2]
theorem dayA_eq:jn 1 0 0=dayA:=by unfold jn dayA;omega
theorem dayA_pos:0 < dayA:=by unfold dayA;omega
theorem share {x r L:Int} (hr:0≤r) (hL:r≤L) (h0:0 < L):(0≤x→0≤x*r / L∧x*r / L≤x)∧(x < 0→x≤x*r / L∧x*r / L≤0):=by
  constructor
  · intro hx
    refine ⟨Int.ediv_nonneg (Int.mul_nonneg hx hr) (by omega),?_⟩
    have h1:x*r≤x*L:=Int.mul_le_mul_of_nonneg_left hL hx
    exact Int.ediv_le_of_le_mul h0 h1
  · intro hx
    have h1:x*L≤x*r:=Int.mul_le_mul_of_nonpos_left (by omega) hL
    refine ⟨Int.le_ediv_of_mul_le h0 h1,?_⟩
    have h2:x*r≤0:=Int.mul_nonpos_of_nonpos_of_nonneg (by omega) hr
    exact Int.ediv_le_of_le_mul h0 (by omega)
theorem share_bd {x r L B:Int} (hr:0≤r) (hL:r≤L) (h0:0 < L) (h1:-B≤x) (h2:x≤B):-B≤x*r / L∧x*r / L≤B:=by
  have h:=share (x:=x) hr hL h0
  rcases Int.lt_or_le x 0 with hx | hx
  · have:=h.2 hx;omega
  · have:=h.1 hx;omega
theorem cut_core (d b f r:Int) (hd:-1048576≤d) (hd1:d≤1048576) (hb:-1000000000≤b) (hb1:b≤1000000000) (hf:-1048576≤f) (hf1:f≤1048576) (hr:0≤r) (hr1:r≤1000000):Ret 42 #[.agg #[vI d,vI b,vI f,vI r]] (vPc d (b*100000000000) (jn f 0 0) (r*100000000000) 0 0):=by
 intro w0
 have hst:=St.start w0 (Θ:=fun _=>True) (fun _ _=>trivial)
 refine en_ Tryz.func42 hst 24 [(0,.agg #[vI d,vI b,vI f,vI r])] (fun ac H_=>?_)
 refine gq H_ 1 [[0],[1]] [_,_] (fun E1=>[(1,vP (pb E1 0) 0),(2,vP (pb E1 1) 0)]) (W:=[{ i:=0,T:=111,c0:=[vI d,vI b,vI f,vI r] },{ i:=1,T:=113,c0:=[vI 0,vI 0,.int .u64 0,vI 0,.int .u64 0,vI 0,.int .u64 0,vI 0,.int .u64 0,vI 0,.int .u64 0,vI 0,.int .u64 0,vI 0] }]) (s:=⟨bx3 0,al_ 1⟩) (k:=fun E1 ac wd H_=>?_)
 refine gq H_ 14 [[0],[0,1],[2],[2,3],[2,3,4],[5],[5,6],[2,3,4,5,6,7],[2,3,4,5,6,7,8],[9],[9,10],[2,3,4,5,6,7,8,9,10,11],r_ 13,[13],r_ 15] [_,_,_,_,_,_,_,_,_,_,_,_,K_ (.agg #[vI d,vI (hi (b*100000000000)),.int .u64 (lo (b*100000000000)),vI (hi (jn f 0 0)),.int .u64 (lo (jn f 0 0)),vI (hi (dayA)),.int .u64 (lo (dayA)),vI 0,.int .u64 0,vI (hi (r*100000000000)),.int .u64 (lo (r*100000000000)),vI 0,.int .u64 0,vI 0]),_,none] (fun E2=>[(3,vP (pb E2 13) 0)]) (W:=[{ i:=13,T:=113,c0:=[vI 0,vI 0,.int .u64 0,vI 0,.int .u64 0,vI 0,.int .u64 0,vI 0,.int .u64 0,vI 0,.int .u64 0,vI 0,.int .u64 0,vI 0],s:=some 14,c1:=fun _=>[vI d,vI (hi (b*100000000000)),.int .u64 (lo (b*100000000000)),vI (hi (jn f 0 0)),.int .u64 (lo (jn f 0 0)),vI (hi (dayA)),.int .u64 (lo (dayA)),vI 0,.int .u64 0,vI (hi (r*100000000000)),.int .u64 (lo (r*100000000000)),vI 0,.int .u64 0,vI 0] }]) (s:=⟨fa3 0,ld31 0 sh3,fa3 1,ld31 0 sh3,cl3 Tryz.func73 ((times_any b 100000000000 (by unfold In64;omega) (by unfold In64;omega))),fa3 2,ld31 0 sh3,cl3 Tryz.func44 ((begin_any f (by omega) (by omega))),cl3 Tryz.func44 (((begin_any 1 (by omega) (by omega)).eq (congrArg vW dayA_eq))),fa3 3,ld31 0 sh3,cl3 Tryz.func73 ((times_any r 100000000000 (by unfold In64;omega) (by unfold In64;omega))),bd0 ([vI d,vW (b*100000000000),vW (jn f 0 0),vW dayA,vW (r*100000000000)]),al_ 2,sw3 2 13 sh113⟩) (k:=fun E2 ac wd H_=>?_)
 refine gq H_ 6 [[0],[0,1],[2],[2,3],r_ 5,r_ 6,r_ 7] [_,_,_,_,_,_,none] (fun _=>[]) (S:=[⟨2,6,fun _=>[vI d,vI (hi (b*100000000000)),.int .u64 (lo (b*100000000000)),vI (hi (jn f 0 0)),.int .u64 (lo (jn f 0 0)),vI (hi (dayA)),.int .u64 (lo (dayA)),vI (hi (dayA+r*100000000000)),.int .u64 (lo (dayA+r*100000000000)),vI (hi (r*100000000000)),.int .u64 (lo (r*100000000000)),vI 0,.int .u64 0,vI 0]⟩]) (s:=⟨fa3 5,ld3b 2 sh27,fa3 9,ld3b 2 sh27,cl3 Tryz.func74 ((plus_any dayA (r*100000000000) (by unfold InW dayA;omega) (by unfold InW;omega) (by unfold InW dayA;omega))),fa3 7,se3 2 sh27⟩) (k:=fun E3 ac wd H_=>?_)
 refine gq H_ 1 [[0],[0,1]] [vPc d (b*100000000000) (jn f 0 0) (r*100000000000) 0 0,none] (fun _=>[]) (S:=[⟨1,1,fun _=>[vI d,vI (hi (b*100000000000)),.int .u64 (lo (b*100000000000)),vI (hi (jn f 0 0)),.int .u64 (lo (jn f 0 0)),vI (hi (dayA)),.int .u64 (lo (dayA)),vI (hi (dayA+r*100000000000)),.int .u64 (lo (dayA+r*100000000000)),vI (hi (r*100000000000)),.int .u64 (lo (r*100000000000)),vI 0,.int .u64 0,vI 0]⟩]) (s:=⟨ld_ 2 (hrd:=by exact rd113 rfl rfl rfl rfl rfl rfl rfl rfl rfl rfl rfl rfl rfl rfl),se3 1 sh113⟩) (k:=fun E4 ac wd H_=>?_)
 refine lvC3 (v:=vPc d (b*100000000000) (jn f 0 0) (r*100000000000) 0 0) Tryz.results42 H_ 1 (loadGc sh113 rfl ⟨rfl,rfl,rfl,rfl,rfl,rfl,rfl,rfl,rfl,rfl,rfl,rfl,rfl,rfl,trivial⟩) ?_
 exact ⟨rfl,H_.st.below⟩
def PcOk (b f r:Int):Prop:=(-100000000000000000000≤b∧b≤100000000000000000000)∧(-100000000000000000000000000000≤f∧f≤100000000000000000000000000000)∧0≤r∧r≤100000000000000000
def Near (u:Int):Prop:=-1000000000000000000000000000000≤u∧u≤1000000000000000000000000000000
theorem PcOk.rd {b f r:Int} (h:PcOk b f r):r≤dayA:=by unfold PcOk at h;unfold dayA;omega
theorem gain_bd {b f r u:Int} (h:PcOk b f r) (hu:Near u):-2000000000000000000000000000000≤(u-f)*r / dayA∧(u-f)*r / dayA≤2000000000000000000000000000000:=by
 have:=share_bd (x:=u-f) (B:=2000000000000000000000000000000) h.2.2.1 h.rd dayA_pos (by unfold PcOk at h;unfold Near at hu;omega) (by unfold PcOk at h;unfold Near at hu;omega)
 exact this
theorem pat_core (d b f r e t u:Int) (hp:PcOk b f r) (hu:Near u):Ret 43 #[vPc d b f r e t,vW u] (vW (u+b+(u-f)*r / dayA)):=by
 have hg:=gain_bd hp hu
 unfold PcOk at hp
 unfold Near at hu
 have hd0:=dayA_pos
 have hd1:dayA=86400000000000000000000:=rfl
 intro w0
 have hst:=St.start w0 (Θ:=fun _=>True) (fun _ _=>trivial)
 refine en_ Tryz.func43 hst 27 [(0,vPc d b f r e t),(1,vW u)] (fun ac H_=>?_)
 refine gq H_ 2 [[0],[1],[2]] [_,_,_] (fun E1=>[(2,vP (pb E1 0) 0),(3,vP (pb E1 1) 0),(4,vP (pb E1 2) 0)]) (W:=[{ i:=0,T:=113,c0:=[vI d,vI (hi (b)),.int .u64 (lo (b)),vI (hi (f)),.int .u64 (lo (f)),vI (hi (dayA)),.int .u64 (lo (dayA)),vI (hi (dayA+r)),.int .u64 (lo (dayA+r)),vI (hi (r)),.int .u64 (lo (r)),vI (hi (e)),.int .u64 (lo (e)),vI t] },{ i:=1,T:=27,c0:=[vI (hi (u)),.int .u64 (lo (u))] },{ i:=2,T:=27,c0:=[vI 0,.int .u64 0] }]) (s:=⟨bx3 0,bx3 1,al_ 2⟩) (k:=fun E1 ac wd H_=>?_)
 refine gq H_ 17 [[0],[1],[1,2],r_ 4,[4],[4,5],[6],[6,7],r_ 9,r_ 10,r_ 11,r_ 10++[11],r_ 10++[12],[13],[14],r_ 11++[13,14,15],r_ 12++[13,14,15,16],r_ 18] [_,_,_,_,_,_,_,_,_,_,_,_,_,_,_,none,none,_] (fun E2=>[(5,vP (pb E2 13) 0)]) (W:=[{ i:=13,T:=27,c0:=[vI 0,.int .u64 0],s:=some 15,c1:=fun _=>[vI (hi ((u-f)*r / dayA)),.int .u64 (lo ((u-f)*r / dayA))] },{ i:=14,T:=27,c0:=[vI 0,.int .u64 0],s:=some 16,c1:=fun _=>[vI (hi ((u-f)*r % dayA)),.int .u64 (lo ((u-f)*r % dayA))] }]) (s:=⟨ld3b 1 sh27,fa3 3,ld3b 0 sh27,cl3 Tryz.func75 ((less_any u f (by unfold InW;omega) (by unfold InW;omega) (by unfold InW;omega))),fa3 9,ld3b 0 sh27,fa3 5,ld3b 0 sh27,cl3 Tryz.func56 ((wmuldiv_fits (u-f) r dayA (by unfold InW;omega) (by unfold InW;omega) (by unfold InW;omega) (by omega) (by unfold InW;omega))),mv3,xt3,xt3,xt3,al_ 3,al_ 4,sw3 3 13 sh27,sw3 4 14 sh27,mv3⟩) (k:=fun E2 ac wd H_=>?_)
 refine gq H_ 6 [[0],[1],[1,2],r_ 4,[4],r_ 6,r_ 7] [_,_,_,_,_,_,none] (fun _=>[]) (S:=[⟨2,6,fun _=>[vI (hi (u+b+(u-f)*r / dayA)),.int .u64 (lo (u+b+(u-f)*r / dayA))]⟩]) (s:=⟨ld3b 1 sh27,fa3 1,ld3b 0 sh27,cl3 Tryz.func74 ((plus_any u b (by unfold InW;omega) (by unfold InW;omega) (by unfold InW;omega))),ld3b 3 sh27,cl3 Tryz.func74 ((plus_any (u+b) ((u-f)*r / dayA) (by unfold InW;omega) (by unfold InW;omega) (by unfold InW;omega))),se3 2 sh27⟩) (k:=fun E3 ac wd H_=>?_)
 refine lvC3 (v:=vW (u+b+(u-f)*r / dayA)) Tryz.results43 H_ 2 (loadGc sh27 rfl ⟨rfl,rfl,trivial⟩) ?_
 exact ⟨rfl,H_.st.below⟩
theorem pat_any (d b f r e t u:Int) (hp:PcOk b f r) (hu:Near u):Ret 43 #[vPc d b f r e t,vW u] (vW (fA b f r u)):=pat_core d b f r e t u hp hu
theorem back_core (d b f r e u t q rm res:Int) (hp:PcOk b f r) (ht:Near t) (hq0:-4000000000000000000000000000000≤q) (hq1:q≤4000000000000000000000000000000) (hres:res=if rm=0 then q-1+f else q+f) (HM:Ret 56 #[vW (t-b-f+1),vW dayA,vW (dayA+r)] (vT3 (vW q) (vW rm) (vI 0))):Ret 96 #[vPc d b f r e u,vW t] (vW res):=by
 unfold PcOk at hp
 unfold Near at ht
 intro w0
 have hst:=St.start w0 (Θ:=fun _=>True) (fun _ _=>trivial)
 refine en_ Tryz.func96 hst 38 [(0,vPc d b f r e u),(1,vW t)] (fun ac H_=>?_)
 refine gq H_ 2 [[0],[1],[2]] [_,_,_] (fun E1=>[(2,vP (pb E1 0) 0),(3,vP (pb E1 1) 0),(4,vP (pb E1 2) 0)]) (W:=[{ i:=0,T:=113,c0:=[vI d,vI (hi (b)),.int .u64 (lo (b)),vI (hi (f)),.int .u64 (lo (f)),vI (hi (dayA)),.int .u64 (lo (dayA)),vI (hi (dayA+r)),.int .u64 (lo (dayA+r)),vI (hi (r)),.int .u64 (lo (r)),vI (hi (e)),.int .u64 (lo (e)),vI u] },{ i:=1,T:=27,c0:=[vI (hi (t)),.int .u64 (lo (t))] },{ i:=2,T:=27,c0:=[vI 0,.int .u64 0] }]) (s:=⟨bx3 0,bx3 1,al_ 2⟩) (k:=fun E1 ac wd H_=>?_)
 refine gq H_ 8 [[0],[1],[1,2],r_ 4,[4],[4,5],r_ 7,[7],r_ 9] [_,_,_,_,_,_,_,_,none] (fun E2=>[(5,vP (pb E2 7) 0)]) (W:=[{ i:=7,T:=27,c0:=[vI 0,.int .u64 0],s:=some 8,c1:=fun _=>[vI (hi (t-b-f)),.int .u64 (lo (t-b-f))] }]) (s:=⟨ld3b 1 sh27,fa3 1,ld3b 0 sh27,cl3 Tryz.func75 ((less_any t b (by unfold InW;omega) (by unfold InW;omega) (by unfold InW;omega))),fa3 3,ld3b 0 sh27,cl3 Tryz.func75 ((less_any (t-b) f (by unfold InW;omega) (by unfold InW;omega) (by unfold InW;omega))),al_ 3,sw3 3 7 sh27⟩) (k:=fun E2 ac wd H_=>?_)
 refine gq H_ 16 [[0],[1],[0,1,2],[3],[3,4],[5],[5,6],r_ 8,r_ 9,r_ 10,r_ 9++[10],r_ 9++[11],[12],[13],r_ 10++[12,13,14],r_ 11++[12,13,14,15],r_ 17] [_,_,_,_,_,_,_,_,_,_,_,_,_,_,none,none,_] (fun E3=>[(6,vP (pb E3 12) 0),(7,vP (pb E3 13) 0)]) (W:=[{ i:=12,T:=27,c0:=[vI 0,.int .u64 0],s:=some 14,c1:=fun _=>[vI (hi (q)),.int .u64 (lo (q))] },{ i:=13,T:=27,c0:=[vI 0,.int .u64 0],s:=some 15,c1:=fun _=>[vI (hi (rm)),.int .u64 (lo (rm))] }]) (s:=⟨ld3b 3 sh27,cl3 Tryz.func31 ((of_any 1 (by omega) (by omega))),cl3 Tryz.func74 ((plus_any (t-b-f) 1 (by unfold InW;omega) (by unfold InW;omega) (by unfold InW;omega))),fa3 5,ld3b 0 sh27,fa3 7,ld3b 0 sh27,cl3 Tryz.func56 HM,mv3,xt3,xt3,xt3,al_ 4,al_ 5,sw3 4 12 sh27,sw3 5 13 sh27,mv3⟩) (k:=fun E3 ac wd H_=>?_)
 by_cases hz:rm=0
 have hz2:=hz
 refine gq1 H_ 2 [[0],[1],[0,1,2]] [_,K_ (.agg #[vI 0,.int .u64 0]),bT] (fun _=>[(30,bT)]) (s:=⟨ld3b 5 sh27,bd30,bi3 (h:=by intro env w;simp [go_sem,hz,hi_zero,lo_zero])⟩) (k:=fun E4 ac wd H_=>?_)
 refine cT3 H_ ?_
 refine gq H_ 3 [[0],[1],[0,1,2],r_ 4] [_,_,_,none] (fun _=>[]) (S:=[⟨4,3,fun _=>[vI (hi (q-1)),.int .u64 (lo (q-1))]⟩]) (s:=⟨ld3b 4 sh27,cl3 Tryz.func31 ((of_any 1 (by omega) (by omega))),cl3 Tryz.func75 ((less_any q 1 (by unfold InW;omega) (by unfold InW;omega) (by unfold InW;omega))),se3 4 sh27⟩) (k:=fun E5 ac wd H_=>?_)
 refine gq H_ 4 [[0],[1],[1,2],r_ 4,r_ 5] [_,_,_,_,none] (fun _=>[]) (S:=[⟨2,4,fun _=>[vI (hi (q-1+f)),.int .u64 (lo (q-1+f))]⟩]) (s:=⟨ld3b 4 sh27,fa3 3,ld3b 0 sh27,cl3 Tryz.func74 ((plus_any (q-1) f (by unfold InW;omega) (by unfold InW;omega) (by unfold InW;omega))),se3 2 sh27⟩) (k:=fun E6 ac wd H_=>?_)
 refine lvC3 (v:=vW (q-1+f)) Tryz.results96 H_ 2 (loadGc sh27 rfl ⟨rfl,rfl,trivial⟩) ?_
 exact ⟨by rw [hres,if_pos hz],H_.st.below⟩
 have hne:=hilo0 hz
 refine gq1 H_ 2 [[0],[1],[0,1,2]] [_,K_ (.agg #[vI 0,.int .u64 0]),bF] (fun _=>[(30,bF)]) (s:=⟨ld3b 5 sh27,bd30,bi3 (h:=by intro env w;(first | (simp [go_sem];done) | (simp [go_sem];exact fun g1 g2=>hne ⟨g1,g2⟩)))⟩) (k:=fun E4 ac wd H_=>?_)
 refine cF3 H_ ?_
 refine gq H_ 4 [[0],[1],[1,2],r_ 4,r_ 5] [_,_,_,_,none] (fun _=>[]) (S:=[⟨2,4,fun _=>[vI (hi (q+f)),.int .u64 (lo (q+f))]⟩]) (s:=⟨ld3b 4 sh27,fa3 3,ld3b 0 sh27,cl3 Tryz.func74 ((plus_any q f (by unfold InW;omega) (by unfold InW;omega) (by unfold InW;omega))),se3 2 sh27⟩) (k:=fun E5 ac wd H_=>?_)
 refine lvC3 (v:=vW (q+f)) Tryz.results96 H_ 2 (loadGc sh27 rfl ⟨rfl,rfl,trivial⟩) ?_
 exact ⟨by rw [hres,if_neg hz],H_.st.below⟩
theorem back_any (d b f r e u t:Int) (hp:PcOk b f r) (ht:Near t):Ret 96 #[vPc d b f r e u,vW t] (vW (gA b f r t)):=by
 have hL:0 < dayA+r:=by have:=dayA_pos;unfold PcOk at hp;omega
 have hb:=share_bd (x:=t-b-f+1) (r:=dayA) (L:=dayA+r) (B:=3000000000000000000000000000000) (Int.le_of_lt dayA_pos) (by unfold PcOk at hp;omega) hL (by unfold PcOk at hp;unfold Near at ht;omega) (by unfold PcOk at hp;unfold Near at ht;omega)
 refine back_core d b f r e u t _ _ _ hp ht (by omega) (by omega) ?_ (wmuldiv_fits (t-b-f+1) dayA (dayA+r) (by unfold PcOk at hp;unfold Near at ht;unfold InW;omega) (by unfold InW dayA;omega) (by unfold PcOk at hp;unfold InW dayA;omega) hL (by unfold InW;omega))
 unfold gA topq
 split <;> rfl
def splD (u:Int):Int:=u / 1000000000000000000 / 86400
def splS (u:Int):Int:=u / 1000000000000000000 % 86400
def splA (u:Int):Int:=u % 1000000000000000000
theorem jn_spl (u:Int):jn (splD u) (splS u) (splA u)=u:=by unfold jn splD splS splA;omega
theorem spl_in (u:Int):0≤splS u∧splS u < 86400∧0≤splA u∧splA u < 1000000000000000000:=by unfold splS splA;omega
theorem plabel_core (d b f r e t u dd ss aa:Int) (res:Value) (hu:Near u) (h1:u / 1000000000000000000 / 86400=dd) (h2:u / 1000000000000000000 % 86400=ss) (h3:u % 1000000000000000000=aa) (hres:res=if t≤dd then vL (dd-1) (ss+86400) aa else vL dd ss aa):Ret 95 #[vPc d b f r e t,vW u] (res):=by
 unfold Near at hu
 have i1:IntKind.i64.wrap (dd-1)=dd-1:=IntWalk.i64_in _ (by omega)
 have i2:IntKind.i64.wrap (ss+86400)=ss+86400:=IntWalk.i64_in _ (by omega)
 intro w0
 have hst:=St.start w0 (Θ:=fun _=>True) (fun _ _=>trivial)
 refine en_ Tryz.func95 hst 58 [(0,vPc d b f r e t),(1,vW u)] (fun ac H_=>?_)
 refine gq H_ 2 [[0],[1],[2]] [_,_,_] (fun E1=>[(2,vP (pb E1 0) 0),(3,vP (pb E1 1) 0),(4,vP (pb E1 2) 0)]) (W:=[{ i:=0,T:=113,c0:=[vI d,vI (hi (b)),.int .u64 (lo (b)),vI (hi (f)),.int .u64 (lo (f)),vI (hi (dayA)),.int .u64 (lo (dayA)),vI (hi (dayA+r)),.int .u64 (lo (dayA+r)),vI (hi (r)),.int .u64 (lo (r)),vI (hi (e)),.int .u64 (lo (e)),vI t] },{ i:=1,T:=27,c0:=[vI (hi (u)),.int .u64 (lo (u))] },{ i:=2,T:=39,c0:=[vI 0,vI 0,vI 0] }]) (s:=⟨bx3 0,bx3 1,al_ 2⟩) (k:=fun E1 ac wd H_=>?_)
 refine gq H_ 11 [[0],[1],[0,1,2],r_ 4,r_ 5,[0,1,2,3,5],[0,1,2,3,6],[7],[8],[0,1,2,3,4,7,8,9],r_ 6++[7,8,9,10],r_ 12] [_,_,_,_,_,_,_,_,_,none,none,_] (fun E2=>[(5,vP (pb E2 7) 0),(6,vP (pb E2 8) 0)]) (W:=[{ i:=7,T:=27,c0:=[vI 0,.int .u64 0],s:=some 9,c1:=fun _=>[vI (hi (u / 1000000000000000000)),.int .u64 (lo (u / 1000000000000000000))] },{ i:=8,T:=27,c0:=[vI 0,.int .u64 0],s:=some 10,c1:=fun _=>[vI (hi (aa)),.int .u64 (lo (aa))] }]) (s:=⟨ld3b 1 sh27,cl3 Tryz.func31 ((of_any 1000000000000000000 (by omega) (by omega))),cl3 Tryz.func82 (((wdiv_any u 1000000000000000000 (by unfold InW;omega) (by unfold InW;omega) (by omega)).eq (congrArg (fun z=>vT3 (vW (u / 1000000000000000000)) (vW z) (vI 0)) h3))),mv3,xt3,xt3,xt3,al_ 3,al_ 4,sw3 3 7 sh27,sw3 4 8 sh27,mv3⟩) (k:=fun E2 ac wd H_=>?_)
 refine gq H_ 11 [[0],[1],[0,1,2],r_ 4,r_ 5,[0,1,2,3,5],[0,1,2,3,6],[7],[8],[0,1,2,3,4,7,8,9],r_ 6++[7,8,9,10],r_ 12] [_,_,_,_,_,_,_,_,_,none,none,_] (fun E3=>[(8,vP (pb E3 7) 0),(9,vP (pb E3 8) 0)]) (W:=[{ i:=7,T:=27,c0:=[vI 0,.int .u64 0],s:=some 9,c1:=fun _=>[vI (hi (dd)),.int .u64 (lo (dd))] },{ i:=8,T:=27,c0:=[vI 0,.int .u64 0],s:=some 10,c1:=fun _=>[vI (hi (ss)),.int .u64 (lo (ss))] }]) (s:=⟨ld3b 3 sh27,cl3 Tryz.func31 ((of_any 86400 (by omega) (by omega))),cl3 Tryz.func82 (((wdiv_any (u / 1000000000000000000) 86400 (by unfold InW;omega) (by unfold InW;omega) (by omega)).eq (congrArg2 (fun y z=>vT3 (vW y) (vW z) (vI 0)) h1 h2))),mv3,xt3,xt3,xt3,al_ 5,al_ 6,sw3 5 7 sh27,sw3 6 8 sh27,mv3⟩) (k:=fun E3 ac wd H_=>?_)
 refine gq1 H_ 6 (tri 4++[[0,1,2,4],[0,1,2,3,5],r_ 7]) [_,_,_,_,_,_,_] (fun _=>[(11,vI dd)]) (s:=⟨ld3b 5 sh27,cl3 Tryz.func83 ((wint_yes dd (by omega) (by omega))),mv3,xt3,xt3,mv3,mv3⟩) (k:=fun E4 ac wd H_=>?_)
 refine gq1 H_ 6 (tri 4++[[0,1,2,4],[0,1,2,3,5],r_ 7]) [_,_,_,_,_,_,_] (fun _=>[(13,vI ss)]) (s:=⟨ld3b 6 sh27,cl3 Tryz.func83 ((wint_yes ss (by omega) (by omega))),mv3,xt3,xt3,mv3,mv3⟩) (k:=fun E5 ac wd H_=>?_)
 refine gq1 H_ 6 (tri 4++[[0,1,2,4],[0,1,2,3,5],r_ 7]) [_,_,_,_,_,_,_] (fun _=>[(15,vI aa)]) (s:=⟨ld3b 4 sh27,cl3 Tryz.func83 ((wint_yes aa (by omega) (by omega))),mv3,xt3,xt3,mv3,mv3⟩) (k:=fun E6 ac wd H_=>?_)
 refine gq1 H_ 3 [[0],[1],[1,2],r_ 4] [_,_,_,K_ (.bool (decide (t≤dd)))] (fun _=>[(49,.bool (decide (t≤dd)))]) (s:=⟨mv3,fa3 13,ld31 0 sh3,bi3⟩) (k:=fun E7 ac wd H_=>?_)
 refine cS3 H_ (fun h=>?_) (fun h=>?_)
 refine gq1 H_ 5 [[0],[0,1],[2],[2,3],[0,1,4],r_ 6] [_,vI (dd-1),_,vI (ss+86400),_,_] (fun _=>[(11,vI (dd-1)),(13,vI (ss+86400))]) (s:=⟨mv3,bi3,mv3,bi3,mv3,mv3⟩) (k:=fun E8 ac wd H_=>?_)
 refine gq H_ 4 [[0],[1],[2],r_ 4,r_ 5] [_,_,_,vL (dd-1) (ss+86400) aa,none] (fun _=>[]) (S:=[⟨2,4,fun _=>[vI (dd-1),vI (ss+86400),vI aa]⟩]) (s:=⟨mv3,mv3,mv3,bd33,se3 2 sh39⟩) (k:=fun E9 ac wd H_=>?_)
 refine lvC3 (v:=vL (dd-1) (ss+86400) aa) Tryz.results95 H_ 2 (loadGc sh39 rfl ⟨rfl,rfl,rfl,trivial⟩) ?_
 exact ⟨by rw [hres,if_pos (of_decide_eq_true h)],H_.st.below⟩
 refine gq H_ 4 [[0],[1],[2],r_ 4,r_ 5] [_,_,_,vL dd ss aa,none] (fun _=>[]) (S:=[⟨2,4,fun _=>[vI dd,vI ss,vI aa]⟩]) (s:=⟨mv3,mv3,mv3,bd33,se3 2 sh39⟩) (k:=fun E8 ac wd H_=>?_)
 refine lvC3 (v:=vL dd ss aa) Tryz.results95 H_ 2 (loadGc sh39 rfl ⟨rfl,rfl,rfl,trivial⟩) ?_
 exact ⟨by rw [hres,if_neg (of_decide_eq_false h)],H_.st.below⟩
def lbl (t u:Int):Value:=if t≤splD u then vL (splD u-1) (splS u+86400) (splA u) else vL (splD u) (splS u) (splA u)
theorem plabel_any (d b f r e t u:Int) (hu:Near u):Ret 95 #[vPc d b f r e t,vW u] (lbl t u):=plabel_core d b f r e t u _ _ _ _ hu rfl rfl rfl rfl
end Go.Proofs.YtailjojebdmnnaaGreat
namespace Go.Proofs.YtailjojebdmnnaaGreat
structure Sg where
 d:Int
 b:Int
 f:Int
 r:Int
def sgi (l:List Sg) (i:Nat):Sg:=l.getD i ⟨0,0,0,0⟩
def fS (s:Sg) (u:Int):Int:=fA (s.b*100000000000) (jn s.f 0 0) (s.r*100000000000) u
def gS (s:Sg) (t:Int):Int:=gA (s.b*100000000000) (jn s.f 0 0) (s.r*100000000000) t
def untS (l:List Sg) (day:Int) (i:Nat):Int:=if i+1 < l.length then (sgi l (i+1)).d else day
def endS (l:List Sg) (day off:Int) (i:Nat):Int:=if i+1 < l.length then fS (sgi l (i+1)) (jn (sgi l (i+1)).d 0 0) else jn day off 0
def begS (l:List Sg) (i:Nat):Int:=fS (sgi l i) (jn (sgi l i).d 0 0)
def szS (s:Sg):Bool:=wthn s.d (-1048576) 1048576 && wthn s.f (-1048576) 1048576 && wthn s.b (-1000000000) 1000000000 && wthn s.r 0 1000000
def szA (l:List Sg) (day:Int) (i:Nat):Bool:=szS (sgi l i) && decide ((sgi l i).d < untS l day i)
def stB (l:List Sg) (day off:Int) (i:Nat):Bool:=decide (fS (sgi l i) (jn (untS l day i-1) 0 0) < endS l day off i) && decide (endS l day off i≤fS (sgi l i) (jn (untS l day i) 1 0))
def szH (l:List Sg) (day off:Int):Bool:=wthn l.length 1 32 && wthn day (-1048576) 1048576 && wthn off 0 1000
def szL (l:List Sg) (day off:Int):Bool:=szH l day off && (List.range l.length).all (szA l day)
def mayS (l:List Sg) (day off:Int):Bool:=szL l day off && (List.range l.length).all (stB l day off)
theorem all_yes {n:Nat} {p:Nat→Bool} (h:∀ i,i < n→p i=true):(List.range n).all p=true:=List.all_eq_true.2 fun i hi=>h i (List.mem_range.1 hi)
theorem all_no {n i:Nat} {p:Nat→Bool} (hi:i < n) (h:p i=false):(List.range n).all p=false:=List.all_eq_false.2 ⟨i,List.mem_range.2 hi,by rw [h];simp⟩
theorem all_at {n:Nat} {p:Nat→Bool} (h:(List.range n).all p=true) {i:Nat} (hi:i < n):p i=true:=List.all_eq_true.1 h i (List.mem_range.2 hi)
theorem wthn_iff {n l u:Int}:wthn n l u=true↔l≤n∧n≤u:=by unfold wthn;simp
structure SgOk (s:Sg):Prop where
 d0:-1048576≤s.d
 d1:s.d≤1048576
 f0:-1048576≤s.f
 f1:s.f≤1048576
 b0:-1000000000≤s.b
 b1:s.b≤1000000000
 r0:0≤s.r
 r1:s.r≤1000000
theorem szS_ok {s:Sg} (h:szS s=true):SgOk s:=by
 simp only [szS,Bool.and_eq_true,wthn_iff] at h
 obtain ⟨⟨⟨⟨h1,h2⟩,h3,h4⟩,h5,h6⟩,h7,h8⟩:=h
 exact ⟨h1,h2,h3,h4,h5,h6,h7,h8⟩
structure LOk (l:List Sg) (day off:Int):Prop where
 n0:0 < l.length
 n1:l.length≤32
 y0:-1048576≤day
 y1:day≤1048576
 o0:0≤off
 o1:off≤1000
 seg:∀ i,i < l.length→SgOk (sgi l i)
 unt:∀ i,i < l.length→(sgi l i).d < untS l day i
theorem szL_ok {l:List Sg} {day off:Int} (h:szL l day off=true):LOk l day off:=by
  simp only [szL,szH,Bool.and_eq_true,wthn_iff] at h
  obtain ⟨⟨⟨⟨h1,h2⟩,h3,h4⟩,h5,h6⟩,h7⟩:=h
  have hs:∀ i,i < l.length→szS (sgi l i)=true∧(sgi l i).d < untS l day i:=fun i hi=>by
    have:=all_at h7 hi
    simpa [szA] using this
  exact ⟨by omega,by omega,h3,h4,h5,h6,fun i hi=>szS_ok (hs i hi).1,fun i hi=>(hs i hi).2⟩
structure MOk (l:List Sg) (day off:Int):Prop extends LOk l day off where
 s0:∀ i,i < l.length→fS (sgi l i) (jn (untS l day i-1) 0 0) < endS l day off i
 s1:∀ i,i < l.length→endS l day off i≤fS (sgi l i) (jn (untS l day i) 1 0)
theorem mayS_ok {l:List Sg} {day off:Int} (h:mayS l day off=true):MOk l day off:=by
  simp only [mayS,Bool.and_eq_true] at h
  have hs:∀ i,i < l.length→stB l day off i=true:=fun i hi=>all_at h.2 hi
  refine ⟨szL_ok h.1,fun i hi=>?_,fun i hi=>?_⟩
  · have:=hs i hi;simp only [stB,Bool.and_eq_true,decide_eq_true_eq] at this;exact this.1
  · have:=hs i hi;simp only [stB,Bool.and_eq_true,decide_eq_true_eq] at this;exact this.2
def szR (l:List Sg) (i:Nat):Bool:=szS (sgi l i) && (Nat.beq i 0 || decide ((sgi l (i-1)).d < (sgi l i).d))
theorem szR_szA {l:List Sg} {day:Int} (hn:0 < l.length):(decide ((sgi l (l.length-1)).d < day) && (List.range l.length).all (szR l))=(List.range l.length).all (szA l day):=by
  rw [Bool.eq_iff_iff]
  simp only [Bool.and_eq_true,decide_eq_true_eq]
  constructor
  · rintro ⟨h1,h2⟩
    refine all_yes fun i hi=>?_
    have hi2:=all_at h2 hi
    simp only [szR,Bool.and_eq_true] at hi2
    simp only [szA,Bool.and_eq_true,decide_eq_true_eq]
    refine ⟨hi2.1,?_⟩
    unfold untS
    split
    · rename_i hlt
      have:=all_at h2 hlt
      simp only [szR,Bool.and_eq_true,Bool.or_eq_true,decide_eq_true_eq,Nat.beq_eq] at this
      rcases this.2 with h3 | h3
      · omega
      · exact h3
    · rw [show i=l.length-1 by omega];exact h1
  · intro h
    have ha:∀ i,i < l.length→szS (sgi l i)=true∧(sgi l i).d < untS l day i:=fun i hi=>by
      have:=all_at h hi
      simpa [szA] using this
    refine ⟨?_,all_yes fun i hi=>?_⟩
    · have:=(ha (l.length-1) (by omega)).2
      unfold untS at this
      rw [if_neg (by omega)] at this
      exact this
    · simp only [szR,Bool.and_eq_true,Bool.or_eq_true,decide_eq_true_eq,Nat.beq_eq]
      refine ⟨(ha i hi).1,?_⟩
      rcases Nat.eq_zero_or_pos i with h0 | h0
      · exact .inl h0
      · refine .inr ?_
        have:=(ha (i-1) (by omega)).2
        unfold untS at this
        rw [if_pos (by omega),show i-1+1=i by omega] at this
        exact this
def kS (l:List Sg) (x:Int):Nat→Nat
  | 0=>0
  | n+1=>if (sgi l n).d≤x then n else kS l x n
def fst1 (p:Nat→Bool):Nat→Nat
  | 0=>0
  | n+1=>if fst1 p n < n then fst1 p n else if p n=true then n else n+1
theorem fst1_le (p:Nat→Bool) (n:Nat):fst1 p n≤n:=by
  induction n with
  | zero=>exact Nat.le_refl _
  | succ n ih=>unfold fst1;split <;> (try split) <;> omega
theorem fst1_lt {p:Nat→Bool} {n i:Nat} (h:i < fst1 p n):p i=false:=by
  induction n with
  | zero=>simp [fst1] at h
  | succ n ih =>
    have hle:=fst1_le p n
    unfold fst1 at h
    split at h
    · exact ih h
    · split at h
      · exact ih (by omega)
      · rename_i h1 h2
        rcases Nat.lt_or_ge i n with h3 | h3
        · exact ih (by omega)
        · have:i=n:=by omega
          subst this;simpa using h2
theorem fst1_at {p:Nat→Bool} {n:Nat} (h:fst1 p n < n):p (fst1 p n)=true:=by
  induction n with
  | zero=>simp at h
  | succ n ih =>
    unfold fst1 at h ⊢
    split
    · rename_i h1;exact ih h1
    · split
      · rename_i h2;exact h2
      · rename_i h1 h2;rw [if_neg h1,if_neg h2] at h;omega
theorem fst1_eq {p:Nat→Bool} {n i:Nat} (hi:i < n) (h0:∀ j,j < i→p j=false) (h1:p i=true):fst1 p n=i:=by
  have hle:=fst1_le p n
  rcases Nat.lt_trichotomy (fst1 p n) i with h | h | h
  · have:=fst1_at (p:=p) (n:=n) (by omega);rw [h0 _ h] at this;cases this
  · exact h
  · have:=fst1_lt h;rw [h1] at this;cases this
theorem fst1_none {p:Nat→Bool} {n:Nat} (h0:∀ j,j < n→p j=false):fst1 p n=n:=by
  have hle:=fst1_le p n
  rcases Nat.lt_or_ge (fst1 p n) n with h | h
  · have:=fst1_at h;rw [h0 _ h] at this;cases this
  · omega
section
variable {l:List Sg} {day off:Int}
theorem LOk.asc (h:LOk l day off) {i j:Nat} (hij:i < j) (hj:j < l.length):(sgi l i).d < (sgi l j).d:=by
  induction j with
  | zero=>omega
  | succ j ih =>
    have h1:=h.unt j (by omega)
    unfold untS at h1
    rw [if_pos (by omega)] at h1
    rcases Nat.lt_or_ge i j with h2 | h2
    · have:=ih h2 (by omega);omega
    · rw [show i=j by omega];exact h1
theorem LOk.unt_le (h:LOk l day off) {i j:Nat} (hij:i < j) (hj:j < l.length):untS l day i≤(sgi l j).d:=by
  unfold untS
  rw [if_pos (by omega)]
  rcases Nat.lt_or_ge (i+1) j with h2 | h2
  · exact Int.le_of_lt (h.asc h2 hj)
  · rw [show i+1=j by omega];exact Int.le_refl _
theorem LOk.unt_day (h:LOk l day off) {i:Nat} (hi:i < l.length):untS l day i≤day:=by
  have hl:(sgi l (l.length-1)).d < day:=by
    have:=h.unt (l.length-1) (by have:=h.n0;omega)
    unfold untS at this
    rw [if_neg (by omega)] at this
    exact this
  unfold untS
  split
  · rename_i h1
    rcases Nat.lt_or_ge (i+1) (l.length-1) with h2 | h2
    · have:=h.asc h2 (by omega);omega
    · rw [show i+1=l.length-1 by omega];omega
  · exact Int.le_refl _
theorem LOk.unt_ge (h:LOk l day off) {i:Nat} (hi:i < l.length):-1048576≤untS l day i:=by
 have:=h.unt i hi;have:=(h.seg i hi).d0;omega
theorem LOk.one (h:LOk l day off) {x:Int} {i j:Nat} (hi:i < l.length) (hj:j < l.length) (h1:(sgi l i).d≤x) (h2:x < untS l day i) (h3:(sgi l j).d≤x) (h4:x < untS l day j):i=j:=by
  rcases Nat.lt_trichotomy i j with hc | hc | hc
  · have:=h.unt_le hc hj;omega
  · exact hc
  · have:=h.unt_le hc hi;omega
theorem kS_spec (h:LOk l day off) {x:Int} (h0:(sgi l 0).d≤x) (n:Nat) (hn:n≤l.length) (hn0:0 < n):kS l x n < n∧(sgi l (kS l x n)).d≤x∧∀ j,kS l x n < j→j < n→x < (sgi l j).d:=by
  induction n with
  | zero=>omega
  | succ n ih =>
    unfold kS
    split
    · rename_i h1;exact ⟨by omega,h1,fun j hj hj2=>by omega⟩
    · rename_i h1
      rcases Nat.eq_zero_or_pos n with h2 | h2
      · subst h2;exact absurd h0 h1
      · obtain ⟨h3,h4,h5⟩:=ih (by omega) h2
        refine ⟨by omega,h4,fun j hj hj2=>?_⟩
        rcases Nat.lt_or_ge j n with h6 | h6
        · exact h5 j hj h6
        · rw [show j=n by omega];omega
theorem kS_in (h:LOk l day off) {x:Int} (h0:(sgi l 0).d≤x) (h1:x < day):kS l x l.length < l.length∧(sgi l (kS l x l.length)).d≤x∧x < untS l day (kS l x l.length):=by
  obtain ⟨h2,h3,h4⟩:=kS_spec h h0 l.length (Nat.le_refl _) h.n0
  refine ⟨h2,h3,?_⟩
  unfold untS
  split
  · rename_i h5;exact h4 _ (by omega) h5
  · exact h1
theorem kS_eq (h:LOk l day off) {x:Int} {i:Nat} (hi:i < l.length) (h2:(sgi l i).d≤x) (h3:x < untS l day i):kS l x l.length=i:=by
  have h0:(sgi l 0).d≤x:=by
    rcases Nat.eq_zero_or_pos i with h4 | h4
    · subst h4;exact h2
    · have:=h.asc h4 hi;omega
  have hd:=h.unt_day hi
  obtain ⟨h4,h5,h6⟩:=kS_in h h0 (by omega)
  exact h.one h4 hi h5 h6 h2 h3
end
def Cn (u:Int):Prop:=-200000000000000000000000000000≤u∧u≤200000000000000000000000000000
theorem Cn.near {u:Int} (h:Cn u):Near u:=by unfold Cn at h;unfold Near;omega
theorem cn_jn {d s a:Int} (hd:-1048577≤d) (hd1:d≤1048577) (hs:-172800≤s) (hs1:s≤172800) (ha:0≤a) (ha1:a≤1000000000000000000):Cn (jn d s a):=by unfold Cn jn;omega
theorem SgOk.pc {s:Sg} (h:SgOk s):PcOk (s.b*100000000000) (jn s.f 0 0) (s.r*100000000000):=by
 have:=h.b0;have:=h.b1;have:=h.f0;have:=h.f1;have:=h.r0;have:=h.r1
 unfold PcOk jn;omega
theorem SgOk.ra {s:Sg} (h:SgOk s):0≤s.r*100000000000:=by have:=h.r0;omega
theorem gain_le {b f r u:Int} (h:PcOk b f r) (h1:-400000000000000000000000000000≤u) (h2:u≤400000000000000000000000000000):-600000000000000000000000≤(u-f)*r / dayA∧(u-f)*r / dayA≤600000000000000000000000:=by
  have:=mul_abs (a:=u-f) (b:=r) (A:=500000000000000000000000000000) (B:=100000000000000000) (by unfold PcOk at h;omega) (by unfold PcOk at h;omega) (by unfold PcOk at h;omega) (by unfold PcOk at h;omega) (by omega)
  constructor
  · refine Int.le_ediv_of_mul_le dayA_pos ?_
    unfold dayA;omega
  · refine Int.ediv_le_of_le_mul dayA_pos ?_
    unfold dayA;omega
theorem fS_bd {s:Sg} (h:SgOk s) {u:Int} (hu:Cn u):u-700000000000000000000000≤fS s u∧fS s u≤u+700000000000000000000000:=by
 have h1:=gain_le (u:=u) h.pc (by unfold Cn at hu;omega) (by unfold Cn at hu;omega)
 have h2:=h.pc
 unfold fS fA PcOk at *
 omega
theorem LOk.end_bd {l:List Sg} {day off:Int} (h:LOk l day off) {i:Nat} (hi:i < l.length):-100000000000000000000000000000≤endS l day off i∧endS l day off i≤100000000000000000000000000000:=by
  unfold endS
  split
  · rename_i h1
    have hs:=h.seg (i+1) h1
    have h2:Cn (jn (sgi l (i+1)).d 0 0):=by have:=hs.d0;have:=hs.d1;exact cn_jn (by omega) (by omega) (by omega) (by omega) (by omega) (by omega)
    have h3:=fS_bd hs h2
    have:=hs.d0;have:=hs.d1
    unfold jn at *;omega
  · have:=h.y0;have:=h.y1;have:=h.o0;have:=h.o1
    unfold jn;omega
theorem fS_le {s:Sg} (h:SgOk s) {u v:Int}:fS s u≤fS s v↔u≤v:=fA_le h.ra
theorem fS_lt {s:Sg} (h:SgOk s) {u v:Int}:fS s u < fS s v↔u < v:=by
 have:=fS_le h (u:=v) (v:=u);omega
theorem gS_spec {s:Sg} (h:SgOk s) (t u:Int):fS s u≤t↔u≤gS s t:=gA_spec h.ra t u
theorem fS_gS {s:Sg} (h:SgOk s) (t:Int):fS s (gS s t)=t∨fS s (gS s t)=t-1:=fA_gA h.ra h.pc.rd t
theorem gS_bd {s:Sg} (h:SgOk s) {t:Int} (h1:-110000000000000000000000000000≤t) (h2:t≤110000000000000000000000000000):t-700000000000000000000001≤gS s t∧gS s t≤t+700000000000000000000000:=by
  constructor
  · refine (gS_spec h t _).1 ?_
    have:=fS_bd h (u:=t-700000000000000000000001) (by unfold Cn;omega);omega
  · rcases Int.lt_or_le (t+700000000000000000000000) (gS s t) with hc | hc
    · have h3:=(gS_spec h t (t+700000000000000000000000+1)).2 (by omega)
      have:=fS_bd h (u:=t+700000000000000000000000+1) (by unfold Cn;omega);omega
    · exact hc
def taiE (l:List Sg) (day off d s a:Int):Int:=
 if formB s a=false then 1 else if d < (sgi l 0).d then 8 else if day≤d then 9
 else if (s=86400∧d+1≠untS l day (kS l d l.length))∨endS l day off (kS l d l.length)≤fS (sgi l (kS l d l.length)) (jn d s a) then 6 else 0
def taiV (l:List Sg) (day off d s a:Int):Int:=if taiE l day off d s a=0 then fS (sgi l (kS l d l.length)) (jn d s a) else 0
def lblD (t u:Int):Int:=if t≤splD u then splD u-1 else splD u
def lblS (t u:Int):Int:=if t≤splD u then splS u+86400 else splS u
theorem lbl_eq (t u:Int):lbl t u=vL (lblD t u) (lblS t u) (splA u):=by unfold lbl lblD lblS;split <;> rfl
def iS (l:List Sg) (day off t:Int):Nat:=fst1 (fun i=>decide (t < endS l day off i)) l.length
def labE (l:List Sg) (day off t:Int):Int:=if t < begS l 0 then 8 else if iS l day off t < l.length then 0 else 9
def labU (l:List Sg) (day off t:Int):Int:=gS (sgi l (iS l day off t)) t
def labD (l:List Sg) (day off t:Int):Int:=if labE l day off t=0 then lblD (untS l day (iS l day off t)) (labU l day off t) else 0
def labS (l:List Sg) (day off t:Int):Int:=if labE l day off t=0 then lblS (untS l day (iS l day off t)) (labU l day off t) else 0
def labA (l:List Sg) (day off t:Int):Int:=if labE l day off t=0 then splA (labU l day off t) else 0
section
variable {l:List Sg} {day off:Int}
theorem tai_ok (h:MOk l day off) {d s a:Int} (he:taiE l day off d s a=0) :
    (0≤s∧s≤86400)∧(0≤a∧a < 1000000000000000000)∧kS l d l.length < l.length∧(sgi l (kS l d l.length)).d≤d∧d < untS l day (kS l d l.length)∧(s=86400→d+1=untS l day (kS l d l.length))∧fS (sgi l (kS l d l.length)) (jn d s a) < endS l day off (kS l d l.length)∧taiV l day off d s a=fS (sgi l (kS l d l.length)) (jn d s a):=by
  have hv:taiV l day off d s a=fS (sgi l (kS l d l.length)) (jn d s a):=by unfold taiV;rw [if_pos he]
  unfold taiE at he
  split at he
  · cases he
  rename_i h1
  split at he
  · cases he
  rename_i h2
  split at he
  · cases he
  rename_i h3
  split at he
  · cases he
  rename_i h4
  obtain ⟨k1,k2,k3⟩:=kS_in h.toLOk (x:=d) (by omega) (by omega)
  have h5:formB s a=true:=by simpa using h1
  simp only [formB,Bool.and_eq_true,wthn_iff] at h5
  refine ⟨h5.1,⟨h5.2.1,by omega⟩,k1,k2,k3,fun hs=>?_,?_,hv⟩
  · rcases Decidable.em (d+1=untS l day (kS l d l.length)) with h6 | h6
    · exact h6
    · exact absurd (.inl ⟨hs,h6⟩) h4
  · have:¬ endS l day off (kS l d l.length)≤fS (sgi l (kS l d l.length)) (jn d s a):=fun h6=>h4 (.inr h6)
    omega
theorem tai_mk (h:MOk l day off) {d s a:Int} {i:Nat} (hi:i < l.length) (h1:0≤s∧s≤86400) (h2:0≤a∧a < 1000000000000000000) (h3:(sgi l i).d≤d) (h4:d < untS l day i) (h5:s=86400→d+1=untS l day i) (h6:fS (sgi l i) (jn d s a) < endS l day off i) :
    taiE l day off d s a=0∧taiV l day off d s a=fS (sgi l i) (jn d s a):=by
  have hk:=kS_eq h.toLOk hi h3 h4
  have hf:formB s a=true:=by simp only [formB,Bool.and_eq_true,wthn_iff];omega
  have h0:(sgi l 0).d≤d:=by
    rcases Nat.eq_zero_or_pos i with h7 | h7
    · subst h7;exact h3
    · have:=h.toLOk.asc h7 hi;omega
  have hd:=h.toLOk.unt_day hi
  have he:taiE l day off d s a=0:=by
    unfold taiE
    rw [if_neg (by rw [hf];simp),if_neg (by omega),if_neg (by omega),hk,if_neg]
    rintro (⟨h7,h8⟩ | h7)
    · exact h8 (h5 h7)
    · omega
  refine ⟨he,?_⟩
  unfold taiV
  rw [if_pos he,hk]
theorem lab_ok (h:MOk l day off) {t:Int} (he:labE l day off t=0):iS l day off t < l.length∧begS l (iS l day off t)≤t∧t < endS l day off (iS l day off t):=by
  unfold labE at he
  split at he
  · cases he
  rename_i h1
  split at he
  · rename_i h2
    refine ⟨h2,?_,by have:=fst1_at h2;exact of_decide_eq_true this⟩
    rcases Nat.eq_zero_or_pos (iS l day off t) with h3 | h3
    · rw [h3];omega
    · have h4:iS l day off t-1 < iS l day off t:=by omega
      have:=fst1_lt h4
      have h5:=of_decide_eq_false this
      unfold endS at h5
      rw [if_pos (by omega),show iS l day off t-1+1=iS l day off t by omega] at h5
      unfold begS;omega
  · cases he
theorem lab_tai (h:MOk l day off) {t:Int} (he:labE l day off t=0) :
    taiE l day off (labD l day off t) (labS l day off t) (labA l day off t)=0∧(taiV l day off (labD l day off t) (labS l day off t) (labA l day off t)=t∨taiV l day off (labD l day off t) (labS l day off t) (labA l day off t)=t-1):=by
  obtain ⟨h1,h2,h3⟩:=lab_ok h he
  have eD:labD l day off t=lblD (untS l day (iS l day off t)) (labU l day off t):=by unfold labD;rw [if_pos he]
  have eS:labS l day off t=lblS (untS l day (iS l day off t)) (labU l day off t):=by unfold labS;rw [if_pos he]
  have eA:labA l day off t=splA (labU l day off t):=by unfold labA;rw [if_pos he]
  have eU:labU l day off t=gS (sgi l (iS l day off t)) t:=rfl
  rw [eD,eS,eA]
  obtain ⟨i,hi⟩:∃ i,i=iS l day off t:=⟨_,rfl⟩
  obtain ⟨u,hu⟩:∃ u,u=labU l day off t:=⟨_,rfl⟩
  rw [← hi] at h1 h2 h3 eU ⊢
  rw [← hu] at eU ⊢
  have hs:=h.seg i h1
  have u0:jn (sgi l i).d 0 0≤u:=by rw [eU];exact (gS_spec hs t _).1 h2
  have u1:fS (sgi l i) u≤t:=by rw [eU];exact (gS_spec hs t _).2 (Int.le_refl _)
  have u2:u < jn (untS l day i) 1 0:=by
    have:=h.s1 i h1
    exact (fS_lt hs).1 (by omega)
  have u3:jn (splD u) (splS u) (splA u)=u:=jn_spl u
  have u4:=spl_in u
  have hor:fS (sgi l i) u=t∨fS (sgi l i) u=t-1:=by rw [eU];exact fS_gS hs t
  have hd0:(sgi l i).d≤splD u:=by unfold jn at u0;unfold splD;omega
  have hd1:splD u≤untS l day i:=by unfold jn at u2;unfold splD;omega
  have hun:=h.unt i h1
  have key:∀ d s,d=lblD (untS l day i) u→s=lblS (untS l day i) u→(0≤s∧s≤86400)∧(sgi l i).d≤d∧d < untS l day i∧(s=86400→d+1=untS l day i)∧jn d s (splA u)=u:=by
    intro d s hd hs2
    unfold lblD at hd
    unfold lblS at hs2
    by_cases hc:untS l day i≤splD u
    · rw [if_pos hc] at hd hs2
      have:splD u=untS l day i:=by omega
      have hs0:splS u=0:=by
        have h7:splD u*86400+splS u=u / 1000000000000000000:=by unfold splD splS;omega
        have h8:u / 1000000000000000000 < untS l day i*86400+1:=by unfold jn at u2;omega
        omega
      refine ⟨by omega,by omega,by omega,fun _=>by omega,?_⟩
      rw [hd,hs2,← u3]
      obtain ⟨p,hp⟩:∃ p,p=splD u:=⟨_,rfl⟩
      rw [u3,← hp]
      have:jn p (splS u) (splA u)=u:=by rw [hp];exact u3
      unfold jn at *;omega
    · rw [if_neg hc] at hd hs2
      refine ⟨by omega,by omega,by omega,fun h=>by omega,?_⟩
      rw [hd,hs2];exact u3
  obtain ⟨k1,k2,k3,k4,k5⟩:=key _ _ rfl rfl
  obtain ⟨r1,r2⟩:=tai_mk h h1 k1 ⟨u4.2.2.1,u4.2.2.2⟩ k2 k3 k4 (by rw [k5];omega)
  refine ⟨r1,?_⟩
  rw [r2,k5]
  exact hor
end
def pubS:List Sg:=[⟨37300,14228180,37300,12960⟩,⟨37512,13728180,37300,12960⟩,⟨37665,18458580,37665,11232⟩,⟨38334,19458580,37665,11232⟩,⟨38395,32401300,38761,12960⟩,⟨38486,33401300,38761,12960⟩,⟨38639,34401300,38761,12960⟩,⟨38761,35401300,38761,12960⟩,⟨38820,36401300,38761,12960⟩,⟨38942,37401300,38761,12960⟩,⟨39004,38401300,38761,12960⟩,⟨39126,43131700,39126,25920⟩,⟨39887,42131700,39126,25920⟩]
end Go.Proofs.YtailjojebdmnnaaGreat
namespace Go.Proofs.YtailjojebdmnnaaGreat
open Go.RowKit
abbrev vSg (s:Sg):Value:=.agg #[.int .i64 s.d,.int .i64 s.b,.int .i64 s.f,.int .i64 s.r]
def sgC (l:List Sg) (i:Nat):Value:=vi (match i % 4 with | 0=>(sgi l (i / 4)).d | 1=>(sgi l (i / 4)).b | 2=>(sgi l (i / 4)).f | _=>(sgi l (i / 4)).r)
theorem sgC_0 (l:List Sg) (j:Nat):sgC l (j*4)=vi (sgi l j).d:=by unfold sgC;rw [show j*4 % 4=0 by omega,show j*4 / 4=j by omega];rfl
theorem sgC_1 (l:List Sg) (j:Nat):sgC l (j*4+1)=vi (sgi l j).b:=by unfold sgC;rw [show (j*4+1) % 4=1 by omega,show (j*4+1) / 4=j by omega];rfl
theorem sgC_2 (l:List Sg) (j:Nat):sgC l (j*4+2)=vi (sgi l j).f:=by unfold sgC;rw [show (j*4+2) % 4=2 by omega,show (j*4+2) / 4=j by omega];rfl
theorem sgC_3 (l:List Sg) (j:Nat):sgC l (j*4+3)=vi (sgi l j).r:=by unfold sgC;rw [show (j*4+3) % 4=3 by omega,show (j*4+3) / 4=j by omega];rfl
abbrev SegU (w:World) (v:Value) (l:List Sg):Prop:=RowU w v l.length 4 (sgC l)
abbrev SegT (w:World) (v:Value) (l:List Sg):Prop:=RowT 111 w v l.length 4 (sgC l)
end Go.Proofs.YtailjojebdmnnaaGreat
namespace Go.Proofs.YtailjojebdmnnaaGreat
open Go.RowKit
theorem cmp3_Z (a b:Int):cmp3 a b=cmpZ a b:=by unfold cmp3 cmpZ;split <;> (try split) <;> (try split) <;> omega
theorem wcmpZ (a b:Int) (ha:InW a) (hb:InW b):Ret 33 #[vW a,vW b] (vI (cmpZ a b)):=fun w=>by
 have:=wcmp_any a b ha hb w
 rw [cmp3_Z] at this
 exact this
def pcL (l:List Sg) (day off:Int) (i:Nat):List Value:=
 [vI (sgi l i).d,vI (hi ((sgi l i).b*100000000000)),.int .u64 (lo ((sgi l i).b*100000000000)),vI (hi (jn (sgi l i).f 0 0)),.int .u64 (lo (jn (sgi l i).f 0 0)),vI (hi dayA),.int .u64 (lo dayA),vI (hi (dayA+(sgi l i).r*100000000000)),.int .u64 (lo (dayA+(sgi l i).r*100000000000)),vI (hi ((sgi l i).r*100000000000)),.int .u64 (lo ((sgi l i).r*100000000000)),vI (hi (endS l day off i)),.int .u64 (lo (endS l day off i)),vI (untS l day i)]
def pcC (l:List Sg) (day off:Int) (i:Nat):Value:=(pcL l day off (i / 14)).getD (i % 14) undef
theorem pcC_at (l:List Sg) (day off:Int) (j q:Nat) (hq:q < 14):pcC l day off (j*14+q)=(pcL l day off j).getD q undef:=by
 unfold pcC;rw [show (j*14+q) / 14=j by omega,show (j*14+q) % 14=q by omega]
abbrev PcT (w:World) (v:Value) (l:List Sg) (day off:Int):Prop:=RowT 113 w v l.length 14 (pcC l day off)
structure RubA (w:World) (b g c:Nat) (l:List Sg) (day off:Int):Prop where
 hb:w.heap[b]? = some (.cells #[.slice (some ⟨g,0,none⟩) l.length c] 109 (0,0))
 hp:PcT w (.slice (some ⟨g,0,none⟩) l.length c) l day off
theorem RubA.grown {w w':World} {b g c:Nat} {l:List Sg} {day off:Int} (h:RubA w b g c l day off) (hg:w.grownBy w' none):RubA w' b g c l day off:=
 ⟨by rw [hg.block b (lt_of_some h.hb) (by simp)];exact h.hb,h.hp.grown hg⟩
theorem RubA.cell {w:World} {b g c:Nat} {l:List Sg} {day off:Int} (h:RubA w b g c l day off):w.cell? ⟨b,0,none⟩=some (.slice (some ⟨g,0,none⟩) l.length c):=by
 simp [World.cell?,h.hb]
theorem RubA.els {w:World} {b g c:Nat} {l:List Sg} {day off:Int} (h:RubA w b g c l day off):Els w (.slice (some ⟨g,0,none⟩) l.length c) l.length 14 (pcC l day off):=h.hp.els
theorem RubA.keep {w w':World} {b g c:Nat} {l:List Sg} {day off:Int} (h:RubA w b g c l day off) {ex:Option Nat} (hk:KeepT [109,113] ex w w') (hb:ex≠some b) (hg:ex≠some g):RubA w' b g c l day off:=
 ⟨by rw [hk b _ _ _ h.hb rfl hb];exact h.hb,h.hp.keep (Ts:=[109,113]) rfl hk (fun k hk' e=>hg (by rw [hk'];simpa [Value.ownBlock] using e.symm))⟩
def IsR (ex:Option Nat) (w:World) (v:Value) (l:List Sg) (day off:Int):Prop:=∃ b g c,v=vP b 0∧RubA w b g c l day off∧ex≠some b∧ex≠some g
theorem IsR.keep {ex:Option Nat} {w w':World} {v:Value} {l:List Sg} {day off:Int} (h:IsR ex w v l day off) (hk:KeepT [109,113] ex w w'):IsR ex w' v l day off:=by
 obtain ⟨b,g,c,e,h1,h2,h3⟩:=h
 exact ⟨b,g,c,e,h1.keep hk h2 h3,h2,h3⟩
theorem IsR.form {ex:Option Nat} {w:World} {v:Value} {l:List Sg} {day off:Int} (h:IsR ex w v l day off):v=vP (ptrB v) 0:=by
 obtain ⟨b,g,c,rfl,_⟩:=h;rfl
theorem IsR.at {ex:Option Nat} {w:World} {v:Value} {l:List Sg} {day off:Int} (h:IsR ex w v l day off):∃ g c,RubA w (ptrB v) g c l day off:=by
 obtain ⟨b,g,c,rfl,h1,_⟩:=h;exact ⟨g,c,h1⟩
end Go.Proofs.YtailjojebdmnnaaGreat
