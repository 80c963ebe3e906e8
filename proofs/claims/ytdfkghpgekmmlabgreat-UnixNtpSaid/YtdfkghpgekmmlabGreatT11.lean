/- Texts Y6, P19, Y7, P20, P21, X1, X2, X3 of one proof, one behind the other; what nothing here names is left out. -/
import Derived.Test.YtdfkghpgekmmlabGreatT10
import Derived.Test.YtdfkghpgekmmlabGreatZ4
import Derived.IntWalk
import Derived.Test.YtdfkghpgekmmlabGreatT7
import Derived.Test.YtdfkghpgekmmlabGreatT9
set_option maxRecDepth 100000
set_option maxHeartbeats 8000000
set_option linter.unusedVariables false
set_option linter.unusedSimpArgs false
namespace Go.Proofs.YtdfkghpgekmmlabGreat
open Go.RowKit
attribute [local go_sem] vN bT bF rS vW vM vL vT2 vT3 vP vI execOp Act.eval evC bigF vB hi_zero lo_zero
end Go.Proofs.YtdfkghpgekmmlabGreat
namespace Go.Proofs.YtdfkghpgekmmlabGreat
open Go.RowKit
section
variable {es:List (Int × Int)} (hp:okPre es es.length=true) (hn:0 < es.length)
include hp hn
end
end Go.Proofs.YtdfkghpgekmmlabGreat
namespace Go.Proofs.YtdfkghpgekmmlabGreat
open Go.RowKit
attribute [local go_sem] vN bT bF rS vW vM vL vT2 vT3 vP vI execOp Act.eval evC bigF vB hi_zero lo_zero
theorem y_tt {a b c d:Int} (h1:a=c) (h2:b=d):vT2 (vW a) (vI b)=vT2 (vW c) (vI d):=by rw [h1,h2]
theorem y_lab {p q:Int × Int × Int × Int} (h:p=q):vT2 (vL p.2.1 p.2.2.1 p.2.2.2) (vI p.1)=vT2 (vL q.2.1 q.2.2.1 q.2.2.2) (vI q.1):=by rw [h]
theorem y_lab4 {p:Int × Int × Int × Int} {e d s a:Int} (h:p=(e,d,s,a)):vT2 (vL p.2.1 p.2.2.1 p.2.2.2) (vI p.1)=vT2 (vL d s a) (vI e):=by rw [h]
theorem y_exy {es:List (Int × Int)} {d s a:Int} (h:ctE es d s a=0):Value.bool (ctE es d s a == 0) = .bool true:=by rw [h];rfl
theorem y_exn {es:List (Int × Int)} {d s a:Int} (h:¬ ctE es d s a=0):Value.bool (ctE es d s a == 0) = .bool false:=by rw [show (ctE es d s a == 0)=false from by simp [h]]
theorem y_smw {z:Int} (h:InW z):Sm z:=by unfold InW at h;unfold Sm;omega
end Go.Proofs.YtdfkghpgekmmlabGreat
namespace Go.Proofs.YtdfkghpgekmmlabGreat
open Go.RowKit
theorem ct_u {es:List (Int × Int)} {d s a:Int} (h:day0 es≤d):ctE es d s a=whyU es d s a∧ctV es d s a=taiU es d s a:=by
  have hu:¬ useR es d=true:=fun hu=>by
    obtain ⟨ho,hd⟩:=useR_iff.1 hu
    have:=(oldB_iff.1 ho).1
    omega
  unfold ctE ctV
  rw [if_neg hu,if_neg hu]
  exact ⟨rfl,rfl⟩
section
variable {es:List (Int × Int)} (hp:okPre es es.length=true) (hn:0 < es.length)
include hp hn
end
end Go.Proofs.YtdfkghpgekmmlabGreat
namespace Go.Proofs.YtdfkghpgekmmlabGreat
open Go.RowKit
def ucE (d s a:Int):Int:=if formB s a=false then 1 else if wthn d (-1099511627776) 1099511627776=false then 2 else 0
def ucV (d s a:Int):Int:=if ucE d s a=0 then jn d s a-jn 40587 0 0 else 0
def upZ (n:Int):Int:=n+jn 40587 0 0
def upD (n:Int):Int:=upZ n / 1000000000000000000 / 86400
def upS (n:Int):Int:=upZ n / 1000000000000000000 % 86400
def upA (n:Int):Int:=upZ n % 1000000000000000000
def upOk (n:Int):Bool:=wthn (upD n) (-1099511627776) 1099511627776
def upF (es:List (Int × Int)) (n:Int):Bool:=decide (upS n=0) && decide (ctE es (upD n-1) 86400 (upA n)=0)
def upL (es:List (Int × Int)) (n:Int):Int:=ctE es (upD n) (upS n) (upA n)
def ulK (es:List (Int × Int)) (n:Int):Int:=if upOk n=false then 0 else if upF es n=true then (if upL es n=0 then 2 else 1) else if upL es n=0 then 1 else 0
def ulE (es:List (Int × Int)) (n:Int):Int:=if upOk n=false then 2 else if upF es n=true then 0 else upL es n
def ulA (es:List (Int × Int)) (n:Int):Int × Int × Int:=if ulK es n=0 then (0,0,0) else if upF es n=true then (upD n-1,86400,upA n) else (upD n,upS n,upA n)
def ulB (es:List (Int × Int)) (n:Int):Int × Int × Int:=if ulK es n=0 then (0,0,0) else if upL es n=0 then (upD n,upS n,upA n) else (upD n-1,86400,upA n)
def ufE (es:List (Int × Int)) (n pick:Int):Int:=if ulE es n=0 then (if ulK es n=1∨pick=2∨pick=1 then 0 else 7) else ulE es n
def ufL (es:List (Int × Int)) (n pick:Int):Int × Int × Int:=if ulE es n=0 then (if ulK es n=1∨pick=2 then ulB es n else if pick=1 then ulA es n else (0,0,0)) else (0,0,0)
theorem uc_ok {d s a:Int} (h1:0≤s) (h2:s≤86400) (h3:0≤a) (h4:a < 1000000000000000000) (h5:-1099511627776≤d) (h6:d≤1099511627776):ucE d s a=0∧ucV d s a=jn d s a-jn 40587 0 0:=by
  have e:ucE d s a=0:=by
    unfold ucE
    rw [if_neg (by simp [formB,wthn];omega),if_neg (by simp [wthn];omega)]
  refine ⟨e,?_⟩
  unfold ucV
  rw [if_pos e]
theorem upZ_of {d s a:Int}:upZ (jn d s a-jn 40587 0 0)=jn d s a:=by unfold upZ;omega
theorem up_of {d s a:Int} (h1:0≤s) (h2:s < 86400) (h3:0≤a) (h4:a < 1000000000000000000):upD (jn d s a-jn 40587 0 0)=d∧upS (jn d s a-jn 40587 0 0)=s∧upA (jn d s a-jn 40587 0 0)=a:=by
 unfold upD upS upA
 rw [upZ_of]
 unfold jn
 omega
theorem up_of1 {d a:Int} (h3:0≤a) (h4:a < 1000000000000000000):upD (jn d 86400 a-jn 40587 0 0)=d+1∧upS (jn d 86400 a-jn 40587 0 0)=0∧upA (jn d 86400 a-jn 40587 0 0)=a:=by
 unfold upD upS upA
 rw [upZ_of]
 unfold jn
 omega
section
variable {es:List (Int × Int)} (hp:okPre es es.length=true) (hn:0 < es.length)
include hp
theorem chg_far {d:Int} (hd:1099511627775 < d):chgV es d≤0:=by
  unfold chgV
  split
  · omega
  split
  · omega
  split
  · rename_i h1 h2 h3
    have hl:=cntC_le es d
    have:=okPre_num hp (i:=cntC es d) (by omega)
    unfold dayOf at h3
    omega
  · omega
include hn
theorem u_back {d s a:Int} (he:ctE es d s a=0):ucE d s a=0∧ulE es (ucV d s a)=0∧0 < ulK es (ucV d s a)∧(ulA es (ucV d s a)=(d,s,a)∨ulB es (ucV d s a)=(d,s,a)):=by
  have _:=hn
  obtain ⟨b1,b2,b3,b4,b5,b6⟩:=ctE_bd he
  obtain ⟨c1,c2⟩:=uc_ok b1 b2 b3 b4 b5 b6
  rw [c2]
  refine ⟨c1,?_⟩
  by_cases hs:s=86400
  · subst hs
    have hd:d < 1099511627776:=by
      unfold ctE at he
      by_cases hu:useR es d=true
      · have:=(useR_iff.1 hu).2;omega
      · rw [if_neg hu] at he
        have:=whyU_ok he
        refine Int.not_le.1 fun hge=>?_
        have:=chg_far hp (d:=d) (by omega)
        omega
    obtain ⟨p1,p2,p3⟩:=up_of1 (d:=d) b3 b4
    have hok:upOk (jn d 86400 a-jn 40587 0 0)=true:=by unfold upOk;rw [p1];simp [wthn];omega
    have hF:upF es (jn d 86400 a-jn 40587 0 0)=true:=by unfold upF;rw [p1,p2,p3,show d+1-1=d by omega,he];rfl
    have hK:0 < ulK es (jn d 86400 a-jn 40587 0 0):=by unfold ulK;rw [if_neg (by rw [hok];simp),if_pos hF];split <;> omega
    refine ⟨by unfold ulE;rw [if_neg (by rw [hok];simp),if_pos hF],hK,.inl ?_⟩
    unfold ulA
    rw [if_neg (by omega),if_pos hF,p1,p3,show d+1-1=d by omega]
  · obtain ⟨p1,p2,p3⟩:=up_of (d:=d) b1 (by omega) b3 b4
    have hok:upOk (jn d s a-jn 40587 0 0)=true:=by unfold upOk;rw [p1];simp [wthn];omega
    have hL:upL es (jn d s a-jn 40587 0 0)=0:=by unfold upL;rw [p1,p2,p3];exact he
    have hK:0 < ulK es (jn d s a-jn 40587 0 0):=by unfold ulK;rw [if_neg (by rw [hok];simp),if_pos hL];split <;> simp [hL]
    refine ⟨?_,hK,.inr ?_⟩
    · unfold ulE;rw [if_neg (by rw [hok];simp)];split
      · rfl
      · exact hL
    · unfold ulB
      rw [if_neg (by omega),if_pos hL,p1,p2,p3]
theorem u_twice {d s a:Int} (h1:0≤s) (h2:s≤86399) (h3:0≤a) (h4:a < 1000000000000000000) (h5:-1099511627776≤d) (h6:d≤1099511627776) (h7:day0 es < d):(ulK es (ucV d s a)=2↔s=0∧chgV es (d-1)=1)∧(ulK es (ucV d s a)=0↔s=86399∧chgV es d = -1)∧(ulE es (ucV d s a)=6↔s=86399∧chgV es d = -1):=by
  obtain ⟨c1,c2⟩:=uc_ok h1 (by omega) h3 h4 h5 h6
  rw [c2]
  obtain ⟨p1,p2,p3⟩:=up_of (d:=d) h1 (by omega) h3 h4
  have hok:upOk (jn d s a-jn 40587 0 0)=true:=by unfold upOk;rw [p1];simp [wthn];omega
  have hc:=chgV_bd hp d
  have hc1:=chgV_bd hp (d-1)
  have hd0:15020≤day0 es:=by have:=okPre_num hp (i:=0) hn;unfold day0 dayOf;omega
  have hL:upL es (jn d s a-jn 40587 0 0)=if 86400+chgV es d≤s then 6 else 0:=by
    unfold upL
    rw [p1,p2,p3,(ct_u (by omega)).1]
    unfold whyU
    rw [if_neg (by simp [formB,wthn];omega),if_neg (by simp [wthn];omega),if_neg (by omega)]
  have hF:upF es (jn d s a-jn 40587 0 0)=true↔s=0∧chgV es (d-1)=1:=by
    unfold upF
    rw [p1,p2,p3,(ct_u (by omega)).1]
    have hw:whyU es (d-1) 86400 a=if 86400+chgV es (d-1)≤86400 then 6 else 0:=by
      unfold whyU
      rw [if_neg (by simp [formB,wthn];omega),if_neg (by simp [wthn];omega),if_neg (by omega)]
    rw [hw]
    simp only [Bool.and_eq_true,decide_eq_true_eq]
    constructor
    · rintro ⟨k1,k2⟩
      refine ⟨k1,?_⟩
      split at k2
      · cases k2
      · omega
    · rintro ⟨k1,k2⟩
      refine ⟨k1,?_⟩
      rw [if_neg (by omega)]
  generalize jn d s a-jn 40587 0 0=n at *
  have hk:¬ upOk n=false:=by rw [hok];simp
  unfold ulK ulE
  rw [if_neg hk,if_neg hk,hL]
  by_cases hf:upF es n=true
  · obtain ⟨k1,k2⟩:=hF.1 hf
    rw [if_pos hf,if_pos hf]
    have:¬ 86400+chgV es d≤s:=by omega
    rw [if_neg this]
    simp
    omega
  · have hf2:¬ (s=0∧chgV es (d-1)=1):=fun h=>hf (hF.2 h)
    rw [if_neg hf,if_neg hf]
    by_cases hh:86400+chgV es d≤s
    · rw [if_pos hh];simp;omega
    · rw [if_neg hh];simp;omega
end
end Go.Proofs.YtdfkghpgekmmlabGreat
namespace Go.Proofs.YtdfkghpgekmmlabGreat
open Go.RowKit
attribute [local go_sem] vN bT bF rS vW vM vL vT2 vT3 vP vI execOp Act.eval evC bigF vB hi_zero lo_zero Tryz.underlying23 Tryz.underlying26
theorem xform_any (d s x:Int):Ret 29 #[vL d s x] (.bool (formB s x)):=by
 intro w0
 have hst:=St.start w0 (Θ:=fun _=>True) (fun _ _=>trivial)
 refine enter Tryz.func29 rfl (n:=21) rfl (Nat.le_of_ble_eq_true rfl) hst (L:=[(0,vL d s x)]) (lk_args rfl) (fun ac h=>?_)
 refine wp_seq ?_
 refine rg_ h [[0],[1]] [KE_ fun env=>vP (pb env 0) 0,K_ bF] (fun E1=>[(1,vP (pb E1 0) 0),(2,bF)]) (W:=[{ i:=0,T:=23,c0:=[vI d,vI s,vI x] }]) (M':=fun E1=>[((pb E1 0),23,[vI d,vI s,vI x])]) (hs:=c_ (bx0 0 (vL d s x))<|c_ mv_<|e_) (k:=fun E1 ac wd h_1=>?_)
 clear h
 refine then_n (wp_seq ?_)
 by_cases h0:0≤s
 by_cases h1:s≤86400
 by_cases h2:0≤x
 refine rg_ h_1 (tri 19) [K_ (vP (pb E1 0) 1),K_ (vI s),K_ bT,K_ bT,K_ (vP (pb E1 0) 1),K_ (vI s),K_ bT,K_ bT,K_ bT,K_ (vP (pb E1 0) 2),K_ (vI x),K_ bT,K_ bT,K_ bT,K_ (vP (pb E1 0) 2),K_ (vI x),K_ (.bool (decide (x < 1000000000000000000))),K_ (.bool (decide (x < 1000000000000000000))),K_ (.bool (decide (x < 1000000000000000000)))] (fun E2=>[(2,.bool (decide (x < 1000000000000000000)))]) (hs:=c_ (fa0 (vP (pb E1 0) 0))<|c_ (ld_ 0 (hrd:=by exact rd3 rfl))<|c_ (bi0 (vI s) (vI 0) (h:=by intro env w;simp [go_sem,h0]))<|c_ mv_<|c_ (fa0 (vP (pb E1 0) 0))<|c_ (ld_ 0 (hrd:=by exact rd3 rfl))<|c_ (bi0 (vI s) (vI 86400) (h:=by intro env w;simp [go_sem,h1]))<|c_ (pk0 bT bT bF (h:=by intro env w;simp [go_sem,h1]))<|c_ mv_<|c_ (fa0 (vP (pb E1 0) 0))<|c_ (ld_ 0 (hrd:=by exact rd3 rfl))<|c_ (bi0 (vI x) (vI 0) (h:=by intro env w;simp [go_sem,h2]))<|c_ (pk0 bT bT bF (h:=by intro env w;simp [go_sem,h2]))<|c_ mv_<|c_ (fa0 (vP (pb E1 0) 0))<|c_ (ld_ 0 (hrd:=by exact rd3 rfl))<|c_ (bi0 (vI x) (vI 1000000000000000000))<|c_ (pk0 bT (.bool (decide (x < 1000000000000000000))) bF)<|c_ mv_<|e_) (k:=fun E2 ac wd h_2=>?_)
 clear h_1
 refine then_n (wp_ret ?_)
 have s2:=h_2.g (t:=2) rfl
 refine leave (v:=.bool (decide (x < 1000000000000000000))) h_2.df (by simp [results,Tryz.results29,go_sem,Array.getD_eq_getD_getElem?,s2]) ?_
 have e:formB s x=decide (x < 1000000000000000000):=by have e0:=decide_eq_true h0;have e1:=decide_eq_true h1;have e2:=decide_eq_true h2;unfold formB wthn;rw [e0,e1,e2];simp only [Bool.true_and];exact decide_eq_decide.2 (by omega)
 exact ⟨by rw [e],h_2.st.below⟩
 refine rg_ h_1 (tri 19) [K_ (vP (pb E1 0) 1),K_ (vI s),K_ bT,K_ bT,K_ (vP (pb E1 0) 1),K_ (vI s),K_ bT,K_ bT,K_ bT,K_ (vP (pb E1 0) 2),K_ (vI x),K_ bF,K_ bF,K_ bF,K_ undef,K_ undef,K_ undef,K_ bF,K_ bF] (fun E2=>[(2,bF)]) (hs:=c_ (fa0 (vP (pb E1 0) 0))<|c_ (ld_ 0 (hrd:=by exact rd3 rfl))<|c_ (bi0 (vI s) (vI 0) (h:=by intro env w;simp [go_sem,h0]))<|c_ mv_<|c_ (fa0 (vP (pb E1 0) 0))<|c_ (ld_ 0 (hrd:=by exact rd3 rfl))<|c_ (bi0 (vI s) (vI 86400) (h:=by intro env w;simp [go_sem,h1]))<|c_ (pk0 bT bT bF (h:=by intro env w;simp [go_sem,h1]))<|c_ mv_<|c_ (fa0 (vP (pb E1 0) 0))<|c_ (ld_ 0 (hrd:=by exact rd3 rfl))<|c_ (bi0 (vI x) (vI 0) (h:=by intro env w;simp [go_sem,h2]))<|c_ (pk0 bT bF bF (h:=by intro env w;simp [go_sem,h2]))<|c_ mv_<|c_ off_<|c_ off_<|c_ off_<|c_ (pk0 bF undef bF)<|c_ mv_<|e_) (k:=fun E2 ac wd h_2=>?_)
 clear h_1
 refine then_n (wp_ret ?_)
 have s2:=h_2.g (t:=2) rfl
 refine leave (v:=.bool false) h_2.df (by simp [results,Tryz.results29,go_sem,Array.getD_eq_getD_getElem?,s2]) ?_
 have e:formB s x=false:=by simp [formB,wthn];omega
 exact ⟨by rw [e],h_2.st.below⟩
 refine rg_ h_1 (tri 19) [K_ (vP (pb E1 0) 1),K_ (vI s),K_ bT,K_ bT,K_ (vP (pb E1 0) 1),K_ (vI s),K_ bF,K_ bF,K_ bF,K_ undef,K_ undef,K_ undef,K_ bF,K_ bF,K_ undef,K_ undef,K_ undef,K_ bF,K_ bF] (fun E2=>[(2,bF)]) (hs:=c_ (fa0 (vP (pb E1 0) 0))<|c_ (ld_ 0 (hrd:=by exact rd3 rfl))<|c_ (bi0 (vI s) (vI 0) (h:=by intro env w;simp [go_sem,h0]))<|c_ mv_<|c_ (fa0 (vP (pb E1 0) 0))<|c_ (ld_ 0 (hrd:=by exact rd3 rfl))<|c_ (bi0 (vI s) (vI 86400) (h:=by intro env w;simp [go_sem,h1]))<|c_ (pk0 bT bF bF (h:=by intro env w;simp [go_sem,h1]))<|c_ mv_<|c_ off_<|c_ off_<|c_ off_<|c_ (pk0 bF undef bF)<|c_ mv_<|c_ off_<|c_ off_<|c_ off_<|c_ (pk0 bF undef bF)<|c_ mv_<|e_) (k:=fun E2 ac wd h_2=>?_)
 clear h_1
 refine then_n (wp_ret ?_)
 have s2:=h_2.g (t:=2) rfl
 refine leave (v:=.bool false) h_2.df (by simp [results,Tryz.results29,go_sem,Array.getD_eq_getD_getElem?,s2]) ?_
 have e:formB s x=false:=by simp [formB,wthn];omega
 exact ⟨by rw [e],h_2.st.below⟩
 refine rg_ h_1 (tri 19) [K_ (vP (pb E1 0) 1),K_ (vI s),K_ bF,K_ bF,K_ undef,K_ undef,K_ undef,K_ bF,K_ bF,K_ undef,K_ undef,K_ undef,K_ bF,K_ bF,K_ undef,K_ undef,K_ undef,K_ bF,K_ bF] (fun E2=>[(2,bF)]) (hs:=c_ (fa0 (vP (pb E1 0) 0))<|c_ (ld_ 0 (hrd:=by exact rd3 rfl))<|c_ (bi0 (vI s) (vI 0) (h:=by intro env w;simp [go_sem,h0]))<|c_ mv_<|c_ off_<|c_ off_<|c_ off_<|c_ (pk0 bF undef bF)<|c_ mv_<|c_ off_<|c_ off_<|c_ off_<|c_ (pk0 bF undef bF)<|c_ mv_<|c_ off_<|c_ off_<|c_ off_<|c_ (pk0 bF undef bF)<|c_ mv_<|e_) (k:=fun E2 ac wd h_2=>?_)
 clear h_1
 refine then_n (wp_ret ?_)
 have s2:=h_2.g (t:=2) rfl
 refine leave (v:=.bool false) h_2.df (by simp [results,Tryz.results29,go_sem,Array.getD_eq_getD_getElem?,s2]) ?_
 have e:formB s x=false:=by simp [formB,wthn];omega
 exact ⟨by rw [e],h_2.st.below⟩
theorem xform15_any (d s x:Int):Ret 10 #[vL d s x] (.bool (formB s x)):=by
 intro w0
 have hst:=St.start w0 (Θ:=fun _=>True) (fun _ _=>trivial)
 refine enter Tryz.func10 rfl (n:=21) rfl (Nat.le_of_ble_eq_true rfl) hst (L:=[(0,vL d s x)]) (lk_args rfl) (fun ac h=>?_)
 refine wp_seq ?_
 refine rg_ h [[0],[1]] [KE_ fun env=>vP (pb env 0) 0,K_ bF] (fun E1=>[(1,vP (pb E1 0) 0),(2,bF)]) (W:=[{ i:=0,T:=23,c0:=[vI d,vI s,vI x] }]) (M':=fun E1=>[((pb E1 0),23,[vI d,vI s,vI x])]) (hs:=c_ (bx0 0 (vL d s x))<|c_ mv_<|e_) (k:=fun E1 ac wd h_1=>?_)
 clear h
 refine then_n (wp_seq ?_)
 by_cases h0:0≤s
 by_cases h1:s≤86400
 by_cases h2:0≤x
 refine rg_ h_1 (tri 19) [K_ (vP (pb E1 0) 1),K_ (vI s),K_ bT,K_ bT,K_ (vP (pb E1 0) 1),K_ (vI s),K_ bT,K_ bT,K_ bT,K_ (vP (pb E1 0) 2),K_ (vI x),K_ bT,K_ bT,K_ bT,K_ (vP (pb E1 0) 2),K_ (vI x),K_ (.bool (decide (x < 1000000000000000000))),K_ (.bool (decide (x < 1000000000000000000))),K_ (.bool (decide (x < 1000000000000000000)))] (fun E2=>[(2,.bool (decide (x < 1000000000000000000)))]) (hs:=c_ (fa0 (vP (pb E1 0) 0))<|c_ (ld_ 0 (hrd:=by exact rd3 rfl))<|c_ (bi0 (vI s) (vI 0) (h:=by intro env w;simp [go_sem,h0]))<|c_ mv_<|c_ (fa0 (vP (pb E1 0) 0))<|c_ (ld_ 0 (hrd:=by exact rd3 rfl))<|c_ (bi0 (vI s) (vI 86400) (h:=by intro env w;simp [go_sem,h1]))<|c_ (pk0 bT bT bF (h:=by intro env w;simp [go_sem,h1]))<|c_ mv_<|c_ (fa0 (vP (pb E1 0) 0))<|c_ (ld_ 0 (hrd:=by exact rd3 rfl))<|c_ (bi0 (vI x) (vI 0) (h:=by intro env w;simp [go_sem,h2]))<|c_ (pk0 bT bT bF (h:=by intro env w;simp [go_sem,h2]))<|c_ mv_<|c_ (fa0 (vP (pb E1 0) 0))<|c_ (ld_ 0 (hrd:=by exact rd3 rfl))<|c_ (bi0 (vI x) (vI 1000000000000000000))<|c_ (pk0 bT (.bool (decide (x < 1000000000000000000))) bF)<|c_ mv_<|e_) (k:=fun E2 ac wd h_2=>?_)
 clear h_1
 refine then_n (wp_ret ?_)
 have s2:=h_2.g (t:=2) rfl
 refine leave (v:=.bool (decide (x < 1000000000000000000))) h_2.df (by simp [results,Tryz.results10,go_sem,Array.getD_eq_getD_getElem?,s2]) ?_
 have e:formB s x=decide (x < 1000000000000000000):=by have e0:=decide_eq_true h0;have e1:=decide_eq_true h1;have e2:=decide_eq_true h2;unfold formB wthn;rw [e0,e1,e2];simp only [Bool.true_and];exact decide_eq_decide.2 (by omega)
 exact ⟨by rw [e],h_2.st.below⟩
 refine rg_ h_1 (tri 19) [K_ (vP (pb E1 0) 1),K_ (vI s),K_ bT,K_ bT,K_ (vP (pb E1 0) 1),K_ (vI s),K_ bT,K_ bT,K_ bT,K_ (vP (pb E1 0) 2),K_ (vI x),K_ bF,K_ bF,K_ bF,K_ undef,K_ undef,K_ undef,K_ bF,K_ bF] (fun E2=>[(2,bF)]) (hs:=c_ (fa0 (vP (pb E1 0) 0))<|c_ (ld_ 0 (hrd:=by exact rd3 rfl))<|c_ (bi0 (vI s) (vI 0) (h:=by intro env w;simp [go_sem,h0]))<|c_ mv_<|c_ (fa0 (vP (pb E1 0) 0))<|c_ (ld_ 0 (hrd:=by exact rd3 rfl))<|c_ (bi0 (vI s) (vI 86400) (h:=by intro env w;simp [go_sem,h1]))<|c_ (pk0 bT bT bF (h:=by intro env w;simp [go_sem,h1]))<|c_ mv_<|c_ (fa0 (vP (pb E1 0) 0))<|c_ (ld_ 0 (hrd:=by exact rd3 rfl))<|c_ (bi0 (vI x) (vI 0) (h:=by intro env w;simp [go_sem,h2]))<|c_ (pk0 bT bF bF (h:=by intro env w;simp [go_sem,h2]))<|c_ mv_<|c_ off_<|c_ off_<|c_ off_<|c_ (pk0 bF undef bF)<|c_ mv_<|e_) (k:=fun E2 ac wd h_2=>?_)
 clear h_1
 refine then_n (wp_ret ?_)
 have s2:=h_2.g (t:=2) rfl
 refine leave (v:=.bool false) h_2.df (by simp [results,Tryz.results10,go_sem,Array.getD_eq_getD_getElem?,s2]) ?_
 have e:formB s x=false:=by simp [formB,wthn];omega
 exact ⟨by rw [e],h_2.st.below⟩
 refine rg_ h_1 (tri 19) [K_ (vP (pb E1 0) 1),K_ (vI s),K_ bT,K_ bT,K_ (vP (pb E1 0) 1),K_ (vI s),K_ bF,K_ bF,K_ bF,K_ undef,K_ undef,K_ undef,K_ bF,K_ bF,K_ undef,K_ undef,K_ undef,K_ bF,K_ bF] (fun E2=>[(2,bF)]) (hs:=c_ (fa0 (vP (pb E1 0) 0))<|c_ (ld_ 0 (hrd:=by exact rd3 rfl))<|c_ (bi0 (vI s) (vI 0) (h:=by intro env w;simp [go_sem,h0]))<|c_ mv_<|c_ (fa0 (vP (pb E1 0) 0))<|c_ (ld_ 0 (hrd:=by exact rd3 rfl))<|c_ (bi0 (vI s) (vI 86400) (h:=by intro env w;simp [go_sem,h1]))<|c_ (pk0 bT bF bF (h:=by intro env w;simp [go_sem,h1]))<|c_ mv_<|c_ off_<|c_ off_<|c_ off_<|c_ (pk0 bF undef bF)<|c_ mv_<|c_ off_<|c_ off_<|c_ off_<|c_ (pk0 bF undef bF)<|c_ mv_<|e_) (k:=fun E2 ac wd h_2=>?_)
 clear h_1
 refine then_n (wp_ret ?_)
 have s2:=h_2.g (t:=2) rfl
 refine leave (v:=.bool false) h_2.df (by simp [results,Tryz.results10,go_sem,Array.getD_eq_getD_getElem?,s2]) ?_
 have e:formB s x=false:=by simp [formB,wthn];omega
 exact ⟨by rw [e],h_2.st.below⟩
 refine rg_ h_1 (tri 19) [K_ (vP (pb E1 0) 1),K_ (vI s),K_ bF,K_ bF,K_ undef,K_ undef,K_ undef,K_ bF,K_ bF,K_ undef,K_ undef,K_ undef,K_ bF,K_ bF,K_ undef,K_ undef,K_ undef,K_ bF,K_ bF] (fun E2=>[(2,bF)]) (hs:=c_ (fa0 (vP (pb E1 0) 0))<|c_ (ld_ 0 (hrd:=by exact rd3 rfl))<|c_ (bi0 (vI s) (vI 0) (h:=by intro env w;simp [go_sem,h0]))<|c_ mv_<|c_ off_<|c_ off_<|c_ off_<|c_ (pk0 bF undef bF)<|c_ mv_<|c_ off_<|c_ off_<|c_ off_<|c_ (pk0 bF undef bF)<|c_ mv_<|c_ off_<|c_ off_<|c_ off_<|c_ (pk0 bF undef bF)<|c_ mv_<|e_) (k:=fun E2 ac wd h_2=>?_)
 clear h_1
 refine then_n (wp_ret ?_)
 have s2:=h_2.g (t:=2) rfl
 refine leave (v:=.bool false) h_2.df (by simp [results,Tryz.results10,go_sem,Array.getD_eq_getD_getElem?,s2]) ?_
 have e:formB s x=false:=by simp [formB,wthn];omega
 exact ⟨by rw [e],h_2.st.below⟩
theorem xin_any (n:Int):Ret 100 #[vI n] (.bool (wthn n (-1099511627776) 1099511627776)):=by
 intro w0
 have hst:=St.start w0 (Θ:=fun _=>True) (fun _ _=>trivial)
 refine enter Tryz.func100 rfl (n:=9) rfl (Nat.le_of_ble_eq_true rfl) hst (L:=[(0,vI n)]) (lk_args rfl) (fun ac h=>?_)
 refine wp_seq ?_
 refine rg_ h [[0]] [K_ bF] (fun E1=>[(0,vI n),(2,bF)]) (hs:=c_ mv_<|e_) (k:=fun E1 ac wd h_1=>?_)
 clear h
 refine then_n (wp_seq ?_)
 by_cases h:-1099511627776≤n
 refine rg_ h_1 (tri 7) [K_ (vI n),K_ bT,K_ bT,K_ (vI n),K_ (.bool (decide (n≤1099511627776))),K_ (.bool (decide (n≤1099511627776))),K_ (.bool (decide (n≤1099511627776)))] (fun E2=>[(2,.bool (decide (n≤1099511627776)))]) (hs:=c_ mv_<|c_ (bi0 (vI n) (vI (-1099511627776)) (h:=by intro env w;simp [go_sem,h]))<|c_ mv_<|c_ (gm0 (vI n))<|c_ (bi0 (vI n) (vI 1099511627776))<|c_ (pk0 bT (.bool (decide (n≤1099511627776))) bF)<|c_ mv_<|e_) (k:=fun E2 ac wd h_2=>?_)
 clear h_1
 refine then_n (wp_ret ?_)
 have s2:=h_2.g (t:=2) rfl
 refine leave (v:=.bool (decide (n≤1099511627776))) h_2.df (by simp [results,Tryz.results100,go_sem,Array.getD_eq_getD_getElem?,s2]) ?_
 exact ⟨by simp [wthn,h],h_2.st.below⟩
 refine rg_ h_1 (tri 7) [K_ (vI n),K_ bF,K_ bF,K_ undef,K_ undef,K_ bF,K_ bF] (fun E2=>[(2,bF)]) (hs:=c_ mv_<|c_ (bi0 (vI n) (vI (-1099511627776)) (h:=by intro env w;simp [go_sem,h]))<|c_ mv_<|c_ off_<|c_ off_<|c_ (pk0 bF undef bF)<|c_ mv_<|e_) (k:=fun E2 ac wd h_2=>?_)
 clear h_1
 refine then_n (wp_ret ?_)
 have s2:=h_2.g (t:=2) rfl
 refine leave (v:=.bool false) h_2.df (by simp [results,Tryz.results100,go_sem,Array.getD_eq_getD_getElem?,s2]) ?_
 exact ⟨by simp [wthn,h],h_2.st.below⟩
theorem xsecs_any (n:Int) (h0:-9223372036854775808≤n) (h1:n < 9223372036854775808):Ret 31 #[vI n] (vW (n*1000000000000000000)):=by
 intro w0
 have hst:=St.start w0 (Θ:=fun _=>True) (fun _ _=>trivial)
 refine enter Tryz.func31 rfl (n:=13) rfl (Nat.le_of_ble_eq_true rfl) hst (L:=[(0,vI n)]) (lk_args rfl) (fun ac h=>?_)
 refine wp_seq ?_
 refine rg_ h [[0]] [KE_ fun env=>vP (pb env 0) 0] (fun E1=>[(0,vI n),(2,vP (pb E1 0) 0)]) (W:=[{ i:=0,T:=26,c0:=[vI 0,.int .u64 0] }]) (M':=fun E1=>[((pb E1 0),26,[vI 0,.int .u64 0])]) (hs:=c_ (al_ 0)<|e_) (k:=fun E1 ac wd h_1=>?_)
 clear h
 refine then_n (wp_seq ?_)
 refine rg_ h_1 [[0],[0,1],[0,1,2],r_ 4,r_ 5,r_ 6,[0,1,2,3,4,6],[7],[0,1,2,3,4,5,7,8],r_ 10] [K_ (vI n),K_ (vW n),K_ (vW 1000000000000000000),K_ (vT2 (vW (n*1000000000000000000)) (vI 0)),K_ (vT2 (vW (n*1000000000000000000)) (vI 0)),K_ (vW (n*1000000000000000000)),K_ (vI 0),KE_ fun env=>vP (pb env 7) 0,none,K_ (vI 0)] (fun E2=>[(2,vP (pb E1 0) 0),(3,vP (pb E2 7) 0)]) (W:=[{ i:=7,T:=26,c0:=[vI 0,.int .u64 0],s:=some 8,c1:=fun _=>[vI (hi (n*1000000000000000000)),.int .u64 (lo (n*1000000000000000000))] }]) (M':=fun E2=>[((pb E1 0),26,[vI 0,.int .u64 0]),((pb E2 7),26,[vI (hi (n*1000000000000000000)),.int .u64 (lo (n*1000000000000000000))])]) (hs:=c_ mv_<|c_ (cl_ Tryz.func32 (h:=fun env=>⟨_,(of_any n (by omega) (by omega)),rfl⟩))<|c_ (cl_ Tryz.func32 (h:=fun env=>⟨_,(of_any 1000000000000000000 (by omega) (by omega)),rfl⟩))<|c_ (cl_ Tryz.func56 (h:=fun env=>⟨_,((wmul_any n 1000000000000000000 (by unfold InW;omega) (by unfold InW;omega)).eq (fit_tup (by unfold InW;omega))),rfl⟩))<|c_ mv_<|c_ ext_<|c_ ext_<|c_ (al_ 1)<|c_ (sw_ 1 7 (hst:=by exact fun _ _ _ hc=>st26 rfl rfl rfl hc))<|c_ mv_<|e_) (k:=fun E2 ac wd h_2=>?_)
 clear h_1
 refine then_n (wp_seq ?_)
 refine rg_ h_2 [[0],[0,1]] [K_ (vW (n*1000000000000000000)),none] (fun E3=>[(2,vP (pb E1 0) 0)]) (S:=[⟨0,1,fun _=>[vI (hi (n*1000000000000000000)),.int .u64 (lo (n*1000000000000000000))]⟩]) (M':=fun E3=>[((pb E1 0),26,[vI (hi (n*1000000000000000000)),.int .u64 (lo (n*1000000000000000000))]),((pb E2 7),26,[vI (hi (n*1000000000000000000)),.int .u64 (lo (n*1000000000000000000))])]) (hs:=c_ (ld_ 1 (hrd:=by exact rd26 rfl rfl))<|c_ (se_ 0 (hst:=by exact fun _ _ _ hc=>st26 rfl rfl rfl hc))<|e_) (k:=fun E3 ac wd h_3=>?_)
 clear h_2
 refine then_n (wp_ret ?_)
 have s2:=h_3.g (t:=2) rfl
 have hc2:=(h_3.st.own 0 _ rfl).2
 have c2_0:=own_cell (o:=0) hc2 rfl
 have c2_1:=own_cell (o:=1) hc2 rfl
 refine leave (v:=vW (n*1000000000000000000)) h_3.df (by simp [results,Tryz.results31,go_sem,Array.getD_eq_getD_getElem?,s2,c2_0,c2_1,Tryz.underlying26]) ?_
 exact ⟨rfl,h_3.st.below⟩
theorem formB_iff {s a:Int}:formB s a=true↔0≤s∧s≤86400∧0≤a∧a < 1000000000000000000:=by simp [formB,wthn];omega
theorem wth_iff {n l u:Int}:wthn n l u=true↔l≤n∧n≤u:=by simp [wthn]
theorem wth_no {n l u:Int}:wthn n l u=false↔¬ (l≤n∧n≤u):=by rw [← wth_iff];simp
theorem uc_in {d s a:Int}:InW (ucV d s a):=by
  unfold ucV
  split
  · rename_i h
    unfold ucE at h
    split at h
    · cases h
    split at h
    · cases h
    rename_i h1 h2
    have h3:=formB_iff.1 (by simpa using h1)
    have h4:=wth_iff.1 (by simpa using h2)
    unfold jn InW;omega
  · unfold InW;omega
theorem xcount_any (d s a:Int):Ret 9 #[vL d s a] (vT2 (vW (ucV d s a)) (vI (ucE d s a))):=by
 intro w0
 have hst:=St.start w0 (Θ:=fun _=>True) (fun _ _=>trivial)
 refine enter Tryz.func9 rfl (n:=33) rfl (Nat.le_of_ble_eq_true rfl) hst (L:=[(0,vL d s a)]) (lk_args rfl) (fun ac h=>?_)
 refine wp_seq ?_
 refine rg_ h [[0],[1],[2]] [KE_ fun env=>vP (pb env 0) 0,KE_ fun env=>vP (pb env 1) 0,K_ (vI 0)] (fun E1=>[(1,vP (pb E1 0) 0),(2,vP (pb E1 1) 0),(3,vI 0)]) (W:=[{ i:=0,T:=23,c0:=[vI d,vI s,vI a] },{ i:=1,T:=26,c0:=[vI 0,.int .u64 0] }]) (M':=fun E1=>[((pb E1 0),23,[vI d,vI s,vI a]),((pb E1 1),26,[vI 0,.int .u64 0])]) (hs:=c_ (bx0 0 (vL d s a))<|c_ (al_ 1)<|c_ mv_<|e_) (k:=fun E1 ac wd h_1=>?_)
 clear h
 refine then_n (wp_seq (wp_block (wp_seq ?_)))
 cases hf:formB s a
 refine rg_ h_1 (tri 4) [K_ (vL d s a),K_ bF,K_ bT,K_ bT] (fun E2=>[(1,vP (pb E1 0) 0),(2,vP (pb E1 1) 0),(3,vI 0),(4,bT)]) (hs:=c_ (ld_ 0 (hrd:=by exact rd23 rfl rfl rfl))<|c_ (cl_ Tryz.func29 (h:=fun env=>⟨_,((xform_any d s a).eq (congrArg Value.bool hf)),rfl⟩))<|c_ (un0 bF)<|c_ mv_<|e_) (k:=fun E2 ac wd h_2=>?_)
 clear h_1
 refine then_n ?_
 refine wp_cond_true (eval_tmp (h_2.g (t:=4) rfl)) ?_
 refine wp_seq ?_
 refine rg_ h_2 (tri 3) [K_ (.agg #[vI 0,.int .u64 0]),none,K_ (vI 1)] (fun E3=>[(1,vP (pb E1 0) 0),(2,vP (pb E1 1) 0),(3,vI 1)]) (S:=[⟨1,1,fun _=>[vI 0,.int .u64 0]⟩]) (M':=fun E3=>[((pb E1 0),23,[vI d,vI s,vI a]),((pb E1 1),26,[vI 0,.int .u64 0])]) (hs:=c_ (bd0 ([]))<|c_ (se_ 1 (hst:=by exact fun _ _ _ hc=>st26 rfl rfl rfl hc))<|c_ mv_<|e_) (k:=fun E3 ac wd h_3=>?_)
 clear h_2
 refine then_n (wp_ret (blk_ret (then_ret ?_)))
 have s2:=h_3.g (t:=2) rfl
 have hc2:=(h_3.st.own 1 _ rfl).2
 have c2_0:=own_cell (o:=0) hc2 rfl
 have c2_1:=own_cell (o:=1) hc2 rfl
 have s3:=h_3.g (t:=3) rfl
 refine leave (v:=vT2 (.agg #[vI 0,.int .u64 0]) (vI 1)) h_3.df (by simp [results,Tryz.results9,go_sem,Array.getD_eq_getD_getElem?,s2,c2_0,c2_1,Tryz.underlying26,s3]) ?_
 skip
 have e1:ucE d s a=1:=by unfold ucE;rw [hf];rfl
 have e2:ucV d s a=0:=by unfold ucV;rw [e1,if_neg (by omega)]
 exact ⟨by rw [e1,e2,vW,hi_zero,lo_zero],h_3.st.below⟩
 obtain ⟨q0,q1,q2,q3⟩:=formB_iff.1 hf
 refine rg_ h_1 (tri 4) [K_ (vL d s a),K_ bT,K_ bF,K_ bF] (fun E2=>[(1,vP (pb E1 0) 0),(2,vP (pb E1 1) 0),(3,vI 0),(4,bF)]) (hs:=c_ (ld_ 0 (hrd:=by exact rd23 rfl rfl rfl))<|c_ (cl_ Tryz.func29 (h:=fun env=>⟨_,((xform_any d s a).eq (congrArg Value.bool hf)),rfl⟩))<|c_ (un0 bT)<|c_ mv_<|e_) (k:=fun E2 ac wd h_2=>?_)
 clear h_1
 refine then_n ?_
 refine wp_cond_false (eval_tmp (h_2.g (t:=4) rfl)) ?_
 refine wp_seq ?_
 by_cases g0:d < -1099511627776
 refine rg_ h_2 (tri 9) [K_ (vP (pb E1 0) 0),K_ (vI d),K_ bT,K_ bT,K_ undef,K_ undef,K_ undef,K_ bT,K_ bT] (fun E3=>[(1,vP (pb E1 0) 0),(2,vP (pb E1 1) 0),(3,vI 0),(9,bT)]) (hs:=c_ (fa0 (vP (pb E1 0) 0))<|c_ (ld_ 0 (hrd:=by exact rd3 rfl))<|c_ (bi0 (vI d) (vI (-1099511627776)) (h:=by intro env w;simp [go_sem,g0]))<|c_ mv_<|c_ off_<|c_ off_<|c_ off_<|c_ (pk0 bT bT undef)<|c_ mv_<|e_) (k:=fun E3 ac wd h_3=>?_)
 clear h_2
 refine then_n ?_
 refine wp_cond_true (eval_tmp (h_3.g (t:=9) rfl)) ?_
 refine wp_seq ?_
 refine rg_ h_3 (tri 3) [K_ (.agg #[vI 0,.int .u64 0]),none,K_ (vI 2)] (fun E4=>[(1,vP (pb E1 0) 0),(2,vP (pb E1 1) 0),(3,vI 2)]) (S:=[⟨1,1,fun _=>[vI 0,.int .u64 0]⟩]) (M':=fun E4=>[((pb E1 0),23,[vI d,vI s,vI a]),((pb E1 1),26,[vI 0,.int .u64 0])]) (hs:=c_ (bd0 ([]))<|c_ (se_ 1 (hst:=by exact fun _ _ _ hc=>st26 rfl rfl rfl hc))<|c_ mv_<|e_) (k:=fun E4 ac wd h_4=>?_)
 clear h_3
 refine then_n (wp_ret (blk_ret (then_ret ?_)))
 have s2:=h_4.g (t:=2) rfl
 have hc2:=(h_4.st.own 1 _ rfl).2
 have c2_0:=own_cell (o:=0) hc2 rfl
 have c2_1:=own_cell (o:=1) hc2 rfl
 have s3:=h_4.g (t:=3) rfl
 refine leave (v:=vT2 (.agg #[vI 0,.int .u64 0]) (vI 2)) h_4.df (by simp [results,Tryz.results9,go_sem,Array.getD_eq_getD_getElem?,s2,c2_0,c2_1,Tryz.underlying26,s3]) ?_
 have hw:wthn d (-1099511627776) 1099511627776=false:=wth_no.2 (by omega)
 have e1:ucE d s a=2:=by unfold ucE;rw [hf,hw];rfl
 have e2:ucV d s a=0:=by unfold ucV;rw [e1,if_neg (by omega)]
 exact ⟨by rw [e1,e2,vW,hi_zero,lo_zero],h_4.st.below⟩
 by_cases g1:1099511627776 < d
 refine rg_ h_2 (tri 9) [K_ (vP (pb E1 0) 0),K_ (vI d),K_ bF,K_ bF,K_ (vP (pb E1 0) 0),K_ (vI d),K_ bT,K_ bT,K_ bT] (fun E3=>[(1,vP (pb E1 0) 0),(2,vP (pb E1 1) 0),(3,vI 0),(9,bT)]) (hs:=c_ (fa0 (vP (pb E1 0) 0))<|c_ (ld_ 0 (hrd:=by exact rd3 rfl))<|c_ (bi0 (vI d) (vI (-1099511627776)) (h:=by intro env w;simp [go_sem,g0]))<|c_ mv_<|c_ (fa0 (vP (pb E1 0) 0))<|c_ (ld_ 0 (hrd:=by exact rd3 rfl))<|c_ (bi0 (vI d) (vI 1099511627776) (h:=by intro env w;simp [go_sem,g1]))<|c_ (pk0 bF bT bT (h:=by intro env w;simp [go_sem,g1]))<|c_ mv_<|e_) (k:=fun E3 ac wd h_3=>?_)
 clear h_2
 refine then_n ?_
 refine wp_cond_true (eval_tmp (h_3.g (t:=9) rfl)) ?_
 refine wp_seq ?_
 refine rg_ h_3 (tri 3) [K_ (.agg #[vI 0,.int .u64 0]),none,K_ (vI 2)] (fun E4=>[(1,vP (pb E1 0) 0),(2,vP (pb E1 1) 0),(3,vI 2)]) (S:=[⟨1,1,fun _=>[vI 0,.int .u64 0]⟩]) (M':=fun E4=>[((pb E1 0),23,[vI d,vI s,vI a]),((pb E1 1),26,[vI 0,.int .u64 0])]) (hs:=c_ (bd0 ([]))<|c_ (se_ 1 (hst:=by exact fun _ _ _ hc=>st26 rfl rfl rfl hc))<|c_ mv_<|e_) (k:=fun E4 ac wd h_4=>?_)
 clear h_3
 refine then_n (wp_ret (blk_ret (then_ret ?_)))
 have s2:=h_4.g (t:=2) rfl
 have hc2:=(h_4.st.own 1 _ rfl).2
 have c2_0:=own_cell (o:=0) hc2 rfl
 have c2_1:=own_cell (o:=1) hc2 rfl
 have s3:=h_4.g (t:=3) rfl
 refine leave (v:=vT2 (.agg #[vI 0,.int .u64 0]) (vI 2)) h_4.df (by simp [results,Tryz.results9,go_sem,Array.getD_eq_getD_getElem?,s2,c2_0,c2_1,Tryz.underlying26,s3]) ?_
 have hw:wthn d (-1099511627776) 1099511627776=false:=wth_no.2 (by omega)
 have e1:ucE d s a=2:=by unfold ucE;rw [hf,hw];rfl
 have e2:ucV d s a=0:=by unfold ucV;rw [e1,if_neg (by omega)]
 exact ⟨by rw [e1,e2,vW,hi_zero,lo_zero],h_4.st.below⟩
 refine rg_ h_2 (tri 9) [K_ (vP (pb E1 0) 0),K_ (vI d),K_ bF,K_ bF,K_ (vP (pb E1 0) 0),K_ (vI d),K_ bF,K_ bF,K_ bF] (fun E3=>[(1,vP (pb E1 0) 0),(2,vP (pb E1 1) 0),(3,vI 0),(9,bF)]) (hs:=c_ (fa0 (vP (pb E1 0) 0))<|c_ (ld_ 0 (hrd:=by exact rd3 rfl))<|c_ (bi0 (vI d) (vI (-1099511627776)) (h:=by intro env w;simp [go_sem,g0]))<|c_ mv_<|c_ (fa0 (vP (pb E1 0) 0))<|c_ (ld_ 0 (hrd:=by exact rd3 rfl))<|c_ (bi0 (vI d) (vI 1099511627776) (h:=by intro env w;simp [go_sem,g1]))<|c_ (pk0 bF bT bF (h:=by intro env w;simp [go_sem,g1]))<|c_ mv_<|e_) (k:=fun E3 ac wd h_3=>?_)
 clear h_2
 refine then_n ?_
 refine wp_cond_false (eval_tmp (h_3.g (t:=9) rfl)) ?_
 refine wp_skip (blk_n (then_n (wp_seq ?_)))
 refine rg_ h_3 [[0],[0,1],[0,1,2],r_ 4,[4],[4,5],r_ 7,r_ 8,[8],[8,9],r_ 11,r_ 12,r_ 13,[0,1,2,3,4,5,6,7,8,9,10,11,13],r_ 15,r_ 16] [K_ (vP (pb E1 0) 0),K_ (vI d),K_ (vI (d-40587)),K_ (vI ((d-40587)*86400)),K_ (vP (pb E1 0) 1),K_ (vI s),K_ (vI (((d-40587)*86400)+s)),K_ (vW ((((d-40587)*86400)+s)*1000000000000000000)),K_ (vP (pb E1 0) 2),K_ (vI a),K_ (vW a),K_ (vT2 (vW (((((d-40587)*86400)+s)*1000000000000000000)+a)) (vI 0)),K_ (vW (((((d-40587)*86400)+s)*1000000000000000000)+a)),K_ (vI 0),none,K_ (vI 0)] (fun E4=>[(2,vP (pb E1 1) 0),(3,vI 0)]) (S:=[⟨1,14,fun _=>[vI (hi (((((d-40587)*86400)+s)*1000000000000000000)+a)),.int .u64 (lo (((((d-40587)*86400)+s)*1000000000000000000)+a))]⟩]) (M':=fun E4=>[((pb E1 0),23,[vI d,vI s,vI a]),((pb E1 1),26,[vI (hi (((((d-40587)*86400)+s)*1000000000000000000)+a)),.int .u64 (lo (((((d-40587)*86400)+s)*1000000000000000000)+a))])]) (hs:=c_ (fa0 (vP (pb E1 0) 0))<|c_ (ld_ 0 (hrd:=by exact rd3 rfl))<|c_ (bi0 (vI d) (vI 40587))<|c_ (bi0 (vI (d-40587)) (vI 86400))<|c_ (fa0 (vP (pb E1 0) 0))<|c_ (ld_ 0 (hrd:=by exact rd3 rfl))<|c_ (bi0 (vI ((d-40587)*86400)) (vI s))<|c_ (cl_ Tryz.func31 (h:=fun env=>⟨_,(xsecs_any (((d-40587)*86400)+s) (by omega) (by omega)),rfl⟩))<|c_ (fa0 (vP (pb E1 0) 0))<|c_ (ld_ 0 (hrd:=by exact rd3 rfl))<|c_ (cl_ Tryz.func32 (h:=fun env=>⟨_,(of_any a (by omega) (by omega)),rfl⟩))<|c_ (cl_ Tryz.func30 (h:=fun env=>⟨_,(Ret.eq (wadd_any ((((d-40587)*86400)+s)*1000000000000000000) a (by unfold InW;omega) (by unfold InW;omega)) (fit_tup (by unfold InW;omega))),rfl⟩))<|c_ ext_<|c_ ext_<|c_ (se_ 1 (hst:=by exact fun _ _ _ hc=>st26 rfl rfl rfl hc))<|c_ mv_<|e_) (k:=fun E4 ac wd h_4=>?_)
 clear h_3
 refine then_n (wp_ret ?_)
 have s2:=h_4.g (t:=2) rfl
 have hc2:=(h_4.st.own 1 _ rfl).2
 have c2_0:=own_cell (o:=0) hc2 rfl
 have c2_1:=own_cell (o:=1) hc2 rfl
 have s3:=h_4.g (t:=3) rfl
 refine leave (v:=vT2 (vW (((((d-40587)*86400)+s)*1000000000000000000)+a)) (vI 0)) h_4.df (by simp [results,Tryz.results9,go_sem,Array.getD_eq_getD_getElem?,s2,c2_0,c2_1,Tryz.underlying26,s3]) ?_
 have hw:wthn d (-1099511627776) 1099511627776=true:=wth_iff.2 (by omega)
 have e1:ucE d s a=0:=by unfold ucE;rw [hf,hw];rfl
 have e2:ucV d s a=((((d-40587)*86400)+s)*1000000000000000000)+a:=by unfold ucV jn;rw [if_pos e1];omega
 exact ⟨by rw [e1,e2],h_4.st.below⟩
def dsV (z:Int):Int × Int × Int × Int:=if wthn (z / 1000000000000000000 / 86400) (-1099511627776) 1099511627776=true then (0,z / 1000000000000000000 / 86400,z / 1000000000000000000 % 86400,z % 1000000000000000000) else (2,0,0,0)
theorem dsplit_any (z:Int) (hz:InW z):Ret 67 #[vW z] (vT2 (vL ((dsV z).2.1) ((dsV z).2.2.1) ((dsV z).2.2.2)) (vI ((dsV z).1))):=by
 have hz2:=hz;unfold InW at hz2
 intro w0
 have hst:=St.start w0 (Θ:=fun _=>True) (fun _ _=>trivial)
 refine enter Tryz.func67 rfl (n:=57) rfl (Nat.le_of_ble_eq_true rfl) hst (L:=[(0,vW z)]) (lk_args rfl) (fun ac h=>?_)
 refine wp_seq ?_
 refine rg_ h [[0],[1],[2]] [KE_ fun env=>vP (pb env 0) 0,KE_ fun env=>vP (pb env 1) 0,K_ (vI 0)] (fun E1=>[(1,vP (pb E1 0) 0),(2,vP (pb E1 1) 0),(3,vI 0)]) (W:=[{ i:=0,T:=26,c0:=[vI (hi (z)),.int .u64 (lo (z))] },{ i:=1,T:=23,c0:=[vI 0,vI 0,vI 0] }]) (M':=fun E1=>[((pb E1 0),26,[vI (hi (z)),.int .u64 (lo (z))]),((pb E1 1),23,[vI 0,vI 0,vI 0])]) (hs:=c_ (bx0 0 (vW z))<|c_ (al_ 1)<|c_ mv_<|e_) (k:=fun E1 ac wd h_1=>?_)
 clear h
 refine then_n (wp_seq ?_)
 cases hin:wthn (z / 1000000000000000000 / 86400) (-1099511627776) 1099511627776
 refine rg_ h_1 [[0],[1],[0,1,2],r_ 4,r_ 5,[0,1,2,3,5],[0,1,2,3,6],[7],[8],[0,1,2,3,4,7,8,9],[0,1,2,3,4,5,7,8,9,10],r_ 12] [K_ (vW z),K_ (vW 1000000000000000000),K_ (vT3 (vW (z / 1000000000000000000)) (vW (z % 1000000000000000000)) (vI 0)),K_ (vT3 (vW (z / 1000000000000000000)) (vW (z % 1000000000000000000)) (vI 0)),K_ (vW (z / 1000000000000000000)),K_ (vW (z % 1000000000000000000)),K_ (vI 0),KE_ fun env=>vP (pb env 7) 0,KE_ fun env=>vP (pb env 8) 0,none,none,K_ (vI 0)] (fun E2=>[(2,vP (pb E1 1) 0),(3,vI 0),(4,vP (pb E2 7) 0),(5,vP (pb E2 8) 0)]) (W:=[{ i:=7,T:=26,c0:=[vI 0,.int .u64 0],s:=some 9,c1:=fun _=>[vI (hi (z / 1000000000000000000)),.int .u64 (lo (z / 1000000000000000000))] },{ i:=8,T:=26,c0:=[vI 0,.int .u64 0],s:=some 10,c1:=fun _=>[vI (hi (z % 1000000000000000000)),.int .u64 (lo (z % 1000000000000000000))] }]) (M':=fun E2=>[((pb E1 0),26,[vI (hi (z)),.int .u64 (lo (z))]),((pb E1 1),23,[vI 0,vI 0,vI 0]),((pb E2 7),26,[vI (hi (z / 1000000000000000000)),.int .u64 (lo (z / 1000000000000000000))]),((pb E2 8),26,[vI (hi (z % 1000000000000000000)),.int .u64 (lo (z % 1000000000000000000))])]) (hs:=c_ (ld_ 0 (hrd:=by exact rd26 rfl rfl))<|c_ (cl_ Tryz.func32 (h:=fun env=>⟨_,(of_any 1000000000000000000 (by omega) (by omega)),rfl⟩))<|c_ (cl_ Tryz.func98 (h:=fun env=>⟨_,(wdiv_any z 1000000000000000000 (by unfold InW;omega) (by unfold InW;omega) (by omega)),rfl⟩))<|c_ mv_<|c_ ext_<|c_ ext_<|c_ ext_<|c_ (al_ 2)<|c_ (al_ 3)<|c_ (sw_ 2 7 (hst:=by exact fun _ _ _ hc=>st26 rfl rfl rfl hc))<|c_ (sw_ 3 8 (hst:=by exact fun _ _ _ hc=>st26 rfl rfl rfl hc))<|c_ mv_<|e_) (k:=fun E2 ac wd h_2=>?_)
 clear h_1
 refine then_n (wp_seq ?_)
 refine rg_ h_2 [[0],[1],[0,1,2],r_ 4,r_ 5,[0,1,2,3,5],[0,1,2,3,6],[7],[8],[0,1,2,3,4,7,8,9],[0,1,2,3,4,5,7,8,9,10],r_ 12] [K_ (vW (z / 1000000000000000000)),K_ (vW 86400),K_ (vT3 (vW ((z / 1000000000000000000) / 86400)) (vW ((z / 1000000000000000000) % 86400)) (vI 0)),K_ (vT3 (vW ((z / 1000000000000000000) / 86400)) (vW ((z / 1000000000000000000) % 86400)) (vI 0)),K_ (vW ((z / 1000000000000000000) / 86400)),K_ (vW ((z / 1000000000000000000) % 86400)),K_ (vI 0),KE_ fun env=>vP (pb env 7) 0,KE_ fun env=>vP (pb env 8) 0,none,none,K_ (vI 0)] (fun E3=>[(2,vP (pb E1 1) 0),(3,vI 0),(5,vP (pb E2 8) 0),(7,vP (pb E3 7) 0),(8,vP (pb E3 8) 0)]) (W:=[{ i:=7,T:=26,c0:=[vI 0,.int .u64 0],s:=some 9,c1:=fun _=>[vI (hi ((z / 1000000000000000000) / 86400)),.int .u64 (lo ((z / 1000000000000000000) / 86400))] },{ i:=8,T:=26,c0:=[vI 0,.int .u64 0],s:=some 10,c1:=fun _=>[vI (hi ((z / 1000000000000000000) % 86400)),.int .u64 (lo ((z / 1000000000000000000) % 86400))] }]) (M':=fun E3=>[((pb E1 0),26,[vI (hi (z)),.int .u64 (lo (z))]),((pb E1 1),23,[vI 0,vI 0,vI 0]),((pb E2 7),26,[vI (hi (z / 1000000000000000000)),.int .u64 (lo (z / 1000000000000000000))]),((pb E2 8),26,[vI (hi (z % 1000000000000000000)),.int .u64 (lo (z % 1000000000000000000))]),((pb E3 7),26,[vI (hi ((z / 1000000000000000000) / 86400)),.int .u64 (lo ((z / 1000000000000000000) / 86400))]),((pb E3 8),26,[vI (hi ((z / 1000000000000000000) % 86400)),.int .u64 (lo ((z / 1000000000000000000) % 86400))])]) (hs:=c_ (ld_ 2 (hrd:=by exact rd26 rfl rfl))<|c_ (cl_ Tryz.func32 (h:=fun env=>⟨_,(of_any 86400 (by omega) (by omega)),rfl⟩))<|c_ (cl_ Tryz.func98 (h:=fun env=>⟨_,(wdiv_any (z / 1000000000000000000) 86400 (by unfold InW;omega) (by unfold InW;omega) (by omega)),rfl⟩))<|c_ mv_<|c_ ext_<|c_ ext_<|c_ ext_<|c_ (al_ 4)<|c_ (al_ 5)<|c_ (sw_ 4 7 (hst:=by exact fun _ _ _ hc=>st26 rfl rfl rfl hc))<|c_ (sw_ 5 8 (hst:=by exact fun _ _ _ hc=>st26 rfl rfl rfl hc))<|c_ mv_<|e_) (k:=fun E3 ac wd h_3=>?_)
 clear h_2
 refine then_n (wp_seq ?_)
 refine rg_ h_3 [[0],[0,1],[0,1,2],r_ 4,[0,1,2,4],[0,1,2,3,5],r_ 7] [K_ (vW ((z / 1000000000000000000) / 86400)),K_ (vT2 (vI ((z / 1000000000000000000) / 86400)) (vI 0)),K_ (vT2 (vI ((z / 1000000000000000000) / 86400)) (vI 0)),K_ (vI ((z / 1000000000000000000) / 86400)),K_ (vI 0),K_ (vI ((z / 1000000000000000000) / 86400)),K_ (vI 0)] (fun E4=>[(2,vP (pb E1 1) 0),(3,vI 0),(5,vP (pb E2 8) 0),(8,vP (pb E3 8) 0),(10,vI ((z / 1000000000000000000) / 86400)),(11,vI 0)]) (hs:=c_ (ld_ 4 (hrd:=by exact rd26 rfl rfl))<|c_ (cl_ Tryz.func99 (h:=fun env=>⟨_,(wint_yes ((z / 1000000000000000000) / 86400) (by omega) (by omega)),rfl⟩))<|c_ mv_<|c_ ext_<|c_ ext_<|c_ mv_<|c_ mv_<|e_) (k:=fun E4 ac wd h_4=>?_)
 clear h_3
 refine then_n (wp_seq (wp_seq ?_))
 refine rg_ h_4 (tri 7) [K_ (vI 0),K_ bF,K_ bF,K_ (vI ((z / 1000000000000000000) / 86400)),K_ bF,K_ bT,K_ bT] (fun E5=>[(2,vP (pb E1 1) 0),(3,vI 0),(5,vP (pb E2 8) 0),(8,vP (pb E3 8) 0),(10,vI ((z / 1000000000000000000) / 86400)),(41,bT)]) (hs:=c_ mv_<|c_ (bi0 (vI 0) (vI 0) (h:=by intro env w;(first | (simp [go_sem];done) | (simp [go_sem];rfl))))<|c_ mv_<|c_ (gm0 (vI ((z / 1000000000000000000) / 86400)))<|c_ (cl_ Tryz.func100 (h:=fun env=>⟨_,((xin_any ((z / 1000000000000000000) / 86400)).eq (congrArg Value.bool hin)),rfl⟩))<|c_ (un0 bF)<|c_ (pk0 bF bT bT)<|e_) (k:=fun E5 ac wd h_5=>?_)
 clear h_4
 refine then_n ?_
 refine wp_cond_true (eval_tmp (h_5.g (t:=41) rfl)) ?_
 refine wp_seq ?_
 refine rg_ h_5 (tri 3) [K_ (vL 0 0 0),none,K_ (vI 2)] (fun E6=>[(2,vP (pb E1 1) 0),(3,vI 2),(5,vP (pb E2 8) 0),(8,vP (pb E3 8) 0),(10,vI ((z / 1000000000000000000) / 86400))]) (S:=[⟨1,1,fun _=>[vI 0,vI 0,vI 0]⟩]) (M':=fun E6=>[((pb E1 0),26,[vI (hi (z)),.int .u64 (lo (z))]),((pb E1 1),23,[vI 0,vI 0,vI 0]),((pb E2 7),26,[vI (hi (z / 1000000000000000000)),.int .u64 (lo (z / 1000000000000000000))]),((pb E2 8),26,[vI (hi (z % 1000000000000000000)),.int .u64 (lo (z % 1000000000000000000))]),((pb E3 7),26,[vI (hi ((z / 1000000000000000000) / 86400)),.int .u64 (lo ((z / 1000000000000000000) / 86400))]),((pb E3 8),26,[vI (hi ((z / 1000000000000000000) % 86400)),.int .u64 (lo ((z / 1000000000000000000) % 86400))])]) (hs:=c_ (bd0 ([]))<|c_ (se_ 1 (hst:=by exact fun _ _ _ hc=>st23 rfl rfl rfl rfl hc))<|c_ mv_<|e_) (k:=fun E6 ac wd h_6=>?_)
 clear h_5
 refine then_n (wp_ret (then_ret ?_))
 have s2:=h_6.g (t:=2) rfl
 have hc2:=(h_6.st.own 1 _ rfl).2
 have c2_0:=own_cell (o:=0) hc2 rfl
 have c2_1:=own_cell (o:=1) hc2 rfl
 have c2_2:=own_cell (o:=2) hc2 rfl
 have s3:=h_6.g (t:=3) rfl
 refine leave (v:=vT2 (vL 0 0 0) (vI 2)) h_6.df (by simp [results,Tryz.results67,go_sem,Array.getD_eq_getD_getElem?,s2,c2_0,c2_1,c2_2,Tryz.underlying23,s3]) ?_
 exact ⟨by unfold dsV;rw [hin];rfl,h_6.st.below⟩
 refine rg_ h_1 [[0],[1],[0,1,2],r_ 4,r_ 5,[0,1,2,3,5],[0,1,2,3,6],[7],[8],[0,1,2,3,4,7,8,9],[0,1,2,3,4,5,7,8,9,10],r_ 12] [K_ (vW z),K_ (vW 1000000000000000000),K_ (vT3 (vW (z / 1000000000000000000)) (vW (z % 1000000000000000000)) (vI 0)),K_ (vT3 (vW (z / 1000000000000000000)) (vW (z % 1000000000000000000)) (vI 0)),K_ (vW (z / 1000000000000000000)),K_ (vW (z % 1000000000000000000)),K_ (vI 0),KE_ fun env=>vP (pb env 7) 0,KE_ fun env=>vP (pb env 8) 0,none,none,K_ (vI 0)] (fun E2=>[(2,vP (pb E1 1) 0),(3,vI 0),(4,vP (pb E2 7) 0),(5,vP (pb E2 8) 0)]) (W:=[{ i:=7,T:=26,c0:=[vI 0,.int .u64 0],s:=some 9,c1:=fun _=>[vI (hi (z / 1000000000000000000)),.int .u64 (lo (z / 1000000000000000000))] },{ i:=8,T:=26,c0:=[vI 0,.int .u64 0],s:=some 10,c1:=fun _=>[vI (hi (z % 1000000000000000000)),.int .u64 (lo (z % 1000000000000000000))] }]) (M':=fun E2=>[((pb E1 0),26,[vI (hi (z)),.int .u64 (lo (z))]),((pb E1 1),23,[vI 0,vI 0,vI 0]),((pb E2 7),26,[vI (hi (z / 1000000000000000000)),.int .u64 (lo (z / 1000000000000000000))]),((pb E2 8),26,[vI (hi (z % 1000000000000000000)),.int .u64 (lo (z % 1000000000000000000))])]) (hs:=c_ (ld_ 0 (hrd:=by exact rd26 rfl rfl))<|c_ (cl_ Tryz.func32 (h:=fun env=>⟨_,(of_any 1000000000000000000 (by omega) (by omega)),rfl⟩))<|c_ (cl_ Tryz.func98 (h:=fun env=>⟨_,(wdiv_any z 1000000000000000000 (by unfold InW;omega) (by unfold InW;omega) (by omega)),rfl⟩))<|c_ mv_<|c_ ext_<|c_ ext_<|c_ ext_<|c_ (al_ 2)<|c_ (al_ 3)<|c_ (sw_ 2 7 (hst:=by exact fun _ _ _ hc=>st26 rfl rfl rfl hc))<|c_ (sw_ 3 8 (hst:=by exact fun _ _ _ hc=>st26 rfl rfl rfl hc))<|c_ mv_<|e_) (k:=fun E2 ac wd h_2=>?_)
 clear h_1
 refine then_n (wp_seq ?_)
 refine rg_ h_2 [[0],[1],[0,1,2],r_ 4,r_ 5,[0,1,2,3,5],[0,1,2,3,6],[7],[8],[0,1,2,3,4,7,8,9],[0,1,2,3,4,5,7,8,9,10],r_ 12] [K_ (vW (z / 1000000000000000000)),K_ (vW 86400),K_ (vT3 (vW ((z / 1000000000000000000) / 86400)) (vW ((z / 1000000000000000000) % 86400)) (vI 0)),K_ (vT3 (vW ((z / 1000000000000000000) / 86400)) (vW ((z / 1000000000000000000) % 86400)) (vI 0)),K_ (vW ((z / 1000000000000000000) / 86400)),K_ (vW ((z / 1000000000000000000) % 86400)),K_ (vI 0),KE_ fun env=>vP (pb env 7) 0,KE_ fun env=>vP (pb env 8) 0,none,none,K_ (vI 0)] (fun E3=>[(2,vP (pb E1 1) 0),(3,vI 0),(5,vP (pb E2 8) 0),(7,vP (pb E3 7) 0),(8,vP (pb E3 8) 0)]) (W:=[{ i:=7,T:=26,c0:=[vI 0,.int .u64 0],s:=some 9,c1:=fun _=>[vI (hi ((z / 1000000000000000000) / 86400)),.int .u64 (lo ((z / 1000000000000000000) / 86400))] },{ i:=8,T:=26,c0:=[vI 0,.int .u64 0],s:=some 10,c1:=fun _=>[vI (hi ((z / 1000000000000000000) % 86400)),.int .u64 (lo ((z / 1000000000000000000) % 86400))] }]) (M':=fun E3=>[((pb E1 0),26,[vI (hi (z)),.int .u64 (lo (z))]),((pb E1 1),23,[vI 0,vI 0,vI 0]),((pb E2 7),26,[vI (hi (z / 1000000000000000000)),.int .u64 (lo (z / 1000000000000000000))]),((pb E2 8),26,[vI (hi (z % 1000000000000000000)),.int .u64 (lo (z % 1000000000000000000))]),((pb E3 7),26,[vI (hi ((z / 1000000000000000000) / 86400)),.int .u64 (lo ((z / 1000000000000000000) / 86400))]),((pb E3 8),26,[vI (hi ((z / 1000000000000000000) % 86400)),.int .u64 (lo ((z / 1000000000000000000) % 86400))])]) (hs:=c_ (ld_ 2 (hrd:=by exact rd26 rfl rfl))<|c_ (cl_ Tryz.func32 (h:=fun env=>⟨_,(of_any 86400 (by omega) (by omega)),rfl⟩))<|c_ (cl_ Tryz.func98 (h:=fun env=>⟨_,(wdiv_any (z / 1000000000000000000) 86400 (by unfold InW;omega) (by unfold InW;omega) (by omega)),rfl⟩))<|c_ mv_<|c_ ext_<|c_ ext_<|c_ ext_<|c_ (al_ 4)<|c_ (al_ 5)<|c_ (sw_ 4 7 (hst:=by exact fun _ _ _ hc=>st26 rfl rfl rfl hc))<|c_ (sw_ 5 8 (hst:=by exact fun _ _ _ hc=>st26 rfl rfl rfl hc))<|c_ mv_<|e_) (k:=fun E3 ac wd h_3=>?_)
 clear h_2
 refine then_n (wp_seq ?_)
 refine rg_ h_3 [[0],[0,1],[0,1,2],r_ 4,[0,1,2,4],[0,1,2,3,5],r_ 7] [K_ (vW ((z / 1000000000000000000) / 86400)),K_ (vT2 (vI ((z / 1000000000000000000) / 86400)) (vI 0)),K_ (vT2 (vI ((z / 1000000000000000000) / 86400)) (vI 0)),K_ (vI ((z / 1000000000000000000) / 86400)),K_ (vI 0),K_ (vI ((z / 1000000000000000000) / 86400)),K_ (vI 0)] (fun E4=>[(2,vP (pb E1 1) 0),(3,vI 0),(5,vP (pb E2 8) 0),(8,vP (pb E3 8) 0),(10,vI ((z / 1000000000000000000) / 86400)),(11,vI 0)]) (hs:=c_ (ld_ 4 (hrd:=by exact rd26 rfl rfl))<|c_ (cl_ Tryz.func99 (h:=fun env=>⟨_,(wint_yes ((z / 1000000000000000000) / 86400) (by omega) (by omega)),rfl⟩))<|c_ mv_<|c_ ext_<|c_ ext_<|c_ mv_<|c_ mv_<|e_) (k:=fun E4 ac wd h_4=>?_)
 clear h_3
 refine then_n (wp_seq (wp_seq ?_))
 refine rg_ h_4 (tri 7) [K_ (vI 0),K_ bF,K_ bF,K_ (vI ((z / 1000000000000000000) / 86400)),K_ bT,K_ bF,K_ bF] (fun E5=>[(2,vP (pb E1 1) 0),(3,vI 0),(5,vP (pb E2 8) 0),(8,vP (pb E3 8) 0),(10,vI ((z / 1000000000000000000) / 86400)),(41,bF)]) (hs:=c_ mv_<|c_ (bi0 (vI 0) (vI 0) (h:=by intro env w;(first | (simp [go_sem];done) | (simp [go_sem];rfl))))<|c_ mv_<|c_ (gm0 (vI ((z / 1000000000000000000) / 86400)))<|c_ (cl_ Tryz.func100 (h:=fun env=>⟨_,((xin_any ((z / 1000000000000000000) / 86400)).eq (congrArg Value.bool hin)),rfl⟩))<|c_ (un0 bT)<|c_ (pk0 bF bT bF)<|e_) (k:=fun E5 ac wd h_5=>?_)
 clear h_4
 refine then_n ?_
 refine wp_cond_false (eval_tmp (h_5.g (t:=41) rfl)) ?_
 refine wp_skip (then_n (wp_seq ?_))
 refine rg_ h_5 [[0],[0,1],[0,1,2],r_ 4,[0,1,2,4],[0,1,2,3,5],r_ 7] [K_ (vW ((z / 1000000000000000000) % 86400)),K_ (vT2 (vI ((z / 1000000000000000000) % 86400)) (vI 0)),K_ (vT2 (vI ((z / 1000000000000000000) % 86400)) (vI 0)),K_ (vI ((z / 1000000000000000000) % 86400)),K_ (vI 0),K_ (vI ((z / 1000000000000000000) % 86400)),K_ (vI 0)] (fun E6=>[(2,vP (pb E1 1) 0),(3,vI 0),(5,vP (pb E2 8) 0),(10,vI ((z / 1000000000000000000) / 86400)),(12,vI ((z / 1000000000000000000) % 86400))]) (hs:=c_ (ld_ 5 (hrd:=by exact rd26 rfl rfl))<|c_ (cl_ Tryz.func99 (h:=fun env=>⟨_,(wint_yes ((z / 1000000000000000000) % 86400) (by omega) (by omega)),rfl⟩))<|c_ mv_<|c_ ext_<|c_ ext_<|c_ mv_<|c_ mv_<|e_) (k:=fun E6 ac wd h_6=>?_)
 clear h_5
 refine then_n (wp_seq ?_)
 refine rg_ h_6 [[0],[0,1],[0,1,2],r_ 4,[0,1,2,4],[0,1,2,3,5],r_ 7] [K_ (vW (z % 1000000000000000000)),K_ (vT2 (vI (z % 1000000000000000000)) (vI 0)),K_ (vT2 (vI (z % 1000000000000000000)) (vI 0)),K_ (vI (z % 1000000000000000000)),K_ (vI 0),K_ (vI (z % 1000000000000000000)),K_ (vI 0)] (fun E7=>[(2,vP (pb E1 1) 0),(3,vI 0),(10,vI ((z / 1000000000000000000) / 86400)),(12,vI ((z / 1000000000000000000) % 86400)),(14,vI (z % 1000000000000000000))]) (hs:=c_ (ld_ 3 (hrd:=by exact rd26 rfl rfl))<|c_ (cl_ Tryz.func99 (h:=fun env=>⟨_,(wint_yes (z % 1000000000000000000) (by omega) (by omega)),rfl⟩))<|c_ mv_<|c_ ext_<|c_ ext_<|c_ mv_<|c_ mv_<|e_) (k:=fun E7 ac wd h_7=>?_)
 clear h_6
 refine then_n (wp_seq ?_)
 refine rg_ h_7 [[0],[1],[2],r_ 4,r_ 5,r_ 6] [K_ (vI ((z / 1000000000000000000) / 86400)),K_ (vI ((z / 1000000000000000000) % 86400)),K_ (vI (z % 1000000000000000000)),K_ (vL ((z / 1000000000000000000) / 86400) ((z / 1000000000000000000) % 86400) (z % 1000000000000000000)),none,K_ (vI 0)] (fun E8=>[(2,vP (pb E1 1) 0),(3,vI 0)]) (S:=[⟨1,4,fun _=>[vI ((z / 1000000000000000000) / 86400),vI ((z / 1000000000000000000) % 86400),vI (z % 1000000000000000000)]⟩]) (M':=fun E8=>[((pb E1 0),26,[vI (hi (z)),.int .u64 (lo (z))]),((pb E1 1),23,[vI ((z / 1000000000000000000) / 86400),vI ((z / 1000000000000000000) % 86400),vI (z % 1000000000000000000)]),((pb E2 7),26,[vI (hi (z / 1000000000000000000)),.int .u64 (lo (z / 1000000000000000000))]),((pb E2 8),26,[vI (hi (z % 1000000000000000000)),.int .u64 (lo (z % 1000000000000000000))]),((pb E3 7),26,[vI (hi ((z / 1000000000000000000) / 86400)),.int .u64 (lo ((z / 1000000000000000000) / 86400))]),((pb E3 8),26,[vI (hi ((z / 1000000000000000000) % 86400)),.int .u64 (lo ((z / 1000000000000000000) % 86400))])]) (hs:=c_ mv_<|c_ mv_<|c_ mv_<|c_ (bd0 ([vI ((z / 1000000000000000000) / 86400),vI ((z / 1000000000000000000) % 86400),vI (z % 1000000000000000000)]))<|c_ (se_ 1 (hst:=by exact fun _ _ _ hc=>st23 rfl rfl rfl rfl hc))<|c_ mv_<|e_) (k:=fun E8 ac wd h_8=>?_)
 clear h_7
 refine then_n (wp_ret ?_)
 have s2:=h_8.g (t:=2) rfl
 have hc2:=(h_8.st.own 1 _ rfl).2
 have c2_0:=own_cell (o:=0) hc2 rfl
 have c2_1:=own_cell (o:=1) hc2 rfl
 have c2_2:=own_cell (o:=2) hc2 rfl
 have s3:=h_8.g (t:=3) rfl
 refine leave (v:=vT2 (vL ((z / 1000000000000000000) / 86400) ((z / 1000000000000000000) % 86400) (z % 1000000000000000000)) (vI 0)) h_8.df (by simp [results,Tryz.results67,go_sem,Array.getD_eq_getD_getElem?,s2,c2_0,c2_1,c2_2,Tryz.underlying23,s3]) ?_
 exact ⟨by unfold dsV;rw [hin];rfl,h_8.st.below⟩
def upP (n:Int):Int × Int × Int × Int:=if upOk n=true then (0,upD n,upS n,upA n) else (2,0,0,0)
theorem upZ_eq (n:Int):upZ n=n+3506716800*1000000000000000000:=by unfold upZ jn;omega
theorem upP_in {n:Int}:dsV (n+3506716800*1000000000000000000)=upP n:=by
 unfold dsV upP upOk upD upS upA
 rw [upZ_eq]
theorem upP_out {n:Int} (h:¬ InW (n+3506716800*1000000000000000000)):upP n=(2,0,0,0):=by
 unfold upP
 rw [if_neg]
 unfold upOk upD
 rw [upZ_eq]
 intro hw
 have:=wth_iff.1 hw
 unfold InW at h
 omega
theorem upOk_no {n:Int} (h:upOk n=false):upP n=(2,0,0,0):=by unfold upP;rw [h];rfl
theorem upOk_yes {n:Int} (h:upOk n=true):upP n=(0,upD n,upS n,upA n):=by unfold upP;rw [h];rfl
theorem upOk_bd {n:Int} (h:upOk n=true):-1099511627776≤upD n∧upD n≤1099511627776∧0≤upS n∧upS n < 86400∧0≤upA n∧upA n < 1000000000000000000:=by
 have:=wth_iff.1 h
 unfold upS upA
 omega
theorem xplain_any (n:Int) (hn:InW n):Ret 42 #[vW n] (vT2 (vL ((upP n).2.1) ((upP n).2.2.1) ((upP n).2.2.2)) (vI ((upP n).1))):=by
 intro w0
 have hst:=St.start w0 (Θ:=fun _=>True) (fun _ _=>trivial)
 refine enter Tryz.func42 rfl (n:=20) rfl (Nat.le_of_ble_eq_true rfl) hst (L:=[(0,vW n)]) (lk_args rfl) (fun ac h=>?_)
 refine wp_seq ?_
 refine rg_ h [[0],[1],[2]] [KE_ fun env=>vP (pb env 0) 0,KE_ fun env=>vP (pb env 1) 0,K_ (vI 0)] (fun E1=>[(1,vP (pb E1 0) 0),(2,vP (pb E1 1) 0),(3,vI 0)]) (W:=[{ i:=0,T:=26,c0:=[vI (hi (n)),.int .u64 (lo (n))] },{ i:=1,T:=23,c0:=[vI 0,vI 0,vI 0] }]) (M':=fun E1=>[((pb E1 0),26,[vI (hi (n)),.int .u64 (lo (n))]),((pb E1 1),23,[vI 0,vI 0,vI 0])]) (hs:=c_ (bx0 0 (vW n))<|c_ (al_ 1)<|c_ mv_<|e_) (k:=fun E1 ac wd h_1=>?_)
 clear h
 refine then_n (wp_seq ?_)
 by_cases hw:InW (n+3506716800*1000000000000000000)
 refine rg_ h_1 [[0],[1],[0,1,2],r_ 4,r_ 5,[0,1,2,3,5],[6],[0,1,2,3,4,6,7],r_ 9] [K_ (vW n),K_ (vW (3506716800*1000000000000000000)),K_ (vT2 (vW (n+3506716800*1000000000000000000)) (vI 0)),K_ (vT2 (vW (n+3506716800*1000000000000000000)) (vI 0)),K_ (vW (n+3506716800*1000000000000000000)),K_ (vI 0),KE_ fun env=>vP (pb env 6) 0,none,K_ (vI 0)] (fun E2=>[(2,vP (pb E1 1) 0),(3,vI 0),(4,vP (pb E2 6) 0),(5,vI 0)]) (W:=[{ i:=6,T:=26,c0:=[vI 0,.int .u64 0],s:=some 7,c1:=fun _=>[vI (hi (n+3506716800*1000000000000000000)),.int .u64 (lo (n+3506716800*1000000000000000000))] }]) (M':=fun E2=>[((pb E1 0),26,[vI (hi (n)),.int .u64 (lo (n))]),((pb E1 1),23,[vI 0,vI 0,vI 0]),((pb E2 6),26,[vI (hi (n+3506716800*1000000000000000000)),.int .u64 (lo (n+3506716800*1000000000000000000))])]) (hs:=c_ (ld_ 0 (hrd:=by exact rd26 rfl rfl))<|c_ (cl_ Tryz.func31 (h:=fun env=>⟨_,(xsecs_any 3506716800 (by omega) (by omega)),rfl⟩))<|c_ (cl_ Tryz.func30 (h:=fun env=>⟨_,(Ret.eq (wadd_any n (3506716800*1000000000000000000) hn (by unfold InW;omega)) (fit_tup hw)),rfl⟩))<|c_ mv_<|c_ ext_<|c_ ext_<|c_ (al_ 2)<|c_ (sw_ 2 6 (hst:=by exact fun _ _ _ hc=>st26 rfl rfl rfl hc))<|c_ mv_<|e_) (k:=fun E2 ac wd h_2=>?_)
 clear h_1
 refine then_n (wp_seq (wp_seq ?_))
 refine rg_ h_2 [[0],[0,1]] [K_ (vI 0),K_ bF] (fun E3=>[(2,vP (pb E1 1) 0),(3,vI 0),(4,vP (pb E2 6) 0),(5,vI 0),(13,bF)]) (hs:=c_ mv_<|c_ (bi0 (vI 0) (vI 0) (h:=by intro env w;(first | (simp [go_sem];done) | (simp [go_sem];rfl))))<|e_) (k:=fun E3 ac wd h_3=>?_)
 clear h_2
 refine then_n ?_
 refine wp_cond_false (eval_tmp (h_3.g (t:=13) rfl)) ?_
 refine wp_skip (then_n (wp_seq ?_))
 refine rg_ h_3 [[0],[0,1],[0,1,2],[0,1,3],r_ 5,r_ 6] [K_ (vW (n+3506716800*1000000000000000000)),K_ (vT2 (vL ((upP n).2.1) ((upP n).2.2.1) ((upP n).2.2.2)) (vI ((upP n).1))),K_ (vL ((upP n).2.1) ((upP n).2.2.1) ((upP n).2.2.2)),K_ (vI ((upP n).1)),none,K_ (vI ((upP n).1))] (fun E4=>[(2,vP (pb E1 1) 0),(3,vI ((upP n).1))]) (S:=[⟨1,4,fun _=>[vI ((upP n).2.1),vI ((upP n).2.2.1),vI ((upP n).2.2.2)]⟩]) (M':=fun E4=>[((pb E1 0),26,[vI (hi (n)),.int .u64 (lo (n))]),((pb E1 1),23,[vI ((upP n).2.1),vI ((upP n).2.2.1),vI ((upP n).2.2.2)]),((pb E2 6),26,[vI (hi (n+3506716800*1000000000000000000)),.int .u64 (lo (n+3506716800*1000000000000000000))])]) (hs:=c_ (ld_ 2 (hrd:=by exact rd26 rfl rfl))<|c_ (cl_ Tryz.func67 (h:=fun env=>⟨_,((dsplit_any (n+3506716800*1000000000000000000) hw).eq (y_lab upP_in)),rfl⟩))<|c_ ext_<|c_ ext_<|c_ (se_ 1 (hst:=by exact fun _ _ _ hc=>st23 rfl rfl rfl rfl hc))<|c_ mv_<|e_) (k:=fun E4 ac wd h_4=>?_)
 clear h_3
 refine then_n (wp_ret ?_)
 have s2:=h_4.g (t:=2) rfl
 have hc2:=(h_4.st.own 1 _ rfl).2
 have c2_0:=own_cell (o:=0) hc2 rfl
 have c2_1:=own_cell (o:=1) hc2 rfl
 have c2_2:=own_cell (o:=2) hc2 rfl
 have s3:=h_4.g (t:=3) rfl
 refine leave (v:=vT2 (vL ((upP n).2.1) ((upP n).2.2.1) ((upP n).2.2.2)) (vI ((upP n).1))) h_4.df (by simp [results,Tryz.results42,go_sem,Array.getD_eq_getD_getElem?,s2,c2_0,c2_1,c2_2,Tryz.underlying23,s3]) ?_
 exact ⟨rfl,h_4.st.below⟩
 refine rg_ h_1 [[0],[1],[0,1,2],r_ 4,r_ 5,[0,1,2,3,5],[6],[0,1,2,3,4,6,7],r_ 9] [K_ (vW n),K_ (vW (3506716800*1000000000000000000)),K_ (vT2 (vW 0) (vI 2)),K_ (vT2 (vW 0) (vI 2)),K_ (vW 0),K_ (vI 2),KE_ fun env=>vP (pb env 6) 0,none,K_ (vI 2)] (fun E2=>[(2,vP (pb E1 1) 0),(3,vI 0),(4,vP (pb E2 6) 0),(5,vI 2)]) (W:=[{ i:=6,T:=26,c0:=[vI 0,.int .u64 0],s:=some 7,c1:=fun _=>[vI (hi (0)),.int .u64 (lo (0))] }]) (M':=fun E2=>[((pb E1 0),26,[vI (hi (n)),.int .u64 (lo (n))]),((pb E1 1),23,[vI 0,vI 0,vI 0]),((pb E2 6),26,[vI (hi (0)),.int .u64 (lo (0))])]) (hs:=c_ (ld_ 0 (hrd:=by exact rd26 rfl rfl))<|c_ (cl_ Tryz.func31 (h:=fun env=>⟨_,(xsecs_any 3506716800 (by omega) (by omega)),rfl⟩))<|c_ (cl_ Tryz.func30 (h:=fun env=>⟨_,(Ret.eq (wadd_any n (3506716800*1000000000000000000) hn (by unfold InW;omega)) (fit_tup_no hw)),rfl⟩))<|c_ mv_<|c_ ext_<|c_ ext_<|c_ (al_ 2)<|c_ (sw_ 2 6 (hst:=by exact fun _ _ _ hc=>st26 rfl rfl rfl hc))<|c_ mv_<|e_) (k:=fun E2 ac wd h_2=>?_)
 clear h_1
 refine then_n (wp_seq (wp_seq ?_))
 refine rg_ h_2 [[0],[0,1]] [K_ (vI 2),K_ bT] (fun E3=>[(2,vP (pb E1 1) 0),(3,vI 0),(4,vP (pb E2 6) 0),(5,vI 2),(13,bT)]) (hs:=c_ mv_<|c_ (bi0 (vI 2) (vI 0))<|e_) (k:=fun E3 ac wd h_3=>?_)
 clear h_2
 refine then_n ?_
 refine wp_cond_true (eval_tmp (h_3.g (t:=13) rfl)) ?_
 refine wp_seq ?_
 refine rg_ h_3 [[0],[1],[0,2],r_ 4] [K_ (vL 0 0 0),K_ (vI 2),none,K_ (vI 2)] (fun E4=>[(2,vP (pb E1 1) 0),(3,vI 2),(4,vP (pb E2 6) 0)]) (S:=[⟨1,2,fun _=>[vI 0,vI 0,vI 0]⟩]) (M':=fun E4=>[((pb E1 0),26,[vI (hi (n)),.int .u64 (lo (n))]),((pb E1 1),23,[vI 0,vI 0,vI 0]),((pb E2 6),26,[vI (hi (0)),.int .u64 (lo (0))])]) (hs:=c_ (bd0 ([]))<|c_ mv_<|c_ (se_ 1 (hst:=by exact fun _ _ _ hc=>st23 rfl rfl rfl rfl hc))<|c_ mv_<|e_) (k:=fun E4 ac wd h_4=>?_)
 clear h_3
 refine then_n (wp_ret (then_ret ?_))
 have s2:=h_4.g (t:=2) rfl
 have hc2:=(h_4.st.own 1 _ rfl).2
 have c2_0:=own_cell (o:=0) hc2 rfl
 have c2_1:=own_cell (o:=1) hc2 rfl
 have c2_2:=own_cell (o:=2) hc2 rfl
 have s3:=h_4.g (t:=3) rfl
 refine leave (v:=vT2 (vL 0 0 0) (vI 2)) h_4.df (by simp [results,Tryz.results42,go_sem,Array.getD_eq_getD_getElem?,s2,c2_0,c2_1,c2_2,Tryz.underlying23,s3]) ?_
 have e:=upP_out hw
 exact ⟨by rw [e],h_4.st.below⟩
theorem xntp_any (n:Int) (hn:InW n):Ret 23 #[vW n] (vT2 (vW (fitV (n+2208988800*1000000000000000000))) (vI (fitE (n+2208988800*1000000000000000000)))):=by
 intro w0
 have hst:=St.start w0 (Θ:=fun _=>True) (fun _ _=>trivial)
 refine enter Tryz.func23 rfl (n:=9) rfl (Nat.le_of_ble_eq_true rfl) hst (L:=[(0,vW n)]) (lk_args rfl) (fun ac h=>?_)
 refine wp_seq ?_
 refine rg_ h [[0],[1],[2]] [KE_ fun env=>vP (pb env 0) 0,KE_ fun env=>vP (pb env 1) 0,K_ (vI 0)] (fun E1=>[(1,vP (pb E1 0) 0),(2,vP (pb E1 1) 0),(3,vI 0)]) (W:=[{ i:=0,T:=26,c0:=[vI (hi (n)),.int .u64 (lo (n))] },{ i:=1,T:=26,c0:=[vI 0,.int .u64 0] }]) (M':=fun E1=>[((pb E1 0),26,[vI (hi (n)),.int .u64 (lo (n))]),((pb E1 1),26,[vI 0,.int .u64 0])]) (hs:=c_ (bx0 0 (vW n))<|c_ (al_ 1)<|c_ mv_<|e_) (k:=fun E1 ac wd h_1=>?_)
 clear h
 refine then_n (wp_seq ?_)
 refine rg_ h_1 [[0],[1],[0,1,2],r_ 4,[0,1,2,4],r_ 6,r_ 7] [K_ (vW n),K_ (vW (2208988800*1000000000000000000)),K_ (vT2 (vW (fitV (n+2208988800*1000000000000000000))) (vI (fitE (n+2208988800*1000000000000000000)))),K_ (vW (fitV (n+2208988800*1000000000000000000))),K_ (vI (fitE (n+2208988800*1000000000000000000))),none,K_ (vI (fitE (n+2208988800*1000000000000000000)))] (fun E2=>[(2,vP (pb E1 1) 0),(3,vI (fitE (n+2208988800*1000000000000000000)))]) (S:=[⟨1,5,fun _=>[vI (hi (fitV (n+2208988800*1000000000000000000))),.int .u64 (lo (fitV (n+2208988800*1000000000000000000)))]⟩]) (M':=fun E2=>[((pb E1 0),26,[vI (hi (n)),.int .u64 (lo (n))]),((pb E1 1),26,[vI (hi (fitV (n+2208988800*1000000000000000000))),.int .u64 (lo (fitV (n+2208988800*1000000000000000000)))])]) (hs:=c_ (ld_ 0 (hrd:=by exact rd26 rfl rfl))<|c_ (cl_ Tryz.func31 (h:=fun env=>⟨_,(xsecs_any 2208988800 (by omega) (by omega)),rfl⟩))<|c_ (cl_ Tryz.func30 (h:=fun env=>⟨_,(wadd_any n (2208988800*1000000000000000000) hn (by unfold InW;omega)),rfl⟩))<|c_ ext_<|c_ ext_<|c_ (se_ 1 (hst:=by exact fun _ _ _ hc=>st26 rfl rfl rfl hc))<|c_ mv_<|e_) (k:=fun E2 ac wd h_2=>?_)
 clear h_1
 refine then_n (wp_ret ?_)
 have s2:=h_2.g (t:=2) rfl
 have hc2:=(h_2.st.own 1 _ rfl).2
 have c2_0:=own_cell (o:=0) hc2 rfl
 have c2_1:=own_cell (o:=1) hc2 rfl
 have s3:=h_2.g (t:=3) rfl
 refine leave (v:=vT2 (vW (fitV (n+2208988800*1000000000000000000))) (vI (fitE (n+2208988800*1000000000000000000)))) h_2.df (by simp [results,Tryz.results23,go_sem,Array.getD_eq_getD_getElem?,s2,c2_0,c2_1,Tryz.underlying26,s3]) ?_
 exact ⟨rfl,h_2.st.below⟩
theorem xfrom_any (n:Int) (hn:InW n):Ret 24 #[vW n] (vT2 (vW (fitV (n-2208988800*1000000000000000000))) (vI (fitE (n-2208988800*1000000000000000000)))):=by
 intro w0
 have hst:=St.start w0 (Θ:=fun _=>True) (fun _ _=>trivial)
 refine enter Tryz.func24 rfl (n:=9) rfl (Nat.le_of_ble_eq_true rfl) hst (L:=[(0,vW n)]) (lk_args rfl) (fun ac h=>?_)
 refine wp_seq ?_
 refine rg_ h [[0],[1],[2]] [KE_ fun env=>vP (pb env 0) 0,KE_ fun env=>vP (pb env 1) 0,K_ (vI 0)] (fun E1=>[(1,vP (pb E1 0) 0),(2,vP (pb E1 1) 0),(3,vI 0)]) (W:=[{ i:=0,T:=26,c0:=[vI (hi (n)),.int .u64 (lo (n))] },{ i:=1,T:=26,c0:=[vI 0,.int .u64 0] }]) (M':=fun E1=>[((pb E1 0),26,[vI (hi (n)),.int .u64 (lo (n))]),((pb E1 1),26,[vI 0,.int .u64 0])]) (hs:=c_ (bx0 0 (vW n))<|c_ (al_ 1)<|c_ mv_<|e_) (k:=fun E1 ac wd h_1=>?_)
 clear h
 refine then_n (wp_seq ?_)
 refine rg_ h_1 [[0],[1],[0,1,2],r_ 4,[0,1,2,4],r_ 6,r_ 7] [K_ (vW n),K_ (vW (2208988800*1000000000000000000)),K_ (vT2 (vW (fitV (n-2208988800*1000000000000000000))) (vI (fitE (n-2208988800*1000000000000000000)))),K_ (vW (fitV (n-2208988800*1000000000000000000))),K_ (vI (fitE (n-2208988800*1000000000000000000))),none,K_ (vI (fitE (n-2208988800*1000000000000000000)))] (fun E2=>[(2,vP (pb E1 1) 0),(3,vI (fitE (n-2208988800*1000000000000000000)))]) (S:=[⟨1,5,fun _=>[vI (hi (fitV (n-2208988800*1000000000000000000))),.int .u64 (lo (fitV (n-2208988800*1000000000000000000)))]⟩]) (M':=fun E2=>[((pb E1 0),26,[vI (hi (n)),.int .u64 (lo (n))]),((pb E1 1),26,[vI (hi (fitV (n-2208988800*1000000000000000000))),.int .u64 (lo (fitV (n-2208988800*1000000000000000000)))])]) (hs:=c_ (ld_ 0 (hrd:=by exact rd26 rfl rfl))<|c_ (cl_ Tryz.func31 (h:=fun env=>⟨_,(xsecs_any 2208988800 (by omega) (by omega)),rfl⟩))<|c_ (cl_ Tryz.func47 (h:=fun env=>⟨_,(wsub_any n (2208988800*1000000000000000000) hn (by unfold InW;omega)),rfl⟩))<|c_ ext_<|c_ ext_<|c_ (se_ 1 (hst:=by exact fun _ _ _ hc=>st26 rfl rfl rfl hc))<|c_ mv_<|e_) (k:=fun E2 ac wd h_2=>?_)
 clear h_1
 refine then_n (wp_ret ?_)
 have s2:=h_2.g (t:=2) rfl
 have hc2:=(h_2.st.own 1 _ rfl).2
 have c2_0:=own_cell (o:=0) hc2 rfl
 have c2_1:=own_cell (o:=1) hc2 rfl
 have s3:=h_2.g (t:=3) rfl
 refine leave (v:=vT2 (vW (fitV (n-2208988800*1000000000000000000))) (vI (fitE (n-2208988800*1000000000000000000)))) h_2.df (by simp [results,Tryz.results24,go_sem,Array.getD_eq_getD_getElem?,s2,c2_0,c2_1,Tryz.underlying26,s3]) ?_
 exact ⟨rfl,h_2.st.below⟩
end Go.Proofs.YtdfkghpgekmmlabGreat
namespace Go.Proofs.YtdfkghpgekmmlabGreat
open Go.RowKit
attribute [local go_sem] vN bT bF rS vW vM vL vT2 vT3 vP vI execOp Act.eval evC bigF vB hi_zero lo_zero Tryz.underlying23 Tryz.underlying26
theorem xlabels_c (w0:World) (c g:Nat) (b:Value) (u x:Int) (es:List (Int × Int)) (hC:IsC w0 c g b u x es) (n:Int) (hn:InW n):ClkC Tryz.prog 17 [vP c 0,vW n] w0 c g b u x es (.tuple #[vL ((ulA es n).1) ((ulA es n).2.1) ((ulA es n).2.2),vL ((ulB es n).1) ((ulB es n).2.1) ((ulB es n).2.2),vI (ulK es n),vI (ulE es n)]):=by
 unfold ClkC
 have hst:=St.startC w0 hC
 refine enter Tryz.func17 rfl (n:=65) rfl (Nat.le_of_ble_eq_true rfl) hst (L:=[(0,vP c 0),(1,vW n)]) (lk_args rfl) (fun ac h=>?_)
 refine wp_seq ?_
 refine rg_ h [[0],[1],[2],[3],[3,4]] [KE_ fun env=>vP (pb env 0) 0,KE_ fun env=>vP (pb env 1) 0,KE_ fun env=>vP (pb env 2) 0,K_ (vI 0),K_ (vI 0)] (fun E1=>[(0,vP c 0),(3,vP (pb E1 0) 0),(4,vP (pb E1 1) 0),(5,vP (pb E1 2) 0),(6,vI 0),(7,vI 0)]) (W:=[{ i:=0,T:=26,c0:=[vI (hi (n)),.int .u64 (lo (n))] },{ i:=1,T:=23,c0:=[vI 0,vI 0,vI 0] },{ i:=2,T:=23,c0:=[vI 0,vI 0,vI 0] }]) (M':=fun E1=>[((pb E1 0),26,[vI (hi (n)),.int .u64 (lo (n))]),((pb E1 1),23,[vI 0,vI 0,vI 0]),((pb E1 2),23,[vI 0,vI 0,vI 0])]) (hs:=c_ (bx0 0 (vW n))<|c_ (al_ 1)<|c_ (al_ 2)<|c_ mv_<|c_ mv_<|e_) (k:=fun E1 ac wd h_1=>?_)
 clear h
 refine then_n (wp_seq (wp_seq ?_))
 refine rg_ h_1 [[0],[0,1]] [K_ (vP c 0),K_ bF] (fun E2=>[(0,vP c 0),(3,vP (pb E1 0) 0),(4,vP (pb E1 1) 0),(5,vP (pb E1 2) 0),(6,vI 0),(7,vI 0),(12,bF)]) (hs:=c_ mv_<|c_ (bi0 (vP c 0) (.pointer none))<|e_) (k:=fun E2 ac wd h_2=>?_)
 clear h_1
 refine then_n ?_
 refine wp_cond_false (eval_tmp (h_2.g (t:=12) rfl)) ?_
 refine wp_skip (then_n (wp_seq ?_))
 cases hok:upOk n
 refine rg_ h_2 [[0],[0,1],[0,1,2],r_ 4,[0,1,2,4],[0,1,2,3,5],r_ 7] [K_ (vW n),K_ (vT2 (vL 0 0 0) (vI 2)),K_ (vT2 (vL 0 0 0) (vI 2)),K_ (vL 0 0 0),K_ (vI 2),none,K_ (vI 2)] (fun E3=>[(0,vP c 0),(4,vP (pb E1 1) 0),(5,vP (pb E1 2) 0),(6,vI 0),(7,vI 2)]) (S:=[⟨2,5,fun _=>[vI 0,vI 0,vI 0]⟩]) (M':=fun E3=>[((pb E1 0),26,[vI (hi (n)),.int .u64 (lo (n))]),((pb E1 1),23,[vI 0,vI 0,vI 0]),((pb E1 2),23,[vI 0,vI 0,vI 0])]) (hs:=c_ (ld_ 0 (hrd:=by exact rd26 rfl rfl))<|c_ (cl_ Tryz.func42 (h:=fun env=>⟨_,((xplain_any n hn).eq (y_lab4 (upOk_no hok))),rfl⟩))<|c_ mv_<|c_ ext_<|c_ ext_<|c_ (se_ 2 (hst:=by exact fun _ _ _ hc=>st23 rfl rfl rfl rfl hc))<|c_ mv_<|e_) (k:=fun E3 ac wd h_3=>?_)
 clear h_2
 refine then_n (wp_seq (wp_seq ?_))
 refine rg_ h_3 [[0],[0,1]] [K_ (vI 2),K_ bT] (fun E4=>[(0,vP c 0),(4,vP (pb E1 1) 0),(5,vP (pb E1 2) 0),(6,vI 0),(7,vI 2),(21,bT)]) (hs:=c_ mv_<|c_ (bi0 (vI 2) (vI 0))<|e_) (k:=fun E4 ac wd h_4=>?_)
 clear h_3
 refine then_n ?_
 refine wp_cond_true (eval_tmp (h_4.g (t:=21) rfl)) ?_
 refine wp_seq ?_
 refine rg_ h_4 [[0],[1],[2],[0,3],[0,1,3,4],[0,1,3,4,5],r_ 7] [K_ (vL 0 0 0),K_ (vL 0 0 0),K_ (vI 2),none,none,K_ (vI 0),K_ (vI 2)] (fun E5=>[(0,vP c 0),(4,vP (pb E1 1) 0),(5,vP (pb E1 2) 0),(6,vI 0),(7,vI 2)]) (S:=[⟨1,3,fun _=>[vI 0,vI 0,vI 0]⟩,⟨2,4,fun _=>[vI 0,vI 0,vI 0]⟩]) (M':=fun E5=>[((pb E1 0),26,[vI (hi (n)),.int .u64 (lo (n))]),((pb E1 1),23,[vI 0,vI 0,vI 0]),((pb E1 2),23,[vI 0,vI 0,vI 0])]) (hs:=c_ (bd0 ([]))<|c_ (bd0 ([]))<|c_ mv_<|c_ (se_ 1 (hst:=by exact fun _ _ _ hc=>st23 rfl rfl rfl rfl hc))<|c_ (se_ 2 (hst:=by exact fun _ _ _ hc=>st23 rfl rfl rfl rfl hc))<|c_ mv_<|c_ mv_<|e_) (k:=fun E5 ac wd h_5=>?_)
 clear h_4
 refine then_n (wp_ret (then_ret ?_))
 have s4:=h_5.g (t:=4) rfl
 have hc4:=(h_5.st.own 1 _ rfl).2
 have c4_0:=own_cell (o:=0) hc4 rfl
 have c4_1:=own_cell (o:=1) hc4 rfl
 have c4_2:=own_cell (o:=2) hc4 rfl
 have s5:=h_5.g (t:=5) rfl
 have hc5:=(h_5.st.own 2 _ rfl).2
 have c5_0:=own_cell (o:=0) hc5 rfl
 have c5_1:=own_cell (o:=1) hc5 rfl
 have c5_2:=own_cell (o:=2) hc5 rfl
 have s6:=h_5.g (t:=6) rfl
 have s7:=h_5.g (t:=7) rfl
 refine leave (v:=.tuple #[vL 0 0 0,vL 0 0 0,vI 0,vI 2]) h_5.df (by simp [results,Tryz.results17,go_sem,Array.getD_eq_getD_getElem?,s4,c4_0,c4_1,c4_2,Tryz.underlying23,s5,c5_0,c5_1,c5_2,Tryz.underlying23,s6,s7]) ?_
 have eK:ulK es n=0:=by unfold ulK;simp [hok]
 have eE:ulE es n=2:=by unfold ulE;simp [hok]
 have eA:ulA es n=(0,0,0):=by unfold ulA;rw [eK];simp [hok]
 have eB:ulB es n=(0,0,0):=by unfold ulB;rw [eK];simp [hok]
 exact ⟨by rw [eK,eE,eA,eB],h_5.st.nowT,h_5.st.gr⟩
 obtain ⟨b1,b2,b3,b4,b5,b6⟩:=upOk_bd hok
 refine rg_ h_2 [[0],[0,1],[0,1,2],r_ 4,[0,1,2,4],[0,1,2,3,5],r_ 7] [K_ (vW n),K_ (vT2 (vL (upD n) (upS n) (upA n)) (vI 0)),K_ (vT2 (vL (upD n) (upS n) (upA n)) (vI 0)),K_ (vL (upD n) (upS n) (upA n)),K_ (vI 0),none,K_ (vI 0)] (fun E3=>[(0,vP c 0),(4,vP (pb E1 1) 0),(5,vP (pb E1 2) 0),(6,vI 0),(7,vI 0)]) (S:=[⟨2,5,fun _=>[vI (upD n),vI (upS n),vI (upA n)]⟩]) (M':=fun E3=>[((pb E1 0),26,[vI (hi (n)),.int .u64 (lo (n))]),((pb E1 1),23,[vI 0,vI 0,vI 0]),((pb E1 2),23,[vI (upD n),vI (upS n),vI (upA n)])]) (hs:=c_ (ld_ 0 (hrd:=by exact rd26 rfl rfl))<|c_ (cl_ Tryz.func42 (h:=fun env=>⟨_,((xplain_any n hn).eq (y_lab4 (upOk_yes hok))),rfl⟩))<|c_ mv_<|c_ ext_<|c_ ext_<|c_ (se_ 2 (hst:=by exact fun _ _ _ hc=>st23 rfl rfl rfl rfl hc))<|c_ mv_<|e_) (k:=fun E3 ac wd h_3=>?_)
 clear h_2
 refine then_n (wp_seq (wp_seq ?_))
 refine rg_ h_3 [[0],[0,1]] [K_ (vI 0),K_ bF] (fun E4=>[(0,vP c 0),(4,vP (pb E1 1) 0),(5,vP (pb E1 2) 0),(6,vI 0),(7,vI 0),(21,bF)]) (hs:=c_ mv_<|c_ (bi0 (vI 0) (vI 0) (h:=by intro env w;(first | (simp [go_sem];done) | (simp [go_sem];rfl))))<|e_) (k:=fun E4 ac wd h_4=>?_)
 clear h_3
 refine then_n ?_
 refine wp_cond_false (eval_tmp (h_4.g (t:=21) rfl)) ?_
 refine wp_skip (then_n (wp_seq ?_))
 refine rg_ h_4 [[0],[0,1],[0,1,2],[3],[3,4],r_ 6,r_ 7] [K_ (vP (pb E1 2) 0),K_ (vI (upD n)),K_ (vI ((upD n)-1)),K_ (vP (pb E1 2) 2),K_ (vI (upA n)),K_ (vL ((upD n)-1) 86400 (upA n)),none] (fun E5=>[(0,vP c 0),(4,vP (pb E1 1) 0),(5,vP (pb E1 2) 0),(6,vI 0),(7,vI 0)]) (S:=[⟨1,6,fun _=>[vI ((upD n)-1),vI 86400,vI (upA n)]⟩]) (M':=fun E5=>[((pb E1 0),26,[vI (hi (n)),.int .u64 (lo (n))]),((pb E1 1),23,[vI ((upD n)-1),vI 86400,vI (upA n)]),((pb E1 2),23,[vI (upD n),vI (upS n),vI (upA n)])]) (hs:=c_ (fa0 (vP (pb E1 2) 0))<|c_ (ld_ 2 (hrd:=by exact rd3 rfl))<|c_ (bi0 (vI (upD n)) (vI 1))<|c_ (fa0 (vP (pb E1 2) 0))<|c_ (ld_ 2 (hrd:=by exact rd3 rfl))<|c_ (bd0 ([vI ((upD n)-1),vI 86400,vI (upA n)]))<|c_ (se_ 1 (hst:=by exact fun _ _ _ hc=>st23 rfl rfl rfl rfl hc))<|e_) (k:=fun E5 ac wd h_5=>?_)
 clear h_4
 refine then_n (wp_seq ?_)
 by_cases hS:upS n=0
 by_cases hE:ctE es (upD n-1) 86400 (upA n)=0
 have hF:upF es n=true:=by unfold upF;simp [hS,hE]
 refine rg_ h_5 [[0],[0,1],[0,1,2],r_ 4,r_ 5,[0,1,2,3,5],r_ 7,r_ 8,r_ 9] [K_ (vP (pb E1 2) 1),K_ (vI (upS n)),K_ bT,K_ bT,K_ (vP c 0),K_ (vL ((upD n)-1) 86400 (upA n)),K_ bT,K_ bT,K_ bT] (fun E6=>[(0,vP c 0),(4,vP (pb E1 1) 0),(5,vP (pb E1 2) 0),(6,vI 0),(7,vI 0),(8,bT)]) (hs:=c_ (fa0 (vP (pb E1 2) 0))<|c_ (ld_ 2 (hrd:=by exact rd3 rfl))<|c_ (bi0 (vI (upS n)) (vI 0) (h:=by intro env w;simp [go_sem,hS]))<|c_ mv_<|c_ (gm0 (vP c 0))<|c_ (ld_ 1 (hrd:=by exact rd23 rfl rfl rfl))<|c_ (s_clk (c:=c) (g:=g) (b:=b) (u:=u) (x:=x) (es:=es) Tryz.func20 (fun _ h=>h) (fun _ h=>h) (h:=fun D env ac wd hA hC=>⟨_,ClkC.eq (cexists_c _ c g b u x es hC (upD n-1) 86400 (upA n) (by omega) (by omega)) (y_exy hE),rfl⟩))<|c_ (pk0 bT bT bF)<|c_ mv_<|e_) (k:=fun E6 ac wd h_6=>?_)
 clear h_5
 refine then_n (wp_seq (wp_block (wp_seq ?_)))
 by_cases hL:upL es n=0
 have hL2:ctE es (upD n) (upS n) (upA n)=0:=hL
 refine rg_ h_6 [[0],[0,1],[0,1,2],[0,1,3],r_ 5,r_ 6,r_ 7] [K_ bT,K_ bT,K_ (vP c 0),K_ (vL (upD n) (upS n) (upA n)),K_ bT,K_ bT,K_ bT] (fun E7=>[(0,vP c 0),(4,vP (pb E1 1) 0),(5,vP (pb E1 2) 0),(6,vI 0),(7,vI 0),(8,bT),(39,bT)]) (hs:=c_ mv_<|c_ mv_<|c_ (gm0 (vP c 0))<|c_ (ld_ 2 (hrd:=by exact rd23 rfl rfl rfl))<|c_ (s_clk (c:=c) (g:=g) (b:=b) (u:=u) (x:=x) (es:=es) Tryz.func20 (fun _ h=>h) (fun _ h=>h) (h:=fun D env ac wd hA hC=>⟨_,ClkC.eq (cexists_c _ c g b u x es hC (upD n) (upS n) (upA n) (by omega) (by omega)) (y_exy hL2),rfl⟩))<|c_ (pk0 bT bT bF)<|c_ mv_<|e_) (k:=fun E7 ac wd h_7=>?_)
 clear h_6
 refine then_n ?_
 refine wp_cond_true (eval_tmp (h_7.g (t:=39) rfl)) ?_
 refine wp_seq ?_
 refine rg_ h_7 [[0],[1],[0,2],r_ 4,r_ 5,r_ 6] [K_ (vL ((upD n)-1) 86400 (upA n)),K_ (vL (upD n) (upS n) (upA n)),none,none,K_ (vI 2),K_ (vI 0)] (fun E8=>[(0,vP c 0),(4,vP (pb E1 1) 0),(5,vP (pb E1 2) 0),(6,vI 2),(7,vI 0)]) (S:=[⟨1,2,fun _=>[vI ((upD n)-1),vI 86400,vI (upA n)]⟩,⟨2,3,fun _=>[vI (upD n),vI (upS n),vI (upA n)]⟩]) (M':=fun E8=>[((pb E1 0),26,[vI (hi (n)),.int .u64 (lo (n))]),((pb E1 1),23,[vI ((upD n)-1),vI 86400,vI (upA n)]),((pb E1 2),23,[vI (upD n),vI (upS n),vI (upA n)])]) (hs:=c_ (ld_ 1 (hrd:=by exact rd23 rfl rfl rfl))<|c_ (ld_ 2 (hrd:=by exact rd23 rfl rfl rfl))<|c_ (se_ 1 (hst:=by exact fun _ _ _ hc=>st23 rfl rfl rfl rfl hc))<|c_ (se_ 2 (hst:=by exact fun _ _ _ hc=>st23 rfl rfl rfl rfl hc))<|c_ mv_<|c_ mv_<|e_) (k:=fun E8 ac wd h_8=>?_)
 clear h_7
 refine then_n (wp_ret (blk_ret (then_ret ?_)))
 have s4:=h_8.g (t:=4) rfl
 have hc4:=(h_8.st.own 1 _ rfl).2
 have c4_0:=own_cell (o:=0) hc4 rfl
 have c4_1:=own_cell (o:=1) hc4 rfl
 have c4_2:=own_cell (o:=2) hc4 rfl
 have s5:=h_8.g (t:=5) rfl
 have hc5:=(h_8.st.own 2 _ rfl).2
 have c5_0:=own_cell (o:=0) hc5 rfl
 have c5_1:=own_cell (o:=1) hc5 rfl
 have c5_2:=own_cell (o:=2) hc5 rfl
 have s6:=h_8.g (t:=6) rfl
 have s7:=h_8.g (t:=7) rfl
 refine leave (v:=.tuple #[vL ((upD n)-1) 86400 (upA n),vL (upD n) (upS n) (upA n),vI 2,vI 0]) h_8.df (by simp [results,Tryz.results17,go_sem,Array.getD_eq_getD_getElem?,s4,c4_0,c4_1,c4_2,Tryz.underlying23,s5,c5_0,c5_1,c5_2,Tryz.underlying23,s6,s7]) ?_
 have eK:ulK es n=2:=by unfold ulK;simp [hok,hF,hL]
 have eE:ulE es n=0:=by unfold ulE;simp [hok,hF,hL]
 have eA:ulA es n=((upD n)-1,86400,upA n):=by unfold ulA;rw [eK];simp [hok,hF,hL]
 have eB:ulB es n=(upD n,upS n,upA n):=by unfold ulB;rw [eK];simp [hok,hF,hL]
 exact ⟨by rw [eK,eE,eA,eB],h_8.st.nowT,h_8.st.gr⟩
 have hL2:¬ ctE es (upD n) (upS n) (upA n)=0:=hL
 refine rg_ h_6 [[0],[0,1],[0,1,2],[0,1,3],r_ 5,r_ 6,r_ 7] [K_ bT,K_ bT,K_ (vP c 0),K_ (vL (upD n) (upS n) (upA n)),K_ bF,K_ bF,K_ bF] (fun E7=>[(0,vP c 0),(4,vP (pb E1 1) 0),(5,vP (pb E1 2) 0),(6,vI 0),(7,vI 0),(8,bT),(39,bF)]) (hs:=c_ mv_<|c_ mv_<|c_ (gm0 (vP c 0))<|c_ (ld_ 2 (hrd:=by exact rd23 rfl rfl rfl))<|c_ (s_clk (c:=c) (g:=g) (b:=b) (u:=u) (x:=x) (es:=es) Tryz.func20 (fun _ h=>h) (fun _ h=>h) (h:=fun D env ac wd hA hC=>⟨_,ClkC.eq (cexists_c _ c g b u x es hC (upD n) (upS n) (upA n) (by omega) (by omega)) (y_exn hL2),rfl⟩))<|c_ (pk0 bT bF bF)<|c_ mv_<|e_) (k:=fun E7 ac wd h_7=>?_)
 clear h_6
 refine then_n ?_
 refine wp_cond_false (eval_tmp (h_7.g (t:=39) rfl)) ?_
 refine wp_seq ?_
 refine rg_ h_7 [[0],[0,1]] [K_ bT,K_ bT] (fun E8=>[(0,vP c 0),(4,vP (pb E1 1) 0),(5,vP (pb E1 2) 0),(6,vI 0),(7,vI 0),(48,bT)]) (hs:=c_ mv_<|c_ mv_<|e_) (k:=fun E8 ac wd h_8=>?_)
 clear h_7
 refine then_n ?_
 refine wp_cond_true (eval_tmp (h_8.g (t:=48) rfl)) ?_
 refine wp_seq ?_
 refine rg_ h_8 [[0],[1],[0,1,2],r_ 4,r_ 5,r_ 6] [K_ (vL ((upD n)-1) 86400 (upA n)),K_ (vL ((upD n)-1) 86400 (upA n)),none,none,K_ (vI 1),K_ (vI 0)] (fun E9=>[(0,vP c 0),(4,vP (pb E1 1) 0),(5,vP (pb E1 2) 0),(6,vI 1),(7,vI 0)]) (S:=[⟨1,2,fun _=>[vI ((upD n)-1),vI 86400,vI (upA n)]⟩,⟨2,3,fun _=>[vI ((upD n)-1),vI 86400,vI (upA n)]⟩]) (M':=fun E9=>[((pb E1 0),26,[vI (hi (n)),.int .u64 (lo (n))]),((pb E1 1),23,[vI ((upD n)-1),vI 86400,vI (upA n)]),((pb E1 2),23,[vI ((upD n)-1),vI 86400,vI (upA n)])]) (hs:=c_ (ld_ 1 (hrd:=by exact rd23 rfl rfl rfl))<|c_ (ld_ 1 (hrd:=by exact rd23 rfl rfl rfl))<|c_ (se_ 1 (hst:=by exact fun _ _ _ hc=>st23 rfl rfl rfl rfl hc))<|c_ (se_ 2 (hst:=by exact fun _ _ _ hc=>st23 rfl rfl rfl rfl hc))<|c_ mv_<|c_ mv_<|e_) (k:=fun E9 ac wd h_9=>?_)
 clear h_8
 refine then_n (wp_ret (blk_ret (then_ret ?_)))
 have s4:=h_9.g (t:=4) rfl
 have hc4:=(h_9.st.own 1 _ rfl).2
 have c4_0:=own_cell (o:=0) hc4 rfl
 have c4_1:=own_cell (o:=1) hc4 rfl
 have c4_2:=own_cell (o:=2) hc4 rfl
 have s5:=h_9.g (t:=5) rfl
 have hc5:=(h_9.st.own 2 _ rfl).2
 have c5_0:=own_cell (o:=0) hc5 rfl
 have c5_1:=own_cell (o:=1) hc5 rfl
 have c5_2:=own_cell (o:=2) hc5 rfl
 have s6:=h_9.g (t:=6) rfl
 have s7:=h_9.g (t:=7) rfl
 refine leave (v:=.tuple #[vL ((upD n)-1) 86400 (upA n),vL ((upD n)-1) 86400 (upA n),vI 1,vI 0]) h_9.df (by simp [results,Tryz.results17,go_sem,Array.getD_eq_getD_getElem?,s4,c4_0,c4_1,c4_2,Tryz.underlying23,s5,c5_0,c5_1,c5_2,Tryz.underlying23,s6,s7]) ?_
 have eK:ulK es n=1:=by unfold ulK;simp [hok,hF,hL]
 have eE:ulE es n=0:=by unfold ulE;simp [hok,hF,hL]
 have eA:ulA es n=((upD n)-1,86400,upA n):=by unfold ulA;rw [eK];simp [hok,hF,hL]
 have eB:ulB es n=((upD n)-1,86400,upA n):=by unfold ulB;rw [eK];simp [hok,hF,hL]
 exact ⟨by rw [eK,eE,eA,eB],h_9.st.nowT,h_9.st.gr⟩
 have hF:upF es n=false:=by unfold upF;simp [hE]
 refine rg_ h_5 [[0],[0,1],[0,1,2],r_ 4,r_ 5,[0,1,2,3,5],r_ 7,r_ 8,r_ 9] [K_ (vP (pb E1 2) 1),K_ (vI (upS n)),K_ bT,K_ bT,K_ (vP c 0),K_ (vL ((upD n)-1) 86400 (upA n)),K_ bF,K_ bF,K_ bF] (fun E6=>[(0,vP c 0),(4,vP (pb E1 1) 0),(5,vP (pb E1 2) 0),(6,vI 0),(7,vI 0),(8,bF)]) (hs:=c_ (fa0 (vP (pb E1 2) 0))<|c_ (ld_ 2 (hrd:=by exact rd3 rfl))<|c_ (bi0 (vI (upS n)) (vI 0) (h:=by intro env w;simp [go_sem,hS]))<|c_ mv_<|c_ (gm0 (vP c 0))<|c_ (ld_ 1 (hrd:=by exact rd23 rfl rfl rfl))<|c_ (s_clk (c:=c) (g:=g) (b:=b) (u:=u) (x:=x) (es:=es) Tryz.func20 (fun _ h=>h) (fun _ h=>h) (h:=fun D env ac wd hA hC=>⟨_,ClkC.eq (cexists_c _ c g b u x es hC (upD n-1) 86400 (upA n) (by omega) (by omega)) (y_exn hE),rfl⟩))<|c_ (pk0 bT bF bF)<|c_ mv_<|e_) (k:=fun E6 ac wd h_6=>?_)
 clear h_5
 refine then_n (wp_seq (wp_block (wp_seq ?_)))
 by_cases hL:upL es n=0
 have hL2:ctE es (upD n) (upS n) (upA n)=0:=hL
 refine rg_ h_6 [[0],[0,1],[0,1,2],[0,1,3],r_ 5,r_ 6,r_ 7] [K_ bF,K_ bF,K_ undef,K_ undef,K_ undef,K_ bF,K_ bF] (fun E7=>[(0,vP c 0),(4,vP (pb E1 1) 0),(5,vP (pb E1 2) 0),(6,vI 0),(7,vI 0),(8,bF),(39,bF)]) (hs:=c_ mv_<|c_ mv_<|c_ off_<|c_ off_<|c_ off_<|c_ (pk0 bF undef bF)<|c_ mv_<|e_) (k:=fun E7 ac wd h_7=>?_)
 clear h_6
 refine then_n ?_
 refine wp_cond_false (eval_tmp (h_7.g (t:=39) rfl)) ?_
 refine wp_seq ?_
 refine rg_ h_7 [[0],[0,1]] [K_ bF,K_ bF] (fun E8=>[(0,vP c 0),(4,vP (pb E1 1) 0),(5,vP (pb E1 2) 0),(6,vI 0),(7,vI 0),(48,bF)]) (hs:=c_ mv_<|c_ mv_<|e_) (k:=fun E8 ac wd h_8=>?_)
 clear h_7
 refine then_n ?_
 refine wp_cond_false (eval_tmp (h_8.g (t:=48) rfl)) ?_
 refine wp_skip (blk_n (then_n (wp_seq (wp_seq ?_))))
 refine rg_ h_8 [[0],[1],[0,1,2],r_ 4,r_ 5,[0,1,2,3,5],[6],[0,1,2,3,4,6,7],r_ 9] [K_ (vP c 0),K_ (vL (upD n) (upS n) (upA n)),K_ (vT2 (vW (ctV es (upD n) (upS n) (upA n))) (vI (upL es n))),K_ (vT2 (vW (ctV es (upD n) (upS n) (upA n))) (vI (upL es n))),K_ (vW (ctV es (upD n) (upS n) (upA n))),K_ (vI (upL es n)),KE_ fun env=>vP (pb env 6) 0,none,K_ (vI (upL es n))] (fun E9=>[(4,vP (pb E1 1) 0),(5,vP (pb E1 2) 0),(6,vI 0),(7,vI 0),(10,vI (upL es n))]) (W:=[{ i:=6,T:=26,c0:=[vI 0,.int .u64 0],s:=some 7,c1:=fun _=>[vI (hi (ctV es (upD n) (upS n) (upA n))),.int .u64 (lo (ctV es (upD n) (upS n) (upA n)))] }]) (M':=fun E9=>[((pb E1 0),26,[vI (hi (n)),.int .u64 (lo (n))]),((pb E1 1),23,[vI ((upD n)-1),vI 86400,vI (upA n)]),((pb E1 2),23,[vI (upD n),vI (upS n),vI (upA n)]),((pb E9 6),26,[vI (hi (ctV es (upD n) (upS n) (upA n))),.int .u64 (lo (ctV es (upD n) (upS n) (upA n)))])]) (hs:=c_ mv_<|c_ (ld_ 2 (hrd:=by exact rd23 rfl rfl rfl))<|c_ (s_clk (c:=c) (g:=g) (b:=b) (u:=u) (x:=x) (es:=es) Tryz.func43 (fun _ h=>h) (fun _ h=>h) (h:=fun D env ac wd hA hC=>⟨_,ClkC.eq (cTai_c _ c g b u x es hC true (upD n) (upS n) (upA n) (by omega) (by omega)) (y_tt tV_lax (tE_lax.trans rfl)),rfl⟩))<|c_ mv_<|c_ ext_<|c_ ext_<|c_ (al_ 3)<|c_ (sw_ 3 6 (hst:=by exact fun _ _ _ hc=>st26 rfl rfl rfl hc))<|c_ mv_<|e_) (k:=fun E9 ac wd h_9=>?_)
 clear h_8
 refine then_n (wp_seq ?_)
 refine rg_ h_9 [[0],[0,1]] [K_ (vI (upL es n)),K_ bF] (fun E10=>[(4,vP (pb E1 1) 0),(5,vP (pb E1 2) 0),(6,vI 0),(7,vI 0),(10,vI (upL es n)),(59,bF)]) (hs:=c_ mv_<|c_ (bi0 (vI (upL es n)) (vI 0) (h:=by intro env w;simp [go_sem,hL]))<|e_) (k:=fun E10 ac wd h_10=>?_)
 clear h_9
 refine then_n ?_
 refine wp_cond_false (eval_tmp (h_10.g (t:=59) rfl)) ?_
 refine wp_skip (then_n (wp_seq ?_))
 refine rg_ h_10 [[0],[1],[0,2],r_ 4,r_ 5,r_ 6] [K_ (vL (upD n) (upS n) (upA n)),K_ (vL (upD n) (upS n) (upA n)),none,none,K_ (vI 1),K_ (vI 0)] (fun E11=>[(4,vP (pb E1 1) 0),(5,vP (pb E1 2) 0),(6,vI 1),(7,vI 0)]) (S:=[⟨1,2,fun _=>[vI (upD n),vI (upS n),vI (upA n)]⟩,⟨2,3,fun _=>[vI (upD n),vI (upS n),vI (upA n)]⟩]) (M':=fun E11=>[((pb E1 0),26,[vI (hi (n)),.int .u64 (lo (n))]),((pb E1 1),23,[vI (upD n),vI (upS n),vI (upA n)]),((pb E1 2),23,[vI (upD n),vI (upS n),vI (upA n)]),((pb E9 6),26,[vI (hi (ctV es (upD n) (upS n) (upA n))),.int .u64 (lo (ctV es (upD n) (upS n) (upA n)))])]) (hs:=c_ (ld_ 2 (hrd:=by exact rd23 rfl rfl rfl))<|c_ (ld_ 2 (hrd:=by exact rd23 rfl rfl rfl))<|c_ (se_ 1 (hst:=by exact fun _ _ _ hc=>st23 rfl rfl rfl rfl hc))<|c_ (se_ 2 (hst:=by exact fun _ _ _ hc=>st23 rfl rfl rfl rfl hc))<|c_ mv_<|c_ mv_<|e_) (k:=fun E11 ac wd h_11=>?_)
 clear h_10
 refine then_n (wp_ret ?_)
 have s4:=h_11.g (t:=4) rfl
 have hc4:=(h_11.st.own 1 _ rfl).2
 have c4_0:=own_cell (o:=0) hc4 rfl
 have c4_1:=own_cell (o:=1) hc4 rfl
 have c4_2:=own_cell (o:=2) hc4 rfl
 have s5:=h_11.g (t:=5) rfl
 have hc5:=(h_11.st.own 2 _ rfl).2
 have c5_0:=own_cell (o:=0) hc5 rfl
 have c5_1:=own_cell (o:=1) hc5 rfl
 have c5_2:=own_cell (o:=2) hc5 rfl
 have s6:=h_11.g (t:=6) rfl
 have s7:=h_11.g (t:=7) rfl
 refine leave (v:=.tuple #[vL (upD n) (upS n) (upA n),vL (upD n) (upS n) (upA n),vI 1,vI 0]) h_11.df (by simp [results,Tryz.results17,go_sem,Array.getD_eq_getD_getElem?,s4,c4_0,c4_1,c4_2,Tryz.underlying23,s5,c5_0,c5_1,c5_2,Tryz.underlying23,s6,s7]) ?_
 have eK:ulK es n=1:=by unfold ulK;simp [hok,hF,hL]
 have eE:ulE es n=0:=by unfold ulE;simp [hok,hF,hL]
 have eA:ulA es n=(upD n,upS n,upA n):=by unfold ulA;rw [eK];simp [hok,hF,hL]
 have eB:ulB es n=(upD n,upS n,upA n):=by unfold ulB;rw [eK];simp [hok,hF,hL]
 exact ⟨by rw [eK,eE,eA,eB],h_11.st.nowT,h_11.st.gr⟩
 have hL2:¬ ctE es (upD n) (upS n) (upA n)=0:=hL
 refine rg_ h_6 [[0],[0,1],[0,1,2],[0,1,3],r_ 5,r_ 6,r_ 7] [K_ bF,K_ bF,K_ undef,K_ undef,K_ undef,K_ bF,K_ bF] (fun E7=>[(0,vP c 0),(4,vP (pb E1 1) 0),(5,vP (pb E1 2) 0),(6,vI 0),(7,vI 0),(8,bF),(39,bF)]) (hs:=c_ mv_<|c_ mv_<|c_ off_<|c_ off_<|c_ off_<|c_ (pk0 bF undef bF)<|c_ mv_<|e_) (k:=fun E7 ac wd h_7=>?_)
 clear h_6
 refine then_n ?_
 refine wp_cond_false (eval_tmp (h_7.g (t:=39) rfl)) ?_
 refine wp_seq ?_
 refine rg_ h_7 [[0],[0,1]] [K_ bF,K_ bF] (fun E8=>[(0,vP c 0),(4,vP (pb E1 1) 0),(5,vP (pb E1 2) 0),(6,vI 0),(7,vI 0),(48,bF)]) (hs:=c_ mv_<|c_ mv_<|e_) (k:=fun E8 ac wd h_8=>?_)
 clear h_7
 refine then_n ?_
 refine wp_cond_false (eval_tmp (h_8.g (t:=48) rfl)) ?_
 refine wp_skip (blk_n (then_n (wp_seq (wp_seq ?_))))
 refine rg_ h_8 [[0],[1],[0,1,2],r_ 4,r_ 5,[0,1,2,3,5],[6],[0,1,2,3,4,6,7],r_ 9] [K_ (vP c 0),K_ (vL (upD n) (upS n) (upA n)),K_ (vT2 (vW (ctV es (upD n) (upS n) (upA n))) (vI (upL es n))),K_ (vT2 (vW (ctV es (upD n) (upS n) (upA n))) (vI (upL es n))),K_ (vW (ctV es (upD n) (upS n) (upA n))),K_ (vI (upL es n)),KE_ fun env=>vP (pb env 6) 0,none,K_ (vI (upL es n))] (fun E9=>[(4,vP (pb E1 1) 0),(5,vP (pb E1 2) 0),(6,vI 0),(7,vI 0),(10,vI (upL es n))]) (W:=[{ i:=6,T:=26,c0:=[vI 0,.int .u64 0],s:=some 7,c1:=fun _=>[vI (hi (ctV es (upD n) (upS n) (upA n))),.int .u64 (lo (ctV es (upD n) (upS n) (upA n)))] }]) (M':=fun E9=>[((pb E1 0),26,[vI (hi (n)),.int .u64 (lo (n))]),((pb E1 1),23,[vI ((upD n)-1),vI 86400,vI (upA n)]),((pb E1 2),23,[vI (upD n),vI (upS n),vI (upA n)]),((pb E9 6),26,[vI (hi (ctV es (upD n) (upS n) (upA n))),.int .u64 (lo (ctV es (upD n) (upS n) (upA n)))])]) (hs:=c_ mv_<|c_ (ld_ 2 (hrd:=by exact rd23 rfl rfl rfl))<|c_ (s_clk (c:=c) (g:=g) (b:=b) (u:=u) (x:=x) (es:=es) Tryz.func43 (fun _ h=>h) (fun _ h=>h) (h:=fun D env ac wd hA hC=>⟨_,ClkC.eq (cTai_c _ c g b u x es hC true (upD n) (upS n) (upA n) (by omega) (by omega)) (y_tt tV_lax (tE_lax.trans rfl)),rfl⟩))<|c_ mv_<|c_ ext_<|c_ ext_<|c_ (al_ 3)<|c_ (sw_ 3 6 (hst:=by exact fun _ _ _ hc=>st26 rfl rfl rfl hc))<|c_ mv_<|e_) (k:=fun E9 ac wd h_9=>?_)
 clear h_8
 refine then_n (wp_seq ?_)
 refine rg_ h_9 [[0],[0,1]] [K_ (vI (upL es n)),K_ bT] (fun E10=>[(4,vP (pb E1 1) 0),(5,vP (pb E1 2) 0),(6,vI 0),(7,vI 0),(10,vI (upL es n)),(59,bT)]) (hs:=c_ mv_<|c_ (bi0 (vI (upL es n)) (vI 0) (h:=by intro env w;simp [go_sem,hL]))<|e_) (k:=fun E10 ac wd h_10=>?_)
 clear h_9
 refine then_n ?_
 refine wp_cond_true (eval_tmp (h_10.g (t:=59) rfl)) ?_
 refine wp_seq ?_
 refine rg_ h_10 [[0],[1],[2],[0,3],[0,1,3,4],[0,1,3,4,5],r_ 7] [K_ (vL 0 0 0),K_ (vL 0 0 0),K_ (vI (upL es n)),none,none,K_ (vI 0),K_ (vI (upL es n))] (fun E11=>[(4,vP (pb E1 1) 0),(5,vP (pb E1 2) 0),(6,vI 0),(7,vI (upL es n))]) (S:=[⟨1,3,fun _=>[vI 0,vI 0,vI 0]⟩,⟨2,4,fun _=>[vI 0,vI 0,vI 0]⟩]) (M':=fun E11=>[((pb E1 0),26,[vI (hi (n)),.int .u64 (lo (n))]),((pb E1 1),23,[vI 0,vI 0,vI 0]),((pb E1 2),23,[vI 0,vI 0,vI 0]),((pb E9 6),26,[vI (hi (ctV es (upD n) (upS n) (upA n))),.int .u64 (lo (ctV es (upD n) (upS n) (upA n)))])]) (hs:=c_ (bd0 ([]))<|c_ (bd0 ([]))<|c_ mv_<|c_ (se_ 1 (hst:=by exact fun _ _ _ hc=>st23 rfl rfl rfl rfl hc))<|c_ (se_ 2 (hst:=by exact fun _ _ _ hc=>st23 rfl rfl rfl rfl hc))<|c_ mv_<|c_ mv_<|e_) (k:=fun E11 ac wd h_11=>?_)
 clear h_10
 refine then_n (wp_ret (then_ret ?_))
 have s4:=h_11.g (t:=4) rfl
 have hc4:=(h_11.st.own 1 _ rfl).2
 have c4_0:=own_cell (o:=0) hc4 rfl
 have c4_1:=own_cell (o:=1) hc4 rfl
 have c4_2:=own_cell (o:=2) hc4 rfl
 have s5:=h_11.g (t:=5) rfl
 have hc5:=(h_11.st.own 2 _ rfl).2
 have c5_0:=own_cell (o:=0) hc5 rfl
 have c5_1:=own_cell (o:=1) hc5 rfl
 have c5_2:=own_cell (o:=2) hc5 rfl
 have s6:=h_11.g (t:=6) rfl
 have s7:=h_11.g (t:=7) rfl
 refine leave (v:=.tuple #[vL 0 0 0,vL 0 0 0,vI 0,vI (upL es n)]) h_11.df (by simp [results,Tryz.results17,go_sem,Array.getD_eq_getD_getElem?,s4,c4_0,c4_1,c4_2,Tryz.underlying23,s5,c5_0,c5_1,c5_2,Tryz.underlying23,s6,s7]) ?_
 have eK:ulK es n=0:=by unfold ulK;simp [hok,hF,hL]
 have eE:ulE es n=upL es n:=by unfold ulE;simp [hok,hF,hL]
 have eA:ulA es n=(0,0,0):=by unfold ulA;rw [eK];simp [hok,hF,hL]
 have eB:ulB es n=(0,0,0):=by unfold ulB;rw [eK];simp [hok,hF,hL]
 exact ⟨by rw [eK,eE,eA,eB],h_11.st.nowT,h_11.st.gr⟩
 have hF:upF es n=false:=by unfold upF;simp [hS]
 refine rg_ h_5 [[0],[0,1],[0,1,2],r_ 4,r_ 5,[0,1,2,3,5],r_ 7,r_ 8,r_ 9] [K_ (vP (pb E1 2) 1),K_ (vI (upS n)),K_ bF,K_ bF,K_ undef,K_ undef,K_ undef,K_ bF,K_ bF] (fun E6=>[(0,vP c 0),(4,vP (pb E1 1) 0),(5,vP (pb E1 2) 0),(6,vI 0),(7,vI 0),(8,bF)]) (hs:=c_ (fa0 (vP (pb E1 2) 0))<|c_ (ld_ 2 (hrd:=by exact rd3 rfl))<|c_ (bi0 (vI (upS n)) (vI 0) (h:=by intro env w;simp [go_sem,hS]))<|c_ mv_<|c_ off_<|c_ off_<|c_ off_<|c_ (pk0 bF undef bF)<|c_ mv_<|e_) (k:=fun E6 ac wd h_6=>?_)
 clear h_5
 refine then_n (wp_seq (wp_block (wp_seq ?_)))
 by_cases hL:upL es n=0
 have hL2:ctE es (upD n) (upS n) (upA n)=0:=hL
 refine rg_ h_6 [[0],[0,1],[0,1,2],[0,1,3],r_ 5,r_ 6,r_ 7] [K_ bF,K_ bF,K_ undef,K_ undef,K_ undef,K_ bF,K_ bF] (fun E7=>[(0,vP c 0),(4,vP (pb E1 1) 0),(5,vP (pb E1 2) 0),(6,vI 0),(7,vI 0),(8,bF),(39,bF)]) (hs:=c_ mv_<|c_ mv_<|c_ off_<|c_ off_<|c_ off_<|c_ (pk0 bF undef bF)<|c_ mv_<|e_) (k:=fun E7 ac wd h_7=>?_)
 clear h_6
 refine then_n ?_
 refine wp_cond_false (eval_tmp (h_7.g (t:=39) rfl)) ?_
 refine wp_seq ?_
 refine rg_ h_7 [[0],[0,1]] [K_ bF,K_ bF] (fun E8=>[(0,vP c 0),(4,vP (pb E1 1) 0),(5,vP (pb E1 2) 0),(6,vI 0),(7,vI 0),(48,bF)]) (hs:=c_ mv_<|c_ mv_<|e_) (k:=fun E8 ac wd h_8=>?_)
 clear h_7
 refine then_n ?_
 refine wp_cond_false (eval_tmp (h_8.g (t:=48) rfl)) ?_
 refine wp_skip (blk_n (then_n (wp_seq (wp_seq ?_))))
 refine rg_ h_8 [[0],[1],[0,1,2],r_ 4,r_ 5,[0,1,2,3,5],[6],[0,1,2,3,4,6,7],r_ 9] [K_ (vP c 0),K_ (vL (upD n) (upS n) (upA n)),K_ (vT2 (vW (ctV es (upD n) (upS n) (upA n))) (vI (upL es n))),K_ (vT2 (vW (ctV es (upD n) (upS n) (upA n))) (vI (upL es n))),K_ (vW (ctV es (upD n) (upS n) (upA n))),K_ (vI (upL es n)),KE_ fun env=>vP (pb env 6) 0,none,K_ (vI (upL es n))] (fun E9=>[(4,vP (pb E1 1) 0),(5,vP (pb E1 2) 0),(6,vI 0),(7,vI 0),(10,vI (upL es n))]) (W:=[{ i:=6,T:=26,c0:=[vI 0,.int .u64 0],s:=some 7,c1:=fun _=>[vI (hi (ctV es (upD n) (upS n) (upA n))),.int .u64 (lo (ctV es (upD n) (upS n) (upA n)))] }]) (M':=fun E9=>[((pb E1 0),26,[vI (hi (n)),.int .u64 (lo (n))]),((pb E1 1),23,[vI ((upD n)-1),vI 86400,vI (upA n)]),((pb E1 2),23,[vI (upD n),vI (upS n),vI (upA n)]),((pb E9 6),26,[vI (hi (ctV es (upD n) (upS n) (upA n))),.int .u64 (lo (ctV es (upD n) (upS n) (upA n)))])]) (hs:=c_ mv_<|c_ (ld_ 2 (hrd:=by exact rd23 rfl rfl rfl))<|c_ (s_clk (c:=c) (g:=g) (b:=b) (u:=u) (x:=x) (es:=es) Tryz.func43 (fun _ h=>h) (fun _ h=>h) (h:=fun D env ac wd hA hC=>⟨_,ClkC.eq (cTai_c _ c g b u x es hC true (upD n) (upS n) (upA n) (by omega) (by omega)) (y_tt tV_lax (tE_lax.trans rfl)),rfl⟩))<|c_ mv_<|c_ ext_<|c_ ext_<|c_ (al_ 3)<|c_ (sw_ 3 6 (hst:=by exact fun _ _ _ hc=>st26 rfl rfl rfl hc))<|c_ mv_<|e_) (k:=fun E9 ac wd h_9=>?_)
 clear h_8
 refine then_n (wp_seq ?_)
 refine rg_ h_9 [[0],[0,1]] [K_ (vI (upL es n)),K_ bF] (fun E10=>[(4,vP (pb E1 1) 0),(5,vP (pb E1 2) 0),(6,vI 0),(7,vI 0),(10,vI (upL es n)),(59,bF)]) (hs:=c_ mv_<|c_ (bi0 (vI (upL es n)) (vI 0) (h:=by intro env w;simp [go_sem,hL]))<|e_) (k:=fun E10 ac wd h_10=>?_)
 clear h_9
 refine then_n ?_
 refine wp_cond_false (eval_tmp (h_10.g (t:=59) rfl)) ?_
 refine wp_skip (then_n (wp_seq ?_))
 refine rg_ h_10 [[0],[1],[0,2],r_ 4,r_ 5,r_ 6] [K_ (vL (upD n) (upS n) (upA n)),K_ (vL (upD n) (upS n) (upA n)),none,none,K_ (vI 1),K_ (vI 0)] (fun E11=>[(4,vP (pb E1 1) 0),(5,vP (pb E1 2) 0),(6,vI 1),(7,vI 0)]) (S:=[⟨1,2,fun _=>[vI (upD n),vI (upS n),vI (upA n)]⟩,⟨2,3,fun _=>[vI (upD n),vI (upS n),vI (upA n)]⟩]) (M':=fun E11=>[((pb E1 0),26,[vI (hi (n)),.int .u64 (lo (n))]),((pb E1 1),23,[vI (upD n),vI (upS n),vI (upA n)]),((pb E1 2),23,[vI (upD n),vI (upS n),vI (upA n)]),((pb E9 6),26,[vI (hi (ctV es (upD n) (upS n) (upA n))),.int .u64 (lo (ctV es (upD n) (upS n) (upA n)))])]) (hs:=c_ (ld_ 2 (hrd:=by exact rd23 rfl rfl rfl))<|c_ (ld_ 2 (hrd:=by exact rd23 rfl rfl rfl))<|c_ (se_ 1 (hst:=by exact fun _ _ _ hc=>st23 rfl rfl rfl rfl hc))<|c_ (se_ 2 (hst:=by exact fun _ _ _ hc=>st23 rfl rfl rfl rfl hc))<|c_ mv_<|c_ mv_<|e_) (k:=fun E11 ac wd h_11=>?_)
 clear h_10
 refine then_n (wp_ret ?_)
 have s4:=h_11.g (t:=4) rfl
 have hc4:=(h_11.st.own 1 _ rfl).2
 have c4_0:=own_cell (o:=0) hc4 rfl
 have c4_1:=own_cell (o:=1) hc4 rfl
 have c4_2:=own_cell (o:=2) hc4 rfl
 have s5:=h_11.g (t:=5) rfl
 have hc5:=(h_11.st.own 2 _ rfl).2
 have c5_0:=own_cell (o:=0) hc5 rfl
 have c5_1:=own_cell (o:=1) hc5 rfl
 have c5_2:=own_cell (o:=2) hc5 rfl
 have s6:=h_11.g (t:=6) rfl
 have s7:=h_11.g (t:=7) rfl
 refine leave (v:=.tuple #[vL (upD n) (upS n) (upA n),vL (upD n) (upS n) (upA n),vI 1,vI 0]) h_11.df (by simp [results,Tryz.results17,go_sem,Array.getD_eq_getD_getElem?,s4,c4_0,c4_1,c4_2,Tryz.underlying23,s5,c5_0,c5_1,c5_2,Tryz.underlying23,s6,s7]) ?_
 have eK:ulK es n=1:=by unfold ulK;simp [hok,hF,hL]
 have eE:ulE es n=0:=by unfold ulE;simp [hok,hF,hL]
 have eA:ulA es n=(upD n,upS n,upA n):=by unfold ulA;rw [eK];simp [hok,hF,hL]
 have eB:ulB es n=(upD n,upS n,upA n):=by unfold ulB;rw [eK];simp [hok,hF,hL]
 exact ⟨by rw [eK,eE,eA,eB],h_11.st.nowT,h_11.st.gr⟩
 have hL2:¬ ctE es (upD n) (upS n) (upA n)=0:=hL
 refine rg_ h_6 [[0],[0,1],[0,1,2],[0,1,3],r_ 5,r_ 6,r_ 7] [K_ bF,K_ bF,K_ undef,K_ undef,K_ undef,K_ bF,K_ bF] (fun E7=>[(0,vP c 0),(4,vP (pb E1 1) 0),(5,vP (pb E1 2) 0),(6,vI 0),(7,vI 0),(8,bF),(39,bF)]) (hs:=c_ mv_<|c_ mv_<|c_ off_<|c_ off_<|c_ off_<|c_ (pk0 bF undef bF)<|c_ mv_<|e_) (k:=fun E7 ac wd h_7=>?_)
 clear h_6
 refine then_n ?_
 refine wp_cond_false (eval_tmp (h_7.g (t:=39) rfl)) ?_
 refine wp_seq ?_
 refine rg_ h_7 [[0],[0,1]] [K_ bF,K_ bF] (fun E8=>[(0,vP c 0),(4,vP (pb E1 1) 0),(5,vP (pb E1 2) 0),(6,vI 0),(7,vI 0),(48,bF)]) (hs:=c_ mv_<|c_ mv_<|e_) (k:=fun E8 ac wd h_8=>?_)
 clear h_7
 refine then_n ?_
 refine wp_cond_false (eval_tmp (h_8.g (t:=48) rfl)) ?_
 refine wp_skip (blk_n (then_n (wp_seq (wp_seq ?_))))
 refine rg_ h_8 [[0],[1],[0,1,2],r_ 4,r_ 5,[0,1,2,3,5],[6],[0,1,2,3,4,6,7],r_ 9] [K_ (vP c 0),K_ (vL (upD n) (upS n) (upA n)),K_ (vT2 (vW (ctV es (upD n) (upS n) (upA n))) (vI (upL es n))),K_ (vT2 (vW (ctV es (upD n) (upS n) (upA n))) (vI (upL es n))),K_ (vW (ctV es (upD n) (upS n) (upA n))),K_ (vI (upL es n)),KE_ fun env=>vP (pb env 6) 0,none,K_ (vI (upL es n))] (fun E9=>[(4,vP (pb E1 1) 0),(5,vP (pb E1 2) 0),(6,vI 0),(7,vI 0),(10,vI (upL es n))]) (W:=[{ i:=6,T:=26,c0:=[vI 0,.int .u64 0],s:=some 7,c1:=fun _=>[vI (hi (ctV es (upD n) (upS n) (upA n))),.int .u64 (lo (ctV es (upD n) (upS n) (upA n)))] }]) (M':=fun E9=>[((pb E1 0),26,[vI (hi (n)),.int .u64 (lo (n))]),((pb E1 1),23,[vI ((upD n)-1),vI 86400,vI (upA n)]),((pb E1 2),23,[vI (upD n),vI (upS n),vI (upA n)]),((pb E9 6),26,[vI (hi (ctV es (upD n) (upS n) (upA n))),.int .u64 (lo (ctV es (upD n) (upS n) (upA n)))])]) (hs:=c_ mv_<|c_ (ld_ 2 (hrd:=by exact rd23 rfl rfl rfl))<|c_ (s_clk (c:=c) (g:=g) (b:=b) (u:=u) (x:=x) (es:=es) Tryz.func43 (fun _ h=>h) (fun _ h=>h) (h:=fun D env ac wd hA hC=>⟨_,ClkC.eq (cTai_c _ c g b u x es hC true (upD n) (upS n) (upA n) (by omega) (by omega)) (y_tt tV_lax (tE_lax.trans rfl)),rfl⟩))<|c_ mv_<|c_ ext_<|c_ ext_<|c_ (al_ 3)<|c_ (sw_ 3 6 (hst:=by exact fun _ _ _ hc=>st26 rfl rfl rfl hc))<|c_ mv_<|e_) (k:=fun E9 ac wd h_9=>?_)
 clear h_8
 refine then_n (wp_seq ?_)
 refine rg_ h_9 [[0],[0,1]] [K_ (vI (upL es n)),K_ bT] (fun E10=>[(4,vP (pb E1 1) 0),(5,vP (pb E1 2) 0),(6,vI 0),(7,vI 0),(10,vI (upL es n)),(59,bT)]) (hs:=c_ mv_<|c_ (bi0 (vI (upL es n)) (vI 0) (h:=by intro env w;simp [go_sem,hL]))<|e_) (k:=fun E10 ac wd h_10=>?_)
 clear h_9
 refine then_n ?_
 refine wp_cond_true (eval_tmp (h_10.g (t:=59) rfl)) ?_
 refine wp_seq ?_
 refine rg_ h_10 [[0],[1],[2],[0,3],[0,1,3,4],[0,1,3,4,5],r_ 7] [K_ (vL 0 0 0),K_ (vL 0 0 0),K_ (vI (upL es n)),none,none,K_ (vI 0),K_ (vI (upL es n))] (fun E11=>[(4,vP (pb E1 1) 0),(5,vP (pb E1 2) 0),(6,vI 0),(7,vI (upL es n))]) (S:=[⟨1,3,fun _=>[vI 0,vI 0,vI 0]⟩,⟨2,4,fun _=>[vI 0,vI 0,vI 0]⟩]) (M':=fun E11=>[((pb E1 0),26,[vI (hi (n)),.int .u64 (lo (n))]),((pb E1 1),23,[vI 0,vI 0,vI 0]),((pb E1 2),23,[vI 0,vI 0,vI 0]),((pb E9 6),26,[vI (hi (ctV es (upD n) (upS n) (upA n))),.int .u64 (lo (ctV es (upD n) (upS n) (upA n)))])]) (hs:=c_ (bd0 ([]))<|c_ (bd0 ([]))<|c_ mv_<|c_ (se_ 1 (hst:=by exact fun _ _ _ hc=>st23 rfl rfl rfl rfl hc))<|c_ (se_ 2 (hst:=by exact fun _ _ _ hc=>st23 rfl rfl rfl rfl hc))<|c_ mv_<|c_ mv_<|e_) (k:=fun E11 ac wd h_11=>?_)
 clear h_10
 refine then_n (wp_ret (then_ret ?_))
 have s4:=h_11.g (t:=4) rfl
 have hc4:=(h_11.st.own 1 _ rfl).2
 have c4_0:=own_cell (o:=0) hc4 rfl
 have c4_1:=own_cell (o:=1) hc4 rfl
 have c4_2:=own_cell (o:=2) hc4 rfl
 have s5:=h_11.g (t:=5) rfl
 have hc5:=(h_11.st.own 2 _ rfl).2
 have c5_0:=own_cell (o:=0) hc5 rfl
 have c5_1:=own_cell (o:=1) hc5 rfl
 have c5_2:=own_cell (o:=2) hc5 rfl
 have s6:=h_11.g (t:=6) rfl
 have s7:=h_11.g (t:=7) rfl
 refine leave (v:=.tuple #[vL 0 0 0,vL 0 0 0,vI 0,vI (upL es n)]) h_11.df (by simp [results,Tryz.results17,go_sem,Array.getD_eq_getD_getElem?,s4,c4_0,c4_1,c4_2,Tryz.underlying23,s5,c5_0,c5_1,c5_2,Tryz.underlying23,s6,s7]) ?_
 have eK:ulK es n=0:=by unfold ulK;simp [hok,hF,hL]
 have eE:ulE es n=upL es n:=by unfold ulE;simp [hok,hF,hL]
 have eA:ulA es n=(0,0,0):=by unfold ulA;rw [eK];simp [hok,hF,hL]
 have eB:ulB es n=(0,0,0):=by unfold ulB;rw [eK];simp [hok,hF,hL]
 exact ⟨by rw [eK,eE,eA,eB],h_11.st.nowT,h_11.st.gr⟩
theorem xfind_c (w0:World) (c g:Nat) (b:Value) (u x:Int) (es:List (Int × Int)) (hC:IsC w0 c g b u x es) (n pick:Int) (hn:InW n):ClkC Tryz.prog 18 [vP c 0,vW n,vI pick] w0 c g b u x es (vT2 (vL ((ufL es n pick).1) ((ufL es n pick).2.1) ((ufL es n pick).2.2)) (vI (ufE es n pick))):=by
 unfold ClkC
 have hst:=St.startC w0 hC
 refine enter Tryz.func18 rfl (n:=38) rfl (Nat.le_of_ble_eq_true rfl) hst (L:=[(0,vP c 0),(1,vW n),(2,vI pick)]) (lk_args rfl) (fun ac h=>?_)
 refine wp_seq ?_
 refine rg_ h [[0],[1],[2]] [KE_ fun env=>vP (pb env 0) 0,KE_ fun env=>vP (pb env 1) 0,K_ (vI 0)] (fun E1=>[(0,vP c 0),(2,vI pick),(4,vP (pb E1 0) 0),(6,vP (pb E1 1) 0),(7,vI 0)]) (W:=[{ i:=0,T:=26,c0:=[vI (hi (n)),.int .u64 (lo (n))] },{ i:=1,T:=23,c0:=[vI 0,vI 0,vI 0] }]) (M':=fun E1=>[((pb E1 0),26,[vI (hi (n)),.int .u64 (lo (n))]),((pb E1 1),23,[vI 0,vI 0,vI 0])]) (hs:=c_ (bx0 0 (vW n))<|c_ (al_ 1)<|c_ mv_<|e_) (k:=fun E1 ac wd h_1=>?_)
 clear h
 refine then_n (wp_seq ?_)
 refine rg_ h_1 [[0],[1],[0,1,2],r_ 4,r_ 5,[0,1,2,3,5],[0,1,2,3,6],[0,1,2,3,7],[8],[9],[0,1,2,3,4,8,9,10],[0,1,2,3,4,5,8,9,10,11],[0,1,2,3,4,5,6,8,9,10,11,12],r_ 14] [K_ (vP c 0),K_ (vW n),K_ (.tuple #[vL ((ulA es n).1) ((ulA es n).2.1) ((ulA es n).2.2),vL ((ulB es n).1) ((ulB es n).2.1) ((ulB es n).2.2),vI (ulK es n),vI (ulE es n)]),K_ (.tuple #[vL ((ulA es n).1) ((ulA es n).2.1) ((ulA es n).2.2),vL ((ulB es n).1) ((ulB es n).2.1) ((ulB es n).2.2),vI (ulK es n),vI (ulE es n)]),K_ (vL ((ulA es n).1) ((ulA es n).2.1) ((ulA es n).2.2)),K_ (vL ((ulB es n).1) ((ulB es n).2.1) ((ulB es n).2.2)),K_ (vI (ulK es n)),K_ (vI (ulE es n)),KE_ fun env=>vP (pb env 8) 0,KE_ fun env=>vP (pb env 9) 0,none,none,K_ (vI (ulK es n)),K_ (vI (ulE es n))] (fun E2=>[(2,vI pick),(6,vP (pb E1 1) 0),(7,vI 0),(8,vP (pb E2 8) 0),(9,vP (pb E2 9) 0),(10,vI (ulK es n)),(11,vI (ulE es n))]) (W:=[{ i:=8,T:=23,c0:=[vI 0,vI 0,vI 0],s:=some 10,c1:=fun _=>[vI ((ulA es n).1),vI ((ulA es n).2.1),vI ((ulA es n).2.2)] },{ i:=9,T:=23,c0:=[vI 0,vI 0,vI 0],s:=some 11,c1:=fun _=>[vI ((ulB es n).1),vI ((ulB es n).2.1),vI ((ulB es n).2.2)] }]) (M':=fun E2=>[((pb E1 0),26,[vI (hi (n)),.int .u64 (lo (n))]),((pb E1 1),23,[vI 0,vI 0,vI 0]),((pb E2 8),23,[vI ((ulA es n).1),vI ((ulA es n).2.1),vI ((ulA es n).2.2)]),((pb E2 9),23,[vI ((ulB es n).1),vI ((ulB es n).2.1),vI ((ulB es n).2.2)])]) (hs:=c_ mv_<|c_ (ld_ 0 (hrd:=by exact rd26 rfl rfl))<|c_ (s_clk (c:=c) (g:=g) (b:=b) (u:=u) (x:=x) (es:=es) Tryz.func17 (fun _ h=>h) (fun _ h=>h) (h:=fun D env ac wd hA hC=>⟨_,xlabels_c _ c g b u x es hC n hn,rfl⟩))<|c_ mv_<|c_ ext_<|c_ ext_<|c_ ext_<|c_ ext_<|c_ (al_ 2)<|c_ (al_ 3)<|c_ (sw_ 2 8 (hst:=by exact fun _ _ _ hc=>st23 rfl rfl rfl rfl hc))<|c_ (sw_ 3 9 (hst:=by exact fun _ _ _ hc=>st23 rfl rfl rfl rfl hc))<|c_ mv_<|c_ mv_<|e_) (k:=fun E2 ac wd h_2=>?_)
 clear h_1
 refine then_n (wp_seq (wp_block (wp_seq ?_)))
 by_cases he:ulE es n=0
 refine rg_ h_2 (tri 3) [K_ (vI (ulE es n)),K_ bF,K_ bF] (fun E3=>[(2,vI pick),(6,vP (pb E1 1) 0),(7,vI 0),(8,vP (pb E2 8) 0),(9,vP (pb E2 9) 0),(10,vI (ulK es n)),(11,vI (ulE es n)),(20,bF)]) (hs:=c_ mv_<|c_ (bi0 (vI (ulE es n)) (vI 0) (h:=by intro env w;simp [go_sem,he]))<|c_ mv_<|e_) (k:=fun E3 ac wd h_3=>?_)
 clear h_2
 refine then_n ?_
 refine wp_cond_false (eval_tmp (h_3.g (t:=20) rfl)) ?_
 refine wp_seq ?_
 by_cases hk:ulK es n=1
 refine rg_ h_3 (tri 7) [K_ (vI (ulK es n)),K_ bT,K_ bT,K_ undef,K_ undef,K_ bT,K_ bT] (fun E4=>[(2,vI pick),(6,vP (pb E1 1) 0),(7,vI 0),(8,vP (pb E2 8) 0),(9,vP (pb E2 9) 0),(25,bT)]) (hs:=c_ mv_<|c_ (bi0 (vI (ulK es n)) (vI 1) (h:=by intro env w;simp [go_sem,hk]))<|c_ mv_<|c_ off_<|c_ off_<|c_ (pk0 bT bT undef)<|c_ mv_<|e_) (k:=fun E4 ac wd h_4=>?_)
 clear h_3
 refine then_n ?_
 refine wp_cond_true (eval_tmp (h_4.g (t:=25) rfl)) ?_
 refine wp_seq ?_
 refine rg_ h_4 (tri 3) [K_ (vL ((ulB es n).1) ((ulB es n).2.1) ((ulB es n).2.2)),none,K_ (vI 0)] (fun E5=>[(6,vP (pb E1 1) 0),(7,vI 0)]) (S:=[⟨1,1,fun _=>[vI ((ulB es n).1),vI ((ulB es n).2.1),vI ((ulB es n).2.2)]⟩]) (M':=fun E5=>[((pb E1 0),26,[vI (hi (n)),.int .u64 (lo (n))]),((pb E1 1),23,[vI ((ulB es n).1),vI ((ulB es n).2.1),vI ((ulB es n).2.2)]),((pb E2 8),23,[vI ((ulA es n).1),vI ((ulA es n).2.1),vI ((ulA es n).2.2)]),((pb E2 9),23,[vI ((ulB es n).1),vI ((ulB es n).2.1),vI ((ulB es n).2.2)])]) (hs:=c_ (ld_ 3 (hrd:=by exact rd23 rfl rfl rfl))<|c_ (se_ 1 (hst:=by exact fun _ _ _ hc=>st23 rfl rfl rfl rfl hc))<|c_ mv_<|e_) (k:=fun E5 ac wd h_5=>?_)
 clear h_4
 refine then_n (wp_ret (blk_ret (then_ret ?_)))
 have s6:=h_5.g (t:=6) rfl
 have hc6:=(h_5.st.own 1 _ rfl).2
 have c6_0:=own_cell (o:=0) hc6 rfl
 have c6_1:=own_cell (o:=1) hc6 rfl
 have c6_2:=own_cell (o:=2) hc6 rfl
 have s7:=h_5.g (t:=7) rfl
 refine leave (v:=vT2 (vL ((ulB es n).1) ((ulB es n).2.1) ((ulB es n).2.2)) (vI 0)) h_5.df (by simp [results,Tryz.results18,go_sem,Array.getD_eq_getD_getElem?,s6,c6_0,c6_1,c6_2,Tryz.underlying23,s7]) ?_
 have e1:ufE es n pick=0:=by unfold ufE;simp [he,hk]
 have e2:ufL es n pick=ulB es n:=by unfold ufL;simp [he,hk]
 exact ⟨by rw [e1,e2],h_5.st.nowT,h_5.st.gr⟩
 by_cases h2:pick=2
 refine rg_ h_3 (tri 7) [K_ (vI (ulK es n)),K_ bF,K_ bF,K_ (vI pick),K_ bT,K_ bT,K_ bT] (fun E4=>[(2,vI pick),(6,vP (pb E1 1) 0),(7,vI 0),(8,vP (pb E2 8) 0),(9,vP (pb E2 9) 0),(25,bT)]) (hs:=c_ mv_<|c_ (bi0 (vI (ulK es n)) (vI 1) (h:=by intro env w;simp [go_sem,hk]))<|c_ mv_<|c_ (gm0 (vI pick))<|c_ (bi0 (vI pick) (vI 2) (h:=by intro env w;simp [go_sem,h2]))<|c_ (pk0 bF bT bT (h:=by intro env w;simp [go_sem,h2]))<|c_ mv_<|e_) (k:=fun E4 ac wd h_4=>?_)
 clear h_3
 refine then_n ?_
 refine wp_cond_true (eval_tmp (h_4.g (t:=25) rfl)) ?_
 refine wp_seq ?_
 refine rg_ h_4 (tri 3) [K_ (vL ((ulB es n).1) ((ulB es n).2.1) ((ulB es n).2.2)),none,K_ (vI 0)] (fun E5=>[(6,vP (pb E1 1) 0),(7,vI 0)]) (S:=[⟨1,1,fun _=>[vI ((ulB es n).1),vI ((ulB es n).2.1),vI ((ulB es n).2.2)]⟩]) (M':=fun E5=>[((pb E1 0),26,[vI (hi (n)),.int .u64 (lo (n))]),((pb E1 1),23,[vI ((ulB es n).1),vI ((ulB es n).2.1),vI ((ulB es n).2.2)]),((pb E2 8),23,[vI ((ulA es n).1),vI ((ulA es n).2.1),vI ((ulA es n).2.2)]),((pb E2 9),23,[vI ((ulB es n).1),vI ((ulB es n).2.1),vI ((ulB es n).2.2)])]) (hs:=c_ (ld_ 3 (hrd:=by exact rd23 rfl rfl rfl))<|c_ (se_ 1 (hst:=by exact fun _ _ _ hc=>st23 rfl rfl rfl rfl hc))<|c_ mv_<|e_) (k:=fun E5 ac wd h_5=>?_)
 clear h_4
 refine then_n (wp_ret (blk_ret (then_ret ?_)))
 have s6:=h_5.g (t:=6) rfl
 have hc6:=(h_5.st.own 1 _ rfl).2
 have c6_0:=own_cell (o:=0) hc6 rfl
 have c6_1:=own_cell (o:=1) hc6 rfl
 have c6_2:=own_cell (o:=2) hc6 rfl
 have s7:=h_5.g (t:=7) rfl
 refine leave (v:=vT2 (vL ((ulB es n).1) ((ulB es n).2.1) ((ulB es n).2.2)) (vI 0)) h_5.df (by simp [results,Tryz.results18,go_sem,Array.getD_eq_getD_getElem?,s6,c6_0,c6_1,c6_2,Tryz.underlying23,s7]) ?_
 have e1:ufE es n pick=0:=by unfold ufE;simp [he,h2]
 have e2:ufL es n pick=ulB es n:=by unfold ufL;simp [he,h2]
 exact ⟨by rw [e1,e2],h_5.st.nowT,h_5.st.gr⟩
 refine rg_ h_3 (tri 7) [K_ (vI (ulK es n)),K_ bF,K_ bF,K_ (vI pick),K_ bF,K_ bF,K_ bF] (fun E4=>[(2,vI pick),(6,vP (pb E1 1) 0),(7,vI 0),(8,vP (pb E2 8) 0),(9,vP (pb E2 9) 0),(25,bF)]) (hs:=c_ mv_<|c_ (bi0 (vI (ulK es n)) (vI 1) (h:=by intro env w;simp [go_sem,hk]))<|c_ mv_<|c_ (gm0 (vI pick))<|c_ (bi0 (vI pick) (vI 2) (h:=by intro env w;simp [go_sem,h2]))<|c_ (pk0 bF bT bF (h:=by intro env w;simp [go_sem,h2]))<|c_ mv_<|e_) (k:=fun E4 ac wd h_4=>?_)
 clear h_3
 refine then_n ?_
 refine wp_cond_false (eval_tmp (h_4.g (t:=25) rfl)) ?_
 refine wp_seq ?_
 by_cases h1:pick=1
 refine rg_ h_4 (tri 3) [K_ (vI pick),K_ bT,K_ bT] (fun E5=>[(6,vP (pb E1 1) 0),(7,vI 0),(8,vP (pb E2 8) 0),(33,bT)]) (hs:=c_ mv_<|c_ (bi0 (vI pick) (vI 1) (h:=by intro env w;simp [go_sem,h1]))<|c_ mv_<|e_) (k:=fun E5 ac wd h_5=>?_)
 clear h_4
 refine then_n ?_
 refine wp_cond_true (eval_tmp (h_5.g (t:=33) rfl)) ?_
 refine wp_seq ?_
 refine rg_ h_5 (tri 3) [K_ (vL ((ulA es n).1) ((ulA es n).2.1) ((ulA es n).2.2)),none,K_ (vI 0)] (fun E6=>[(6,vP (pb E1 1) 0),(7,vI 0)]) (S:=[⟨1,1,fun _=>[vI ((ulA es n).1),vI ((ulA es n).2.1),vI ((ulA es n).2.2)]⟩]) (M':=fun E6=>[((pb E1 0),26,[vI (hi (n)),.int .u64 (lo (n))]),((pb E1 1),23,[vI ((ulA es n).1),vI ((ulA es n).2.1),vI ((ulA es n).2.2)]),((pb E2 8),23,[vI ((ulA es n).1),vI ((ulA es n).2.1),vI ((ulA es n).2.2)]),((pb E2 9),23,[vI ((ulB es n).1),vI ((ulB es n).2.1),vI ((ulB es n).2.2)])]) (hs:=c_ (ld_ 2 (hrd:=by exact rd23 rfl rfl rfl))<|c_ (se_ 1 (hst:=by exact fun _ _ _ hc=>st23 rfl rfl rfl rfl hc))<|c_ mv_<|e_) (k:=fun E6 ac wd h_6=>?_)
 clear h_5
 refine then_n (wp_ret (blk_ret (then_ret ?_)))
 have s6:=h_6.g (t:=6) rfl
 have hc6:=(h_6.st.own 1 _ rfl).2
 have c6_0:=own_cell (o:=0) hc6 rfl
 have c6_1:=own_cell (o:=1) hc6 rfl
 have c6_2:=own_cell (o:=2) hc6 rfl
 have s7:=h_6.g (t:=7) rfl
 refine leave (v:=vT2 (vL ((ulA es n).1) ((ulA es n).2.1) ((ulA es n).2.2)) (vI 0)) h_6.df (by simp [results,Tryz.results18,go_sem,Array.getD_eq_getD_getElem?,s6,c6_0,c6_1,c6_2,Tryz.underlying23,s7]) ?_
 have e1:ufE es n pick=0:=by unfold ufE;simp [he,hk,h2,h1]
 have e2:ufL es n pick=ulA es n:=by unfold ufL;simp [he,hk,h2,h1]
 exact ⟨by rw [e1,e2],h_6.st.nowT,h_6.st.gr⟩
 refine rg_ h_4 (tri 3) [K_ (vI pick),K_ bF,K_ bF] (fun E5=>[(6,vP (pb E1 1) 0),(7,vI 0),(8,vP (pb E2 8) 0),(33,bF)]) (hs:=c_ mv_<|c_ (bi0 (vI pick) (vI 1) (h:=by intro env w;simp [go_sem,h1]))<|c_ mv_<|e_) (k:=fun E5 ac wd h_5=>?_)
 clear h_4
 refine then_n ?_
 refine wp_cond_false (eval_tmp (h_5.g (t:=33) rfl)) ?_
 refine wp_skip (blk_n (then_n (wp_seq ?_)))
 refine rg_ h_5 (tri 3) [K_ (vL 0 0 0),none,K_ (vI 7)] (fun E6=>[(6,vP (pb E1 1) 0),(7,vI 7)]) (S:=[⟨1,1,fun _=>[vI 0,vI 0,vI 0]⟩]) (M':=fun E6=>[((pb E1 0),26,[vI (hi (n)),.int .u64 (lo (n))]),((pb E1 1),23,[vI 0,vI 0,vI 0]),((pb E2 8),23,[vI ((ulA es n).1),vI ((ulA es n).2.1),vI ((ulA es n).2.2)]),((pb E2 9),23,[vI ((ulB es n).1),vI ((ulB es n).2.1),vI ((ulB es n).2.2)])]) (hs:=c_ (bd0 ([]))<|c_ (se_ 1 (hst:=by exact fun _ _ _ hc=>st23 rfl rfl rfl rfl hc))<|c_ mv_<|e_) (k:=fun E6 ac wd h_6=>?_)
 clear h_5
 refine then_n (wp_ret ?_)
 have s6:=h_6.g (t:=6) rfl
 have hc6:=(h_6.st.own 1 _ rfl).2
 have c6_0:=own_cell (o:=0) hc6 rfl
 have c6_1:=own_cell (o:=1) hc6 rfl
 have c6_2:=own_cell (o:=2) hc6 rfl
 have s7:=h_6.g (t:=7) rfl
 refine leave (v:=vT2 (vL 0 0 0) (vI 7)) h_6.df (by simp [results,Tryz.results18,go_sem,Array.getD_eq_getD_getElem?,s6,c6_0,c6_1,c6_2,Tryz.underlying23,s7]) ?_
 have e1:ufE es n pick=7:=by unfold ufE;simp [he,hk,h2,h1]
 have e2:ufL es n pick=(0,0,0):=by unfold ufL;simp [he,hk,h2,h1]
 exact ⟨by rw [e1,e2],h_6.st.nowT,h_6.st.gr⟩
 refine rg_ h_2 (tri 3) [K_ (vI (ulE es n)),K_ bT,K_ bT] (fun E3=>[(2,vI pick),(6,vP (pb E1 1) 0),(7,vI 0),(8,vP (pb E2 8) 0),(9,vP (pb E2 9) 0),(10,vI (ulK es n)),(11,vI (ulE es n)),(20,bT)]) (hs:=c_ mv_<|c_ (bi0 (vI (ulE es n)) (vI 0) (h:=by intro env w;simp [go_sem,he]))<|c_ mv_<|e_) (k:=fun E3 ac wd h_3=>?_)
 clear h_2
 refine then_n ?_
 refine wp_cond_true (eval_tmp (h_3.g (t:=20) rfl)) ?_
 refine wp_seq ?_
 refine rg_ h_3 [[0],[1],[0,2],r_ 4] [K_ (vL 0 0 0),K_ (vI (ulE es n)),none,K_ (vI (ulE es n))] (fun E4=>[(6,vP (pb E1 1) 0),(7,vI (ulE es n))]) (S:=[⟨1,2,fun _=>[vI 0,vI 0,vI 0]⟩]) (M':=fun E4=>[((pb E1 0),26,[vI (hi (n)),.int .u64 (lo (n))]),((pb E1 1),23,[vI 0,vI 0,vI 0]),((pb E2 8),23,[vI ((ulA es n).1),vI ((ulA es n).2.1),vI ((ulA es n).2.2)]),((pb E2 9),23,[vI ((ulB es n).1),vI ((ulB es n).2.1),vI ((ulB es n).2.2)])]) (hs:=c_ (bd0 ([]))<|c_ mv_<|c_ (se_ 1 (hst:=by exact fun _ _ _ hc=>st23 rfl rfl rfl rfl hc))<|c_ mv_<|e_) (k:=fun E4 ac wd h_4=>?_)
 clear h_3
 refine then_n (wp_ret (blk_ret (then_ret ?_)))
 have s6:=h_4.g (t:=6) rfl
 have hc6:=(h_4.st.own 1 _ rfl).2
 have c6_0:=own_cell (o:=0) hc6 rfl
 have c6_1:=own_cell (o:=1) hc6 rfl
 have c6_2:=own_cell (o:=2) hc6 rfl
 have s7:=h_4.g (t:=7) rfl
 refine leave (v:=vT2 (vL 0 0 0) (vI (ulE es n))) h_4.df (by simp [results,Tryz.results18,go_sem,Array.getD_eq_getD_getElem?,s6,c6_0,c6_1,c6_2,Tryz.underlying23,s7]) ?_
 have e1:ufE es n pick=ulE es n:=by unfold ufE;simp [he]
 have e2:ufL es n pick=(0,0,0):=by unfold ufL;simp [he]
 exact ⟨by rw [e1,e2],h_4.st.nowT,h_4.st.gr⟩
theorem xlabels_nil (n:Int):Ret 17 #[.pointer none,vW n] (.tuple #[vL 0 0 0,vL 0 0 0,vI 0,vI 12]):=by
 intro w0
 have hst:=St.start w0 (Θ:=fun _=>True) (fun _ _=>trivial)
 refine enter Tryz.func17 rfl (n:=65) rfl (Nat.le_of_ble_eq_true rfl) hst (L:=[(0,.pointer none),(1,vW n)]) (lk_args rfl) (fun ac h=>?_)
 refine wp_seq ?_
 refine rg_ h [[0],[1],[2],[3],[3,4]] [KE_ fun env=>vP (pb env 0) 0,KE_ fun env=>vP (pb env 1) 0,KE_ fun env=>vP (pb env 2) 0,K_ (vI 0),K_ (vI 0)] (fun E1=>[(0,.pointer none),(3,vP (pb E1 0) 0),(4,vP (pb E1 1) 0),(5,vP (pb E1 2) 0),(6,vI 0),(7,vI 0)]) (W:=[{ i:=0,T:=26,c0:=[vI (hi (n)),.int .u64 (lo (n))] },{ i:=1,T:=23,c0:=[vI 0,vI 0,vI 0] },{ i:=2,T:=23,c0:=[vI 0,vI 0,vI 0] }]) (M':=fun E1=>[((pb E1 0),26,[vI (hi (n)),.int .u64 (lo (n))]),((pb E1 1),23,[vI 0,vI 0,vI 0]),((pb E1 2),23,[vI 0,vI 0,vI 0])]) (hs:=c_ (bx0 0 (vW n))<|c_ (al_ 1)<|c_ (al_ 2)<|c_ mv_<|c_ mv_<|e_) (k:=fun E1 ac wd h_1=>?_)
 clear h
 refine then_n (wp_seq (wp_seq ?_))
 refine rg_ h_1 [[0],[0,1]] [K_ (.pointer none),K_ bT] (fun E2=>[(0,.pointer none),(3,vP (pb E1 0) 0),(4,vP (pb E1 1) 0),(5,vP (pb E1 2) 0),(6,vI 0),(7,vI 0),(12,bT)]) (hs:=c_ mv_<|c_ (bi0 (.pointer none) (.pointer none))<|e_) (k:=fun E2 ac wd h_2=>?_)
 clear h_1
 refine then_n ?_
 refine wp_cond_true (eval_tmp (h_2.g (t:=12) rfl)) ?_
 refine wp_seq ?_
 refine rg_ h_2 [[0],[1],[0,2],r_ 4,r_ 5,r_ 6] [K_ (vL 0 0 0),K_ (vL 0 0 0),none,none,K_ (vI 0),K_ (vI 12)] (fun E3=>[(0,.pointer none),(3,vP (pb E1 0) 0),(4,vP (pb E1 1) 0),(5,vP (pb E1 2) 0),(6,vI 0),(7,vI 12)]) (S:=[⟨1,2,fun _=>[vI 0,vI 0,vI 0]⟩,⟨2,3,fun _=>[vI 0,vI 0,vI 0]⟩]) (M':=fun E3=>[((pb E1 0),26,[vI (hi (n)),.int .u64 (lo (n))]),((pb E1 1),23,[vI 0,vI 0,vI 0]),((pb E1 2),23,[vI 0,vI 0,vI 0])]) (hs:=c_ (ld_ 1 (hrd:=by exact rd23 rfl rfl rfl))<|c_ (ld_ 2 (hrd:=by exact rd23 rfl rfl rfl))<|c_ (se_ 1 (hst:=by exact fun _ _ _ hc=>st23 rfl rfl rfl rfl hc))<|c_ (se_ 2 (hst:=by exact fun _ _ _ hc=>st23 rfl rfl rfl rfl hc))<|c_ mv_<|c_ mv_<|e_) (k:=fun E3 ac wd h_3=>?_)
 clear h_2
 refine then_n (wp_ret (then_ret ?_))
 have s4:=h_3.g (t:=4) rfl
 have hc4:=(h_3.st.own 1 _ rfl).2
 have c4_0:=own_cell (o:=0) hc4 rfl
 have c4_1:=own_cell (o:=1) hc4 rfl
 have c4_2:=own_cell (o:=2) hc4 rfl
 have s5:=h_3.g (t:=5) rfl
 have hc5:=(h_3.st.own 2 _ rfl).2
 have c5_0:=own_cell (o:=0) hc5 rfl
 have c5_1:=own_cell (o:=1) hc5 rfl
 have c5_2:=own_cell (o:=2) hc5 rfl
 have s6:=h_3.g (t:=6) rfl
 have s7:=h_3.g (t:=7) rfl
 refine leave (v:=.tuple #[vL 0 0 0,vL 0 0 0,vI 0,vI 12]) h_3.df (by simp [results,Tryz.results17,go_sem,Array.getD_eq_getD_getElem?,s4,c4_0,c4_1,c4_2,Tryz.underlying23,s5,c5_0,c5_1,c5_2,Tryz.underlying23,s6,s7]) ?_
 exact ⟨rfl,h_3.st.below⟩
theorem xfind_nil (n pick:Int):Ret 18 #[.pointer none,vW n,vI pick] (vT2 (vL 0 0 0) (vI 12)):=by
 intro w0
 have hst:=St.start w0 (Θ:=fun _=>True) (fun _ _=>trivial)
 refine enter Tryz.func18 rfl (n:=38) rfl (Nat.le_of_ble_eq_true rfl) hst (L:=[(0,.pointer none),(1,vW n),(2,vI pick)]) (lk_args rfl) (fun ac h=>?_)
 refine wp_seq ?_
 refine rg_ h [[0],[1],[2]] [KE_ fun env=>vP (pb env 0) 0,KE_ fun env=>vP (pb env 1) 0,K_ (vI 0)] (fun E1=>[(0,.pointer none),(2,vI pick),(4,vP (pb E1 0) 0),(6,vP (pb E1 1) 0),(7,vI 0)]) (W:=[{ i:=0,T:=26,c0:=[vI (hi (n)),.int .u64 (lo (n))] },{ i:=1,T:=23,c0:=[vI 0,vI 0,vI 0] }]) (M':=fun E1=>[((pb E1 0),26,[vI (hi (n)),.int .u64 (lo (n))]),((pb E1 1),23,[vI 0,vI 0,vI 0])]) (hs:=c_ (bx0 0 (vW n))<|c_ (al_ 1)<|c_ mv_<|e_) (k:=fun E1 ac wd h_1=>?_)
 clear h
 refine then_n (wp_seq ?_)
 refine rg_ h_1 [[0],[1],[0,1,2],r_ 4,r_ 5,[0,1,2,3,5],[0,1,2,3,6],[0,1,2,3,7],[8],[9],[0,1,2,3,4,8,9,10],[0,1,2,3,4,5,8,9,10,11],[0,1,2,3,4,5,6,8,9,10,11,12],r_ 14] [K_ (.pointer none),K_ (vW n),K_ (.tuple #[vL 0 0 0,vL 0 0 0,vI 0,vI 12]),K_ (.tuple #[vL 0 0 0,vL 0 0 0,vI 0,vI 12]),K_ (vL 0 0 0),K_ (vL 0 0 0),K_ (vI 0),K_ (vI 12),KE_ fun env=>vP (pb env 8) 0,KE_ fun env=>vP (pb env 9) 0,none,none,K_ (vI 0),K_ (vI 12)] (fun E2=>[(2,vI pick),(6,vP (pb E1 1) 0),(7,vI 0),(8,vP (pb E2 8) 0),(9,vP (pb E2 9) 0),(10,vI 0),(11,vI 12)]) (W:=[{ i:=8,T:=23,c0:=[vI 0,vI 0,vI 0],s:=some 10,c1:=fun _=>[vI 0,vI 0,vI 0] },{ i:=9,T:=23,c0:=[vI 0,vI 0,vI 0],s:=some 11,c1:=fun _=>[vI 0,vI 0,vI 0] }]) (M':=fun E2=>[((pb E1 0),26,[vI (hi (n)),.int .u64 (lo (n))]),((pb E1 1),23,[vI 0,vI 0,vI 0]),((pb E2 8),23,[vI 0,vI 0,vI 0]),((pb E2 9),23,[vI 0,vI 0,vI 0])]) (hs:=c_ mv_<|c_ (ld_ 0 (hrd:=by exact rd26 rfl rfl))<|c_ (cl_ Tryz.func17 (h:=fun env=>⟨_,(xlabels_nil n),rfl⟩))<|c_ mv_<|c_ ext_<|c_ ext_<|c_ ext_<|c_ ext_<|c_ (al_ 2)<|c_ (al_ 3)<|c_ (sw_ 2 8 (hst:=by exact fun _ _ _ hc=>st23 rfl rfl rfl rfl hc))<|c_ (sw_ 3 9 (hst:=by exact fun _ _ _ hc=>st23 rfl rfl rfl rfl hc))<|c_ mv_<|c_ mv_<|e_) (k:=fun E2 ac wd h_2=>?_)
 clear h_1
 refine then_n (wp_seq (wp_block (wp_seq ?_)))
 refine rg_ h_2 (tri 3) [K_ (vI 12),K_ bT,K_ bT] (fun E3=>[(2,vI pick),(6,vP (pb E1 1) 0),(7,vI 0),(8,vP (pb E2 8) 0),(9,vP (pb E2 9) 0),(10,vI 0),(11,vI 12),(20,bT)]) (hs:=c_ mv_<|c_ (bi0 (vI 12) (vI 0))<|c_ mv_<|e_) (k:=fun E3 ac wd h_3=>?_)
 clear h_2
 refine then_n ?_
 refine wp_cond_true (eval_tmp (h_3.g (t:=20) rfl)) ?_
 refine wp_seq ?_
 refine rg_ h_3 [[0],[1],[0,2],r_ 4] [K_ (vL 0 0 0),K_ (vI 12),none,K_ (vI 12)] (fun E4=>[(6,vP (pb E1 1) 0),(7,vI 12)]) (S:=[⟨1,2,fun _=>[vI 0,vI 0,vI 0]⟩]) (M':=fun E4=>[((pb E1 0),26,[vI (hi (n)),.int .u64 (lo (n))]),((pb E1 1),23,[vI 0,vI 0,vI 0]),((pb E2 8),23,[vI 0,vI 0,vI 0]),((pb E2 9),23,[vI 0,vI 0,vI 0])]) (hs:=c_ (bd0 ([]))<|c_ mv_<|c_ (se_ 1 (hst:=by exact fun _ _ _ hc=>st23 rfl rfl rfl rfl hc))<|c_ mv_<|e_) (k:=fun E4 ac wd h_4=>?_)
 clear h_3
 refine then_n (wp_ret (blk_ret (then_ret ?_)))
 have s6:=h_4.g (t:=6) rfl
 have hc6:=(h_4.st.own 1 _ rfl).2
 have c6_0:=own_cell (o:=0) hc6 rfl
 have c6_1:=own_cell (o:=1) hc6 rfl
 have c6_2:=own_cell (o:=2) hc6 rfl
 have s7:=h_4.g (t:=7) rfl
 refine leave (v:=vT2 (vL 0 0 0) (vI 12)) h_4.df (by simp [results,Tryz.results18,go_sem,Array.getD_eq_getD_getElem?,s6,c6_0,c6_1,c6_2,Tryz.underlying23,s7]) ?_
 exact ⟨rfl,h_4.st.below⟩
end Go.Proofs.YtdfkghpgekmmlabGreat
namespace Go.Proofs.YtdfkghpgekmmlabGreat
open Go.RowKit
attribute [local go_sem] vN bT bF rS vW vM vL vT2 vT3 vP vI execOp Act.eval evC bigF vB hi_zero lo_zero Tryz.underlying23 Tryz.underlying26 Tryz.underlying41 Tryz.underlying56
theorem ans17_c:vT2 (vW (ucV 41498 86400 5)) (vI (ucE 41498 86400 5))=vT2 (vW 78796800000000000000000005) (vI 0):=by
 rw [show ucV 41498 86400 5=78796800000000000000000005 by decide +kernel,show ucE 41498 86400 5=0 by decide +kernel]
theorem ans17_l:Value.tuple #[vL ((ulA ansT 78796800000000000000000005).1) ((ulA ansT 78796800000000000000000005).2.1) ((ulA ansT 78796800000000000000000005).2.2),vL ((ulB ansT 78796800000000000000000005).1) ((ulB ansT 78796800000000000000000005).2.1) ((ulB ansT 78796800000000000000000005).2.2),vI (ulK ansT 78796800000000000000000005),vI (ulE ansT 78796800000000000000000005)] = .tuple #[vL 41498 86400 5,vL 41499 0 5,vI 2,vI 0]:=by
 rw [show ulA ansT 78796800000000000000000005=(41498,86400,5) by decide +kernel,show ulB ansT 78796800000000000000000005=(41499,0,5) by decide +kernel,show ulK ansT 78796800000000000000000005=2 by decide +kernel,show ulE ansT 78796800000000000000000005=0 by decide +kernel]
theorem ans17_f:vT2 (vL ((ufL ansT 78796800000000000000000005 0).1) ((ufL ansT 78796800000000000000000005 0).2.1) ((ufL ansT 78796800000000000000000005 0).2.2)) (vI (ufE ansT 78796800000000000000000005 0))=vT2 (vL 0 0 0) (vI 7):=by
 rw [show ufL ansT 78796800000000000000000005 0=(0,0,0) by decide +kernel,show ufE ansT 78796800000000000000000005 0=7 by decide +kernel]
theorem answers17_any  : Ret 11 #[] (.bool true):=by
 intro w0
 have hst:=St.start w0 (Θ:=fun _=>True) (fun _ _=>trivial)
 refine enter Tryz.func11 rfl (n:=62) rfl (Nat.le_of_ble_eq_true rfl) hst (L:=[]) (lk_args rfl) (fun ac h=>?_)
 replace h:=h.facts
 refine wp_seq ?_
 refine rf_ h [[0]] [K_ bF] (fun E1=>[(0,bF)]) (hs:=c_ mv_<|e_) (k:=fun E1 ac wd h_1=>?_)
 clear h
 refine then_n (wp_seq ?_)
 refine rf_ h_1 [[0],[1],[0,1,2],r_ 4,r_ 5,r_ 6,r_ 7,[0,1,2,3,4,5,7],[0,1,2,3,4,5,6,8],r_ 10] [K_ (.agg #[vI 2272060800,vI 10]),K_ (.agg #[vI 2287785600,vI 11]),KE_ fun env=>.slice ((sA (env 2))) 2 2,KE_ fun env=>.agg #[vI 0,vI 0,.slice ((sA (env 2))) 2 2],KE_ fun env=>vT2 (vP (ptrB (tp (env 4) 0)) 0) (vI 0),KE_ fun env=>vT2 (vP (ptrB (tp (env 4) 0)) 0) (vI 0),KE_ fun env=>vP (ptrB (tp (env 4) 0)) 0,K_ (vI 0),KE_ fun env=>vP (ptrB (tp (env 4) 0)) 0,K_ (vI 0)] (fun E2=>[(0,bF),(1,vP (ptrB (tp (E2 4) 0)) 0)]) (F:=[(2,fun env w=>EntL w (env 2) ansT),(4,fun env w=>NewCx w (env 4) 0 0 ansT w0.heap.size)]) (L1:=fun E2=>[fun w=>EntL w (E2 2) ansT,fun w=>NewCx w (E2 4) 0 0 ansT w0.heap.size]) (hs:=c_ (bd0 ([vI 2272060800,vI 10]))<|c_ (bd0 ([vI 2287785600,vI 11]))<|c_ (s_bsE rfl rfl (fun _=>wanted_none rfl _) ansT 2 rfl #[vI 2272060800,vI 10,vI 2287785600,vI 11] ans_cs rfl rfl rfl rfl (fun {D env ac wd} hA=>by have e12:ac.tmps[12]? = some (.agg #[vI 2272060800,vI 10]):=hA.g rfl;have e13:ac.tmps[13]? = some (.agg #[vI 2287785600,vI 11]):=hA.g rfl;simp [go_sem,e12,e13,Tryz.underlying39]))<|c_ (bd_ (fun env=>[.slice ((sA (env 2))) 2 2]))<|c_ (s_factT rfl rfl rfl Tryz.func16 (by kernel_rfl) rfl (fun _=>wanted_none rfl _) (fun v w=>NewCx w v 0 0 ansT w0.heap.size) newLF rfl rfl cT rfl (fun v w h=>h.form) (fun v w w' hk h=>h.keep hk) (fun {D env ac wd} hA=>⟨_,hA.args (vs:=[.agg #[vI 0,vI 0,.slice ((sA (env 2))) 2 2]]) rfl,cnew_yes hA.j.st.gr.size (At.ent hA 2 rfl (by decide) rfl rfl rfl) (by simp [I64]) (by simp [I64]) ansT_64 ansT_ok⟩))<|c_ mv_<|c_ ext_<|c_ ext_<|c_ mv_<|c_ mv_<|e_) (k:=fun E2 ac wd h_2=>?_)
 clear h_1
 refine then_n (wp_seq ?_)
 replace h_2:=Cur.exInC h_2 1 rfl;obtain ⟨g,b,h_2⟩:=h_2;generalize ptrB (tp (E2 4) 0)=c at h_2
 refine rf_ h_2 [[0],[0,1],[0,1,2],r_ 4,[0,1,2,4],[5],[0,1,2,3,5,6],r_ 8] [K_ (vL 41498 86400 5),K_ (vT2 (vW 78796800000000000000000005) (vI 0)),K_ (vT2 (vW 78796800000000000000000005) (vI 0)),K_ (vW 78796800000000000000000005),K_ (vI 0),KE_ fun env=>vP (pb env 5) 0,none,K_ (vI 0)] (fun E3=>[(0,bF),(1,vP c 0),(3,vP (pb E3 5) 0),(4,vI 0)]) (W:=[{ i:=5,T:=26,c0:=[vI 0,.int .u64 0],s:=some 6,c1:=fun _=>[vI (hi (78796800000000000000000005)),.int .u64 (lo (78796800000000000000000005))] }]) (M':=fun E3=>[((pb E3 5),26,[vI (hi (78796800000000000000000005)),.int .u64 (lo (78796800000000000000000005))])]) (hs:=c_ (bd0 ([vI 41498,vI 86400,vI 5]))<|c_ (cl_ Tryz.func9 (h:=fun env=>⟨_,(Ret.eq (xcount_any 41498 86400 5) ans17_c),rfl⟩))<|c_ mv_<|c_ ext_<|c_ ext_<|c_ (al_ 0)<|c_ (sw_ 0 5 (hst:=by exact fun _ _ _ hc=>st26 rfl rfl rfl hc))<|c_ mv_<|e_) (k:=fun E3 ac wd h_3=>?_)
 clear h_2
 refine then_n (wp_seq ?_)
 refine rf_ h_3 [[0],[1],[0,1,2],r_ 4,r_ 5,[0,1,2,3,5],[0,1,2,3,6],[0,1,2,3,7],[8],[9],[0,1,2,3,4,8,9,10],[0,1,2,3,4,5,8,9,10,11],[0,1,2,3,4,5,6,8,9,10,11,12],r_ 14] [K_ (vP c 0),K_ (vW 78796800000000000000000005),K_ (.tuple #[vL 41498 86400 5,vL 41499 0 5,vI 2,vI 0]),K_ (.tuple #[vL 41498 86400 5,vL 41499 0 5,vI 2,vI 0]),K_ (vL 41498 86400 5),K_ (vL 41499 0 5),K_ (vI 2),K_ (vI 0),KE_ fun env=>vP (pb env 8) 0,KE_ fun env=>vP (pb env 9) 0,none,none,K_ (vI 2),K_ (vI 0)] (fun E4=>[(0,bF),(1,vP c 0),(3,vP (pb E3 5) 0),(4,vI 0),(5,vP (pb E4 8) 0),(6,vP (pb E4 9) 0),(7,vI 2),(8,vI 0)]) (W:=[{ i:=8,T:=23,c0:=[vI 0,vI 0,vI 0],s:=some 10,c1:=fun _=>[vI 41498,vI 86400,vI 5] },{ i:=9,T:=23,c0:=[vI 0,vI 0,vI 0],s:=some 11,c1:=fun _=>[vI 41499,vI 0,vI 5] }]) (M':=fun E4=>[((pb E3 5),26,[vI (hi (78796800000000000000000005)),.int .u64 (lo (78796800000000000000000005))]),((pb E4 8),23,[vI 41498,vI 86400,vI 5]),((pb E4 9),23,[vI 41499,vI 0,vI 5])]) (hs:=c_ mv_<|c_ (ld_ 0 (hrd:=by exact rd26 rfl rfl))<|c_ (s_clk (c:=c) (g:=g) (b:=b) (u:=0) (x:=0) (es:=ansT) Tryz.func17 (fun _ h=>h) (fun _ h=>h) (h:=fun D env ac wd hA hC=>⟨_,ClkC.eq (xlabels_c _ c g b 0 0 ansT hC 78796800000000000000000005 (by unfold InW;omega)) ans17_l,rfl⟩))<|c_ mv_<|c_ ext_<|c_ ext_<|c_ ext_<|c_ ext_<|c_ (al_ 1)<|c_ (al_ 2)<|c_ (sw_ 1 8 (hst:=by exact fun _ _ _ hc=>st23 rfl rfl rfl rfl hc))<|c_ (sw_ 2 9 (hst:=by exact fun _ _ _ hc=>st23 rfl rfl rfl rfl hc))<|c_ mv_<|c_ mv_<|e_) (k:=fun E4 ac wd h_4=>?_)
 clear h_3
 refine then_n (wp_seq ?_)
 refine rf_ h_4 [[0],[1],[0,1,2],r_ 4,r_ 5,[0,1,2,3,5],[6],[0,1,2,3,4,6,7],r_ 9] [K_ (vP c 0),K_ (vW 78796800000000000000000005),K_ (vT2 (vL 0 0 0) (vI 7)),K_ (vT2 (vL 0 0 0) (vI 7)),K_ (vL 0 0 0),K_ (vI 7),KE_ fun env=>vP (pb env 6) 0,none,K_ (vI 7)] (fun E5=>[(0,bF),(4,vI 0),(5,vP (pb E4 8) 0),(6,vP (pb E4 9) 0),(7,vI 2),(8,vI 0),(10,vI 7)]) (W:=[{ i:=6,T:=23,c0:=[vI 0,vI 0,vI 0],s:=some 7,c1:=fun _=>[vI 0,vI 0,vI 0] }]) (M':=fun E5=>[((pb E3 5),26,[vI (hi (78796800000000000000000005)),.int .u64 (lo (78796800000000000000000005))]),((pb E4 8),23,[vI 41498,vI 86400,vI 5]),((pb E4 9),23,[vI 41499,vI 0,vI 5]),((pb E5 6),23,[vI 0,vI 0,vI 0])]) (hs:=c_ mv_<|c_ (ld_ 0 (hrd:=by exact rd26 rfl rfl))<|c_ (s_clk (c:=c) (g:=g) (b:=b) (u:=0) (x:=0) (es:=ansT) Tryz.func18 (fun _ h=>h) (fun _ h=>h) (h:=fun D env ac wd hA hC=>⟨_,ClkC.eq (xfind_c _ c g b 0 0 ansT hC 78796800000000000000000005 0 (by unfold InW;omega)) ans17_f,rfl⟩))<|c_ mv_<|c_ ext_<|c_ ext_<|c_ (al_ 3)<|c_ (sw_ 3 6 (hst:=by exact fun _ _ _ hc=>st23 rfl rfl rfl rfl hc))<|c_ mv_<|e_) (k:=fun E5 ac wd h_5=>?_)
 clear h_4
 refine then_n (wp_seq ?_)
 refine rf_ h_5 [[0],[0,1],[0,1,2],r_ 4,r_ 5,r_ 6,r_ 7,r_ 8,r_ 9,r_ 10,r_ 11,r_ 12,[0,1,2,3,4,5,6,7,8,9,10,12],r_ 14,r_ 15,r_ 16,r_ 17,[0,1,2,3,4,5,6,7,8,9,10,11,12,13,14,15,17],r_ 19,r_ 20,r_ 21,r_ 22,r_ 23,r_ 24,r_ 25] [K_ (vI 0),K_ bT,K_ bT,K_ (vI 0),K_ bT,K_ bT,K_ bT,K_ (vI 2),K_ bT,K_ bT,K_ bT,K_ (vL 41498 86400 5),K_ (vL 41498 86400 5),K_ bT,K_ bT,K_ bT,K_ (vL 41499 0 5),K_ (vL 41499 0 5),K_ bT,K_ bT,K_ bT,K_ (vI 7),K_ bT,K_ bT,K_ bT] (fun E6=>[(0,bT)]) (hs:=c_ mv_<|c_ (bi0 (vI 0) (vI 0) (h:=by intro env w;(first | (simp [go_sem];done) | (simp [go_sem];rfl))))<|c_ mv_<|c_ (gm0 (vI 0))<|c_ (bi0 (vI 0) (vI 0) (h:=by intro env w;(first | (simp [go_sem];done) | (simp [go_sem];rfl))))<|c_ (pk0 bT bT bF (h:=by intro env w;(first | (simp [go_sem];done) | (simp [go_sem];rfl))))<|c_ mv_<|c_ (gm0 (vI 2))<|c_ (bi0 (vI 2) (vI 2) (h:=by intro env w;(first | (simp [go_sem];done) | (simp [go_sem];rfl))))<|c_ (pk0 bT bT bF (h:=by intro env w;(first | (simp [go_sem];done) | (simp [go_sem];rfl))))<|c_ mv_<|c_ (ld_ 1 (hrd:=by exact rd23 rfl rfl rfl))<|c_ (bd0 ([vI 41498,vI 86400,vI 5]))<|c_ (bi0 (vL 41498 86400 5) (vL 41498 86400 5) (h:=by intro env w;(first | (simp [go_sem];done) | (simp [go_sem];rfl))))<|c_ (pk0 bT bT bF (h:=by intro env w;(first | (simp [go_sem];done) | (simp [go_sem];rfl))))<|c_ mv_<|c_ (ld_ 2 (hrd:=by exact rd23 rfl rfl rfl))<|c_ (bd0 ([vI 41499,vI 5]))<|c_ (bi0 (vL 41499 0 5) (vL 41499 0 5) (h:=by intro env w;(first | (simp [go_sem];done) | (simp [go_sem];rfl))))<|c_ (pk0 bT bT bF (h:=by intro env w;(first | (simp [go_sem];done) | (simp [go_sem];rfl))))<|c_ mv_<|c_ (gm0 (vI 7))<|c_ (bi0 (vI 7) (vI 7) (h:=by intro env w;(first | (simp [go_sem];done) | (simp [go_sem];rfl))))<|c_ (pk0 bT bT bF (h:=by intro env w;(first | (simp [go_sem];done) | (simp [go_sem];rfl))))<|c_ mv_<|e_) (k:=fun E6 ac wd h_6=>?_)
 clear h_5
 refine then_n (wp_ret ?_)
 have s0:=h_6.g (t:=0) rfl
 refine leave (v:=.bool true) h_6.df (by simp [results,Tryz.results11,go_sem,Array.getD_eq_getD_getElem?,s0]) ?_
 exact ⟨rfl,h_6.st.below⟩
end Go.Proofs.YtdfkghpgekmmlabGreat
