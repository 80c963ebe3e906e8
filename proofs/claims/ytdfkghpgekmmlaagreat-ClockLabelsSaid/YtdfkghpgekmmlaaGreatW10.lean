/- Texts P17, U4, U5, Y1, P18, Y2, Y3, Y4 of one proof, one behind the other; what nothing here names is left out. -/
import Derived.Test.YtdfkghpgekmmlaaGreatW9
import Derived.Test.YtdfkghpgekmmlaaGreatZ6
import Derived.Test.YtdfkghpgekmmlaaGreatW7
import Derived.Test.YtdfkghpgekmmlaaGreatZ4
import Derived.IntWalk
import Derived.Test.YtdfkghpgekmmlaaGreatW8
set_option maxRecDepth 100000
set_option maxHeartbeats 8000000
set_option linter.unusedVariables false
set_option linter.unusedSimpArgs false
namespace Go.Proofs.YtdfkghpgekmmlaaGreat
open Go.RowKit
def kL (es:List (Int × Int)) (z:Int):Nat→Nat
  | 0=>0
  | i+1=>if jn 0 (startOf (es.getD i (0,0))) 0≤z then i else kL es z i
theorem jn_start (S z:Int):jn 0 S 0≤z↔S≤z / 1000000000000000000:=by unfold jn;omega
section
variable {es:List (Int × Int)} (h:okPre es es.length=true)
include h
theorem st_bd {i:Nat} (hi:i < es.length):1000000000≤startOf (es.getD i (0,0))∧startOf (es.getD i (0,0))≤2000000000000000:=by
 have:=okPre_num h hi
 unfold startOf dayOf
 omega
theorem kL_eq (z:Int):∀ i,i≤es.length→kL es z i=min i (cnt startOf es (z / 1000000000000000000))-1
  | 0,_=>by simp [kL]
  | i+1,hi=>by
    have e:=cnt_start h (z / 1000000000000000000) (i:=i) (by omega)
    have h2:=kL_eq z i (by omega)
    unfold kL
    by_cases hc:startOf (es.getD i (0,0))≤z / 1000000000000000000
    · rw [if_pos ((jn_start _ _).2 hc)]
      have:=e.1 hc
      omega
    · rw [if_neg (fun hh=>hc ((jn_start _ _).1 hh)),h2]
      have:¬ i < cnt startOf es (z / 1000000000000000000):=fun hh=>hc (e.2 hh)
      omega
theorem kL_end (hn:0 < es.length) {z:Int} (h0:¬ z < jn 0 (startOf (es.getD 0 (0,0))) 0):kL es z es.length < es.length∧cnt startOf es (z / 1000000000000000000)=kL es z es.length+1:=by
 have e:=kL_eq h z es.length (Nat.le_refl _)
 have hle:=cnt_le startOf es (z / 1000000000000000000)
 have h1:=(cnt_start h (z / 1000000000000000000) hn).1 ((jn_start _ _).1 (by omega))
 omega
theorem rl_early (hn:0 < es.length) {z:Int} (h0:z < jn 0 (startOf (es.getD 0 (0,0))) 0):labUt es z=(8,0,0,0):=by
  have hb:=st_bd h hn
  have hs:z / 1000000000000000000 < startOf (es.getD 0 (0,0)):=Int.not_le.1 fun hh=>by have:=(jn_start _ _).2 hh;omega
  have hc:cnt startOf es (z / 1000000000000000000)=0:=by
    rcases Nat.eq_zero_or_pos (cnt startOf es (z / 1000000000000000000)) with h1 | h1
    · exact h1
    · have:=(cnt_start h (z / 1000000000000000000) hn).2 h1;omega
  unfold labUt labR
  by_cases h64:z / 1000000000000000000 < -9223372036854775808∨9223372036854775808≤z / 1000000000000000000
  · rw [if_pos h64,if_pos (by omega)]
  · rw [if_neg h64,if_pos hc]
theorem rl_k {z:Int} (hz:InW z) {k:Nat} (hk:k < es.length) (hc:cnt startOf es (z / 1000000000000000000)=k+1) {o q c r:Int} (ho:(es.getD k (0,0)).2=o)
    (hq:(z-jn 0 o 0) / 1000000000000000000 / 86400=q) (hcc:(z-jn 0 o 0) / 1000000000000000000 % 86400=c) (hr:(z-jn 0 o 0) % 1000000000000000000=r) :
    (¬ (-1099511627776≤q∧q≤1099511627776)→labUt es z=(2,0,0,0))∧((-1099511627776≤q∧q≤1099511627776)→((k+1 < es.length∧dayOf (es.getD (k+1) (0,0))≤q→labUt es z=(0,q-1,c+86400,r))∧(¬ (k+1 < es.length∧dayOf (es.getD (k+1) (0,0))≤q)→labUt es z=(0,q,c,r)))):=by
  have hb:=okPre_num h hk
  rw [ho] at hb
  have hs1:=(cnt_start h (z / 1000000000000000000) hk).2 (by omega)
  have hsb:=st_bd h hk
  obtain ⟨s,es_⟩:∃ s,z / 1000000000000000000=s:=⟨_,rfl⟩
  have hN:(z-jn 0 o 0) / 1000000000000000000=s-o:=by unfold jn;omega
  have hR:(z-jn 0 o 0) % 1000000000000000000=z % 1000000000000000000:=by unfold jn;omega
  rw [hN] at hq hcc
  rw [hR] at hr
  rw [es_] at hc hs1
  unfold labUt
  rw [es_,hr]
  have hz0:cnt startOf es s≠0:=by omega
  have hV:atV es s=o:=by unfold atV;rw [if_neg hz0,hc,Nat.add_sub_cancel];exact ho
  unfold labR
  rw [hV]
  unfold InW at hz
  by_cases h64:s < -9223372036854775808∨9223372036854775808≤s
  · rw [if_pos h64,if_neg (by omega)]
    exact ⟨fun _=>rfl,fun hh=>by omega⟩
  rw [if_neg h64,if_neg hz0,hq]
  by_cases hk1:k+1 < es.length
  · have hU:atU es s=dayOf (es.getD (k+1) (0,0)):=by unfold atU;rw [if_neg hz0,if_neg (by omega),hc]
    have hb2:=okPre_num h hk1
    have hnx:s < startOf (es.getD (k+1) (0,0)):=Int.not_le.1 fun hh=>by have:=(cnt_start h s hk1).1 hh;omega
    have hof:=off_step h hk1
    rw [ho] at hof
    have hDb:15000≤dayOf (es.getD (k+1) (0,0))∧dayOf (es.getD (k+1) (0,0))≤20000000000:=by unfold dayOf;omega
    unfold startOf at hnx
    rw [hU]
    by_cases hle:dayOf (es.getD (k+1) (0,0))≤q
    · have hqU:q=dayOf (es.getD (k+1) (0,0)):=by omega
      have hin:wthn (dayOf (es.getD (k+1) (0,0))-1) (-1099511627776) 1099511627776=true:=by unfold wthn;rw [decide_eq_true (by omega),decide_eq_true (by omega)];rfl
      rw [if_pos hle,if_pos hin]
      exact ⟨fun hh=>by omega,fun _=>⟨fun _=>tup4 rfl (by omega) (by omega) rfl,fun hh=>absurd ⟨hk1,hle⟩ hh⟩⟩
    · rw [if_neg hle]
      refine ⟨fun hh=>?_,fun hh=>⟨fun h2=>absurd h2.2 hle,fun _=>?_⟩⟩
      · have hin:wthn q (-1099511627776) 1099511627776=false:=by unfold wthn;simp;omega
        rw [if_neg (by rw [hin];exact Bool.false_ne_true)]
      · have hin:wthn q (-1099511627776) 1099511627776=true:=by unfold wthn;rw [decide_eq_true hh.1,decide_eq_true hh.2];rfl
        rw [if_pos hin]
        exact tup4 rfl rfl (by omega) rfl
  · have hU:atU es s=4611686018427387904:=by unfold atU;rw [if_neg hz0,if_pos (by omega)]
    rw [hU,if_neg (by omega)]
    refine ⟨fun hh=>?_,fun hh=>⟨fun h2=>absurd h2.1 hk1,fun _=>?_⟩⟩
    · have hin:wthn q (-1099511627776) 1099511627776=false:=by unfold wthn;simp;omega
      rw [if_neg (by rw [hin];exact Bool.false_ne_true)]
    · have hin:wthn q (-1099511627776) 1099511627776=true:=by unfold wthn;rw [decide_eq_true hh.1,decide_eq_true hh.2];rfl
      rw [if_pos hin]
      exact tup4 rfl rfl (by omega) rfl
end
end Go.Proofs.YtdfkghpgekmmlaaGreat
namespace Go.Proofs.YtdfkghpgekmmlaaGreat
open Go.RowKit
attribute [local go_sem] vN bT bF rS vW vM vL vT2 vT3 vP vI execOp Act.eval evC bigF vB hi_zero lo_zero Tryz.underlying24 Tryz.underlying26 Tryz.underlying39
theorem u_res_eq {P:Program} {f:FuncId} {args:Array Value} {w0:World} {v v':Value} (h:Calls P f args w0 fun e w'=>e = .returned v∧Below w0.heap.size w0 w') (e:v=v'):Calls P f args w0 fun e w'=>e = .returned v'∧Below w0.heap.size w0 w':=by subst e;exact h
end Go.Proofs.YtdfkghpgekmmlaaGreat
namespace Go.Proofs.YtdfkghpgekmmlaaGreat
open Go.RowKit
attribute [local go_sem] vN bT bF rS vW vM vL vT2 vT3 vP vI execOp Act.eval evC bigF vB hi_zero lo_zero Tryz.underlying24 Tryz.underlying26 Tryz.underlying39
theorem Split_no (w0:World) (p:Bool) (A0:Option Addr) (c0:Nat) (x:Int) (hp:p=decide (x < 0)) (hr:Row w0 (.slice A0 (digs x).length c0) (digs x)) (hx:Sm x) (h0:-9223372036854775808≤x / 1000000000000000000 / 86400) (h1:x / 1000000000000000000 / 86400 < 9223372036854775808) (hno:¬ (-1099511627776≤x / 1000000000000000000 / 86400∧x / 1000000000000000000 / 86400≤1099511627776)):Calls Tryz.prog 88 #[.agg #[.bool (p),.slice A0 ((digs x).length) c0]] w0 fun e w'=>e = .returned (vT2 (vL 0 0 0) (.bool false))∧Below w0.heap.size w0 w':=by
 have hin:(decide (-1099511627776≤x / 1000000000000000000 / 86400) && decide (x / 1000000000000000000 / 86400≤1099511627776))=false:=by simp;omega
 have hst:=St.start w0 (Θ:=fun _=>True) (fun _ _=>trivial)
 refine enter Tryz.func88 rfl (n:=53) rfl (Nat.le_of_ble_eq_true rfl) hst (L:=[(0,.agg #[.bool (p),.slice A0 ((digs x).length) c0])]) (lk_args rfl) (fun ac h=>?_)
 replace h:=h.facts
 refine wp_seq ?_
 refine rf_ h [[0],[1],[2]] [KE_ fun env=>vP (pb env 0) 0,KE_ fun env=>vP (pb env 1) 0,K_ bF] (fun E1=>[(1,vP (pb E1 0) 0),(2,vP (pb E1 1) 0),(3,bF)]) (W:=[{ i:=0,T:=39,c0:=[.bool (p),rS x A0 c0] },{ i:=1,T:=26,c0:=[vI 0,vI 0,vI 0] }]) (M':=fun E1=>[((pb E1 0),39,[.bool (p),rS x A0 c0]),((pb E1 1),26,[vI 0,vI 0,vI 0])]) (hs:=c_ (bx0 0 (.agg #[.bool (p),rS x A0 c0]))<|c_ (al_ 1)<|c_ mv_<|e_) (k:=fun E1 ac wd h_1=>?_)
 clear h
 refine then_n (wp_seq ?_)
 refine rf_ h_1 [[0],[1],[0,1,2],r_ 4,r_ 5,[0,1,2,3,5],[6],[7],[0,1,2,3,4,6,7,8],r_ 10] [K_ (.agg #[.bool (p),rS x A0 c0]),KE_ fun env=>bigF 1000000000000000000 (env 1),KE_ fun env=>vT2 (bigF (x / 1000000000000000000) (tp (env 2) 0)) (bigF (x % 1000000000000000000) (tp (env 2) 1)),KE_ fun env=>vT2 (bigF (x / 1000000000000000000) (tp (env 2) 0)) (bigF (x % 1000000000000000000) (tp (env 2) 1)),KE_ fun env=>bigF (x / 1000000000000000000) (tp (env 2) 0),KE_ fun env=>bigF (x % 1000000000000000000) (tp (env 2) 1),KE_ fun env=>vP (pb env 6) 0,KE_ fun env=>vP (pb env 7) 0,none,none] (fun E2=>[(2,vP (pb E1 1) 0),(3,bF),(4,vP (pb E2 6) 0),(5,vP (pb E2 7) 0)]) (W:=[{ i:=6,T:=39,c0:=[bF,.slice none 0 0],s:=some 8,c1:=fun env=>[.bool (decide (x / 1000000000000000000 < 0)),rS (x / 1000000000000000000) ((bA (tp (env 2) 0))) ((bC (tp (env 2) 0)))] },{ i:=7,T:=39,c0:=[bF,.slice none 0 0],s:=some 9,c1:=fun env=>[.bool (decide (x % 1000000000000000000 < 0)),rS (x % 1000000000000000000) ((bA (tp (env 2) 1))) ((bC (tp (env 2) 1)))] }]) (F:=[(1,fun env w=>BigN w0.heap.size w (env 1) 1000000000000000000),(2,fun env w=>DivX w (env 2) (x / 1000000000000000000) (x % 1000000000000000000))]) (L1:=fun E2=>[fun w=>BigN w0.heap.size w (E2 1) 1000000000000000000,fun w=>DivX w (E2 2) (x / 1000000000000000000) (x % 1000000000000000000)]) (M':=fun E2=>[((pb E1 0),39,[.bool (p),rS x A0 c0]),((pb E1 1),26,[vI 0,vI 0,vI 0]),((pb E2 6),39,[.bool (decide (x / 1000000000000000000 < 0)),rS (x / 1000000000000000000) ((bA (tp (E2 2) 0))) ((bC (tp (E2 2) 0)))]),((pb E2 7),39,[.bool (decide (x % 1000000000000000000 < 0)),rS (x % 1000000000000000000) ((bA (tp (E2 2) 1))) ((bC (tp (E2 2) 1)))])]) (hs:=c_ (ld_ 0 (hrd:=by exact rd39 rfl rfl))<|c_ (cb_ Tryz.func23 1000000000000000000 (h:=fun _ env _ wd hA=>⟨_,Int_any wd 1000000000000000000 (by omega) (by omega),rfl⟩))<|c_ (cf_ Tryz.func112 (fun v w=>DivX w v (x / 1000000000000000000) (x % 1000000000000000000)) (divF (x / 1000000000000000000) (x % 1000000000000000000)) (h:=fun _ env _ wd hA=>⟨_,toD (Div_any wd p A0 c0 x hp (hr.grown hA.j.st.gr) hx (decide (1000000000000000000 < 0)) (bA (env 1)) (bC (env 1)) 1000000000000000000 rfl (At.bigN hA 1 rfl rfl rfl) (by unfold Sm;omega) (by omega)),rfl⟩))<|c_ mv_<|c_ ext_<|c_ ext_<|c_ (al_ 2)<|c_ (al_ 3)<|c_ (sw_ 2 6 (hst:=by exact fun _ _ _ hc=>st39 rfl rfl rfl hc))<|c_ (sw_ 3 7 (hst:=by exact fun _ _ _ hc=>st39 rfl rfl rfl hc))<|e_) (k:=fun E2 ac wd h_2=>?_)
 clear h_1
 refine then_n (wp_seq ?_)
 refine rf_ h_2 [[0],[1],[0,1,2],r_ 4,r_ 5,[0,1,2,3,5],[6],[7],[0,1,2,3,4,6,7,8],r_ 10] [K_ (bigF (x / 1000000000000000000) (tp (E2 2) 0)),KE_ fun env=>bigF 86400 (env 1),KE_ fun env=>vT2 (bigF ((x / 1000000000000000000) / 86400) (tp (env 2) 0)) (bigF ((x / 1000000000000000000) % 86400) (tp (env 2) 1)),KE_ fun env=>vT2 (bigF ((x / 1000000000000000000) / 86400) (tp (env 2) 0)) (bigF ((x / 1000000000000000000) % 86400) (tp (env 2) 1)),KE_ fun env=>bigF ((x / 1000000000000000000) / 86400) (tp (env 2) 0),KE_ fun env=>bigF ((x / 1000000000000000000) % 86400) (tp (env 2) 1),KE_ fun env=>vP (pb env 6) 0,KE_ fun env=>vP (pb env 7) 0,none,none] (fun E3=>[(2,vP (pb E1 1) 0),(3,bF),(5,vP (pb E2 7) 0),(6,vP (pb E3 6) 0),(7,vP (pb E3 7) 0)]) (W:=[{ i:=6,T:=39,c0:=[bF,.slice none 0 0],s:=some 8,c1:=fun env=>[.bool (decide ((x / 1000000000000000000) / 86400 < 0)),rS ((x / 1000000000000000000) / 86400) ((bA (tp (env 2) 0))) ((bC (tp (env 2) 0)))] },{ i:=7,T:=39,c0:=[bF,.slice none 0 0],s:=some 9,c1:=fun env=>[.bool (decide ((x / 1000000000000000000) % 86400 < 0)),rS ((x / 1000000000000000000) % 86400) ((bA (tp (env 2) 1))) ((bC (tp (env 2) 1)))] }]) (F:=[(1,fun env w=>BigN w0.heap.size w (env 1) 86400),(2,fun env w=>DivX w (env 2) ((x / 1000000000000000000) / 86400) ((x / 1000000000000000000) % 86400))]) (L1:=fun E3=>[fun w=>BigN w0.heap.size w (E2 1) 1000000000000000000,fun w=>DivX w (E2 2) (x / 1000000000000000000) (x % 1000000000000000000),fun w=>BigN w0.heap.size w (E3 1) 86400,fun w=>DivX w (E3 2) ((x / 1000000000000000000) / 86400) ((x / 1000000000000000000) % 86400)]) (M':=fun E3=>[((pb E1 0),39,[.bool (p),rS x A0 c0]),((pb E1 1),26,[vI 0,vI 0,vI 0]),((pb E2 6),39,[.bool (decide (x / 1000000000000000000 < 0)),rS (x / 1000000000000000000) ((bA (tp (E2 2) 0))) ((bC (tp (E2 2) 0)))]),((pb E2 7),39,[.bool (decide (x % 1000000000000000000 < 0)),rS (x % 1000000000000000000) ((bA (tp (E2 2) 1))) ((bC (tp (E2 2) 1)))]),((pb E3 6),39,[.bool (decide ((x / 1000000000000000000) / 86400 < 0)),rS ((x / 1000000000000000000) / 86400) ((bA (tp (E3 2) 0))) ((bC (tp (E3 2) 0)))]),((pb E3 7),39,[.bool (decide ((x / 1000000000000000000) % 86400 < 0)),rS ((x / 1000000000000000000) % 86400) ((bA (tp (E3 2) 1))) ((bC (tp (E3 2) 1)))])]) (hs:=c_ (ld_ 2 (hrd:=by exact rd39 rfl rfl))<|c_ (cb_ Tryz.func23 86400 (h:=fun _ env _ wd hA=>⟨_,Int_any wd 86400 (by omega) (by omega),rfl⟩))<|c_ (cf_ Tryz.func112 (fun v w=>DivX w v ((x / 1000000000000000000) / 86400) ((x / 1000000000000000000) % 86400)) (divF ((x / 1000000000000000000) / 86400) ((x / 1000000000000000000) % 86400)) (h:=fun _ env _ wd hA=>⟨_,toD (Div_any wd (decide (x / 1000000000000000000 < 0)) (bA (tp (E2 2) 0)) (bC (tp (E2 2) 0)) (x / 1000000000000000000) rfl (Facts.div1 (hA.j.st.now).1 1 rfl) (by unfold Sm at *;omega) (decide (86400 < 0)) (bA (env 1)) (bC (env 1)) 86400 rfl (At.bigN hA 1 rfl rfl rfl) (by unfold Sm;omega) (by omega)),rfl⟩))<|c_ mv_<|c_ ext_<|c_ ext_<|c_ (al_ 4)<|c_ (al_ 5)<|c_ (sw_ 4 6 (hst:=by exact fun _ _ _ hc=>st39 rfl rfl rfl hc))<|c_ (sw_ 5 7 (hst:=by exact fun _ _ _ hc=>st39 rfl rfl rfl hc))<|e_) (k:=fun E3 ac wd h_3=>?_)
 clear h_2
 refine then_n (wp_seq ?_)
 refine rf_ h_3 [[0],[0,1],[0,1,2],r_ 4,[0,1,2,4],[0,1,2,3,5],r_ 7] [K_ (bigF ((x / 1000000000000000000) / 86400) (tp (E3 2) 0)),K_ (vT2 (vI ((x / 1000000000000000000 / 86400))) bT),K_ (vT2 (vI ((x / 1000000000000000000 / 86400))) bT),K_ (vI ((x / 1000000000000000000 / 86400))),K_ bT,K_ (vI ((x / 1000000000000000000 / 86400))),K_ bT] (fun E4=>[(2,vP (pb E1 1) 0),(3,bF),(5,vP (pb E2 7) 0),(7,vP (pb E3 7) 0),(8,vI ((x / 1000000000000000000 / 86400))),(9,bT)]) (hs:=c_ (ld_ 4 (hrd:=by exact rd39 rfl rfl))<|c_ (cw_ Tryz.func121 (h:=fun _ env _ wd hA=>⟨_,Small_yes wd (decide ((x / 1000000000000000000) / 86400 < 0)) (bA (tp (E3 2) 0)) (bC (tp (E3 2) 0)) (x / 1000000000000000000 / 86400) rfl (Facts.div1 (hA.j.st.now).1 3 rfl)  (by omega) (by omega),rfl⟩))<|c_ mv_<|c_ ext_<|c_ ext_<|c_ mv_<|c_ mv_<|e_) (k:=fun E4 ac wd h_4=>?_)
 clear h_3
 refine then_n (wp_seq (wp_seq ?_))
 refine rf_ h_4 (tri 7) [K_ bT,K_ bF,K_ bF,K_ (vI ((x / 1000000000000000000 / 86400))),K_ bF,K_ bT,K_ bT] (fun E5=>[(2,vP (pb E1 1) 0),(3,bF),(5,vP (pb E2 7) 0),(7,vP (pb E3 7) 0),(8,vI ((x / 1000000000000000000 / 86400))),(37,bT)]) (hs:=c_ mv_<|c_ (un0 bT)<|c_ mv_<|c_ (gm0 (vI ((x / 1000000000000000000 / 86400))))<|c_ (cl_ Tryz.func75 (h:=fun env=>⟨_,((In_any (x / 1000000000000000000 / 86400)).eq (congrArg Value.bool hin)),rfl⟩))<|c_ (un0 bF)<|c_ (pk0 bF bT bT)<|e_) (k:=fun E5 ac wd h_5=>?_)
 clear h_4
 refine then_n ?_
 refine wp_cond_true (eval_tmp (h_5.g (t:=37) rfl)) ?_
 refine wp_seq ?_
 refine rf_ h_5 (tri 3) [K_ (vL 0 0 0),none,K_ bF] (fun E6=>[(2,vP (pb E1 1) 0),(3,bF),(5,vP (pb E2 7) 0),(7,vP (pb E3 7) 0),(8,vI ((x / 1000000000000000000 / 86400)))]) (S:=[⟨1,1,fun _=>[vI 0,vI 0,vI 0]⟩]) (M':=fun E6=>[((pb E1 0),39,[.bool (p),rS x A0 c0]),((pb E1 1),26,[vI 0,vI 0,vI 0]),((pb E2 6),39,[.bool (decide (x / 1000000000000000000 < 0)),rS (x / 1000000000000000000) ((bA (tp (E2 2) 0))) ((bC (tp (E2 2) 0)))]),((pb E2 7),39,[.bool (decide (x % 1000000000000000000 < 0)),rS (x % 1000000000000000000) ((bA (tp (E2 2) 1))) ((bC (tp (E2 2) 1)))]),((pb E3 6),39,[.bool (decide ((x / 1000000000000000000) / 86400 < 0)),rS ((x / 1000000000000000000) / 86400) ((bA (tp (E3 2) 0))) ((bC (tp (E3 2) 0)))]),((pb E3 7),39,[.bool (decide ((x / 1000000000000000000) % 86400 < 0)),rS ((x / 1000000000000000000) % 86400) ((bA (tp (E3 2) 1))) ((bC (tp (E3 2) 1)))])]) (hs:=c_ (bd0 ([]))<|c_ (se_ 1 (hst:=by exact fun _ _ _ hc=>st26 rfl rfl rfl rfl hc))<|c_ mv_<|e_) (k:=fun E6 ac wd h_6=>?_)
 clear h_5
 refine then_n (wp_ret (then_ret ?_))
 have s2:=h_6.g (t:=2) rfl
 have hc2:=(h_6.st.own 1 _ rfl).2
 have c2_0:=own_cell (o:=0) hc2 rfl
 have c2_1:=own_cell (o:=1) hc2 rfl
 have c2_2:=own_cell (o:=2) hc2 rfl
 have s3:=h_6.g (t:=3) rfl
 refine leave (v:=vT2 (vL 0 0 0) (.bool false)) h_6.df (by simp [results,Tryz.results88,go_sem,Array.getD_eq_getD_getElem?,s2,c2_0,c2_1,c2_2,Tryz.underlying26,s3]) ?_
 exact ⟨rfl,h_6.st.below⟩
def enC (es:List (Int × Int)) (p:Nat):Value:=if p % 2=0 then vI (es.getD (p / 2) (0,0)).1 else vI (es.getD (p / 2) (0,0)).2
theorem enC_0 (es:List (Int × Int)) (j:Nat):enC es (j*2)=vI (es.getD j (0,0)).1:=by unfold enC;rw [if_pos (by omega),show j*2 / 2=j by omega]
theorem enC_1 (es:List (Int × Int)) (j:Nat):enC es (j*2+1)=vI (es.getD j (0,0)).2:=by unfold enC;rw [if_neg (by omega),show (j*2+1) / 2=j by omega]
theorem Ents.els {w:World} {B:Nat} {v:Value} {es:List (Int × Int)} (h:Ents w B v es):Els w v es.length 2 (enC es):=by
  obtain ⟨A,c,rfl,h1,h2,h3⟩:=h
  refine ⟨A,c,rfl,h1,?_⟩
  rcases Nat.eq_zero_or_pos es.length with h0 | h0
  · exact .inl h0
  · obtain ⟨b,off,hA,hb,hc⟩:=h3 h0
    refine .inr ⟨b,off,hA,fun i hi=>?_⟩
    have h5:=hc (i / 2) (by omega)
    rcases Nat.mod_two_eq_zero_or_one i with h6 | h6
    · rw [show off+i=off+i / 2*2 by omega,h5.1];unfold enC;rw [if_pos h6]
    · rw [show off+i=off+i / 2*2+1 by omega,h5.2];unfold enC;rw [if_neg (by omega)]
theorem u_start (es:List (Int × Int)) (i:Nat):vI (startOf ((es.getD i (0,0)).1,(es.getD i (0,0)).2))=vI (startOf (es.getD i (0,0))):=rfl
theorem u_day (es:List (Int × Int)) (i:Nat):vI (dayOf ((es.getD i (0,0)).1,(es.getD i (0,0)).2))=vI (dayOf (es.getD i (0,0))):=rfl
theorem u_cmp_le {x y:Int}:cmpZ x y≤0↔x≤y:=by unfold cmpZ;split <;> (try split) <;> omega
theorem u_cmp_lt {x y:Int}:cmpZ x y < 0↔x < y:=by unfold cmpZ;split <;> (try split) <;> omega
theorem u_cmp_ge {x y:Int}:0≤cmpZ x y↔y≤x:=by unfold cmpZ;split <;> (try split) <;> omega
theorem u_cmp_gt {x y:Int}:0 < cmpZ x y↔y < x:=by unfold cmpZ;split <;> (try split) <;> omega
theorem sm_w {z:Int} (h:InW z):Sm z:=by unfold InW at h;unfold Sm;omega
theorem lab4 {es:List (Int × Int)} {z e d c r:Int} (h:labUt es z=(e,d,c,r)):vT2 (vL d c r) (vI e)=vT2 (vL (labUt es z).2.1 (labUt es z).2.2.1 (labUt es z).2.2.2) (vI (labUt es z).1):=by rw [h]
theorem rLabel12_any (w0:World) (A0:Option Addr) (c0:Nat) (es:List (Int × Int)) (u x:Int) (hv:Ents w0 w0.heap.size (.slice A0 es.length c0) es) (hk:okPre es es.length=true) (hn0:0 < es.length) (p:Bool) (A1:Option Addr) (k1_:Nat) (z:Int) (hp:p=decide (z < 0)) (hr:Row w0 (.slice A1 (digs z).length k1_) (digs z)) (hz:InW z):Calls Tryz.prog 56 #[.agg #[vI u,vI x,.slice A0 es.length c0],.agg #[.bool (p),.slice A1 ((digs z).length) k1_]] w0 fun e w'=>e = .returned (vT2 (vL ((labUt es z).2.1) ((labUt es z).2.2.1) ((labUt es z).2.2.2)) (vI ((labUt es z).1)))∧Below w0.heap.size w0 w':=by
  have hlen:=okPre_len hk
  have hst:=St.start w0 (Θ:=fun _=>True) (fun _ _=>trivial)
  refine enter Tryz.func56 rfl (n:=87) rfl (Nat.le_of_ble_eq_true rfl) hst (L:=[(0,.agg #[vI u,vI x,.slice A0 es.length c0]),(1,.agg #[.bool (p),.slice A1 ((digs z).length) k1_])]) (lk_args rfl) (fun ac h=>?_)
  replace h:=h.facts
  refine wp_seq ?_
  refine rf_ h [[0],[1],[2],[3]] [KE_ fun env=>vP (pb env 0) 0,KE_ fun env=>vP (pb env 1) 0,KE_ fun env=>vP (pb env 2) 0,K_ (vI 0)] (fun E1=>[(2,vP (pb E1 0) 0),(3,vP (pb E1 1) 0),(4,vP (pb E1 2) 0),(5,vI 0)]) (W:=[{ i:=0,T:=24,c0:=[vI u,vI x,.slice A0 es.length c0] },{ i:=1,T:=39,c0:=[.bool (p),rS z A1 k1_] },{ i:=2,T:=26,c0:=[vI 0,vI 0,vI 0] }]) (M':=fun E1=>[((pb E1 0),24,[vI u,vI x,.slice A0 es.length c0]),((pb E1 1),39,[.bool (p),rS z A1 k1_]),((pb E1 2),26,[vI 0,vI 0,vI 0])]) (hs:=c_ (bx0 0 (.agg #[vI u,vI x,.slice A0 es.length c0]))<|c_ (bx0 1 (.agg #[.bool (p),rS z A1 k1_]))<|c_ (al_ 2)<|c_ mv_<|e_) (k:=fun E1 ac wd h_1=>?_)
  clear h
  refine then_n (wp_seq ?_)
  have hb0:=okPre_num hk (i:=0) (by omega);have hst0:=st_bd hk (i:=0) (by omega)
  refine rf_ h_1 [[0],[0,1],[0,1,2],r_ 4,r_ 5,r_ 6,r_ 7,[7],r_ 9] [K_ (vP (pb E1 0) 2),K_ (.slice A0 es.length c0),K_ (elt (.slice A0 es.length c0) (0*2)),K_ (.agg #[vI ((es.getD 0 (0,0)).1),vI ((es.getD 0 (0,0)).2)]),K_ (vI (startOf (es.getD 0 (0,0)))),K_ (vL 0 (startOf (es.getD 0 (0,0))) 0),KE_ fun env=>bigF (jn 0 (startOf (es.getD 0 (0,0))) 0) (env 6),KE_ fun env=>vP (pb env 7) 0,none] (fun E2=>[(2,vP (pb E1 0) 0),(3,vP (pb E1 1) 0),(4,vP (pb E1 2) 0),(5,vI 0),(6,vP (pb E2 7) 0)]) (W:=[{ i:=7,T:=39,c0:=[bF,.slice none 0 0],s:=some 8,c1:=fun env=>[.bool (decide (jn 0 (startOf (es.getD 0 (0,0))) 0 < 0)),rS (jn 0 (startOf (es.getD 0 (0,0))) 0) ((bA (env 6))) ((bC (env 6)))] }]) (F:=[(6,fun env w=>BigN w0.heap.size w (env 6) (jn 0 (startOf (es.getD 0 (0,0))) 0))]) (L1:=fun E2=>[fun w=>BigN w0.heap.size w (E2 6) (jn 0 (startOf (es.getD 0 (0,0))) 0)]) (M':=fun E2=>[((pb E1 0),24,[vI u,vI x,.slice A0 es.length c0]),((pb E1 1),39,[.bool (p),rS z A1 k1_]),((pb E1 2),26,[vI 0,vI 0,vI 0]),((pb E2 7),39,[.bool (decide (jn 0 (startOf (es.getD 0 (0,0))) 0 < 0)),rS (jn 0 (startOf (es.getD 0 (0,0))) 0) ((bA (E2 6))) ((bC (E2 6)))])]) (hs:=c_ (fa0 (vP (pb E1 0) 0))<|c_ (ld_ 0 (hrd:=by exact rd22 rfl))<|c_ (ia_ Tryz.underlying22 sz70 0 (0*2) 0 (fun _ env _ wd hA=>(hv.gn hA.j.st.gr).els) (rfl) (by omega) rfl)<|c_ (le_ (0*2) (fun _ env _ wd hA=>(hv.gn hA.j.st.gr).els) (by omega) (le70 (by exact enC_0 es 0) (by exact enC_1 es 0)))<|c_ (cl_ Tryz.func87 (h:=fun env=>⟨_,(Ret.eq (rstart_any ((es.getD 0 (0,0)).1) ((es.getD 0 (0,0)).2) hb0.1 hb0.2.1 hb0.2.2.1 hb0.2.2.2.1) (u_start es 0)),rfl⟩))<|c_ (bd0 ([vI (startOf (es.getD 0 (0,0)))]))<|c_ (cb_ Tryz.func78 (jn 0 (startOf (es.getD 0 (0,0))) 0) (h:=fun _ env _ wd hA=>⟨_,Join_any wd 0 (startOf (es.getD 0 (0,0))) 0 (by omega) (by omega) (by omega) (by omega) (by omega) (by omega),rfl⟩))<|c_ (al_ 3)<|c_ (sw_ 3 7 (hst:=by exact fun _ _ _ hc=>st39 rfl rfl rfl hc))<|e_) (k:=fun E2 ac wd h_2=>?_)
  clear h_1
  refine then_n (wp_seq (wp_seq ?_))
  by_cases hE:z < jn 0 (startOf (es.getD 0 (0,0))) 0
  refine rf_ h_2 [[0],[1],[0,1,2],r_ 4] [K_ (.agg #[.bool (p),rS z A1 k1_]),K_ (bigF (jn 0 (startOf (es.getD 0 (0,0))) 0) (E2 6)),K_ (vI (cmpZ z (jn 0 (startOf (es.getD 0 (0,0))) 0))),K_ bT] (fun E3=>[(2,vP (pb E1 0) 0),(3,vP (pb E1 1) 0),(4,vP (pb E1 2) 0),(5,vI 0),(21,bT)]) (hs:=c_ (ld_ 1 (hrd:=by exact rd39 rfl rfl))<|c_ (ld_ 3 (hrd:=by exact rd39 rfl rfl))<|c_ (cw_ Tryz.func50 (h:=fun _ env _ wd hA=>⟨_,Cmp_any wd p A1 k1_ z hp (hr.grown hA.j.st.gr)  (decide (jn 0 (startOf (es.getD 0 (0,0))) 0 < 0)) (bA (E2 6)) (bC (E2 6)) (jn 0 (startOf (es.getD 0 (0,0))) 0) rfl (Facts.bigN (hA.j.st.now).1 0 rfl) ,rfl⟩))<|c_ (bi0 (vI (cmpZ z (jn 0 (startOf (es.getD 0 (0,0))) 0))) (vI 0) (h:=by intro env w;(first | (simp [go_sem,u_cmp_le,u_cmp_lt,u_cmp_ge,u_cmp_gt,hE];done) | (simp [go_sem,u_cmp_le,u_cmp_lt,u_cmp_ge,u_cmp_gt];simp only [List.getD_eq_getElem?_getD] at *;omega))))<|e_) (k:=fun E3 ac wd h_3=>?_)
  clear h_2
  refine then_n ?_
  refine wp_cond_true (eval_tmp (h_3.g (t:=21) rfl)) ?_
  refine wp_seq ?_
  refine rf_ h_3 (tri 3) [K_ (vL 0 0 0),none,K_ (vI 8)] (fun E4=>[(2,vP (pb E1 0) 0),(3,vP (pb E1 1) 0),(4,vP (pb E1 2) 0),(5,vI 8)]) (S:=[⟨2,1,fun _=>[vI 0,vI 0,vI 0]⟩]) (M':=fun E4=>[((pb E1 0),24,[vI u,vI x,.slice A0 es.length c0]),((pb E1 1),39,[.bool (p),rS z A1 k1_]),((pb E1 2),26,[vI 0,vI 0,vI 0]),((pb E2 7),39,[.bool (decide (jn 0 (startOf (es.getD 0 (0,0))) 0 < 0)),rS (jn 0 (startOf (es.getD 0 (0,0))) 0) ((bA (E2 6))) ((bC (E2 6)))])]) (hs:=c_ (bd0 ([]))<|c_ (se_ 2 (hst:=by exact fun _ _ _ hc=>st26 rfl rfl rfl rfl hc))<|c_ mv_<|e_) (k:=fun E4 ac wd h_4=>?_)
  clear h_3
  refine then_n (wp_ret (then_ret ?_))
  have s4:=h_4.g (t:=4) rfl
  have hc4:=(h_4.st.own 2 _ rfl).2
  have c4_0:=own_cell (o:=0) hc4 rfl
  have c4_1:=own_cell (o:=1) hc4 rfl
  have c4_2:=own_cell (o:=2) hc4 rfl
  have s5:=h_4.g (t:=5) rfl
  refine leave (v:=vT2 (vL 0 0 0) (vI 8)) h_4.df (by simp [results,Tryz.results56,go_sem,Array.getD_eq_getD_getElem?,s4,c4_0,c4_1,c4_2,Tryz.underlying26,s5]) ?_
  have e4:=lab4 (rl_early hk hn0 hE)
  exact ⟨by rw [e4],h_4.st.below⟩
  refine rf_ h_2 [[0],[1],[0,1,2],r_ 4] [K_ (.agg #[.bool (p),rS z A1 k1_]),K_ (bigF (jn 0 (startOf (es.getD 0 (0,0))) 0) (E2 6)),K_ (vI (cmpZ z (jn 0 (startOf (es.getD 0 (0,0))) 0))),K_ bF] (fun E3=>[(2,vP (pb E1 0) 0),(3,vP (pb E1 1) 0),(4,vP (pb E1 2) 0),(5,vI 0),(21,bF)]) (hs:=c_ (ld_ 1 (hrd:=by exact rd39 rfl rfl))<|c_ (ld_ 3 (hrd:=by exact rd39 rfl rfl))<|c_ (cw_ Tryz.func50 (h:=fun _ env _ wd hA=>⟨_,Cmp_any wd p A1 k1_ z hp (hr.grown hA.j.st.gr)  (decide (jn 0 (startOf (es.getD 0 (0,0))) 0 < 0)) (bA (E2 6)) (bC (E2 6)) (jn 0 (startOf (es.getD 0 (0,0))) 0) rfl (Facts.bigN (hA.j.st.now).1 0 rfl) ,rfl⟩))<|c_ (bi0 (vI (cmpZ z (jn 0 (startOf (es.getD 0 (0,0))) 0))) (vI 0) (h:=by intro env w;(first | (simp [go_sem,u_cmp_le,u_cmp_lt,u_cmp_ge,u_cmp_gt,hE];done) | (simp [go_sem,u_cmp_le,u_cmp_lt,u_cmp_ge,u_cmp_gt];simp only [List.getD_eq_getElem?_getD] at *;omega))))<|e_) (k:=fun E3 ac wd h_3=>?_)
  clear h_2
  refine then_n ?_
  refine wp_cond_false (eval_tmp (h_3.g (t:=21) rfl)) ?_
  refine wp_skip (then_n (wp_seq ?_))
  refine rf_ h_3 [[0]] [K_ (vI 0)] (fun E4=>[(2,vP (pb E1 0) 0),(3,vP (pb E1 1) 0),(4,vP (pb E1 2) 0),(5,vI 0),(7,vI 0)]) (hs:=c_ mv_<|e_) (k:=fun E4 ac wd h_4=>?_)
  clear h_3
  refine then_n (wp_seq (wp_seq ?_))
  refine rf_ h_4 [[0]] [K_ (vI 0)] (fun E5=>[(2,vP (pb E1 0) 0),(3,vP (pb E1 1) 0),(4,vP (pb E1 2) 0),(5,vI 0),(7,vI 0),(8,vI 0)]) (hs:=c_ mv_<|e_) (k:=fun E5 ac wd h_5=>?_)
  clear h_4
  refine then_n (wp_block ?_)
  refine wp_loop (fun ac wd=>∃ i:Nat,i≤es.length∧Cur 87 w0 none none (Facts []) (fun _=>True) [(2,vP (pb E1 0) 0),(3,vP (pb E1 1) 0),(4,vP (pb E1 2) 0),(5,vI 0),(7,vN (kL es z i)),(8,vN i)] [((pb E1 0),24,[vI u,vI x,.slice A0 es.length c0]),((pb E1 1),39,[.bool (p),rS z A1 k1_]),((pb E1 2),26,[vI 0,vI 0,vI 0]),((pb E2 7),39,[.bool (decide (jn 0 (startOf (es.getD 0 (0,0))) 0 < 0)),rS (jn 0 (startOf (es.getD 0 (0,0))) 0) ((bA (E2 6))) ((bC (E2 6)))])] ac wd) (fun ac _=>((es.length:Int)-sI ac 8).toNat) ⟨0,by omega,(h_5.sel [] rfl).re rfl⟩ ?_
  rintro ac wd ⟨i,hi1,h_6⟩
  clear h_5
  have hmu:sI ac 8=((i:Nat):Int):=sI_eq (h_6.g (t:=8) rfl)
  refine wp_seq (wp_seq ?_)
  by_cases h1:i < es.length
  have hb:=okPre_num hk (i:=i) (by omega);have hst:=st_bd hk (i:=i) (by omega)
  refine rf_ h_6 [[0],[1],[1,2],[1,2,3],r_ 5] [K_ (vN i),K_ (vP (pb E1 0) 2),K_ (.slice A0 es.length c0),K_ (vN es.length),K_ bT] (fun E7=>[(2,vP (pb E1 0) 0),(3,vP (pb E1 1) 0),(4,vP (pb E1 2) 0),(5,vI 0),(7,vN (kL es z i)),(8,vN i),(23,vN i),(24,vP (pb E1 0) 2),(25,.slice A0 es.length c0),(26,vN es.length),(27,bT)]) (hs:=c_ mv_<|c_ (fa0 (vP (pb E1 0) 0))<|c_ (ld_ 0 (hrd:=by exact rd22 rfl))<|c_ (ln_ Tryz.underlying22 fun _ env _ wd hA=>(hv.gn hA.j.st.gr).els)<|c_ (bi0 (vN i) (vN es.length))<|e_) (k:=fun E7 ac wd h_7=>?_)
  clear h_6
  refine then_n ?_
  refine wp_cond_true (eval_tmp (h_7.g (t:=27) rfl)) ?_
  refine wp_skip (then_n (wp_seq (wp_block (wp_seq ?_))))
  by_cases hc:jn 0 (startOf (es.getD i (0,0))) 0≤z
  refine rf_ h_7 [[0],[0,1],[2],r_ 4,r_ 5,r_ 6,r_ 7,r_ 8,[8],r_ 10,r_ 11] [K_ (vP (pb E1 0) 2),K_ (.slice A0 es.length c0),K_ (vN i),K_ (elt (.slice A0 es.length c0) (i*2)),K_ (.agg #[vI ((es.getD i (0,0)).1),vI ((es.getD i (0,0)).2)]),K_ (vI (startOf (es.getD i (0,0)))),K_ (vL 0 (startOf (es.getD i (0,0))) 0),KE_ fun env=>bigF (jn 0 (startOf (es.getD i (0,0))) 0) (env 7),K_ (.agg #[.bool (p),rS z A1 k1_]),K_ (vI (cmpZ (jn 0 (startOf (es.getD i (0,0))) 0) z)),K_ bT] (fun E8=>[(2,vP (pb E1 0) 0),(3,vP (pb E1 1) 0),(4,vP (pb E1 2) 0),(5,vI 0),(7,vN (kL es z i)),(8,vN i),(23,vN i),(24,vP (pb E1 0) 2),(25,.slice A0 es.length c0),(26,vN es.length),(27,bT),(30,vP (pb E1 0) 2),(31,.slice A0 es.length c0),(32,vN i),(33,elt (.slice A0 es.length c0) (i*2)),(34,.agg #[vI ((es.getD i (0,0)).1),vI ((es.getD i (0,0)).2)]),(35,vI (startOf (es.getD i (0,0)))),(36,vL 0 (startOf (es.getD i (0,0))) 0),(37,bigF (jn 0 (startOf (es.getD i (0,0))) 0) (E8 7)),(38,.agg #[.bool (p),rS z A1 k1_]),(39,vI (cmpZ (jn 0 (startOf (es.getD i (0,0))) 0) z)),(40,bT)]) (F:=[(7,fun env w=>BigN w0.heap.size w (env 7) (jn 0 (startOf (es.getD i (0,0))) 0))]) (L1:=fun E8=>[fun w=>BigN w0.heap.size w (E8 7) (jn 0 (startOf (es.getD i (0,0))) 0)]) (hs:=c_ (fa0 (vP (pb E1 0) 0))<|c_ (ld_ 0 (hrd:=by exact rd22 rfl))<|c_ mv_<|c_ (ia_ Tryz.underlying22 sz70 i (i*2) ((i:Nat):Int) (fun _ env _ wd hA=>(hv.gn hA.j.st.gr).els) (rfl) (by omega) rfl)<|c_ (le_ (i*2) (fun _ env _ wd hA=>(hv.gn hA.j.st.gr).els) (by omega) (le70 (by exact enC_0 es i) (by exact enC_1 es i)))<|c_ (cl_ Tryz.func87 (h:=fun env=>⟨_,(Ret.eq (rstart_any ((es.getD i (0,0)).1) ((es.getD i (0,0)).2) hb.1 hb.2.1 hb.2.2.1 hb.2.2.2.1) (u_start es i)),rfl⟩))<|c_ (bd0 ([vI (startOf (es.getD i (0,0)))]))<|c_ (cb_ Tryz.func78 (jn 0 (startOf (es.getD i (0,0))) 0) (h:=fun _ env _ wd hA=>⟨_,Join_any wd 0 (startOf (es.getD i (0,0))) 0 (by omega) (by omega) (by omega) (by omega) (by omega) (by omega),rfl⟩))<|c_ (ld_ 1 (hrd:=by exact rd39 rfl rfl))<|c_ (cw_ Tryz.func50 (h:=fun _ env _ wd hA=>⟨_,Cmp_any wd (decide (jn 0 (startOf (es.getD i (0,0))) 0 < 0)) (bA (env 7)) (bC (env 7)) (jn 0 (startOf (es.getD i (0,0))) 0) rfl (At.bigN hA 7 rfl rfl rfl)  p A1 k1_ z hp (hr.grown hA.j.st.gr) ,rfl⟩))<|c_ (bi0 (vI (cmpZ (jn 0 (startOf (es.getD i (0,0))) 0) z)) (vI 0) (h:=by intro env w;(first | (simp [go_sem,u_cmp_le,u_cmp_lt,u_cmp_ge,u_cmp_gt,hc];done) | (simp [go_sem,u_cmp_le,u_cmp_lt,u_cmp_ge,u_cmp_gt];simp only [List.getD_eq_getElem?_getD] at *;omega))))<|e_) (k:=fun E8 ac wd h_8=>?_)
  clear h_7
  refine then_n ?_
  refine wp_cond_true (eval_tmp (h_8.g (t:=40) rfl)) ?_
  refine rf_ h_8 [[0],[0,1]] [K_ (vN i),K_ (vN i)] (fun E9=>[(2,vP (pb E1 0) 0),(3,vP (pb E1 1) 0),(4,vP (pb E1 2) 0),(5,vI 0),(7,vN i),(8,vN i),(23,vN i),(24,vP (pb E1 0) 2),(25,.slice A0 es.length c0),(26,vN es.length),(27,bT),(30,vP (pb E1 0) 2),(31,.slice A0 es.length c0),(32,vN i),(33,elt (.slice A0 es.length c0) (i*2)),(34,.agg #[vI ((es.getD i (0,0)).1),vI ((es.getD i (0,0)).2)]),(35,vI (startOf (es.getD i (0,0)))),(36,vL 0 (startOf (es.getD i (0,0))) 0),(37,bigF (jn 0 (startOf (es.getD i (0,0))) 0) (E8 7)),(38,.agg #[.bool (p),rS z A1 k1_]),(39,vI (cmpZ (jn 0 (startOf (es.getD i (0,0))) 0) z)),(40,bT),(41,vN i)]) (hs:=c_ mv_<|c_ mv_<|e_) (k:=fun E9 ac wd h_9=>?_)
  clear h_8
  refine blk_n (then_n ?_)
  refine rf_ h_9 (tri 3) [K_ (vN i),K_ (vI (((i:Nat):Int)+1)),K_ (vI (((i:Nat):Int)+1))] (fun E10=>[(2,vP (pb E1 0) 0),(3,vP (pb E1 1) 0),(4,vP (pb E1 2) 0),(5,vI 0),(7,vN i),(8,vI (((i:Nat):Int)+1)),(23,vN i),(24,vP (pb E1 0) 2),(25,.slice A0 es.length c0),(26,vN es.length),(27,bT),(28,vN i),(29,vI (((i:Nat):Int)+1)),(30,vP (pb E1 0) 2),(31,.slice A0 es.length c0),(32,vN i),(33,elt (.slice A0 es.length c0) (i*2)),(34,.agg #[vI ((es.getD i (0,0)).1),vI ((es.getD i (0,0)).2)]),(35,vI (startOf (es.getD i (0,0)))),(36,vL 0 (startOf (es.getD i (0,0))) 0),(37,bigF (jn 0 (startOf (es.getD i (0,0))) 0) (E8 7)),(38,.agg #[.bool (p),rS z A1 k1_]),(39,vI (cmpZ (jn 0 (startOf (es.getD i (0,0))) 0) z)),(40,bT),(41,vN i)]) (hs:=c_ mv_<|c_ (bi0 (vN i) (vI 1))<|c_ mv_<|e_) (k:=fun E10 ac wd h_10=>?_)
  clear h_9
  refine then_n ?_
  have hk2:kL es z (i+1)=i:=by simp only [kL];rw [if_pos hc]
  refine ⟨⟨i+1,by omega,?_⟩,by rw [sI_eq (h_10.g (t:=8) rfl),hmu];omega⟩
  rw [hk2];exact (h_10.sel [] rfl).re rfl
  refine rf_ h_7 [[0],[0,1],[2],r_ 4,r_ 5,r_ 6,r_ 7,r_ 8,[8],r_ 10,r_ 11] [K_ (vP (pb E1 0) 2),K_ (.slice A0 es.length c0),K_ (vN i),K_ (elt (.slice A0 es.length c0) (i*2)),K_ (.agg #[vI ((es.getD i (0,0)).1),vI ((es.getD i (0,0)).2)]),K_ (vI (startOf (es.getD i (0,0)))),K_ (vL 0 (startOf (es.getD i (0,0))) 0),KE_ fun env=>bigF (jn 0 (startOf (es.getD i (0,0))) 0) (env 7),K_ (.agg #[.bool (p),rS z A1 k1_]),K_ (vI (cmpZ (jn 0 (startOf (es.getD i (0,0))) 0) z)),K_ bF] (fun E8=>[(2,vP (pb E1 0) 0),(3,vP (pb E1 1) 0),(4,vP (pb E1 2) 0),(5,vI 0),(7,vN (kL es z i)),(8,vN i),(23,vN i),(24,vP (pb E1 0) 2),(25,.slice A0 es.length c0),(26,vN es.length),(27,bT),(30,vP (pb E1 0) 2),(31,.slice A0 es.length c0),(32,vN i),(33,elt (.slice A0 es.length c0) (i*2)),(34,.agg #[vI ((es.getD i (0,0)).1),vI ((es.getD i (0,0)).2)]),(35,vI (startOf (es.getD i (0,0)))),(36,vL 0 (startOf (es.getD i (0,0))) 0),(37,bigF (jn 0 (startOf (es.getD i (0,0))) 0) (E8 7)),(38,.agg #[.bool (p),rS z A1 k1_]),(39,vI (cmpZ (jn 0 (startOf (es.getD i (0,0))) 0) z)),(40,bF)]) (F:=[(7,fun env w=>BigN w0.heap.size w (env 7) (jn 0 (startOf (es.getD i (0,0))) 0))]) (L1:=fun E8=>[fun w=>BigN w0.heap.size w (E8 7) (jn 0 (startOf (es.getD i (0,0))) 0)]) (hs:=c_ (fa0 (vP (pb E1 0) 0))<|c_ (ld_ 0 (hrd:=by exact rd22 rfl))<|c_ mv_<|c_ (ia_ Tryz.underlying22 sz70 i (i*2) ((i:Nat):Int) (fun _ env _ wd hA=>(hv.gn hA.j.st.gr).els) (rfl) (by omega) rfl)<|c_ (le_ (i*2) (fun _ env _ wd hA=>(hv.gn hA.j.st.gr).els) (by omega) (le70 (by exact enC_0 es i) (by exact enC_1 es i)))<|c_ (cl_ Tryz.func87 (h:=fun env=>⟨_,(Ret.eq (rstart_any ((es.getD i (0,0)).1) ((es.getD i (0,0)).2) hb.1 hb.2.1 hb.2.2.1 hb.2.2.2.1) (u_start es i)),rfl⟩))<|c_ (bd0 ([vI (startOf (es.getD i (0,0)))]))<|c_ (cb_ Tryz.func78 (jn 0 (startOf (es.getD i (0,0))) 0) (h:=fun _ env _ wd hA=>⟨_,Join_any wd 0 (startOf (es.getD i (0,0))) 0 (by omega) (by omega) (by omega) (by omega) (by omega) (by omega),rfl⟩))<|c_ (ld_ 1 (hrd:=by exact rd39 rfl rfl))<|c_ (cw_ Tryz.func50 (h:=fun _ env _ wd hA=>⟨_,Cmp_any wd (decide (jn 0 (startOf (es.getD i (0,0))) 0 < 0)) (bA (env 7)) (bC (env 7)) (jn 0 (startOf (es.getD i (0,0))) 0) rfl (At.bigN hA 7 rfl rfl rfl)  p A1 k1_ z hp (hr.grown hA.j.st.gr) ,rfl⟩))<|c_ (bi0 (vI (cmpZ (jn 0 (startOf (es.getD i (0,0))) 0) z)) (vI 0) (h:=by intro env w;(first | (simp [go_sem,u_cmp_le,u_cmp_lt,u_cmp_ge,u_cmp_gt,hc];done) | (simp [go_sem,u_cmp_le,u_cmp_lt,u_cmp_ge,u_cmp_gt];simp only [List.getD_eq_getElem?_getD] at *;omega))))<|e_) (k:=fun E8 ac wd h_8=>?_)
  clear h_7
  refine then_n ?_
  refine wp_cond_false (eval_tmp (h_8.g (t:=40) rfl)) ?_
  refine wp_skip (blk_n (then_n ?_))
  refine rf_ h_8 (tri 3) [K_ (vN i),K_ (vI (((i:Nat):Int)+1)),K_ (vI (((i:Nat):Int)+1))] (fun E9=>[(2,vP (pb E1 0) 0),(3,vP (pb E1 1) 0),(4,vP (pb E1 2) 0),(5,vI 0),(7,vN (kL es z i)),(8,vI (((i:Nat):Int)+1)),(23,vN i),(24,vP (pb E1 0) 2),(25,.slice A0 es.length c0),(26,vN es.length),(27,bT),(28,vN i),(29,vI (((i:Nat):Int)+1)),(30,vP (pb E1 0) 2),(31,.slice A0 es.length c0),(32,vN i),(33,elt (.slice A0 es.length c0) (i*2)),(34,.agg #[vI ((es.getD i (0,0)).1),vI ((es.getD i (0,0)).2)]),(35,vI (startOf (es.getD i (0,0)))),(36,vL 0 (startOf (es.getD i (0,0))) 0),(37,bigF (jn 0 (startOf (es.getD i (0,0))) 0) (E8 7)),(38,.agg #[.bool (p),rS z A1 k1_]),(39,vI (cmpZ (jn 0 (startOf (es.getD i (0,0))) 0) z)),(40,bF)]) (hs:=c_ mv_<|c_ (bi0 (vN i) (vI 1))<|c_ mv_<|e_) (k:=fun E9 ac wd h_9=>?_)
  clear h_8
  refine then_n ?_
  have hk2:kL es z (i+1)=kL es z i:=by simp only [kL];rw [if_neg hc]
  refine ⟨⟨i+1,by omega,?_⟩,by rw [sI_eq (h_9.g (t:=8) rfl),hmu];omega⟩
  rw [hk2];exact (h_9.sel [] rfl).re rfl
  obtain rfl:i=es.length:=by omega
  refine rf_ h_6 [[0],[1],[1,2],[1,2,3],r_ 5] [K_ (vN es.length),K_ (vP (pb E1 0) 2),K_ (.slice A0 es.length c0),K_ (vN es.length),K_ bF] (fun E7=>[(2,vP (pb E1 0) 0),(3,vP (pb E1 1) 0),(4,vP (pb E1 2) 0),(5,vI 0),(7,vN (kL es z es.length)),(8,vN es.length),(23,vN es.length),(24,vP (pb E1 0) 2),(25,.slice A0 es.length c0),(26,vN es.length),(27,bF)]) (hs:=c_ mv_<|c_ (fa0 (vP (pb E1 0) 0))<|c_ (ld_ 0 (hrd:=by exact rd22 rfl))<|c_ (ln_ Tryz.underlying22 fun _ env _ wd hA=>(hv.gn hA.j.st.gr).els)<|c_ (bi0 (vN es.length) (vN es.length))<|e_) (k:=fun E7 ac wd h_7=>?_)
  clear h_6
  refine then_n ?_
  refine wp_cond_false (eval_tmp (h_7.g (t:=27) rfl)) ?_
  refine wp_exit (then_e (then_e (blk_x (then_n (wp_seq ?_)))))
  obtain ⟨k1,k2⟩:=kL_end hk hn0 hE
  obtain ⟨k,hkk⟩:∃ k,k=kL es z es.length:=⟨_,rfl⟩
  rw [← hkk] at k1 k2 h_7
  have hbk:=okPre_num hk (i:=k) k1
  obtain ⟨o,ho⟩:∃ o,(es.getD k (0,0)).2=o:=⟨_,rfl⟩
  rw [ho] at hbk
  have hsz:=sm_w hz
  have hsj:Sm (jn 0 o 0):=by unfold jn Sm;omega
  have hsn:Sm (z-jn 0 o 0):=by unfold jn;unfold InW at hz;unfold Sm;omega
  have hrk:=rl_k hk hz k1 k2 ho rfl rfl rfl
  have hq0:-9223372036854775808≤(z-jn 0 o 0) / 1000000000000000000 / 86400:=by unfold jn;unfold InW at hz;omega
  have hq1:(z-jn 0 o 0) / 1000000000000000000 / 86400 < 9223372036854775808:=by unfold jn;unfold InW at hz;omega
  have hc0:0≤(z-jn 0 o 0) / 1000000000000000000 % 86400:=by omega
  have hc1:(z-jn 0 o 0) / 1000000000000000000 % 86400 < 86400:=by omega
  refine rf_ h_7 [[0],[1],[1,2],[3],[1,2,3,4],[1,2,3,4,5],[1,2,3,4,5,6],[1,2,3,4,5,6,7],[1,2,3,4,5,6,7,8],r_ 10,r_ 11] [K_ (.agg #[.bool (p),rS z A1 k1_]),K_ (vP (pb E1 0) 2),K_ (.slice A0 es.length c0),K_ (vN k),K_ (elt (.slice A0 es.length c0) (k*2)),K_ (elt (.slice A0 es.length c0) (k*2+1)),K_ (vI o),K_ (vL 0 o 0),KE_ fun env=>bigF (jn 0 o 0) (env 8),KE_ fun env=>bigF (z-jn 0 o 0) (env 9),none] (fun E8=>[(2,vP (pb E1 0) 0),(3,vP (pb E1 1) 0),(4,vP (pb E1 2) 0),(5,vI 0),(7,vN k)]) (S:=[⟨1,10,fun env=>[.bool (decide (z-jn 0 o 0 < 0)),rS (z-jn 0 o 0) ((bA (env 9))) ((bC (env 9)))]⟩]) (F:=[(8,fun env w=>BigN w0.heap.size w (env 8) (jn 0 o 0)),(9,fun env w=>BigN w0.heap.size w (env 9) (z-jn 0 o 0))]) (L1:=fun E8=>[fun w=>BigN w0.heap.size w (E8 8) (jn 0 o 0),fun w=>BigN w0.heap.size w (E8 9) (z-jn 0 o 0)]) (M':=fun E8=>[((pb E1 0),24,[vI u,vI x,.slice A0 es.length c0]),((pb E1 1),39,[.bool (decide (z-jn 0 o 0 < 0)),rS (z-jn 0 o 0) ((bA (E8 9))) ((bC (E8 9)))]),((pb E1 2),26,[vI 0,vI 0,vI 0]),((pb E2 7),39,[.bool (decide (jn 0 (startOf (es.getD 0 (0,0))) 0 < 0)),rS (jn 0 (startOf (es.getD 0 (0,0))) 0) ((bA (E2 6))) ((bC (E2 6)))])]) (hs:=c_ (ld_ 1 (hrd:=by exact rd39 rfl rfl))<|c_ (fa0 (vP (pb E1 0) 0))<|c_ (ld_ 0 (hrd:=by exact rd22 rfl))<|c_ mv_<|c_ (ia_ Tryz.underlying22 sz70 k (k*2) ((k:Nat):Int) (fun _ env _ wd hA=>(hv.gn hA.j.st.gr).els) (rfl) (by omega) rfl)<|c_ (s_fa rfl rfl rfl (fun _=>wanted_none rfl _) (k*2) 1 (k*2+1) rfl (s:=fun _=>.slice A0 es.length c0) rfl (fun _=>rfl) (fun {D env ac wd} hA=>(hv.gn hA.j.st.gr).els) (by omega) (fun b q w=>by simp [go_sem,Tryz.underlying70]))<|c_ (le_ (k*2+1) (fun _ env _ wd hA=>(hv.gn hA.j.st.gr).els) (by omega) (le3 ((enC_1 es k).trans (congrArg vI ho))))<|c_ (bd0 ([vI o]))<|c_ (cb_ Tryz.func78 (jn 0 o 0) (h:=fun _ env _ wd hA=>⟨_,Join_any wd 0 o 0 (by omega) (by omega) (by omega) (by omega) (by omega) (by omega),rfl⟩))<|c_ (cb_ Tryz.func22 (z-jn 0 o 0) (h:=fun _ env _ wd hA=>⟨_,Sub_any wd p A1 k1_ z hp (hr.grown hA.j.st.gr) hsz (decide (jn 0 o 0 < 0)) (bA (env 8)) (bC (env 8)) (jn 0 o 0) rfl (At.bigN hA 8 rfl rfl rfl) hsj,rfl⟩))<|c_ (se_ 1 (hst:=by exact fun _ _ _ hc=>st39 rfl rfl rfl hc))<|e_) (k:=fun E8 ac wd h_8=>?_)
  clear h_7
  refine then_n (wp_seq ?_)
  by_cases hno:-1099511627776≤(z-jn 0 o 0) / 1000000000000000000 / 86400∧(z-jn 0 o 0) / 1000000000000000000 / 86400≤1099511627776
  obtain ⟨p0,p1⟩:=hno
  refine rf_ h_8 [[0],[0,1],[0,1,2],r_ 4,[0,1,2,4],[5],[0,1,2,3,5,6],r_ 8] [K_ (bigF (z-jn 0 o 0) (E8 9)),K_ (vT2 (vL ((z-jn 0 o 0) / 1000000000000000000 / 86400) ((z-jn 0 o 0) / 1000000000000000000 % 86400) ((z-jn 0 o 0) % 1000000000000000000)) bT),K_ (vT2 (vL ((z-jn 0 o 0) / 1000000000000000000 / 86400) ((z-jn 0 o 0) / 1000000000000000000 % 86400) ((z-jn 0 o 0) % 1000000000000000000)) bT),K_ (vL ((z-jn 0 o 0) / 1000000000000000000 / 86400) ((z-jn 0 o 0) / 1000000000000000000 % 86400) ((z-jn 0 o 0) % 1000000000000000000)),K_ bT,KE_ fun env=>vP (pb env 5) 0,none,K_ bT] (fun E9=>[(2,vP (pb E1 0) 0),(4,vP (pb E1 2) 0),(5,vI 0),(7,vN k),(9,vP (pb E9 5) 0),(10,bT)]) (W:=[{ i:=5,T:=26,c0:=[vI 0,vI 0,vI 0],s:=some 6,c1:=fun _=>[vI ((z-jn 0 o 0) / 1000000000000000000 / 86400),vI ((z-jn 0 o 0) / 1000000000000000000 % 86400),vI ((z-jn 0 o 0) % 1000000000000000000)] }]) (M':=fun E9=>[((pb E1 0),24,[vI u,vI x,.slice A0 es.length c0]),((pb E1 1),39,[.bool (decide (z-jn 0 o 0 < 0)),rS (z-jn 0 o 0) ((bA (E8 9))) ((bC (E8 9)))]),((pb E1 2),26,[vI 0,vI 0,vI 0]),((pb E2 7),39,[.bool (decide (jn 0 (startOf (es.getD 0 (0,0))) 0 < 0)),rS (jn 0 (startOf (es.getD 0 (0,0))) 0) ((bA (E2 6))) ((bC (E2 6)))]),((pb E9 5),26,[vI ((z-jn 0 o 0) / 1000000000000000000 / 86400),vI ((z-jn 0 o 0) / 1000000000000000000 % 86400),vI ((z-jn 0 o 0) % 1000000000000000000)])]) (hs:=c_ (ld_ 1 (hrd:=by exact rd39 rfl rfl))<|c_ (cw_ Tryz.func88 (h:=fun _ env _ wd hA=>⟨_,Split_yes wd (decide (z-jn 0 o 0 < 0)) (bA (E8 9)) (bC (E8 9)) (z-jn 0 o 0) rfl (Facts.bigN (hA.j.st.now).1 1 rfl) hsn p0 p1,rfl⟩))<|c_ mv_<|c_ ext_<|c_ ext_<|c_ (al_ 4)<|c_ (sw_ 4 5 (hst:=by exact fun _ _ _ hc=>st26 rfl rfl rfl rfl hc))<|c_ mv_<|e_) (k:=fun E9 ac wd h_9=>?_)
  clear h_8
  refine then_n (wp_seq (wp_seq ?_))
  refine rf_ h_9 [[0],[0,1]] [K_ bT,K_ bF] (fun E10=>[(2,vP (pb E1 0) 0),(4,vP (pb E1 2) 0),(5,vI 0),(7,vN k),(9,vP (pb E9 5) 0),(58,bF)]) (hs:=c_ mv_<|c_ (un0 bT)<|e_) (k:=fun E10 ac wd h_10=>?_)
  clear h_9
  refine then_n ?_
  refine wp_cond_false (eval_tmp (h_10.g (t:=58) rfl)) ?_
  refine wp_skip (then_n (wp_seq (wp_seq ?_)))
  by_cases g1:k+1 < es.length
  have hb2:=okPre_num hk (i:=k+1) g1
  by_cases g2:dayOf (es.getD (k+1) (0,0))≤(z-jn 0 o 0) / 1000000000000000000 / 86400
  refine rf_ h_10 [[0],[0,1],[2],[2,3],[2,3,4],r_ 6,r_ 7,r_ 8,r_ 9,[0,1,2,3,4,5,6,9],[0,1,2,3,4,5,6,9,10],[0,1,2,3,4,5,6,11],[0,1,2,3,4,5,6,11,12],[0,1,2,3,4,5,6,9,10,11,12,13],[0,1,2,3,4,5,6,9,10,11,12,13,14],[0,1,2,3,4,5,6,9,10,11,12,13,14,15],r_ 17,r_ 18] [K_ (vN k),K_ (vI (((k:Nat):Int)+1)),K_ (vP (pb E1 0) 2),K_ (.slice A0 es.length c0),K_ (vN es.length),K_ bT,K_ bT,K_ (vP (pb E9 5) 0),K_ (vI ((z-jn 0 o 0) / 1000000000000000000 / 86400)),K_ (vP (pb E1 0) 2),K_ (.slice A0 es.length c0),K_ (vN k),K_ (vI (((k:Nat):Int)+1)),K_ (elt (.slice A0 es.length c0) ((k+1)*2)),K_ (.agg #[vI ((es.getD (k+1) (0,0)).1),vI ((es.getD (k+1) (0,0)).2)]),K_ (vI (dayOf (es.getD (k+1) (0,0)))),K_ bT,K_ bT] (fun E11=>[(4,vP (pb E1 2) 0),(5,vI 0),(9,vP (pb E9 5) 0),(77,bT)]) (hs:=c_ mv_<|c_ (bi0 (vN k) (vI 1))<|c_ (fa0 (vP (pb E1 0) 0))<|c_ (ld_ 0 (hrd:=by exact rd22 rfl))<|c_ (ln_ Tryz.underlying22 fun _ env _ wd hA=>(hv.gn hA.j.st.gr).els)<|c_ (bi0 (vI (((k:Nat):Int)+1)) (vN es.length))<|c_ mv_<|c_ (fa0 (vP (pb E9 5) 0))<|c_ (ld_ 4 (hrd:=by exact rd3 rfl))<|c_ (fa0 (vP (pb E1 0) 0))<|c_ (ld_ 0 (hrd:=by exact rd22 rfl))<|c_ (gm0 (vN k))<|c_ (bi0 (vN k) (vI 1))<|c_ (ia_ Tryz.underlying22 sz70 (k+1) ((k+1)*2) (((k:Nat):Int)+1) (fun _ env _ wd hA=>(hv.gn hA.j.st.gr).els) (by omega) (by omega) rfl)<|c_ (le_ ((k+1)*2) (fun _ env _ wd hA=>(hv.gn hA.j.st.gr).els) (by omega) (le70 (by exact enC_0 es (k+1)) (by exact enC_1 es (k+1))))<|c_ (cl_ Tryz.func36 (h:=fun env=>⟨_,(Ret.eq (rday_any ((es.getD (k+1) (0,0)).1) ((es.getD (k+1) (0,0)).2) hb2.1 hb2.2.1) (u_day es (k+1))),rfl⟩))<|c_ (bi0 (vI ((z-jn 0 o 0) / 1000000000000000000 / 86400)) (vI (dayOf (es.getD (k+1) (0,0)))) (h:=by intro env w;(first | (simp [go_sem,g2];done) | (simp [go_sem];simp only [List.getD_eq_getElem?_getD] at *;omega))))<|c_ (pk0 bT bT bF (h:=by intro env w;(first | (simp [go_sem,g2];done) | (simp [go_sem];simp only [List.getD_eq_getElem?_getD] at *;omega))))<|e_) (k:=fun E11 ac wd h_11=>?_)
  clear h_10
  refine then_n ?_
  refine wp_cond_true (eval_tmp (h_11.g (t:=77) rfl)) ?_
  refine reg_cut mixed 8 [[0],[0,1],[0,1,2],[3],[3,4],[3,4,5],[0,1,2,3,4,6],[0,1,2,3,4,6,7],[0,1,2,3,4,5,6,7,8],[0,1,2,3,4,5,6,7,8,9]] (by kernel_rfl) h_11 [some 78,some 79,some 80,some 81,some 82,some 83,some 84,none] [[0],[0,1],[0,1,2],[3],[3,4],[3,4,5],[0,1,2,3,4,6],[0,1,2,3,4,6,7]] [⟨4,7,fun _=>[vI (((z-jn 0 o 0) / 1000000000000000000 / 86400)-1),vI ((z-jn 0 o 0) / 1000000000000000000 % 86400),vI ((z-jn 0 o 0) % 1000000000000000000)]⟩] [] [some fun _=>vP (pb E9 5) 0,some fun _=>vI ((z-jn 0 o 0) / 1000000000000000000 / 86400),some fun _=>vI (((z-jn 0 o 0) / 1000000000000000000 / 86400)-1),some fun _=>vP (pb E9 5) 1,some fun _=>vI ((z-jn 0 o 0) / 1000000000000000000 % 86400),some fun _=>vI (((z-jn 0 o 0) / 1000000000000000000 % 86400)+86400),some fun _=>vP (pb E9 5) 0,none] [] none rfl (by kernel_rfl) (by kernel_rfl) (sn (sn (sn (sn (sn (sn (sn (sn s0 ?_) ?_) ?_) ?_) ?_) ?_) ?_) ?_) ?_
  · exact (fa0 (vP (pb E9 5) 0))
  · exact (ld_ 4 (hrd:=by exact rd3 rfl))
  · exact (bi0 (vI ((z-jn 0 o 0) / 1000000000000000000 / 86400)) (vI 1))
  · exact (fa0 (vP (pb E9 5) 0))
  · exact (ld_ 4 (hrd:=by exact rd3 rfl))
  · exact (bi0 (vI ((z-jn 0 o 0) / 1000000000000000000 % 86400)) (vI 86400))
  · exact (fa0 (vP (pb E9 5) 0))
  · exact (se_ 4 (hst:=by exact fun _ _ _ hc=>st3 rfl rfl hc))
  intro E12 ac wd hJ
  have h_12:Cur 87 w0 none none (Facts [fun w=>BigN w0.heap.size w (E8 8) (jn 0 o 0),fun w=>BigN w0.heap.size w (E8 9) (z-jn 0 o 0)]) (fun _=>True) [(4,vP (pb E1 2) 0),(5,vI 0),(9,vP (pb E9 5) 0),(83,vI (((z-jn 0 o 0) / 1000000000000000000 % 86400)+86400))] [((pb E1 0),24,[vI u,vI x,.slice A0 es.length c0]),((pb E1 1),39,[.bool (decide (z-jn 0 o 0 < 0)),.slice ((bA (E8 9))) ((digs (z-jn 0 o 0)).length) ((bC (E8 9)))]),((pb E1 2),26,[vI 0,vI 0,vI 0]),((pb E2 7),39,[.bool (decide (jn 0 (startOf (es.getD 0 (0,0))) 0 < 0)),.slice ((bA (E2 6))) ((digs (jn 0 (startOf (es.getD 0 (0,0))) 0)).length) ((bC (E2 6)))]),((pb E9 5),26,[vI (((z-jn 0 o 0) / 1000000000000000000 / 86400)-1),vI ((z-jn 0 o 0) / 1000000000000000000 % 86400),vI ((z-jn 0 o 0) % 1000000000000000000)])] ac wd:=hJ.curF rfl rfl rfl (fun _ h=>h) rfl rfl rfl
  clear hJ h_11
  refine reg_rest h_12 [some 85,none] [[0],[0,1]] [⟨4,1,fun _=>[vI (((z-jn 0 o 0) / 1000000000000000000 / 86400)-1),vI (((z-jn 0 o 0) / 1000000000000000000 % 86400)+86400),vI ((z-jn 0 o 0) % 1000000000000000000)]⟩] [] [some fun _=>vP (pb E9 5) 1,none] [] none rfl (by kernel_rfl) (by kernel_rfl) (by kernel_rfl) (sn (sn s0 ?_) ?_) ?_
  · exact (fa0 (vP (pb E9 5) 0))
  · exact (se_ 4 (hst:=by exact fun _ _ _ hc=>st3 rfl rfl hc))
  intro E13 ac wd hJ
  have h_13:Cur 87 w0 none none (Facts [fun w=>BigN w0.heap.size w (E8 8) (jn 0 o 0),fun w=>BigN w0.heap.size w (E8 9) (z-jn 0 o 0)]) (fun _=>True) [(4,vP (pb E1 2) 0),(5,vI 0),(9,vP (pb E9 5) 0)] [((pb E1 0),24,[vI u,vI x,.slice A0 es.length c0]),((pb E1 1),39,[.bool (decide (z-jn 0 o 0 < 0)),.slice ((bA (E8 9))) ((digs (z-jn 0 o 0)).length) ((bC (E8 9)))]),((pb E1 2),26,[vI 0,vI 0,vI 0]),((pb E2 7),39,[.bool (decide (jn 0 (startOf (es.getD 0 (0,0))) 0 < 0)),.slice ((bA (E2 6))) ((digs (jn 0 (startOf (es.getD 0 (0,0))) 0)).length) ((bC (E2 6)))]),((pb E9 5),26,[vI (((z-jn 0 o 0) / 1000000000000000000 / 86400)-1),vI (((z-jn 0 o 0) / 1000000000000000000 % 86400)+86400),vI ((z-jn 0 o 0) % 1000000000000000000)])] ac wd:=hJ.curF rfl rfl rfl (fun _ h=>h) rfl rfl rfl
  clear hJ h_12
  refine then_n (wp_seq ?_)
  refine rf_ h_13 (tri 3) [K_ (vL (((z-jn 0 o 0) / 1000000000000000000 / 86400)-1) (((z-jn 0 o 0) / 1000000000000000000 % 86400)+86400) ((z-jn 0 o 0) % 1000000000000000000)),none,K_ (vI 0)] (fun E14=>[(4,vP (pb E1 2) 0),(5,vI 0)]) (S:=[⟨2,1,fun _=>[vI (((z-jn 0 o 0) / 1000000000000000000 / 86400)-1),vI (((z-jn 0 o 0) / 1000000000000000000 % 86400)+86400),vI ((z-jn 0 o 0) % 1000000000000000000)]⟩]) (M':=fun E14=>[((pb E1 0),24,[vI u,vI x,.slice A0 es.length c0]),((pb E1 1),39,[.bool (decide (z-jn 0 o 0 < 0)),rS (z-jn 0 o 0) ((bA (E8 9))) ((bC (E8 9)))]),((pb E1 2),26,[vI (((z-jn 0 o 0) / 1000000000000000000 / 86400)-1),vI (((z-jn 0 o 0) / 1000000000000000000 % 86400)+86400),vI ((z-jn 0 o 0) % 1000000000000000000)]),((pb E2 7),39,[.bool (decide (jn 0 (startOf (es.getD 0 (0,0))) 0 < 0)),rS (jn 0 (startOf (es.getD 0 (0,0))) 0) ((bA (E2 6))) ((bC (E2 6)))]),((pb E9 5),26,[vI (((z-jn 0 o 0) / 1000000000000000000 / 86400)-1),vI (((z-jn 0 o 0) / 1000000000000000000 % 86400)+86400),vI ((z-jn 0 o 0) % 1000000000000000000)])]) (hs:=c_ (ld_ 4 (hrd:=by exact rd26 rfl rfl rfl))<|c_ (se_ 2 (hst:=by exact fun _ _ _ hc=>st26 rfl rfl rfl rfl hc))<|c_ mv_<|e_) (k:=fun E14 ac wd h_14=>?_)
  clear h_13
  refine then_n (wp_ret ?_)
  have s4:=h_14.g (t:=4) rfl
  have hc4:=(h_14.st.own 2 _ rfl).2
  have c4_0:=own_cell (o:=0) hc4 rfl
  have c4_1:=own_cell (o:=1) hc4 rfl
  have c4_2:=own_cell (o:=2) hc4 rfl
  have s5:=h_14.g (t:=5) rfl
  refine leave (v:=vT2 (vL (((z-jn 0 o 0) / 1000000000000000000 / 86400)-1) (((z-jn 0 o 0) / 1000000000000000000 % 86400)+86400) ((z-jn 0 o 0) % 1000000000000000000)) (vI 0)) h_14.df (by simp [results,Tryz.results56,go_sem,Array.getD_eq_getD_getElem?,s4,c4_0,c4_1,c4_2,Tryz.underlying26,s5]) ?_
  have e4:=lab4 ((hrk.2 ⟨p0,p1⟩).1 ⟨g1,g2⟩)
  exact ⟨by rw [e4],h_14.st.below⟩
  refine rf_ h_10 [[0],[0,1],[2],[2,3],[2,3,4],r_ 6,r_ 7,r_ 8,r_ 9,[0,1,2,3,4,5,6,9],[0,1,2,3,4,5,6,9,10],[0,1,2,3,4,5,6,11],[0,1,2,3,4,5,6,11,12],[0,1,2,3,4,5,6,9,10,11,12,13],[0,1,2,3,4,5,6,9,10,11,12,13,14],[0,1,2,3,4,5,6,9,10,11,12,13,14,15],r_ 17,r_ 18] [K_ (vN k),K_ (vI (((k:Nat):Int)+1)),K_ (vP (pb E1 0) 2),K_ (.slice A0 es.length c0),K_ (vN es.length),K_ bT,K_ bT,K_ (vP (pb E9 5) 0),K_ (vI ((z-jn 0 o 0) / 1000000000000000000 / 86400)),K_ (vP (pb E1 0) 2),K_ (.slice A0 es.length c0),K_ (vN k),K_ (vI (((k:Nat):Int)+1)),K_ (elt (.slice A0 es.length c0) ((k+1)*2)),K_ (.agg #[vI ((es.getD (k+1) (0,0)).1),vI ((es.getD (k+1) (0,0)).2)]),K_ (vI (dayOf (es.getD (k+1) (0,0)))),K_ bF,K_ bF] (fun E11=>[(4,vP (pb E1 2) 0),(5,vI 0),(9,vP (pb E9 5) 0),(77,bF)]) (hs:=c_ mv_<|c_ (bi0 (vN k) (vI 1))<|c_ (fa0 (vP (pb E1 0) 0))<|c_ (ld_ 0 (hrd:=by exact rd22 rfl))<|c_ (ln_ Tryz.underlying22 fun _ env _ wd hA=>(hv.gn hA.j.st.gr).els)<|c_ (bi0 (vI (((k:Nat):Int)+1)) (vN es.length))<|c_ mv_<|c_ (fa0 (vP (pb E9 5) 0))<|c_ (ld_ 4 (hrd:=by exact rd3 rfl))<|c_ (fa0 (vP (pb E1 0) 0))<|c_ (ld_ 0 (hrd:=by exact rd22 rfl))<|c_ (gm0 (vN k))<|c_ (bi0 (vN k) (vI 1))<|c_ (ia_ Tryz.underlying22 sz70 (k+1) ((k+1)*2) (((k:Nat):Int)+1) (fun _ env _ wd hA=>(hv.gn hA.j.st.gr).els) (by omega) (by omega) rfl)<|c_ (le_ ((k+1)*2) (fun _ env _ wd hA=>(hv.gn hA.j.st.gr).els) (by omega) (le70 (by exact enC_0 es (k+1)) (by exact enC_1 es (k+1))))<|c_ (cl_ Tryz.func36 (h:=fun env=>⟨_,(Ret.eq (rday_any ((es.getD (k+1) (0,0)).1) ((es.getD (k+1) (0,0)).2) hb2.1 hb2.2.1) (u_day es (k+1))),rfl⟩))<|c_ (bi0 (vI ((z-jn 0 o 0) / 1000000000000000000 / 86400)) (vI (dayOf (es.getD (k+1) (0,0)))) (h:=by intro env w;(first | (simp [go_sem,g2];done) | (simp [go_sem];simp only [List.getD_eq_getElem?_getD] at *;omega))))<|c_ (pk0 bT bF bF (h:=by intro env w;(first | (simp [go_sem,g2];done) | (simp [go_sem];simp only [List.getD_eq_getElem?_getD] at *;omega))))<|e_) (k:=fun E11 ac wd h_11=>?_)
  clear h_10
  refine then_n ?_
  refine wp_cond_false (eval_tmp (h_11.g (t:=77) rfl)) ?_
  refine wp_skip (then_n (wp_seq ?_))
  refine rf_ h_11 (tri 3) [K_ (vL ((z-jn 0 o 0) / 1000000000000000000 / 86400) ((z-jn 0 o 0) / 1000000000000000000 % 86400) ((z-jn 0 o 0) % 1000000000000000000)),none,K_ (vI 0)] (fun E12=>[(4,vP (pb E1 2) 0),(5,vI 0)]) (S:=[⟨2,1,fun _=>[vI ((z-jn 0 o 0) / 1000000000000000000 / 86400),vI ((z-jn 0 o 0) / 1000000000000000000 % 86400),vI ((z-jn 0 o 0) % 1000000000000000000)]⟩]) (M':=fun E12=>[((pb E1 0),24,[vI u,vI x,.slice A0 es.length c0]),((pb E1 1),39,[.bool (decide (z-jn 0 o 0 < 0)),rS (z-jn 0 o 0) ((bA (E8 9))) ((bC (E8 9)))]),((pb E1 2),26,[vI ((z-jn 0 o 0) / 1000000000000000000 / 86400),vI ((z-jn 0 o 0) / 1000000000000000000 % 86400),vI ((z-jn 0 o 0) % 1000000000000000000)]),((pb E2 7),39,[.bool (decide (jn 0 (startOf (es.getD 0 (0,0))) 0 < 0)),rS (jn 0 (startOf (es.getD 0 (0,0))) 0) ((bA (E2 6))) ((bC (E2 6)))]),((pb E9 5),26,[vI ((z-jn 0 o 0) / 1000000000000000000 / 86400),vI ((z-jn 0 o 0) / 1000000000000000000 % 86400),vI ((z-jn 0 o 0) % 1000000000000000000)])]) (hs:=c_ (ld_ 4 (hrd:=by exact rd26 rfl rfl rfl))<|c_ (se_ 2 (hst:=by exact fun _ _ _ hc=>st26 rfl rfl rfl rfl hc))<|c_ mv_<|e_) (k:=fun E12 ac wd h_12=>?_)
  clear h_11
  refine then_n (wp_ret ?_)
  have s4:=h_12.g (t:=4) rfl
  have hc4:=(h_12.st.own 2 _ rfl).2
  have c4_0:=own_cell (o:=0) hc4 rfl
  have c4_1:=own_cell (o:=1) hc4 rfl
  have c4_2:=own_cell (o:=2) hc4 rfl
  have s5:=h_12.g (t:=5) rfl
  refine leave (v:=vT2 (vL ((z-jn 0 o 0) / 1000000000000000000 / 86400) ((z-jn 0 o 0) / 1000000000000000000 % 86400) ((z-jn 0 o 0) % 1000000000000000000)) (vI 0)) h_12.df (by simp [results,Tryz.results56,go_sem,Array.getD_eq_getD_getElem?,s4,c4_0,c4_1,c4_2,Tryz.underlying26,s5]) ?_
  have e4:=lab4 ((hrk.2 ⟨p0,p1⟩).2 (fun hh=>g2 hh.2))
  exact ⟨by rw [e4],h_12.st.below⟩
  refine rf_ h_10 [[0],[0,1],[2],[2,3],[2,3,4],r_ 6,r_ 7,r_ 8,r_ 9,[0,1,2,3,4,5,6,9],[0,1,2,3,4,5,6,9,10],[0,1,2,3,4,5,6,11],[0,1,2,3,4,5,6,11,12],[0,1,2,3,4,5,6,9,10,11,12,13],[0,1,2,3,4,5,6,9,10,11,12,13,14],[0,1,2,3,4,5,6,9,10,11,12,13,14,15],r_ 17,r_ 18] [K_ (vN k),K_ (vI (((k:Nat):Int)+1)),K_ (vP (pb E1 0) 2),K_ (.slice A0 es.length c0),K_ (vN es.length),K_ bF,K_ bF,K_ undef,K_ undef,K_ undef,K_ undef,K_ undef,K_ undef,K_ undef,K_ undef,K_ undef,K_ undef,K_ bF] (fun E11=>[(4,vP (pb E1 2) 0),(5,vI 0),(9,vP (pb E9 5) 0),(77,bF)]) (hs:=c_ mv_<|c_ (bi0 (vN k) (vI 1))<|c_ (fa0 (vP (pb E1 0) 0))<|c_ (ld_ 0 (hrd:=by exact rd22 rfl))<|c_ (ln_ Tryz.underlying22 fun _ env _ wd hA=>(hv.gn hA.j.st.gr).els)<|c_ (bi0 (vI (((k:Nat):Int)+1)) (vN es.length))<|c_ mv_<|c_ off_<|c_ off_<|c_ off_<|c_ off_<|c_ off_<|c_ off_<|c_ off_<|c_ off_<|c_ off_<|c_ off_<|c_ (pk0 bF undef bF)<|e_) (k:=fun E11 ac wd h_11=>?_)
  clear h_10
  refine then_n ?_
  refine wp_cond_false (eval_tmp (h_11.g (t:=77) rfl)) ?_
  refine wp_skip (then_n (wp_seq ?_))
  refine rf_ h_11 (tri 3) [K_ (vL ((z-jn 0 o 0) / 1000000000000000000 / 86400) ((z-jn 0 o 0) / 1000000000000000000 % 86400) ((z-jn 0 o 0) % 1000000000000000000)),none,K_ (vI 0)] (fun E12=>[(4,vP (pb E1 2) 0),(5,vI 0)]) (S:=[⟨2,1,fun _=>[vI ((z-jn 0 o 0) / 1000000000000000000 / 86400),vI ((z-jn 0 o 0) / 1000000000000000000 % 86400),vI ((z-jn 0 o 0) % 1000000000000000000)]⟩]) (M':=fun E12=>[((pb E1 0),24,[vI u,vI x,.slice A0 es.length c0]),((pb E1 1),39,[.bool (decide (z-jn 0 o 0 < 0)),rS (z-jn 0 o 0) ((bA (E8 9))) ((bC (E8 9)))]),((pb E1 2),26,[vI ((z-jn 0 o 0) / 1000000000000000000 / 86400),vI ((z-jn 0 o 0) / 1000000000000000000 % 86400),vI ((z-jn 0 o 0) % 1000000000000000000)]),((pb E2 7),39,[.bool (decide (jn 0 (startOf (es.getD 0 (0,0))) 0 < 0)),rS (jn 0 (startOf (es.getD 0 (0,0))) 0) ((bA (E2 6))) ((bC (E2 6)))]),((pb E9 5),26,[vI ((z-jn 0 o 0) / 1000000000000000000 / 86400),vI ((z-jn 0 o 0) / 1000000000000000000 % 86400),vI ((z-jn 0 o 0) % 1000000000000000000)])]) (hs:=c_ (ld_ 4 (hrd:=by exact rd26 rfl rfl rfl))<|c_ (se_ 2 (hst:=by exact fun _ _ _ hc=>st26 rfl rfl rfl rfl hc))<|c_ mv_<|e_) (k:=fun E12 ac wd h_12=>?_)
  clear h_11
  refine then_n (wp_ret ?_)
  have s4:=h_12.g (t:=4) rfl
  have hc4:=(h_12.st.own 2 _ rfl).2
  have c4_0:=own_cell (o:=0) hc4 rfl
  have c4_1:=own_cell (o:=1) hc4 rfl
  have c4_2:=own_cell (o:=2) hc4 rfl
  have s5:=h_12.g (t:=5) rfl
  refine leave (v:=vT2 (vL ((z-jn 0 o 0) / 1000000000000000000 / 86400) ((z-jn 0 o 0) / 1000000000000000000 % 86400) ((z-jn 0 o 0) % 1000000000000000000)) (vI 0)) h_12.df (by simp [results,Tryz.results56,go_sem,Array.getD_eq_getD_getElem?,s4,c4_0,c4_1,c4_2,Tryz.underlying26,s5]) ?_
  have e4:=lab4 ((hrk.2 ⟨p0,p1⟩).2 (fun hh=>g1 hh.1))
  exact ⟨by rw [e4],h_12.st.below⟩
  refine rf_ h_8 [[0],[0,1],[0,1,2],r_ 4,[0,1,2,4],[5],[0,1,2,3,5,6],r_ 8] [K_ (bigF (z-jn 0 o 0) (E8 9)),K_ (vT2 (vL 0 0 0) bF),K_ (vT2 (vL 0 0 0) bF),K_ (vL 0 0 0),K_ bF,KE_ fun env=>vP (pb env 5) 0,none,K_ bF] (fun E9=>[(2,vP (pb E1 0) 0),(4,vP (pb E1 2) 0),(5,vI 0),(7,vN k),(9,vP (pb E9 5) 0),(10,bF)]) (W:=[{ i:=5,T:=26,c0:=[vI 0,vI 0,vI 0],s:=some 6,c1:=fun _=>[vI 0,vI 0,vI 0] }]) (M':=fun E9=>[((pb E1 0),24,[vI u,vI x,.slice A0 es.length c0]),((pb E1 1),39,[.bool (decide (z-jn 0 o 0 < 0)),rS (z-jn 0 o 0) ((bA (E8 9))) ((bC (E8 9)))]),((pb E1 2),26,[vI 0,vI 0,vI 0]),((pb E2 7),39,[.bool (decide (jn 0 (startOf (es.getD 0 (0,0))) 0 < 0)),rS (jn 0 (startOf (es.getD 0 (0,0))) 0) ((bA (E2 6))) ((bC (E2 6)))]),((pb E9 5),26,[vI 0,vI 0,vI 0])]) (hs:=c_ (ld_ 1 (hrd:=by exact rd39 rfl rfl))<|c_ (cw_ Tryz.func88 (h:=fun _ env _ wd hA=>⟨_,Split_no wd (decide (z-jn 0 o 0 < 0)) (bA (E8 9)) (bC (E8 9)) (z-jn 0 o 0) rfl (Facts.bigN (hA.j.st.now).1 1 rfl) hsn hq0 hq1 hno,rfl⟩))<|c_ mv_<|c_ ext_<|c_ ext_<|c_ (al_ 4)<|c_ (sw_ 4 5 (hst:=by exact fun _ _ _ hc=>st26 rfl rfl rfl rfl hc))<|c_ mv_<|e_) (k:=fun E9 ac wd h_9=>?_)
  clear h_8
  refine then_n (wp_seq (wp_seq ?_))
  refine rf_ h_9 [[0],[0,1]] [K_ bF,K_ bT] (fun E10=>[(2,vP (pb E1 0) 0),(4,vP (pb E1 2) 0),(5,vI 0),(7,vN k),(9,vP (pb E9 5) 0),(58,bT)]) (hs:=c_ mv_<|c_ (un0 bF)<|e_) (k:=fun E10 ac wd h_10=>?_)
  clear h_9
  refine then_n ?_
  refine wp_cond_true (eval_tmp (h_10.g (t:=58) rfl)) ?_
  refine wp_seq ?_
  refine rf_ h_10 (tri 3) [K_ (vL 0 0 0),none,K_ (vI 2)] (fun E11=>[(2,vP (pb E1 0) 0),(4,vP (pb E1 2) 0),(5,vI 2),(7,vN k),(9,vP (pb E9 5) 0)]) (S:=[⟨2,1,fun _=>[vI 0,vI 0,vI 0]⟩]) (M':=fun E11=>[((pb E1 0),24,[vI u,vI x,.slice A0 es.length c0]),((pb E1 1),39,[.bool (decide (z-jn 0 o 0 < 0)),rS (z-jn 0 o 0) ((bA (E8 9))) ((bC (E8 9)))]),((pb E1 2),26,[vI 0,vI 0,vI 0]),((pb E2 7),39,[.bool (decide (jn 0 (startOf (es.getD 0 (0,0))) 0 < 0)),rS (jn 0 (startOf (es.getD 0 (0,0))) 0) ((bA (E2 6))) ((bC (E2 6)))]),((pb E9 5),26,[vI 0,vI 0,vI 0])]) (hs:=c_ (bd0 ([]))<|c_ (se_ 2 (hst:=by exact fun _ _ _ hc=>st26 rfl rfl rfl rfl hc))<|c_ mv_<|e_) (k:=fun E11 ac wd h_11=>?_)
  clear h_10
  refine then_n (wp_ret (then_ret ?_))
  have s4:=h_11.g (t:=4) rfl
  have hc4:=(h_11.st.own 2 _ rfl).2
  have c4_0:=own_cell (o:=0) hc4 rfl
  have c4_1:=own_cell (o:=1) hc4 rfl
  have c4_2:=own_cell (o:=2) hc4 rfl
  have s5:=h_11.g (t:=5) rfl
  refine leave (v:=vT2 (vL 0 0 0) (vI 2)) h_11.df (by simp [results,Tryz.results56,go_sem,Array.getD_eq_getD_getElem?,s4,c4_0,c4_1,c4_2,Tryz.underlying26,s5]) ?_
  have e4:=lab4 (hrk.1 hno)
  exact ⟨by rw [e4],h_11.st.below⟩
end Go.Proofs.YtdfkghpgekmmlaaGreat
namespace Go.Proofs.YtdfkghpgekmmlaaGreat
open Go.RowKit
abbrev cT:List TypeId:=[113,70,121,78,126,130]
def oldB (es:List (Int × Int)):Bool:=decide (day0 es=41317) && decide ((es.getD 0 (0,0)).2=10)
def IsC (w:World) (c g:Nat) (b:Value) (u x:Int) (es:List (Int × Int)):Prop:=
 c≠g∧Blk w c 78 #[vP g 0,b,vI x]∧IsLx w g u x es∧(oldB es=true→IsR (some g) w b pubS 41317 10)∧(oldB es=false→b = .pointer none)
theorem KeepT.mono {Ts Ts':List TypeId} {ex:Option Nat} {w w':World} (h:KeepT Ts ex w w') (hT:∀ T,Ts'.contains T=true→Ts.contains T=true):KeepT Ts' ex w w':=fun b cur T fz h1 h2 h3=>h b cur T fz h1 (hT T h2) h3
theorem cT_le:∀ T,leT.contains T=true→cT.contains T=true:=by
  intro T h
  simp only [leT,cT,List.contains_cons,Bool.or_eq_true] at *
  rcases h with h | h | h | h
  · exact .inl h
  · exact .inr (.inl h)
  · exact .inr (.inr (.inl h))
  · cases h
theorem cT_r:∀ T,([126,130]:List TypeId).contains T=true→cT.contains T=true:=by
  intro T h
  simp only [cT,List.contains_cons,Bool.or_eq_true] at *
  rcases h with h | h | h
  · exact .inr (.inr (.inr (.inr (.inl h))))
  · exact .inr (.inr (.inr (.inr (.inr (.inl h)))))
  · cases h
theorem KeepT.ofGrown {Ts:List TypeId} {g:Nat} {w w':World} (h:w.grownBy w' (some g)):KeepT Ts (some g) w w':=fun b cur T fz h1 _ h3=>h.block b (lt_of_some h1) (fun e=>h3 e.symm)
section
variable {w w':World} {c g:Nat} {b:Value} {u x:Int} {es:List (Int × Int)}
theorem IsC.keepT (h:IsC w c g b u x es) (hg:w'.heap[g]? = w.heap[g]?) (hk:KeepT cT (some g) w w'):IsC w' c g b u x es:=by
 obtain ⟨h1,h2,h3,h4,h5⟩:=h
 unfold Blk at h2
 refine ⟨h1,?_,h3.keepT hg (hk.mono cT_le),fun ho=>(h4 ho).keep (hk.mono cT_r),h5⟩
 unfold Blk
 rw [hk c _ _ _ h2 rfl (fun e=>h1 (Option.some.inj e).symm)]
 exact h2
theorem IsC.grown (h:IsC w c g b u x es) (hL:IsLx w' g u x es) (hg:w.grownBy w' (some g)):IsC w' c g b u x es:=by
 obtain ⟨h1,h2,h3,h4,h5⟩:=h
 exact ⟨h1,h2.grown hg (fun e=>h1 (Option.some.inj e)),hL,fun ho=>(h4 ho).keep (KeepT.ofGrown hg),h5⟩
theorem IsC.lx (h:IsC w c g b u x es):IsLx w g u x es:=h.2.2.1
theorem IsC.ok (h:IsC w c g b u x es):okT u x es=true:=h.2.2.1.ok
theorem IsC.lt (h:IsC w c g b u x es):g < w.heap.size:=h.2.2.1.lt
theorem IsC.r (h:IsC w c g b u x es) (ho:oldB es=true):IsR (some g) w b pubS 41317 10:=h.2.2.2.1 ho
theorem IsC.nil (h:IsC w c g b u x es) (ho:oldB es=false):b = .pointer none:=h.2.2.2.2 ho
theorem IsC.bform (h:IsC w c g b u x es) (ho:oldB es=true):b=vP (ptrB b) 0:=(h.r ho).form
theorem IsC.cell0 (h:IsC w c g b u x es):w.cell? ⟨c,0,none⟩=some (vP g 0):=h.2.1.cell 0
theorem IsC.cell1 (h:IsC w c g b u x es):w.cell? ⟨c,1,none⟩=some b:=h.2.1.cell 1
theorem St.startC (w:World) (h:IsC w c g b u x es):St w (some g) (some g) w (mem []) (fun _=>True) (fun w=>IsC w c g b u x es):=
 ⟨⟨rfl,rfl,rfl,Nat.le_refl _,fun _ _ _=>rfl⟩,fun m m' e e' h=>(by simp [mem] at h),fun m e h=>(by simp [mem] at h),fun k hk=>(by obtain rfl:=Option.some.inj hk;exact ⟨h.lt,fun m e hm=>by simp [mem] at hm,.inr rfl⟩),fun _ _=>trivial,fun w' ha=>h.keepT (ha.2 g h.lt (fun m e hm=>by simp [mem] at hm) (by simp)) (fun b cur T fz hb _ _=>ha.2 b (lt_of_some hb) (fun m e hm=>by simp [mem] at hm) (by simp))⟩
def ClkC (P:Program) (f:FuncId) (vs:List Value) (w:World) (c g:Nat) (b:Value) (u x:Int) (es:List (Int × Int)) (v:Value):Prop:=Calls P f vs.toArray w fun e w'=>e = .returned v∧IsC w' c g b u x es∧w.grownBy w' (some g)
theorem LeapC.clk {P:Program} {f:FuncId} {vs:List Value} {v:Value} (hC:IsC w c g b u x es) (h:LeapC P f vs w g u x es v):ClkC P f vs w c g b u x es v:=
 h.mono (fun e w' h=>⟨h.1,hC.grown h.2.1 h.2.2,h.2.2⟩)
theorem ClkC.eq {P:Program} {f:FuncId} {vs:List Value} {v v':Value} (h:ClkC P f vs w c g b u x es v) (e:v=v'):ClkC P f vs w c g b u x es v':=e▸h
end
section
variable {R:Reg} {Q:Exit→Act→World→Prop} {i:Nat} {o:Oper} {P:Program}
theorem s_clk {V:Env→Value} {f:FuncId} {fn:Func} {ps:Array Operand} {ts:Array TypeId} (hfn:P.funcs[f]? = some fn) {c g:Nat} {b:Value} {u x:Int} {es:List (Int × Int)} (hΘ:∀ w,R.Θ w→IsC w c g b u x es) (hΘ':∀ w,IsC w c g b u x es→R.Θ w) (ho:R.ops[i]? = some o:=by rfl) (hf:free' R i=true:=by rfl) (hop:o.op = .call { callee:=.value (.func f),args:=ps,argTypes:=ts }:=by rfl) (hname:(fn.name == "runtime.NumGoroutine")=false:=by kernel_rfl) (hb:fn.body.isSome=true:=by rfl) (hV:R.v? i=some V:=by rfl)
    (hw:∀ D env a w,At R i D env a w→Region.wanted o (yielded R.ops a.tmps)=true:=by intro D env a w hA;first | exact wanted_none rfl _ | exact hA.gy rfl rfl rfl) (hx:R.ex=some g:=by rfl) (hth:R.th=none:=by rfl) (hT:tFree cT R=true:=by rfl) (hn:noF R i=true:=by rfl) (hr:∀ env x,V (restr (R.cl.getD i []) (upd env i x))=V env:=by intros;rfl)
    (h:∀ D env a w,At R i D env a w→IsC w c g b u x es→∃ vs:List Value,ClkC P f vs w c g b u x es (V env)∧ps.toList.map (opAt R i env)=vs.map some):SR P Q R i:=
  s_callx ho hf hop hfn hname hb (fun {D env a w} hA=>by
    have hL:IsC w c g b u x es:=hΘ w (by have:=hA.j.st.nowT;unfold Reg.tht at this;rw [hth] at this;exact this)
    obtain ⟨vs,h1,h2⟩:=h D env a w hA hL
    refine ⟨hw _ _ _ _ hA,vs.toArray,hA.args h2,h1.mono ?_⟩
    rintro e w' ⟨rfl,hL',hg⟩
    refine ⟨_,rfl,?_,fun w'' _=>f_val hA.ok ho hV hn hr _ w''⟩
    refine hA.j.st.callg hx hg (fun w'' ha=>?_)
    have hst':=hA.j.st.callg hx hg (Θ':=fun _=>True) (fun _ _=>trivial)
    unfold Reg.tht
    rw [hth]
    refine hΘ' w'' (hL'.keepT ?_ ?_)
    · obtain ⟨k1,k2,_⟩:=hst'.exb g hx
      exact ha.2 g k1 (fun m e hm=>k2 m e hm) (by simp)
    · have:=apart_keepT (Ts:=cT) hT hst' (.inr rfl) ha
      rw [hx] at this
      exact this)
end
def NewC (w:World) (v:Value) (g:Nat) (b:Value) (u x:Int) (es:List (Int × Int)) (B:Nat):Prop:=v = .tuple #[vP (ptrB (tp v 0)) 0,vI 0]∧IsC w (ptrB (tp v 0)) g b u x es∧B≤g
def NewCx (w:World) (v:Value) (u x:Int) (es:List (Int × Int)) (B:Nat):Prop:=∃ g b,NewC w v g b u x es B
theorem NewCx.form {w:World} {v:Value} {u x:Int} {es:List (Int × Int)} {B:Nat} (h:NewCx w v u x es B):v=newLF v:=by obtain ⟨g,b,h,_⟩:=h;exact h
theorem NewCx.keep {w w':World} {v:Value} {u x:Int} {es:List (Int × Int)} {B:Nat} (h:NewCx w v u x es B) (hk:KeepT cT none w w'):NewCx w' v u x es B:=by
 obtain ⟨g,b,h1,h2,h3⟩:=h
 refine ⟨g,b,h1,h2.keepT ?_ (fun b cur T fz hb hT _=>hk b cur T fz hb hT (by simp)),h3⟩
 obtain ⟨q,_,ge,d,mv,_,hb,_⟩:=h2.lx
 unfold Blk at hb
 exact hk _ _ _ _ hb rfl (by simp)
theorem Cur.exInC {n:Nat} {w0:World} {Θ:World→Prop} {L:Slots} {M:List Ent} {a:Act} {w:World} {v:Value} {u x:Int} {es:List (Int × Int)} {Fs:List (World→Prop)} (h0:Cur n w0 none none (Facts Fs) Θ L M a w) (k:Nat) (hk:Fs[k]? = some (fun w=>NewCx w v u x es w0.heap.size)):∃ g b,Cur n w0 none (some g) (Facts []) (fun w=>IsC w (ptrB (tp v 0)) g b u x es) L M a w:=by
  have hN:∀ w',Apart (mem M) none w w'→∃ g b,IsC w' (ptrB (tp v 0)) g b u x es∧w0.heap.size≤g:=fun w' ha=>by
    obtain ⟨g,b,_,h2,h3⟩:=show NewCx w' v u x es w0.heap.size from (h0.st.psi w' ha).get k hk
    exact ⟨g,b,h2,h3⟩
  obtain ⟨g,b,hI,hB⟩:=hN w (Apart.refl _ _ _)
  generalize ptrB (tp v 0)=c at *
  have turn:∀ (k m:Nat) (e:Ent),M[m]? = some e→e.1=k→Apart (mem M) none w { w with heap:=w.heap.setIfInBounds k (.map #[] 0) }:=fun k m e hm he=>⟨by simp,fun j hj hM _=>by
    show (w.heap.setIfInBounds _ _)[j]? = _
    rw [Array.getElem?_setIfInBounds_ne (fun e'=>hM m e hm (by rw [he,e']))]⟩
  have gone:∀ k,k < w.heap.size→({ w with heap:=w.heap.setIfInBounds k (.map #[] 0) }:World).heap[k]? = some (.map #[] 0):=fun k hk'=>by
    show (w.heap.setIfInBounds _ _)[k]? = _
    rw [Array.getElem?_setIfInBounds_self_of_lt hk']
  have hcM:∀ (m:Nat) (e:Ent),M[m]? = some e→e.1≠c:=fun m e hm he=>by
    obtain ⟨g',b',h',_⟩:=hN _ (turn c m e hm he)
    have hb:=h'.2.1
    unfold Blk at hb
    rw [gone c hI.2.1.lt] at hb
    cases hb
  have hall:∀ w',Apart (mem M) none w w'→IsC w' c g b u x es:=fun w' ha=>by
    obtain ⟨g',b',h',_⟩:=hN w' ha
    have e1:=h'.2.1
    have e2:=hI.2.1
    unfold Blk at e1 e2
    rw [ha.2 c hI.2.1.lt (fun m e hm=>hcM m e hm) (by simp),e2] at e1
    simp at e1
    obtain ⟨rfl,rfl⟩:=e1
    exact h'
  have hgM:∀ (m:Nat) (e:Ent),M[m]? = some e→e.1≠g:=fun m e hm he=>by
    obtain ⟨q,_,ge,d,mv,_,hb,_⟩:=(hall _ (turn g m e hm he)).lx
    unfold Blk at hb
    rw [gone g hI.lt] at hb
    cases hb
  exact ⟨g,b,h0.sz,h0.df,⟨h0.st.gr,h0.st.nod,h0.st.own,fun g' hg'=>by obtain rfl:=Option.some.inj hg';exact ⟨hI.lt,hgM,.inl hB⟩,fun _ _ φ hφ=>(by cases hφ),hall⟩,h0.sl⟩
end Go.Proofs.YtdfkghpgekmmlaaGreat
namespace Go.Proofs.YtdfkghpgekmmlaaGreat
open Go.RowKit
def useR (es:List (Int × Int)) (d:Int):Bool:=oldB es && decide (d < 41317)
def ctE (es:List (Int × Int)) (d s a:Int):Int:=if useR es d=true then taiE pubS 41317 10 d s a else whyU es d s a
def ctV (es:List (Int × Int)) (d s a:Int):Int:=if useR es d=true then taiV pubS 41317 10 d s a else taiU es d s a
def overB (x d s:Int):Bool:=decide (x≤(d-15020)*86400+s)
def expB (x:Int) (lax:Bool) (d s:Int):Bool:=!lax && overB x d s
def tE (es:List (Int × Int)) (x:Int) (lax:Bool) (d s a:Int):Int:=if ctE es d s a=0 then (if expB x lax d s=true then 9 else 0) else ctE es d s a
def tV (es:List (Int × Int)) (x:Int) (lax:Bool) (d s a:Int):Int:=if tE es x lax d s a=0 then ctV es d s a else 0
def useL (es:List (Int × Int)) (z:Int):Bool:=oldB es && decide ((labUt es z).1=8)
def clb (es:List (Int × Int)) (z:Int):Int × Int × Int × Int:=if useL es z=true then (labE pubS 41317 10 z,labD pubS 41317 10 z,labS pubS 41317 10 z,labA pubS 41317 10 z) else labUt es z
def lbl4 (es:List (Int × Int)) (x:Int) (lax:Bool) (z:Int):Int × Int × Int × Int:=if (clb es z).1=0 then (if expB x lax (clb es z).2.1 (clb es z).2.2.1=true then (9,0,0,0) else clb es z) else ((clb es z).1,0,0,0)
theorem oldB_iff {es:List (Int × Int)}:oldB es=true↔day0 es=41317∧(es.getD 0 (0,0)).2=10:=by unfold oldB;simp
theorem useR_iff {es:List (Int × Int)} {d:Int}:useR es d=true↔oldB es=true∧d < 41317:=by unfold useR;simp
theorem useL_iff {es:List (Int × Int)} {z:Int}:useL es z=true↔oldB es=true∧(labUt es z).1=8:=by unfold useL;simp
theorem tai_day {l:List Sg} {day off:Int} (h:MOk l day off) {d s a:Int} (he:taiE l day off d s a=0):d < day:=by
 obtain ⟨hs,ha,hk,h1,h2,h3,h4,h5⟩:=tai_ok h he
 have:=h.toLOk.unt_day hk
 omega
section
variable {es:List (Int × Int)} (hp:okPre es es.length=true) (hn:0 < es.length)
include hp hn
theorem clk_forth {z:Int} (he:(clb es z).1=0):ctE es (clb es z).2.1 (clb es z).2.2.1 (clb es z).2.2.2=0∧(ctV es (clb es z).2.1 (clb es z).2.2.1 (clb es z).2.2.2=z∨oldB es=true∧(clb es z).2.1 < 41317∧ctV es (clb es z).2.1 (clb es z).2.2.1 (clb es z).2.2.2=z-1):=by
  have _:=hn
  unfold clb at *
  by_cases hu:useL es z=true
  · rw [if_pos hu] at he ⊢
    obtain ⟨ho,h8⟩:=useL_iff.1 hu
    obtain ⟨q1,q2⟩:=lab_tai pub_ok he
    have hd:=tai_day pub_ok q1
    have hr:useR es (labD pubS 41317 10 z)=true:=useR_iff.2 ⟨ho,hd⟩
    unfold ctE ctV
    simp only [hr,if_true]
    refine ⟨q1,?_⟩
    rcases q2 with q2 | q2
    · exact .inl q2
    · exact .inr ⟨ho,hd,q2⟩
  · rw [if_neg hu] at he ⊢
    obtain ⟨h1,h2⟩:=utc_forth hp he
    obtain ⟨_,_,_,_,_,_,h3,_⟩:=whyU_ok h1
    have hr:¬ useR es (labUt es z).2.1=true:=fun h=>by
      obtain ⟨ho,hd⟩:=useR_iff.1 h
      have:=(oldB_iff.1 ho).1
      omega
    unfold ctE ctV
    rw [if_neg hr,if_neg hr]
    exact ⟨h1,.inl h2⟩
end
theorem ctE_bd {es:List (Int × Int)} {d s a:Int} (he:ctE es d s a=0):0≤s∧s≤86400∧0≤a∧a < 1000000000000000000 ∧ -1099511627776≤d∧d≤1099511627776:=by
  unfold ctE at he
  by_cases hu:useR es d=true
  · rw [if_pos hu] at he
    obtain ⟨hs,ha,hk,h1,h2,_⟩:=tai_ok pub_ok he
    have:=pub_ok.toLOk.unt_day hk
    have:=(pub_ok.seg _ hk).d0
    omega
  · rw [if_neg hu] at he
    have:=whyU_ok he
    omega
end Go.Proofs.YtdfkghpgekmmlaaGreat
namespace Go.Proofs.YtdfkghpgekmmlaaGreat
open Go.RowKit
theorem IsC.cellR {w:World} {c g:Nat} {b:Value} {u x:Int} {es:List (Int × Int)} (h:IsC w c g b u x es) (ho:oldB es=true):w.cell? ⟨c,1,none⟩=some (vP (ptrB b) 0):=h.cell1.trans (congrArg some (h.bform ho))
theorem IsC.pre {w:World} {c g:Nat} {b:Value} {u x:Int} {es:List (Int × Int)} (h:IsC w c g b u x es):okPre es es.length=true∧0 < es.length∧es.length≤64:=okT_pre h.ok
section
variable {w:World} {c g:Nat} {b:Value} {u x:Int} {es:List (Int × Int)} (h:IsC w c g b u x es)
include h
theorem cleaps_any:Calls Tryz.prog 25 #[vP c 0] w fun e w'=>e = .returned (vP g 0)∧Below w.heap.size w w':=by
 have c0:=h.cell0
 clear h
 go_enter Tryz.func25,Tryz.ntmps25
 go_wp2
 go_ret
 exact ⟨rfl,Below.refl _ _⟩
theorem cold_any:Calls Tryz.prog 24 #[vP c 0] w fun e w'=>e = .returned (.bool (oldB es))∧Below w.heap.size w w':=by
  have c1:=h.cell1
  cases ho:oldB es
  · obtain rfl:=h.nil ho
    clear h
    go_enter Tryz.func24,Tryz.ntmps24
    go_wp2
    go_ret
    exact ⟨rfl,Below.refl _ _⟩
  · have hb:=h.bform ho
    generalize ptrB b=k at hb
    subst hb
    clear h
    go_enter Tryz.func24,Tryz.ntmps24
    go_wp2
    go_ret
    exact ⟨rfl,Below.refl _ _⟩
end
theorem Cur.off {n:Nat} {w0:World} {row ex:Option Nat} {Ψ Θ:World→Prop} {L:Slots} {M:List Ent} {a:Act} {w:World} (h:Cur n w0 row ex Ψ Θ L M a w):Cur n w0 row none Ψ (fun _=>True) L M a w:=
 ⟨h.sz,h.df,⟨h.st.gr,h.st.nod,h.st.own,fun _ hg=>(by cases hg),fun w' ha=>h.st.psi w' ⟨ha.1,fun k hk hM _=>ha.2 k hk hM (by simp)⟩,fun _ _=>trivial⟩,h.sl⟩
def TaiG (g:Nat) (w:World) (v:Value) (z e:Int):Prop:=v = .tuple #[tp v 0,vI e]∧BigX (some g) w (tp v 0) z
theorem TaiG.form {g:Nat} {w:World} {v:Value} {z e:Int} (h:TaiG g w v z e):v=taiF z e v:=by
 unfold taiF
 rw [← h.2.form]
 exact h.1
theorem TaiG.keep {g:Nat} {w w':World} {v:Value} {z e:Int} (h:TaiG g w v z e) (hk:Keep (some g) w w'):TaiG g w' v z e:=⟨h.1,h.2.keep hk⟩
def SegG (ex:Option Nat) (w:World) (v:Value) (l:List Sg):Prop:=SegT w v l∧∀ k,ex=some k→v.ownBlock≠some k
theorem SegG.form {ex:Option Nat} {w:World} {v:Value} {l:List Sg} (h:SegG ex w v l):v=segF l v:=h.1.form
theorem SegG.keep {ex:Option Nat} {w w':World} {v:Value} {l:List Sg} (h:SegG ex w v l) (hk:KeepT [128] ex w w'):SegG ex w' v l:=⟨h.1.keep (Ts:=[128]) rfl hk h.2,h.2⟩
theorem SegG.u {ex:Option Nat} {w:World} {v:Value} {l:List Sg} (h:SegG ex w v l):SegU w (.slice (sA v) l.length (sC v)) l:=h.1.u.re
theorem Facts.segG {L:List (World→Prop)} {w:World} {ex:Option Nat} {v:Value} {l:List Sg} (h:Facts L w) (k:Nat) (hk:L[k]? = some (fun w=>SegG ex w v l)):SegU w (.slice (sA v) l.length (sC v)) l:=(show SegG ex w v l from h.get k hk).u
theorem At.segG {R:Reg} {i:Nat} {D:Nat→Bool} {env:Env} {a:Act} {w:World} (h:At R i D env a w) (j:Nat) {ex:Option Nat} {l:List Sg} (hj:((R.cl.getD i []).contains j && !(j == i))=true) (hs:((R.cl.getD j []).contains j)=true) (hF:R.F.filter (fun p=>Nat.beq p.1 j)=[(j,fun env w=>SegG ex w (env j) l)]):SegU w (.slice (sA (env j)) l.length (sC (env j))) l:=(h.fact j (φ:=fun v w=>SegG ex w v l) hj hs hF).u
theorem segments_g {g:Nat} {w:World} (hg:g < w.heap.size):Calls Tryz.prog 42 #[] w fun e w'=>∃ v,e = .returned v∧Below w.heap.size w w'∧SegG (some g) w' v pubS:=by
 refine (segments_any w).mono ?_
 rintro e w' ⟨v,rfl,hb,h1,h2⟩
 refine ⟨v,rfl,hb,h1,fun k hk hb'=>?_⟩
 obtain rfl:=Option.some.inj hk
 have:=h2 _ hb'
 omega
theorem clk_first {w:World} {g:Nat} {u x:Int} {es:List (Int × Int)} (h:IsLx w g u x es):LeapC Tryz.prog 40 [vP g 0] w g u x es (vI (day0 es)):=by
 obtain ⟨q,h⟩:=h
 exact (first_any g u x q es w h).mono (fun e w' h=>⟨h.1,⟨_,h.2.1⟩,h.2.2⟩)
end Go.Proofs.YtdfkghpgekmmlaaGreat
namespace Go.Proofs.YtdfkghpgekmmlaaGreat
open Go.RowKit
attribute [local go_sem] vN bT bF rS vW vM vL vT2 vT3 vP vI execOp Act.eval evC bigF vB hi_zero lo_zero Tryz.underlying26 Tryz.underlying34 Tryz.underlying78
theorem ct_rub {es:List (Int × Int)} {d s a:Int} (ho:oldB es=true) (hd:d < 41317):ctV es d s a=taiV pubS 41317 10 d s a∧ctE es d s a=taiE pubS 41317 10 d s a:=by
 have hu:=useR_iff.2 ⟨ho,hd⟩
 unfold ctV ctE
 rw [if_pos hu,if_pos hu]
 exact ⟨rfl,rfl⟩
theorem ct_utc {es:List (Int × Int)} {d s a:Int} (h:oldB es=false∨¬ d < 41317):ctV es d s a=taiU es d s a∧ctE es d s a=whyU es d s a:=by
  have hu:¬ useR es d=true:=fun hu=>by
    obtain ⟨h1,h2⟩:=useR_iff.1 hu
    rcases h with h | h
    · rw [h1] at h;cases h
    · exact h h2
  unfold ctV ctE
  rw [if_neg hu,if_neg hu]
  exact ⟨rfl,rfl⟩
theorem clb_rub {es:List (Int × Int)} {z:Int} (ho:oldB es=true) (h8:(labUt es z).1=8):clb es z=(labE pubS 41317 10 z,labD pubS 41317 10 z,labS pubS 41317 10 z,labA pubS 41317 10 z):=by
 unfold clb
 rw [if_pos (useL_iff.2 ⟨ho,h8⟩)]
theorem clb_utc {es:List (Int × Int)} {z:Int} (h:oldB es=false∨¬ (labUt es z).1=8):clb es z=labUt es z:=by
  unfold clb
  rw [if_neg]
  intro hu
  obtain ⟨h1,h2⟩:=useL_iff.1 hu
  rcases h with h | h
  · rw [h1] at h;cases h
  · exact h h2
theorem IsR.re {ex:Option Nat} {w:World} {v:Value} {l:List Sg} {day off:Int} (h:IsR ex w v l day off):IsR ex w (vP (ptrB v) 0) l day off:=by
 have e:=h.form
 rw [← e]
 exact h
theorem IsC.bdL {w:World} {c g:Nat} {b:Value} {u x:Int} {es:List (Int × Int)} (h:IsC w c g b u x es) {z:Int} (he:(clb es z).1=0):0≤(clb es z).2.2.1∧(clb es z).2.2.1≤86400∧0≤(clb es z).2.2.2∧(clb es z).2.2.2 < 1000000000000000000 ∧ -1099511627776≤(clb es z).2.1∧(clb es z).2.1≤1099511627776:=by
 obtain ⟨hp,hn,_⟩:=h.pre
 exact ctE_bd (clk_forth hp hn he).1
theorem cover_w (w0:World) (c g:Nat) (b:Value) (u x:Int) (es:List (Int × Int)) (hC:IsC w0 c g b u x es) (d s a:Int) (q4:-1099511627776≤d) (q5:d≤1099511627776) (q0:0≤s) (q1:s≤86400):Calls Tryz.prog 44 #[vP c 0,vL d s a] w0 fun e w'=>e = .returned (.bool (overB x d s))∧Below w0.heap.size w0 w':=by
 have hst:=St.start w0 (Θ:=fun _=>True) (fun _ _=>trivial)
 refine enter Tryz.func44 rfl (n:=17) rfl (Nat.le_of_ble_eq_true rfl) hst (L:=[(0,vP c 0),(1,vL d s a)]) (lk_args rfl) (fun ac h=>?_)
 refine wp_seq ?_
 refine rg_ h [[0],[1]] [KE_ fun env=>vP (pb env 0) 0,K_ bF] (fun E1=>[(0,vP c 0),(3,vP (pb E1 0) 0),(4,bF)]) (W:=[{ i:=0,T:=26,c0:=[vI d,vI s,vI a] }]) (M':=fun E1=>[((pb E1 0),26,[vI d,vI s,vI a])]) (hs:=c_ (bx0 0 (vL d s a))<|c_ mv_<|e_) (k:=fun E1 ac wd h_1=>?_)
 clear h
 refine then_n (wp_seq ?_)
 refine rg_ h_1 [[0],[0,1],[0,1,2],r_ 4,[4],[4,5],r_ 7,[7],[7,8],[7,8,9],[7,8,9,10],r_ 12,r_ 13] [K_ (vP (pb E1 0) 0),K_ (vI d),K_ (vI (d-15020)),K_ (vI ((d-15020)*86400)),K_ (vP (pb E1 0) 1),K_ (vI s),K_ (vI (((d-15020)*86400)+s)),K_ (vP c 0),K_ (vP c 0),K_ (vP c 2),K_ (vI x),K_ (.bool (decide (x≤((d-15020)*86400)+s))),K_ (.bool (decide (x≤((d-15020)*86400)+s)))] (fun E2=>[(4,.bool (decide (x≤((d-15020)*86400)+s)))]) (hs:=c_ (fa0 (vP (pb E1 0) 0))<|c_ (ld_ 0 (hrd:=by exact rd3 rfl))<|c_ (bi0 (vI d) (vI 15020))<|c_ (bi0 (vI (d-15020)) (vI 86400))<|c_ (fa0 (vP (pb E1 0) 0))<|c_ (ld_ 0 (hrd:=by exact rd3 rfl))<|c_ (bi0 (vI ((d-15020)*86400)) (vI s))<|c_ mv_<|c_ (nc0 (vP c 0))<|c_ (fa0 (vP c 0))<|c_ (by refine s_v rfl rfl rfl rfl (fun {D env ac wd} hA=>?_);have e14:ac.tmps[14]? = some (vP c 2):=hA.g rfl;have hcx:wd.cell? ⟨c,2,none⟩=some (vI x):=(Blk.grown hC.2.1 hA.j.st.gr (by simp)).cell 2;simp [go_sem,e14,hcx])<|c_ (bi0 (vI (((d-15020)*86400)+s)) (vI x))<|c_ mv_<|e_) (k:=fun E2 ac wd h_2=>?_)
 clear h_1
 refine then_n (wp_ret ?_)
 have s4:=h_2.g (t:=4) rfl
 refine leave (v:=.bool (decide (x≤((d-15020)*86400)+s))) h_2.df (by simp [results,Tryz.results44,go_sem,Array.getD_eq_getD_getElem?,s4]) ?_
 exact ⟨rfl,h_2.st.below⟩
theorem cover_any {w:World} {c g:Nat} {b:Value} {u x:Int} {es:List (Int × Int)} (hC:IsC w c g b u x es) (d s a:Int) (q4:-1099511627776≤d) (q5:d≤1099511627776) (q0:0≤s) (q1:s≤86400):Calls Tryz.prog 44 #[vP c 0,vL d s a] w fun e w'=>e = .returned (.bool (overB x d s))∧Below w.heap.size w w':=cover_w w c g b u x es hC d s a q4 q5 q0 q1
theorem ctai_c (w0:World) (c g:Nat) (b:Value) (u x:Int) (es:List (Int × Int)) (hC:IsC w0 c g b u x es) (d s a:Int) (hd0:-9223372036854775808≤d) (hd1:d < 9223372036854775808):ClkC Tryz.prog 43 [vP c 0,vL d s a] w0 c g b u x es (vT2 (vW (ctV es d s a)) (vI (ctE es d s a))):=by
 unfold ClkC
 have hst:=St.startC w0 hC
 refine enter Tryz.func43 rfl (n:=27) rfl (Nat.le_of_ble_eq_true rfl) hst (L:=[(0,vP c 0),(1,vL d s a)]) (lk_args rfl) (fun ac h=>?_)
 refine wp_seq ?_
 refine rg_ h [[0],[1],[2]] [KE_ fun env=>vP (pb env 0) 0,KE_ fun env=>vP (pb env 1) 0,K_ (vI 0)] (fun E1=>[(0,vP c 0),(3,vP (pb E1 0) 0),(4,vP (pb E1 1) 0),(5,vI 0)]) (W:=[{ i:=0,T:=26,c0:=[vI d,vI s,vI a] },{ i:=1,T:=34,c0:=[vI 0,.int .u64 0] }]) (M':=fun E1=>[((pb E1 0),26,[vI d,vI s,vI a]),((pb E1 1),34,[vI 0,.int .u64 0])]) (hs:=c_ (bx0 0 (vL d s a))<|c_ (al_ 1)<|c_ mv_<|e_) (k:=fun E1 ac wd h_1=>?_)
 clear h
 refine then_n (wp_seq (wp_seq ?_))
 cases ho:oldB es
 refine rg_ h_1 (tri 7) [K_ (vP c 0),K_ bF,K_ bF,K_ undef,K_ undef,K_ undef,K_ bF] (fun E2=>[(0,vP c 0),(3,vP (pb E1 0) 0),(4,vP (pb E1 1) 0),(5,vI 0),(12,bF)]) (hs:=c_ mv_<|c_ (cw_ Tryz.func24 (h:=fun _ env _ wd hA=>⟨_,(u_res_eq (cold_any (hA.thO rfl)) (congrArg Value.bool ho)),rfl⟩))<|c_ mv_<|c_ off_<|c_ off_<|c_ off_<|c_ (pk0 bF undef bF)<|e_) (k:=fun E2 ac wd h_2=>?_)
 clear h_1
 refine then_n ?_
 refine wp_cond_false (eval_tmp (h_2.g (t:=12) rfl)) ?_
 refine wp_skip (then_n (wp_seq ?_))
 refine rg_ h_2 [[0],[0,1],[2],r_ 4,r_ 5,[0,1,2,3,5],r_ 7,r_ 8] [K_ (vP c 0),K_ (vP g 0),K_ (vL d s a),K_ (vT2 (vW (taiU es d s a)) (vI (whyU es d s a))),K_ (vW (taiU es d s a)),K_ (vI (whyU es d s a)),none,K_ (vI (whyU es d s a))] (fun E3=>[(4,vP (pb E1 1) 0),(5,vI (whyU es d s a))]) (S:=[⟨1,6,fun _=>[vI (hi (taiU es d s a)),.int .u64 (lo (taiU es d s a))]⟩]) (M':=fun E3=>[((pb E1 0),26,[vI d,vI s,vI a]),((pb E1 1),34,[vI (hi (taiU es d s a)),.int .u64 (lo (taiU es d s a))])]) (hs:=c_ mv_<|c_ (cw_ Tryz.func25 (h:=fun _ env _ wd hA=>⟨_,(cleaps_any (hA.thO rfl)),rfl⟩))<|c_ (ld_ 0 (hrd:=by exact rd26 rfl rfl rfl))<|c_ (s_clk (c:=c) (g:=g) (b:=b) (u:=u) (x:=x) (es:=es) Tryz.func73 (fun _ h=>h) (fun _ h=>h) (h:=fun D env ac wd hA hC=>⟨_,LeapC.clk hC (utai_l _ g u x es (IsC.lx hC) d s a),rfl⟩))<|c_ ext_<|c_ ext_<|c_ (se_ 1 (hst:=by exact fun _ _ _ hc=>st34 rfl rfl rfl hc))<|c_ mv_<|e_) (k:=fun E3 ac wd h_3=>?_)
 clear h_2
 refine then_n (wp_ret ?_)
 have s4:=h_3.g (t:=4) rfl
 have hc4:=(h_3.st.own 1 _ rfl).2
 have c4_0:=own_cell (o:=0) hc4 rfl
 have c4_1:=own_cell (o:=1) hc4 rfl
 have s5:=h_3.g (t:=5) rfl
 refine leave (v:=vT2 (vW (taiU es d s a)) (vI (whyU es d s a))) h_3.df (by simp [results,Tryz.results43,go_sem,Array.getD_eq_getD_getElem?,s4,c4_0,c4_1,Tryz.underlying34,s5]) ?_
 obtain ⟨e1,e2⟩:ctV es d s a=taiU es d s a∧ctE es d s a=whyU es d s a:=ct_utc (.inl ho)
 exact ⟨by rw [e1,e2],h_3.st.nowT,h_3.st.gr⟩
 by_cases hd:d < 41317
 refine rg_ h_1 (tri 7) [K_ (vP c 0),K_ bT,K_ bT,K_ (vP (pb E1 0) 0),K_ (vI d),K_ bT,K_ bT] (fun E2=>[(0,vP c 0),(3,vP (pb E1 0) 0),(4,vP (pb E1 1) 0),(5,vI 0),(12,bT)]) (hs:=c_ mv_<|c_ (cw_ Tryz.func24 (h:=fun _ env _ wd hA=>⟨_,(u_res_eq (cold_any (hA.thO rfl)) (congrArg Value.bool ho)),rfl⟩))<|c_ mv_<|c_ (fa0 (vP (pb E1 0) 0))<|c_ (ld_ 0 (hrd:=by exact rd3 rfl))<|c_ (bi0 (vI d) (vI 41317) (h:=by intro env w;simp [go_sem,hd]))<|c_ (pk0 bT bT bF (h:=by intro env w;simp [go_sem,hd]))<|e_) (k:=fun E2 ac wd h_2=>?_)
 clear h_1
 refine then_n ?_
 refine wp_cond_true (eval_tmp (h_2.g (t:=12) rfl)) ?_
 refine wp_seq ?_
 refine rg_ h_2 [[0],[0,1],[0,1,2],r_ 4,[4],r_ 6,r_ 7,[0,1,2,3,4,5,7],r_ 9,r_ 10] [K_ (vP c 0),K_ (vP c 0),K_ (vP c 1),K_ (vP (ptrB b) 0),K_ (vL d s a),K_ (vT2 (vW (taiV pubS 41317 10 d s a)) (vI (taiE pubS 41317 10 d s a))),K_ (vW (taiV pubS 41317 10 d s a)),K_ (vI (taiE pubS 41317 10 d s a)),none,K_ (vI (taiE pubS 41317 10 d s a))] (fun E3=>[(0,vP c 0),(3,vP (pb E1 0) 0),(4,vP (pb E1 1) 0),(5,vI (taiE pubS 41317 10 d s a))]) (S:=[⟨1,8,fun _=>[vI (hi (taiV pubS 41317 10 d s a)),.int .u64 (lo (taiV pubS 41317 10 d s a))]⟩]) (M':=fun E3=>[((pb E1 0),26,[vI d,vI s,vI a]),((pb E1 1),34,[vI (hi (taiV pubS 41317 10 d s a)),.int .u64 (lo (taiV pubS 41317 10 d s a))])]) (hs:=c_ mv_<|c_ (nc0 (vP c 0))<|c_ (fa0 (vP c 0))<|c_ (by refine s_v rfl rfl rfl rfl (fun {D env ac wd} hA=>?_);have e15:ac.tmps[15]? = some (vP c 1):=hA.g rfl;have hcr:=IsC.cellR (hA.thO rfl) ho;simp [go_sem,e15,hcr])<|c_ (ld_ 0 (hrd:=by exact rd26 rfl rfl rfl))<|c_ (cw_ Tryz.func72 (h:=fun _ env _ wd hA=>⟨_,(tai_X (IsC.r (hA.thO rfl) ho) pub_ok.toLOk d s a hd0 hd1),rfl⟩))<|c_ ext_<|c_ ext_<|c_ (se_ 1 (hst:=by exact fun _ _ _ hc=>st34 rfl rfl rfl hc))<|c_ mv_<|e_) (k:=fun E3 ac wd h_3=>?_)
 clear h_2
 refine then_n (wp_ret (then_ret ?_))
 have s4:=h_3.g (t:=4) rfl
 have hc4:=(h_3.st.own 1 _ rfl).2
 have c4_0:=own_cell (o:=0) hc4 rfl
 have c4_1:=own_cell (o:=1) hc4 rfl
 have s5:=h_3.g (t:=5) rfl
 refine leave (v:=vT2 (vW (taiV pubS 41317 10 d s a)) (vI (taiE pubS 41317 10 d s a))) h_3.df (by simp [results,Tryz.results43,go_sem,Array.getD_eq_getD_getElem?,s4,c4_0,c4_1,Tryz.underlying34,s5]) ?_
 obtain ⟨e1,e2⟩:ctV es d s a=taiV pubS 41317 10 d s a∧ctE es d s a=taiE pubS 41317 10 d s a:=ct_rub ho hd
 exact ⟨by rw [e1,e2],h_3.st.nowT,h_3.st.gr⟩
 refine rg_ h_1 (tri 7) [K_ (vP c 0),K_ bT,K_ bT,K_ (vP (pb E1 0) 0),K_ (vI d),K_ bF,K_ bF] (fun E2=>[(0,vP c 0),(3,vP (pb E1 0) 0),(4,vP (pb E1 1) 0),(5,vI 0),(12,bF)]) (hs:=c_ mv_<|c_ (cw_ Tryz.func24 (h:=fun _ env _ wd hA=>⟨_,(u_res_eq (cold_any (hA.thO rfl)) (congrArg Value.bool ho)),rfl⟩))<|c_ mv_<|c_ (fa0 (vP (pb E1 0) 0))<|c_ (ld_ 0 (hrd:=by exact rd3 rfl))<|c_ (bi0 (vI d) (vI 41317) (h:=by intro env w;simp [go_sem,hd]))<|c_ (pk0 bT bF bF (h:=by intro env w;simp [go_sem,hd]))<|e_) (k:=fun E2 ac wd h_2=>?_)
 clear h_1
 refine then_n ?_
 refine wp_cond_false (eval_tmp (h_2.g (t:=12) rfl)) ?_
 refine wp_skip (then_n (wp_seq ?_))
 refine rg_ h_2 [[0],[0,1],[2],r_ 4,r_ 5,[0,1,2,3,5],r_ 7,r_ 8] [K_ (vP c 0),K_ (vP g 0),K_ (vL d s a),K_ (vT2 (vW (taiU es d s a)) (vI (whyU es d s a))),K_ (vW (taiU es d s a)),K_ (vI (whyU es d s a)),none,K_ (vI (whyU es d s a))] (fun E3=>[(4,vP (pb E1 1) 0),(5,vI (whyU es d s a))]) (S:=[⟨1,6,fun _=>[vI (hi (taiU es d s a)),.int .u64 (lo (taiU es d s a))]⟩]) (M':=fun E3=>[((pb E1 0),26,[vI d,vI s,vI a]),((pb E1 1),34,[vI (hi (taiU es d s a)),.int .u64 (lo (taiU es d s a))])]) (hs:=c_ mv_<|c_ (cw_ Tryz.func25 (h:=fun _ env _ wd hA=>⟨_,(cleaps_any (hA.thO rfl)),rfl⟩))<|c_ (ld_ 0 (hrd:=by exact rd26 rfl rfl rfl))<|c_ (s_clk (c:=c) (g:=g) (b:=b) (u:=u) (x:=x) (es:=es) Tryz.func73 (fun _ h=>h) (fun _ h=>h) (h:=fun D env ac wd hA hC=>⟨_,LeapC.clk hC (utai_l _ g u x es (IsC.lx hC) d s a),rfl⟩))<|c_ ext_<|c_ ext_<|c_ (se_ 1 (hst:=by exact fun _ _ _ hc=>st34 rfl rfl rfl hc))<|c_ mv_<|e_) (k:=fun E3 ac wd h_3=>?_)
 clear h_2
 refine then_n (wp_ret ?_)
 have s4:=h_3.g (t:=4) rfl
 have hc4:=(h_3.st.own 1 _ rfl).2
 have c4_0:=own_cell (o:=0) hc4 rfl
 have c4_1:=own_cell (o:=1) hc4 rfl
 have s5:=h_3.g (t:=5) rfl
 refine leave (v:=vT2 (vW (taiU es d s a)) (vI (whyU es d s a))) h_3.df (by simp [results,Tryz.results43,go_sem,Array.getD_eq_getD_getElem?,s4,c4_0,c4_1,Tryz.underlying34,s5]) ?_
 obtain ⟨e1,e2⟩:ctV es d s a=taiU es d s a∧ctE es d s a=whyU es d s a:=ct_utc (.inr hd)
 exact ⟨by rw [e1,e2],h_3.st.nowT,h_3.st.gr⟩
theorem cexists_c (w0:World) (c g:Nat) (b:Value) (u x:Int) (es:List (Int × Int)) (hC:IsC w0 c g b u x es) (d s a:Int) (hd0:-9223372036854775808≤d) (hd1:d < 9223372036854775808):ClkC Tryz.prog 17 [vP c 0,vL d s a] w0 c g b u x es (.bool (ctE es d s a == 0)):=by
 unfold ClkC
 have hst:=St.startC w0 hC
 refine enter Tryz.func17 rfl (n:=15) rfl (Nat.le_of_ble_eq_true rfl) hst (L:=[(0,vP c 0),(1,vL d s a)]) (lk_args rfl) (fun ac h=>?_)
 refine wp_seq ?_
 refine rg_ h [[0],[1]] [KE_ fun env=>vP (pb env 0) 0,K_ bF] (fun E1=>[(0,vP c 0),(3,vP (pb E1 0) 0),(4,bF)]) (W:=[{ i:=0,T:=26,c0:=[vI d,vI s,vI a] }]) (M':=fun E1=>[((pb E1 0),26,[vI d,vI s,vI a])]) (hs:=c_ (bx0 0 (vL d s a))<|c_ mv_<|e_) (k:=fun E1 ac wd h_1=>?_)
 clear h
 refine then_n (wp_seq ?_)
 refine rg_ h_1 [[0],[1],[0,1,2],r_ 4,r_ 5,[0,1,2,3,5],[6],[0,1,2,3,4,6,7],r_ 9] [K_ (vP c 0),K_ (vL d s a),K_ (vT2 (vW (ctV es d s a)) (vI (ctE es d s a))),K_ (vT2 (vW (ctV es d s a)) (vI (ctE es d s a))),K_ (vW (ctV es d s a)),K_ (vI (ctE es d s a)),KE_ fun env=>vP (pb env 6) 0,none,K_ (vI (ctE es d s a))] (fun E2=>[(4,bF),(6,vI (ctE es d s a))]) (W:=[{ i:=6,T:=34,c0:=[vI 0,.int .u64 0],s:=some 7,c1:=fun _=>[vI (hi (ctV es d s a)),.int .u64 (lo (ctV es d s a))] }]) (M':=fun E2=>[((pb E1 0),26,[vI d,vI s,vI a]),((pb E2 6),34,[vI (hi (ctV es d s a)),.int .u64 (lo (ctV es d s a))])]) (hs:=c_ mv_<|c_ (ld_ 0 (hrd:=by exact rd26 rfl rfl rfl))<|c_ (s_clk (c:=c) (g:=g) (b:=b) (u:=u) (x:=x) (es:=es) Tryz.func43 (fun _ h=>h) (fun _ h=>h) (h:=fun D env ac wd hA hC=>⟨_,ctai_c _ c g b u x es hC d s a hd0 hd1,rfl⟩))<|c_ mv_<|c_ ext_<|c_ ext_<|c_ (al_ 1)<|c_ (sw_ 1 6 (hst:=by exact fun _ _ _ hc=>st34 rfl rfl rfl hc))<|c_ mv_<|e_) (k:=fun E2 ac wd h_2=>?_)
 clear h_1
 refine then_n (wp_seq ?_)
 refine rg_ h_2 (tri 3) [K_ (vI (ctE es d s a)),K_ (.bool ((ctE es d s a) == 0)),K_ (.bool ((ctE es d s a) == 0))] (fun E3=>[(4,.bool ((ctE es d s a) == 0))]) (hs:=c_ mv_<|c_ (bi0 (vI (ctE es d s a)) (vI 0))<|c_ mv_<|e_) (k:=fun E3 ac wd h_3=>?_)
 clear h_2
 refine then_n (wp_ret ?_)
 have s4:=h_3.g (t:=4) rfl
 refine leave (v:=.bool ((ctE es d s a) == 0)) h_3.df (by simp [results,Tryz.results17,go_sem,Array.getD_eq_getD_getElem?,s4]) ?_
 exact ⟨rfl,h_3.st.nowT,h_3.st.gr⟩
theorem cTai_c (w0:World) (c g:Nat) (b:Value) (u x:Int) (es:List (Int × Int)) (hC:IsC w0 c g b u x es) (lax:Bool) (d s a:Int) (hd0:-9223372036854775808≤d) (hd1:d < 9223372036854775808):ClkC Tryz.prog 15 [vP c 0,vL d s a,.bool (lax)] w0 c g b u x es (vT2 (vW (tV es x lax d s a)) (vI (tE es x lax d s a))):=by
 unfold ClkC
 have hst:=St.startC w0 hC
 refine enter Tryz.func15 rfl (n:=31) rfl (Nat.le_of_ble_eq_true rfl) hst (L:=[(0,vP c 0),(1,vL d s a),(2,.bool (lax))]) (lk_args rfl) (fun ac h=>?_)
 refine wp_seq ?_
 refine rg_ h [[0],[1],[2]] [KE_ fun env=>vP (pb env 0) 0,KE_ fun env=>vP (pb env 1) 0,K_ (vI 0)] (fun E1=>[(0,vP c 0),(2,.bool (lax)),(4,vP (pb E1 0) 0),(6,vP (pb E1 1) 0),(7,vI 0)]) (W:=[{ i:=0,T:=26,c0:=[vI d,vI s,vI a] },{ i:=1,T:=34,c0:=[vI 0,.int .u64 0] }]) (M':=fun E1=>[((pb E1 0),26,[vI d,vI s,vI a]),((pb E1 1),34,[vI 0,.int .u64 0])]) (hs:=c_ (bx0 0 (vL d s a))<|c_ (al_ 1)<|c_ mv_<|e_) (k:=fun E1 ac wd h_1=>?_)
 clear h
 refine then_n (wp_seq ?_)
 refine rg_ h_1 [[0],[1],[0,1,2],r_ 4,r_ 5,[0,1,2,3,5],[6],[0,1,2,3,4,6,7],r_ 9] [K_ (vP c 0),K_ (vL d s a),K_ (vT2 (vW (ctV es d s a)) (vI (ctE es d s a))),K_ (vT2 (vW (ctV es d s a)) (vI (ctE es d s a))),K_ (vW (ctV es d s a)),K_ (vI (ctE es d s a)),KE_ fun env=>vP (pb env 6) 0,none,K_ (vI (ctE es d s a))] (fun E2=>[(0,vP c 0),(2,.bool (lax)),(4,vP (pb E1 0) 0),(6,vP (pb E1 1) 0),(7,vI 0),(8,vP (pb E2 6) 0),(9,vI (ctE es d s a))]) (W:=[{ i:=6,T:=34,c0:=[vI 0,.int .u64 0],s:=some 7,c1:=fun _=>[vI (hi (ctV es d s a)),.int .u64 (lo (ctV es d s a))] }]) (M':=fun E2=>[((pb E1 0),26,[vI d,vI s,vI a]),((pb E1 1),34,[vI 0,.int .u64 0]),((pb E2 6),34,[vI (hi (ctV es d s a)),.int .u64 (lo (ctV es d s a))])]) (hs:=c_ mv_<|c_ (ld_ 0 (hrd:=by exact rd26 rfl rfl rfl))<|c_ (s_clk (c:=c) (g:=g) (b:=b) (u:=u) (x:=x) (es:=es) Tryz.func43 (fun _ h=>h) (fun _ h=>h) (h:=fun D env ac wd hA hC=>⟨_,ctai_c _ c g b u x es hC d s a hd0 hd1,rfl⟩))<|c_ mv_<|c_ ext_<|c_ ext_<|c_ (al_ 2)<|c_ (sw_ 2 6 (hst:=by exact fun _ _ _ hc=>st34 rfl rfl rfl hc))<|c_ mv_<|e_) (k:=fun E2 ac wd h_2=>?_)
 clear h_1
 refine then_n (wp_seq (wp_block (wp_seq ?_)))
 by_cases he:ctE es d s a=0
 obtain ⟨q0,q1,q2,q3,q4,q5⟩:=ctE_bd he
 refine rg_ h_2 (tri 3) [K_ (vI (ctE es d s a)),K_ bF,K_ bF] (fun E3=>[(0,vP c 0),(2,.bool (lax)),(4,vP (pb E1 0) 0),(6,vP (pb E1 1) 0),(7,vI 0),(8,vP (pb E2 6) 0),(9,vI (ctE es d s a)),(16,bF)]) (hs:=c_ mv_<|c_ (bi0 (vI (ctE es d s a)) (vI 0) (h:=by intro env w;simp [go_sem,he]))<|c_ mv_<|e_) (k:=fun E3 ac wd h_3=>?_)
 clear h_2
 refine then_n ?_
 refine wp_cond_false (eval_tmp (h_3.g (t:=16) rfl)) ?_
 refine wp_seq ?_
 rcases lax with _ | _
 cases hov:overB x d s
 refine rg_ h_3 [[0],[0,1],[0,1,2],r_ 4,[0,1,2,4],r_ 6,r_ 7,r_ 8] [K_ bF,K_ bT,K_ bT,K_ (vP c 0),K_ (vL d s a),K_ bF,K_ bF,K_ bF] (fun E4=>[(6,vP (pb E1 1) 0),(7,vI 0),(8,vP (pb E2 6) 0),(21,bF)]) (hs:=c_ mv_<|c_ (un0 bF)<|c_ mv_<|c_ (gm0 (vP c 0))<|c_ (ld_ 0 (hrd:=by exact rd26 rfl rfl rfl))<|c_ (cw_ Tryz.func44 (h:=fun _ env _ wd hA=>⟨_,(u_res_eq (cover_any (hA.thO rfl) d s a q4 q5 q0 q1) (congrArg Value.bool hov)),rfl⟩))<|c_ (pk0 bT bF bF)<|c_ mv_<|e_) (k:=fun E4 ac wd h_4=>?_)
 clear h_3
 refine then_n ?_
 refine wp_cond_false (eval_tmp (h_4.g (t:=21) rfl)) ?_
 refine wp_skip (blk_n (then_n (wp_seq ?_)))
 refine rg_ h_4 (tri 3) [K_ (vW (ctV es d s a)),none,K_ (vI 0)] (fun E5=>[(6,vP (pb E1 1) 0),(7,vI 0)]) (S:=[⟨1,1,fun _=>[vI (hi (ctV es d s a)),.int .u64 (lo (ctV es d s a))]⟩]) (M':=fun E5=>[((pb E1 0),26,[vI d,vI s,vI a]),((pb E1 1),34,[vI (hi (ctV es d s a)),.int .u64 (lo (ctV es d s a))]),((pb E2 6),34,[vI (hi (ctV es d s a)),.int .u64 (lo (ctV es d s a))])]) (hs:=c_ (ld_ 2 (hrd:=by exact rd34 rfl rfl))<|c_ (se_ 1 (hst:=by exact fun _ _ _ hc=>st34 rfl rfl rfl hc))<|c_ mv_<|e_) (k:=fun E5 ac wd h_5=>?_)
 clear h_4
 refine then_n (wp_ret ?_)
 have s6:=h_5.g (t:=6) rfl
 have hc6:=(h_5.st.own 1 _ rfl).2
 have c6_0:=own_cell (o:=0) hc6 rfl
 have c6_1:=own_cell (o:=1) hc6 rfl
 have s7:=h_5.g (t:=7) rfl
 refine leave (v:=vT2 (vW (ctV es d s a)) (vI 0)) h_5.df (by simp [results,Tryz.results15,go_sem,Array.getD_eq_getD_getElem?,s6,c6_0,c6_1,Tryz.underlying34,s7]) ?_
 have e1:tE es x false d s a=0:=by unfold tE expB;rw [if_pos he];simp [hov]
 have e2:tV es x false d s a=ctV es d s a:=by unfold tV;rw [e1,if_pos rfl]
 exact ⟨by rw [e1,e2],h_5.st.nowT,h_5.st.gr⟩
 refine rg_ h_3 [[0],[0,1],[0,1,2],r_ 4,[0,1,2,4],r_ 6,r_ 7,r_ 8] [K_ bF,K_ bT,K_ bT,K_ (vP c 0),K_ (vL d s a),K_ bT,K_ bT,K_ bT] (fun E4=>[(6,vP (pb E1 1) 0),(7,vI 0),(8,vP (pb E2 6) 0),(21,bT)]) (hs:=c_ mv_<|c_ (un0 bF)<|c_ mv_<|c_ (gm0 (vP c 0))<|c_ (ld_ 0 (hrd:=by exact rd26 rfl rfl rfl))<|c_ (cw_ Tryz.func44 (h:=fun _ env _ wd hA=>⟨_,(u_res_eq (cover_any (hA.thO rfl) d s a q4 q5 q0 q1) (congrArg Value.bool hov)),rfl⟩))<|c_ (pk0 bT bT bF)<|c_ mv_<|e_) (k:=fun E4 ac wd h_4=>?_)
 clear h_3
 refine then_n ?_
 refine wp_cond_true (eval_tmp (h_4.g (t:=21) rfl)) ?_
 refine wp_seq ?_
 refine rg_ h_4 (tri 3) [K_ (.agg #[vI 0,.int .u64 0]),none,K_ (vI 9)] (fun E5=>[(6,vP (pb E1 1) 0),(7,vI 9),(8,vP (pb E2 6) 0)]) (S:=[⟨1,1,fun _=>[vI 0,.int .u64 0]⟩]) (M':=fun E5=>[((pb E1 0),26,[vI d,vI s,vI a]),((pb E1 1),34,[vI 0,.int .u64 0]),((pb E2 6),34,[vI (hi (ctV es d s a)),.int .u64 (lo (ctV es d s a))])]) (hs:=c_ (bd0 ([]))<|c_ (se_ 1 (hst:=by exact fun _ _ _ hc=>st34 rfl rfl rfl hc))<|c_ mv_<|e_) (k:=fun E5 ac wd h_5=>?_)
 clear h_4
 refine then_n (wp_ret (blk_ret (then_ret ?_)))
 have s6:=h_5.g (t:=6) rfl
 have hc6:=(h_5.st.own 1 _ rfl).2
 have c6_0:=own_cell (o:=0) hc6 rfl
 have c6_1:=own_cell (o:=1) hc6 rfl
 have s7:=h_5.g (t:=7) rfl
 refine leave (v:=vT2 (.agg #[vI 0,.int .u64 0]) (vI 9)) h_5.df (by simp [results,Tryz.results15,go_sem,Array.getD_eq_getD_getElem?,s6,c6_0,c6_1,Tryz.underlying34,s7]) ?_
 have e1:tE es x false d s a=9:=by unfold tE expB;rw [if_pos he];simp [hov]
 have e2:tV es x false d s a=0:=by unfold tV;rw [e1,if_neg (by omega)]
 exact ⟨by rw [e1,e2,vW,hi_zero,lo_zero],h_5.st.nowT,h_5.st.gr⟩
 refine rg_ h_3 [[0],[0,1],[0,1,2],r_ 4,[0,1,2,4],r_ 6,r_ 7,r_ 8] [K_ bT,K_ bF,K_ bF,K_ undef,K_ undef,K_ undef,K_ bF,K_ bF] (fun E4=>[(6,vP (pb E1 1) 0),(7,vI 0),(8,vP (pb E2 6) 0),(21,bF)]) (hs:=c_ mv_<|c_ (un0 bT)<|c_ mv_<|c_ off_<|c_ off_<|c_ off_<|c_ (pk0 bF undef bF)<|c_ mv_<|e_) (k:=fun E4 ac wd h_4=>?_)
 clear h_3
 refine then_n ?_
 refine wp_cond_false (eval_tmp (h_4.g (t:=21) rfl)) ?_
 refine wp_skip (blk_n (then_n (wp_seq ?_)))
 refine rg_ h_4 (tri 3) [K_ (vW (ctV es d s a)),none,K_ (vI 0)] (fun E5=>[(6,vP (pb E1 1) 0),(7,vI 0)]) (S:=[⟨1,1,fun _=>[vI (hi (ctV es d s a)),.int .u64 (lo (ctV es d s a))]⟩]) (M':=fun E5=>[((pb E1 0),26,[vI d,vI s,vI a]),((pb E1 1),34,[vI (hi (ctV es d s a)),.int .u64 (lo (ctV es d s a))]),((pb E2 6),34,[vI (hi (ctV es d s a)),.int .u64 (lo (ctV es d s a))])]) (hs:=c_ (ld_ 2 (hrd:=by exact rd34 rfl rfl))<|c_ (se_ 1 (hst:=by exact fun _ _ _ hc=>st34 rfl rfl rfl hc))<|c_ mv_<|e_) (k:=fun E5 ac wd h_5=>?_)
 clear h_4
 refine then_n (wp_ret ?_)
 have s6:=h_5.g (t:=6) rfl
 have hc6:=(h_5.st.own 1 _ rfl).2
 have c6_0:=own_cell (o:=0) hc6 rfl
 have c6_1:=own_cell (o:=1) hc6 rfl
 have s7:=h_5.g (t:=7) rfl
 refine leave (v:=vT2 (vW (ctV es d s a)) (vI 0)) h_5.df (by simp [results,Tryz.results15,go_sem,Array.getD_eq_getD_getElem?,s6,c6_0,c6_1,Tryz.underlying34,s7]) ?_
 have e1:tE es x true d s a=0:=by unfold tE expB;rw [if_pos he];simp
 have e2:tV es x true d s a=ctV es d s a:=by unfold tV;rw [e1,if_pos rfl]
 exact ⟨by rw [e1,e2],h_5.st.nowT,h_5.st.gr⟩
 refine rg_ h_2 (tri 3) [K_ (vI (ctE es d s a)),K_ bT,K_ bT] (fun E3=>[(0,vP c 0),(2,.bool (lax)),(4,vP (pb E1 0) 0),(6,vP (pb E1 1) 0),(7,vI 0),(8,vP (pb E2 6) 0),(9,vI (ctE es d s a)),(16,bT)]) (hs:=c_ mv_<|c_ (bi0 (vI (ctE es d s a)) (vI 0) (h:=by intro env w;simp [go_sem,he]))<|c_ mv_<|e_) (k:=fun E3 ac wd h_3=>?_)
 clear h_2
 refine then_n ?_
 refine wp_cond_true (eval_tmp (h_3.g (t:=16) rfl)) ?_
 refine wp_seq ?_
 refine rg_ h_3 [[0],[1],[0,2],r_ 4] [K_ (.agg #[vI 0,.int .u64 0]),K_ (vI (ctE es d s a)),none,K_ (vI (ctE es d s a))] (fun E4=>[(6,vP (pb E1 1) 0),(7,vI (ctE es d s a)),(8,vP (pb E2 6) 0)]) (S:=[⟨1,2,fun _=>[vI 0,.int .u64 0]⟩]) (M':=fun E4=>[((pb E1 0),26,[vI d,vI s,vI a]),((pb E1 1),34,[vI 0,.int .u64 0]),((pb E2 6),34,[vI (hi (ctV es d s a)),.int .u64 (lo (ctV es d s a))])]) (hs:=c_ (bd0 ([]))<|c_ mv_<|c_ (se_ 1 (hst:=by exact fun _ _ _ hc=>st34 rfl rfl rfl hc))<|c_ mv_<|e_) (k:=fun E4 ac wd h_4=>?_)
 clear h_3
 refine then_n (wp_ret (blk_ret (then_ret ?_)))
 have s6:=h_4.g (t:=6) rfl
 have hc6:=(h_4.st.own 1 _ rfl).2
 have c6_0:=own_cell (o:=0) hc6 rfl
 have c6_1:=own_cell (o:=1) hc6 rfl
 have s7:=h_4.g (t:=7) rfl
 refine leave (v:=vT2 (.agg #[vI 0,.int .u64 0]) (vI (ctE es d s a))) h_4.df (by simp [results,Tryz.results15,go_sem,Array.getD_eq_getD_getElem?,s6,c6_0,c6_1,Tryz.underlying34,s7]) ?_
 have e1:tE es x lax d s a=ctE es d s a:=by unfold tE;rw [if_neg he]
 have e2:tV es x lax d s a=0:=by unfold tV;rw [e1,if_neg he]
 exact ⟨by rw [e1,e2,vW,hi_zero,lo_zero],h_4.st.nowT,h_4.st.gr⟩
theorem clabel_c (w0:World) (c g:Nat) (b:Value) (u x:Int) (es:List (Int × Int)) (hC:IsC w0 c g b u x es) (z:Int) (hz:InW z):ClkC Tryz.prog 55 [vP c 0,vW z] w0 c g b u x es (vT2 (vL ((clb es z).2.1) ((clb es z).2.2.1) ((clb es z).2.2.2)) (vI ((clb es z).1))):=by
 unfold ClkC
 have hst:=St.startC w0 hC
 refine enter Tryz.func55 rfl (n:=31) rfl (Nat.le_of_ble_eq_true rfl) hst (L:=[(0,vP c 0),(1,vW z)]) (lk_args rfl) (fun ac h=>?_)
 refine wp_seq ?_
 refine rg_ h [[0],[1],[2]] [KE_ fun env=>vP (pb env 0) 0,KE_ fun env=>vP (pb env 1) 0,K_ (vI 0)] (fun E1=>[(0,vP c 0),(3,vP (pb E1 0) 0),(4,vP (pb E1 1) 0),(5,vI 0)]) (W:=[{ i:=0,T:=34,c0:=[vI (hi (z)),.int .u64 (lo (z))] },{ i:=1,T:=26,c0:=[vI 0,vI 0,vI 0] }]) (M':=fun E1=>[((pb E1 0),34,[vI (hi (z)),.int .u64 (lo (z))]),((pb E1 1),26,[vI 0,vI 0,vI 0])]) (hs:=c_ (bx0 0 (vW z))<|c_ (al_ 1)<|c_ mv_<|e_) (k:=fun E1 ac wd h_1=>?_)
 clear h
 refine then_n (wp_seq ?_)
 refine rg_ h_1 [[0],[0,1],[2],r_ 4,r_ 5,r_ 6,[0,1,2,3,4,6],[7],[0,1,2,3,4,5,7,8],r_ 10] [K_ (vP c 0),K_ (vP g 0),K_ (vW z),K_ (vT2 (vL ((labUt es z).2.1) ((labUt es z).2.2.1) ((labUt es z).2.2.2)) (vI ((labUt es z).1))),K_ (vT2 (vL ((labUt es z).2.1) ((labUt es z).2.2.1) ((labUt es z).2.2.2)) (vI ((labUt es z).1))),K_ (vL ((labUt es z).2.1) ((labUt es z).2.2.1) ((labUt es z).2.2.2)),K_ (vI ((labUt es z).1)),KE_ fun env=>vP (pb env 7) 0,none,K_ (vI ((labUt es z).1))] (fun E2=>[(0,vP c 0),(3,vP (pb E1 0) 0),(4,vP (pb E1 1) 0),(5,vI 0),(6,vP (pb E2 7) 0),(7,vI ((labUt es z).1))]) (W:=[{ i:=7,T:=26,c0:=[vI 0,vI 0,vI 0],s:=some 8,c1:=fun _=>[vI ((labUt es z).2.1),vI ((labUt es z).2.2.1),vI ((labUt es z).2.2.2)] }]) (M':=fun E2=>[((pb E1 0),34,[vI (hi (z)),.int .u64 (lo (z))]),((pb E1 1),26,[vI 0,vI 0,vI 0]),((pb E2 7),26,[vI ((labUt es z).2.1),vI ((labUt es z).2.2.1),vI ((labUt es z).2.2.2)])]) (hs:=c_ mv_<|c_ (cw_ Tryz.func25 (h:=fun _ env _ wd hA=>⟨_,(cleaps_any (hA.thO rfl)),rfl⟩))<|c_ (ld_ 0 (hrd:=by exact rd34 rfl rfl))<|c_ (s_clk (c:=c) (g:=g) (b:=b) (u:=u) (x:=x) (es:=es) Tryz.func85 (fun _ h=>h) (fun _ h=>h) (h:=fun D env ac wd hA hC=>⟨_,LeapC.clk hC (ulabel_l _ g u x es (IsC.lx hC) z hz),rfl⟩))<|c_ mv_<|c_ ext_<|c_ ext_<|c_ (al_ 2)<|c_ (sw_ 2 7 (hst:=by exact fun _ _ _ hc=>st26 rfl rfl rfl rfl hc))<|c_ mv_<|e_) (k:=fun E2 ac wd h_2=>?_)
 clear h_1
 refine then_n (wp_seq (wp_seq ?_))
 cases ho:oldB es
 refine rg_ h_2 (tri 6) [K_ (vP c 0),K_ bF,K_ bF,K_ undef,K_ undef,K_ bF] (fun E3=>[(0,vP c 0),(3,vP (pb E1 0) 0),(4,vP (pb E1 1) 0),(5,vI 0),(6,vP (pb E2 7) 0),(7,vI ((labUt es z).1)),(20,bF)]) (hs:=c_ mv_<|c_ (cw_ Tryz.func24 (h:=fun _ env _ wd hA=>⟨_,(u_res_eq (cold_any (hA.thO rfl)) (congrArg Value.bool ho)),rfl⟩))<|c_ mv_<|c_ off_<|c_ off_<|c_ (pk0 bF undef bF)<|e_) (k:=fun E3 ac wd h_3=>?_)
 clear h_2
 refine then_n ?_
 refine wp_cond_false (eval_tmp (h_3.g (t:=20) rfl)) ?_
 refine wp_skip (then_n (wp_seq ?_))
 refine rg_ h_3 [[0],[1],[0,2],r_ 4] [K_ (vL ((labUt es z).2.1) ((labUt es z).2.2.1) ((labUt es z).2.2.2)),K_ (vI ((labUt es z).1)),none,K_ (vI ((labUt es z).1))] (fun E4=>[(4,vP (pb E1 1) 0),(5,vI ((labUt es z).1))]) (S:=[⟨1,2,fun _=>[vI ((labUt es z).2.1),vI ((labUt es z).2.2.1),vI ((labUt es z).2.2.2)]⟩]) (M':=fun E4=>[((pb E1 0),34,[vI (hi (z)),.int .u64 (lo (z))]),((pb E1 1),26,[vI ((labUt es z).2.1),vI ((labUt es z).2.2.1),vI ((labUt es z).2.2.2)]),((pb E2 7),26,[vI ((labUt es z).2.1),vI ((labUt es z).2.2.1),vI ((labUt es z).2.2.2)])]) (hs:=c_ (ld_ 2 (hrd:=by exact rd26 rfl rfl rfl))<|c_ mv_<|c_ (se_ 1 (hst:=by exact fun _ _ _ hc=>st26 rfl rfl rfl rfl hc))<|c_ mv_<|e_) (k:=fun E4 ac wd h_4=>?_)
 clear h_3
 refine then_n (wp_ret ?_)
 have s4:=h_4.g (t:=4) rfl
 have hc4:=(h_4.st.own 1 _ rfl).2
 have c4_0:=own_cell (o:=0) hc4 rfl
 have c4_1:=own_cell (o:=1) hc4 rfl
 have c4_2:=own_cell (o:=2) hc4 rfl
 have s5:=h_4.g (t:=5) rfl
 refine leave (v:=vT2 (vL ((labUt es z).2.1) ((labUt es z).2.2.1) ((labUt es z).2.2.2)) (vI ((labUt es z).1))) h_4.df (by simp [results,Tryz.results55,go_sem,Array.getD_eq_getD_getElem?,s4,c4_0,c4_1,c4_2,Tryz.underlying26,s5]) ?_
 have e:clb es z=labUt es z:=clb_utc (.inl ho)
 exact ⟨by rw [e],h_4.st.nowT,h_4.st.gr⟩
 by_cases h8:(labUt es z).1=8
 refine rg_ h_2 (tri 6) [K_ (vP c 0),K_ bT,K_ bT,K_ (vI ((labUt es z).1)),K_ bT,K_ bT] (fun E3=>[(0,vP c 0),(3,vP (pb E1 0) 0),(4,vP (pb E1 1) 0),(5,vI 0),(6,vP (pb E2 7) 0),(7,vI ((labUt es z).1)),(20,bT)]) (hs:=c_ mv_<|c_ (cw_ Tryz.func24 (h:=fun _ env _ wd hA=>⟨_,(u_res_eq (cold_any (hA.thO rfl)) (congrArg Value.bool ho)),rfl⟩))<|c_ mv_<|c_ (gm0 (vI ((labUt es z).1)))<|c_ (bi0 (vI ((labUt es z).1)) (vI 8) (h:=by intro env w;simp [go_sem,h8]))<|c_ (pk0 bT bT bF (h:=by intro env w;simp [go_sem,h8]))<|e_) (k:=fun E3 ac wd h_3=>?_)
 clear h_2
 refine then_n ?_
 refine wp_cond_true (eval_tmp (h_3.g (t:=20) rfl)) ?_
 refine wp_seq ?_
 refine rg_ h_3 [[0],[0,1],[0,1,2],r_ 4,[4],r_ 6,r_ 7,[0,1,2,3,4,5,7],r_ 9,r_ 10] [K_ (vP c 0),K_ (vP c 0),K_ (vP c 1),K_ (vP (ptrB b) 0),K_ (vW z),K_ (vT2 (vL (labD pubS 41317 10 z) (labS pubS 41317 10 z) (labA pubS 41317 10 z)) (vI (labE pubS 41317 10 z))),K_ (vL (labD pubS 41317 10 z) (labS pubS 41317 10 z) (labA pubS 41317 10 z)),K_ (vI (labE pubS 41317 10 z)),none,K_ (vI (labE pubS 41317 10 z))] (fun E4=>[(4,vP (pb E1 1) 0),(5,vI (labE pubS 41317 10 z)),(6,vP (pb E2 7) 0),(7,vI ((labUt es z).1))]) (S:=[⟨1,8,fun _=>[vI (labD pubS 41317 10 z),vI (labS pubS 41317 10 z),vI (labA pubS 41317 10 z)]⟩]) (M':=fun E4=>[((pb E1 0),34,[vI (hi (z)),.int .u64 (lo (z))]),((pb E1 1),26,[vI (labD pubS 41317 10 z),vI (labS pubS 41317 10 z),vI (labA pubS 41317 10 z)]),((pb E2 7),26,[vI ((labUt es z).2.1),vI ((labUt es z).2.2.1),vI ((labUt es z).2.2.2)])]) (hs:=c_ mv_<|c_ (nc0 (vP c 0))<|c_ (fa0 (vP c 0))<|c_ (by refine s_v rfl rfl rfl rfl (fun {D env ac wd} hA=>?_);have e23:ac.tmps[23]? = some (vP c 1):=hA.g rfl;have hcr:=IsC.cellR (hA.thO rfl) ho;simp [go_sem,e23,hcr])<|c_ (ld_ 0 (hrd:=by exact rd34 rfl rfl))<|c_ (cw_ Tryz.func86 (h:=fun _ env _ wd hA=>⟨_,(label_X (IsC.r (hA.thO rfl) ho) pub_ok.toLOk z hz),rfl⟩))<|c_ ext_<|c_ ext_<|c_ (se_ 1 (hst:=by exact fun _ _ _ hc=>st26 rfl rfl rfl rfl hc))<|c_ mv_<|e_) (k:=fun E4 ac wd h_4=>?_)
 clear h_3
 refine then_n (wp_ret (then_ret ?_))
 have s4:=h_4.g (t:=4) rfl
 have hc4:=(h_4.st.own 1 _ rfl).2
 have c4_0:=own_cell (o:=0) hc4 rfl
 have c4_1:=own_cell (o:=1) hc4 rfl
 have c4_2:=own_cell (o:=2) hc4 rfl
 have s5:=h_4.g (t:=5) rfl
 refine leave (v:=vT2 (vL (labD pubS 41317 10 z) (labS pubS 41317 10 z) (labA pubS 41317 10 z)) (vI (labE pubS 41317 10 z))) h_4.df (by simp [results,Tryz.results55,go_sem,Array.getD_eq_getD_getElem?,s4,c4_0,c4_1,c4_2,Tryz.underlying26,s5]) ?_
 have e:clb es z=(labE pubS 41317 10 z,labD pubS 41317 10 z,labS pubS 41317 10 z,labA pubS 41317 10 z):=clb_rub ho h8
 exact ⟨by rw [e],h_4.st.nowT,h_4.st.gr⟩
 refine rg_ h_2 (tri 6) [K_ (vP c 0),K_ bT,K_ bT,K_ (vI ((labUt es z).1)),K_ bF,K_ bF] (fun E3=>[(0,vP c 0),(3,vP (pb E1 0) 0),(4,vP (pb E1 1) 0),(5,vI 0),(6,vP (pb E2 7) 0),(7,vI ((labUt es z).1)),(20,bF)]) (hs:=c_ mv_<|c_ (cw_ Tryz.func24 (h:=fun _ env _ wd hA=>⟨_,(u_res_eq (cold_any (hA.thO rfl)) (congrArg Value.bool ho)),rfl⟩))<|c_ mv_<|c_ (gm0 (vI ((labUt es z).1)))<|c_ (bi0 (vI ((labUt es z).1)) (vI 8) (h:=by intro env w;simp [go_sem,h8]))<|c_ (pk0 bT bF bF (h:=by intro env w;simp [go_sem,h8]))<|e_) (k:=fun E3 ac wd h_3=>?_)
 clear h_2
 refine then_n ?_
 refine wp_cond_false (eval_tmp (h_3.g (t:=20) rfl)) ?_
 refine wp_skip (then_n (wp_seq ?_))
 refine rg_ h_3 [[0],[1],[0,2],r_ 4] [K_ (vL ((labUt es z).2.1) ((labUt es z).2.2.1) ((labUt es z).2.2.2)),K_ (vI ((labUt es z).1)),none,K_ (vI ((labUt es z).1))] (fun E4=>[(4,vP (pb E1 1) 0),(5,vI ((labUt es z).1))]) (S:=[⟨1,2,fun _=>[vI ((labUt es z).2.1),vI ((labUt es z).2.2.1),vI ((labUt es z).2.2.2)]⟩]) (M':=fun E4=>[((pb E1 0),34,[vI (hi (z)),.int .u64 (lo (z))]),((pb E1 1),26,[vI ((labUt es z).2.1),vI ((labUt es z).2.2.1),vI ((labUt es z).2.2.2)]),((pb E2 7),26,[vI ((labUt es z).2.1),vI ((labUt es z).2.2.1),vI ((labUt es z).2.2.2)])]) (hs:=c_ (ld_ 2 (hrd:=by exact rd26 rfl rfl rfl))<|c_ mv_<|c_ (se_ 1 (hst:=by exact fun _ _ _ hc=>st26 rfl rfl rfl rfl hc))<|c_ mv_<|e_) (k:=fun E4 ac wd h_4=>?_)
 clear h_3
 refine then_n (wp_ret ?_)
 have s4:=h_4.g (t:=4) rfl
 have hc4:=(h_4.st.own 1 _ rfl).2
 have c4_0:=own_cell (o:=0) hc4 rfl
 have c4_1:=own_cell (o:=1) hc4 rfl
 have c4_2:=own_cell (o:=2) hc4 rfl
 have s5:=h_4.g (t:=5) rfl
 refine leave (v:=vT2 (vL ((labUt es z).2.1) ((labUt es z).2.2.1) ((labUt es z).2.2.2)) (vI ((labUt es z).1))) h_4.df (by simp [results,Tryz.results55,go_sem,Array.getD_eq_getD_getElem?,s4,c4_0,c4_1,c4_2,Tryz.underlying26,s5]) ?_
 have e:clb es z=labUt es z:=clb_utc (.inr h8)
 exact ⟨by rw [e],h_4.st.nowT,h_4.st.gr⟩
theorem cLabel_c (w0:World) (c g:Nat) (b:Value) (u x:Int) (es:List (Int × Int)) (hC:IsC w0 c g b u x es) (lax:Bool) (z:Int) (hz:InW z):ClkC Tryz.prog 20 [vP c 0,vW z,.bool (lax)] w0 c g b u x es (vT2 (vL ((lbl4 es x lax z).2.1) ((lbl4 es x lax z).2.2.1) ((lbl4 es x lax z).2.2.2)) (vI ((lbl4 es x lax z).1))):=by
 unfold ClkC
 have hst:=St.startC w0 hC
 refine enter Tryz.func20 rfl (n:=31) rfl (Nat.le_of_ble_eq_true rfl) hst (L:=[(0,vP c 0),(1,vW z),(2,.bool (lax))]) (lk_args rfl) (fun ac h=>?_)
 refine wp_seq ?_
 refine rg_ h [[0],[1],[2]] [KE_ fun env=>vP (pb env 0) 0,KE_ fun env=>vP (pb env 1) 0,K_ (vI 0)] (fun E1=>[(0,vP c 0),(2,.bool (lax)),(4,vP (pb E1 0) 0),(6,vP (pb E1 1) 0),(7,vI 0)]) (W:=[{ i:=0,T:=34,c0:=[vI (hi (z)),.int .u64 (lo (z))] },{ i:=1,T:=26,c0:=[vI 0,vI 0,vI 0] }]) (M':=fun E1=>[((pb E1 0),34,[vI (hi (z)),.int .u64 (lo (z))]),((pb E1 1),26,[vI 0,vI 0,vI 0])]) (hs:=c_ (bx0 0 (vW z))<|c_ (al_ 1)<|c_ mv_<|e_) (k:=fun E1 ac wd h_1=>?_)
 clear h
 refine then_n (wp_seq ?_)
 refine rg_ h_1 [[0],[1],[0,1,2],r_ 4,r_ 5,[0,1,2,3,5],[6],[0,1,2,3,4,6,7],r_ 9] [K_ (vP c 0),K_ (vW z),K_ (vT2 (vL ((clb es z).2.1) ((clb es z).2.2.1) ((clb es z).2.2.2)) (vI ((clb es z).1))),K_ (vT2 (vL ((clb es z).2.1) ((clb es z).2.2.1) ((clb es z).2.2.2)) (vI ((clb es z).1))),K_ (vL ((clb es z).2.1) ((clb es z).2.2.1) ((clb es z).2.2.2)),K_ (vI ((clb es z).1)),KE_ fun env=>vP (pb env 6) 0,none,K_ (vI ((clb es z).1))] (fun E2=>[(0,vP c 0),(2,.bool (lax)),(6,vP (pb E1 1) 0),(7,vI 0),(8,vP (pb E2 6) 0),(9,vI ((clb es z).1))]) (W:=[{ i:=6,T:=26,c0:=[vI 0,vI 0,vI 0],s:=some 7,c1:=fun _=>[vI ((clb es z).2.1),vI ((clb es z).2.2.1),vI ((clb es z).2.2.2)] }]) (M':=fun E2=>[((pb E1 0),34,[vI (hi (z)),.int .u64 (lo (z))]),((pb E1 1),26,[vI 0,vI 0,vI 0]),((pb E2 6),26,[vI ((clb es z).2.1),vI ((clb es z).2.2.1),vI ((clb es z).2.2.2)])]) (hs:=c_ mv_<|c_ (ld_ 0 (hrd:=by exact rd34 rfl rfl))<|c_ (s_clk (c:=c) (g:=g) (b:=b) (u:=u) (x:=x) (es:=es) Tryz.func55 (fun _ h=>h) (fun _ h=>h) (h:=fun D env ac wd hA hC=>⟨_,clabel_c _ c g b u x es hC z hz,rfl⟩))<|c_ mv_<|c_ ext_<|c_ ext_<|c_ (al_ 2)<|c_ (sw_ 2 6 (hst:=by exact fun _ _ _ hc=>st26 rfl rfl rfl rfl hc))<|c_ mv_<|e_) (k:=fun E2 ac wd h_2=>?_)
 clear h_1
 refine then_n (wp_seq (wp_block (wp_seq ?_)))
 by_cases he:(clb es z).1=0
 obtain ⟨q0,q1,q2,q3,q4,q5⟩:=hC.bdL he
 refine rg_ h_2 (tri 3) [K_ (vI ((clb es z).1)),K_ bF,K_ bF] (fun E3=>[(0,vP c 0),(2,.bool (lax)),(6,vP (pb E1 1) 0),(7,vI 0),(8,vP (pb E2 6) 0),(9,vI ((clb es z).1)),(16,bF)]) (hs:=c_ mv_<|c_ (bi0 (vI ((clb es z).1)) (vI 0) (h:=by intro env w;simp [go_sem,he]))<|c_ mv_<|e_) (k:=fun E3 ac wd h_3=>?_)
 clear h_2
 refine then_n ?_
 refine wp_cond_false (eval_tmp (h_3.g (t:=16) rfl)) ?_
 refine wp_seq ?_
 rcases lax with _ | _
 cases hov:overB x ((clb es z).2.1) ((clb es z).2.2.1)
 refine rg_ h_3 [[0],[0,1],[0,1,2],r_ 4,[0,1,2,4],r_ 6,r_ 7,r_ 8] [K_ bF,K_ bT,K_ bT,K_ (vP c 0),K_ (vL ((clb es z).2.1) ((clb es z).2.2.1) ((clb es z).2.2.2)),K_ bF,K_ bF,K_ bF] (fun E4=>[(6,vP (pb E1 1) 0),(7,vI 0),(8,vP (pb E2 6) 0),(21,bF)]) (hs:=c_ mv_<|c_ (un0 bF)<|c_ mv_<|c_ (gm0 (vP c 0))<|c_ (ld_ 2 (hrd:=by exact rd26 rfl rfl rfl))<|c_ (cw_ Tryz.func44 (h:=fun _ env _ wd hA=>⟨_,(u_res_eq (cover_any (hA.thO rfl) ((clb es z).2.1) ((clb es z).2.2.1) ((clb es z).2.2.2) q4 q5 q0 q1) (congrArg Value.bool hov)),rfl⟩))<|c_ (pk0 bT bF bF)<|c_ mv_<|e_) (k:=fun E4 ac wd h_4=>?_)
 clear h_3
 refine then_n ?_
 refine wp_cond_false (eval_tmp (h_4.g (t:=21) rfl)) ?_
 refine wp_skip (blk_n (then_n (wp_seq ?_)))
 refine rg_ h_4 (tri 3) [K_ (vL ((clb es z).2.1) ((clb es z).2.2.1) ((clb es z).2.2.2)),none,K_ (vI 0)] (fun E5=>[(6,vP (pb E1 1) 0),(7,vI 0)]) (S:=[⟨1,1,fun _=>[vI ((clb es z).2.1),vI ((clb es z).2.2.1),vI ((clb es z).2.2.2)]⟩]) (M':=fun E5=>[((pb E1 0),34,[vI (hi (z)),.int .u64 (lo (z))]),((pb E1 1),26,[vI ((clb es z).2.1),vI ((clb es z).2.2.1),vI ((clb es z).2.2.2)]),((pb E2 6),26,[vI ((clb es z).2.1),vI ((clb es z).2.2.1),vI ((clb es z).2.2.2)])]) (hs:=c_ (ld_ 2 (hrd:=by exact rd26 rfl rfl rfl))<|c_ (se_ 1 (hst:=by exact fun _ _ _ hc=>st26 rfl rfl rfl rfl hc))<|c_ mv_<|e_) (k:=fun E5 ac wd h_5=>?_)
 clear h_4
 refine then_n (wp_ret ?_)
 have s6:=h_5.g (t:=6) rfl
 have hc6:=(h_5.st.own 1 _ rfl).2
 have c6_0:=own_cell (o:=0) hc6 rfl
 have c6_1:=own_cell (o:=1) hc6 rfl
 have c6_2:=own_cell (o:=2) hc6 rfl
 have s7:=h_5.g (t:=7) rfl
 refine leave (v:=vT2 (vL ((clb es z).2.1) ((clb es z).2.2.1) ((clb es z).2.2.2)) (vI 0)) h_5.df (by simp [results,Tryz.results20,go_sem,Array.getD_eq_getD_getElem?,s6,c6_0,c6_1,c6_2,Tryz.underlying26,s7]) ?_
 have e1:lbl4 es x false z=clb es z:=by unfold lbl4 expB;rw [if_pos he];simp [hov]
 exact ⟨by rw [e1,he],h_5.st.nowT,h_5.st.gr⟩
 refine rg_ h_3 [[0],[0,1],[0,1,2],r_ 4,[0,1,2,4],r_ 6,r_ 7,r_ 8] [K_ bF,K_ bT,K_ bT,K_ (vP c 0),K_ (vL ((clb es z).2.1) ((clb es z).2.2.1) ((clb es z).2.2.2)),K_ bT,K_ bT,K_ bT] (fun E4=>[(6,vP (pb E1 1) 0),(7,vI 0),(8,vP (pb E2 6) 0),(21,bT)]) (hs:=c_ mv_<|c_ (un0 bF)<|c_ mv_<|c_ (gm0 (vP c 0))<|c_ (ld_ 2 (hrd:=by exact rd26 rfl rfl rfl))<|c_ (cw_ Tryz.func44 (h:=fun _ env _ wd hA=>⟨_,(u_res_eq (cover_any (hA.thO rfl) ((clb es z).2.1) ((clb es z).2.2.1) ((clb es z).2.2.2) q4 q5 q0 q1) (congrArg Value.bool hov)),rfl⟩))<|c_ (pk0 bT bT bF)<|c_ mv_<|e_) (k:=fun E4 ac wd h_4=>?_)
 clear h_3
 refine then_n ?_
 refine wp_cond_true (eval_tmp (h_4.g (t:=21) rfl)) ?_
 refine wp_seq ?_
 refine rg_ h_4 (tri 3) [K_ (vL 0 0 0),none,K_ (vI 9)] (fun E5=>[(6,vP (pb E1 1) 0),(7,vI 9),(8,vP (pb E2 6) 0)]) (S:=[⟨1,1,fun _=>[vI 0,vI 0,vI 0]⟩]) (M':=fun E5=>[((pb E1 0),34,[vI (hi (z)),.int .u64 (lo (z))]),((pb E1 1),26,[vI 0,vI 0,vI 0]),((pb E2 6),26,[vI ((clb es z).2.1),vI ((clb es z).2.2.1),vI ((clb es z).2.2.2)])]) (hs:=c_ (bd0 ([]))<|c_ (se_ 1 (hst:=by exact fun _ _ _ hc=>st26 rfl rfl rfl rfl hc))<|c_ mv_<|e_) (k:=fun E5 ac wd h_5=>?_)
 clear h_4
 refine then_n (wp_ret (blk_ret (then_ret ?_)))
 have s6:=h_5.g (t:=6) rfl
 have hc6:=(h_5.st.own 1 _ rfl).2
 have c6_0:=own_cell (o:=0) hc6 rfl
 have c6_1:=own_cell (o:=1) hc6 rfl
 have c6_2:=own_cell (o:=2) hc6 rfl
 have s7:=h_5.g (t:=7) rfl
 refine leave (v:=vT2 (vL 0 0 0) (vI 9)) h_5.df (by simp [results,Tryz.results20,go_sem,Array.getD_eq_getD_getElem?,s6,c6_0,c6_1,c6_2,Tryz.underlying26,s7]) ?_
 have e1:lbl4 es x false z=(9,0,0,0):=by unfold lbl4 expB;rw [if_pos he];simp [hov]
 exact ⟨by rw [e1],h_5.st.nowT,h_5.st.gr⟩
 refine rg_ h_3 [[0],[0,1],[0,1,2],r_ 4,[0,1,2,4],r_ 6,r_ 7,r_ 8] [K_ bT,K_ bF,K_ bF,K_ undef,K_ undef,K_ undef,K_ bF,K_ bF] (fun E4=>[(6,vP (pb E1 1) 0),(7,vI 0),(8,vP (pb E2 6) 0),(21,bF)]) (hs:=c_ mv_<|c_ (un0 bT)<|c_ mv_<|c_ off_<|c_ off_<|c_ off_<|c_ (pk0 bF undef bF)<|c_ mv_<|e_) (k:=fun E4 ac wd h_4=>?_)
 clear h_3
 refine then_n ?_
 refine wp_cond_false (eval_tmp (h_4.g (t:=21) rfl)) ?_
 refine wp_skip (blk_n (then_n (wp_seq ?_)))
 refine rg_ h_4 (tri 3) [K_ (vL ((clb es z).2.1) ((clb es z).2.2.1) ((clb es z).2.2.2)),none,K_ (vI 0)] (fun E5=>[(6,vP (pb E1 1) 0),(7,vI 0)]) (S:=[⟨1,1,fun _=>[vI ((clb es z).2.1),vI ((clb es z).2.2.1),vI ((clb es z).2.2.2)]⟩]) (M':=fun E5=>[((pb E1 0),34,[vI (hi (z)),.int .u64 (lo (z))]),((pb E1 1),26,[vI ((clb es z).2.1),vI ((clb es z).2.2.1),vI ((clb es z).2.2.2)]),((pb E2 6),26,[vI ((clb es z).2.1),vI ((clb es z).2.2.1),vI ((clb es z).2.2.2)])]) (hs:=c_ (ld_ 2 (hrd:=by exact rd26 rfl rfl rfl))<|c_ (se_ 1 (hst:=by exact fun _ _ _ hc=>st26 rfl rfl rfl rfl hc))<|c_ mv_<|e_) (k:=fun E5 ac wd h_5=>?_)
 clear h_4
 refine then_n (wp_ret ?_)
 have s6:=h_5.g (t:=6) rfl
 have hc6:=(h_5.st.own 1 _ rfl).2
 have c6_0:=own_cell (o:=0) hc6 rfl
 have c6_1:=own_cell (o:=1) hc6 rfl
 have c6_2:=own_cell (o:=2) hc6 rfl
 have s7:=h_5.g (t:=7) rfl
 refine leave (v:=vT2 (vL ((clb es z).2.1) ((clb es z).2.2.1) ((clb es z).2.2.2)) (vI 0)) h_5.df (by simp [results,Tryz.results20,go_sem,Array.getD_eq_getD_getElem?,s6,c6_0,c6_1,c6_2,Tryz.underlying26,s7]) ?_
 have e1:lbl4 es x true z=clb es z:=by unfold lbl4 expB;rw [if_pos he];simp
 exact ⟨by rw [e1,he],h_5.st.nowT,h_5.st.gr⟩
 refine rg_ h_2 (tri 3) [K_ (vI ((clb es z).1)),K_ bT,K_ bT] (fun E3=>[(0,vP c 0),(2,.bool (lax)),(6,vP (pb E1 1) 0),(7,vI 0),(8,vP (pb E2 6) 0),(9,vI ((clb es z).1)),(16,bT)]) (hs:=c_ mv_<|c_ (bi0 (vI ((clb es z).1)) (vI 0) (h:=by intro env w;simp [go_sem,he]))<|c_ mv_<|e_) (k:=fun E3 ac wd h_3=>?_)
 clear h_2
 refine then_n ?_
 refine wp_cond_true (eval_tmp (h_3.g (t:=16) rfl)) ?_
 refine wp_seq ?_
 refine rg_ h_3 [[0],[1],[0,2],r_ 4] [K_ (vL 0 0 0),K_ (vI ((clb es z).1)),none,K_ (vI ((clb es z).1))] (fun E4=>[(6,vP (pb E1 1) 0),(7,vI ((clb es z).1)),(8,vP (pb E2 6) 0)]) (S:=[⟨1,2,fun _=>[vI 0,vI 0,vI 0]⟩]) (M':=fun E4=>[((pb E1 0),34,[vI (hi (z)),.int .u64 (lo (z))]),((pb E1 1),26,[vI 0,vI 0,vI 0]),((pb E2 6),26,[vI ((clb es z).2.1),vI ((clb es z).2.2.1),vI ((clb es z).2.2.2)])]) (hs:=c_ (bd0 ([]))<|c_ mv_<|c_ (se_ 1 (hst:=by exact fun _ _ _ hc=>st26 rfl rfl rfl rfl hc))<|c_ mv_<|e_) (k:=fun E4 ac wd h_4=>?_)
 clear h_3
 refine then_n (wp_ret (blk_ret (then_ret ?_)))
 have s6:=h_4.g (t:=6) rfl
 have hc6:=(h_4.st.own 1 _ rfl).2
 have c6_0:=own_cell (o:=0) hc6 rfl
 have c6_1:=own_cell (o:=1) hc6 rfl
 have c6_2:=own_cell (o:=2) hc6 rfl
 have s7:=h_4.g (t:=7) rfl
 refine leave (v:=vT2 (vL 0 0 0) (vI ((clb es z).1))) h_4.df (by simp [results,Tryz.results20,go_sem,Array.getD_eq_getD_getElem?,s6,c6_0,c6_1,c6_2,Tryz.underlying26,s7]) ?_
 have e1:lbl4 es x lax z=((clb es z).1,0,0,0):=by unfold lbl4;rw [if_neg he]
 exact ⟨by rw [e1],h_4.st.nowT,h_4.st.gr⟩
end Go.Proofs.YtdfkghpgekmmlaaGreat
namespace Go.Proofs.YtdfkghpgekmmlaaGreat
open Go.RowKit
attribute [local go_sem] vN bT bF rS vW vM vL vT2 vT3 vP vI execOp Act.eval evC bigF vB hi_zero lo_zero Tryz.underlying24 Tryz.underlying26 Tryz.underlying34 Tryz.underlying78
theorem y_day0 (es:List (Int × Int)):vI (dayOf ((es.getD 0 (0,0)).1,(es.getD 0 (0,0)).2))=vI (day0 es):=rfl
theorem cnew_no_core (w0:World) (A0:Option Addr) (c0:Nat) (es:List (Int × Int)) (u x:Int) (hv:Ents w0 w0.heap.size (.slice A0 es.length c0) es) (hu:I64 u) (hx:I64 x) (hes:∀ i,I64 (es.getD i (0,0)).1∧I64 (es.getD i (0,0)).2) (hok:okT u x es=false):Calls Tryz.prog 13 #[.agg #[vI u,vI x,.slice A0 es.length c0]] w0 fun e w'=>e = .returned (vT2 (.pointer none) (vI 10))∧Below w0.heap.size w0 w':=by
 have hst:=St.start w0 (Θ:=fun _=>True) (fun _ _=>trivial)
 refine enter Tryz.func13 rfl (n:=40) rfl (Nat.le_of_ble_eq_true rfl) hst (L:=[(0,.agg #[vI u,vI x,.slice A0 es.length c0])]) (lk_args rfl) (fun ac h=>?_)
 replace h:=h.facts
 refine wp_seq ?_
 refine rf_ h [[0],[1],[1,2]] [KE_ fun env=>vP (pb env 0) 0,K_ (.pointer none),K_ (vI 0)] (fun E1=>[(1,vP (pb E1 0) 0),(2,.pointer none),(3,vI 0)]) (W:=[{ i:=0,T:=24,c0:=[vI u,vI x,.slice A0 es.length c0] }]) (M':=fun E1=>[((pb E1 0),24,[vI u,vI x,.slice A0 es.length c0])]) (hs:=c_ (bx0 0 (.agg #[vI u,vI x,.slice A0 es.length c0]))<|c_ mv_<|c_ mv_<|e_) (k:=fun E1 ac wd h_1=>?_)
 clear h
 refine then_n (wp_seq ?_)
 refine rf_ h_1 [[0],[0,1],[0,1,2],r_ 4,[0,1,2,4],[0,1,2,3,5],r_ 7] [K_ (.agg #[vI u,vI x,.slice A0 es.length c0]),K_ (vT2 (.pointer none) (vI 10)),K_ (vT2 (.pointer none) (vI 10)),K_ (.pointer none),K_ (vI 10),K_ (.pointer none),K_ (vI 10)] (fun E2=>[(1,vP (pb E1 0) 0),(2,.pointer none),(3,vI 0),(4,.pointer none),(5,vI 10)]) (hs:=c_ (ld_ 0 (hrd:=by exact rd24 rfl rfl rfl))<|c_ (cw_ Tryz.func39 (h:=fun _ env _ wd hA=>⟨_,((new_no _ es u x wd (hv.gn hA.j.st.gr) hu hx hes hok)),rfl⟩))<|c_ mv_<|c_ ext_<|c_ ext_<|c_ mv_<|c_ mv_<|e_) (k:=fun E2 ac wd h_2=>?_)
 clear h_1
 refine then_n (wp_seq (wp_seq ?_))
 refine rf_ h_2 [[0],[0,1]] [K_ (vI 10),K_ bT] (fun E3=>[(1,vP (pb E1 0) 0),(2,.pointer none),(3,vI 0),(4,.pointer none),(5,vI 10),(13,bT)]) (hs:=c_ mv_<|c_ (bi0 (vI 10) (vI 0))<|e_) (k:=fun E3 ac wd h_3=>?_)
 clear h_2
 refine then_n ?_
 refine wp_cond_true (eval_tmp (h_3.g (t:=13) rfl)) ?_
 refine wp_seq ?_
 refine rf_ h_3 [[0],[1],[0,1,2]] [K_ (vI 10),K_ (.pointer none),K_ (vI 10)] (fun E4=>[(1,vP (pb E1 0) 0),(2,.pointer none),(3,vI 10),(4,.pointer none)]) (hs:=c_ mv_<|c_ mv_<|c_ mv_<|e_) (k:=fun E4 ac wd h_4=>?_)
 clear h_3
 refine then_n (wp_ret (then_ret ?_))
 have s2:=h_4.g (t:=2) rfl
 have s3:=h_4.g (t:=3) rfl
 refine leave (v:=vT2 (.pointer none) (vI 10)) h_4.df (by simp [results,Tryz.results13,go_sem,Array.getD_eq_getD_getElem?,s2,s3]) ?_
 exact ⟨rfl,h_4.st.below⟩
theorem cnew_core (w0:World) (A0:Option Addr) (c0:Nat) (es:List (Int × Int)) (u x:Int) (hv:Ents w0 w0.heap.size (.slice A0 es.length c0) es) (hu:I64 u) (hx:I64 x) (hes:∀ i,I64 (es.getD i (0,0)).1∧I64 (es.getD i (0,0)).2) (hok:okT u x es=true):Calls Tryz.prog 13 #[.agg #[vI u,vI x,.slice A0 es.length c0]] w0 fun e w'=>∃ v',e = .returned v'∧Below w0.heap.size w0 w'∧NewCx w' v' u x es w0.heap.size:=by
 obtain ⟨hp,hn0,_⟩:=okT_pre hok
 have hst:=St.start w0 (Θ:=fun _=>True) (fun _ _=>trivial)
 refine enter Tryz.func13 rfl (n:=40) rfl (Nat.le_of_ble_eq_true rfl) hst (L:=[(0,.agg #[vI u,vI x,.slice A0 es.length c0])]) (lk_args rfl) (fun ac h=>?_)
 replace h:=h.facts
 refine wp_seq ?_
 refine rf_ h [[0],[1],[1,2]] [KE_ fun env=>vP (pb env 0) 0,K_ (.pointer none),K_ (vI 0)] (fun E1=>[(1,vP (pb E1 0) 0),(2,.pointer none),(3,vI 0)]) (W:=[{ i:=0,T:=24,c0:=[vI u,vI x,.slice A0 es.length c0] }]) (M':=fun E1=>[((pb E1 0),24,[vI u,vI x,.slice A0 es.length c0])]) (hs:=c_ (bx0 0 (.agg #[vI u,vI x,.slice A0 es.length c0]))<|c_ mv_<|c_ mv_<|e_) (k:=fun E1 ac wd h_1=>?_)
 clear h
 refine then_n (wp_seq ?_)
 refine rf_ h_1 [[0],[0,1],[0,1,2],r_ 4,[0,1,2,4],[0,1,2,3,5],r_ 7] [K_ (.agg #[vI u,vI x,.slice A0 es.length c0]),KE_ fun env=>vT2 (vP (ptrB (tp (env 1) 0)) 0) (vI 0),KE_ fun env=>vT2 (vP (ptrB (tp (env 1) 0)) 0) (vI 0),KE_ fun env=>vP (ptrB (tp (env 1) 0)) 0,K_ (vI 0),KE_ fun env=>vP (ptrB (tp (env 1) 0)) 0,K_ (vI 0)] (fun E2=>[(1,vP (pb E1 0) 0),(2,.pointer none),(3,vI 0),(4,vP (ptrB (tp (E2 1) 0)) 0),(5,vI 0)]) (F:=[(1,fun env w=>NewL w (env 1) u x es w0.heap.size)]) (L1:=fun E2=>[fun w=>NewL w (E2 1) u x es w0.heap.size]) (hs:=c_ (ld_ 0 (hrd:=by exact rd24 rfl rfl rfl))<|c_ (s_factT rfl rfl rfl Tryz.func39 (by kernel_rfl) rfl (fun _=>wanted_none rfl _) (fun v w=>NewL w v u x es w0.heap.size) newLF rfl rfl leT rfl (fun v w h=>h.form) (fun v w w' hk h=>h.keep hk) (fun {D env ac wd} hA=>⟨_,hA.args (vs:=[.agg #[vI u,vI x,.slice A0 es.length c0]]) rfl,lnew_yes hA.j.st.gr.size (hv.gn hA.j.st.gr) hu hx hes hok⟩))<|c_ mv_<|c_ ext_<|c_ ext_<|c_ mv_<|c_ mv_<|e_) (k:=fun E2 ac wd h_2=>?_)
 clear h_1
 refine then_n (wp_seq (wp_seq ?_))
 replace h_2:=Cur.exInF h_2 0 rfl;generalize ptrB (tp (E2 1) 0)=g at h_2
 refine rf_ h_2 [[0],[0,1]] [K_ (vI 0),K_ bF] (fun E3=>[(1,vP (pb E1 0) 0),(2,.pointer none),(3,vI 0),(4,vP g 0),(5,vI 0),(13,bF)]) (hs:=c_ mv_<|c_ (bi0 (vI 0) (vI 0) (h:=by intro env w;(first | (simp [go_sem];done) | (simp [go_sem];rfl))))<|e_) (k:=fun E3 ac wd h_3=>?_)
 clear h_2
 refine then_n ?_
 refine wp_cond_false (eval_tmp (h_3.g (t:=13) rfl)) ?_
 refine wp_skip (then_n (wp_seq ?_))
 refine rf_ h_3 [[0],[1],[1,2],r_ 4,r_ 5,r_ 6] [K_ (vP g 0),K_ (vP (pb E1 0) 1),K_ (vI x),K_ (.agg #[vP g 0,.pointer none,vI x]),KE_ fun env=>vP (pb env 4) 0,KE_ fun env=>vP (pb env 4) 0] (fun E4=>[(1,vP (pb E1 0) 0),(2,.pointer none),(3,vI 0),(4,vP g 0),(6,vP (pb E4 4) 0)]) (W:=[{ i:=4,T:=78,c0:=[vP g 0,.pointer none,vI x] }]) (M':=fun E4=>[((pb E1 0),24,[vI u,vI x,.slice A0 es.length c0]),((pb E4 4),78,[vP g 0,.pointer none,vI x])]) (hs:=c_ mv_<|c_ (fa0 (vP (pb E1 0) 0))<|c_ (ld_ 0 (hrd:=by exact rd3 rfl))<|c_ (bd0 ([vP g 0,vI x]))<|c_ (bx0 1 (.agg #[vP g 0,.pointer none,vI x]))<|c_ mv_<|e_) (k:=fun E4 ac wd h_4=>?_)
 clear h_3
 refine then_n (wp_seq (wp_seq ?_))
 by_cases h1:day0 es=41317
 by_cases h2:(es.getD 0 (0,0)).2=10
 have hob:oldB es=true:=oldB_iff.2 ⟨h1,h2⟩
 refine rf_ h_4 (tri 11) [K_ (vP g 0),K_ (vI (day0 es)),K_ bT,K_ bT,K_ (vP (pb E1 0) 2),K_ (.slice A0 es.length c0),K_ (elt (.slice A0 es.length c0) (0*2)),K_ (elt (.slice A0 es.length c0) (0*2+1)),K_ (vI ((es.getD 0 (0,0)).2)),K_ bT,K_ bT] (fun E5=>[(2,.pointer none),(3,vI 0),(6,vP (pb E4 4) 0),(30,bT)]) (hs:=c_ mv_<|c_ (s_leap (g:=g) (u:=u) (x:=x) (es:=es) Tryz.func40 (fun _ h=>h) (fun _ h=>h) (h:=fun D env ac wd hA hL=>⟨_,clk_first hL,rfl⟩))<|c_ (bi0 (vI (day0 es)) (vI 41317) (h:=by intro env w;simp [go_sem,h1]))<|c_ mv_<|c_ (fa0 (vP (pb E1 0) 0))<|c_ (ld_ 0 (hrd:=by exact rd22 rfl))<|c_ (ia_ Tryz.underlying22 sz70 0 (0*2) 0 (fun _ env _ wd hA=>(hv.gn hA.j.st.gr).els) (rfl) (hn0) rfl)<|c_ (s_fa rfl rfl rfl (fun hA=>hA.gy rfl rfl rfl) (0*2) 1 (0*2+1) rfl (s:=fun _=>.slice A0 es.length c0) rfl (fun _=>rfl) (fun {D env ac wd} hA=>(hv.gn hA.j.st.gr).els) (by omega) (fun b q w=>by simp [go_sem,Tryz.underlying70]))<|c_ (le_ (0*2+1) (fun _ env _ wd hA=>(hv.gn hA.j.st.gr).els) (by omega) (le3 (by exact enC_1 es 0)))<|c_ (bi0 (vI ((es.getD 0 (0,0)).2)) (vI 10) (h:=by intro env w;(first | (simp [go_sem,h2];done) | (simp [go_sem];simp only [List.getD_eq_getElem?_getD] at h2;simp [h2]))))<|c_ (pk0 bT bT bF (h:=by intro env w;(first | (simp [go_sem,h2];done) | (simp [go_sem];simp only [List.getD_eq_getElem?_getD] at h2;simp [h2]))))<|e_) (k:=fun E5 ac wd h_5=>?_)
 clear h_4
 refine then_n ?_
 refine wp_cond_true (eval_tmp (h_5.g (t:=30) rfl)) ?_
 refine rf_ h_5 [[0],[1],[1,2],[1,2,3],[1,2,3,4],[1,2,3,5],[0,1,2,3,4,6],[0,1,2,3,4,6,7],[0,1,2,3,4,6,7,8]] [K_ (vP (pb E4 4) 0),KE_ fun env=>.slice ((sA (env 1))) pubS.length ((sC (env 1))),KE_ fun env=>vT2 (vP (ptrB (tp (env 2) 0)) 0) (vI 0),KE_ fun env=>vT2 (vP (ptrB (tp (env 2) 0)) 0) (vI 0),KE_ fun env=>vP (ptrB (tp (env 2) 0)) 0,K_ (vI 0),K_ (vP (pb E4 4) 0),K_ (vP (pb E4 4) 1),none] (fun E6=>[(2,.pointer none),(3,vI 0),(6,vP (pb E4 4) 0)]) (S:=[⟨1,8,fun env=>[vP g 0,vP (ptrB (tp (env 2) 0)) 0,vI x]⟩]) (F:=[(1,fun env w=>SegG (some g) w (env 1) pubS),(2,fun env w=>NewX (some g) w (env 2) pubS 41317 10)]) (L1:=fun E6=>[fun w=>SegG (some g) w (E6 1) pubS,fun w=>NewX (some g) w (E6 2) pubS 41317 10]) (M':=fun E6=>[((pb E1 0),24,[vI u,vI x,.slice A0 es.length c0]),((pb E4 4),78,[vP g 0,vP (ptrB (tp (E6 2) 0)) 0,vI x])]) (hs:=c_ mv_<|c_ (s_factT rfl rfl rfl Tryz.func42 (by kernel_rfl) rfl (fun _=>wanted_none rfl _) (fun v w=>SegG (some g) w v pubS) (segF pubS) rfl rfl [128] rfl (fun v w h=>h.form) (fun v w w' hk h=>h.keep hk) (fun {D env ac wd} hA=>⟨_,hA.args (vs:=[]) rfl,segments_g (hA.j.st.exb g rfl).1⟩))<|c_ (s_factT rfl rfl rfl Tryz.func41 (by kernel_rfl) rfl (fun _=>wanted_none rfl _) (fun v w=>NewX (some g) w v pubS 41317 10) newF rfl rfl [126,130] rfl (fun v w h=>h.form) (fun v w w' hk h=>h.keep hk) (fun {D env ac wd} hA=>⟨_,hA.args (vs:=[.slice ((sA (env 1))) pubS.length ((sC (env 1))),vI 41317,vI 10]) rfl,rNew_yes wd ((sA (env 1))) ((sC (env 1))) pubS (At.segG hA 1 rfl rfl rfl) 41317 10 (by omega) (by omega) pub_may (fun k h=>by obtain rfl:=Option.some.inj h;exact (hA.j.st.exb g rfl).1)⟩))<|c_ mv_<|c_ ext_<|c_ ext_<|c_ (nc0 (vP (pb E4 4) 0))<|c_ (fa0 (vP (pb E4 4) 0))<|c_ (se_ 1 (hst:=by exact fun _ _ _ hc=>st76 rfl rfl hc))<|e_) (k:=fun E6 ac wd h_6=>?_)
 clear h_5
 refine then_n (wp_seq ?_)
 refine rf_ h_6 (tri 3) [K_ (vP (pb E4 4) 0),K_ (vP (pb E4 4) 0),K_ (vI 0)] (fun E7=>[(2,vP (pb E4 4) 0),(3,vI 0)]) (hs:=c_ mv_<|c_ mv_<|c_ mv_<|e_) (k:=fun E7 ac wd h_7=>?_)
 clear h_6
 refine then_n (wp_ret ?_)
 have s2:=h_7.g (t:=2) rfl
 have s3:=h_7.g (t:=3) rfl
 refine leave (v:=vT2 (vP (pb E4 4) 0) (vI 0)) h_7.df (by simp [results,Tryz.results13,go_sem,Array.getD_eq_getD_getElem?,s2,s3]) ?_
 have hR:IsR (some g) _ (tp (E6 2) 0) pubS 41317 10:=(show NewX (some g) _ (E6 2) pubS 41317 10 from h_7.st.now.get 1 rfl).2
 exact ⟨_,rfl,h_7.st.below,g,vP (ptrB (tp (E6 2) 0)) 0,rfl,⟨fun e=>(h_7.st.exb g rfl).2.1 1 _ rfl e,(h_7.st.own 1 _ rfl).2,h_7.st.nowT,(fun _=>hR.re),(fun ho=>by rw [hob] at ho;cases ho)⟩,(h_7.st.exb g rfl).2.2.resolve_right (by simp)⟩
 have hob:oldB es=false:=by unfold oldB;simp only [h1,h2,decide_true,decide_false,Bool.and_false]
 refine rf_ h_4 (tri 11) [K_ (vP g 0),K_ (vI (day0 es)),K_ bT,K_ bT,K_ (vP (pb E1 0) 2),K_ (.slice A0 es.length c0),K_ (elt (.slice A0 es.length c0) (0*2)),K_ (elt (.slice A0 es.length c0) (0*2+1)),K_ (vI ((es.getD 0 (0,0)).2)),K_ bF,K_ bF] (fun E5=>[(2,.pointer none),(3,vI 0),(6,vP (pb E4 4) 0),(30,bF)]) (hs:=c_ mv_<|c_ (s_leap (g:=g) (u:=u) (x:=x) (es:=es) Tryz.func40 (fun _ h=>h) (fun _ h=>h) (h:=fun D env ac wd hA hL=>⟨_,clk_first hL,rfl⟩))<|c_ (bi0 (vI (day0 es)) (vI 41317) (h:=by intro env w;simp [go_sem,h1]))<|c_ mv_<|c_ (fa0 (vP (pb E1 0) 0))<|c_ (ld_ 0 (hrd:=by exact rd22 rfl))<|c_ (ia_ Tryz.underlying22 sz70 0 (0*2) 0 (fun _ env _ wd hA=>(hv.gn hA.j.st.gr).els) (rfl) (hn0) rfl)<|c_ (s_fa rfl rfl rfl (fun hA=>hA.gy rfl rfl rfl) (0*2) 1 (0*2+1) rfl (s:=fun _=>.slice A0 es.length c0) rfl (fun _=>rfl) (fun {D env ac wd} hA=>(hv.gn hA.j.st.gr).els) (by omega) (fun b q w=>by simp [go_sem,Tryz.underlying70]))<|c_ (le_ (0*2+1) (fun _ env _ wd hA=>(hv.gn hA.j.st.gr).els) (by omega) (le3 (by exact enC_1 es 0)))<|c_ (bi0 (vI ((es.getD 0 (0,0)).2)) (vI 10) (h:=by intro env w;(first | (simp [go_sem,h2];done) | (simp [go_sem];simp only [List.getD_eq_getElem?_getD] at h2;simp [h2]))))<|c_ (pk0 bT bF bF (h:=by intro env w;(first | (simp [go_sem,h2];done) | (simp [go_sem];simp only [List.getD_eq_getElem?_getD] at h2;simp [h2]))))<|e_) (k:=fun E5 ac wd h_5=>?_)
 clear h_4
 refine then_n ?_
 refine wp_cond_false (eval_tmp (h_5.g (t:=30) rfl)) ?_
 refine wp_skip (then_n (wp_seq ?_))
 refine rf_ h_5 (tri 3) [K_ (vP (pb E4 4) 0),K_ (vP (pb E4 4) 0),K_ (vI 0)] (fun E6=>[(2,vP (pb E4 4) 0),(3,vI 0)]) (hs:=c_ mv_<|c_ mv_<|c_ mv_<|e_) (k:=fun E6 ac wd h_6=>?_)
 clear h_5
 refine then_n (wp_ret ?_)
 have s2:=h_6.g (t:=2) rfl
 have s3:=h_6.g (t:=3) rfl
 refine leave (v:=vT2 (vP (pb E4 4) 0) (vI 0)) h_6.df (by simp [results,Tryz.results13,go_sem,Array.getD_eq_getD_getElem?,s2,s3]) ?_
 exact ⟨_,rfl,h_6.st.below,g,.pointer none,rfl,⟨fun e=>(h_6.st.exb g rfl).2.1 1 _ rfl e,(h_6.st.own 1 _ rfl).2,h_6.st.nowT,(fun ho=>by rw [hob] at ho;cases ho),(fun _=>rfl)⟩,(h_6.st.exb g rfl).2.2.resolve_right (by simp)⟩
 have hob:oldB es=false:=by unfold oldB;simp [h1]
 refine rf_ h_4 (tri 11) [K_ (vP g 0),K_ (vI (day0 es)),K_ bF,K_ bF,K_ undef,K_ undef,K_ undef,K_ undef,K_ undef,K_ undef,K_ bF] (fun E5=>[(2,.pointer none),(3,vI 0),(6,vP (pb E4 4) 0),(30,bF)]) (hs:=c_ mv_<|c_ (s_leap (g:=g) (u:=u) (x:=x) (es:=es) Tryz.func40 (fun _ h=>h) (fun _ h=>h) (h:=fun D env ac wd hA hL=>⟨_,clk_first hL,rfl⟩))<|c_ (bi0 (vI (day0 es)) (vI 41317) (h:=by intro env w;simp [go_sem,h1]))<|c_ mv_<|c_ off_<|c_ off_<|c_ off_<|c_ off_<|c_ off_<|c_ off_<|c_ (pk0 bF undef bF)<|e_) (k:=fun E5 ac wd h_5=>?_)
 clear h_4
 refine then_n ?_
 refine wp_cond_false (eval_tmp (h_5.g (t:=30) rfl)) ?_
 refine wp_skip (then_n (wp_seq ?_))
 refine rf_ h_5 (tri 3) [K_ (vP (pb E4 4) 0),K_ (vP (pb E4 4) 0),K_ (vI 0)] (fun E6=>[(2,vP (pb E4 4) 0),(3,vI 0)]) (hs:=c_ mv_<|c_ mv_<|c_ mv_<|e_) (k:=fun E6 ac wd h_6=>?_)
 clear h_5
 refine then_n (wp_ret ?_)
 have s2:=h_6.g (t:=2) rfl
 have s3:=h_6.g (t:=3) rfl
 refine leave (v:=vT2 (vP (pb E4 4) 0) (vI 0)) h_6.df (by simp [results,Tryz.results13,go_sem,Array.getD_eq_getD_getElem?,s2,s3]) ?_
 exact ⟨_,rfl,h_6.st.below,g,.pointer none,rfl,⟨fun e=>(h_6.st.exb g rfl).2.1 1 _ rfl e,(h_6.st.own 1 _ rfl).2,h_6.st.nowT,(fun ho=>by rw [hob] at ho;cases ho),(fun _=>rfl)⟩,(h_6.st.exb g rfl).2.2.resolve_right (by simp)⟩
theorem cnew_no {w:World} {v:Value} {es:List (Int × Int)} (hv:Ents w w.heap.size v es) {u x:Int} (hu:I64 u) (hx:I64 x) (hes:∀ i,I64 (es.getD i (0,0)).1∧I64 (es.getD i (0,0)).2) (hok:okT u x es=false):Calls Tryz.prog 13 #[.agg #[vI u,vI x,v]] w fun e w'=>e = .returned (vT2 (.pointer none) (vI 10))∧Below w.heap.size w w':=by
 have hv0:=hv
 obtain ⟨A,c,rfl,_⟩:=hv
 exact cnew_no_core w A c es u x hv0 hu hx hes hok
theorem cnew_yes {B:Nat} {w:World} (hB:B≤w.heap.size) {v:Value} {es:List (Int × Int)} (hv:Ents w w.heap.size v es) {u x:Int} (hu:I64 u) (hx:I64 x) (hes:∀ i,I64 (es.getD i (0,0)).1∧I64 (es.getD i (0,0)).2) (hok:okT u x es=true):Calls Tryz.prog 13 #[.agg #[vI u,vI x,v]] w fun e w'=>∃ v',e = .returned v'∧Below w.heap.size w w'∧NewCx w' v' u x es B:=by
 have hv0:=hv
 obtain ⟨A,c,rfl,_⟩:=hv
 refine (cnew_core w A c es u x hv0 hu hx hes hok).mono ?_
 rintro e w' ⟨v',rfl,hb,g,b,h1,h2,h3⟩
 exact ⟨v',rfl,hb,g,b,h1,h2,Nat.le_trans hB h3⟩
end Go.Proofs.YtdfkghpgekmmlaaGreat
