/- Texts Y2b, Y5, Y6, P19, Y7, P20, S1, S3 of one proof, one behind the other; what nothing here names is left out. -/
import Derived.Test.YtdfkghpgekmmlaaGreatT10
import Derived.Test.YtdfkghpgekmmlaaGreatZ5
import Derived.Test.YtdfkghpgekmmlaaGreatT8
import Derived.Test.YtdfkghpgekmmlaaGreatZ4
import Derived.IntWalk
import Derived.Test.YtdfkghpgekmmlaaGreatT7
set_option maxRecDepth 100000
set_option maxHeartbeats 8000000
set_option linter.unusedVariables false
set_option linter.unusedSimpArgs false
namespace Go.Proofs.YtdfkghpgekmmlaaGreat
open Go.RowKit
attribute [local go_sem] vN bT bF rS vW vM vL vT2 vT3 vP vI execOp Act.eval evC bigF vB hi_zero lo_zero Tryz.underlying128 Tryz.underlying142
def RowC (T:TypeId) (cs:Array Value) (n:Nat) (w:World) (v:Value):Prop:=∃ b,v = .slice (some ⟨b,0,none⟩) n n∧w.heap[b]? = some (Obj.cells cs T (0,0))
theorem RowC.form {T:TypeId} {cs:Array Value} {n:Nat} {w:World} {v:Value} (h:RowC T cs n w v):v=entF n v:=by obtain ⟨b,rfl,_⟩:=h;rfl
theorem RowC.keep {T:TypeId} {cs:Array Value} {n:Nat} {w w':World} {v:Value} (h:RowC T cs n w v) (hk:KeepT [T] none w w'):RowC T cs n w' v:=by
 obtain ⟨b,rfl,hb⟩:=h
 exact ⟨b,rfl,(hk _ _ _ _ hb (by simp) (by simp)).trans hb⟩
theorem RowC.seg {T:TypeId} {w:World} {v:Value} (h:RowC T pubC 13 w v):SegU w (.slice (sA v) 13 13) pubS:=by
  obtain ⟨b,rfl,hb⟩:=h
  exact ⟨_,13,rfl,by decide,by decide,.inr ⟨b,0,T,pubC,_,rfl,hb,fun i hi=>by
    have hi':i < 52:=by have:pubS.length=13:=rfl;omega
    simp [pubC,hi']⟩⟩
section
variable {P:Program} {R:Reg} {Q:Exit→Act→World→Prop} {i:Nat} {o:Oper}
end
end Go.Proofs.YtdfkghpgekmmlaaGreat
namespace Go.Proofs.YtdfkghpgekmmlaaGreat
open Go.RowKit
attribute [local go_sem] vN bT bF rS vW vM vL vT2 vT3 vP vI execOp Act.eval evC bigF vB hi_zero lo_zero Tryz.underlying24 Tryz.underlying26 Tryz.underlying39
theorem rOld15_any (w0:World) (A0:Option Addr) (c0:Nat) (es:List (Int × Int)) (u x:Int) (hv:Ents w0 w0.heap.size (.slice A0 es.length c0) es) (hp:okPre es es.length=true) (hn0:0 < es.length):Calls Tryz.prog 27 #[.agg #[vI u,vI x,.slice A0 es.length c0]] w0 fun e w'=>e = .returned (.bool (oldB es))∧Below w0.heap.size w0 w':=by
 have hb0:=okPre_num hp (i:=0) hn0
 have hst:=St.start w0 (Θ:=fun _=>True) (fun _ _=>trivial)
 refine enter Tryz.func27 rfl (n:=17) rfl (Nat.le_of_ble_eq_true rfl) hst (L:=[(0,.agg #[vI u,vI x,.slice A0 es.length c0])]) (lk_args rfl) (fun ac h=>?_)
 refine wp_seq ?_
 refine rg_ h [[0],[1]] [KE_ fun env=>vP (pb env 0) 0,K_ bF] (fun E1=>[(1,vP (pb E1 0) 0),(2,bF)]) (W:=[{ i:=0,T:=24,c0:=[vI u,vI x,.slice A0 es.length c0] }]) (M':=fun E1=>[((pb E1 0),24,[vI u,vI x,.slice A0 es.length c0])]) (hs:=c_ (bx0 0 (.agg #[vI u,vI x,.slice A0 es.length c0]))<|c_ mv_<|e_) (k:=fun E1 ac wd h_1=>?_)
 clear h
 refine then_n (wp_seq ?_)
 by_cases h1:day0 es=41317
 by_cases h2:(es.getD 0 (0,0)).2=10
 have hob:oldB es=true:=oldB_iff.2 ⟨h1,h2⟩
 refine rg_ h_1 (tri 15) [K_ (vP (pb E1 0) 2),K_ (.slice A0 es.length c0),K_ (elt (.slice A0 es.length c0) (0*2)),K_ (.agg #[vI ((es.getD 0 (0,0)).1),vI ((es.getD 0 (0,0)).2)]),K_ (vI (day0 es)),K_ bT,K_ bT,K_ (vP (pb E1 0) 2),K_ (.slice A0 es.length c0),K_ (elt (.slice A0 es.length c0) (0*2)),K_ (elt (.slice A0 es.length c0) (0*2+1)),K_ (vI ((es.getD 0 (0,0)).2)),K_ bT,K_ bT,K_ bT] (fun E2=>[(2,bT)]) (hs:=c_ (fa0 (vP (pb E1 0) 0))<|c_ (ld_ 0 (hrd:=by exact rd22 rfl))<|c_ (ia_ Tryz.underlying22 sz70 0 (0*2) 0 (fun _ env _ wd hA=>(hv.gn hA.j.st.gr).els) (rfl) (hn0) rfl)<|c_ (le_ (0*2) (fun _ env _ wd hA=>(hv.gn hA.j.st.gr).els) (by omega) (le70 (by exact enC_0 es 0) (by exact enC_1 es 0)))<|c_ (cl_ Tryz.func36 (h:=fun env=>⟨_,(Ret.eq (rday_any (es.getD 0 (0,0)).1 (es.getD 0 (0,0)).2 hb0.1 hb0.2.1) (y_day0 es)),rfl⟩))<|c_ (bi0 (vI (day0 es)) (vI 41317) (h:=by intro env w;simp [go_sem,h1]))<|c_ mv_<|c_ (fa0 (vP (pb E1 0) 0))<|c_ (ld_ 0 (hrd:=by exact rd22 rfl))<|c_ (ia_ Tryz.underlying22 sz70 0 (0*2) 0 (fun _ env _ wd hA=>(hv.gn hA.j.st.gr).els) (rfl) (hn0) rfl)<|c_ (s_fa rfl rfl rfl (fun hA=>hA.gy rfl rfl rfl) (0*2) 1 (0*2+1) rfl (s:=fun _=>.slice A0 es.length c0) rfl (fun _=>rfl) (fun {D env ac wd} hA=>(hv.gn hA.j.st.gr).els) (by omega) (fun b q w=>by simp [go_sem,Tryz.underlying70]))<|c_ (le_ (0*2+1) (fun _ env _ wd hA=>(hv.gn hA.j.st.gr).els) (by omega) (le3 (by exact enC_1 es 0)))<|c_ (bi0 (vI ((es.getD 0 (0,0)).2)) (vI 10) (h:=by intro env w;(first | (simp [go_sem,h2];done) | (simp [go_sem];simp only [List.getD_eq_getElem?_getD] at h2;simp [h2]))))<|c_ (pk0 bT bT bF (h:=by intro env w;(first | (simp [go_sem,h2];done) | (simp [go_sem];simp only [List.getD_eq_getElem?_getD] at h2;simp [h2]))))<|c_ mv_<|e_) (k:=fun E2 ac wd h_2=>?_)
 clear h_1
 refine then_n (wp_ret ?_)
 have s2:=h_2.g (t:=2) rfl
 refine leave (v:=.bool true) h_2.df (by simp [results,Tryz.results27,go_sem,Array.getD_eq_getD_getElem?,s2]) ?_
 exact ⟨by rw [hob],h_2.st.below⟩
 have hob:oldB es=false:=by unfold oldB;simp only [h1,h2,decide_true,decide_false,Bool.and_false]
 refine rg_ h_1 (tri 15) [K_ (vP (pb E1 0) 2),K_ (.slice A0 es.length c0),K_ (elt (.slice A0 es.length c0) (0*2)),K_ (.agg #[vI ((es.getD 0 (0,0)).1),vI ((es.getD 0 (0,0)).2)]),K_ (vI (day0 es)),K_ bT,K_ bT,K_ (vP (pb E1 0) 2),K_ (.slice A0 es.length c0),K_ (elt (.slice A0 es.length c0) (0*2)),K_ (elt (.slice A0 es.length c0) (0*2+1)),K_ (vI ((es.getD 0 (0,0)).2)),K_ bF,K_ bF,K_ bF] (fun E2=>[(2,bF)]) (hs:=c_ (fa0 (vP (pb E1 0) 0))<|c_ (ld_ 0 (hrd:=by exact rd22 rfl))<|c_ (ia_ Tryz.underlying22 sz70 0 (0*2) 0 (fun _ env _ wd hA=>(hv.gn hA.j.st.gr).els) (rfl) (hn0) rfl)<|c_ (le_ (0*2) (fun _ env _ wd hA=>(hv.gn hA.j.st.gr).els) (by omega) (le70 (by exact enC_0 es 0) (by exact enC_1 es 0)))<|c_ (cl_ Tryz.func36 (h:=fun env=>⟨_,(Ret.eq (rday_any (es.getD 0 (0,0)).1 (es.getD 0 (0,0)).2 hb0.1 hb0.2.1) (y_day0 es)),rfl⟩))<|c_ (bi0 (vI (day0 es)) (vI 41317) (h:=by intro env w;simp [go_sem,h1]))<|c_ mv_<|c_ (fa0 (vP (pb E1 0) 0))<|c_ (ld_ 0 (hrd:=by exact rd22 rfl))<|c_ (ia_ Tryz.underlying22 sz70 0 (0*2) 0 (fun _ env _ wd hA=>(hv.gn hA.j.st.gr).els) (rfl) (hn0) rfl)<|c_ (s_fa rfl rfl rfl (fun hA=>hA.gy rfl rfl rfl) (0*2) 1 (0*2+1) rfl (s:=fun _=>.slice A0 es.length c0) rfl (fun _=>rfl) (fun {D env ac wd} hA=>(hv.gn hA.j.st.gr).els) (by omega) (fun b q w=>by simp [go_sem,Tryz.underlying70]))<|c_ (le_ (0*2+1) (fun _ env _ wd hA=>(hv.gn hA.j.st.gr).els) (by omega) (le3 (by exact enC_1 es 0)))<|c_ (bi0 (vI ((es.getD 0 (0,0)).2)) (vI 10) (h:=by intro env w;(first | (simp [go_sem,h2];done) | (simp [go_sem];simp only [List.getD_eq_getElem?_getD] at h2;simp [h2]))))<|c_ (pk0 bT bF bF (h:=by intro env w;(first | (simp [go_sem,h2];done) | (simp [go_sem];simp only [List.getD_eq_getElem?_getD] at h2;simp [h2]))))<|c_ mv_<|e_) (k:=fun E2 ac wd h_2=>?_)
 clear h_1
 refine then_n (wp_ret ?_)
 have s2:=h_2.g (t:=2) rfl
 refine leave (v:=.bool false) h_2.df (by simp [results,Tryz.results27,go_sem,Array.getD_eq_getD_getElem?,s2]) ?_
 exact ⟨by rw [hob],h_2.st.below⟩
 have hob:oldB es=false:=by unfold oldB;simp [h1]
 refine rg_ h_1 (tri 15) [K_ (vP (pb E1 0) 2),K_ (.slice A0 es.length c0),K_ (elt (.slice A0 es.length c0) (0*2)),K_ (.agg #[vI ((es.getD 0 (0,0)).1),vI ((es.getD 0 (0,0)).2)]),K_ (vI (day0 es)),K_ bF,K_ bF,K_ undef,K_ undef,K_ undef,K_ undef,K_ undef,K_ undef,K_ bF,K_ bF] (fun E2=>[(2,bF)]) (hs:=c_ (fa0 (vP (pb E1 0) 0))<|c_ (ld_ 0 (hrd:=by exact rd22 rfl))<|c_ (ia_ Tryz.underlying22 sz70 0 (0*2) 0 (fun _ env _ wd hA=>(hv.gn hA.j.st.gr).els) (rfl) (hn0) rfl)<|c_ (le_ (0*2) (fun _ env _ wd hA=>(hv.gn hA.j.st.gr).els) (by omega) (le70 (by exact enC_0 es 0) (by exact enC_1 es 0)))<|c_ (cl_ Tryz.func36 (h:=fun env=>⟨_,(Ret.eq (rday_any (es.getD 0 (0,0)).1 (es.getD 0 (0,0)).2 hb0.1 hb0.2.1) (y_day0 es)),rfl⟩))<|c_ (bi0 (vI (day0 es)) (vI 41317) (h:=by intro env w;simp [go_sem,h1]))<|c_ mv_<|c_ off_<|c_ off_<|c_ off_<|c_ off_<|c_ off_<|c_ off_<|c_ (pk0 bF undef bF)<|c_ mv_<|e_) (k:=fun E2 ac wd h_2=>?_)
 clear h_1
 refine then_n (wp_ret ?_)
 have s2:=h_2.g (t:=2) rfl
 refine leave (v:=.bool false) h_2.df (by simp [results,Tryz.results27,go_sem,Array.getD_eq_getD_getElem?,s2]) ?_
 exact ⟨by rw [hob],h_2.st.below⟩
end Go.Proofs.YtdfkghpgekmmlaaGreat
namespace Go.Proofs.YtdfkghpgekmmlaaGreat
open Go.RowKit
attribute [local go_sem] vN bT bF rS vW vM vL vT2 vT3 vP vI execOp Act.eval evC bigF vB hi_zero lo_zero Tryz.underlying24 Tryz.underlying26 Tryz.underlying34 Tryz.underlying70
def ansC:List (Int × Int):=[(2272060800,10)]
theorem ansC_ok:okT 0 3155673600 ansC=true:=by decide +kernel
theorem ansC_64:∀ i,I64 (ansC.getD i (0,0)).1∧I64 (ansC.getD i (0,0)).2:=by
  intro i
  match i with
  | 0=>simp [ansC,I64]
  | i+1=>simp [ansC,I64]
theorem ansC_cs:(ansC.flatMap entC).toArray = #[vI 2272060800,vI 10]:=rfl
theorem ans15_t:vT2 (vW (tV ansC 3155673600 false 41000 5 0)) (vI (tE ansC 3155673600 false 41000 5 0))=vT2 (vW 3542400014070578150000000000) (vI 0):=by
 rw [show tV ansC 3155673600 false 41000 5 0=3542400014070578150000000000 by decide +kernel,show tE ansC 3155673600 false 41000 5 0=0 by decide +kernel]
theorem ans15_h:vT2 (vW (tV ansC 3155673600 false 51544 0 0)) (vI (tE ansC 3155673600 false 51544 0 0))=vT2 (vW 0) (vI 9):=by
 rw [show tV ansC 3155673600 false 51544 0 0=0 by decide +kernel,show tE ansC 3155673600 false 51544 0 0=9 by decide +kernel]
theorem ans15_l:vT2 (vL (lbl4 ansC 3155673600 false 3542400014070578150000000000).2.1 (lbl4 ansC 3155673600 false 3542400014070578150000000000).2.2.1 (lbl4 ansC 3155673600 false 3542400014070578150000000000).2.2.2) (vI (lbl4 ansC 3155673600 false 3542400014070578150000000000).1)=vT2 (vL 41000 5 0) (vI 0):=by
 rw [show lbl4 ansC 3155673600 false 3542400014070578150000000000=(0,41000,5,0) by decide +kernel]
theorem ans15_e:Value.bool (ctE ansC 51544 0 0 == 0) = .bool true:=by rw [show ctE ansC 51544 0 0=0 by decide +kernel];rfl
theorem ans15_o:Value.bool (oldB ansC) = .bool true:=by rw [show oldB ansC=true by decide +kernel]
theorem ans15_f:vI (day0 ansC)=vI 41317:=by rw [show day0 ansC=41317 by decide +kernel]
theorem answers15_any  : Ret 14 #[] (.bool true):=by
 intro w0
 have hst:=St.start w0 (Θ:=fun _=>True) (fun _ _=>trivial)
 refine enter Tryz.func14 rfl (n:=68) rfl (Nat.le_of_ble_eq_true rfl) hst (L:=[]) (lk_args rfl) (fun ac h=>?_)
 replace h:=h.facts
 refine wp_seq ?_
 refine rf_ h [[0]] [K_ bF] (fun E1=>[(0,bF)]) (hs:=c_ mv_<|e_) (k:=fun E1 ac wd h_1=>?_)
 clear h
 refine then_n (wp_seq ?_)
 refine rf_ h_1 [[0],[0,1],[0,1,2],r_ 4,r_ 5,r_ 6,[0,1,2,3,4,6],[0,1,2,3,4,5,7],r_ 9] [K_ (.agg #[vI 2272060800,vI 10]),KE_ fun env=>.slice ((sA (env 1))) 1 1,KE_ fun env=>.agg #[vI 0,vI 3155673600,.slice ((sA (env 1))) 1 1],KE_ fun env=>vT2 (vP (ptrB (tp (env 3) 0)) 0) (vI 0),KE_ fun env=>vT2 (vP (ptrB (tp (env 3) 0)) 0) (vI 0),KE_ fun env=>vP (ptrB (tp (env 3) 0)) 0,K_ (vI 0),KE_ fun env=>vP (ptrB (tp (env 3) 0)) 0,K_ (vI 0)] (fun E2=>[(0,bF),(1,vP (ptrB (tp (E2 3) 0)) 0),(2,vI 0)]) (F:=[(1,fun env w=>EntL w (env 1) ansC),(3,fun env w=>NewCx w (env 3) 0 3155673600 ansC w0.heap.size)]) (L1:=fun E2=>[fun w=>EntL w (E2 1) ansC,fun w=>NewCx w (E2 3) 0 3155673600 ansC w0.heap.size]) (hs:=c_ (bd0 ([vI 2272060800,vI 10]))<|c_ (s_bsE rfl rfl (fun _=>wanted_none rfl _) ansC 1 rfl #[vI 2272060800,vI 10] ansC_cs rfl rfl rfl rfl (fun {D env ac wd} hA=>by have e10:ac.tmps[10]? = some (.agg #[vI 2272060800,vI 10]):=hA.g rfl;simp [go_sem,e10,Tryz.underlying22]))<|c_ (bd_ (fun env=>[vI 3155673600,.slice ((sA (env 1))) 1 1]))<|c_ (s_factT rfl rfl rfl Tryz.func13 (by kernel_rfl) rfl (fun _=>wanted_none rfl _) (fun v w=>NewCx w v 0 3155673600 ansC w0.heap.size) newLF rfl rfl cT rfl (fun v w h=>h.form) (fun v w w' hk h=>h.keep hk) (fun {D env ac wd} hA=>⟨_,hA.args (vs:=[.agg #[vI 0,vI 3155673600,.slice ((sA (env 1))) 1 1]]) rfl,cnew_yes hA.j.st.gr.size (At.ent hA 1 rfl (by decide) rfl rfl rfl) (by simp [I64]) (by simp [I64]) ansC_64 ansC_ok⟩))<|c_ mv_<|c_ ext_<|c_ ext_<|c_ mv_<|c_ mv_<|e_) (k:=fun E2 ac wd h_2=>?_)
 clear h_1
 refine then_n (wp_seq ?_)
 replace h_2:=Cur.exInC h_2 1 rfl;obtain ⟨g,b,h_2⟩:=h_2;generalize ptrB (tp (E2 3) 0)=c at h_2
 refine rf_ h_2 [[0],[1],[0,1,2],r_ 4,r_ 5,[0,1,2,3,5],[6],[0,1,2,3,4,6,7],r_ 9] [K_ (vP c 0),K_ (vL 41000 5 0),K_ (vT2 (vW 3542400014070578150000000000) (vI 0)),K_ (vT2 (vW 3542400014070578150000000000) (vI 0)),K_ (vW 3542400014070578150000000000),K_ (vI 0),KE_ fun env=>vP (pb env 6) 0,none,K_ (vI 0)] (fun E3=>[(0,bF),(1,vP c 0),(2,vI 0),(3,vP (pb E3 6) 0),(4,vI 0)]) (W:=[{ i:=6,T:=34,c0:=[vI 0,.int .u64 0],s:=some 7,c1:=fun _=>[vI (hi (3542400014070578150000000000)),.int .u64 (lo (3542400014070578150000000000))] }]) (M':=fun E3=>[((pb E3 6),34,[vI (hi (3542400014070578150000000000)),.int .u64 (lo (3542400014070578150000000000))])]) (hs:=c_ mv_<|c_ (bd0 ([vI 41000,vI 5]))<|c_ (s_clk (c:=c) (g:=g) (b:=b) (u:=0) (x:=3155673600) (es:=ansC) Tryz.func15 (fun _ h=>h) (fun _ h=>h) (h:=fun D env ac wd hA hC=>⟨_,ClkC.eq (cTai_c _ c g b 0 3155673600 ansC hC false 41000 5 0 (by omega) (by omega)) ans15_t,rfl⟩))<|c_ mv_<|c_ ext_<|c_ ext_<|c_ (al_ 0)<|c_ (sw_ 0 6 (hst:=by exact fun _ _ _ hc=>st34 rfl rfl rfl hc))<|c_ mv_<|e_) (k:=fun E3 ac wd h_3=>?_)
 clear h_2
 refine then_n (wp_seq ?_)
 refine rf_ h_3 [[0],[1],[0,1,2],r_ 4,r_ 5,[0,1,2,3,5],[6],[0,1,2,3,4,6,7],r_ 9] [K_ (vP c 0),K_ (vW 3542400014070578150000000000),K_ (vT2 (vL 41000 5 0) (vI 0)),K_ (vT2 (vL 41000 5 0) (vI 0)),K_ (vL 41000 5 0),K_ (vI 0),KE_ fun env=>vP (pb env 6) 0,none,K_ (vI 0)] (fun E4=>[(0,bF),(1,vP c 0),(2,vI 0),(4,vI 0),(5,vP (pb E4 6) 0),(6,vI 0)]) (W:=[{ i:=6,T:=26,c0:=[vI 0,vI 0,vI 0],s:=some 7,c1:=fun _=>[vI 41000,vI 5,vI 0] }]) (M':=fun E4=>[((pb E3 6),34,[vI (hi (3542400014070578150000000000)),.int .u64 (lo (3542400014070578150000000000))]),((pb E4 6),26,[vI 41000,vI 5,vI 0])]) (hs:=c_ mv_<|c_ (ld_ 0 (hrd:=by exact rd34 rfl rfl))<|c_ (s_clk (c:=c) (g:=g) (b:=b) (u:=0) (x:=3155673600) (es:=ansC) Tryz.func20 (fun _ h=>h) (fun _ h=>h) (h:=fun D env ac wd hA hC=>⟨_,ClkC.eq (cLabel_c _ c g b 0 3155673600 ansC hC false 3542400014070578150000000000 (by unfold InW;omega)) ans15_l,rfl⟩))<|c_ mv_<|c_ ext_<|c_ ext_<|c_ (al_ 1)<|c_ (sw_ 1 6 (hst:=by exact fun _ _ _ hc=>st26 rfl rfl rfl rfl hc))<|c_ mv_<|e_) (k:=fun E4 ac wd h_4=>?_)
 clear h_3
 refine then_n (wp_seq ?_)
 refine rf_ h_4 [[0],[1],[0,1,2],r_ 4,r_ 5,[0,1,2,3,5],[6],[0,1,2,3,4,6,7],r_ 9] [K_ (vP c 0),K_ (vL 51544 0 0),K_ (vT2 (vW 0) (vI 9)),K_ (vT2 (vW 0) (vI 9)),K_ (vW 0),K_ (vI 9),KE_ fun env=>vP (pb env 6) 0,none,K_ (vI 9)] (fun E5=>[(0,bF),(1,vP c 0),(2,vI 0),(4,vI 0),(5,vP (pb E4 6) 0),(6,vI 0),(8,vI 9)]) (W:=[{ i:=6,T:=34,c0:=[vI 0,.int .u64 0],s:=some 7,c1:=fun _=>[vI (hi (0)),.int .u64 (lo (0))] }]) (M':=fun E5=>[((pb E3 6),34,[vI (hi (3542400014070578150000000000)),.int .u64 (lo (3542400014070578150000000000))]),((pb E4 6),26,[vI 41000,vI 5,vI 0]),((pb E5 6),34,[vI (hi (0)),.int .u64 (lo (0))])]) (hs:=c_ mv_<|c_ (bd0 ([vI 51544]))<|c_ (s_clk (c:=c) (g:=g) (b:=b) (u:=0) (x:=3155673600) (es:=ansC) Tryz.func15 (fun _ h=>h) (fun _ h=>h) (h:=fun D env ac wd hA hC=>⟨_,ClkC.eq (cTai_c _ c g b 0 3155673600 ansC hC false 51544 0 0 (by omega) (by omega)) ans15_h,rfl⟩))<|c_ mv_<|c_ ext_<|c_ ext_<|c_ (al_ 2)<|c_ (sw_ 2 6 (hst:=by exact fun _ _ _ hc=>st34 rfl rfl rfl hc))<|c_ mv_<|e_) (k:=fun E5 ac wd h_5=>?_)
 clear h_4
 refine then_n (wp_seq ?_)
 refine rf_ h_5 [[0],[0,1],[0,1,2],r_ 4,r_ 5,r_ 6,r_ 7,r_ 8,r_ 9,r_ 10,r_ 11,r_ 12,r_ 13,r_ 14,r_ 15,r_ 16,[0,1,2,3,4,5,6,7,8,9,10,11,12,13,14,16],r_ 18,r_ 19,r_ 20,r_ 21,r_ 22,r_ 23,r_ 24,r_ 25,[0,1,2,3,4,5,6,7,8,9,10,11,12,13,14,15,16,17,18,19,20,21,22,23,25],r_ 27,r_ 28,r_ 29,r_ 30,r_ 31,r_ 32,r_ 33,r_ 34,r_ 35] [K_ (vI 0),K_ bT,K_ bT,K_ (vP c 0),K_ bT,K_ bT,K_ bT,K_ (vI 0),K_ bT,K_ bT,K_ bT,K_ (vI 0),K_ bT,K_ bT,K_ bT,K_ (vL 41000 5 0),K_ (vL 41000 5 0),K_ bT,K_ bT,K_ bT,K_ (vI 9),K_ bT,K_ bT,K_ bT,K_ (vP c 0),K_ (vL 51544 0 0),K_ bT,K_ bT,K_ bT,K_ (vP c 0),K_ (vP g 0),K_ (vI 41317),K_ bT,K_ bT,K_ bT] (fun E6=>[(0,bT)]) (hs:=c_ mv_<|c_ (bi0 (vI 0) (vI 0) (h:=by intro env w;(first | (simp [go_sem];done) | (simp [go_sem];rfl))))<|c_ mv_<|c_ (gm0 (vP c 0))<|c_ (cw_ Tryz.func24 (h:=fun _ env _ wd hA=>⟨_,(u_res_eq ((cold_any (hA.thO rfl))) ans15_o),rfl⟩))<|c_ (pk0 bT bT bF)<|c_ mv_<|c_ (gm0 (vI 0))<|c_ (bi0 (vI 0) (vI 0) (h:=by intro env w;(first | (simp [go_sem];done) | (simp [go_sem];rfl))))<|c_ (pk0 bT bT bF (h:=by intro env w;(first | (simp [go_sem];done) | (simp [go_sem];rfl))))<|c_ mv_<|c_ (gm0 (vI 0))<|c_ (bi0 (vI 0) (vI 0) (h:=by intro env w;(first | (simp [go_sem];done) | (simp [go_sem];rfl))))<|c_ (pk0 bT bT bF (h:=by intro env w;(first | (simp [go_sem];done) | (simp [go_sem];rfl))))<|c_ mv_<|c_ (ld_ 1 (hrd:=by exact rd26 rfl rfl rfl))<|c_ (bd0 ([vI 41000,vI 5]))<|c_ (bi0 (vL 41000 5 0) (vL 41000 5 0) (h:=by intro env w;(first | (simp [go_sem];done) | (simp [go_sem];rfl))))<|c_ (pk0 bT bT bF (h:=by intro env w;(first | (simp [go_sem];done) | (simp [go_sem];rfl))))<|c_ mv_<|c_ (gm0 (vI 9))<|c_ (bi0 (vI 9) (vI 9) (h:=by intro env w;(first | (simp [go_sem];done) | (simp [go_sem];rfl))))<|c_ (pk0 bT bT bF (h:=by intro env w;(first | (simp [go_sem];done) | (simp [go_sem];rfl))))<|c_ mv_<|c_ (gm0 (vP c 0))<|c_ (bd0 ([vI 51544]))<|c_ (s_clk (c:=c) (g:=g) (b:=b) (u:=0) (x:=3155673600) (es:=ansC) Tryz.func17 (fun _ h=>h) (fun _ h=>h) (h:=fun D env ac wd hA hC=>⟨_,ClkC.eq (cexists_c _ c g b 0 3155673600 ansC hC 51544 0 0 (by omega) (by omega)) ans15_e,rfl⟩))<|c_ (pk0 bT bT bF)<|c_ mv_<|c_ (gm0 (vP c 0))<|c_ (cw_ Tryz.func25 (h:=fun _ env _ wd hA=>⟨_,(cleaps_any (hA.thO rfl)),rfl⟩))<|c_ (s_clk (c:=c) (g:=g) (b:=b) (u:=0) (x:=3155673600) (es:=ansC) Tryz.func40 (fun _ h=>h) (fun _ h=>h) (h:=fun D env ac wd hA hC=>⟨_,LeapC.clk hC (LeapC.eq (clk_first (IsC.lx hC)) ans15_f),rfl⟩))<|c_ (bi0 (vI 41317) (vI 41317) (h:=by intro env w;(first | (simp [go_sem];done) | (simp [go_sem];rfl))))<|c_ (pk0 bT bT bF (h:=by intro env w;(first | (simp [go_sem];done) | (simp [go_sem];rfl))))<|c_ mv_<|e_) (k:=fun E6 ac wd h_6=>?_)
 clear h_5
 refine then_n (wp_ret ?_)
 have s0:=h_6.g (t:=0) rfl
 refine leave (v:=.bool true) h_6.df (by simp [results,Tryz.results14,go_sem,Array.getD_eq_getD_getElem?,s0]) ?_
 exact ⟨rfl,h_6.st.below⟩
end Go.Proofs.YtdfkghpgekmmlaaGreat
namespace Go.Proofs.YtdfkghpgekmmlaaGreat
open Go.RowKit
theorem labUt_no {es:List (Int × Int)} {z:Int} (he:¬ (labUt es z).1=0):labUt es z=((labUt es z).1,0,0,0):=by
  unfold labUt labR at *
  split
  · split <;> rfl
  split
  · rfl
  split
  · split
    · rename_i h1 h2 h3 h4
      rw [if_neg h1,if_neg h2,if_pos h3,if_pos h4] at he
      exact absurd rfl he
    · rfl
  · split
    · rename_i h1 h2 h3 h4
      rw [if_neg h1,if_neg h2,if_neg h3,if_pos h4] at he
      exact absurd rfl he
    · rfl
theorem clb_no {es:List (Int × Int)} {z:Int} (he:¬ (clb es z).1=0):clb es z=((clb es z).1,0,0,0):=by
  unfold clb at *
  split
  · rename_i h
    rw [if_pos h] at he
    have e1:labD pubS 41317 10 z=0:=by unfold labD;rw [if_neg he]
    have e2:labS pubS 41317 10 z=0:=by unfold labS;rw [if_neg he]
    have e3:labA pubS 41317 10 z=0:=by unfold labA;rw [if_neg he]
    rw [e1,e2,e3]
  · rename_i h
    rw [if_neg h] at he
    exact labUt_no he
theorem lbl_yes {es:List (Int × Int)} {x z:Int} {lax:Bool} (h:(lbl4 es x lax z).1=0):(clb es z).1=0∧lbl4 es x lax z=clb es z:=by
  unfold lbl4 at *
  split at h
  · rename_i h1
    split at h
    · cases h
    · rename_i h2
      rw [if_pos h1,if_neg h2]
      exact ⟨h1,rfl⟩
  · rename_i h1
    exact absurd h h1
theorem lbl_lax {es:List (Int × Int)} {x z:Int}:lbl4 es x true z=clb es z:=by
  unfold lbl4 expB
  by_cases h:(clb es z).1=0
  · rw [if_pos h];simp
  · rw [if_neg h];exact (clb_no h).symm
def spA (es:List (Int × Int)) (x:Int) (lax:Bool) (d s a k:Int):Int × Int × Int × Int:=if tE es x lax d s a=0 then (if inW (tV es x lax d s a+k)=true then lbl4 es x lax (tV es x lax d s a+k) else (2,0,0,0)) else (tE es x lax d s a,0,0,0)
def spD (es:List (Int × Int)) (x:Int) (lax:Bool) (d s a d' s' a':Int):Int:=if tE es x lax d s a=0 then (if tE es x lax d' s' a'=0 then tV es x lax d' s' a'-tV es x lax d s a else 0) else 0
def spE (es:List (Int × Int)) (x:Int) (lax:Bool) (d s a d' s' a':Int):Int:=if tE es x lax d s a=0 then tE es x lax d' s' a' else tE es x lax d s a
def goB (y:Int × Int × Int × Int) (d s a:Int):Bool:=decide (y.1=0) && (decide (y.2.1=d) && decide (y.2.2.1=s) && decide (y.2.2.2=a))
def spN (es:List (Int × Int)) (x:Int) (lax:Bool) (d s a:Int):Int × Int × Int × Int:=if goB (spA es x lax d s a 1) d s a=true then spA es x lax d s a 2 else spA es x lax d s a 1
theorem goB_iff {y:Int × Int × Int × Int} {d s a:Int}:goB y d s a=true↔y=(0,d,s,a):=by
 obtain ⟨e,p,q,r⟩:=y
 unfold goB;simp;intro _;exact and_assoc
theorem taiU_bd {es:List (Int × Int)} (hp:okPre es es.length=true) (d s a:Int):-100000000000000000000000000000000000000≤1000*taiU es d s a∧1000*taiU es d s a≤100000000000000000000000000000000000000:=by
  unfold taiU
  split
  · rename_i h
    have:=whyU_ok h
    have:=u_off_bd hp d
    omega
  · omega
theorem ctV_bd {es:List (Int × Int)} (hp:okPre es es.length=true) (d s a:Int):-100000000000000000000000000000000000000≤1000*ctV es d s a∧1000*ctV es d s a≤100000000000000000000000000000000000000:=by
  unfold ctV
  split
  · have:=taiV_bd pub_ok d s a
    omega
  · exact taiU_bd hp d s a
theorem tV_bd {es:List (Int × Int)} (hp:okPre es es.length=true) (x:Int) (lax:Bool) (d s a:Int):-100000000000000000000000000000000000000≤1000*tV es x lax d s a∧1000*tV es x lax d s a≤100000000000000000000000000000000000000:=by
  unfold tV
  split
  · exact ctV_bd hp d s a
  · omega
theorem spD_bd {es:List (Int × Int)} (hp:okPre es es.length=true) (x:Int) (lax:Bool) (d s a d' s' a':Int):InW (tV es x lax d' s' a'-tV es x lax d s a):=by
 have:=tV_bd hp x lax d s a
 have:=tV_bd hp x lax d' s' a'
 unfold InW;omega
section
variable {es:List (Int × Int)} (hp:okPre es es.length=true) (hn:0 < es.length)
include hp hn
theorem spA_yes {x:Int} {lax:Bool} {d s a k:Int} (h:(spA es x lax d s a k).1=0):tE es x lax d s a=0∧InW (ctV es d s a+k)∧(clb es (ctV es d s a+k)).1=0∧spA es x lax d s a k=clb es (ctV es d s a+k):=by
  have _:=hn
  have _:=hp
  unfold spA at *
  split at h
  · rename_i h0
    have hv:tV es x lax d s a=ctV es d s a:=by unfold tV;rw [if_pos h0]
    split at h
    · rename_i h1
      rw [if_pos h0,if_pos h1]
      rw [hv] at *
      obtain ⟨q1,q2⟩:=lbl_yes h
      exact ⟨h0,(inW_iff _).1 h1,q1,q2⟩
    · cases h
  · rename_i h0
    exact absurd h h0
theorem spA_bd {x:Int} {lax:Bool} {d s a k p q r:Int} (h:spA es x lax d s a k=(0,p,q,r)):0≤q∧q≤86400∧0≤r∧r < 1000000000000000000 ∧ -1099511627776≤p∧p≤1099511627776:=by
 obtain ⟨_,_,q3,q4⟩:=spA_yes hp hn (x:=x) (lax:=lax) (d:=d) (s:=s) (a:=a) (k:=k) (by rw [h])
 have h1:=ctE_bd (clk_forth hp hn q3).1
 rw [← q4,h] at h1
 exact h1
end
theorem sp_no1 {es:List (Int × Int)} {x:Int} {lax:Bool} {d s a d' s' a':Int} (h:¬ tE es x lax d s a=0):spD es x lax d s a d' s' a'=0∧spE es x lax d s a d' s' a'=tE es x lax d s a:=by
 unfold spD spE
 rw [if_neg h,if_neg h]
 exact ⟨rfl,rfl⟩
theorem sp_no2 {es:List (Int × Int)} {x:Int} {lax:Bool} {d s a d' s' a':Int} (h:tE es x lax d s a=0) (h2:¬ tE es x lax d' s' a'=0):spD es x lax d s a d' s' a'=0∧spE es x lax d s a d' s' a'=tE es x lax d' s' a':=by
 unfold spD spE
 rw [if_pos h,if_pos h,if_neg h2]
 exact ⟨rfl,rfl⟩
theorem sp_yes {es:List (Int × Int)} {x:Int} {lax:Bool} {d s a d' s' a':Int} (h:tE es x lax d s a=0) (h2:tE es x lax d' s' a'=0):spD es x lax d s a d' s' a'=tV es x lax d' s' a'-tV es x lax d s a∧spE es x lax d s a d' s' a'=0:=by
 unfold spD spE
 rw [if_pos h,if_pos h,if_pos h2]
 exact ⟨rfl,h2⟩
end Go.Proofs.YtdfkghpgekmmlaaGreat
namespace Go.Proofs.YtdfkghpgekmmlaaGreat
open Go.RowKit
attribute [local go_sem] vN bT bF rS vW vM vL vT2 vT3 vP vI execOp Act.eval evC bigF vB hi_zero lo_zero
theorem y_tt {a b c d:Int} (h1:a=c) (h2:b=d):vT2 (vW a) (vI b)=vT2 (vW c) (vI d):=by rw [h1,h2]
theorem y_lab {p q:Int × Int × Int × Int} (h:p=q):vT2 (vL p.2.1 p.2.2.1 p.2.2.2) (vI p.1)=vT2 (vL q.2.1 q.2.2.1 q.2.2.2) (vI q.1):=by rw [h]
theorem y_lab4 {p:Int × Int × Int × Int} {e d s a:Int} (h:p=(e,d,s,a)):vT2 (vL p.2.1 p.2.2.1 p.2.2.2) (vI p.1)=vT2 (vL d s a) (vI e):=by rw [h]
theorem y_exy {es:List (Int × Int)} {d s a:Int} (h:ctE es d s a=0):Value.bool (ctE es d s a == 0) = .bool true:=by rw [h];rfl
theorem y_exn {es:List (Int × Int)} {d s a:Int} (h:¬ ctE es d s a=0):Value.bool (ctE es d s a == 0) = .bool false:=by rw [show (ctE es d s a == 0)=false from by simp [h]]
theorem y_smw {z:Int} (h:InW z):Sm z:=by unfold InW at h;unfold Sm;omega
end Go.Proofs.YtdfkghpgekmmlaaGreat
namespace Go.Proofs.YtdfkghpgekmmlaaGreat
open Go.RowKit
theorem p20_cnt {es:List (Int × Int)} (h:okPre es es.length=true) (d:Int):cntC es d=cnt dayOf es d:=by
  have h1:=cnt_le dayOf es d
  have h2:=cntC_le es d
  rcases Nat.lt_trichotomy (cntC es d) (cnt dayOf es d) with hl | he | hg
  · have:=(cnt_chg h d (i:=cntC es d) (by omega));have:=(cnt_day h d (i:=cntC es d) (by omega));omega
  · exact he
  · have:=(cnt_chg h d (i:=cnt dayOf es d) (by omega));have:=(cnt_day h d (i:=cnt dayOf es d) (by omega));omega
theorem p20_off {es:List (Int × Int)} (h:okPre es es.length=true) (hn:0 < es.length) (d:Int) (hd:day0 es≤d):offV es (d+1)-offV es d=chgV es d:=by
  have hc0:0 < cnt dayOf es d:=(cnt_day h d hn).1 hd
  have hle:=cnt_le dayOf es d
  have hle1:=cnt_le dayOf es (d+1)
  have hC:=p20_cnt h d
  have hge:cnt dayOf es d≤cnt dayOf es (d+1):=by
    rcases Nat.lt_or_ge (cnt dayOf es (d+1)) (cnt dayOf es d) with hl | hg
    · have a1:=cnt_day h d (i:=cnt dayOf es (d+1)) (by omega)
      have a2:=cnt_day h (d+1) (i:=cnt dayOf es (d+1)) (by omega)
      omega
    · exact hg
  have hle2:cnt dayOf es (d+1)≤cnt dayOf es d+1:=by
    rcases Nat.lt_or_ge (cnt dayOf es d+1) (cnt dayOf es (d+1)) with hl | hg
    · have a1:=cnt_day h d (i:=cnt dayOf es d) (by omega)
      have a2:=cnt_day h (d+1) (i:=cnt dayOf es d+1) (by omega)
      have a3:=(day_step h (k:=cnt dayOf es d) (by omega)).1
      omega
    · exact hg
  unfold offV chgV
  rw [hC,if_neg (by omega),if_neg (by omega),if_neg (by omega)]
  split
  · rename_i hcn
    rw [show cnt dayOf es (d+1)=cnt dayOf es d by omega];omega
  · rename_i hcn
    have a1:=cnt_day h d (i:=cnt dayOf es d) (by omega)
    have a2:=cnt_day h (d+1) (i:=cnt dayOf es d) (by omega)
    split
    · rename_i he
      rw [show cnt dayOf es (d+1)=cnt dayOf es d+1 by omega,Nat.add_sub_cancel]
    · rename_i he
      rw [show cnt dayOf es (d+1)=cnt dayOf es d by omega];omega
theorem whyU_mk {es:List (Int × Int)} {d s a:Int} (h1:0≤s) (h2:s≤86400) (h3:0≤a) (h4:a < 1000000000000000000) (h5:-1099511627776≤d) (h6:d≤1099511627776) (h7:day0 es≤d) (h8:s < 86400+chgV es d):whyU es d s a=0:=by
 unfold whyU
 rw [if_neg (by simp [formB,wthn];omega),if_neg (by simp [wthn];omega),if_neg (by omega),if_neg (by omega)]
theorem ct_u {es:List (Int × Int)} {d s a:Int} (h:day0 es≤d):ctE es d s a=whyU es d s a∧ctV es d s a=taiU es d s a:=by
  have hu:¬ useR es d=true:=fun hu=>by
    obtain ⟨ho,hd⟩:=useR_iff.1 hu
    have:=(oldB_iff.1 ho).1
    omega
  unfold ctE ctV
  rw [if_neg hu,if_neg hu]
  exact ⟨rfl,rfl⟩
def stp (es:List (Int × Int)) (d s a:Int):Int × Int × Int:=if a+1 < 1000000000000000000 then (d,s,a+1) else if s+1=86400+chgV es d then (d+1,0,0) else (d,s+1,0)
section
variable {es:List (Int × Int)} (hp:okPre es es.length=true) (hn:0 < es.length)
include hp hn
theorem clk_step {d s a:Int} (hd0:day0 es≤d) (hd1:d < 1099511627776) (he:ctE es d s a=0):day0 es≤(stp es d s a).1∧ctE es (stp es d s a).1 (stp es d s a).2.1 (stp es d s a).2.2=0∧ctV es (stp es d s a).1 (stp es d s a).2.1 (stp es d s a).2.2=ctV es d s a+1:=by
  obtain ⟨e1,e2⟩:=ct_u (s:=s) (a:=a) hd0
  rw [e1] at he
  rw [e2]
  have hw:=whyU_ok he
  have hv:taiU es d s a=(d*86400+s+offV es d)*1000000000000000000+a:=by unfold taiU;rw [if_pos he]
  have key:∀ d' s' a',day0 es≤d'→whyU es d' s' a'=0→(d'*86400+s'+offV es d')*1000000000000000000+a'=taiU es d s a+1→day0 es≤d'∧ctE es d' s' a'=0∧ctV es d' s' a'=taiU es d s a+1:=fun d' s' a' h1 h2 h3=>by
    obtain ⟨f1,f2⟩:=ct_u (es:=es) (s:=s') (a:=a') h1
    refine ⟨h1,by rw [f1];exact h2,?_⟩
    rw [f2]
    unfold taiU
    rw [if_pos h2,h3,taiU]
  have hc:=chgV_bd hp d
  have hc2:=chgV_bd hp (d+1)
  have ho:=p20_off hp hn d hd0
  unfold stp
  split
  · exact key d s (a+1) hd0 (whyU_mk (by omega) (by omega) (by omega) (by omega) (by omega) (by omega) hd0 (by omega)) (by rw [hv];omega)
  · split
    · exact key (d+1) 0 0 (by omega) (whyU_mk (by omega) (by omega) (by omega) (by omega) (by omega) (by omega) (by omega) (by omega)) (by rw [hv];omega)
    · exact key d (s+1) 0 hd0 (whyU_mk (by omega) (by omega) (by omega) (by omega) (by omega) (by omega) hd0 (by omega)) (by rw [hv];omega)
theorem spN_step {x d s a:Int} (hd0:day0 es≤d) (hd1:d < 1099511627776) (he:ctE es d s a=0):spN es x true d s a=(0,(stp es d s a).1,(stp es d s a).2.1,(stp es d s a).2.2)∧spE es x true d s a (stp es d s a).1 (stp es d s a).2.1 (stp es d s a).2.2=0∧spD es x true d s a (stp es d s a).1 (stp es d s a).2.1 (stp es d s a).2.2=1:=by
  obtain ⟨h0,h1,h2⟩:=clk_step hp hn hd0 hd1 he
  obtain ⟨h3,h4⟩:=clk_back hp hn h1
  rw [h2] at h3 h4
  have hA:spA es x true d s a 1=(0,(stp es d s a).1,(stp es d s a).2.1,(stp es d s a).2.2):=by
    unfold spA
    rw [tE_lax,if_pos he,tV_lax,if_pos ((inW_iff _).2 h3),lbl_lax,h4]
  have hne:¬ goB (spA es x true d s a 1) d s a=true:=fun h=>by
    rw [goB_iff,hA] at h
    simp only [Prod.mk.injEq,true_and] at h
    rw [h.1,h.2.1,h.2.2] at h2
    omega
  refine ⟨by unfold spN;rw [if_neg hne,hA],?_,?_⟩
  · unfold spE;rw [tE_lax,if_pos he,tE_lax,h1]
  · unfold spD;rw [tE_lax,if_pos he,tE_lax,if_pos h1,tV_lax,tV_lax];omega
theorem sp_back {x d s a k d' s' a':Int} (h:spA es x true d s a k=(0,d',s',a')) (hd:day0 es≤d'):spE es x true d s a d' s' a'=0∧spD es x true d s a d' s' a'=k:=by
  obtain ⟨q1,q2,q3,q4⟩:=spA_yes hp hn (x:=x) (lax:=true) (d:=d) (s:=s) (a:=a) (k:=k) (by rw [h])
  have e1:=clk_forth hp hn q3
  rw [← q4,h] at e1
  simp only at e1
  obtain ⟨e1,e2⟩:=e1
  have q5:=tE_ct q1
  have e3:ctV es d' s' a'=ctV es d s a+k:=by
    rcases e2 with e2 | ⟨ho,hlt,_⟩
    · exact e2
    · have:=(oldB_iff.1 ho).1;omega
  refine ⟨?_,?_⟩
  · unfold spE;rw [if_pos q1,tE_lax];exact e1
  · unfold spD;rw [if_pos q1,tE_lax,if_pos e1,tV_lax,tV_lax];omega
end
end Go.Proofs.YtdfkghpgekmmlaaGreat
namespace Go.Proofs.YtdfkghpgekmmlaaGreat
open Go.RowKit
attribute [local go_sem] vN bT bF rS vW vM vL vT2 vT3 vP vI execOp Act.eval evC bigF vB hi_zero lo_zero Tryz.underlying26 Tryz.underlying34
theorem spAdd_c (w0:World) (c g:Nat) (b:Value) (u x:Int) (es:List (Int × Int)) (hC:IsC w0 c g b u x es) (lax:Bool) (d s a:Int) (hd0:-9223372036854775808≤d) (hd1:d < 9223372036854775808) (k:Int) (hk:InW k):ClkC Tryz.prog 31 [vP c 0,vL d s a,vW k,.bool (lax)] w0 c g b u x es (vT2 (vL ((spA es x lax d s a k).2.1) ((spA es x lax d s a k).2.2.1) ((spA es x lax d s a k).2.2.2)) (vI ((spA es x lax d s a k).1))):=by
 unfold ClkC
 obtain ⟨hp,hn0,_⟩:=hC.pre
 have hst:=St.startC w0 hC
 refine enter Tryz.func31 rfl (n:=39) rfl (Nat.le_of_ble_eq_true rfl) hst (L:=[(0,vP c 0),(1,vL d s a),(2,vW k),(3,.bool (lax))]) (lk_args rfl) (fun ac h=>?_)
 refine wp_seq ?_
 refine rg_ h [[0],[1],[2],[3]] [KE_ fun env=>vP (pb env 0) 0,KE_ fun env=>vP (pb env 1) 0,KE_ fun env=>vP (pb env 2) 0,K_ (vI 0)] (fun E1=>[(0,vP c 0),(3,.bool (lax)),(5,vP (pb E1 0) 0),(6,vP (pb E1 1) 0),(8,vP (pb E1 2) 0),(9,vI 0)]) (W:=[{ i:=0,T:=26,c0:=[vI d,vI s,vI a] },{ i:=1,T:=34,c0:=[vI (hi (k)),.int .u64 (lo (k))] },{ i:=2,T:=26,c0:=[vI 0,vI 0,vI 0] }]) (M':=fun E1=>[((pb E1 0),26,[vI d,vI s,vI a]),((pb E1 1),34,[vI (hi (k)),.int .u64 (lo (k))]),((pb E1 2),26,[vI 0,vI 0,vI 0])]) (hs:=c_ (bx0 0 (vL d s a))<|c_ (bx0 1 (vW k))<|c_ (al_ 2)<|c_ mv_<|e_) (k:=fun E1 ac wd h_1=>?_)
 clear h
 refine then_n (wp_seq ?_)
 refine rg_ h_1 [[0],[1],[2],r_ 4,r_ 5,r_ 6,[0,1,2,3,4,6],[7],[0,1,2,3,4,5,7,8],r_ 10] [K_ (vP c 0),K_ (vL d s a),K_ (.bool (lax)),K_ (vT2 (vW (tV es x lax d s a)) (vI (tE es x lax d s a))),K_ (vT2 (vW (tV es x lax d s a)) (vI (tE es x lax d s a))),K_ (vW (tV es x lax d s a)),K_ (vI (tE es x lax d s a)),KE_ fun env=>vP (pb env 7) 0,none,K_ (vI (tE es x lax d s a))] (fun E2=>[(0,vP c 0),(3,.bool (lax)),(6,vP (pb E1 1) 0),(8,vP (pb E1 2) 0),(9,vI 0),(10,vP (pb E2 7) 0),(11,vI (tE es x lax d s a))]) (W:=[{ i:=7,T:=34,c0:=[vI 0,.int .u64 0],s:=some 8,c1:=fun _=>[vI (hi (tV es x lax d s a)),.int .u64 (lo (tV es x lax d s a))] }]) (M':=fun E2=>[((pb E1 0),26,[vI d,vI s,vI a]),((pb E1 1),34,[vI (hi (k)),.int .u64 (lo (k))]),((pb E1 2),26,[vI 0,vI 0,vI 0]),((pb E2 7),34,[vI (hi (tV es x lax d s a)),.int .u64 (lo (tV es x lax d s a))])]) (hs:=c_ mv_<|c_ (ld_ 0 (hrd:=by exact rd26 rfl rfl rfl))<|c_ mv_<|c_ (s_clk (c:=c) (g:=g) (b:=b) (u:=u) (x:=x) (es:=es) Tryz.func15 (fun _ h=>h) (fun _ h=>h) (h:=fun D env ac wd hA hC=>⟨_,cTai_c _ c g b u x es hC lax d s a hd0 hd1,rfl⟩))<|c_ mv_<|c_ ext_<|c_ ext_<|c_ (al_ 3)<|c_ (sw_ 3 7 (hst:=by exact fun _ _ _ hc=>st34 rfl rfl rfl hc))<|c_ mv_<|e_) (k:=fun E2 ac wd h_2=>?_)
 clear h_1
 refine then_n (wp_seq (wp_seq ?_))
 by_cases he:tE es x lax d s a=0
 refine rg_ h_2 [[0],[0,1]] [K_ (vI (tE es x lax d s a)),K_ bF] (fun E3=>[(0,vP c 0),(3,.bool (lax)),(6,vP (pb E1 1) 0),(8,vP (pb E1 2) 0),(9,vI 0),(10,vP (pb E2 7) 0),(11,vI (tE es x lax d s a)),(20,bF)]) (hs:=c_ mv_<|c_ (bi0 (vI (tE es x lax d s a)) (vI 0) (h:=by intro env w;simp [go_sem,he]))<|e_) (k:=fun E3 ac wd h_3=>?_)
 clear h_2
 refine then_n ?_
 refine wp_cond_false (eval_tmp (h_3.g (t:=20) rfl)) ?_
 refine wp_skip (then_n (wp_seq ?_))
 by_cases hw:InW (tV es x lax d s a+k)
 refine rg_ h_3 [[0],[1],[0,1,2],r_ 4,r_ 5,[0,1,2,3,5],[0,1,2,3,4,6],r_ 8] [K_ (vW (tV es x lax d s a)),K_ (vW k),K_ (vT2 (vW (tV es x lax d s a+k)) (vI 0)),K_ (vT2 (vW (tV es x lax d s a+k)) (vI 0)),K_ (vW (tV es x lax d s a+k)),K_ (vI 0),none,K_ (vI 0)] (fun E4=>[(0,vP c 0),(3,.bool (lax)),(8,vP (pb E1 2) 0),(9,vI 0),(10,vP (pb E2 7) 0),(11,vI 0)]) (S:=[⟨3,6,fun _=>[vI (hi (tV es x lax d s a+k)),.int .u64 (lo (tV es x lax d s a+k))]⟩]) (M':=fun E4=>[((pb E1 0),26,[vI d,vI s,vI a]),((pb E1 1),34,[vI (hi (k)),.int .u64 (lo (k))]),((pb E1 2),26,[vI 0,vI 0,vI 0]),((pb E2 7),34,[vI (hi (tV es x lax d s a+k)),.int .u64 (lo (tV es x lax d s a+k))])]) (hs:=c_ (ld_ 3 (hrd:=by exact rd34 rfl rfl))<|c_ (ld_ 1 (hrd:=by exact rd34 rfl rfl))<|c_ (cl_ Tryz.func61 (h:=fun env=>⟨_,(Ret.eq (wadd_any (tV es x lax d s a) k (tV_in hp hn0 x lax d s a) hk) (fit_tup hw)),rfl⟩))<|c_ mv_<|c_ ext_<|c_ ext_<|c_ (se_ 3 (hst:=by exact fun _ _ _ hc=>st34 rfl rfl rfl hc))<|c_ mv_<|e_) (k:=fun E4 ac wd h_4=>?_)
 clear h_3
 refine then_n (wp_seq (wp_seq ?_))
 refine rg_ h_4 [[0],[0,1]] [K_ (vI 0),K_ bF] (fun E5=>[(0,vP c 0),(3,.bool (lax)),(8,vP (pb E1 2) 0),(9,vI 0),(10,vP (pb E2 7) 0),(11,vI 0),(30,bF)]) (hs:=c_ mv_<|c_ (bi0 (vI 0) (vI 0) (h:=by intro env w;(first | (simp [go_sem];done) | (simp [go_sem];rfl))))<|e_) (k:=fun E5 ac wd h_5=>?_)
 clear h_4
 refine then_n ?_
 refine wp_cond_false (eval_tmp (h_5.g (t:=30) rfl)) ?_
 refine wp_skip (then_n (wp_seq ?_))
 refine rg_ h_5 [[0],[1],[2],r_ 4,r_ 5,[0,1,2,3,5],r_ 7,r_ 8] [K_ (vP c 0),K_ (vW (tV es x lax d s a+k)),K_ (.bool (lax)),K_ (vT2 (vL ((lbl4 es x lax (tV es x lax d s a+k)).2.1) ((lbl4 es x lax (tV es x lax d s a+k)).2.2.1) ((lbl4 es x lax (tV es x lax d s a+k)).2.2.2)) (vI ((lbl4 es x lax (tV es x lax d s a+k)).1))),K_ (vL ((lbl4 es x lax (tV es x lax d s a+k)).2.1) ((lbl4 es x lax (tV es x lax d s a+k)).2.2.1) ((lbl4 es x lax (tV es x lax d s a+k)).2.2.2)),K_ (vI ((lbl4 es x lax (tV es x lax d s a+k)).1)),none,K_ (vI ((lbl4 es x lax (tV es x lax d s a+k)).1))] (fun E6=>[(8,vP (pb E1 2) 0),(9,vI ((lbl4 es x lax (tV es x lax d s a+k)).1))]) (S:=[⟨2,6,fun _=>[vI ((lbl4 es x lax (tV es x lax d s a+k)).2.1),vI ((lbl4 es x lax (tV es x lax d s a+k)).2.2.1),vI ((lbl4 es x lax (tV es x lax d s a+k)).2.2.2)]⟩]) (M':=fun E6=>[((pb E1 0),26,[vI d,vI s,vI a]),((pb E1 1),34,[vI (hi (k)),.int .u64 (lo (k))]),((pb E1 2),26,[vI ((lbl4 es x lax (tV es x lax d s a+k)).2.1),vI ((lbl4 es x lax (tV es x lax d s a+k)).2.2.1),vI ((lbl4 es x lax (tV es x lax d s a+k)).2.2.2)]),((pb E2 7),34,[vI (hi (tV es x lax d s a+k)),.int .u64 (lo (tV es x lax d s a+k))])]) (hs:=c_ mv_<|c_ (ld_ 3 (hrd:=by exact rd34 rfl rfl))<|c_ mv_<|c_ (s_clk (c:=c) (g:=g) (b:=b) (u:=u) (x:=x) (es:=es) Tryz.func20 (fun _ h=>h) (fun _ h=>h) (h:=fun D env ac wd hA hC=>⟨_,cLabel_c _ c g b u x es hC lax (tV es x lax d s a+k) hw,rfl⟩))<|c_ ext_<|c_ ext_<|c_ (se_ 2 (hst:=by exact fun _ _ _ hc=>st26 rfl rfl rfl rfl hc))<|c_ mv_<|e_) (k:=fun E6 ac wd h_6=>?_)
 clear h_5
 refine then_n (wp_ret ?_)
 have s8:=h_6.g (t:=8) rfl
 have hc8:=(h_6.st.own 2 _ rfl).2
 have c8_0:=own_cell (o:=0) hc8 rfl
 have c8_1:=own_cell (o:=1) hc8 rfl
 have c8_2:=own_cell (o:=2) hc8 rfl
 have s9:=h_6.g (t:=9) rfl
 refine leave (v:=vT2 (vL ((lbl4 es x lax (tV es x lax d s a+k)).2.1) ((lbl4 es x lax (tV es x lax d s a+k)).2.2.1) ((lbl4 es x lax (tV es x lax d s a+k)).2.2.2)) (vI ((lbl4 es x lax (tV es x lax d s a+k)).1))) h_6.df (by simp [results,Tryz.results31,go_sem,Array.getD_eq_getD_getElem?,s8,c8_0,c8_1,c8_2,Tryz.underlying26,s9]) ?_
 have e1:spA es x lax d s a k=lbl4 es x lax (tV es x lax d s a+k):=by unfold spA;rw [if_pos he,if_pos ((inW_iff _).2 hw)]
 exact ⟨by rw [e1],h_6.st.nowT,h_6.st.gr⟩
 refine rg_ h_3 [[0],[1],[0,1,2],r_ 4,r_ 5,[0,1,2,3,5],[0,1,2,3,4,6],r_ 8] [K_ (vW (tV es x lax d s a)),K_ (vW k),K_ (vT2 (vW 0) (vI 2)),K_ (vT2 (vW 0) (vI 2)),K_ (vW 0),K_ (vI 2),none,K_ (vI 2)] (fun E4=>[(0,vP c 0),(3,.bool (lax)),(8,vP (pb E1 2) 0),(9,vI 0),(10,vP (pb E2 7) 0),(11,vI 2)]) (S:=[⟨3,6,fun _=>[vI (hi (0)),.int .u64 (lo (0))]⟩]) (M':=fun E4=>[((pb E1 0),26,[vI d,vI s,vI a]),((pb E1 1),34,[vI (hi (k)),.int .u64 (lo (k))]),((pb E1 2),26,[vI 0,vI 0,vI 0]),((pb E2 7),34,[vI (hi (0)),.int .u64 (lo (0))])]) (hs:=c_ (ld_ 3 (hrd:=by exact rd34 rfl rfl))<|c_ (ld_ 1 (hrd:=by exact rd34 rfl rfl))<|c_ (cl_ Tryz.func61 (h:=fun env=>⟨_,(Ret.eq (wadd_any (tV es x lax d s a) k (tV_in hp hn0 x lax d s a) hk) (fit_tup_no hw)),rfl⟩))<|c_ mv_<|c_ ext_<|c_ ext_<|c_ (se_ 3 (hst:=by exact fun _ _ _ hc=>st34 rfl rfl rfl hc))<|c_ mv_<|e_) (k:=fun E4 ac wd h_4=>?_)
 clear h_3
 refine then_n (wp_seq (wp_seq ?_))
 refine rg_ h_4 [[0],[0,1]] [K_ (vI 2),K_ bT] (fun E5=>[(0,vP c 0),(3,.bool (lax)),(8,vP (pb E1 2) 0),(9,vI 0),(10,vP (pb E2 7) 0),(11,vI 2),(30,bT)]) (hs:=c_ mv_<|c_ (bi0 (vI 2) (vI 0))<|e_) (k:=fun E5 ac wd h_5=>?_)
 clear h_4
 refine then_n ?_
 refine wp_cond_true (eval_tmp (h_5.g (t:=30) rfl)) ?_
 refine wp_seq ?_
 refine rg_ h_5 [[0],[1],[0,2],r_ 4] [K_ (vL 0 0 0),K_ (vI 2),none,K_ (vI 2)] (fun E6=>[(0,vP c 0),(3,.bool (lax)),(8,vP (pb E1 2) 0),(9,vI 2),(10,vP (pb E2 7) 0)]) (S:=[⟨2,2,fun _=>[vI 0,vI 0,vI 0]⟩]) (M':=fun E6=>[((pb E1 0),26,[vI d,vI s,vI a]),((pb E1 1),34,[vI (hi (k)),.int .u64 (lo (k))]),((pb E1 2),26,[vI 0,vI 0,vI 0]),((pb E2 7),34,[vI (hi (0)),.int .u64 (lo (0))])]) (hs:=c_ (bd0 ([]))<|c_ mv_<|c_ (se_ 2 (hst:=by exact fun _ _ _ hc=>st26 rfl rfl rfl rfl hc))<|c_ mv_<|e_) (k:=fun E6 ac wd h_6=>?_)
 clear h_5
 refine then_n (wp_ret (then_ret ?_))
 have s8:=h_6.g (t:=8) rfl
 have hc8:=(h_6.st.own 2 _ rfl).2
 have c8_0:=own_cell (o:=0) hc8 rfl
 have c8_1:=own_cell (o:=1) hc8 rfl
 have c8_2:=own_cell (o:=2) hc8 rfl
 have s9:=h_6.g (t:=9) rfl
 refine leave (v:=vT2 (vL 0 0 0) (vI 2)) h_6.df (by simp [results,Tryz.results31,go_sem,Array.getD_eq_getD_getElem?,s8,c8_0,c8_1,c8_2,Tryz.underlying26,s9]) ?_
 have e1:spA es x lax d s a k=(2,0,0,0):=by unfold spA;rw [if_pos he,if_neg (fun h=>hw ((inW_iff _).1 h))]
 exact ⟨by rw [e1],h_6.st.nowT,h_6.st.gr⟩
 refine rg_ h_2 [[0],[0,1]] [K_ (vI (tE es x lax d s a)),K_ bT] (fun E3=>[(0,vP c 0),(3,.bool (lax)),(6,vP (pb E1 1) 0),(8,vP (pb E1 2) 0),(9,vI 0),(10,vP (pb E2 7) 0),(11,vI (tE es x lax d s a)),(20,bT)]) (hs:=c_ mv_<|c_ (bi0 (vI (tE es x lax d s a)) (vI 0) (h:=by intro env w;simp [go_sem,he]))<|e_) (k:=fun E3 ac wd h_3=>?_)
 clear h_2
 refine then_n ?_
 refine wp_cond_true (eval_tmp (h_3.g (t:=20) rfl)) ?_
 refine wp_seq ?_
 refine rg_ h_3 [[0],[1],[0,2],r_ 4] [K_ (vL 0 0 0),K_ (vI (tE es x lax d s a)),none,K_ (vI (tE es x lax d s a))] (fun E4=>[(0,vP c 0),(3,.bool (lax)),(6,vP (pb E1 1) 0),(8,vP (pb E1 2) 0),(9,vI (tE es x lax d s a)),(10,vP (pb E2 7) 0),(11,vI (tE es x lax d s a))]) (S:=[⟨2,2,fun _=>[vI 0,vI 0,vI 0]⟩]) (M':=fun E4=>[((pb E1 0),26,[vI d,vI s,vI a]),((pb E1 1),34,[vI (hi (k)),.int .u64 (lo (k))]),((pb E1 2),26,[vI 0,vI 0,vI 0]),((pb E2 7),34,[vI (hi (tV es x lax d s a)),.int .u64 (lo (tV es x lax d s a))])]) (hs:=c_ (bd0 ([]))<|c_ mv_<|c_ (se_ 2 (hst:=by exact fun _ _ _ hc=>st26 rfl rfl rfl rfl hc))<|c_ mv_<|e_) (k:=fun E4 ac wd h_4=>?_)
 clear h_3
 refine then_n (wp_ret (then_ret ?_))
 have s8:=h_4.g (t:=8) rfl
 have hc8:=(h_4.st.own 2 _ rfl).2
 have c8_0:=own_cell (o:=0) hc8 rfl
 have c8_1:=own_cell (o:=1) hc8 rfl
 have c8_2:=own_cell (o:=2) hc8 rfl
 have s9:=h_4.g (t:=9) rfl
 refine leave (v:=vT2 (vL 0 0 0) (vI (tE es x lax d s a))) h_4.df (by simp [results,Tryz.results31,go_sem,Array.getD_eq_getD_getElem?,s8,c8_0,c8_1,c8_2,Tryz.underlying26,s9]) ?_
 have e1:spA es x lax d s a k=(tE es x lax d s a,0,0,0):=by unfold spA;rw [if_neg he]
 exact ⟨by rw [e1],h_4.st.nowT,h_4.st.gr⟩
theorem spDiff_c (w0:World) (c g:Nat) (b:Value) (u x:Int) (es:List (Int × Int)) (hC:IsC w0 c g b u x es) (lax:Bool) (d s a:Int) (hd0:-9223372036854775808≤d) (hd1:d < 9223372036854775808) (d2 s2 a2:Int) (he0:-9223372036854775808≤d2) (he1:d2 < 9223372036854775808):ClkC Tryz.prog 33 [vP c 0,vL d s a,vL d2 s2 a2,.bool (lax)] w0 c g b u x es (vT2 (vW (spD es x lax d s a d2 s2 a2)) (vI (spE es x lax d s a d2 s2 a2))):=by
 unfold ClkC
 obtain ⟨hp,hn0,_⟩:=hC.pre
 have hst:=St.startC w0 hC
 refine enter Tryz.func33 rfl (n:=40) rfl (Nat.le_of_ble_eq_true rfl) hst (L:=[(0,vP c 0),(1,vL d s a),(2,vL d2 s2 a2),(3,.bool (lax))]) (lk_args rfl) (fun ac h=>?_)
 refine wp_seq ?_
 refine rg_ h [[0],[1],[2],[3]] [KE_ fun env=>vP (pb env 0) 0,KE_ fun env=>vP (pb env 1) 0,KE_ fun env=>vP (pb env 2) 0,K_ (vI 0)] (fun E1=>[(0,vP c 0),(3,.bool (lax)),(5,vP (pb E1 0) 0),(6,vP (pb E1 1) 0),(8,vP (pb E1 2) 0),(9,vI 0)]) (W:=[{ i:=0,T:=26,c0:=[vI d,vI s,vI a] },{ i:=1,T:=26,c0:=[vI d2,vI s2,vI a2] },{ i:=2,T:=34,c0:=[vI 0,.int .u64 0] }]) (M':=fun E1=>[((pb E1 0),26,[vI d,vI s,vI a]),((pb E1 1),26,[vI d2,vI s2,vI a2]),((pb E1 2),34,[vI 0,.int .u64 0])]) (hs:=c_ (bx0 0 (vL d s a))<|c_ (bx0 1 (vL d2 s2 a2))<|c_ (al_ 2)<|c_ mv_<|e_) (k:=fun E1 ac wd h_1=>?_)
 clear h
 refine then_n (wp_seq ?_)
 refine rg_ h_1 [[0],[1],[2],r_ 4,r_ 5,r_ 6,[0,1,2,3,4,6],[7],[0,1,2,3,4,5,7,8],r_ 10] [K_ (vP c 0),K_ (vL d s a),K_ (.bool (lax)),K_ (vT2 (vW (tV es x lax d s a)) (vI (tE es x lax d s a))),K_ (vT2 (vW (tV es x lax d s a)) (vI (tE es x lax d s a))),K_ (vW (tV es x lax d s a)),K_ (vI (tE es x lax d s a)),KE_ fun env=>vP (pb env 7) 0,none,K_ (vI (tE es x lax d s a))] (fun E2=>[(0,vP c 0),(3,.bool (lax)),(6,vP (pb E1 1) 0),(8,vP (pb E1 2) 0),(9,vI 0),(10,vP (pb E2 7) 0),(11,vI (tE es x lax d s a))]) (W:=[{ i:=7,T:=34,c0:=[vI 0,.int .u64 0],s:=some 8,c1:=fun _=>[vI (hi (tV es x lax d s a)),.int .u64 (lo (tV es x lax d s a))] }]) (M':=fun E2=>[((pb E1 0),26,[vI d,vI s,vI a]),((pb E1 1),26,[vI d2,vI s2,vI a2]),((pb E1 2),34,[vI 0,.int .u64 0]),((pb E2 7),34,[vI (hi (tV es x lax d s a)),.int .u64 (lo (tV es x lax d s a))])]) (hs:=c_ mv_<|c_ (ld_ 0 (hrd:=by exact rd26 rfl rfl rfl))<|c_ mv_<|c_ (s_clk (c:=c) (g:=g) (b:=b) (u:=u) (x:=x) (es:=es) Tryz.func15 (fun _ h=>h) (fun _ h=>h) (h:=fun D env ac wd hA hC=>⟨_,cTai_c _ c g b u x es hC lax d s a hd0 hd1,rfl⟩))<|c_ mv_<|c_ ext_<|c_ ext_<|c_ (al_ 3)<|c_ (sw_ 3 7 (hst:=by exact fun _ _ _ hc=>st34 rfl rfl rfl hc))<|c_ mv_<|e_) (k:=fun E2 ac wd h_2=>?_)
 clear h_1
 refine then_n (wp_seq (wp_seq ?_))
 by_cases he:tE es x lax d s a=0
 refine rg_ h_2 [[0],[0,1]] [K_ (vI (tE es x lax d s a)),K_ bF] (fun E3=>[(0,vP c 0),(3,.bool (lax)),(6,vP (pb E1 1) 0),(8,vP (pb E1 2) 0),(9,vI 0),(10,vP (pb E2 7) 0),(11,vI (tE es x lax d s a)),(21,bF)]) (hs:=c_ mv_<|c_ (bi0 (vI (tE es x lax d s a)) (vI 0) (h:=by intro env w;simp [go_sem,he]))<|e_) (k:=fun E3 ac wd h_3=>?_)
 clear h_2
 refine then_n ?_
 refine wp_cond_false (eval_tmp (h_3.g (t:=21) rfl)) ?_
 refine wp_skip (then_n (wp_seq ?_))
 refine rg_ h_3 [[0],[1],[2],r_ 4,r_ 5,r_ 6,[0,1,2,3,4,6],[7],[0,1,2,3,4,5,7,8],r_ 10] [K_ (vP c 0),K_ (vL d2 s2 a2),K_ (.bool (lax)),K_ (vT2 (vW (tV es x lax d2 s2 a2)) (vI (tE es x lax d2 s2 a2))),K_ (vT2 (vW (tV es x lax d2 s2 a2)) (vI (tE es x lax d2 s2 a2))),K_ (vW (tV es x lax d2 s2 a2)),K_ (vI (tE es x lax d2 s2 a2)),KE_ fun env=>vP (pb env 7) 0,none,K_ (vI (tE es x lax d2 s2 a2))] (fun E4=>[(8,vP (pb E1 2) 0),(9,vI 0),(10,vP (pb E2 7) 0),(11,vI (tE es x lax d2 s2 a2)),(12,vP (pb E4 7) 0)]) (W:=[{ i:=7,T:=34,c0:=[vI 0,.int .u64 0],s:=some 8,c1:=fun _=>[vI (hi (tV es x lax d2 s2 a2)),.int .u64 (lo (tV es x lax d2 s2 a2))] }]) (M':=fun E4=>[((pb E1 0),26,[vI d,vI s,vI a]),((pb E1 1),26,[vI d2,vI s2,vI a2]),((pb E1 2),34,[vI 0,.int .u64 0]),((pb E2 7),34,[vI (hi (tV es x lax d s a)),.int .u64 (lo (tV es x lax d s a))]),((pb E4 7),34,[vI (hi (tV es x lax d2 s2 a2)),.int .u64 (lo (tV es x lax d2 s2 a2))])]) (hs:=c_ mv_<|c_ (ld_ 1 (hrd:=by exact rd26 rfl rfl rfl))<|c_ mv_<|c_ (s_clk (c:=c) (g:=g) (b:=b) (u:=u) (x:=x) (es:=es) Tryz.func15 (fun _ h=>h) (fun _ h=>h) (h:=fun D env ac wd hA hC=>⟨_,cTai_c _ c g b u x es hC lax d2 s2 a2 he0 he1,rfl⟩))<|c_ mv_<|c_ ext_<|c_ ext_<|c_ (al_ 4)<|c_ (sw_ 4 7 (hst:=by exact fun _ _ _ hc=>st34 rfl rfl rfl hc))<|c_ mv_<|e_) (k:=fun E4 ac wd h_4=>?_)
 clear h_3
 refine then_n (wp_seq (wp_seq ?_))
 by_cases he2:tE es x lax d2 s2 a2=0
 refine rg_ h_4 [[0],[0,1]] [K_ (vI (tE es x lax d2 s2 a2)),K_ bF] (fun E5=>[(8,vP (pb E1 2) 0),(9,vI 0),(10,vP (pb E2 7) 0),(11,vI (tE es x lax d2 s2 a2)),(12,vP (pb E4 7) 0),(32,bF)]) (hs:=c_ mv_<|c_ (bi0 (vI (tE es x lax d2 s2 a2)) (vI 0) (h:=by intro env w;simp [go_sem,he2]))<|e_) (k:=fun E5 ac wd h_5=>?_)
 clear h_4
 refine then_n ?_
 refine wp_cond_false (eval_tmp (h_5.g (t:=32) rfl)) ?_
 refine wp_skip (then_n (wp_seq ?_))
 refine rg_ h_5 [[0],[1],[0,1,2],r_ 4,[0,1,2,4],r_ 6,r_ 7] [K_ (vW (tV es x lax d2 s2 a2)),K_ (vW (tV es x lax d s a)),K_ (vT2 (vW (tV es x lax d2 s2 a2-tV es x lax d s a)) (vI 0)),K_ (vW (tV es x lax d2 s2 a2-tV es x lax d s a)),K_ (vI 0),none,K_ (vI 0)] (fun E6=>[(8,vP (pb E1 2) 0),(9,vI 0)]) (S:=[⟨2,5,fun _=>[vI (hi (tV es x lax d2 s2 a2-tV es x lax d s a)),.int .u64 (lo (tV es x lax d2 s2 a2-tV es x lax d s a))]⟩]) (M':=fun E6=>[((pb E1 0),26,[vI d,vI s,vI a]),((pb E1 1),26,[vI d2,vI s2,vI a2]),((pb E1 2),34,[vI (hi (tV es x lax d2 s2 a2-tV es x lax d s a)),.int .u64 (lo (tV es x lax d2 s2 a2-tV es x lax d s a))]),((pb E2 7),34,[vI (hi (tV es x lax d s a)),.int .u64 (lo (tV es x lax d s a))]),((pb E4 7),34,[vI (hi (tV es x lax d2 s2 a2)),.int .u64 (lo (tV es x lax d2 s2 a2))])]) (hs:=c_ (ld_ 4 (hrd:=by exact rd34 rfl rfl))<|c_ (ld_ 3 (hrd:=by exact rd34 rfl rfl))<|c_ (cl_ Tryz.func63 (h:=fun env=>⟨_,(Ret.eq (wsub_any (tV es x lax d2 s2 a2) (tV es x lax d s a) (tV_in hp hn0 x lax d2 s2 a2) (tV_in hp hn0 x lax d s a)) (fit_tup (spD_bd hp x lax d s a d2 s2 a2))),rfl⟩))<|c_ ext_<|c_ ext_<|c_ (se_ 2 (hst:=by exact fun _ _ _ hc=>st34 rfl rfl rfl hc))<|c_ mv_<|e_) (k:=fun E6 ac wd h_6=>?_)
 clear h_5
 refine then_n (wp_ret ?_)
 have s8:=h_6.g (t:=8) rfl
 have hc8:=(h_6.st.own 2 _ rfl).2
 have c8_0:=own_cell (o:=0) hc8 rfl
 have c8_1:=own_cell (o:=1) hc8 rfl
 have s9:=h_6.g (t:=9) rfl
 refine leave (v:=vT2 (vW (tV es x lax d2 s2 a2-tV es x lax d s a)) (vI 0)) h_6.df (by simp [results,Tryz.results33,go_sem,Array.getD_eq_getD_getElem?,s8,c8_0,c8_1,Tryz.underlying34,s9]) ?_
 obtain ⟨e1,e2⟩:=sp_yes (es:=es) (d:=d) (s:=s) (a:=a) (d':=d2) (s':=s2) (a':=a2) he he2
 exact ⟨by rw [e1,e2],h_6.st.nowT,h_6.st.gr⟩
 refine rg_ h_4 [[0],[0,1]] [K_ (vI (tE es x lax d2 s2 a2)),K_ bT] (fun E5=>[(8,vP (pb E1 2) 0),(9,vI 0),(10,vP (pb E2 7) 0),(11,vI (tE es x lax d2 s2 a2)),(12,vP (pb E4 7) 0),(32,bT)]) (hs:=c_ mv_<|c_ (bi0 (vI (tE es x lax d2 s2 a2)) (vI 0) (h:=by intro env w;simp [go_sem,he2]))<|e_) (k:=fun E5 ac wd h_5=>?_)
 clear h_4
 refine then_n ?_
 refine wp_cond_true (eval_tmp (h_5.g (t:=32) rfl)) ?_
 refine wp_seq ?_
 refine rg_ h_5 [[0],[1],[0,2],r_ 4] [K_ (.agg #[vI 0,.int .u64 0]),K_ (vI (tE es x lax d2 s2 a2)),none,K_ (vI (tE es x lax d2 s2 a2))] (fun E6=>[(8,vP (pb E1 2) 0),(9,vI (tE es x lax d2 s2 a2)),(10,vP (pb E2 7) 0),(12,vP (pb E4 7) 0)]) (S:=[⟨2,2,fun _=>[vI 0,.int .u64 0]⟩]) (M':=fun E6=>[((pb E1 0),26,[vI d,vI s,vI a]),((pb E1 1),26,[vI d2,vI s2,vI a2]),((pb E1 2),34,[vI 0,.int .u64 0]),((pb E2 7),34,[vI (hi (tV es x lax d s a)),.int .u64 (lo (tV es x lax d s a))]),((pb E4 7),34,[vI (hi (tV es x lax d2 s2 a2)),.int .u64 (lo (tV es x lax d2 s2 a2))])]) (hs:=c_ (bd0 ([]))<|c_ mv_<|c_ (se_ 2 (hst:=by exact fun _ _ _ hc=>st34 rfl rfl rfl hc))<|c_ mv_<|e_) (k:=fun E6 ac wd h_6=>?_)
 clear h_5
 refine then_n (wp_ret (then_ret ?_))
 have s8:=h_6.g (t:=8) rfl
 have hc8:=(h_6.st.own 2 _ rfl).2
 have c8_0:=own_cell (o:=0) hc8 rfl
 have c8_1:=own_cell (o:=1) hc8 rfl
 have s9:=h_6.g (t:=9) rfl
 refine leave (v:=vT2 (.agg #[vI 0,.int .u64 0]) (vI (tE es x lax d2 s2 a2))) h_6.df (by simp [results,Tryz.results33,go_sem,Array.getD_eq_getD_getElem?,s8,c8_0,c8_1,Tryz.underlying34,s9]) ?_
 obtain ⟨e1,e2⟩:=sp_no2 (es:=es) (d:=d) (s:=s) (a:=a) (d':=d2) (s':=s2) (a':=a2) he he2
 exact ⟨by rw [e1,e2,vW,hi_zero,lo_zero],h_6.st.nowT,h_6.st.gr⟩
 refine rg_ h_2 [[0],[0,1]] [K_ (vI (tE es x lax d s a)),K_ bT] (fun E3=>[(0,vP c 0),(3,.bool (lax)),(6,vP (pb E1 1) 0),(8,vP (pb E1 2) 0),(9,vI 0),(10,vP (pb E2 7) 0),(11,vI (tE es x lax d s a)),(21,bT)]) (hs:=c_ mv_<|c_ (bi0 (vI (tE es x lax d s a)) (vI 0) (h:=by intro env w;simp [go_sem,he]))<|e_) (k:=fun E3 ac wd h_3=>?_)
 clear h_2
 refine then_n ?_
 refine wp_cond_true (eval_tmp (h_3.g (t:=21) rfl)) ?_
 refine wp_seq ?_
 refine rg_ h_3 [[0],[1],[0,2],r_ 4] [K_ (.agg #[vI 0,.int .u64 0]),K_ (vI (tE es x lax d s a)),none,K_ (vI (tE es x lax d s a))] (fun E4=>[(0,vP c 0),(3,.bool (lax)),(6,vP (pb E1 1) 0),(8,vP (pb E1 2) 0),(9,vI (tE es x lax d s a)),(10,vP (pb E2 7) 0),(11,vI (tE es x lax d s a))]) (S:=[⟨2,2,fun _=>[vI 0,.int .u64 0]⟩]) (M':=fun E4=>[((pb E1 0),26,[vI d,vI s,vI a]),((pb E1 1),26,[vI d2,vI s2,vI a2]),((pb E1 2),34,[vI 0,.int .u64 0]),((pb E2 7),34,[vI (hi (tV es x lax d s a)),.int .u64 (lo (tV es x lax d s a))])]) (hs:=c_ (bd0 ([]))<|c_ mv_<|c_ (se_ 2 (hst:=by exact fun _ _ _ hc=>st34 rfl rfl rfl hc))<|c_ mv_<|e_) (k:=fun E4 ac wd h_4=>?_)
 clear h_3
 refine then_n (wp_ret (then_ret ?_))
 have s8:=h_4.g (t:=8) rfl
 have hc8:=(h_4.st.own 2 _ rfl).2
 have c8_0:=own_cell (o:=0) hc8 rfl
 have c8_1:=own_cell (o:=1) hc8 rfl
 have s9:=h_4.g (t:=9) rfl
 refine leave (v:=vT2 (.agg #[vI 0,.int .u64 0]) (vI (tE es x lax d s a))) h_4.df (by simp [results,Tryz.results33,go_sem,Array.getD_eq_getD_getElem?,s8,c8_0,c8_1,Tryz.underlying34,s9]) ?_
 obtain ⟨e1,e2⟩:=sp_no1 (es:=es) (d:=d) (s:=s) (a:=a) (d':=d2) (s':=s2) (a':=a2) he
 exact ⟨by rw [e1,e2,vW,hi_zero,lo_zero],h_4.st.nowT,h_4.st.gr⟩
theorem spNext_c (w0:World) (c g:Nat) (b:Value) (u x:Int) (es:List (Int × Int)) (hC:IsC w0 c g b u x es) (lax:Bool) (d s a:Int) (hd0:-9223372036854775808≤d) (hd1:d < 9223372036854775808):ClkC Tryz.prog 34 [vP c 0,vL d s a,.bool (lax)] w0 c g b u x es (vT2 (vL ((spN es x lax d s a).2.1) ((spN es x lax d s a).2.2.1) ((spN es x lax d s a).2.2.2)) (vI ((spN es x lax d s a).1))):=by
 unfold ClkC
 have hst:=St.startC w0 hC
 refine enter Tryz.func34 rfl (n:=34) rfl (Nat.le_of_ble_eq_true rfl) hst (L:=[(0,vP c 0),(1,vL d s a),(2,.bool (lax))]) (lk_args rfl) (fun ac h=>?_)
 refine wp_seq ?_
 refine rg_ h [[0],[1],[2]] [KE_ fun env=>vP (pb env 0) 0,KE_ fun env=>vP (pb env 1) 0,K_ (vI 0)] (fun E1=>[(0,vP c 0),(2,.bool (lax)),(4,vP (pb E1 0) 0),(6,vP (pb E1 1) 0),(7,vI 0)]) (W:=[{ i:=0,T:=26,c0:=[vI d,vI s,vI a] },{ i:=1,T:=26,c0:=[vI 0,vI 0,vI 0] }]) (M':=fun E1=>[((pb E1 0),26,[vI d,vI s,vI a]),((pb E1 1),26,[vI 0,vI 0,vI 0])]) (hs:=c_ (bx0 0 (vL d s a))<|c_ (al_ 1)<|c_ mv_<|e_) (k:=fun E1 ac wd h_1=>?_)
 clear h
 refine then_n (wp_seq ?_)
 by_cases hg:goB (spA es x lax d s a 1) d s a=true
 refine rg_ h_1 [[0],[1],[2],[3],r_ 5,r_ 6,r_ 7,[0,1,2,3,4,5,7],[8],[0,1,2,3,4,5,6,8,9],r_ 11] [K_ (vP c 0),K_ (vL d s a),K_ (vW 1),K_ (.bool (lax)),K_ (vT2 (vL d s a) (vI 0)),K_ (vT2 (vL d s a) (vI 0)),K_ (vL d s a),K_ (vI 0),KE_ fun env=>vP (pb env 8) 0,none,K_ (vI 0)] (fun E2=>[(0,vP c 0),(2,.bool (lax)),(4,vP (pb E1 0) 0),(6,vP (pb E1 1) 0),(7,vI 0),(8,vP (pb E2 8) 0),(9,vI 0)]) (W:=[{ i:=8,T:=26,c0:=[vI 0,vI 0,vI 0],s:=some 9,c1:=fun _=>[vI d,vI s,vI a] }]) (M':=fun E2=>[((pb E1 0),26,[vI d,vI s,vI a]),((pb E1 1),26,[vI 0,vI 0,vI 0]),((pb E2 8),26,[vI d,vI s,vI a])]) (hs:=c_ mv_<|c_ (ld_ 0 (hrd:=by exact rd26 rfl rfl rfl))<|c_ (cl_ Tryz.func38 (h:=fun env=>⟨_,(of_any 1 (by omega) (by omega)),rfl⟩))<|c_ mv_<|c_ (s_clk (c:=c) (g:=g) (b:=b) (u:=u) (x:=x) (es:=es) Tryz.func31 (fun _ h=>h) (fun _ h=>h) (h:=fun D env ac wd hA hC=>⟨_,ClkC.eq (spAdd_c _ c g b u x es hC lax d s a hd0 hd1 1 (by unfold InW;omega)) (y_lab4 (goB_iff.1 hg)),rfl⟩))<|c_ mv_<|c_ ext_<|c_ ext_<|c_ (al_ 2)<|c_ (sw_ 2 8 (hst:=by exact fun _ _ _ hc=>st26 rfl rfl rfl rfl hc))<|c_ mv_<|e_) (k:=fun E2 ac wd h_2=>?_)
 clear h_1
 refine then_n (wp_seq (wp_seq ?_))
 refine rg_ h_2 [[0],[0,1],[0,1,2],r_ 4,[0,1,2,4],r_ 6,r_ 7] [K_ (vI 0),K_ bT,K_ bT,K_ (vL d s a),K_ (vL d s a),K_ bT,K_ bT] (fun E3=>[(0,vP c 0),(2,.bool (lax)),(4,vP (pb E1 0) 0),(6,vP (pb E1 1) 0),(7,vI 0),(8,vP (pb E2 8) 0),(9,vI 0),(24,bT)]) (hs:=c_ mv_<|c_ (bi0 (vI 0) (vI 0) (h:=by intro env w;(first | (simp [go_sem];done) | (simp [go_sem];rfl))))<|c_ mv_<|c_ (ld_ 2 (hrd:=by exact rd26 rfl rfl rfl))<|c_ (ld_ 0 (hrd:=by exact rd26 rfl rfl rfl))<|c_ (bi0 (vL d s a) (vL d s a) (h:=by intro env w;(first | (simp [go_sem];done) | (simp [go_sem];rfl))))<|c_ (pk0 bT bT bF (h:=by intro env w;(first | (simp [go_sem];done) | (simp [go_sem];rfl))))<|e_) (k:=fun E3 ac wd h_3=>?_)
 clear h_2
 refine then_n ?_
 refine wp_cond_true (eval_tmp (h_3.g (t:=24) rfl)) ?_
 refine wp_seq ?_
 refine rg_ h_3 [[0],[1],[2],[3],r_ 5,r_ 6,[0,1,2,3,4,6],r_ 8,r_ 9] [K_ (vP c 0),K_ (vL d s a),K_ (vW 2),K_ (.bool (lax)),K_ (vT2 (vL ((spA es x lax d s a 2).2.1) ((spA es x lax d s a 2).2.2.1) ((spA es x lax d s a 2).2.2.2)) (vI ((spA es x lax d s a 2).1))),K_ (vL ((spA es x lax d s a 2).2.1) ((spA es x lax d s a 2).2.2.1) ((spA es x lax d s a 2).2.2.2)),K_ (vI ((spA es x lax d s a 2).1)),none,K_ (vI ((spA es x lax d s a 2).1))] (fun E4=>[(6,vP (pb E1 1) 0),(7,vI ((spA es x lax d s a 2).1)),(8,vP (pb E2 8) 0),(9,vI 0)]) (S:=[⟨1,7,fun _=>[vI ((spA es x lax d s a 2).2.1),vI ((spA es x lax d s a 2).2.2.1),vI ((spA es x lax d s a 2).2.2.2)]⟩]) (M':=fun E4=>[((pb E1 0),26,[vI d,vI s,vI a]),((pb E1 1),26,[vI ((spA es x lax d s a 2).2.1),vI ((spA es x lax d s a 2).2.2.1),vI ((spA es x lax d s a 2).2.2.2)]),((pb E2 8),26,[vI d,vI s,vI a])]) (hs:=c_ mv_<|c_ (ld_ 0 (hrd:=by exact rd26 rfl rfl rfl))<|c_ (cl_ Tryz.func38 (h:=fun env=>⟨_,(of_any 2 (by omega) (by omega)),rfl⟩))<|c_ mv_<|c_ (s_clk (c:=c) (g:=g) (b:=b) (u:=u) (x:=x) (es:=es) Tryz.func31 (fun _ h=>h) (fun _ h=>h) (h:=fun D env ac wd hA hC=>⟨_,spAdd_c _ c g b u x es hC lax d s a hd0 hd1 2 (by unfold InW;omega),rfl⟩))<|c_ ext_<|c_ ext_<|c_ (se_ 1 (hst:=by exact fun _ _ _ hc=>st26 rfl rfl rfl rfl hc))<|c_ mv_<|e_) (k:=fun E4 ac wd h_4=>?_)
 clear h_3
 refine then_n (wp_ret (then_ret ?_))
 have s6:=h_4.g (t:=6) rfl
 have hc6:=(h_4.st.own 1 _ rfl).2
 have c6_0:=own_cell (o:=0) hc6 rfl
 have c6_1:=own_cell (o:=1) hc6 rfl
 have c6_2:=own_cell (o:=2) hc6 rfl
 have s7:=h_4.g (t:=7) rfl
 refine leave (v:=vT2 (vL ((spA es x lax d s a 2).2.1) ((spA es x lax d s a 2).2.2.1) ((spA es x lax d s a 2).2.2.2)) (vI ((spA es x lax d s a 2).1))) h_4.df (by simp [results,Tryz.results34,go_sem,Array.getD_eq_getD_getElem?,s6,c6_0,c6_1,c6_2,Tryz.underlying26,s7]) ?_
 have e1:spN es x lax d s a=spA es x lax d s a 2:=by unfold spN;rw [if_pos hg]
 exact ⟨by rw [e1],h_4.st.nowT,h_4.st.gr⟩
 by_cases he:(spA es x lax d s a 1).1=0
 have hne:¬ ((spA es x lax d s a 1).2.1=d∧(spA es x lax d s a 1).2.2.1=s∧(spA es x lax d s a 1).2.2.2=a):=fun h=>hg (by unfold goB;simp [he,h.1,h.2.1,h.2.2])
 refine rg_ h_1 [[0],[1],[2],[3],r_ 5,r_ 6,r_ 7,[0,1,2,3,4,5,7],[8],[0,1,2,3,4,5,6,8,9],r_ 11] [K_ (vP c 0),K_ (vL d s a),K_ (vW 1),K_ (.bool (lax)),K_ (vT2 (vL ((spA es x lax d s a 1).2.1) ((spA es x lax d s a 1).2.2.1) ((spA es x lax d s a 1).2.2.2)) (vI ((spA es x lax d s a 1).1))),K_ (vT2 (vL ((spA es x lax d s a 1).2.1) ((spA es x lax d s a 1).2.2.1) ((spA es x lax d s a 1).2.2.2)) (vI ((spA es x lax d s a 1).1))),K_ (vL ((spA es x lax d s a 1).2.1) ((spA es x lax d s a 1).2.2.1) ((spA es x lax d s a 1).2.2.2)),K_ (vI ((spA es x lax d s a 1).1)),KE_ fun env=>vP (pb env 8) 0,none,K_ (vI ((spA es x lax d s a 1).1))] (fun E2=>[(0,vP c 0),(2,.bool (lax)),(4,vP (pb E1 0) 0),(6,vP (pb E1 1) 0),(7,vI 0),(8,vP (pb E2 8) 0),(9,vI ((spA es x lax d s a 1).1))]) (W:=[{ i:=8,T:=26,c0:=[vI 0,vI 0,vI 0],s:=some 9,c1:=fun _=>[vI ((spA es x lax d s a 1).2.1),vI ((spA es x lax d s a 1).2.2.1),vI ((spA es x lax d s a 1).2.2.2)] }]) (M':=fun E2=>[((pb E1 0),26,[vI d,vI s,vI a]),((pb E1 1),26,[vI 0,vI 0,vI 0]),((pb E2 8),26,[vI ((spA es x lax d s a 1).2.1),vI ((spA es x lax d s a 1).2.2.1),vI ((spA es x lax d s a 1).2.2.2)])]) (hs:=c_ mv_<|c_ (ld_ 0 (hrd:=by exact rd26 rfl rfl rfl))<|c_ (cl_ Tryz.func38 (h:=fun env=>⟨_,(of_any 1 (by omega) (by omega)),rfl⟩))<|c_ mv_<|c_ (s_clk (c:=c) (g:=g) (b:=b) (u:=u) (x:=x) (es:=es) Tryz.func31 (fun _ h=>h) (fun _ h=>h) (h:=fun D env ac wd hA hC=>⟨_,spAdd_c _ c g b u x es hC lax d s a hd0 hd1 1 (by unfold InW;omega),rfl⟩))<|c_ mv_<|c_ ext_<|c_ ext_<|c_ (al_ 2)<|c_ (sw_ 2 8 (hst:=by exact fun _ _ _ hc=>st26 rfl rfl rfl rfl hc))<|c_ mv_<|e_) (k:=fun E2 ac wd h_2=>?_)
 clear h_1
 refine then_n (wp_seq (wp_seq ?_))
 refine rg_ h_2 [[0],[0,1],[0,1,2],r_ 4,[0,1,2,4],r_ 6,r_ 7] [K_ (vI ((spA es x lax d s a 1).1)),K_ bT,K_ bT,K_ (vL ((spA es x lax d s a 1).2.1) ((spA es x lax d s a 1).2.2.1) ((spA es x lax d s a 1).2.2.2)),K_ (vL d s a),K_ bF,K_ bF] (fun E3=>[(0,vP c 0),(2,.bool (lax)),(4,vP (pb E1 0) 0),(6,vP (pb E1 1) 0),(7,vI 0),(8,vP (pb E2 8) 0),(9,vI ((spA es x lax d s a 1).1)),(24,bF)]) (hs:=c_ mv_<|c_ (bi0 (vI ((spA es x lax d s a 1).1)) (vI 0) (h:=by intro env w;simp [go_sem,he]))<|c_ mv_<|c_ (ld_ 2 (hrd:=by exact rd26 rfl rfl rfl))<|c_ (ld_ 0 (hrd:=by exact rd26 rfl rfl rfl))<|c_ (bi0 (vL ((spA es x lax d s a 1).2.1) ((spA es x lax d s a 1).2.2.1) ((spA es x lax d s a 1).2.2.2)) (vL d s a) (h:=by intro env w;(first | (simp [go_sem,hne];done) | (simp [go_sem];omega) | (simp [go_sem];exact fun h1 h2 h3=>hne ⟨h1,h2,h3⟩))))<|c_ (pk0 bT bF bF (h:=by intro env w;(first | (simp [go_sem,hne];done) | (simp [go_sem];omega) | (simp [go_sem];exact fun h1 h2 h3=>hne ⟨h1,h2,h3⟩))))<|e_) (k:=fun E3 ac wd h_3=>?_)
 clear h_2
 refine then_n ?_
 refine wp_cond_false (eval_tmp (h_3.g (t:=24) rfl)) ?_
 refine wp_skip (then_n (wp_seq ?_))
 refine rg_ h_3 [[0],[1],[0,2],r_ 4] [K_ (vL ((spA es x lax d s a 1).2.1) ((spA es x lax d s a 1).2.2.1) ((spA es x lax d s a 1).2.2.2)),K_ (vI ((spA es x lax d s a 1).1)),none,K_ (vI ((spA es x lax d s a 1).1))] (fun E4=>[(6,vP (pb E1 1) 0),(7,vI ((spA es x lax d s a 1).1))]) (S:=[⟨1,2,fun _=>[vI ((spA es x lax d s a 1).2.1),vI ((spA es x lax d s a 1).2.2.1),vI ((spA es x lax d s a 1).2.2.2)]⟩]) (M':=fun E4=>[((pb E1 0),26,[vI d,vI s,vI a]),((pb E1 1),26,[vI ((spA es x lax d s a 1).2.1),vI ((spA es x lax d s a 1).2.2.1),vI ((spA es x lax d s a 1).2.2.2)]),((pb E2 8),26,[vI ((spA es x lax d s a 1).2.1),vI ((spA es x lax d s a 1).2.2.1),vI ((spA es x lax d s a 1).2.2.2)])]) (hs:=c_ (ld_ 2 (hrd:=by exact rd26 rfl rfl rfl))<|c_ mv_<|c_ (se_ 1 (hst:=by exact fun _ _ _ hc=>st26 rfl rfl rfl rfl hc))<|c_ mv_<|e_) (k:=fun E4 ac wd h_4=>?_)
 clear h_3
 refine then_n (wp_ret ?_)
 have s6:=h_4.g (t:=6) rfl
 have hc6:=(h_4.st.own 1 _ rfl).2
 have c6_0:=own_cell (o:=0) hc6 rfl
 have c6_1:=own_cell (o:=1) hc6 rfl
 have c6_2:=own_cell (o:=2) hc6 rfl
 have s7:=h_4.g (t:=7) rfl
 refine leave (v:=vT2 (vL ((spA es x lax d s a 1).2.1) ((spA es x lax d s a 1).2.2.1) ((spA es x lax d s a 1).2.2.2)) (vI ((spA es x lax d s a 1).1))) h_4.df (by simp [results,Tryz.results34,go_sem,Array.getD_eq_getD_getElem?,s6,c6_0,c6_1,c6_2,Tryz.underlying26,s7]) ?_
 have e1:spN es x lax d s a=spA es x lax d s a 1:=by unfold spN;rw [if_neg hg]
 exact ⟨by rw [e1],h_4.st.nowT,h_4.st.gr⟩
 refine rg_ h_1 [[0],[1],[2],[3],r_ 5,r_ 6,r_ 7,[0,1,2,3,4,5,7],[8],[0,1,2,3,4,5,6,8,9],r_ 11] [K_ (vP c 0),K_ (vL d s a),K_ (vW 1),K_ (.bool (lax)),K_ (vT2 (vL ((spA es x lax d s a 1).2.1) ((spA es x lax d s a 1).2.2.1) ((spA es x lax d s a 1).2.2.2)) (vI ((spA es x lax d s a 1).1))),K_ (vT2 (vL ((spA es x lax d s a 1).2.1) ((spA es x lax d s a 1).2.2.1) ((spA es x lax d s a 1).2.2.2)) (vI ((spA es x lax d s a 1).1))),K_ (vL ((spA es x lax d s a 1).2.1) ((spA es x lax d s a 1).2.2.1) ((spA es x lax d s a 1).2.2.2)),K_ (vI ((spA es x lax d s a 1).1)),KE_ fun env=>vP (pb env 8) 0,none,K_ (vI ((spA es x lax d s a 1).1))] (fun E2=>[(0,vP c 0),(2,.bool (lax)),(4,vP (pb E1 0) 0),(6,vP (pb E1 1) 0),(7,vI 0),(8,vP (pb E2 8) 0),(9,vI ((spA es x lax d s a 1).1))]) (W:=[{ i:=8,T:=26,c0:=[vI 0,vI 0,vI 0],s:=some 9,c1:=fun _=>[vI ((spA es x lax d s a 1).2.1),vI ((spA es x lax d s a 1).2.2.1),vI ((spA es x lax d s a 1).2.2.2)] }]) (M':=fun E2=>[((pb E1 0),26,[vI d,vI s,vI a]),((pb E1 1),26,[vI 0,vI 0,vI 0]),((pb E2 8),26,[vI ((spA es x lax d s a 1).2.1),vI ((spA es x lax d s a 1).2.2.1),vI ((spA es x lax d s a 1).2.2.2)])]) (hs:=c_ mv_<|c_ (ld_ 0 (hrd:=by exact rd26 rfl rfl rfl))<|c_ (cl_ Tryz.func38 (h:=fun env=>⟨_,(of_any 1 (by omega) (by omega)),rfl⟩))<|c_ mv_<|c_ (s_clk (c:=c) (g:=g) (b:=b) (u:=u) (x:=x) (es:=es) Tryz.func31 (fun _ h=>h) (fun _ h=>h) (h:=fun D env ac wd hA hC=>⟨_,spAdd_c _ c g b u x es hC lax d s a hd0 hd1 1 (by unfold InW;omega),rfl⟩))<|c_ mv_<|c_ ext_<|c_ ext_<|c_ (al_ 2)<|c_ (sw_ 2 8 (hst:=by exact fun _ _ _ hc=>st26 rfl rfl rfl rfl hc))<|c_ mv_<|e_) (k:=fun E2 ac wd h_2=>?_)
 clear h_1
 refine then_n (wp_seq (wp_seq ?_))
 refine rg_ h_2 [[0],[0,1],[0,1,2],r_ 4,[0,1,2,4],r_ 6,r_ 7] [K_ (vI ((spA es x lax d s a 1).1)),K_ bF,K_ bF,K_ undef,K_ undef,K_ undef,K_ bF] (fun E3=>[(0,vP c 0),(2,.bool (lax)),(4,vP (pb E1 0) 0),(6,vP (pb E1 1) 0),(7,vI 0),(8,vP (pb E2 8) 0),(9,vI ((spA es x lax d s a 1).1)),(24,bF)]) (hs:=c_ mv_<|c_ (bi0 (vI ((spA es x lax d s a 1).1)) (vI 0) (h:=by intro env w;simp [go_sem,he]))<|c_ mv_<|c_ off_<|c_ off_<|c_ off_<|c_ (pk0 bF undef bF)<|e_) (k:=fun E3 ac wd h_3=>?_)
 clear h_2
 refine then_n ?_
 refine wp_cond_false (eval_tmp (h_3.g (t:=24) rfl)) ?_
 refine wp_skip (then_n (wp_seq ?_))
 refine rg_ h_3 [[0],[1],[0,2],r_ 4] [K_ (vL ((spA es x lax d s a 1).2.1) ((spA es x lax d s a 1).2.2.1) ((spA es x lax d s a 1).2.2.2)),K_ (vI ((spA es x lax d s a 1).1)),none,K_ (vI ((spA es x lax d s a 1).1))] (fun E4=>[(6,vP (pb E1 1) 0),(7,vI ((spA es x lax d s a 1).1))]) (S:=[⟨1,2,fun _=>[vI ((spA es x lax d s a 1).2.1),vI ((spA es x lax d s a 1).2.2.1),vI ((spA es x lax d s a 1).2.2.2)]⟩]) (M':=fun E4=>[((pb E1 0),26,[vI d,vI s,vI a]),((pb E1 1),26,[vI ((spA es x lax d s a 1).2.1),vI ((spA es x lax d s a 1).2.2.1),vI ((spA es x lax d s a 1).2.2.2)]),((pb E2 8),26,[vI ((spA es x lax d s a 1).2.1),vI ((spA es x lax d s a 1).2.2.1),vI ((spA es x lax d s a 1).2.2.2)])]) (hs:=c_ (ld_ 2 (hrd:=by exact rd26 rfl rfl rfl))<|c_ mv_<|c_ (se_ 1 (hst:=by exact fun _ _ _ hc=>st26 rfl rfl rfl rfl hc))<|c_ mv_<|e_) (k:=fun E4 ac wd h_4=>?_)
 clear h_3
 refine then_n (wp_ret ?_)
 have s6:=h_4.g (t:=6) rfl
 have hc6:=(h_4.st.own 1 _ rfl).2
 have c6_0:=own_cell (o:=0) hc6 rfl
 have c6_1:=own_cell (o:=1) hc6 rfl
 have c6_2:=own_cell (o:=2) hc6 rfl
 have s7:=h_4.g (t:=7) rfl
 refine leave (v:=vT2 (vL ((spA es x lax d s a 1).2.1) ((spA es x lax d s a 1).2.2.1) ((spA es x lax d s a 1).2.2.2)) (vI ((spA es x lax d s a 1).1))) h_4.df (by simp [results,Tryz.results34,go_sem,Array.getD_eq_getD_getElem?,s6,c6_0,c6_1,c6_2,Tryz.underlying26,s7]) ?_
 have e1:spN es x lax d s a=spA es x lax d s a 1:=by unfold spN;rw [if_neg hg]
 exact ⟨by rw [e1],h_4.st.nowT,h_4.st.gr⟩
end Go.Proofs.YtdfkghpgekmmlaaGreat
namespace Go.Proofs.YtdfkghpgekmmlaaGreat
open Go.RowKit
attribute [local go_sem] vN bT bF rS vW vM vL vT2 vT3 vP vI execOp Act.eval evC bigF vB hi_zero lo_zero Tryz.underlying24 Tryz.underlying26 Tryz.underlying34 Tryz.underlying70
theorem ans27_a:vT2 (vL (spA ansT 0 true 41498 86399 0 2000000000000000000).2.1 (spA ansT 0 true 41498 86399 0 2000000000000000000).2.2.1 (spA ansT 0 true 41498 86399 0 2000000000000000000).2.2.2) (vI (spA ansT 0 true 41498 86399 0 2000000000000000000).1)=vT2 (vL 41499 0 0) (vI 0):=by
 rw [show spA ansT 0 true 41498 86399 0 2000000000000000000=(0,41499,0,0) by decide +kernel]
theorem ans27_d:vT2 (vW (spD ansT 0 true 41498 86399 0 41499 0 0)) (vI (spE ansT 0 true 41498 86399 0 41499 0 0))=vT2 (vW 2000000000000000000) (vI 0):=by
 rw [show spD ansT 0 true 41498 86399 0 41499 0 0=2000000000000000000 by decide +kernel,show spE ansT 0 true 41498 86399 0 41499 0 0=0 by decide +kernel]
theorem ans27_n:vT2 (vL (spN ansT 0 true 41498 86399 0).2.1 (spN ansT 0 true 41498 86399 0).2.2.1 (spN ansT 0 true 41498 86399 0).2.2.2) (vI (spN ansT 0 true 41498 86399 0).1)=vT2 (vL 41498 86399 1) (vI 0):=by
 rw [show spN ansT 0 true 41498 86399 0=(0,41498,86399,1) by decide +kernel]
theorem answers27_any  : Ret 30 #[] (.bool true):=by
 intro w0
 have hst:=St.start w0 (Θ:=fun _=>True) (fun _ _=>trivial)
 refine enter Tryz.func30 rfl (n:=64) rfl (Nat.le_of_ble_eq_true rfl) hst (L:=[]) (lk_args rfl) (fun ac h=>?_)
 replace h:=h.facts
 refine wp_seq ?_
 refine rf_ h [[0]] [K_ bF] (fun E1=>[(0,bF)]) (hs:=c_ mv_<|e_) (k:=fun E1 ac wd h_1=>?_)
 clear h
 refine then_n (wp_seq ?_)
 refine rf_ h_1 [[0],[1],[0,1,2],r_ 4,r_ 5,r_ 6,r_ 7,[0,1,2,3,4,5,7],[0,1,2,3,4,5,6,8],r_ 10] [K_ (.agg #[vI 2272060800,vI 10]),K_ (.agg #[vI 2287785600,vI 11]),KE_ fun env=>.slice ((sA (env 2))) 2 2,KE_ fun env=>.agg #[vI 0,vI 0,.slice ((sA (env 2))) 2 2],KE_ fun env=>vT2 (vP (ptrB (tp (env 4) 0)) 0) (vI 0),KE_ fun env=>vT2 (vP (ptrB (tp (env 4) 0)) 0) (vI 0),KE_ fun env=>vP (ptrB (tp (env 4) 0)) 0,K_ (vI 0),KE_ fun env=>vP (ptrB (tp (env 4) 0)) 0,K_ (vI 0)] (fun E2=>[(0,bF),(1,vP (ptrB (tp (E2 4) 0)) 0)]) (F:=[(2,fun env w=>EntL w (env 2) ansT),(4,fun env w=>NewCx w (env 4) 0 0 ansT w0.heap.size)]) (L1:=fun E2=>[fun w=>EntL w (E2 2) ansT,fun w=>NewCx w (E2 4) 0 0 ansT w0.heap.size]) (hs:=c_ (bd0 ([vI 2272060800,vI 10]))<|c_ (bd0 ([vI 2287785600,vI 11]))<|c_ (s_bsE rfl rfl (fun _=>wanted_none rfl _) ansT 2 rfl #[vI 2272060800,vI 10,vI 2287785600,vI 11] ans_cs rfl rfl rfl rfl (fun {D env ac wd} hA=>by have e11:ac.tmps[11]? = some (.agg #[vI 2272060800,vI 10]):=hA.g rfl;have e12:ac.tmps[12]? = some (.agg #[vI 2287785600,vI 11]):=hA.g rfl;simp [go_sem,e11,e12,Tryz.underlying22]))<|c_ (bd_ (fun env=>[.slice ((sA (env 2))) 2 2]))<|c_ (s_factT rfl rfl rfl Tryz.func13 (by kernel_rfl) rfl (fun _=>wanted_none rfl _) (fun v w=>NewCx w v 0 0 ansT w0.heap.size) newLF rfl rfl cT rfl (fun v w h=>h.form) (fun v w w' hk h=>h.keep hk) (fun {D env ac wd} hA=>⟨_,hA.args (vs:=[.agg #[vI 0,vI 0,.slice ((sA (env 2))) 2 2]]) rfl,cnew_yes hA.j.st.gr.size (At.ent hA 2 rfl (by decide) rfl rfl rfl) (by simp [I64]) (by simp [I64]) ansT_64 ansT_ok⟩))<|c_ mv_<|c_ ext_<|c_ ext_<|c_ mv_<|c_ mv_<|e_) (k:=fun E2 ac wd h_2=>?_)
 clear h_1
 refine then_n (wp_seq ?_)
 replace h_2:=Cur.exInC h_2 1 rfl;obtain ⟨g,b,h_2⟩:=h_2;generalize ptrB (tp (E2 4) 0)=c at h_2
 refine rf_ h_2 [[0],[1],[0,1,2]] [K_ (vL 41498 86399 0),KE_ fun env=>vP (pb env 1) 0,none] (fun E3=>[(0,bF),(1,vP c 0),(3,vP (pb E3 1) 0)]) (W:=[{ i:=1,T:=26,c0:=[vI 0,vI 0,vI 0],s:=some 2,c1:=fun _=>[vI 41498,vI 86399,vI 0] }]) (M':=fun E3=>[((pb E3 1),26,[vI 41498,vI 86399,vI 0])]) (hs:=c_ (bd0 ([vI 41498,vI 86399]))<|c_ (al_ 0)<|c_ (sw_ 0 1 (hst:=by exact fun _ _ _ hc=>st26 rfl rfl rfl rfl hc))<|e_) (k:=fun E3 ac wd h_3=>?_)
 clear h_2
 refine then_n (wp_seq ?_)
 refine rf_ h_3 [[0],[1],[2],r_ 4,r_ 5,r_ 6,[0,1,2,3,4,6],[7],[0,1,2,3,4,5,7,8],r_ 10] [K_ (vP c 0),K_ (vL 41498 86399 0),K_ (vW 2000000000000000000),K_ (vT2 (vL 41499 0 0) (vI 0)),K_ (vT2 (vL 41499 0 0) (vI 0)),K_ (vL 41499 0 0),K_ (vI 0),KE_ fun env=>vP (pb env 7) 0,none,K_ (vI 0)] (fun E4=>[(0,bF),(1,vP c 0),(3,vP (pb E3 1) 0),(4,vP (pb E4 7) 0),(5,vI 0)]) (W:=[{ i:=7,T:=26,c0:=[vI 0,vI 0,vI 0],s:=some 8,c1:=fun _=>[vI 41499,vI 0,vI 0] }]) (M':=fun E4=>[((pb E3 1),26,[vI 41498,vI 86399,vI 0]),((pb E4 7),26,[vI 41499,vI 0,vI 0])]) (hs:=c_ mv_<|c_ (ld_ 0 (hrd:=by exact rd26 rfl rfl rfl))<|c_ (cl_ Tryz.func38 (h:=fun env=>⟨_,(of_any 2000000000000000000 (by omega) (by omega)),rfl⟩))<|c_ (s_clk (c:=c) (g:=g) (b:=b) (u:=0) (x:=0) (es:=ansT) Tryz.func31 (fun _ h=>h) (fun _ h=>h) (h:=fun D env ac wd hA hC=>⟨_,ClkC.eq (spAdd_c _ c g b 0 0 ansT hC true 41498 86399 0 (by omega) (by omega) 2000000000000000000 (by unfold InW;omega)) ans27_a,rfl⟩))<|c_ mv_<|c_ ext_<|c_ ext_<|c_ (al_ 1)<|c_ (sw_ 1 7 (hst:=by exact fun _ _ _ hc=>st26 rfl rfl rfl rfl hc))<|c_ mv_<|e_) (k:=fun E4 ac wd h_4=>?_)
 clear h_3
 refine then_n (wp_seq ?_)
 refine rf_ h_4 [[0],[1],[2],r_ 4,r_ 5,r_ 6,[0,1,2,3,4,6],[7],[0,1,2,3,4,5,7,8],r_ 10] [K_ (vP c 0),K_ (vL 41498 86399 0),K_ (vL 41499 0 0),K_ (vT2 (vW 2000000000000000000) (vI 0)),K_ (vT2 (vW 2000000000000000000) (vI 0)),K_ (vW 2000000000000000000),K_ (vI 0),KE_ fun env=>vP (pb env 7) 0,none,K_ (vI 0)] (fun E5=>[(0,bF),(1,vP c 0),(3,vP (pb E3 1) 0),(4,vP (pb E4 7) 0),(5,vI 0),(6,vP (pb E5 7) 0),(7,vI 0)]) (W:=[{ i:=7,T:=34,c0:=[vI 0,.int .u64 0],s:=some 8,c1:=fun _=>[vI (hi (2000000000000000000)),.int .u64 (lo (2000000000000000000))] }]) (M':=fun E5=>[((pb E3 1),26,[vI 41498,vI 86399,vI 0]),((pb E4 7),26,[vI 41499,vI 0,vI 0]),((pb E5 7),34,[vI (hi (2000000000000000000)),.int .u64 (lo (2000000000000000000))])]) (hs:=c_ mv_<|c_ (ld_ 0 (hrd:=by exact rd26 rfl rfl rfl))<|c_ (ld_ 1 (hrd:=by exact rd26 rfl rfl rfl))<|c_ (s_clk (c:=c) (g:=g) (b:=b) (u:=0) (x:=0) (es:=ansT) Tryz.func33 (fun _ h=>h) (fun _ h=>h) (h:=fun D env ac wd hA hC=>⟨_,ClkC.eq (spDiff_c _ c g b 0 0 ansT hC true 41498 86399 0 (by omega) (by omega) 41499 0 0 (by omega) (by omega)) ans27_d,rfl⟩))<|c_ mv_<|c_ ext_<|c_ ext_<|c_ (al_ 2)<|c_ (sw_ 2 7 (hst:=by exact fun _ _ _ hc=>st34 rfl rfl rfl hc))<|c_ mv_<|e_) (k:=fun E5 ac wd h_5=>?_)
 clear h_4
 refine then_n (wp_seq ?_)
 refine rf_ h_5 [[0],[1],[0,1,2],r_ 4,r_ 5,[0,1,2,3,5],[6],[0,1,2,3,4,6,7],r_ 9] [K_ (vP c 0),K_ (vL 41498 86399 0),K_ (vT2 (vL 41498 86399 1) (vI 0)),K_ (vT2 (vL 41498 86399 1) (vI 0)),K_ (vL 41498 86399 1),K_ (vI 0),KE_ fun env=>vP (pb env 6) 0,none,K_ (vI 0)] (fun E6=>[(0,bF),(4,vP (pb E4 7) 0),(5,vI 0),(6,vP (pb E5 7) 0),(7,vI 0),(8,vP (pb E6 6) 0),(9,vI 0)]) (W:=[{ i:=6,T:=26,c0:=[vI 0,vI 0,vI 0],s:=some 7,c1:=fun _=>[vI 41498,vI 86399,vI 1] }]) (M':=fun E6=>[((pb E3 1),26,[vI 41498,vI 86399,vI 0]),((pb E4 7),26,[vI 41499,vI 0,vI 0]),((pb E5 7),34,[vI (hi (2000000000000000000)),.int .u64 (lo (2000000000000000000))]),((pb E6 6),26,[vI 41498,vI 86399,vI 1])]) (hs:=c_ mv_<|c_ (ld_ 0 (hrd:=by exact rd26 rfl rfl rfl))<|c_ (s_clk (c:=c) (g:=g) (b:=b) (u:=0) (x:=0) (es:=ansT) Tryz.func34 (fun _ h=>h) (fun _ h=>h) (h:=fun D env ac wd hA hC=>⟨_,ClkC.eq (spNext_c _ c g b 0 0 ansT hC true 41498 86399 0 (by omega) (by omega)) ans27_n,rfl⟩))<|c_ mv_<|c_ ext_<|c_ ext_<|c_ (al_ 3)<|c_ (sw_ 3 6 (hst:=by exact fun _ _ _ hc=>st26 rfl rfl rfl rfl hc))<|c_ mv_<|e_) (k:=fun E6 ac wd h_6=>?_)
 clear h_5
 refine then_n (wp_seq ?_)
 refine rf_ h_6 [[0],[0,1],[0,1,2],r_ 4,[0,1,2,4],r_ 6,r_ 7,r_ 8,r_ 9,r_ 10,r_ 11,r_ 12,r_ 13,[0,1,2,3,4,5,6,7,8,9,10,11,13],r_ 15,r_ 16,r_ 17,r_ 18,r_ 19,r_ 20,r_ 21,r_ 22,[0,1,2,3,4,5,6,7,8,9,10,11,12,13,14,15,16,17,18,19,20,22],r_ 24,r_ 25,r_ 26] [K_ (vI 0),K_ bT,K_ bT,K_ (vL 41499 0 0),K_ (vL 41499 0 0),K_ bT,K_ bT,K_ bT,K_ (vI 0),K_ bT,K_ bT,K_ bT,K_ (vW 2000000000000000000),K_ (vW 2000000000000000000),K_ bT,K_ bT,K_ bT,K_ (vI 0),K_ bT,K_ bT,K_ bT,K_ (vL 41498 86399 1),K_ (vL 41498 86399 1),K_ bT,K_ bT,K_ bT] (fun E7=>[(0,bT)]) (hs:=c_ mv_<|c_ (bi0 (vI 0) (vI 0) (h:=by intro env w;(first | (simp [go_sem];done) | (simp [go_sem];rfl))))<|c_ mv_<|c_ (ld_ 1 (hrd:=by exact rd26 rfl rfl rfl))<|c_ (bd0 ([vI 41499]))<|c_ (bi0 (vL 41499 0 0) (vL 41499 0 0) (h:=by intro env w;(first | (simp [go_sem];done) | (simp [go_sem];rfl))))<|c_ (pk0 bT bT bF (h:=by intro env w;(first | (simp [go_sem];done) | (simp [go_sem];rfl))))<|c_ mv_<|c_ (gm0 (vI 0))<|c_ (bi0 (vI 0) (vI 0) (h:=by intro env w;(first | (simp [go_sem];done) | (simp [go_sem];rfl))))<|c_ (pk0 bT bT bF (h:=by intro env w;(first | (simp [go_sem];done) | (simp [go_sem];rfl))))<|c_ mv_<|c_ (ld_ 2 (hrd:=by exact rd34 rfl rfl))<|c_ (cl_ Tryz.func38 (h:=fun env=>⟨_,(of_any 2000000000000000000 (by omega) (by omega)),rfl⟩))<|c_ (bi0 (vW 2000000000000000000) (vW 2000000000000000000) (h:=by intro env w;(first | (simp [go_sem];done) | (simp [go_sem];rfl))))<|c_ (pk0 bT bT bF (h:=by intro env w;(first | (simp [go_sem];done) | (simp [go_sem];rfl))))<|c_ mv_<|c_ (gm0 (vI 0))<|c_ (bi0 (vI 0) (vI 0) (h:=by intro env w;(first | (simp [go_sem];done) | (simp [go_sem];rfl))))<|c_ (pk0 bT bT bF (h:=by intro env w;(first | (simp [go_sem];done) | (simp [go_sem];rfl))))<|c_ mv_<|c_ (ld_ 3 (hrd:=by exact rd26 rfl rfl rfl))<|c_ (bd0 ([vI 41498,vI 86399,vI 1]))<|c_ (bi0 (vL 41498 86399 1) (vL 41498 86399 1) (h:=by intro env w;(first | (simp [go_sem];done) | (simp [go_sem];rfl))))<|c_ (pk0 bT bT bF (h:=by intro env w;(first | (simp [go_sem];done) | (simp [go_sem];rfl))))<|c_ mv_<|e_) (k:=fun E7 ac wd h_7=>?_)
 clear h_6
 refine then_n (wp_ret ?_)
 have s0:=h_7.g (t:=0) rfl
 refine leave (v:=.bool true) h_7.df (by simp [results,Tryz.results30,go_sem,Array.getD_eq_getD_getElem?,s0]) ?_
 exact ⟨rfl,h_7.st.below⟩
end Go.Proofs.YtdfkghpgekmmlaaGreat
