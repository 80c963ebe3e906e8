/- Texts GCNews of one proof, one behind the other; what nothing here names is left out. -/
import Derived.Test.YtdfkghpgekmmlaaGreatT11
import Derived.Test.YtdfkghpgekmmlaaGreatT9
import Derived.Test.YtdfkghpgekmmlaaGreatZ4
import Derived.IntWalk
set_option maxRecDepth 100000
set_option maxHeartbeats 8000000
set_option linter.unusedVariables false
set_option linter.unusedSimpArgs false
namespace Go.Proofs.YtdfkghpgekmmlaaGreat
open Go.RowKit
attribute [local go_sem] vN bT bF rS vW vM vL vT2 vT3 vP vI execOp Act.eval evC bigF vB hi_zero lo_zero Tryz.underlying24
def RtX (b:Bool) (w:World) (v:Value):Prop:=∃ m:Int,v = .tuple #[vI m,.bool b]
def rtF (b:Bool) (v:Value):Value:=.tuple #[tp v 0,.bool b]
theorem RtX.form {b:Bool} {w:World} {v:Value} (h:RtX b w v):v=rtF b v:=by obtain ⟨m,rfl⟩:=h;rfl
theorem RtX.keep {b:Bool} {ex:Option Nat} {w w':World} {v:Value} (h:RtX b w v) (hk:Keep ex w w'):RtX b w' v:=h
theorem toRt {P:Program} {f:FuncId} {args:Array Value} {w:World} {B:Nat} {b b':Bool} (hB:B≤w.heap.size) (h:Calls P f args w (RTabPost b w)) (e:b=b'):Calls P f args w fun x w'=>∃ v,x = .returned v∧Below w.heap.size w w'∧RtX b' w' v:=by
 subst e
 refine h.mono ?_
 rintro x w' ⟨m,rfl,hb⟩
 exact ⟨_,rfl,hb,m,rfl⟩
def agS:Value→Value
  | .agg #[_,_,s]=>s
  | _=>undef
def TabG (ex:Option Nat) (w:World) (v:Value) (u x:Int) (es:List (Int × Int)):Prop:=v = .agg #[vI u,vI x,agS v]∧EntL w (agS v) es∧es.length≤9223372036854775807∧∀ k,ex=some k→(agS v).ownBlock≠some k
def tabF (u x:Int) (n:Nat) (v:Value):Value:=.agg #[vI u,vI x,.slice (sA (agS v)) n n]
section
variable {ex:Option Nat} {w w':World} {v:Value} {u x:Int} {es:List (Int × Int)}
theorem TabG.form (h:TabG ex w v u x es):v=tabF u x es.length v:=by
 have h2:=h.2.1.form
 unfold tabF entF at *
 rw [← h2]
 exact h.1
theorem TabG.keep (h:TabG ex w v u x es) (hk:KeepT [70] ex w w'):TabG ex w' v u x es:=by
 obtain ⟨h1,⟨b,h2,h3⟩,h4,h5⟩:=h
 refine ⟨h1,⟨b,h2,(hk _ _ _ _ h3 rfl (fun e=>h5 b e (by rw [h2];rfl))).trans h3⟩,h4,h5⟩
theorem TabG.ents (h:TabG ex w v u x es):Ents w w.heap.size (.slice (sA (agS v)) es.length es.length) es:=by
 have h2:=h.2.1.ents h.2.2.1
 rw [h.2.1.form] at h2
 exact h2
end
theorem At.tabG {R:Reg} {i:Nat} {D:Nat→Bool} {env:Env} {a:Act} {w:World} (h:At R i D env a w) (j:Nat) {ex:Option Nat} {u x:Int} {es:List (Int × Int)} (hj:((R.cl.getD i []).contains j && !(j == i))=true) (hs:((R.cl.getD j []).contains j)=true) (hF:R.F.filter (fun p=>Nat.beq p.1 j)=[(j,fun env w=>TabG ex w (env j) u x es)]):Ents w w.heap.size (.slice (sA (agS (env j))) es.length es.length) es:=(h.fact j (φ:=fun v w=>TabG ex w v u x es) hj hs hF).ents
theorem tableG {g:Nat} {w:World} {u x:Int} {es:List (Int × Int)} (hg:g < w.heap.size) (h:IsLx w g u x es):Calls Tryz.prog 29 #[vP g 0] w fun e w'=>∃ v,e = .returned v∧Below w.heap.size w w'∧TabG (some g) w' v u x es:=by
 obtain ⟨q,h⟩:=h
 have hl:=(okT_pre h.1).2.2
 refine (table_any g u x q es w h).mono ?_
 rintro e w' ⟨ge,rfl,hb,hge,hbl⟩
 refine ⟨_,rfl,hbl,rfl,⟨ge,rfl,hb⟩,by omega,fun k hk hb'=>?_⟩
 obtain rfl:=Option.some.inj hk
 have hb2:(Value.slice (some ⟨ge,0,none⟩) es.length es.length).ownBlock=some g:=hb'
 simp only [Value.ownBlock,Option.some.injEq] at hb2
 omega
theorem clockNews_core (w0:World) (A0:Option Addr) (c0:Nat) (es:List (Int × Int)) (u x:Int)  (hv:Ents w0 w0.heap.size (.slice A0 es.length c0) es) (hu:I64 u) (hx:I64 x) (hes:∀ i,I64 (es.getD i (0,0)).1∧I64 (es.getD i (0,0)).2):Calls Tryz.prog 7 #[.agg #[vI u,vI x,.slice A0 es.length c0]] w0 fun e w'=>e = .returned (.bool true)∧Below w0.heap.size w0 w':=by
 have hst:=St.start w0 (Θ:=fun _=>True) (fun _ _=>trivial)
 refine enter Tryz.func7 rfl (n:=51) rfl (Nat.le_of_ble_eq_true rfl) hst (L:=[(0,.agg #[vI u,vI x,.slice A0 es.length c0])]) (lk_args rfl) (fun ac h=>?_)
 replace h:=h.facts
 refine wp_seq ?_
 refine rf_ h [[0],[1]] [KE_ fun env=>vP (pb env 0) 0,K_ bF] (fun E1=>[(1,vP (pb E1 0) 0),(2,bF)]) (W:=[{ i:=0,T:=24,c0:=[vI u,vI x,.slice A0 es.length c0] }]) (M':=fun E1=>[((pb E1 0),24,[vI u,vI x,.slice A0 es.length c0])]) (hs:=c_ (bx0 0 (.agg #[vI u,vI x,.slice A0 es.length c0]))<|c_ mv_<|e_) (k:=fun E1 ac wd h_1=>?_)
 clear h
 refine then_n (wp_seq ?_)
 cases hok:okT u x es
 refine rf_ h_1 [[0],[0,1],[0,1,2],r_ 4,[0,1,2,4],[0,1,2,3,5],r_ 7] [K_ (.agg #[vI u,vI x,.slice A0 es.length c0]),K_ (vT2 (.pointer none) (vI 10)),K_ (vT2 (.pointer none) (vI 10)),K_ (.pointer none),K_ (vI 10),K_ (.pointer none),K_ (vI 10)] (fun E2=>[(1,vP (pb E1 0) 0),(2,bF),(3,.pointer none),(4,vI 10)]) (hs:=c_ (ld_ 0 (hrd:=by exact rd24 rfl rfl rfl))<|c_ (cw_ Tryz.func13 (h:=fun _ env _ wd hA=>⟨_,cnew_no (hv.gn hA.j.st.gr) hu hx hes hok,rfl⟩))<|c_ mv_<|c_ ext_<|c_ ext_<|c_ mv_<|c_ mv_<|e_) (k:=fun E2 ac wd h_2=>?_)
 clear h_1
 refine then_n (wp_seq (wp_seq ?_))
 refine rf_ h_2 [[0],[0,1],[0,1,2],r_ 4,[0,1,2,4],[0,1,2,3,5],r_ 7] [K_ (.agg #[vI u,vI x,.slice A0 es.length c0]),KE_ fun env=>vT2 ((tp (env 1) 0)) bF,KE_ fun env=>vT2 ((tp (env 1) 0)) bF,KE_ fun env=>(tp (env 1) 0),K_ bF,KE_ fun env=>(tp (env 1) 0),K_ bF] (fun E3=>[(1,vP (pb E1 0) 0),(2,bF),(3,.pointer none),(4,vI 10),(6,bF)]) (F:=[(1,fun env w=>RtX false w (env 1))]) (L1:=fun E3=>[fun w=>RtX false w (E3 1)]) (hs:=c_ (ld_ 0 (hrd:=by exact rd24 rfl rfl rfl))<|c_ (cf_ Tryz.func26 (fun v w=>RtX false w v) (rtF false) (h:=fun _ env _ wd hA=>⟨_,toRt hA.j.st.gr.size (rtable_any _ es u x wd (hv.gn hA.j.st.gr) hu hx hes) hok,rfl⟩))<|c_ mv_<|c_ ext_<|c_ ext_<|c_ mv_<|c_ mv_<|e_) (k:=fun E3 ac wd h_3=>?_)
 clear h_2
 refine then_n (wp_seq ?_)
 refine rf_ h_3 [[0],[0,1]] [K_ bF,K_ bT] (fun E4=>[(1,vP (pb E1 0) 0),(2,bF),(3,.pointer none),(4,vI 10),(18,bT)]) (hs:=c_ mv_<|c_ (un0 bF)<|e_) (k:=fun E4 ac wd h_4=>?_)
 clear h_3
 refine then_n ?_
 refine wp_cond_true (eval_tmp (h_4.g (t:=18) rfl)) ?_
 refine wp_seq ?_
 refine rf_ h_4 (tri 10) [K_ bT,K_ bT,K_ (.pointer none),K_ bT,K_ bT,K_ bT,K_ (vI 10),K_ bT,K_ bT,K_ bT] (fun E5=>[(1,vP (pb E1 0) 0),(2,bT),(3,.pointer none),(4,vI 10)]) (hs:=c_ (cl_ Tryz.func14 (h:=fun env=>⟨_,answers15_any,rfl⟩))<|c_ mv_<|c_ (gm0 (.pointer none))<|c_ (bi0 (.pointer none) (.pointer none))<|c_ (pk0 bT bT bF)<|c_ mv_<|c_ (gm0 (vI 10))<|c_ (bi0 (vI 10) (vI 10) (h:=by intro env w;(first | (simp [go_sem];done) | (simp [go_sem];rfl))))<|c_ (pk0 bT bT bF (h:=by intro env w;(first | (simp [go_sem];done) | (simp [go_sem];rfl))))<|c_ mv_<|e_) (k:=fun E5 ac wd h_5=>?_)
 clear h_4
 refine then_n (wp_ret (then_ret ?_))
 have s2:=h_5.g (t:=2) rfl
 refine leave (v:=.bool true) h_5.df (by simp [results,Tryz.results7,go_sem,Array.getD_eq_getD_getElem?,s2]) ?_
 exact ⟨rfl,h_5.st.below⟩
 obtain ⟨hp,hn0,_⟩:=okT_pre hok
 refine rf_ h_1 [[0],[0,1],[0,1,2],r_ 4,[0,1,2,4],[0,1,2,3,5],r_ 7] [K_ (.agg #[vI u,vI x,.slice A0 es.length c0]),KE_ fun env=>vT2 (vP (ptrB (tp (env 1) 0)) 0) (vI 0),KE_ fun env=>vT2 (vP (ptrB (tp (env 1) 0)) 0) (vI 0),KE_ fun env=>vP (ptrB (tp (env 1) 0)) 0,K_ (vI 0),KE_ fun env=>vP (ptrB (tp (env 1) 0)) 0,K_ (vI 0)] (fun E2=>[(1,vP (pb E1 0) 0),(2,bF),(3,vP (ptrB (tp (E2 1) 0)) 0),(4,vI 0)]) (F:=[(1,fun env w=>NewCx w (env 1) u x es w0.heap.size)]) (L1:=fun E2=>[fun w=>NewCx w (E2 1) u x es w0.heap.size]) (hs:=c_ (ld_ 0 (hrd:=by exact rd24 rfl rfl rfl))<|c_ (s_factT rfl rfl rfl Tryz.func13 (by kernel_rfl) rfl (fun _=>wanted_none rfl _) (fun v w=>NewCx w v u x es w0.heap.size) newLF rfl rfl cT rfl (fun v w h=>h.form) (fun v w w' hk h=>h.keep hk) (fun {D env ac wd} hA=>⟨_,hA.args (vs:=[.agg #[vI u,vI x,.slice A0 es.length c0]]) rfl,cnew_yes hA.j.st.gr.size (hv.gn hA.j.st.gr) hu hx hes hok⟩))<|c_ mv_<|c_ ext_<|c_ ext_<|c_ mv_<|c_ mv_<|e_) (k:=fun E2 ac wd h_2=>?_)
 clear h_1
 refine then_n (wp_seq (wp_seq ?_))
 replace h_2:=Cur.exInC h_2 0 rfl;obtain ⟨g,b,h_2⟩:=h_2;generalize ptrB (tp (E2 1) 0)=c at h_2
 refine rf_ h_2 [[0],[0,1],[0,1,2],r_ 4,[0,1,2,4],[0,1,2,3,5],r_ 7] [K_ (.agg #[vI u,vI x,.slice A0 es.length c0]),KE_ fun env=>vT2 ((tp (env 1) 0)) bT,KE_ fun env=>vT2 ((tp (env 1) 0)) bT,KE_ fun env=>(tp (env 1) 0),K_ bT,KE_ fun env=>(tp (env 1) 0),K_ bT] (fun E3=>[(1,vP (pb E1 0) 0),(2,bF),(3,vP c 0),(4,vI 0),(6,bT)]) (F:=[(1,fun env w=>RtX true w (env 1))]) (L1:=fun E3=>[fun w=>RtX true w (E3 1)]) (hs:=c_ (ld_ 0 (hrd:=by exact rd24 rfl rfl rfl))<|c_ (cf_ Tryz.func26 (fun v w=>RtX true w v) (rtF true) (h:=fun _ env _ wd hA=>⟨_,toRt hA.j.st.gr.size (rtable_any _ es u x wd (hv.gn hA.j.st.gr) hu hx hes) hok,rfl⟩))<|c_ mv_<|c_ ext_<|c_ ext_<|c_ mv_<|c_ mv_<|e_) (k:=fun E3 ac wd h_3=>?_)
 clear h_2
 refine then_n (wp_seq ?_)
 refine rf_ h_3 [[0],[0,1]] [K_ bT,K_ bF] (fun E4=>[(1,vP (pb E1 0) 0),(2,bF),(3,vP c 0),(4,vI 0),(18,bF)]) (hs:=c_ mv_<|c_ (un0 bT)<|e_) (k:=fun E4 ac wd h_4=>?_)
 clear h_3
 refine then_n ?_
 refine wp_cond_false (eval_tmp (h_4.g (t:=18) rfl)) ?_
 refine wp_skip (then_n (wp_seq ?_))
 cases ho:oldB es
 refine rf_ h_4 [[0],[0,1],[0,1,2],r_ 4,r_ 5,r_ 6,r_ 7,r_ 8,r_ 9,r_ 10,r_ 11,r_ 12,[0,1,2,3,4,5,6,7,8,9,12],r_ 14,r_ 15,r_ 16,r_ 17,r_ 18,r_ 19,r_ 20,[0,1,2,3,4,5,6,7,8,9,10,11,12,13,14,15,16,20],r_ 22,r_ 23,r_ 24] [K_ bT,K_ bT,K_ (vI 0),K_ bT,K_ bT,K_ bT,K_ (vP c 0),K_ bT,K_ bT,K_ bT,K_ (vP c 0),K_ bF,K_ (.agg #[vI u,vI x,.slice A0 es.length c0]),K_ bF,K_ bT,K_ bT,K_ bT,K_ (vP c 0),K_ (vP g 0),KE_ fun env=>.agg #[vI u,vI x,.slice ((sA (agS (env 19)))) es.length es.length],K_ (.agg #[vI u,vI x,.slice A0 es.length c0]),K_ bT,K_ bT,K_ bT] (fun E5=>[(2,bT)]) (F:=[(19,fun env w=>TabG (some g) w (env 19) u x es)]) (L1:=fun E5=>[fun w=>RtX true w (E3 1),fun w=>TabG (some g) w (E5 19) u x es]) (hs:=c_ (cl_ Tryz.func14 (h:=fun env=>⟨_,answers15_any,rfl⟩))<|c_ mv_<|c_ (gm0 (vI 0))<|c_ (bi0 (vI 0) (vI 0) (h:=by intro env w;(first | (simp [go_sem];done) | (simp [go_sem];rfl))))<|c_ (pk0 bT bT bF (h:=by intro env w;(first | (simp [go_sem];done) | (simp [go_sem];rfl))))<|c_ mv_<|c_ (gm0 (vP c 0))<|c_ (bi0 (vP c 0) (.pointer none))<|c_ (pk0 bT bT bF)<|c_ mv_<|c_ (gm0 (vP c 0))<|c_ (cw_ Tryz.func24 (h:=fun _ env _ wd hA=>⟨_,(u_res_eq ((cold_any (hA.thO rfl))) (congrArg Value.bool ho)),rfl⟩))<|c_ (ld_ 0 (hrd:=by exact rd24 rfl rfl rfl))<|c_ (cw_ Tryz.func27 (h:=fun _ env _ wd hA=>⟨_,(u_res_eq (rOld15_any wd A0 c0 es u x (hv.gn hA.j.st.gr) hp hn0) (congrArg Value.bool ho)),rfl⟩))<|c_ (bi0 bF bF)<|c_ (pk0 bT bT bF)<|c_ mv_<|c_ (gm0 (vP c 0))<|c_ (cw_ Tryz.func25 (h:=fun _ env _ wd hA=>⟨_,(cleaps_any (hA.thO rfl)),rfl⟩))<|c_ (s_factT rfl rfl rfl Tryz.func29 (by kernel_rfl) rfl (fun hA=>hA.gy rfl rfl rfl) (fun v w=>TabG (some g) w v u x es) (tabF u x es.length) rfl rfl [70] rfl (fun v w h=>h.form) (fun v w w' hk h=>h.keep hk) (fun {D env ac wd} hA=>⟨_,hA.args (vs:=[vP g 0]) rfl,tableG (hA.j.st.exb g rfl).1 (IsC.lx (hA.thO rfl))⟩))<|c_ (ld_ 0 (hrd:=by exact rd24 rfl rfl rfl))<|c_ (cw_ Tryz.func28 (h:=fun _ env _ wd hA=>⟨_,same_yes _ _ es u x wd (At.tabG hA 19 rfl rfl rfl) (hv.gn hA.j.st.gr),rfl⟩))<|c_ (pk0 bT bT bF)<|c_ mv_<|e_) (k:=fun E5 ac wd h_5=>?_)
 clear h_4
 refine then_n (wp_ret ?_)
 have s2:=h_5.g (t:=2) rfl
 refine leave (v:=.bool true) h_5.df (by simp [results,Tryz.results7,go_sem,Array.getD_eq_getD_getElem?,s2]) ?_
 exact ⟨rfl,h_5.st.below⟩
 refine rf_ h_4 [[0],[0,1],[0,1,2],r_ 4,r_ 5,r_ 6,r_ 7,r_ 8,r_ 9,r_ 10,r_ 11,r_ 12,[0,1,2,3,4,5,6,7,8,9,12],r_ 14,r_ 15,r_ 16,r_ 17,r_ 18,r_ 19,r_ 20,[0,1,2,3,4,5,6,7,8,9,10,11,12,13,14,15,16,20],r_ 22,r_ 23,r_ 24] [K_ bT,K_ bT,K_ (vI 0),K_ bT,K_ bT,K_ bT,K_ (vP c 0),K_ bT,K_ bT,K_ bT,K_ (vP c 0),K_ bT,K_ (.agg #[vI u,vI x,.slice A0 es.length c0]),K_ bT,K_ bT,K_ bT,K_ bT,K_ (vP c 0),K_ (vP g 0),KE_ fun env=>.agg #[vI u,vI x,.slice ((sA (agS (env 19)))) es.length es.length],K_ (.agg #[vI u,vI x,.slice A0 es.length c0]),K_ bT,K_ bT,K_ bT] (fun E5=>[(2,bT)]) (F:=[(19,fun env w=>TabG (some g) w (env 19) u x es)]) (L1:=fun E5=>[fun w=>RtX true w (E3 1),fun w=>TabG (some g) w (E5 19) u x es]) (hs:=c_ (cl_ Tryz.func14 (h:=fun env=>⟨_,answers15_any,rfl⟩))<|c_ mv_<|c_ (gm0 (vI 0))<|c_ (bi0 (vI 0) (vI 0) (h:=by intro env w;(first | (simp [go_sem];done) | (simp [go_sem];rfl))))<|c_ (pk0 bT bT bF (h:=by intro env w;(first | (simp [go_sem];done) | (simp [go_sem];rfl))))<|c_ mv_<|c_ (gm0 (vP c 0))<|c_ (bi0 (vP c 0) (.pointer none))<|c_ (pk0 bT bT bF)<|c_ mv_<|c_ (gm0 (vP c 0))<|c_ (cw_ Tryz.func24 (h:=fun _ env _ wd hA=>⟨_,(u_res_eq ((cold_any (hA.thO rfl))) (congrArg Value.bool ho)),rfl⟩))<|c_ (ld_ 0 (hrd:=by exact rd24 rfl rfl rfl))<|c_ (cw_ Tryz.func27 (h:=fun _ env _ wd hA=>⟨_,(u_res_eq (rOld15_any wd A0 c0 es u x (hv.gn hA.j.st.gr) hp hn0) (congrArg Value.bool ho)),rfl⟩))<|c_ (bi0 bT bT)<|c_ (pk0 bT bT bF)<|c_ mv_<|c_ (gm0 (vP c 0))<|c_ (cw_ Tryz.func25 (h:=fun _ env _ wd hA=>⟨_,(cleaps_any (hA.thO rfl)),rfl⟩))<|c_ (s_factT rfl rfl rfl Tryz.func29 (by kernel_rfl) rfl (fun hA=>hA.gy rfl rfl rfl) (fun v w=>TabG (some g) w v u x es) (tabF u x es.length) rfl rfl [70] rfl (fun v w h=>h.form) (fun v w w' hk h=>h.keep hk) (fun {D env ac wd} hA=>⟨_,hA.args (vs:=[vP g 0]) rfl,tableG (hA.j.st.exb g rfl).1 (IsC.lx (hA.thO rfl))⟩))<|c_ (ld_ 0 (hrd:=by exact rd24 rfl rfl rfl))<|c_ (cw_ Tryz.func28 (h:=fun _ env _ wd hA=>⟨_,same_yes _ _ es u x wd (At.tabG hA 19 rfl rfl rfl) (hv.gn hA.j.st.gr),rfl⟩))<|c_ (pk0 bT bT bF)<|c_ mv_<|e_) (k:=fun E5 ac wd h_5=>?_)
 clear h_4
 refine then_n (wp_ret ?_)
 have s2:=h_5.g (t:=2) rfl
 refine leave (v:=.bool true) h_5.df (by simp [results,Tryz.results7,go_sem,Array.getD_eq_getD_getElem?,s2]) ?_
 exact ⟨rfl,h_5.st.below⟩
theorem clockNews_walk (w0:World) (v:Value) (es:List (Int × Int)) (u x:Int)  (hv:Ents w0 w0.heap.size v es) (hu:I64 u) (hx:I64 x) (hes:∀ i,I64 (es.getD i (0,0)).1∧I64 (es.getD i (0,0)).2):Calls Tryz.prog 7 #[.agg #[vI u,vI x,v]] w0 fun e w'=>e = .returned (.bool true)∧Below w0.heap.size w0 w':=by
 have hv0:=hv
 obtain ⟨A,c,rfl,_⟩:=hv
 exact clockNews_core w0 A c es u x  hv0 hu hx hes
end Go.Proofs.YtdfkghpgekmmlaaGreat
