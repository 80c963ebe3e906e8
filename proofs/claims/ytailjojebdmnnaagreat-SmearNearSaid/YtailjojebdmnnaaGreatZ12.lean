/- Texts X1, L19, P22, P23, P24, P25, P26 of one proof, one behind the other; what nothing here names is left out. -/
import Derived.Test.YtailjojebdmnnaaGreatZ11
import Derived.Test.YtailjojebdmnnaaGreatZ7
import Derived.Test.YtailjojebdmnnaaGreatZ9
import Derived.Test.YtailjojebdmnnaaGreatZ10
import Derived.Test.YtailjojebdmnnaaGreatZ3
import Derived.Test.YtailjojebdmnnaaGreatZ4
import Derived.IntWalk
set_option maxRecDepth 100000
set_option maxHeartbeats 8000000
set_option linter.unusedVariables false
set_option linter.unusedSimpArgs false
namespace Go.Proofs.YtailjojebdmnnaaGreat
open Go.RowKit
attribute [local go_sem] vN bT bF rS vW vM vL vT2 vT3 vP vI execOp Act.eval evC bigF vB hi_zero lo_zero Tryz.underlying27 Tryz.underlying39
theorem xform_any (d s x:Int):Ret 28 #[vL d s x] (.bool (formB s x)):=by
 intro w0
 have hst:=St.start w0 (Θ:=fun _=>True) (fun _ _=>trivial)
 refine en_ Tryz.func28 hst 21 [(0,vL d s x)] (fun ac H_=>?_)
 refine gq H_ 1 [[0],[1]] [_,_] (fun E1=>[(1,vP (pb E1 0) 0)]) (W:=[{ i:=0,T:=39,c0:=[vI d,vI s,vI x] }]) (s:=⟨bx3 0,mv3⟩) (k:=fun E1 ac wd H_=>?_)
 by_cases h0:0≤s
 by_cases h1:s≤86400
 by_cases h2:0≤x
 refine gq1 H_ 18 (tri 19) [_,_,bT,_,_,_,bT,bT,_,_,_,bT,bT,_,_,_,K_ (.bool (decide (x < 1000000000000000000))),K_ (.bool (decide (x < 1000000000000000000))),_] (fun _=>[(2,.bool (decide (x < 1000000000000000000)))]) (s:=⟨fa3 1,ld31 0 sh3,bi3 (h:=by intro env w;simp [go_sem,h0]),mv3,fa3 1,ld31 0 sh3,bi3 (h:=by intro env w;simp [go_sem,h1]),pk3 (h:=by intro env w;simp [go_sem,h1]),mv3,fa3 2,ld31 0 sh3,bi3 (h:=by intro env w;simp [go_sem,h2]),pk3 (h:=by intro env w;simp [go_sem,h2]),mv3,fa3 2,ld31 0 sh3,bi3,pk3,mv3⟩) (k:=fun E2 ac wd H_=>?_)
 refine lvT3 Tryz.results28 H_ ?_
 have e:formB s x=decide (x < 1000000000000000000):=by have e0:=decide_eq_true h0;have e1:=decide_eq_true h1;have e2:=decide_eq_true h2;unfold formB wthn;rw [e0,e1,e2];simp only [Bool.true_and];exact decide_eq_decide.2 (by omega)
 exact ⟨by rw [e],H_.st.below⟩
 refine gq1 H_ 18 (tri 19) [_,_,bT,_,_,_,bT,bT,_,_,_,bF,bF,_,_,_,_,bF,_] (fun _=>[(2,bF)]) (s:=⟨fa3 1,ld31 0 sh3,bi3 (h:=by intro env w;simp [go_sem,h0]),mv3,fa3 1,ld31 0 sh3,bi3 (h:=by intro env w;simp [go_sem,h1]),pk3 (h:=by intro env w;simp [go_sem,h1]),mv3,fa3 2,ld31 0 sh3,bi3 (h:=by intro env w;simp [go_sem,h2]),pk3 (h:=by intro env w;simp [go_sem,h2]),mv3,off_,off_,off_,pk3,mv3⟩) (k:=fun E2 ac wd H_=>?_)
 refine lvT3 Tryz.results28 H_ ?_
 have e:formB s x=false:=by simp [formB,wthn];omega
 exact ⟨by rw [e],H_.st.below⟩
 refine gq1 H_ 18 (tri 19) [_,_,bT,_,_,_,bF,bF,_,_,_,_,bF,_,_,_,_,bF,_] (fun _=>[(2,bF)]) (s:=⟨fa3 1,ld31 0 sh3,bi3 (h:=by intro env w;simp [go_sem,h0]),mv3,fa3 1,ld31 0 sh3,bi3 (h:=by intro env w;simp [go_sem,h1]),pk3 (h:=by intro env w;simp [go_sem,h1]),mv3,off_,off_,off_,pk3,mv3,off_,off_,off_,pk3,mv3⟩) (k:=fun E2 ac wd H_=>?_)
 refine lvT3 Tryz.results28 H_ ?_
 have e:formB s x=false:=by simp [formB,wthn];omega
 exact ⟨by rw [e],H_.st.below⟩
 refine gq1 H_ 18 (tri 19) [_,_,bF,_,_,_,_,bF,_,_,_,_,bF,_,_,_,_,bF,_] (fun _=>[(2,bF)]) (s:=⟨fa3 1,ld31 0 sh3,bi3 (h:=by intro env w;simp [go_sem,h0]),mv3,off_,off_,off_,pk3,mv3,off_,off_,off_,pk3,mv3,off_,off_,off_,pk3,mv3⟩) (k:=fun E2 ac wd H_=>?_)
 refine lvT3 Tryz.results28 H_ ?_
 have e:formB s x=false:=by simp [formB,wthn];omega
 exact ⟨by rw [e],H_.st.below⟩
theorem xsecs_any (n:Int) (h0:-9223372036854775808≤n) (h1:n < 9223372036854775808):Ret 30 #[vI n] (vW (n*1000000000000000000)):=by
 intro w0
 have hst:=St.start w0 (Θ:=fun _=>True) (fun _ _=>trivial)
 refine en_ Tryz.func30 hst 13 [(0,vI n)] (fun ac H_=>?_)
 refine gq H_ 0 [[0]] [_] (fun E1=>[(2,vP (pb E1 0) 0)]) (W:=[{ i:=0,T:=27,c0:=[vI 0,.int .u64 0] }]) (s:=(al_ 0)) (k:=fun E1 ac wd H_=>?_)
 refine gq H_ 9 (tri 6++[[0,1,2,3,4,6],[7],r_ 6++[7,8],r_ 10]) [_,_,_,_,_,_,_,_,none,_] (fun E2=>[(3,vP (pb E2 7) 0)]) (W:=[{ i:=7,T:=27,c0:=[vI 0,.int .u64 0],s:=some 8,c1:=fun _=>[vI (hi (n*1000000000000000000)),.int .u64 (lo (n*1000000000000000000))] }]) (s:=⟨mv3,cl3 Tryz.func31 ((of_any n (by omega) (by omega))),cl3 Tryz.func31 ((of_any 1000000000000000000 (by omega) (by omega))),cl3 Tryz.func68 (((wmul_any n 1000000000000000000 (by unfold InW;omega) (by unfold InW;omega)).eq (fit_tup (by unfold InW;omega)))),mv3,xt3,xt3,al_ 1,sw3 1 7 sh27,mv3⟩) (k:=fun E2 ac wd H_=>?_)
 refine gq H_ 1 [[0],[0,1]] [_,none] (fun _=>[]) (S:=[⟨0,1,fun _=>[vI (hi (n*1000000000000000000)),.int .u64 (lo (n*1000000000000000000))]⟩]) (s:=⟨ld3b 1 sh27,se3 0 sh27⟩) (k:=fun E3 ac wd H_=>?_)
 refine lvC3 (v:=vW (n*1000000000000000000)) Tryz.results30 H_ 0 (loadGc sh27 rfl ⟨rfl,rfl,trivial⟩) ?_
 exact ⟨rfl,H_.st.below⟩
theorem formB_iff {s a:Int}:formB s a=true↔0≤s∧s≤86400∧0≤a∧a < 1000000000000000000:=by simp [formB,wthn];omega
theorem xcount_any (d s a:Int):Ret 10 #[vL d s a] (vT2 (vW (ucV d s a)) (vI (ucE d s a))):=by
 intro w0
 have hst:=St.start w0 (Θ:=fun _=>True) (fun _ _=>trivial)
 refine en_ Tryz.func10 hst 33 [(0,vL d s a)] (fun ac H_=>?_)
 refine gq H_ 2 [[0],[1],[2]] [_,_,_] (fun E1=>[(1,vP (pb E1 0) 0),(2,vP (pb E1 1) 0)]) (W:=[{ i:=0,T:=39,c0:=[vI d,vI s,vI a] },{ i:=1,T:=27,c0:=[vI 0,.int .u64 0] }]) (s:=⟨bx3 0,al_ 1,mv3⟩) (k:=fun E1 ac wd H_=>?_)
 cases hf:formB s a
 refine gq1 H_ 3 (tri 4) [_,_,bT,_] (fun _=>[(4,bT)]) (s:=⟨ld3c 0 sh39,cl3 Tryz.func28 (((xform_any d s a).eq (congrArg Value.bool hf))),un3,mv3⟩) (k:=fun E2 ac wd H_=>?_)
 refine cT3 H_ ?_
 refine gq H_ 2 (tri 3) [K_ (.agg #[vI 0,.int .u64 0]),none,_] (fun _=>[(3,vI 1)]) (S:=[⟨1,1,fun _=>[vI 0,.int .u64 0]⟩]) (s:=⟨bd30,se3 1 sh27,mv3⟩) (k:=fun E3 ac wd H_=>?_)
 refine lvCT3 (v:=.agg #[vI 0,.int .u64 0]) Tryz.results10 H_ 1 (loadGc sh27 rfl ⟨rfl,rfl,trivial⟩) ?_
 skip
 have e1:ucE d s a=1:=by unfold ucE;rw [hf];rfl
 have e2:ucV d s a=0:=by unfold ucV;rw [e1,if_neg (by omega)]
 exact ⟨by rw [e1,e2,vW,hi_zero,lo_zero],H_.st.below⟩
 obtain ⟨q0,q1,q2,q3⟩:=formB_iff.1 hf
 refine gq1 H_ 3 (tri 4) [_,_,bF,_] (fun _=>[(4,bF)]) (s:=⟨ld3c 0 sh39,cl3 Tryz.func28 (((xform_any d s a).eq (congrArg Value.bool hf))),un3,mv3⟩) (k:=fun E2 ac wd H_=>?_)
 refine cF3 H_ ?_
 by_cases g0:d < -1099511627776
 refine gq1 H_ 8 (tri 9) [_,_,bT,_,_,_,_,bT,_] (fun _=>[(9,bT)]) (s:=⟨fa3 0,ld31 0 sh3,bi3 (h:=by intro env w;simp [go_sem,g0]),mv3,off_,off_,off_,pk3,mv3⟩) (k:=fun E3 ac wd H_=>?_)
 refine cT3 H_ ?_
 refine gq H_ 2 (tri 3) [K_ (.agg #[vI 0,.int .u64 0]),none,_] (fun _=>[(3,vI 2)]) (S:=[⟨1,1,fun _=>[vI 0,.int .u64 0]⟩]) (s:=⟨bd30,se3 1 sh27,mv3⟩) (k:=fun E4 ac wd H_=>?_)
 refine lvCT3 (v:=.agg #[vI 0,.int .u64 0]) Tryz.results10 H_ 1 (loadGc sh27 rfl ⟨rfl,rfl,trivial⟩) ?_
 have hw:wthn d (-1099511627776) 1099511627776=false:=wth_no.2 (by omega)
 have e1:ucE d s a=2:=by unfold ucE;rw [hf,hw];rfl
 have e2:ucV d s a=0:=by unfold ucV;rw [e1,if_neg (by omega)]
 exact ⟨by rw [e1,e2,vW,hi_zero,lo_zero],H_.st.below⟩
 by_cases g1:1099511627776 < d
 refine gq1 H_ 8 (tri 9) [_,_,bF,_,_,_,bT,bT,_] (fun _=>[(9,bT)]) (s:=⟨fa3 0,ld31 0 sh3,bi3 (h:=by intro env w;simp [go_sem,g0]),mv3,fa3 0,ld31 0 sh3,bi3 (h:=by intro env w;simp [go_sem,g1]),pk3 (h:=by intro env w;simp [go_sem,g1]),mv3⟩) (k:=fun E3 ac wd H_=>?_)
 refine cT3 H_ ?_
 refine gq H_ 2 (tri 3) [K_ (.agg #[vI 0,.int .u64 0]),none,_] (fun _=>[(3,vI 2)]) (S:=[⟨1,1,fun _=>[vI 0,.int .u64 0]⟩]) (s:=⟨bd30,se3 1 sh27,mv3⟩) (k:=fun E4 ac wd H_=>?_)
 refine lvCT3 (v:=.agg #[vI 0,.int .u64 0]) Tryz.results10 H_ 1 (loadGc sh27 rfl ⟨rfl,rfl,trivial⟩) ?_
 have hw:wthn d (-1099511627776) 1099511627776=false:=wth_no.2 (by omega)
 have e1:ucE d s a=2:=by unfold ucE;rw [hf,hw];rfl
 have e2:ucV d s a=0:=by unfold ucV;rw [e1,if_neg (by omega)]
 exact ⟨by rw [e1,e2,vW,hi_zero,lo_zero],H_.st.below⟩
 refine gq1 H_ 8 (tri 9) [_,_,bF,_,_,_,bF,bF,_] (fun _=>[(9,bF)]) (s:=⟨fa3 0,ld31 0 sh3,bi3 (h:=by intro env w;simp [go_sem,g0]),mv3,fa3 0,ld31 0 sh3,bi3 (h:=by intro env w;simp [go_sem,g1]),pk3 (h:=by intro env w;simp [go_sem,g1]),mv3⟩) (k:=fun E3 ac wd H_=>?_)
 refine cF3 H_ ?_
 refine gq H_ 15 (tri 4++[[4],[4,5],r_ 7,r_ 8,[8],[8,9],r_ 11,r_ 12,r_ 13,r_ 12++[13],r_ 15,r_ 16]) [_,_,vI (d-40587),vI ((d-40587)*86400),_,_,vI (((d-40587)*86400)+s),_,_,_,_,_,_,_,none,_] (fun _=>[(3,vI 0)]) (S:=[⟨1,14,fun _=>[vI (hi (((((d-40587)*86400)+s)*1000000000000000000)+a)),.int .u64 (lo (((((d-40587)*86400)+s)*1000000000000000000)+a))]⟩]) (s:=⟨fa3 0,ld31 0 sh3,bi3,bi3,fa3 1,ld31 0 sh3,bi3,cl3 Tryz.func30 ((xsecs_any (((d-40587)*86400)+s) (by omega) (by omega))),fa3 2,ld31 0 sh3,cl3 Tryz.func31 ((of_any a (by omega) (by omega))),cl3 Tryz.func29 ((Ret.eq (wadd_any ((((d-40587)*86400)+s)*1000000000000000000) a (by unfold InW;omega) (by unfold InW;omega)) (fit_tup (by unfold InW;omega)))),xt3,xt3,se3 1 sh27,mv3⟩) (k:=fun E4 ac wd H_=>?_)
 refine lvCT3 (v:=vW (((((d-40587)*86400)+s)*1000000000000000000)+a)) Tryz.results10 H_ 1 (loadGc sh27 rfl ⟨rfl,rfl,trivial⟩) ?_
 have hw:wthn d (-1099511627776) 1099511627776=true:=wth_iff.2 (by omega)
 have e1:ucE d s a=0:=by unfold ucE;rw [hf,hw];rfl
 have e2:ucV d s a=((((d-40587)*86400)+s)*1000000000000000000)+a:=by unfold ucV jn;rw [if_pos e1];omega
 exact ⟨by rw [e1,e2],H_.st.below⟩
end Go.Proofs.YtailjojebdmnnaaGreat
namespace Go.Proofs.YtailjojebdmnnaaGreat
open Go.RowKit
abbrev leE:List TypeId:=[44,104]
abbrev cE:List TypeId:=[44,104,81,109,113]
section
variable {w w':World} {l c g:Nat} {b:Value} {u x:Int} {es:List (Int × Int)}
theorem IsLx.cellT (h:IsLx w g u x es):∃ cur,w.heap[g]? = some (Obj.cells cur 78 (0,0)):=by
 obtain ⟨q,_,ge,d,mv,_,hb,_⟩:=h
 unfold Blk at hb
 exact ⟨_,hb⟩
theorem IsLx.keepE (h:IsLx w g u x es) (hg:w'.heap[g]? = w.heap[g]?) (hk:KeepT leE none w w'):IsLx w' g u x es:=by
  obtain ⟨q,hok,ge,d,mv,hne,hb,he,hm⟩:=h
  unfold Blk at hb he
  refine ⟨q,hok,ge,d,mv,hne,by unfold Blk;rw [hg];exact hb,by unfold Blk;rw [hk ge _ _ _ he rfl (by simp)];exact he,?_⟩
  rcases hm with hm | ⟨hd,hm⟩
  · exact .inl hm
  · exact .inr ⟨hd,ownsRow_keep hm (fun b cur hb'=>hk b _ _ _ hb' rfl (by simp))⟩
theorem cE_le:∀ T,leE.contains T=true→cE.contains T=true:=by
  intro T h
  simp only [leE,cE,List.contains_cons,Bool.or_eq_true] at *
  rcases h with h | h | h
  · exact .inl h
  · exact .inr (.inl h)
  · cases h
theorem cE_r:∀ T,([109,113]:List TypeId).contains T=true→cE.contains T=true:=by
  intro T h
  simp only [cE,List.contains_cons,Bool.or_eq_true] at *
  rcases h with h | h | h
  · exact .inr (.inr (.inr (.inl h)))
  · exact .inr (.inr (.inr (.inr (.inl h))))
  · cases h
theorem KeepT.ex {Ts:List TypeId} {ex:Option Nat} (h:KeepT Ts none w w'):KeepT Ts ex w w':=fun b cur T fz h1 h2 _=>h b cur T fz h1 h2 (by simp)
theorem IsC.keepE (h:IsC w c g b u x es) (hg:w'.heap[g]? = w.heap[g]?) (hk:KeepT cE none w w'):IsC w' c g b u x es:=by
 obtain ⟨h1,h2,h3,h4,h5⟩:=h
 unfold Blk at h2
 refine ⟨h1,?_,h3.keepE hg (hk.mono cE_le),fun ho=>(h4 ho).keep (hk.mono cE_r).ex,h5⟩
 unfold Blk
 rw [hk c _ _ _ h2 rfl (by simp)]
 exact h2
theorem KeepT.other (h:IsLx w l u x es) (hg:w.grownBy w' (some l)):KeepT cE none w w':=fun b cur T fz h1 h2 _=>hg.block b (lt_of_some h1) (fun e=>by
 obtain rfl:=Option.some.inj e
 obtain ⟨cur',h3⟩:=h.cellT
 rw [h3] at h1
 simp only [Option.some.injEq,Obj.cells.injEq] at h1
 obtain ⟨_,rfl,_⟩:=h1
 exact absurd h2 (by decide))
def Is2 (B:Nat) (w:World) (l c g:Nat) (b:Value) (u x:Int) (es:List (Int × Int)):Prop:=IsLx w l u x es∧IsC w c g b u x es∧l≠g∧B≤l∧B≤g
variable {B:Nat}
theorem Is2.keepT (h:Is2 B w l c g b u x es) (hk:KeepT cT none w w'):Is2 B w' l c g b u x es:=by
 obtain ⟨h1,h2,h3⟩:=h
 obtain ⟨k1,e1⟩:=h1.cellT
 obtain ⟨k2,e2⟩:=h2.lx.cellT
 exact ⟨h1.keepT (hk _ _ _ _ e1 rfl (by simp)) (hk.mono cT_le).ex,h2.keepT (hk _ _ _ _ e2 rfl (by simp)) hk.ex,h3⟩
theorem LeapC.two {P:Program} {f:FuncId} {vs:List Value} {v:Value} (h2:Is2 B w l c g b u x es) (h:LeapC P f vs w l u x es v):Calls P f vs.toArray w fun e w'=>e = .returned v∧Is2 B w' l c g b u x es∧w.grownBy w' (some l):=
 h.mono (fun e w' h=>⟨h.1,⟨h.2.1,h2.2.1.keepE (h.2.2.block g h2.2.1.lt (fun e=>h2.2.2.1 (Option.some.inj e).symm)) (KeepT.other h2.1 h.2.2),h2.2.2⟩,h.2.2⟩)
theorem ClkC.two {P:Program} {f:FuncId} {vs:List Value} {v:Value} (h2:Is2 B w l c g b u x es) (h:ClkC P f vs w c g b u x es v):Calls P f vs.toArray w fun e w'=>e = .returned v∧Is2 B w' l c g b u x es∧w.grownBy w' (some g):=
 h.mono (fun e w' h=>⟨h.1,⟨h2.1.keepE (h.2.2.block l h2.1.lt (fun e=>h2.2.2.1 (Option.some.inj e))) ((KeepT.other h2.2.1.lx h.2.2).mono cE_le),h.2.1,h2.2.2⟩,h.2.2⟩)
end
section
variable {R:Reg} {Q:Exit→Act→World→Prop} {i:Nat} {o:Oper} {P:Program}
theorem s_two {V:Env→Value} {f:FuncId} {fn:Func} {ps:Array Operand} {ts:Array TypeId} (hfn:P.funcs[f]? = some fn) {gx B l c g:Nat} {b:Value} {u x:Int} {es:List (Int × Int)} (hΘ:∀ w,R.Θ w→Is2 B w l c g b u x es) (hΘ':∀ w,Is2 B w l c g b u x es→R.Θ w) (ho:R.ops[i]? = some o:=by rfl) (hf:free' R i=true:=by rfl) (hop:o.op = .call { callee:=.value (.func f),args:=ps,argTypes:=ts }:=by rfl) (hname:(fn.name == "runtime.NumGoroutine")=false:=by kernel_rfl) (hb:fn.body.isSome=true:=by rfl) (hV:R.v? i=some V:=by rfl)
    (hw:∀ D env a w,At R i D env a w→Region.wanted o (yielded R.ops a.tmps)=true:=by intro D env a w hA;first | exact wanted_none rfl _ | exact hA.gy rfl rfl rfl) (hx:R.ex=some gx:=by rfl) (hth:R.th=none:=by rfl) (hT:tFree cT R=true:=by rfl) (hn:noF R i=true:=by rfl) (hr:∀ env x,V (restr (R.cl.getD i []) (upd env i x))=V env:=by intros;rfl)
    (h:∀ D env a w,At R i D env a w→Is2 B w l c g b u x es→∃ vs:List Value,(Calls P f vs.toArray w fun e w'=>e = .returned (V env)∧Is2 B w' l c g b u x es∧w.grownBy w' (some gx))∧ps.toList.map (opAt R i env)=vs.map some):SR P Q R i:=
  s_callx ho hf hop hfn hname hb (fun {D env a w} hA=>by
    have hL:Is2 B w l c g b u x es:=hΘ w (by have:=hA.j.st.nowT;unfold Reg.tht at this;rw [hth] at this;exact this)
    obtain ⟨vs,h1,h2⟩:=h D env a w hA hL
    refine ⟨hw _ _ _ _ hA,vs.toArray,hA.args h2,h1.mono ?_⟩
    rintro e w' ⟨rfl,hL',hg⟩
    refine ⟨_,rfl,?_,fun w'' _=>f_val hA.ok ho hV hn hr _ w''⟩
    refine hA.j.st.callg hx hg (fun w'' ha=>?_)
    have hst':=hA.j.st.callg hx hg (Θ':=fun _=>True) (fun _ _=>trivial)
    unfold Reg.tht
    rw [hth]
    have hk:=apart_keepT (Ts:=cT) hT hst' (.inr rfl) ha
    refine hΘ' w'' (hL'.keepT (fun k cur T fz e1 e2 _=>?_))
    by_cases hkx:k=gx
    · subst hkx
      obtain ⟨k1,k2,_⟩:=hst'.exb k hx
      exact ha.2 k k1 (fun m e hm=>k2 m e hm) (by simp)
    · exact hk k cur T fz e1 e2 (by rw [hx];exact fun e=>hkx (Option.some.inj e).symm))
end
def NewC2 (w:World) (v:Value) (l:Nat) (u x:Int) (es:List (Int × Int)) (B:Nat):Prop:=∃ g b,NewC w v g b u x es B∧l≠g
theorem NewC2.form {w:World} {v:Value} {l:Nat} {u x:Int} {es:List (Int × Int)} {B:Nat} (h:NewC2 w v l u x es B):v=newLF v:=by obtain ⟨g,b,⟨h,_⟩,_⟩:=h;exact h
theorem NewC2.keep {w w':World} {v:Value} {l:Nat} {u x:Int} {es:List (Int × Int)} {B:Nat} (h:NewC2 w v l u x es B) (hk:KeepT cT none w w'):NewC2 w' v l u x es B:=by
 obtain ⟨g,b,⟨h1,h2,h3⟩,h4⟩:=h
 obtain ⟨k2,e2⟩:=h2.lx.cellT
 exact ⟨g,b,⟨h1,h2.keepT (hk _ _ _ _ e2 rfl (by simp)) hk.ex,h3⟩,h4⟩
theorem NewCx.two {P:Program} {f:FuncId} {args:Array Value} {w:World} {B l:Nat} {u x:Int} {es:List (Int × Int)} (hB:B≤w.heap.size) (hl:l < w.heap.size) (h:Calls P f args w fun e w'=>∃ v',e = .returned v'∧Below w.heap.size w w'∧NewCx w' v' u x es w.heap.size):Calls P f args w fun e w'=>∃ v',e = .returned v'∧Below w.heap.size w w'∧NewC2 w' v' l u x es B:=
 h.mono (fun e w' ⟨v',h1,h2,g,b,h3,h4,h5⟩=>⟨v',h1,h2,g,b,⟨h3,h4,Nat.le_trans hB h5⟩,by omega⟩)
theorem Cur.mapF2 {n:Nat} {w0:World} {row ex:Option Nat} {L0 L1:List (World→Prop)} {Θ:World→Prop} {L:Slots} {M:List Ent} {a:Act} {w:World} (h:Cur n w0 row ex (Facts L0) Θ L M a w) (hk:∀ w,Facts L0 w→Facts L1 w):Cur n w0 row ex (Facts L1) Θ L M a w:=
 ⟨h.sz,h.df,h.st.mono (fun w' hw=>hk w' hw) (fun _ h=>h),h.sl⟩
theorem Cur.exIn2 {n:Nat} {w0:World} {Θ:World→Prop} {L:Slots} {M:List Ent} {a:Act} {w:World} {v1 v2:Value} {u x:Int} {es:List (Int × Int)} {Fs:List (World→Prop)} (h:Cur n w0 none none (Facts Fs) Θ L M a w) (k1 k2:Nat) (hk1:Fs[k1]? = some (fun w=>NewL w v1 u x es w0.heap.size)) (hk2:Fs[k2]? = some (fun w=>NewC2 w v2 (ptrB (tp v1 0)) u x es w0.heap.size)):∃ g b,Cur n w0 none none (Facts []) (fun w=>Is2 w0.heap.size w (ptrB (tp v1 0)) (ptrB (tp v2 0)) g b u x es) L M a w:=by
  have hL:∀ w',Apart (mem M) none w w'→NewL w' v1 u x es w0.heap.size:=fun w' ha=>(h.st.psi w' ha).get k1 hk1
  obtain ⟨g',b',⟨_,hI',_⟩,hne⟩:=show NewC2 w v2 (ptrB (tp v1 0)) u x es w0.heap.size from h.st.now.get k2 hk2
  obtain ⟨g,b,hC⟩:=Cur.exInC (v:=v2) (Cur.mapF2 h (L1:=[fun w=>NewCx w v2 u x es w0.heap.size]) (fun w hF φ hφ=>by
    obtain rfl:=List.mem_singleton.1 hφ
    obtain ⟨g,b,h1,_⟩:=show NewC2 w v2 (ptrB (tp v1 0)) u x es w0.heap.size from hF.get k2 hk2
    exact ⟨g,b,h1⟩)) 0 rfl
  have hg:g'=g:=by
    have e1:=hI'.2.1
    have e2:=(hC.st.nowT).2.1
    unfold Blk at e1 e2
    rw [e1] at e2
    simp at e2
    exact e2.1
  subst hg
  have hBg:w0.heap.size≤g':=((hC.st.exb g' rfl).2.2).resolve_right (fun e=>by cases e)
  exact ⟨g',b,h.sz,h.df,⟨h.st.gr,h.st.nod,h.st.own,fun _ e=>(by cases e),fun _ _ φ hφ=>(by cases hφ),fun w' ha=>⟨(hL w' ha).2.1,hC.st.the w' ha,hne,(hL w' ha).2.2,hBg⟩⟩,h.sl⟩
theorem Cur.turn2 {n:Nat} {w0:World} {ex:Option Nat} {Θ:World→Prop} {L:Slots} {M:List Ent} {a:Act} {w:World} {Fs:List (World→Prop)} {gx:Nat} {u x:Int} {es:List (Int × Int)} (h:Cur n w0 none ex (Facts Fs) Θ L M a w) (hx:∀ w,Θ w→IsLx w gx u x es∧w0.heap.size≤gx):Cur n w0 none (some gx) (Facts []) Θ L M a w:=by
  have h0:=hx w h.st.nowT
  refine ⟨h.sz,h.df,⟨h.st.gr,h.st.nod,h.st.own,fun g' hg'=>?_,fun _ _ φ hφ=>(by cases hφ),h.st.the⟩,h.sl⟩
  obtain rfl:=Option.some.inj hg'
  refine ⟨h0.1.lt,fun m e hm he=>?_,.inl h0.2⟩
  have hlt:=h0.1.lt
  obtain ⟨cur,h3⟩:=(hx { w with heap:=w.heap.setIfInBounds gx (.map #[] 0) } (h.st.the _ ⟨by simp,fun k hk hM _=>by
    show (w.heap.setIfInBounds _ _)[k]? = _
    rw [Array.getElem?_setIfInBounds_ne (fun e'=>hM m e hm (by rw [he,e']))]⟩)).1.cellT
  rw [show ({ w with heap:=w.heap.setIfInBounds gx (.map #[] 0) }:World).heap=w.heap.setIfInBounds gx (.map #[] 0) from rfl,Array.getElem?_setIfInBounds_self_of_lt hlt] at h3
  cases h3
theorem Is2.l {B:Nat} {w:World} {l c g:Nat} {b:Value} {u x:Int} {es:List (Int × Int)} (h:Is2 B w l c g b u x es):IsLx w l u x es∧B≤l:=⟨h.1,h.2.2.2.1⟩
theorem Is2.g {B:Nat} {w:World} {l c g:Nat} {b:Value} {u x:Int} {es:List (Int × Int)} (h:Is2 B w l c g b u x es):IsLx w g u x es∧B≤g:=⟨h.2.1.lx,h.2.2.2.2⟩
end Go.Proofs.YtailjojebdmnnaaGreat
namespace Go.Proofs.YtailjojebdmnnaaGreat
open Go.RowKit
def smD (es:List (Int × Int)) (i:Nat):Int:=dayOf (es.getD i (0,0))
def smO (es:List (Int × Int)) (i:Nat):Int:=(es.getD i (0,0)).2
def smS (es:List (Int × Int)) (i:Nat):Int:=(smD es i-1)*86400+43200+smO es (i-1)
def smE (es:List (Int × Int)) (i:Nat):Int:=smD es i*86400+43200+smO es i
def smB (es:List (Int × Int)) (i:Nat):Int:=(smD es i-1)*86400+43200-3506716800
def smL (es:List (Int × Int)) (i:Nat):Int:=86400+smO es i-smO es (i-1)
def smM (es:List (Int × Int)) (z:Int):Nat→Nat
  | 0=>0
  | i+1=>if 0 < i∧smS es i*1000000000000000000≤z then i else smM es z i
def smI (es:List (Int × Int)) (z:Int) (m:Nat):Bool:=decide (0 < m) && decide (z < smE es m*1000000000000000000)
def smV (es:List (Int × Int)) (z:Int) (m:Nat):Int:=if smI es z m=true then smB es m*1000000000000000000+(z-smS es m*1000000000000000000)*86400 / smL es m else z-(3506716800+smO es m)*1000000000000000000
def softZ (es:List (Int × Int)) (z:Int):Int:=smV es z (smM es z es.length)
theorem smM_spec (es:List (Int × Int)) (z:Int):∀ n,(smM es z n=0∨(0 < smM es z n∧smM es z n < n∧smS es (smM es z n)*1000000000000000000≤z))∧∀ j,smM es z n < j→j < n→z < smS es j*1000000000000000000
  | 0=>⟨.inl rfl,fun j _ h=>by omega⟩
  | n+1=>by
    obtain ⟨h1,h2⟩:=smM_spec es z n
    unfold smM
    split
    · rename_i h
      exact ⟨.inr ⟨h.1,by omega,h.2⟩,fun j h3 h4=>by omega⟩
    · rename_i h
      refine ⟨?_,fun j h3 h4=>?_⟩
      · rcases h1 with h1 | ⟨a1,a2,a3⟩
        · exact .inl h1
        · exact .inr ⟨a1,by omega,a3⟩
      · by_cases hj:j < n
        · exact h2 j h3 hj
        · obtain rfl:j=n:=by omega
          exact Int.not_le.1 fun hle=>h ⟨by omega,hle⟩
section
variable {es:List (Int × Int)} (hp:okPre es es.length=true)
include hp
theorem sm_step {i:Nat} (hi:i+1 < es.length):smD es i+1≤smD es (i+1)∧(smO es (i+1)=smO es i+1∨smO es (i+1)=smO es i-1):=by
 have h1:=(day_step hp hi).1
 have h2:=off_step hp hi
 exact ⟨by unfold smD;omega,h2⟩
theorem smL_cases {m:Nat} (h0:0 < m) (hm:m < es.length):(smL es m=86399∨smL es m=86401)∧smE es m-smS es m=smL es m:=by
 obtain ⟨k,rfl⟩:∃ k,m=k+1:=⟨m-1,by omega⟩
 have:=(sm_step hp hm).2
 unfold smL smE smS
 rw [Nat.add_sub_cancel]
 omega
theorem smB_mono {i j:Nat} (hij:i < j) (hj:j < es.length):smB es i+86400≤smB es j:=by
 have h:=(day_mono hp i (j-i) (by omega)).1
 rw [show i+(j-i)=j by omega] at h
 unfold smB smD
 omega
theorem smV_ge {z:Int} {m:Nat} (h0:0 < m) (hm:m < es.length) (hs:smS es m*1000000000000000000≤z):smB es m*1000000000000000000≤smV es z m∧(smI es z m=false→(smB es m+86400)*1000000000000000000≤smV es z m)∧(smI es z m=true→smV es z m < (smB es m+86400)*1000000000000000000):=by
  obtain ⟨h5,h6⟩:=smL_cases hp h0 hm
  unfold smV
  cases hI:smI es z m
  · simp only [Bool.false_eq_true,if_false]
    unfold smI at hI
    simp only [Bool.and_eq_false_iff,decide_eq_false_iff_not] at hI
    have h7:smE es m*1000000000000000000≤z:=by rcases hI with h | h <;> omega
    unfold smE at h7
    unfold smB
    refine ⟨by omega,(fun _=>by omega),fun h=>by cases h⟩
  · simp only [if_true]
    unfold smI at hI
    simp only [Bool.and_eq_true,decide_eq_true_eq] at hI
    obtain ⟨_,h4⟩:=hI
    refine ⟨?_,(fun h=>by cases h),fun _=>?_⟩
    · rcases h5 with h5 | h5 <;> rw [h5] at h6 ⊢ <;> omega
    · rcases h5 with h5 | h5 <;> rw [h5] at h6 ⊢ <;> omega
end
end Go.Proofs.YtailjojebdmnnaaGreat
namespace Go.Proofs.YtailjojebdmnnaaGreat
open Go.RowKit
def hdM (es:List (Int × Int)) (y:Int):Nat→Nat
  | 0=>0
  | i+1=>if 0 < i∧smB es i*1000000000000000000≤y then i else hdM es y i
def hdI (es:List (Int × Int)) (y:Int) (m:Nat):Bool:=decide (0 < m) && decide (y < (smB es m+86400)*1000000000000000000)
def cdiv (a b:Int):Int:=if a % b=0 then a / b else a / b+1
def hdV (es:List (Int × Int)) (y:Int) (m:Nat):Int:=if hdI es y m=true then smS es m*1000000000000000000+cdiv ((y-smB es m*1000000000000000000)*smL es m) 86400 else y+(3506716800+offV es (y / 1000000000000000000 / 86400+40587))*1000000000000000000
def hardZ (es:List (Int × Int)) (y:Int):Int:=hdV es y (hdM es y es.length)
section
variable {es:List (Int × Int)} (hp:okPre es es.length=true) (hn:0 < es.length)
include hp hn
end
end Go.Proofs.YtailjojebdmnnaaGreat
namespace Go.Proofs.YtailjojebdmnnaaGreat
open Go.RowKit
def winB (es:List (Int × Int)) (z:Int) (i:Nat):Bool:=decide (smS es i*1000000000000000000≤z) && decide (z < smE es i*1000000000000000000)
def wsmB (es:List (Int × Int)) (y:Int) (i:Nat):Bool:=decide (smB es i*1000000000000000000≤y) && decide (y < (smB es i+86400)*1000000000000000000)
theorem hdM_spec (es:List (Int × Int)) (y:Int):∀ n,(hdM es y n=0∨(0 < hdM es y n∧hdM es y n < n∧smB es (hdM es y n)*1000000000000000000≤y))∧∀ j,hdM es y n < j→j < n→y < smB es j*1000000000000000000
  | 0=>⟨.inl rfl,fun j _ h=>by omega⟩
  | n+1=>by
    obtain ⟨h1,h2⟩:=hdM_spec es y n
    unfold hdM
    split
    · rename_i h
      exact ⟨.inr ⟨h.1,by omega,h.2⟩,fun j h3 h4=>by omega⟩
    · rename_i h
      refine ⟨?_,fun j h3 h4=>?_⟩
      · rcases h1 with h1 | ⟨a1,a2,a3⟩
        · exact .inl h1
        · exact .inr ⟨a1,by omega,a3⟩
      · by_cases hj:j < n
        · exact h2 j h3 hj
        · obtain rfl:j=n:=by omega
          exact Int.not_le.1 fun hle=>h ⟨by omega,hle⟩
section
variable {es:List (Int × Int)} (hp:okPre es es.length=true)
include hp
theorem sm_apart {i j:Nat} (hi:0 < i) (hij:i < j) (hj:j < es.length):smE es i≤smS es j:=by
  have hd:=(day_mono hp i (j-1-i) (by omega)).1
  rw [show i+(j-1-i)=j-1 by omega] at hd
  have h1:=sm_step hp (i:=j-1) (by omega)
  rw [show j-1+1=j by omega] at h1
  have h2:=smB_mono hp hij hj
  have ho:∀ d,i+d < es.length→smO es i≤smO es (i+d)+d:=fun d=>by
    induction d with
    | zero=>intro _;simp
    | succ d ih =>
      intro h
      have:=ih (by omega)
      have:=(sm_step hp (i:=i+d) (by omega)).2
      rw [show i+d+1=i+(d+1) by omega] at this
      omega
  have h3:=ho (j-1-i) (by omega)
  rw [show i+(j-1-i)=j-1 by omega] at h3
  have hm:=(day_mono hp i (j-i) (by omega)).1
  rw [show i+(j-i)=j by omega] at hm
  unfold smE smS smD
  unfold smD at h1
  omega
theorem win_is {z:Int} {i:Nat} (h0:0 < i) (hi:i < es.length):winB es z i=true↔i=smM es z es.length∧smI es z (smM es z es.length)=true:=by
  obtain ⟨a1,a2⟩:=smM_spec es z es.length
  generalize smM es z es.length=m at *
  unfold winB smI
  simp only [Bool.and_eq_true,decide_eq_true_eq]
  constructor
  · rintro ⟨h1,h2⟩
    have hle:i≤m:=Nat.le_of_not_lt fun h=>by have:=a2 i h hi;omega
    obtain ⟨a3,a4,a5⟩:=a1.resolve_left (by omega)
    by_cases he:i=m
    · subst he;exact ⟨rfl,h0,h2⟩
    · have:=sm_apart hp h0 (by omega:i < m) a4
      omega
  · rintro ⟨rfl,h1,h2⟩
    obtain ⟨a3,a4,a5⟩:=a1.resolve_left (by omega)
    exact ⟨a5,h2⟩
theorem wsm_is {y:Int} {i:Nat} (h0:0 < i) (hi:i < es.length):wsmB es y i=true↔i=hdM es y es.length∧hdI es y (hdM es y es.length)=true:=by
  obtain ⟨a1,a2⟩:=hdM_spec es y es.length
  generalize hdM es y es.length=m at *
  unfold wsmB hdI
  simp only [Bool.and_eq_true,decide_eq_true_eq]
  constructor
  · rintro ⟨h1,h2⟩
    have hle:i≤m:=Nat.le_of_not_lt fun h=>by have:=a2 i h hi;omega
    obtain ⟨a3,a4,a5⟩:=a1.resolve_left (by omega)
    by_cases he:i=m
    · subst he;exact ⟨rfl,h0,h2⟩
    · have:=smB_mono hp (by omega:i < m) a4
      omega
  · rintro ⟨rfl,h1,h2⟩
    obtain ⟨a3,a4,a5⟩:=a1.resolve_left (by omega)
    exact ⟨a5,h2⟩
theorem soft_at (hn:0 < es.length) {z:Int} (hz:(smD es 0*86400+smO es 0)*1000000000000000000≤z) (hI:smI es z (smM es z es.length)=false):cnt startOf es (z / 1000000000000000000)=smM es z es.length+1∧atV es (z / 1000000000000000000)=smO es (smM es z es.length):=by
  obtain ⟨a1,a2⟩:=smM_spec es z es.length
  generalize smM es z es.length=m at *
  have hm:m < es.length:=by rcases a1 with h | h <;> omega
  have hst:∀ i,startOf (es.getD i (0,0))=smD es i*86400+smO es i:=fun i=>rfl
  have hc:cnt startOf es (z / 1000000000000000000)=m+1:=by
    refine cnt_isS hp _ (by omega) (fun _=>?_) (fun h=>?_)
    · rw [Nat.add_sub_cancel,hst]
      by_cases h0:0 < m
      · obtain ⟨a3,a4,a5⟩:=a1.resolve_left (by omega)
        unfold smI at hI
        simp only [Bool.and_eq_false_iff,decide_eq_false_iff_not] at hI
        have:smE es m*1000000000000000000≤z:=by rcases hI with h | h <;> omega
        unfold smE at this
        omega
      · obtain rfl:m=0:=by omega
        omega
    · have h1:=a2 (m+1) (by omega) h
      have h2:=sm_step hp h
      rw [hst]
      unfold smS at h1
      rw [Nat.add_sub_cancel] at h1
      omega
  refine ⟨hc,?_⟩
  unfold atV
  rw [hc,if_neg (by omega),Nat.add_sub_cancel]
  rfl
end
end Go.Proofs.YtailjojebdmnnaaGreat
namespace Go.Proofs.YtailjojebdmnnaaGreat
open Go.RowKit
section
variable {es:List (Int × Int)} (hp:okPre es es.length=true) (hn:0 < es.length)
include hp hn
end
end Go.Proofs.YtailjojebdmnnaaGreat
namespace Go.Proofs.YtailjojebdmnnaaGreat
open Go.RowKit
theorem near_law {es:List (Int × Int)} (hp:okPre es es.length=true) (hn:0 < es.length) {z d s a:Int} (hw:whyU es d s a=0) (hz:taiU es d s a=z) :
    (smI es z (smM es z es.length)=false→softZ es z=jn d s a-jn 40587 0 0)∧softZ es z-(jn d s a-jn 40587 0 0)≤1000000000000000000 ∧ -1000000000000000000≤softZ es z-(jn d s a-jn 40587 0 0):=by
  obtain ⟨w0,w1,w2,w3,w4,w5,w6,w7⟩:=whyU_ok hw
  have hc1:=(chgV_bd hp d).2
  obtain ⟨k,hk⟩:∃ k,cnt dayOf es d=k+1:=⟨cnt dayOf es d-1,by have:=day0_le hp hn d w6;omega⟩
  have hkl:k < es.length:=by have:=cnt_le dayOf es d;omega
  have hD1:smD es k≤d:=(cnt_day hp d hkl).2 (by omega)
  have hD2:k+1 < es.length→d < smD es (k+1):=fun h=>by
    have:=mt (cnt_day hp d h).1 (by omega)
    unfold smD;omega
  have hO:offV es d=smO es k:=by unfold offV;rw [hk,if_neg (by omega),Nat.add_sub_cancel];rfl
  have hZ:z=(d*86400+s+smO es k)*1000000000000000000+a:=by rw [← hz,← hO];unfold taiU;rw [if_pos hw]
  have hj:jn d s a-jn 40587 0 0=z-(3506716800+smO es k)*1000000000000000000:=by unfold jn;omega
  rw [hj]
  obtain ⟨a1,a2⟩:=smM_spec es z es.length
  unfold softZ
  generalize smM es z es.length=m at *
  have hm:m < es.length:=by rcases a1 with h | h <;> omega
  have hkm:k≤m:=by
    refine Nat.not_lt.1 fun hlt=>?_
    have h1:=a2 k hlt hkl
    have h2:=sm_step hp (i:=k-1) (by omega)
    rw [show k-1+1=k by omega] at h2
    have h3:smS es k=(smD es k-1)*86400+43200+smO es (k-1):=rfl
    omega
  by_cases hkm2:k=m
  · subst hkm2
    cases hI:smI es z k
    · have h1:smV es z k=z-(3506716800+smO es k)*1000000000000000000:=by unfold smV;rw [hI];rfl
      rw [h1]
      exact ⟨fun _=>rfl,by omega,by omega⟩
    · have hI2:=hI
      unfold smI at hI2
      simp only [Bool.and_eq_true,decide_eq_true_eq] at hI2
      obtain ⟨a3,a4,a5⟩:=a1.resolve_left (by omega)
      obtain ⟨h5,h6⟩:=smL_cases hp a3 a4
      have h7:smL es k=86400+smO es k-smO es (k-1):=rfl
      have h8:smS es k=(smD es k-1)*86400+43200+smO es (k-1):=rfl
      have h9:smB es k=(smD es k-1)*86400+43200-3506716800:=rfl
      have h1:smV es z k=smB es k*1000000000000000000+(z-smS es k*1000000000000000000)*86400 / smL es k:=by unfold smV;rw [if_pos hI]
      rw [h1]
      refine ⟨fun h=>(by cases h),?_⟩
      rcases h5 with h5 | h5 <;> rw [h5] at h6 h7 ⊢ <;> omega
  ·
    obtain ⟨a3,a4,a5⟩:=a1.resolve_left (by omega)
    have h2:=hD2 (by omega)
    have h8:smS es m=(smD es m-1)*86400+43200+smO es (m-1):=rfl
    have hk1:k+1=m:=by
      refine Nat.le_antisymm (by omega) (Nat.not_lt.1 fun hlt=>?_)
      have h3:=sm_apart hp (i:=k+1) (j:=m) (by omega) hlt a4
      have h4:smE es (k+1)=smD es (k+1)*86400+43200+smO es (k+1):=rfl
      have h5:=(sm_step hp (i:=k) (by omega)).2
      omega
    subst hk1
    rw [Nat.add_sub_cancel] at h8
    obtain ⟨h5,h6⟩:=smL_cases hp a3 a4
    have h7:smL es (k+1)=86400+smO es (k+1)-smO es k:=rfl
    have h9:smB es (k+1)=(smD es (k+1)-1)*86400+43200-3506716800:=rfl
    have h10:smE es (k+1)=smD es (k+1)*86400+43200+smO es (k+1):=rfl
    have hI:smI es z (k+1)=true:=by
      unfold smI
      simp only [Bool.and_eq_true,decide_eq_true_eq]
      exact ⟨a3,by rcases h5 with h5 | h5 <;> omega⟩
    have h1:smV es z (k+1)=smB es (k+1)*1000000000000000000+(z-smS es (k+1)*1000000000000000000)*86400 / smL es (k+1):=by unfold smV;rw [if_pos hI]
    rw [h1]
    refine ⟨fun h=>(by rw [hI] at h;cases h),?_⟩
    have h11:z-smS es (k+1)*1000000000000000000 < smL es (k+1)*1000000000000000000:=by
      unfold smI at hI
      simp only [Bool.and_eq_true,decide_eq_true_eq] at hI
      omega
    rcases h5 with h5 | h5 <;> rw [h5] at h6 h7 h11 ⊢ <;> omega
theorem near_clk {es:List (Int × Int)} (hp:okPre es es.length=true) (hn:0 < es.length) {x z e d s a:Int} (hq:lbl4 es x true z=(e,d,s,a)) (he:e=0) (hd:day0 es≤d) :
    0≤s∧s≤86400∧0≤a∧a < 1000000000000000000 ∧ -1099511627776≤d∧d≤1099511627776∧(smI es z (smM es z es.length)=false→softZ es z=jn d s a-jn 40587 0 0)∧softZ es z-(jn d s a-jn 40587 0 0)≤1000000000000000000 ∧ -1000000000000000000≤softZ es z-(jn d s a-jn 40587 0 0):=by
  subst he
  have h1:clb es z=(0,d,s,a):=by
    unfold lbl4 expB at hq
    simp only [Bool.not_true,Bool.false_and,Bool.false_eq_true,if_false] at hq
    split at hq
    · exact hq
    · rename_i h
      have:=congrArg (·.1) hq
      exact absurd this h
  obtain ⟨h2,h3⟩:=clk_forth hp hn (z:=z) (by rw [h1])
  rw [h1] at h2 h3
  have hR:useR es d=false:=by
    cases hR:useR es d
    · rfl
    · obtain ⟨g1,g2⟩:=useR_iff.1 hR
      have:=(oldB_iff.1 g1).1
      omega
  have h4:whyU es d s a=0:=by unfold ctE at h2;rw [hR] at h2;exact h2
  have h5:taiU es d s a=z:=by
    have h6:ctV es d s a=z:=h3.resolve_right (fun g=>by have:=(oldB_iff.1 g.1).1;have:d < 41317:=g.2.1;omega)
    unfold ctV at h6
    rw [hR] at h6
    exact h6
  obtain ⟨w0,w1,w2,w3,w4,w5,w6,w7⟩:=whyU_ok h4
  exact ⟨w0,w1,w2,w3,w4,w5,near_law hp hn h4 h5⟩
end Go.Proofs.YtailjojebdmnnaaGreat
