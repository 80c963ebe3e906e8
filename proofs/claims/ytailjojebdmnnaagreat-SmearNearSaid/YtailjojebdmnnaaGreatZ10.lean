/- Texts P17, L18, X0, U4, U5, Y1, P18, Y2, Y3, Y4 of one proof, one behind the other; what nothing here names is left out. -/
import Derived.Test.YtailjojebdmnnaaGreatZ9
import Derived.Test.YtailjojebdmnnaaGreatZ6
import Derived.Test.YtailjojebdmnnaaGreatZ3
import Derived.Test.YtailjojebdmnnaaGreatZ4
import Derived.IntWalk
import Derived.Test.YtailjojebdmnnaaGreatZ7
import Derived.Test.YtailjojebdmnnaaGreatZ8
set_option maxRecDepth 100000
set_option maxHeartbeats 8000000
set_option linter.unusedVariables false
set_option linter.unusedSimpArgs false
namespace Go.Proofs.YtailjojebdmnnaaGreat
open Go.RowKit
section
variable {es:List (Int × Int)} (h:okPre es es.length=true)
include h
end
end Go.Proofs.YtailjojebdmnnaaGreat
namespace Go.Proofs.YtailjojebdmnnaaGreat
open Go.RowKit
def enC (es:List (Int × Int)) (p:Nat):Value:=if p % 2=0 then vI (es.getD (p / 2) (0,0)).1 else vI (es.getD (p / 2) (0,0)).2
theorem enC_0 (es:List (Int × Int)) (j:Nat):enC es (j*2)=vI (es.getD j (0,0)).1:=by unfold enC;rw [if_pos (by omega),show j*2 / 2=j by omega]
theorem enC_1 (es:List (Int × Int)) (j:Nat):enC es (j*2+1)=vI (es.getD j (0,0)).2:=by unfold enC;rw [if_neg (by omega),show (j*2+1) / 2=j by omega]
theorem Ents.els {w:World} {B:Nat} {v:Value} {es:List (Int × Int)} (h:Ents w B v es):Els w v es.length 2 (enC es):=by
  obtain ⟨A,c,rfl,h1,h2,h3⟩:=h
  refine ⟨A,c,rfl,h1,?_⟩
  rcases Nat.eq_zero_or_pos es.length with h0 | h0
  · exact .inl h0
  · obtain ⟨b,off,hA,hb,hc⟩:=h3 h0
    refine .inr ⟨b,off,hA,fun i hi=>?_⟩
    have h5:=hc (i / 2) (by omega)
    rcases Nat.mod_two_eq_zero_or_one i with h6 | h6
    · rw [show off+i=off+i / 2*2 by omega,h5.1];unfold enC;rw [if_pos h6]
    · rw [show off+i=off+i / 2*2+1 by omega,h5.2];unfold enC;rw [if_neg (by omega)]
end Go.Proofs.YtailjojebdmnnaaGreat
namespace Go.Proofs.YtailjojebdmnnaaGreat
open Go.RowKit
attribute [local go_sem] vN bT bF rS vW vM vL vT2 vT3 vP vI execOp Act.eval evC bigF vB hi_zero lo_zero Tryz.underlying27 Tryz.underlying39
theorem xin_any (n:Int):Ret 84 #[vI n] (.bool (wthn n (-1099511627776) 1099511627776)):=by
 intro w0
 have hst:=St.start w0 (Θ:=fun _=>True) (fun _ _=>trivial)
 refine en_ Tryz.func84 hst 9 [(0,vI n)] (fun ac H_=>?_)
 refine gq0 H_ 0 [[0]] [_] (s:=mv3) (k:=fun E1 ac wd H_=>?_)
 by_cases h:-1099511627776≤n
 refine gq1 H_ 6 (tri 7) [_,bT,_,_,K_ (.bool (decide (n≤1099511627776))),K_ (.bool (decide (n≤1099511627776))),_] (fun _=>[(2,.bool (decide (n≤1099511627776)))]) (s:=⟨mv3,bi3 (h:=by intro env w;simp [go_sem,h]),mv3,gm3,bi3,pk3,mv3⟩) (k:=fun E2 ac wd H_=>?_)
 refine lvT3 Tryz.results84 H_ ?_
 exact ⟨by simp [wthn,h],H_.st.below⟩
 refine gq1 H_ 6 (tri 7) [_,bF,_,_,_,bF,_] (fun _=>[(2,bF)]) (s:=⟨mv3,bi3 (h:=by intro env w;simp [go_sem,h]),mv3,off_,off_,pk3,mv3⟩) (k:=fun E2 ac wd H_=>?_)
 refine lvT3 Tryz.results84 H_ ?_
 exact ⟨by simp [wthn,h],H_.st.below⟩
theorem wth_iff {n l u:Int}:wthn n l u=true↔l≤n∧n≤u:=by simp [wthn]
theorem wth_no {n l u:Int}:wthn n l u=false↔¬ (l≤n∧n≤u):=by rw [← wth_iff];simp
def dsV (z:Int):Int × Int × Int × Int:=if wthn (z / 1000000000000000000 / 86400) (-1099511627776) 1099511627776=true then (0,z / 1000000000000000000 / 86400,z / 1000000000000000000 % 86400,z % 1000000000000000000) else (2,0,0,0)
theorem dsplit_any (z:Int) (hz:InW z):Ret 55 #[vW z] (vT2 (vL ((dsV z).2.1) ((dsV z).2.2.1) ((dsV z).2.2.2)) (vI ((dsV z).1))):=by
 have hz2:=hz;unfold InW at hz2
 intro w0
 have hst:=St.start w0 (Θ:=fun _=>True) (fun _ _=>trivial)
 refine en_ Tryz.func55 hst 57 [(0,vW z)] (fun ac H_=>?_)
 refine gq H_ 2 [[0],[1],[2]] [_,_,_] (fun E1=>[(1,vP (pb E1 0) 0),(2,vP (pb E1 1) 0)]) (W:=[{ i:=0,T:=27,c0:=[vI (hi (z)),.int .u64 (lo (z))] },{ i:=1,T:=39,c0:=[vI 0,vI 0,vI 0] }]) (s:=⟨bx3 0,al_ 1,mv3⟩) (k:=fun E1 ac wd H_=>?_)
 cases hin:wthn (z / 1000000000000000000 / 86400) (-1099511627776) 1099511627776
 refine gq H_ 11 [[0],[1],[0,1,2],r_ 4,r_ 5,[0,1,2,3,5],[0,1,2,3,6],[7],[8],[0,1,2,3,4,7,8,9],r_ 6++[7,8,9,10],r_ 12] [_,_,_,_,_,_,_,_,_,none,none,_] (fun E2=>[(4,vP (pb E2 7) 0),(5,vP (pb E2 8) 0)]) (W:=[{ i:=7,T:=27,c0:=[vI 0,.int .u64 0],s:=some 9,c1:=fun _=>[vI (hi (z / 1000000000000000000)),.int .u64 (lo (z / 1000000000000000000))] },{ i:=8,T:=27,c0:=[vI 0,.int .u64 0],s:=some 10,c1:=fun _=>[vI (hi (z % 1000000000000000000)),.int .u64 (lo (z % 1000000000000000000))] }]) (s:=⟨ld3b 0 sh27,cl3 Tryz.func31 ((of_any 1000000000000000000 (by omega) (by omega))),cl3 Tryz.func82 ((wdiv_any z 1000000000000000000 (by unfold InW;omega) (by unfold InW;omega) (by omega))),mv3,xt3,xt3,xt3,al_ 2,al_ 3,sw3 2 7 sh27,sw3 3 8 sh27,mv3⟩) (k:=fun E2 ac wd H_=>?_)
 refine gq H_ 11 [[0],[1],[0,1,2],r_ 4,r_ 5,[0,1,2,3,5],[0,1,2,3,6],[7],[8],[0,1,2,3,4,7,8,9],r_ 6++[7,8,9,10],r_ 12] [_,_,_,_,_,_,_,_,_,none,none,_] (fun E3=>[(7,vP (pb E3 7) 0),(8,vP (pb E3 8) 0)]) (W:=[{ i:=7,T:=27,c0:=[vI 0,.int .u64 0],s:=some 9,c1:=fun _=>[vI (hi ((z / 1000000000000000000) / 86400)),.int .u64 (lo ((z / 1000000000000000000) / 86400))] },{ i:=8,T:=27,c0:=[vI 0,.int .u64 0],s:=some 10,c1:=fun _=>[vI (hi ((z / 1000000000000000000) % 86400)),.int .u64 (lo ((z / 1000000000000000000) % 86400))] }]) (s:=⟨ld3b 2 sh27,cl3 Tryz.func31 ((of_any 86400 (by omega) (by omega))),cl3 Tryz.func82 ((wdiv_any (z / 1000000000000000000) 86400 (by unfold InW;omega) (by unfold InW;omega) (by omega))),mv3,xt3,xt3,xt3,al_ 4,al_ 5,sw3 4 7 sh27,sw3 5 8 sh27,mv3⟩) (k:=fun E3 ac wd H_=>?_)
 refine gq1 H_ 6 (tri 4++[[0,1,2,4],[0,1,2,3,5],r_ 7]) [_,_,_,_,_,_,_] (fun _=>[(10,vI ((z / 1000000000000000000) / 86400)),(11,vI 0)]) (s:=⟨ld3b 4 sh27,cl3 Tryz.func83 ((wint_yes ((z / 1000000000000000000) / 86400) (by omega) (by omega))),mv3,xt3,xt3,mv3,mv3⟩) (k:=fun E4 ac wd H_=>?_)
 refine gq1 H_ 6 (tri 7) [_,bF,_,_,_,bT,bT] (fun _=>[(41,bT)]) (s:=⟨mv3,bi3 (h:=by intro env w;(first | (simp [go_sem];done) | (simp [go_sem];rfl))),mv3,gm3,cl3 Tryz.func84 (((xin_any ((z / 1000000000000000000) / 86400)).eq (congrArg Value.bool hin))),un3,pk3⟩) (k:=fun E5 ac wd H_=>?_)
 refine cT3 H_ ?_
 refine gq H_ 2 (tri 3) [vL 0 0 0,none,_] (fun _=>[(3,vI 2)]) (S:=[⟨1,1,fun _=>[vI 0,vI 0,vI 0]⟩]) (s:=⟨bd30,se3 1 sh39,mv3⟩) (k:=fun E6 ac wd H_=>?_)
 refine lvCT3 (v:=vL 0 0 0) Tryz.results55 H_ 1 (loadGc sh39 rfl ⟨rfl,rfl,rfl,trivial⟩) ?_
 exact ⟨by unfold dsV;rw [hin];rfl,H_.st.below⟩
 refine gq H_ 11 [[0],[1],[0,1,2],r_ 4,r_ 5,[0,1,2,3,5],[0,1,2,3,6],[7],[8],[0,1,2,3,4,7,8,9],r_ 6++[7,8,9,10],r_ 12] [_,_,_,_,_,_,_,_,_,none,none,_] (fun E2=>[(4,vP (pb E2 7) 0),(5,vP (pb E2 8) 0)]) (W:=[{ i:=7,T:=27,c0:=[vI 0,.int .u64 0],s:=some 9,c1:=fun _=>[vI (hi (z / 1000000000000000000)),.int .u64 (lo (z / 1000000000000000000))] },{ i:=8,T:=27,c0:=[vI 0,.int .u64 0],s:=some 10,c1:=fun _=>[vI (hi (z % 1000000000000000000)),.int .u64 (lo (z % 1000000000000000000))] }]) (s:=⟨ld3b 0 sh27,cl3 Tryz.func31 ((of_any 1000000000000000000 (by omega) (by omega))),cl3 Tryz.func82 ((wdiv_any z 1000000000000000000 (by unfold InW;omega) (by unfold InW;omega) (by omega))),mv3,xt3,xt3,xt3,al_ 2,al_ 3,sw3 2 7 sh27,sw3 3 8 sh27,mv3⟩) (k:=fun E2 ac wd H_=>?_)
 refine gq H_ 11 [[0],[1],[0,1,2],r_ 4,r_ 5,[0,1,2,3,5],[0,1,2,3,6],[7],[8],[0,1,2,3,4,7,8,9],r_ 6++[7,8,9,10],r_ 12] [_,_,_,_,_,_,_,_,_,none,none,_] (fun E3=>[(7,vP (pb E3 7) 0),(8,vP (pb E3 8) 0)]) (W:=[{ i:=7,T:=27,c0:=[vI 0,.int .u64 0],s:=some 9,c1:=fun _=>[vI (hi ((z / 1000000000000000000) / 86400)),.int .u64 (lo ((z / 1000000000000000000) / 86400))] },{ i:=8,T:=27,c0:=[vI 0,.int .u64 0],s:=some 10,c1:=fun _=>[vI (hi ((z / 1000000000000000000) % 86400)),.int .u64 (lo ((z / 1000000000000000000) % 86400))] }]) (s:=⟨ld3b 2 sh27,cl3 Tryz.func31 ((of_any 86400 (by omega) (by omega))),cl3 Tryz.func82 ((wdiv_any (z / 1000000000000000000) 86400 (by unfold InW;omega) (by unfold InW;omega) (by omega))),mv3,xt3,xt3,xt3,al_ 4,al_ 5,sw3 4 7 sh27,sw3 5 8 sh27,mv3⟩) (k:=fun E3 ac wd H_=>?_)
 refine gq1 H_ 6 (tri 4++[[0,1,2,4],[0,1,2,3,5],r_ 7]) [_,_,_,_,_,_,_] (fun _=>[(10,vI ((z / 1000000000000000000) / 86400)),(11,vI 0)]) (s:=⟨ld3b 4 sh27,cl3 Tryz.func83 ((wint_yes ((z / 1000000000000000000) / 86400) (by omega) (by omega))),mv3,xt3,xt3,mv3,mv3⟩) (k:=fun E4 ac wd H_=>?_)
 refine gq1 H_ 6 (tri 7) [_,bF,_,_,_,bF,bF] (fun _=>[(41,bF)]) (s:=⟨mv3,bi3 (h:=by intro env w;(first | (simp [go_sem];done) | (simp [go_sem];rfl))),mv3,gm3,cl3 Tryz.func84 (((xin_any ((z / 1000000000000000000) / 86400)).eq (congrArg Value.bool hin))),un3,pk3⟩) (k:=fun E5 ac wd H_=>?_)
 refine cF3 H_ ?_
 refine gq1 H_ 6 (tri 4++[[0,1,2,4],[0,1,2,3,5],r_ 7]) [_,_,_,_,_,_,_] (fun _=>[(12,vI ((z / 1000000000000000000) % 86400))]) (s:=⟨ld3b 5 sh27,cl3 Tryz.func83 ((wint_yes ((z / 1000000000000000000) % 86400) (by omega) (by omega))),mv3,xt3,xt3,mv3,mv3⟩) (k:=fun E6 ac wd H_=>?_)
 refine gq1 H_ 6 (tri 4++[[0,1,2,4],[0,1,2,3,5],r_ 7]) [_,_,_,_,_,_,_] (fun _=>[(14,vI (z % 1000000000000000000))]) (s:=⟨ld3b 3 sh27,cl3 Tryz.func83 ((wint_yes (z % 1000000000000000000) (by omega) (by omega))),mv3,xt3,xt3,mv3,mv3⟩) (k:=fun E7 ac wd H_=>?_)
 refine gq H_ 5 [[0],[1],[2],r_ 4,r_ 5,r_ 6] [_,_,_,vL ((z / 1000000000000000000) / 86400) ((z / 1000000000000000000) % 86400) (z % 1000000000000000000),none,_] (fun _=>[(3,vI 0)]) (S:=[⟨1,4,fun _=>[vI ((z / 1000000000000000000) / 86400),vI ((z / 1000000000000000000) % 86400),vI (z % 1000000000000000000)]⟩]) (s:=⟨mv3,mv3,mv3,bd33,se3 1 sh39,mv3⟩) (k:=fun E8 ac wd H_=>?_)
 refine lvCT3 (v:=vL ((z / 1000000000000000000) / 86400) ((z / 1000000000000000000) % 86400) (z % 1000000000000000000)) Tryz.results55 H_ 1 (loadGc sh39 rfl ⟨rfl,rfl,rfl,trivial⟩) ?_
 exact ⟨by unfold dsV;rw [hin];rfl,H_.st.below⟩
end Go.Proofs.YtailjojebdmnnaaGreat
namespace Go.Proofs.YtailjojebdmnnaaGreat
open Go.RowKit
attribute [local go_sem] vN bT bF rS vW vM vL vT2 vT3 vP vI execOp Act.eval evC bigF vB hi_zero lo_zero
end Go.Proofs.YtailjojebdmnnaaGreat
namespace Go.Proofs.YtailjojebdmnnaaGreat
open Go.RowKit
attribute [local go_sem] vN bT bF rS vW vM vL vT2 vT3 vP vI execOp Act.eval evC bigF vB hi_zero lo_zero
end Go.Proofs.YtailjojebdmnnaaGreat
namespace Go.Proofs.YtailjojebdmnnaaGreat
open Go.RowKit
abbrev cT:List TypeId:=[78,44,104,81,109,113]
def oldB (es:List (Int × Int)):Bool:=decide (day0 es=41317) && decide ((es.getD 0 (0,0)).2=10)
def IsC (w:World) (c g:Nat) (b:Value) (u x:Int) (es:List (Int × Int)):Prop:=
 c≠g∧Blk w c 81 #[vP g 0,b,vI x]∧IsLx w g u x es∧(oldB es=true→IsR (some g) w b pubS 41317 10)∧(oldB es=false→b = .pointer none)
theorem KeepT.mono {Ts Ts':List TypeId} {ex:Option Nat} {w w':World} (h:KeepT Ts ex w w') (hT:∀ T,Ts'.contains T=true→Ts.contains T=true):KeepT Ts' ex w w':=fun b cur T fz h1 h2 h3=>h b cur T fz h1 (hT T h2) h3
theorem cT_le:∀ T,leT.contains T=true→cT.contains T=true:=by
  intro T h
  simp only [leT,cT,List.contains_cons,Bool.or_eq_true] at *
  rcases h with h | h | h | h
  · exact .inl h
  · exact .inr (.inl h)
  · exact .inr (.inr (.inl h))
  · cases h
theorem cT_r:∀ T,([109,113]:List TypeId).contains T=true→cT.contains T=true:=by
  intro T h
  simp only [cT,List.contains_cons,Bool.or_eq_true] at *
  rcases h with h | h | h
  · exact .inr (.inr (.inr (.inr (.inl h))))
  · exact .inr (.inr (.inr (.inr (.inr (.inl h)))))
  · cases h
theorem KeepT.ofGrown {Ts:List TypeId} {g:Nat} {w w':World} (h:w.grownBy w' (some g)):KeepT Ts (some g) w w':=fun b cur T fz h1 _ h3=>h.block b (lt_of_some h1) (fun e=>h3 e.symm)
section
variable {w w':World} {c g:Nat} {b:Value} {u x:Int} {es:List (Int × Int)}
theorem IsC.keepT (h:IsC w c g b u x es) (hg:w'.heap[g]? = w.heap[g]?) (hk:KeepT cT (some g) w w'):IsC w' c g b u x es:=by
 obtain ⟨h1,h2,h3,h4,h5⟩:=h
 unfold Blk at h2
 refine ⟨h1,?_,h3.keepT hg (hk.mono cT_le),fun ho=>(h4 ho).keep (hk.mono cT_r),h5⟩
 unfold Blk
 rw [hk c _ _ _ h2 rfl (fun e=>h1 (Option.some.inj e).symm)]
 exact h2
theorem IsC.grown (h:IsC w c g b u x es) (hL:IsLx w' g u x es) (hg:w.grownBy w' (some g)):IsC w' c g b u x es:=by
 obtain ⟨h1,h2,h3,h4,h5⟩:=h
 exact ⟨h1,h2.grown hg (fun e=>h1 (Option.some.inj e)),hL,fun ho=>(h4 ho).keep (KeepT.ofGrown hg),h5⟩
theorem IsC.lx (h:IsC w c g b u x es):IsLx w g u x es:=h.2.2.1
theorem IsC.ok (h:IsC w c g b u x es):okT u x es=true:=h.2.2.1.ok
theorem IsC.lt (h:IsC w c g b u x es):g < w.heap.size:=h.2.2.1.lt
theorem IsC.r (h:IsC w c g b u x es) (ho:oldB es=true):IsR (some g) w b pubS 41317 10:=h.2.2.2.1 ho
theorem IsC.nil (h:IsC w c g b u x es) (ho:oldB es=false):b = .pointer none:=h.2.2.2.2 ho
theorem IsC.bform (h:IsC w c g b u x es) (ho:oldB es=true):b=vP (ptrB b) 0:=(h.r ho).form
theorem IsC.cell0 (h:IsC w c g b u x es):w.cell? ⟨c,0,none⟩=some (vP g 0):=h.2.1.cell 0
theorem IsC.cell1 (h:IsC w c g b u x es):w.cell? ⟨c,1,none⟩=some b:=h.2.1.cell 1
theorem St.startC (w:World) (h:IsC w c g b u x es):St w (some g) (some g) w (mem []) (fun _=>True) (fun w=>IsC w c g b u x es):=
 ⟨⟨rfl,rfl,rfl,Nat.le_refl _,fun _ _ _=>rfl⟩,fun m m' e e' h=>(by simp [mem] at h),fun m e h=>(by simp [mem] at h),fun k hk=>(by obtain rfl:=Option.some.inj hk;exact ⟨h.lt,fun m e hm=>by simp [mem] at hm,.inr rfl⟩),fun _ _=>trivial,fun w' ha=>h.keepT (ha.2 g h.lt (fun m e hm=>by simp [mem] at hm) (by simp)) (fun b cur T fz hb _ _=>ha.2 b (lt_of_some hb) (fun m e hm=>by simp [mem] at hm) (by simp))⟩
def ClkC (P:Program) (f:FuncId) (vs:List Value) (w:World) (c g:Nat) (b:Value) (u x:Int) (es:List (Int × Int)) (v:Value):Prop:=Calls P f vs.toArray w fun e w'=>e = .returned v∧IsC w' c g b u x es∧w.grownBy w' (some g)
theorem LeapC.clk {P:Program} {f:FuncId} {vs:List Value} {v:Value} (hC:IsC w c g b u x es) (h:LeapC P f vs w g u x es v):ClkC P f vs w c g b u x es v:=
 h.mono (fun e w' h=>⟨h.1,hC.grown h.2.1 h.2.2,h.2.2⟩)
theorem ClkC.eq {P:Program} {f:FuncId} {vs:List Value} {v v':Value} (h:ClkC P f vs w c g b u x es v) (e:v=v'):ClkC P f vs w c g b u x es v':=e▸h
end
section
variable {R:Reg} {Q:Exit→Act→World→Prop} {i:Nat} {o:Oper} {P:Program}
theorem s_clk {V:Env→Value} {f:FuncId} {fn:Func} {ps:Array Operand} {ts:Array TypeId} (hfn:P.funcs[f]? = some fn) {c g:Nat} {b:Value} {u x:Int} {es:List (Int × Int)} (hΘ:∀ w,R.Θ w→IsC w c g b u x es) (hΘ':∀ w,IsC w c g b u x es→R.Θ w) (ho:R.ops[i]? = some o:=by rfl) (hf:free' R i=true:=by rfl) (hop:o.op = .call { callee:=.value (.func f),args:=ps,argTypes:=ts }:=by rfl) (hname:(fn.name == "runtime.NumGoroutine")=false:=by kernel_rfl) (hb:fn.body.isSome=true:=by rfl) (hV:R.v? i=some V:=by rfl)
    (hw:∀ D env a w,At R i D env a w→Region.wanted o (yielded R.ops a.tmps)=true:=by intro D env a w hA;first | exact wanted_none rfl _ | exact hA.gy rfl rfl rfl) (hx:R.ex=some g:=by rfl) (hth:R.th=none:=by rfl) (hT:tFree cT R=true:=by rfl) (hn:noF R i=true:=by rfl) (hr:∀ env x,V (restr (R.cl.getD i []) (upd env i x))=V env:=by intros;rfl)
    (h:∀ D env a w,At R i D env a w→IsC w c g b u x es→∃ vs:List Value,ClkC P f vs w c g b u x es (V env)∧ps.toList.map (opAt R i env)=vs.map some):SR P Q R i:=
  s_callx ho hf hop hfn hname hb (fun {D env a w} hA=>by
    have hL:IsC w c g b u x es:=hΘ w (by have:=hA.j.st.nowT;unfold Reg.tht at this;rw [hth] at this;exact this)
    obtain ⟨vs,h1,h2⟩:=h D env a w hA hL
    refine ⟨hw _ _ _ _ hA,vs.toArray,hA.args h2,h1.mono ?_⟩
    rintro e w' ⟨rfl,hL',hg⟩
    refine ⟨_,rfl,?_,fun w'' _=>f_val hA.ok ho hV hn hr _ w''⟩
    refine hA.j.st.callg hx hg (fun w'' ha=>?_)
    have hst':=hA.j.st.callg hx hg (Θ':=fun _=>True) (fun _ _=>trivial)
    unfold Reg.tht
    rw [hth]
    refine hΘ' w'' (hL'.keepT ?_ ?_)
    · obtain ⟨k1,k2,_⟩:=hst'.exb g hx
      exact ha.2 g k1 (fun m e hm=>k2 m e hm) (by simp)
    · have:=apart_keepT (Ts:=cT) hT hst' (.inr rfl) ha
      rw [hx] at this
      exact this)
end
def NewC (w:World) (v:Value) (g:Nat) (b:Value) (u x:Int) (es:List (Int × Int)) (B:Nat):Prop:=v = .tuple #[vP (ptrB (tp v 0)) 0,vI 0]∧IsC w (ptrB (tp v 0)) g b u x es∧B≤g
def NewCx (w:World) (v:Value) (u x:Int) (es:List (Int × Int)) (B:Nat):Prop:=∃ g b,NewC w v g b u x es B
theorem NewCx.form {w:World} {v:Value} {u x:Int} {es:List (Int × Int)} {B:Nat} (h:NewCx w v u x es B):v=newLF v:=by obtain ⟨g,b,h,_⟩:=h;exact h
theorem NewCx.keep {w w':World} {v:Value} {u x:Int} {es:List (Int × Int)} {B:Nat} (h:NewCx w v u x es B) (hk:KeepT cT none w w'):NewCx w' v u x es B:=by
 obtain ⟨g,b,h1,h2,h3⟩:=h
 refine ⟨g,b,h1,h2.keepT ?_ (fun b cur T fz hb hT _=>hk b cur T fz hb hT (by simp)),h3⟩
 obtain ⟨q,_,ge,d,mv,_,hb,_⟩:=h2.lx
 unfold Blk at hb
 exact hk _ _ _ _ hb rfl (by simp)
theorem Cur.exInC {n:Nat} {w0:World} {Θ:World→Prop} {L:Slots} {M:List Ent} {a:Act} {w:World} {v:Value} {u x:Int} {es:List (Int × Int)} {Fs:List (World→Prop)} (h0:Cur n w0 none none (Facts Fs) Θ L M a w) (k:Nat) (hk:Fs[k]? = some (fun w=>NewCx w v u x es w0.heap.size)):∃ g b,Cur n w0 none (some g) (Facts []) (fun w=>IsC w (ptrB (tp v 0)) g b u x es) L M a w:=by
  have hN:∀ w',Apart (mem M) none w w'→∃ g b,IsC w' (ptrB (tp v 0)) g b u x es∧w0.heap.size≤g:=fun w' ha=>by
    obtain ⟨g,b,_,h2,h3⟩:=show NewCx w' v u x es w0.heap.size from (h0.st.psi w' ha).get k hk
    exact ⟨g,b,h2,h3⟩
  obtain ⟨g,b,hI,hB⟩:=hN w (Apart.refl _ _ _)
  generalize ptrB (tp v 0)=c at *
  have turn:∀ (k m:Nat) (e:Ent),M[m]? = some e→e.1=k→Apart (mem M) none w { w with heap:=w.heap.setIfInBounds k (.map #[] 0) }:=fun k m e hm he=>⟨by simp,fun j hj hM _=>by
    show (w.heap.setIfInBounds _ _)[j]? = _
    rw [Array.getElem?_setIfInBounds_ne (fun e'=>hM m e hm (by rw [he,e']))]⟩
  have gone:∀ k,k < w.heap.size→({ w with heap:=w.heap.setIfInBounds k (.map #[] 0) }:World).heap[k]? = some (.map #[] 0):=fun k hk'=>by
    show (w.heap.setIfInBounds _ _)[k]? = _
    rw [Array.getElem?_setIfInBounds_self_of_lt hk']
  have hcM:∀ (m:Nat) (e:Ent),M[m]? = some e→e.1≠c:=fun m e hm he=>by
    obtain ⟨g',b',h',_⟩:=hN _ (turn c m e hm he)
    have hb:=h'.2.1
    unfold Blk at hb
    rw [gone c hI.2.1.lt] at hb
    cases hb
  have hall:∀ w',Apart (mem M) none w w'→IsC w' c g b u x es:=fun w' ha=>by
    obtain ⟨g',b',h',_⟩:=hN w' ha
    have e1:=h'.2.1
    have e2:=hI.2.1
    unfold Blk at e1 e2
    rw [ha.2 c hI.2.1.lt (fun m e hm=>hcM m e hm) (by simp),e2] at e1
    simp at e1
    obtain ⟨rfl,rfl⟩:=e1
    exact h'
  have hgM:∀ (m:Nat) (e:Ent),M[m]? = some e→e.1≠g:=fun m e hm he=>by
    obtain ⟨q,_,ge,d,mv,_,hb,_⟩:=(hall _ (turn g m e hm he)).lx
    unfold Blk at hb
    rw [gone g hI.lt] at hb
    cases hb
  exact ⟨g,b,h0.sz,h0.df,⟨h0.st.gr,h0.st.nod,h0.st.own,fun g' hg'=>by obtain rfl:=Option.some.inj hg';exact ⟨hI.lt,hgM,.inl hB⟩,fun _ _ φ hφ=>(by cases hφ),hall⟩,h0.sl⟩
end Go.Proofs.YtailjojebdmnnaaGreat
namespace Go.Proofs.YtailjojebdmnnaaGreat
open Go.RowKit
def useR (es:List (Int × Int)) (d:Int):Bool:=oldB es && decide (d < 41317)
def ctE (es:List (Int × Int)) (d s a:Int):Int:=if useR es d=true then taiE pubS 41317 10 d s a else whyU es d s a
def ctV (es:List (Int × Int)) (d s a:Int):Int:=if useR es d=true then taiV pubS 41317 10 d s a else taiU es d s a
def overB (x d s:Int):Bool:=decide (x≤(d-15020)*86400+s)
def expB (x:Int) (lax:Bool) (d s:Int):Bool:=!lax && overB x d s
def useL (es:List (Int × Int)) (z:Int):Bool:=oldB es && decide ((labUt es z).1=8)
def clb (es:List (Int × Int)) (z:Int):Int × Int × Int × Int:=if useL es z=true then (labE pubS 41317 10 z,labD pubS 41317 10 z,labS pubS 41317 10 z,labA pubS 41317 10 z) else labUt es z
def lbl4 (es:List (Int × Int)) (x:Int) (lax:Bool) (z:Int):Int × Int × Int × Int:=if (clb es z).1=0 then (if expB x lax (clb es z).2.1 (clb es z).2.2.1=true then (9,0,0,0) else clb es z) else ((clb es z).1,0,0,0)
theorem oldB_iff {es:List (Int × Int)}:oldB es=true↔day0 es=41317∧(es.getD 0 (0,0)).2=10:=by unfold oldB;simp
theorem useR_iff {es:List (Int × Int)} {d:Int}:useR es d=true↔oldB es=true∧d < 41317:=by unfold useR;simp
theorem useL_iff {es:List (Int × Int)} {z:Int}:useL es z=true↔oldB es=true∧(labUt es z).1=8:=by unfold useL;simp
theorem tai_day {l:List Sg} {day off:Int} (h:MOk l day off) {d s a:Int} (he:taiE l day off d s a=0):d < day:=by
 obtain ⟨hs,ha,hk,h1,h2,h3,h4,h5⟩:=tai_ok h he
 have:=h.toLOk.unt_day hk
 omega
section
variable {es:List (Int × Int)} (hp:okPre es es.length=true) (hn:0 < es.length)
include hp hn
theorem clk_forth {z:Int} (he:(clb es z).1=0):ctE es (clb es z).2.1 (clb es z).2.2.1 (clb es z).2.2.2=0∧(ctV es (clb es z).2.1 (clb es z).2.2.1 (clb es z).2.2.2=z∨oldB es=true∧(clb es z).2.1 < 41317∧ctV es (clb es z).2.1 (clb es z).2.2.1 (clb es z).2.2.2=z-1):=by
  have _:=hn
  unfold clb at *
  by_cases hu:useL es z=true
  · rw [if_pos hu] at he ⊢
    obtain ⟨ho,h8⟩:=useL_iff.1 hu
    obtain ⟨q1,q2⟩:=lab_tai pub_ok he
    have hd:=tai_day pub_ok q1
    have hr:useR es (labD pubS 41317 10 z)=true:=useR_iff.2 ⟨ho,hd⟩
    unfold ctE ctV
    simp only [hr,if_true]
    refine ⟨q1,?_⟩
    rcases q2 with q2 | q2
    · exact .inl q2
    · exact .inr ⟨ho,hd,q2⟩
  · rw [if_neg hu] at he ⊢
    obtain ⟨h1,h2⟩:=utc_forth hp he
    obtain ⟨_,_,_,_,_,_,h3,_⟩:=whyU_ok h1
    have hr:¬ useR es (labUt es z).2.1=true:=fun h=>by
      obtain ⟨ho,hd⟩:=useR_iff.1 h
      have:=(oldB_iff.1 ho).1
      omega
    unfold ctE ctV
    rw [if_neg hr,if_neg hr]
    exact ⟨h1,.inl h2⟩
end
theorem ctE_bd {es:List (Int × Int)} {d s a:Int} (he:ctE es d s a=0):0≤s∧s≤86400∧0≤a∧a < 1000000000000000000 ∧ -1099511627776≤d∧d≤1099511627776:=by
  unfold ctE at he
  by_cases hu:useR es d=true
  · rw [if_pos hu] at he
    obtain ⟨hs,ha,hk,h1,h2,_⟩:=tai_ok pub_ok he
    have:=pub_ok.toLOk.unt_day hk
    have:=(pub_ok.seg _ hk).d0
    omega
  · rw [if_neg hu] at he
    have:=whyU_ok he
    omega
end Go.Proofs.YtailjojebdmnnaaGreat
namespace Go.Proofs.YtailjojebdmnnaaGreat
open Go.RowKit
theorem IsC.cellR {w:World} {c g:Nat} {b:Value} {u x:Int} {es:List (Int × Int)} (h:IsC w c g b u x es) (ho:oldB es=true):w.cell? ⟨c,1,none⟩=some (vP (ptrB b) 0):=h.cell1.trans (congrArg some (h.bform ho))
theorem IsC.pre {w:World} {c g:Nat} {b:Value} {u x:Int} {es:List (Int × Int)} (h:IsC w c g b u x es):okPre es es.length=true∧0 < es.length∧es.length≤64:=okT_pre h.ok
section
variable {w:World} {c g:Nat} {b:Value} {u x:Int} {es:List (Int × Int)} (h:IsC w c g b u x es)
include h
theorem cleaps_any:Calls Tryz.prog 62 #[vP c 0] w fun e w'=>e = .returned (vP g 0)∧Below w.heap.size w w':=by
 have c0:=h.cell0
 clear h
 go_enter Tryz.func62,Tryz.ntmps62
 go_wp2
 go_ret
 exact ⟨rfl,Below.refl _ _⟩
theorem cold_any:Calls Tryz.prog 63 #[vP c 0] w fun e w'=>e = .returned (.bool (oldB es))∧Below w.heap.size w w':=by
  have c1:=h.cell1
  cases ho:oldB es
  · obtain rfl:=h.nil ho
    clear h
    go_enter Tryz.func63,Tryz.ntmps63
    go_wp2
    go_ret
    exact ⟨rfl,Below.refl _ _⟩
  · have hb:=h.bform ho
    generalize ptrB b=k at hb
    subst hb
    clear h
    go_enter Tryz.func63,Tryz.ntmps63
    go_wp2
    go_ret
    exact ⟨rfl,Below.refl _ _⟩
end
theorem Cur.off {n:Nat} {w0:World} {row ex:Option Nat} {Ψ Θ:World→Prop} {L:Slots} {M:List Ent} {a:Act} {w:World} (h:Cur n w0 row ex Ψ Θ L M a w):Cur n w0 row none Ψ (fun _=>True) L M a w:=
 ⟨h.sz,h.df,⟨h.st.gr,h.st.nod,h.st.own,fun _ hg=>(by cases hg),fun w' ha=>h.st.psi w' ⟨ha.1,fun k hk hM _=>ha.2 k hk hM (by simp)⟩,fun _ _=>trivial⟩,h.sl⟩
def TaiG (g:Nat) (w:World) (v:Value) (z e:Int):Prop:=v = .tuple #[tp v 0,vI e]∧BigX (some g) w (tp v 0) z
theorem TaiG.form {g:Nat} {w:World} {v:Value} {z e:Int} (h:TaiG g w v z e):v=taiF z e v:=by
 unfold taiF
 rw [← h.2.form]
 exact h.1
theorem TaiG.keep {g:Nat} {w w':World} {v:Value} {z e:Int} (h:TaiG g w v z e) (hk:Keep (some g) w w'):TaiG g w' v z e:=⟨h.1,h.2.keep hk⟩
def SegG (ex:Option Nat) (w:World) (v:Value) (l:List Sg):Prop:=SegT w v l∧∀ k,ex=some k→v.ownBlock≠some k
theorem SegG.form {ex:Option Nat} {w:World} {v:Value} {l:List Sg} (h:SegG ex w v l):v=segF l v:=h.1.form
theorem SegG.keep {ex:Option Nat} {w w':World} {v:Value} {l:List Sg} (h:SegG ex w v l) (hk:KeepT [111] ex w w'):SegG ex w' v l:=⟨h.1.keep (Ts:=[111]) rfl hk h.2,h.2⟩
theorem SegG.u {ex:Option Nat} {w:World} {v:Value} {l:List Sg} (h:SegG ex w v l):SegU w (.slice (sA v) l.length (sC v)) l:=h.1.u.re
theorem Facts.segG {L:List (World→Prop)} {w:World} {ex:Option Nat} {v:Value} {l:List Sg} (h:Facts L w) (k:Nat) (hk:L[k]? = some (fun w=>SegG ex w v l)):SegU w (.slice (sA v) l.length (sC v)) l:=(show SegG ex w v l from h.get k hk).u
theorem At.segG {R:Reg} {i:Nat} {D:Nat→Bool} {env:Env} {a:Act} {w:World} (h:At R i D env a w) (j:Nat) {ex:Option Nat} {l:List Sg} (hj:((R.cl.getD i []).contains j && !(j == i))=true) (hs:((R.cl.getD j []).contains j)=true) (hF:R.F.filter (fun p=>Nat.beq p.1 j)=[(j,fun env w=>SegG ex w (env j) l)]):SegU w (.slice (sA (env j)) l.length (sC (env j))) l:=(h.fact j (φ:=fun v w=>SegG ex w v l) hj hs hF).u
theorem segments_g {g:Nat} {w:World} (hg:g < w.heap.size):Calls Tryz.prog 20 #[] w fun e w'=>∃ v,e = .returned v∧Below w.heap.size w w'∧SegG (some g) w' v pubS:=by
 refine (segments_any w).mono ?_
 rintro e w' ⟨v,rfl,hb,h1,h2⟩
 refine ⟨v,rfl,hb,h1,fun k hk hb'=>?_⟩
 obtain rfl:=Option.some.inj hk
 have:=h2 _ hb'
 omega
theorem clk_first {w:World} {g:Nat} {u x:Int} {es:List (Int × Int)} (h:IsLx w g u x es):LeapC Tryz.prog 18 [vP g 0] w g u x es (vI (day0 es)):=by
 obtain ⟨q,h⟩:=h
 exact (first_any g u x q es w h).mono (fun e w' h=>⟨h.1,⟨_,h.2.1⟩,h.2.2⟩)
end Go.Proofs.YtailjojebdmnnaaGreat
namespace Go.Proofs.YtailjojebdmnnaaGreat
open Go.RowKit
attribute [local go_sem] vN bT bF rS vW vM vL vT2 vT3 vP vI execOp Act.eval evC bigF vB hi_zero lo_zero Tryz.underlying27 Tryz.underlying39 Tryz.underlying81
theorem clb_rub {es:List (Int × Int)} {z:Int} (ho:oldB es=true) (h8:(labUt es z).1=8):clb es z=(labE pubS 41317 10 z,labD pubS 41317 10 z,labS pubS 41317 10 z,labA pubS 41317 10 z):=by
 unfold clb
 rw [if_pos (useL_iff.2 ⟨ho,h8⟩)]
theorem clb_utc {es:List (Int × Int)} {z:Int} (h:oldB es=false∨¬ (labUt es z).1=8):clb es z=labUt es z:=by
  unfold clb
  rw [if_neg]
  intro hu
  obtain ⟨h1,h2⟩:=useL_iff.1 hu
  rcases h with h | h
  · rw [h1] at h;cases h
  · exact h h2
theorem IsR.re {ex:Option Nat} {w:World} {v:Value} {l:List Sg} {day off:Int} (h:IsR ex w v l day off):IsR ex w (vP (ptrB v) 0) l day off:=by
 have e:=h.form
 rw [← e]
 exact h
theorem IsC.bdL {w:World} {c g:Nat} {b:Value} {u x:Int} {es:List (Int × Int)} (h:IsC w c g b u x es) {z:Int} (he:(clb es z).1=0):0≤(clb es z).2.2.1∧(clb es z).2.2.1≤86400∧0≤(clb es z).2.2.2∧(clb es z).2.2.2 < 1000000000000000000 ∧ -1099511627776≤(clb es z).2.1∧(clb es z).2.1≤1099511627776:=by
 obtain ⟨hp,hn,_⟩:=h.pre
 exact ctE_bd (clk_forth hp hn he).1
theorem cover_w (w0:World) (c g:Nat) (b:Value) (u x:Int) (es:List (Int × Int)) (hC:IsC w0 c g b u x es) (d s a:Int) (q4:-1099511627776≤d) (q5:d≤1099511627776) (q0:0≤s) (q1:s≤86400):Calls Tryz.prog 27 #[vP c 0,vL d s a] w0 fun e w'=>e = .returned (.bool (overB x d s))∧Below w0.heap.size w0 w':=by
 have hst:=St.start w0 (Θ:=fun _=>True) (fun _ _=>trivial)
 refine en_ Tryz.func27 hst 17 [(0,vP c 0),(1,vL d s a)] (fun ac H_=>?_)
 refine gq H_ 1 [[0],[1]] [_,_] (fun E1=>[(3,vP (pb E1 0) 0)]) (W:=[{ i:=0,T:=39,c0:=[vI d,vI s,vI a] }]) (s:=⟨bx3 0,mv3⟩) (k:=fun E1 ac wd H_=>?_)
 refine gq1 H_ 12 (tri 4++[[4],[4,5],r_ 7,[7],[7,8],[7,8,9],[7,8,9,10],r_ 12,r_ 13]) [_,_,vI (d-15020),vI ((d-15020)*86400),_,_,vI (((d-15020)*86400)+s),_,_,_,vI x,K_ (.bool (decide (x≤((d-15020)*86400)+s))),_] (fun _=>[(4,.bool (decide (x≤((d-15020)*86400)+s)))]) (s:=⟨fa3 0,ld31 0 sh3,bi3,bi3,fa3 1,ld31 0 sh3,bi3,mv3,nc3,fa3 2,by refine s_v rfl rfl rfl rfl (fun {D env ac wd} hA=>?_);have e14:ac.tmps[14]? = some (vP c 2):=hA.g rfl;have hcx:wd.cell? ⟨c,2,none⟩=some (vI x):=(Blk.grown hC.2.1 hA.j.st.gr (by simp)).cell 2;simp [go_sem,e14,hcx],bi3,mv3⟩) (k:=fun E2 ac wd H_=>?_)
 refine lvT3 Tryz.results27 H_ ?_
 exact ⟨rfl,H_.st.below⟩
theorem cover_any {w:World} {c g:Nat} {b:Value} {u x:Int} {es:List (Int × Int)} (hC:IsC w c g b u x es) (d s a:Int) (q4:-1099511627776≤d) (q5:d≤1099511627776) (q0:0≤s) (q1:s≤86400):Calls Tryz.prog 27 #[vP c 0,vL d s a] w fun e w'=>e = .returned (.bool (overB x d s))∧Below w.heap.size w w':=cover_w w c g b u x es hC d s a q4 q5 q0 q1
theorem clabel_c (w0:World) (c g:Nat) (b:Value) (u x:Int) (es:List (Int × Int)) (hC:IsC w0 c g b u x es) (z:Int) (hz:InW z):ClkC Tryz.prog 26 [vP c 0,vW z] w0 c g b u x es (vT2 (vL ((clb es z).2.1) ((clb es z).2.2.1) ((clb es z).2.2.2)) (vI ((clb es z).1))):=by
 unfold ClkC
 have hst:=St.startC w0 hC
 refine en_ Tryz.func26 hst 31 [(0,vP c 0),(1,vW z)] (fun ac H_=>?_)
 refine gq H_ 2 [[0],[1],[2]] [_,_,_] (fun E1=>[(3,vP (pb E1 0) 0),(4,vP (pb E1 1) 0)]) (W:=[{ i:=0,T:=27,c0:=[vI (hi (z)),.int .u64 (lo (z))] },{ i:=1,T:=39,c0:=[vI 0,vI 0,vI 0] }]) (s:=⟨bx3 0,al_ 1,mv3⟩) (k:=fun E1 ac wd H_=>?_)
 refine gq H_ 9 [[0],[0,1],[2],r_ 4,r_ 5,r_ 6,[0,1,2,3,4,6],[7],r_ 6++[7,8],r_ 10] [_,_,_,vT2 (vL ((labUt es z).2.1) ((labUt es z).2.2.1) ((labUt es z).2.2.2)) (vI ((labUt es z).1)),_,_,_,_,none,_] (fun E2=>[(6,vP (pb E2 7) 0),(7,vI ((labUt es z).1))]) (W:=[{ i:=7,T:=39,c0:=[vI 0,vI 0,vI 0],s:=some 8,c1:=fun _=>[vI ((labUt es z).2.1),vI ((labUt es z).2.2.1),vI ((labUt es z).2.2.2)] }]) (s:=⟨mv3,cw3 Tryz.func62 fun wd hA=>(cleaps_any (hA.thO rfl)),ld3b 0 sh27,s_clk (c:=c) (g:=g) (b:=b) (u:=u) (x:=x) (es:=es) Tryz.func61 (fun _ h=>h) (fun _ h=>h) (h:=fun D env ac wd hA hC=>⟨_,LeapC.clk hC (ulabel_l _ g u x es (IsC.lx hC) z hz),rfl⟩),mv3,xt3,xt3,al_ 2,sw3 2 7 sh39,mv3⟩) (k:=fun E2 ac wd H_=>?_)
 cases ho:oldB es
 refine gq1 H_ 5 (tri 6) [_,_,_,_,_,bF] (fun _=>[(20,bF)]) (s:=⟨mv3,cw3 Tryz.func63 fun wd hA=>(u_res_eq (cold_any (hA.thO rfl)) (congrArg Value.bool ho)),mv3,off_,off_,pk3⟩) (k:=fun E3 ac wd H_=>?_)
 refine cF3 H_ ?_
 refine gq H_ 3 [[0],[1],[0,2],r_ 4] [_,_,none,_] (fun _=>[(5,vI ((labUt es z).1))]) (S:=[⟨1,2,fun _=>[vI ((labUt es z).2.1),vI ((labUt es z).2.2.1),vI ((labUt es z).2.2.2)]⟩]) (s:=⟨ld3c 2 sh39,mv3,se3 1 sh39,mv3⟩) (k:=fun E4 ac wd H_=>?_)
 refine lvCT3 (v:=vL ((labUt es z).2.1) ((labUt es z).2.2.1) ((labUt es z).2.2.2)) Tryz.results26 H_ 1 (loadGc sh39 rfl ⟨rfl,rfl,rfl,trivial⟩) ?_
 have e:clb es z=labUt es z:=clb_utc (.inl ho)
 exact ⟨by rw [e],H_.st.nowT,H_.st.gr⟩
 by_cases h8:(labUt es z).1=8
 refine gq1 H_ 5 (tri 6) [_,_,_,_,bT,bT] (fun _=>[(20,bT)]) (s:=⟨mv3,cw3 Tryz.func63 fun wd hA=>(u_res_eq (cold_any (hA.thO rfl)) (congrArg Value.bool ho)),mv3,gm3,bi3 (h:=by intro env w;simp [go_sem,h8]),pk3 (h:=by intro env w;simp [go_sem,h8])⟩) (k:=fun E3 ac wd H_=>?_)
 refine cT3 H_ ?_
 refine gq H_ 9 (tri 4++[[4],r_ 6,r_ 7,r_ 6++[7],r_ 9,r_ 10]) [_,_,_,vP (ptrB b) 0,_,_,_,_,none,_] (fun _=>[(5,vI (labE pubS 41317 10 z))]) (S:=[⟨1,8,fun _=>[vI (labD pubS 41317 10 z),vI (labS pubS 41317 10 z),vI (labA pubS 41317 10 z)]⟩]) (s:=⟨mv3,nc3,fa3 1,by refine s_v rfl rfl rfl rfl (fun {D env ac wd} hA=>?_);have e23:ac.tmps[23]? = some (vP c 1):=hA.g rfl;have hcr:=IsC.cellR (hA.thO rfl) ho;simp [go_sem,e23,hcr],ld3b 0 sh27,cw3 Tryz.func64 fun wd hA=>(label_X (IsC.r (hA.thO rfl) ho) pub_ok.toLOk z hz),xt3,xt3,se3 1 sh39,mv3⟩) (k:=fun E4 ac wd H_=>?_)
 refine lvCT3 (v:=vL (labD pubS 41317 10 z) (labS pubS 41317 10 z) (labA pubS 41317 10 z)) Tryz.results26 H_ 1 (loadGc sh39 rfl ⟨rfl,rfl,rfl,trivial⟩) ?_
 have e:clb es z=(labE pubS 41317 10 z,labD pubS 41317 10 z,labS pubS 41317 10 z,labA pubS 41317 10 z):=clb_rub ho h8
 exact ⟨by rw [e],H_.st.nowT,H_.st.gr⟩
 refine gq1 H_ 5 (tri 6) [_,_,_,_,bF,bF] (fun _=>[(20,bF)]) (s:=⟨mv3,cw3 Tryz.func63 fun wd hA=>(u_res_eq (cold_any (hA.thO rfl)) (congrArg Value.bool ho)),mv3,gm3,bi3 (h:=by intro env w;simp [go_sem,h8]),pk3 (h:=by intro env w;simp [go_sem,h8])⟩) (k:=fun E3 ac wd H_=>?_)
 refine cF3 H_ ?_
 refine gq H_ 3 [[0],[1],[0,2],r_ 4] [_,_,none,_] (fun _=>[(5,vI ((labUt es z).1))]) (S:=[⟨1,2,fun _=>[vI ((labUt es z).2.1),vI ((labUt es z).2.2.1),vI ((labUt es z).2.2.2)]⟩]) (s:=⟨ld3c 2 sh39,mv3,se3 1 sh39,mv3⟩) (k:=fun E4 ac wd H_=>?_)
 refine lvCT3 (v:=vL ((labUt es z).2.1) ((labUt es z).2.2.1) ((labUt es z).2.2.2)) Tryz.results26 H_ 1 (loadGc sh39 rfl ⟨rfl,rfl,rfl,trivial⟩) ?_
 have e:clb es z=labUt es z:=clb_utc (.inr h8)
 exact ⟨by rw [e],H_.st.nowT,H_.st.gr⟩
theorem cLabel_c (w0:World) (c g:Nat) (b:Value) (u x:Int) (es:List (Int × Int)) (hC:IsC w0 c g b u x es) (lax:Bool) (z:Int) (hz:InW z):ClkC Tryz.prog 8 [vP c 0,vW z,.bool (lax)] w0 c g b u x es (vT2 (vL ((lbl4 es x lax z).2.1) ((lbl4 es x lax z).2.2.1) ((lbl4 es x lax z).2.2.2)) (vI ((lbl4 es x lax z).1))):=by
 unfold ClkC
 have hst:=St.startC w0 hC
 refine en_ Tryz.func8 hst 31 [(0,vP c 0),(1,vW z),(2,.bool (lax))] (fun ac H_=>?_)
 refine gq H_ 2 [[0],[1],[2]] [_,_,_] (fun E1=>[(4,vP (pb E1 0) 0),(6,vP (pb E1 1) 0)]) (W:=[{ i:=0,T:=27,c0:=[vI (hi (z)),.int .u64 (lo (z))] },{ i:=1,T:=39,c0:=[vI 0,vI 0,vI 0] }]) (s:=⟨bx3 0,al_ 1,mv3⟩) (k:=fun E1 ac wd H_=>?_)
 refine gq H_ 8 [[0],[1],[0,1,2],r_ 4,r_ 5,[0,1,2,3,5],[6],[0,1,2,3,4,6,7],r_ 9] [_,_,vT2 (vL ((clb es z).2.1) ((clb es z).2.2.1) ((clb es z).2.2.2)) (vI ((clb es z).1)),_,_,_,_,none,_] (fun E2=>[(8,vP (pb E2 6) 0),(9,vI ((clb es z).1))]) (W:=[{ i:=6,T:=39,c0:=[vI 0,vI 0,vI 0],s:=some 7,c1:=fun _=>[vI ((clb es z).2.1),vI ((clb es z).2.2.1),vI ((clb es z).2.2.2)] }]) (s:=⟨mv3,ld3b 0 sh27,s_clk (c:=c) (g:=g) (b:=b) (u:=u) (x:=x) (es:=es) Tryz.func26 (fun _ h=>h) (fun _ h=>h) (h:=fun D env ac wd hA hC=>⟨_,clabel_c _ c g b u x es hC z hz,rfl⟩),mv3,xt3,xt3,al_ 2,sw3 2 6 sh39,mv3⟩) (k:=fun E2 ac wd H_=>?_)
 by_cases he:(clb es z).1=0
 obtain ⟨q0,q1,q2,q3,q4,q5⟩:=hC.bdL he
 refine gq1 H_ 2 (tri 3) [_,bF,_] (fun _=>[(16,bF)]) (s:=⟨mv3,bi3 (h:=by intro env w;simp [go_sem,he]),mv3⟩) (k:=fun E3 ac wd H_=>?_)
 refine cF3 H_ ?_
 rcases lax with _ | _
 cases hov:overB x ((clb es z).2.1) ((clb es z).2.2.1)
 refine gq1 H_ 7 (tri 4++[[0,1,2,4],r_ 6,r_ 7,r_ 8]) [_,bT,_,_,_,_,bF,_] (fun _=>[(21,bF)]) (s:=⟨mv3,un3,mv3,gm3,ld3c 2 sh39,cw3 Tryz.func27 fun wd hA=>(u_res_eq (cover_any (hA.thO rfl) ((clb es z).2.1) ((clb es z).2.2.1) ((clb es z).2.2.2) q4 q5 q0 q1) (congrArg Value.bool hov)),pk3,mv3⟩) (k:=fun E4 ac wd H_=>?_)
 refine cF3 H_ ?_
 refine gq H_ 2 (tri 3) [_,none,_] (fun _=>[(7,vI 0)]) (S:=[⟨1,1,fun _=>[vI ((clb es z).2.1),vI ((clb es z).2.2.1),vI ((clb es z).2.2.2)]⟩]) (s:=⟨ld3c 2 sh39,se3 1 sh39,mv3⟩) (k:=fun E5 ac wd H_=>?_)
 refine lvCT3 (v:=vL ((clb es z).2.1) ((clb es z).2.2.1) ((clb es z).2.2.2)) Tryz.results8 H_ 1 (loadGc sh39 rfl ⟨rfl,rfl,rfl,trivial⟩) ?_
 have e1:lbl4 es x false z=clb es z:=by unfold lbl4 expB;rw [if_pos he];simp [hov]
 exact ⟨by rw [e1,he],H_.st.nowT,H_.st.gr⟩
 refine gq1 H_ 7 (tri 4++[[0,1,2,4],r_ 6,r_ 7,r_ 8]) [_,bT,_,_,_,_,bT,_] (fun _=>[(21,bT)]) (s:=⟨mv3,un3,mv3,gm3,ld3c 2 sh39,cw3 Tryz.func27 fun wd hA=>(u_res_eq (cover_any (hA.thO rfl) ((clb es z).2.1) ((clb es z).2.2.1) ((clb es z).2.2.2) q4 q5 q0 q1) (congrArg Value.bool hov)),pk3,mv3⟩) (k:=fun E4 ac wd H_=>?_)
 refine cT3 H_ ?_
 refine gq H_ 2 (tri 3) [vL 0 0 0,none,_] (fun _=>[(7,vI 9)]) (S:=[⟨1,1,fun _=>[vI 0,vI 0,vI 0]⟩]) (s:=⟨bd30,se3 1 sh39,mv3⟩) (k:=fun E5 ac wd H_=>?_)
 refine lvCT3 (v:=vL 0 0 0) Tryz.results8 H_ 1 (loadGc sh39 rfl ⟨rfl,rfl,rfl,trivial⟩) ?_
 have e1:lbl4 es x false z=(9,0,0,0):=by unfold lbl4 expB;rw [if_pos he];simp [hov]
 exact ⟨by rw [e1],H_.st.nowT,H_.st.gr⟩
 refine gq1 H_ 7 (tri 4++[[0,1,2,4],r_ 6,r_ 7,r_ 8]) [_,bF,_,_,_,_,bF,_] (fun _=>[(21,bF)]) (s:=⟨mv3,un3,mv3,off_,off_,off_,pk3,mv3⟩) (k:=fun E4 ac wd H_=>?_)
 refine cF3 H_ ?_
 refine gq H_ 2 (tri 3) [_,none,_] (fun _=>[(7,vI 0)]) (S:=[⟨1,1,fun _=>[vI ((clb es z).2.1),vI ((clb es z).2.2.1),vI ((clb es z).2.2.2)]⟩]) (s:=⟨ld3c 2 sh39,se3 1 sh39,mv3⟩) (k:=fun E5 ac wd H_=>?_)
 refine lvCT3 (v:=vL ((clb es z).2.1) ((clb es z).2.2.1) ((clb es z).2.2.2)) Tryz.results8 H_ 1 (loadGc sh39 rfl ⟨rfl,rfl,rfl,trivial⟩) ?_
 have e1:lbl4 es x true z=clb es z:=by unfold lbl4 expB;rw [if_pos he];simp
 exact ⟨by rw [e1,he],H_.st.nowT,H_.st.gr⟩
 refine gq1 H_ 2 (tri 3) [_,bT,_] (fun _=>[(16,bT)]) (s:=⟨mv3,bi3 (h:=by intro env w;simp [go_sem,he]),mv3⟩) (k:=fun E3 ac wd H_=>?_)
 refine cT3 H_ ?_
 refine gq H_ 3 [[0],[1],[0,2],r_ 4] [vL 0 0 0,_,none,_] (fun _=>[(7,vI ((clb es z).1))]) (S:=[⟨1,2,fun _=>[vI 0,vI 0,vI 0]⟩]) (s:=⟨bd30,mv3,se3 1 sh39,mv3⟩) (k:=fun E4 ac wd H_=>?_)
 refine lvCT3 (v:=vL 0 0 0) Tryz.results8 H_ 1 (loadGc sh39 rfl ⟨rfl,rfl,rfl,trivial⟩) ?_
 have e1:lbl4 es x lax z=((clb es z).1,0,0,0):=by unfold lbl4;rw [if_neg he]
 exact ⟨by rw [e1],H_.st.nowT,H_.st.gr⟩
end Go.Proofs.YtailjojebdmnnaaGreat
namespace Go.Proofs.YtailjojebdmnnaaGreat
open Go.RowKit
attribute [local go_sem] vN bT bF rS vW vM vL vT2 vT3 vP vI execOp Act.eval evC bigF vB hi_zero lo_zero Tryz.underlying24 Tryz.underlying27 Tryz.underlying39 Tryz.underlying81
theorem cnew_no_core (w0:World) (A0:Option Addr) (c0:Nat) (es:List (Int × Int)) (u x:Int) (hv:Ents w0 w0.heap.size (.slice A0 es.length c0) es) (hu:I64 u) (hx:I64 x) (hes:∀ i,I64 (es.getD i (0,0)).1∧I64 (es.getD i (0,0)).2) (hok:okT u x es=false):Calls Tryz.prog 5 #[.agg #[vI u,vI x,.slice A0 es.length c0]] w0 fun e w'=>e = .returned (vT2 (.pointer none) (vI 10))∧Below w0.heap.size w0 w':=by
 have hst:=St.start w0 (Θ:=fun _=>True) (fun _ _=>trivial)
 refine en_ Tryz.func5 hst 40 [(0,.agg #[vI u,vI x,.slice A0 es.length c0])] (fun ac H_=>?_)
 replace H_:=H_.facts
 refine fq H_ 2 [[0],[1],[1,2]] [_,_,_] (fun E1=>[(1,vP (pb E1 0) 0)]) (W:=[{ i:=0,T:=24,c0:=[vI u,vI x,.slice A0 es.length c0] }]) (s:=⟨bx3 0,mv3,mv3⟩) (k:=fun E1 ac wd H_=>?_)
 refine fq1 H_ 6 (tri 4++[[0,1,2,4],[0,1,2,3,5],r_ 7]) [_,_,_,_,_,_,_] (fun _=>[(4,.pointer none),(5,vI 10)]) (s:=⟨ld3c 0 sh24,cw3 Tryz.func4 fun wd hA=>((new_no _ es u x wd (hv.gn hA.j.st.gr) hu hx hes hok)),mv3,xt3,xt3,mv3,mv3⟩) (k:=fun E2 ac wd H_=>?_)
 refine fq1 H_ 1 [[0],[0,1]] [_,bT] (fun _=>[(13,bT)]) (s:=⟨mv3,bi3⟩) (k:=fun E3 ac wd H_=>?_)
 refine cT3 H_ ?_
 refine fq1 H_ 2 [[0],[1],[0,1,2]] [_,_,_] (fun _=>[(2,.pointer none),(3,vI 10)]) (s:=⟨mv3,mv3,mv3⟩) (k:=fun E4 ac wd H_=>?_)
 refine then_n (wp_ret (then_ret ?_))
 have s2:=H_.g (t:=2) rfl
 have s3:=H_.g (t:=3) rfl
 refine leave (v:=vT2 (.pointer none) (vI 10)) H_.df (by simp [results,Tryz.results5,go_sem,Array.getD_eq_getD_getElem?,s2,s3]) ?_
 exact ⟨rfl,H_.st.below⟩
theorem cnew_core (w0:World) (A0:Option Addr) (c0:Nat) (es:List (Int × Int)) (u x:Int) (hv:Ents w0 w0.heap.size (.slice A0 es.length c0) es) (hu:I64 u) (hx:I64 x) (hes:∀ i,I64 (es.getD i (0,0)).1∧I64 (es.getD i (0,0)).2) (hok:okT u x es=true):Calls Tryz.prog 5 #[.agg #[vI u,vI x,.slice A0 es.length c0]] w0 fun e w'=>∃ v',e = .returned v'∧Below w0.heap.size w0 w'∧NewCx w' v' u x es w0.heap.size:=by
 obtain ⟨hp,hn0,_⟩:=okT_pre hok
 have hst:=St.start w0 (Θ:=fun _=>True) (fun _ _=>trivial)
 refine en_ Tryz.func5 hst 40 [(0,.agg #[vI u,vI x,.slice A0 es.length c0])] (fun ac H_=>?_)
 replace H_:=H_.facts
 refine fq H_ 2 [[0],[1],[1,2]] [_,_,_] (fun E1=>[(1,vP (pb E1 0) 0)]) (W:=[{ i:=0,T:=24,c0:=[vI u,vI x,.slice A0 es.length c0] }]) (s:=⟨bx3 0,mv3,mv3⟩) (k:=fun E1 ac wd H_=>?_)
 refine fq H_ 6 (tri 4++[[0,1,2,4],[0,1,2,3,5],r_ 7]) [_,KE_ fun env=>vT2 (vP (ptrB (tp (env 1) 0)) 0) (vI 0),_,_,_,_,_] (fun E2=>[(4,vP (ptrB (tp (E2 1) 0)) 0),(5,vI 0)]) (F:=[(1,fun env w=>NewL w (env 1) u x es w0.heap.size)]) (s:=⟨ld3c 0 sh24,s_factT rfl rfl rfl Tryz.func4 (by kernel_rfl) rfl (fun _=>wanted_none rfl _) (fun v w=>NewL w v u x es w0.heap.size) newLF rfl rfl leT rfl (fun v w h=>h.form) (fun v w w' hk h=>h.keep hk) (fun {D env ac wd} hA=>⟨_,hA.args (vs:=[.agg #[vI u,vI x,.slice A0 es.length c0]]) rfl,lnew_yes hA.j.st.gr.size (hv.gn hA.j.st.gr) hu hx hes hok⟩),mv3,xt3,xt3,mv3,mv3⟩) (k:=fun E2 ac wd H_=>?_)
 replace H_:=Cur.exInF H_ 0 rfl;generalize ptrB (tp (E2 1) 0)=g at H_
 refine fq1 H_ 1 [[0],[0,1]] [_,bF] (fun _=>[(13,bF)]) (s:=⟨mv3,bi3 (h:=by intro env w;(first | (simp [go_sem];done) | (simp [go_sem];rfl)))⟩) (k:=fun E3 ac wd H_=>?_)
 refine cF3 H_ ?_
 refine fq H_ 5 [[0],[1],[1,2],r_ 4,r_ 5,r_ 6] [_,_,_,K_ (.agg #[vP g 0,.pointer none,vI x]),_,_] (fun E4=>[(6,vP (pb E4 4) 0)]) (W:=[{ i:=4,T:=81,c0:=[vP g 0,.pointer none,vI x] }]) (s:=⟨mv3,fa3 1,ld31 0 sh3,bd32,bx3 1,mv3⟩) (k:=fun E4 ac wd H_=>?_)
 by_cases h1:day0 es=41317
 by_cases h2:(es.getD 0 (0,0)).2=10
 have hob:oldB es=true:=oldB_iff.2 ⟨h1,h2⟩
 refine fq1 H_ 10 (tri 11) [_,vI (day0 es),bT,_,_,_,elt (.slice A0 es.length c0) (0*2),elt (.slice A0 es.length c0) (0*2+1),vI ((es.getD 0 (0,0)).2),bT,bT] (fun _=>[(30,bT)]) (s:=⟨mv3,s_leap (g:=g) (u:=u) (x:=x) (es:=es) Tryz.func18 (fun _ h=>h) (fun _ h=>h) (h:=fun D env ac wd hA hL=>⟨_,clk_first hL,rfl⟩),bi3 (h:=by intro env w;simp [go_sem,h1]),mv3,fa3 2,ld31 0 sh22,ia_ Tryz.underlying22 sz44 0 (0*2) 0 (fun _ env _ wd hA=>(hv.gn hA.j.st.gr).els) (rfl) (hn0) rfl,s_fa rfl rfl rfl (fun hA=>hA.gy rfl rfl rfl) (0*2) 1 (0*2+1) rfl (s:=fun _=>.slice A0 es.length c0) rfl (fun _=>rfl) (fun {D env ac wd} hA=>(hv.gn hA.j.st.gr).els) (by omega) (fun b q w=>by simp [go_sem,Tryz.underlying44]),le_ (0*2+1) (fun _ env _ wd hA=>(hv.gn hA.j.st.gr).els) (by omega) (leG1 sh3 (by exact enC_1 es 0)),bi3 (h:=by intro env w;(first | (simp [go_sem,h2];done) | (simp [go_sem];simp only [List.getD_eq_getElem?_getD] at h2;simp [h2]))),pk3 (h:=by intro env w;(first | (simp [go_sem,h2];done) | (simp [go_sem];simp only [List.getD_eq_getElem?_getD] at h2;simp [h2])))⟩) (k:=fun E5 ac wd H_=>?_)
 refine cT3 H_ ?_
 refine fq H_ 8 [[0],[1],[1,2],[1,2,3],[1,2,3,4],[1,2,3,5],[0,1,2,3,4,6],[0,1,2,3,4,6,7],[0,1,2,3,4,6,7,8]] [_,KE_ fun env=>.slice ((sA (env 1))) pubS.length ((sC (env 1))),KE_ fun env=>vT2 (vP (ptrB (tp (env 2) 0)) 0) (vI 0),_,_,_,_,_,none] (fun _=>[]) (S:=[⟨1,8,fun env=>[vP g 0,vP (ptrB (tp (env 2) 0)) 0,vI x]⟩]) (F:=[(1,fun env w=>SegG (some g) w (env 1) pubS),(2,fun env w=>NewX (some g) w (env 2) pubS 41317 10)]) (s:=⟨mv3,s_factT rfl rfl rfl Tryz.func20 (by kernel_rfl) rfl (fun _=>wanted_none rfl _) (fun v w=>SegG (some g) w v pubS) (segF pubS) rfl rfl [111] rfl (fun v w h=>h.form) (fun v w w' hk h=>h.keep hk) (fun {D env ac wd} hA=>⟨_,hA.args (vs:=[]) rfl,segments_g (hA.j.st.exb g rfl).1⟩),s_factT rfl rfl rfl Tryz.func19 (by kernel_rfl) rfl (fun _=>wanted_none rfl _) (fun v w=>NewX (some g) w v pubS 41317 10) newF rfl rfl [109,113] rfl (fun v w h=>h.form) (fun v w w' hk h=>h.keep hk) (fun {D env ac wd} hA=>⟨_,hA.args (vs:=[.slice ((sA (env 1))) pubS.length ((sC (env 1))),vI 41317,vI 10]) rfl,rNew_yes wd ((sA (env 1))) ((sC (env 1))) pubS (At.segG hA 1 rfl rfl rfl) 41317 10 (by omega) (by omega) pub_may (fun k h=>by obtain rfl:=Option.some.inj h;exact (hA.j.st.exb g rfl).1)⟩),mv3,xt3,xt3,nc3,fa3 1,se3 1 sh79⟩) (k:=fun E6 ac wd H_=>?_)
 refine fq1 H_ 2 (tri 3) [_,_,_] (fun _=>[(2,vP (pb E4 4) 0),(3,vI 0)]) (s:=⟨mv3,mv3,mv3⟩) (k:=fun E7 ac wd H_=>?_)
 refine then_n (wp_ret ?_)
 have s2:=H_.g (t:=2) rfl
 have s3:=H_.g (t:=3) rfl
 refine leave (v:=vT2 (vP (pb E4 4) 0) (vI 0)) H_.df (by simp [results,Tryz.results5,go_sem,Array.getD_eq_getD_getElem?,s2,s3]) ?_
 have hR:IsR (some g) _ (tp (E6 2) 0) pubS 41317 10:=(show NewX (some g) _ (E6 2) pubS 41317 10 from H_.st.now.get 1 rfl).2
 exact ⟨_,rfl,H_.st.below,g,vP (ptrB (tp (E6 2) 0)) 0,rfl,⟨fun e=>(H_.st.exb g rfl).2.1 1 _ rfl e,(H_.st.own 1 _ rfl).2,H_.st.nowT,(fun _=>hR.re),(fun ho=>by rw [hob] at ho;cases ho)⟩,(H_.st.exb g rfl).2.2.resolve_right (by simp)⟩
 have hob:oldB es=false:=by unfold oldB;simp only [h1,h2,decide_true,decide_false,Bool.and_false]
 refine fq1 H_ 10 (tri 11) [_,vI (day0 es),bT,_,_,_,elt (.slice A0 es.length c0) (0*2),elt (.slice A0 es.length c0) (0*2+1),vI ((es.getD 0 (0,0)).2),bF,bF] (fun _=>[(30,bF)]) (s:=⟨mv3,s_leap (g:=g) (u:=u) (x:=x) (es:=es) Tryz.func18 (fun _ h=>h) (fun _ h=>h) (h:=fun D env ac wd hA hL=>⟨_,clk_first hL,rfl⟩),bi3 (h:=by intro env w;simp [go_sem,h1]),mv3,fa3 2,ld31 0 sh22,ia_ Tryz.underlying22 sz44 0 (0*2) 0 (fun _ env _ wd hA=>(hv.gn hA.j.st.gr).els) (rfl) (hn0) rfl,s_fa rfl rfl rfl (fun hA=>hA.gy rfl rfl rfl) (0*2) 1 (0*2+1) rfl (s:=fun _=>.slice A0 es.length c0) rfl (fun _=>rfl) (fun {D env ac wd} hA=>(hv.gn hA.j.st.gr).els) (by omega) (fun b q w=>by simp [go_sem,Tryz.underlying44]),le_ (0*2+1) (fun _ env _ wd hA=>(hv.gn hA.j.st.gr).els) (by omega) (leG1 sh3 (by exact enC_1 es 0)),bi3 (h:=by intro env w;(first | (simp [go_sem,h2];done) | (simp [go_sem];simp only [List.getD_eq_getElem?_getD] at h2;simp [h2]))),pk3 (h:=by intro env w;(first | (simp [go_sem,h2];done) | (simp [go_sem];simp only [List.getD_eq_getElem?_getD] at h2;simp [h2])))⟩) (k:=fun E5 ac wd H_=>?_)
 refine cF3 H_ ?_
 refine fq1 H_ 2 (tri 3) [_,_,_] (fun _=>[(2,vP (pb E4 4) 0),(3,vI 0)]) (s:=⟨mv3,mv3,mv3⟩) (k:=fun E6 ac wd H_=>?_)
 refine then_n (wp_ret ?_)
 have s2:=H_.g (t:=2) rfl
 have s3:=H_.g (t:=3) rfl
 refine leave (v:=vT2 (vP (pb E4 4) 0) (vI 0)) H_.df (by simp [results,Tryz.results5,go_sem,Array.getD_eq_getD_getElem?,s2,s3]) ?_
 exact ⟨_,rfl,H_.st.below,g,.pointer none,rfl,⟨fun e=>(H_.st.exb g rfl).2.1 1 _ rfl e,(H_.st.own 1 _ rfl).2,H_.st.nowT,(fun ho=>by rw [hob] at ho;cases ho),(fun _=>rfl)⟩,(H_.st.exb g rfl).2.2.resolve_right (by simp)⟩
 have hob:oldB es=false:=by unfold oldB;simp [h1]
 refine fq1 H_ 10 (tri 11) [_,vI (day0 es),bF,_,_,_,_,_,_,_,bF] (fun _=>[(30,bF)]) (s:=⟨mv3,s_leap (g:=g) (u:=u) (x:=x) (es:=es) Tryz.func18 (fun _ h=>h) (fun _ h=>h) (h:=fun D env ac wd hA hL=>⟨_,clk_first hL,rfl⟩),bi3 (h:=by intro env w;simp [go_sem,h1]),mv3,off_,off_,off_,off_,off_,off_,pk3⟩) (k:=fun E5 ac wd H_=>?_)
 refine cF3 H_ ?_
 refine fq1 H_ 2 (tri 3) [_,_,_] (fun _=>[(2,vP (pb E4 4) 0),(3,vI 0)]) (s:=⟨mv3,mv3,mv3⟩) (k:=fun E6 ac wd H_=>?_)
 refine then_n (wp_ret ?_)
 have s2:=H_.g (t:=2) rfl
 have s3:=H_.g (t:=3) rfl
 refine leave (v:=vT2 (vP (pb E4 4) 0) (vI 0)) H_.df (by simp [results,Tryz.results5,go_sem,Array.getD_eq_getD_getElem?,s2,s3]) ?_
 exact ⟨_,rfl,H_.st.below,g,.pointer none,rfl,⟨fun e=>(H_.st.exb g rfl).2.1 1 _ rfl e,(H_.st.own 1 _ rfl).2,H_.st.nowT,(fun ho=>by rw [hob] at ho;cases ho),(fun _=>rfl)⟩,(H_.st.exb g rfl).2.2.resolve_right (by simp)⟩
theorem cnew_no {w:World} {v:Value} {es:List (Int × Int)} (hv:Ents w w.heap.size v es) {u x:Int} (hu:I64 u) (hx:I64 x) (hes:∀ i,I64 (es.getD i (0,0)).1∧I64 (es.getD i (0,0)).2) (hok:okT u x es=false):Calls Tryz.prog 5 #[.agg #[vI u,vI x,v]] w fun e w'=>e = .returned (vT2 (.pointer none) (vI 10))∧Below w.heap.size w w':=by
 have hv0:=hv
 obtain ⟨A,c,rfl,_⟩:=hv
 exact cnew_no_core w A c es u x hv0 hu hx hes hok
theorem cnew_yes {B:Nat} {w:World} (hB:B≤w.heap.size) {v:Value} {es:List (Int × Int)} (hv:Ents w w.heap.size v es) {u x:Int} (hu:I64 u) (hx:I64 x) (hes:∀ i,I64 (es.getD i (0,0)).1∧I64 (es.getD i (0,0)).2) (hok:okT u x es=true):Calls Tryz.prog 5 #[.agg #[vI u,vI x,v]] w fun e w'=>∃ v',e = .returned v'∧Below w.heap.size w w'∧NewCx w' v' u x es B:=by
 have hv0:=hv
 obtain ⟨A,c,rfl,_⟩:=hv
 refine (cnew_core w A c es u x hv0 hu hx hes hok).mono ?_
 rintro e w' ⟨v',rfl,hb,g,b,h1,h2,h3⟩
 exact ⟨v',rfl,hb,g,b,h1,h2,Nat.le_trans hB h3⟩
end Go.Proofs.YtailjojebdmnnaaGreat
