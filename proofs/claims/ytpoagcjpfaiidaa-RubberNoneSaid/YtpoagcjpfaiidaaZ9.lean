/- Texts R0, R1, R4, T2, GNone of one proof, one behind the other; what nothing here names is left out. -/
import Derived.Test.YtpoagcjpfaiidaaZ2
import Derived.ProofKit
import Derived.OpenShut
import Derived.ChangeOld
import Derived.Lib.SmallJoins
import Derived.Deep.Slices
import Derived.Deep.Fields
import Derived.ChangeSame
import Derived.Test.YtpoagcjpfaiidaaZ6
import Derived.SizedLaws
import Derived.Test.YtpoagcjpfaiidaaZ8
import Derived.Test.YtpoagcjpfaiidaaZ3
import Derived.Test.YtpoagcjpfaiidaaZ4
import Derived.IntWalk
set_option maxRecDepth 100000
set_option maxHeartbeats 8000000
set_option linter.unusedVariables false
set_option linter.unusedSimpArgs false
namespace Go.Proofs.Ytpoagcjpfaiidaa
open Go.RowKit Go.ChangeShapes Go.WideShapes Go.ChangeAt Go.Deep Go.Joins
section
variable {H:Type} {enc:TypeId × Value→H} {P:Program} {w:World} {base:Nat} {spare:Nat→Bool} {held:Bool}
theorem open_slice_fields {t e:TypeId} {fs:Array Field} {fuel:Nat} {cs:List Value} {x:DataW H × List MemPlace} (ht:P.underlying t=some (.slice e)) (he:P.underlying e=some (.struct fs))
    (hone:oneCellFields P fs=true) (hC:P.cellsOf e=fs.size) (h:DataW.trod enc P w base spare held fuel t cs=some x) :
    (cs=[.slice none 0 0]∧x=(.nil,[])) ∨
    ∃ (a:Addr) (len cap m:Nat) (D:Nat→DataW H) (Pl:Nat→List MemPlace),cs=[.slice (some a) len cap]∧base≤a.block∧len≤cap∧cap≤maxLen∧m=(if spare a.block then cap else len) ∧
      x=(.slice ((List.range len).map D) ((List.range (m-len)).map fun j=>D (len+j)),MemPlace.row a (m*fs.size) ++ (List.range m).flatMap Pl) ∧
      ∀ i,i < m→∃ (ys:List (DataW H × List MemPlace)) (n:Nat),D i = .agg (ys.map (·.1))∧Pl i=ys.flatMap (·.2)∧ys.length=fs.size ∧
        ∀ (j:Nat) (f:Field),fs[j]? = some f→∃ (v:Value) (y:DataW H × List MemPlace),w.cell? (a.add (i*fs.size+j))=some v∧ys[j]? = some y∧DataW.trod enc P w base spare held n f.type [v]=some y:=by
  rcases open_slice ht h with h0 | ⟨a,len,cap,m,n,D,Pl,hcs,hb,hl,hm,hmm,hx,hi⟩
  · exact .inl h0
  · refine .inr ⟨a,len,cap,m,D,Pl,hcs,hb,hl,hm,hmm,by rw [hC] at hx;exact hx,fun i him=>?_⟩
    obtain ⟨cs',hc,ht'⟩:=hi i him
    rw [hC] at hc
    obtain ⟨ys,n',hn',hy,hlen,hyl,hf⟩:=DataW.trod_struct he ht'
    obtain ⟨_,hcl,hat⟩:=World.cells?_some hc
    simp only [Prod.mk.injEq] at hy
    refine ⟨ys,n',hy.1,hy.2,hyl,fun j f hj=>?_⟩
    obtain ⟨ho,hk⟩:=hone_of hone j f hj
    have hjl:j < fs.size:=(Array.getElem?_eq_some_iff.1 hj).1
    have hcell:=hat j hjl
    have hv:cs'[j]? = some (cs'[j]'(by omega)):=List.getElem?_eq_getElem (by omega)
    have h1:=hf j f hj
    rw [ho,hk] at h1
    have hone':(cs'.drop j).take 1=[cs'[j]'(by omega)]:=by
      rw [List.drop_eq_getElem_cons (by omega)]
      rfl
    rw [hone'] at h1
    have hys:ys[j]? = some (ys[j]'(by omega)):=List.getElem?_eq_getElem (by omega)
    refine ⟨_,_,?_,hys,h1.trans hys⟩
    rw [← Go.Deep.add_add,hcell,hv]
end
theorem ad_add' (b o j:Nat):(⟨b,o,none⟩:Addr).add j=⟨b,o+j,none⟩:=by unfold Addr.add;split <;> simp_all
theorem list_of {α:Type} (d:α) (P:Nat→α→Prop):∀ n:Nat,(∀ i,i < n→∃ e,P i e)→∃ l:List α,l.length=n∧∀ i,i < n→P i (l.getD i d)
  | 0,_=>⟨[],rfl,fun i hi=>absurd hi (Nat.not_lt_zero _)⟩
  | n+1,h=>by
    obtain ⟨l,hl,hp⟩:=list_of d P n (fun i hi=>h i (by omega))
    obtain ⟨e,he⟩:=h n (by omega)
    refine ⟨l ++ [e],by simp [hl],fun i hi=>?_⟩
    by_cases hin:i < n
    · have:(l ++ [e]).getD i d=l.getD i d:=by simp [List.getD_eq_getElem?_getD,List.getElem?_append_left (show i < l.length by omega)]
      rw [this];exact hp i hin
    · obtain rfl:i=n:=by omega
      have:(l ++ [e]).getD i d=e:=by simp [List.getD_eq_getElem?_getD,← hl]
      rw [this];exact he
theorem wf_I64 {x:Int} (h:(Lit.int .i64 x).wf=true):I64 x:=bounds_i64 h
section
variable {H:Type} {enc:TypeId × Value→H} {w:World}
end
end Go.Proofs.Ytpoagcjpfaiidaa
namespace Go.Proofs.Ytpoagcjpfaiidaa
theorem own_knob:ownKnob Try.prog.godebug=none:=by kernel_rfl
theorem laidOut:laidOutB Try.prog=true:=by kernel_rfl
end Go.Proofs.Ytpoagcjpfaiidaa
namespace Go.Proofs.Ytpoagcjpfaiidaa
open Go.RowKit Go.ChangeShapes Go.WideShapes Go.ChangeAt Go.Deep Go.Joins
theorem ratesCells:Try.prog.cellsOf 24=3:=by kernel_rfl
theorem segCells:Try.prog.cellsOf 39=4:=by kernel_rfl
theorem labelCells:Try.prog.cellsOf 26=3:=by kernel_rfl
theorem wideCells:Try.prog.cellsOf 29=2:=by kernel_rfl
theorem cell_blk {w:World} {b o:Nat} {v:Value} (h:w.cell? ⟨b,o,none⟩=some v):∃ (cur:Array Value) (T:TypeId) (fz:Nat × Nat),w.heap[b]? = some (.cells cur T fz)∧cur[o]? = some v:=by
  unfold World.cell? at h
  simp only at h
  split at h
  · rename_i c T fz hb
    exact ⟨c,T,fz,hb,by simpa using h⟩
  · cases h
section
variable {H:Type} {enc:TypeId × Value→H} {w:World}
theorem open_segs {sl:Value} {y:DataW H × List MemPlace} {n:Nat} (h:DataW.trod enc Try.prog w 0 (fun _=>true) true n 22 [sl]=some y) :
    ∃ A c l,sl = .slice A l.length c∧SegU w (.slice A l.length c) l:=by
  rcases open_slice_fields Try.underlying22 Try.underlying39 (by kernel_rfl) segCells h with ⟨hcs,_⟩ | ⟨a,len,cap,m,D,Pl,hcs,_,hlc,hcm,hm,hx,hf⟩
  · simp only [List.cons.injEq,and_true] at hcs
    subst hcs
    exact ⟨none,0,[],rfl,none,0,rfl,Nat.le_refl _,by simp,.inl rfl⟩
  · simp only [List.cons.injEq,and_true] at hcs
    subst hcs
    simp only [if_true] at hm
    subst hm
    have hel:∀ i,i < len→∃ e:Sg,w.cell? (a.add (i*4))=some (vi e.d)∧w.cell? (a.add (i*4+1))=some (vi e.b)∧w.cell? (a.add (i*4+2))=some (vi e.f)∧w.cell? (a.add (i*4+3))=some (vi e.r):=by
      intro i hi
      obtain ⟨ys,n',_,_,_,hfj⟩:=hf i (by omega)
      obtain ⟨v0,y0,c0,_,t0⟩:=hfj 0 _ rfl
      obtain ⟨v1,y1,c1,_,t1⟩:=hfj 1 _ rfl
      obtain ⟨v2,y2,c2,_,t2⟩:=hfj 2 _ rfl
      obtain ⟨v3,y3,c3,_,t3⟩:=hfj 3 _ rfl
      obtain ⟨z0,e0,_,w0⟩:=DataW.trod_int Try.underlying3 t0
      obtain ⟨z1,e1,_,w1⟩:=DataW.trod_int Try.underlying3 t1
      obtain ⟨z2,e2,_,w2⟩:=DataW.trod_int Try.underlying3 t2
      obtain ⟨z3,e3,_,w3⟩:=DataW.trod_int Try.underlying3 t3
      simp only [List.cons.injEq,and_true] at e0 e1 e2 e3
      subst e0 e1 e2 e3
      exact ⟨⟨z0,z1,z2,z3⟩,c0,c1,c2,c3⟩
    obtain ⟨es,hl,hes⟩:=list_of (⟨0,0,0,0⟩:Sg) (fun i e=>w.cell? (a.add (i*4))=some (vi e.d)∧w.cell? (a.add (i*4+1))=some (vi e.b)∧w.cell? (a.add (i*4+2))=some (vi e.f)∧w.cell? (a.add (i*4+3))=some (vi e.r)) len hel
    subst hl
    refine ⟨some a,m,es,rfl,some a,m,rfl,by omega,by unfold maxLen at hcm;omega,?_⟩
    rcases Nat.eq_zero_or_pos es.length with h0 | h0
    · exact .inl h0
    · obtain ⟨b,off,spot⟩:=a
      have c0:=(hes 0 h0).1
      have hspot:spot=none:=by simpa [Addr.add] using World.cell?_spot c0
      subst hspot
      have c0':=c0
      rw [ad_add'] at c0'
      obtain ⟨cur,T,fz,hb,_⟩:=cell_blk c0'
      refine .inr ⟨b,off,T,cur,fz,rfl,hb,fun i hi=>?_⟩
      have get:∀ j v,w.cell? ((⟨b,off,none⟩:Addr).add j)=some v→cur[off+j]? = some v:=by
        intro j v hv
        rw [ad_add'] at hv
        obtain ⟨cur',T',fz',hb',hv'⟩:=cell_blk hv
        rw [hb] at hb'
        simp only [Option.some.injEq,Obj.cells.injEq] at hb'
        obtain ⟨rfl,_⟩:=hb'
        exact hv'
      have hq:=hes (i / 4) (by omega)
      obtain ⟨q0,q1,q2,q3⟩:=hq
      obtain ⟨j,q,hq4,rfl⟩:∃ j q,q < 4∧i=j*4+q:=⟨i / 4,i % 4,by omega,by omega⟩
      rw [show (j*4+q) / 4=j by omega] at q0 q1 q2 q3
      match q,hq4 with
      | 0,_=>rw [Nat.add_zero,sgC_0];exact get _ _ q0
      | 1,_=>rw [sgC_1];exact get _ _ q1
      | 2,_=>rw [sgC_2];exact get _ _ q2
      | 3,_=>rw [sgC_3];exact get _ _ q3
theorem open_rates {r:Reach} {b0:Nat} {v:Value} {d:DataW H} {p:List MemPlace} (hv:Value.okWide Try.prog w r b0 24 v) (h:DataW.Trod enc Try.prog w 0 (fun _=>true) true 24 v d p) :
    ∃ A c l y o,v = .agg #[.slice A l.length c,vI y,vI o]∧SegU w (.slice A l.length c) l∧I64 y∧I64 o:=by
  obtain ⟨v0,v1,v2,y0,y1,y2,n,rfl,_,hp,h0,h1,h2⟩:=open_agg3 Try.underlying24 (by kernel_rfl) ratesCells hv h
  obtain ⟨u,e0,_,w0⟩:=DataW.trod_int Try.underlying3 h1
  obtain ⟨x,e1,_,w1⟩:=DataW.trod_int Try.underlying3 h2
  simp only [List.cons.injEq,and_true] at e0 e1
  subst e0 e1
  obtain ⟨A,c,l,rfl,hl⟩:=open_segs h0
  exact ⟨A,c,l,u,x,rfl,hl,wf_I64 w0,wf_I64 w1⟩
theorem open_label {r:Reach} {b0:Nat} {v:Value} {d:DataW H} {p:List MemPlace} (hv:Value.okWide Try.prog w r b0 26 v) (h:DataW.Trod enc Try.prog w 0 (fun _=>true) true 26 v d p) :
    ∃ a b c,v=vL a b c∧I64 a∧I64 b∧I64 c:=by
  obtain ⟨v0,v1,v2,y0,y1,y2,n,rfl,_,hp,h0,h1,h2⟩:=open_agg3 Try.underlying26 (by kernel_rfl) labelCells hv h
  obtain ⟨u,e0,_,w0⟩:=DataW.trod_int Try.underlying3 h0
  obtain ⟨x,e1,_,w1⟩:=DataW.trod_int Try.underlying3 h1
  obtain ⟨y,e2,_,w2⟩:=DataW.trod_int Try.underlying3 h2
  simp only [List.cons.injEq,and_true] at e0 e1 e2
  subst e0 e1 e2
  exact ⟨u,x,y,rfl,wf_I64 w0,wf_I64 w1,wf_I64 w2⟩
theorem open_wide {r:Reach} {b0:Nat} {v:Value} {d:DataW H} {p:List MemPlace} (hv:Value.okWide Try.prog w r b0 29 v) (h:DataW.Trod enc Try.prog w 0 (fun _=>true) true 29 v d p) :
    ∃ z,v=vW z∧InW z:=by
  obtain ⟨v0,v1,y0,y1,n,rfl,_,hp,h0,h1⟩:=open_agg2 Try.underlying29 (by kernel_rfl) wideCells hv h
  obtain ⟨u,e0,_,w0⟩:=DataW.trod_int Try.underlying2 h0
  obtain ⟨x,e1,_,w1⟩:=DataW.trod_int Try.underlying27 h1
  simp only [List.cons.injEq,and_true] at e0 e1
  subst e0 e1
  have h2:=bounds_i64 w0
  have h3:=bounds_u64 w1
  refine ⟨u*18446744073709551616+x,?_,by unfold InW;omega⟩
  rw [show vW (u*18446744073709551616+x) = .agg #[.int .i64 u,.int .u64 x] by
    unfold vW hi lo
    rw [show (u*18446744073709551616+x) / 18446744073709551616=u by omega,show (u*18446744073709551616+x) % 18446744073709551616=x by omega]]
end
end Go.Proofs.Ytpoagcjpfaiidaa
namespace Go.Proofs.Ytpoagcjpfaiidaa
open Go.RowKit Go.ChangeShapes Go.WideShapes Go.ChangeAt Go.Deep Go.Joins
theorem segBytes:Try.prog.bytesOf 39=32:=by kernel_rfl
section
variable {H:Type} {enc:TypeId × Value→H} {w:World}
theorem rates_reach {r:Reach} {b0:Nat} {A:Option Addr} {c k:Nat} {z1 z2:Int} {d:DataW H} {p:List MemPlace} {Ts:List TypeId} {ds:List (DataW H)} (hsz:(DataW.weightsEach Try.prog (24 :: Ts) (d :: ds)).all (fun k=>decide (k≤reachBytes))=true)
    (hv:Value.okWide Try.prog w r b0 24 (.agg #[.slice A k c,vI z1,vI z2])) (h:DataW.Trod enc Try.prog w 0 (fun _=>true) true 24 (.agg #[.slice A k c,vI z1,vI z2]) d p) :
    k*32≤reachBytes:=by
  obtain ⟨v0,v1,v2,y0,y1,y2,n,hv',hd,_,h2,_,_⟩:=open_agg3 Try.underlying24 (by kernel_rfl) ratesCells hv h
  simp only [Value.agg.injEq,Array.mk.injEq,List.cons.injEq,and_true] at hv'
  obtain ⟨rfl,_,_⟩:=hv'
  rcases open_slice_fields Try.underlying22 Try.underlying39 (by kernel_rfl) segCells h2 with ⟨hcs,_⟩ | ⟨a,len,cap,m,D,Pl,hcs,_,hlc,hcm,hm,hx,hf⟩
  · simp only [List.cons.injEq,and_true,Value.slice.injEq] at hcs
    rw [hcs.2.1]
    simp [reachBytes]
  · simp only [List.cons.injEq,and_true,Value.slice.injEq] at hcs
    obtain ⟨_,hl,_⟩:=hcs
    simp only [if_true] at hm
    have:=List.all_eq_true.1 hsz _ (DataW.weights_mem_each (j:=0) (t:=24) rfl (by rw [hd];rfl) ((len+(m-len))*32) (by rw [hx];simp [DataW.weights,DataW.weightsEach,Try.underlying24,Try.underlying22,segBytes]))
    simp only [decide_eq_true_eq] at this
    rw [hl]
    omega
end
end Go.Proofs.Ytpoagcjpfaiidaa
namespace Go.Proofs.Ytpoagcjpfaiidaa
open Go.RowKit
attribute [local go_sem] vN bT bF rS vSg vW vM vL vT2 vT3 vP vI execOp Act.eval evC bigF vB hi_zero lo_zero Try.underlying24 Try.underlying26 Try.underlying29 Try.underlying39 Try.underlying43
theorem rtai_nil (d s a:Int):Ret 4 #[.pointer none,vL d s a] (vT2 (vW 0) (vI 12)):=by
 intro w0
 have hst:=St.start w0 (Θ:=fun _=>True) (fun _ _=>trivial)
 refine en_ Try.func4 hst 65 [(0,.pointer none),(1,vL d s a)] (fun ac H_=>?_)
 refine gq H_ 2 [[0],[1],[2]] [_,_,_] (fun E1=>[(3,vP (pb E1 0) 0),(4,vP (pb E1 1) 0)]) (W:=[{ i:=0,T:=26,c0:=[vI d,vI s,vI a] },{ i:=1,T:=29,c0:=[vI 0,.int .u64 0] }]) (s:=⟨bx3 0,al_ 1,mv3⟩) (k:=fun E1 ac wd H_=>?_)
 refine gq1 H_ 2 (tri 3) [_,bT,_] (fun _=>[(9,bT)]) (s:=⟨mv3,bi3,mv3⟩) (k:=fun E2 ac wd H_=>?_)
 refine cT3 H_ ?_
 refine gq H_ 2 (tri 3) [K_ (.agg #[vI 0,.int .u64 0]),none,_] (fun _=>[(5,vI 12)]) (S:=[⟨1,1,fun _=>[vI 0,.int .u64 0]⟩]) (s:=⟨bd30,se3 1 sh29,mv3⟩) (k:=fun E3 ac wd H_=>?_)
 refine lvCT3 (v:=.agg #[vI 0,.int .u64 0]) Try.results4 H_ 1 (loadGc sh29 rfl ⟨rfl,rfl,trivial⟩) ?_
 exact ⟨rfl,H_.st.below⟩
theorem rlabel_nil (t:Int):Ret 5 #[.pointer none,vW t] (vT2 (vL 0 0 0) (vI 12)):=by
 intro w0
 have hst:=St.start w0 (Θ:=fun _=>True) (fun _ _=>trivial)
 refine en_ Try.func5 hst 48 [(0,.pointer none),(1,vW t)] (fun ac H_=>?_)
 refine gq H_ 2 [[0],[1],[2]] [_,_,_] (fun E1=>[(3,vP (pb E1 0) 0),(4,vP (pb E1 1) 0)]) (W:=[{ i:=0,T:=29,c0:=[vI (hi (t)),.int .u64 (lo (t))] },{ i:=1,T:=26,c0:=[vI 0,vI 0,vI 0] }]) (s:=⟨bx3 0,al_ 1,mv3⟩) (k:=fun E1 ac wd H_=>?_)
 refine gq1 H_ 1 [[0],[0,1]] [_,bT] (fun _=>[(10,bT)]) (s:=⟨mv3,bi3⟩) (k:=fun E2 ac wd H_=>?_)
 refine cT3 H_ ?_
 refine gq H_ 2 (tri 3) [vL 0 0 0,none,_] (fun _=>[(5,vI 12)]) (S:=[⟨1,1,fun _=>[vI 0,vI 0,vI 0]⟩]) (s:=⟨bd30,se3 1 sh26,mv3⟩) (k:=fun E3 ac wd H_=>?_)
 refine lvCT3 (v:=vL 0 0 0) Try.results5 H_ 1 (loadGc sh26 rfl ⟨rfl,rfl,rfl,trivial⟩) ?_
 exact ⟨rfl,H_.st.below⟩
theorem rfirst_nil  : Ret 12 #[.pointer none] (vI 0):=by
 intro w0
 have hst:=St.start w0 (Θ:=fun _=>True) (fun _ _=>trivial)
 refine en_ Try.func12 hst 12 [(0,.pointer none)] (fun ac H_=>?_)
 refine gq0 H_ 0 [[0]] [_] (s:=mv3) (k:=fun E1 ac wd H_=>?_)
 refine gq1 H_ 1 [[0],[0,1]] [_,bT] (fun _=>[(4,bT)]) (s:=⟨mv3,bi3⟩) (k:=fun E2 ac wd H_=>?_)
 refine cT3 H_ ?_
 refine gq1 H_ 0 [[0]] [_] (fun _=>[(2,vI 0)]) (s:=mv3) (k:=fun E3 ac wd H_=>?_)
 refine lvT3 Try.results12 H_ ?_
 exact ⟨rfl,H_.st.below⟩
theorem seg_info:(Try.prog.info? 39).map (fun i=>(i.zero,i.size,i.bytes))=some (some (.agg #[vI 0,vI 0,vI 0,vI 0]),4,32):=by kernel_rfl
theorem may_nil (day off:Int):mayS ([]:List Sg) day off=false:=by unfold mayS szL szH wthn;simp
theorem rubberNone_walk (w0:World) (A0:Option Addr) (c0:Nat) (l:List Sg) (hl:SegU w0 (.slice A0 l.length c0) l) (day off:Int) (hd0:-9223372036854775808≤day) (hd1:day < 9223372036854775808) (hb9:l.length*32≤140737488351232) (d s a:Int) (hx0:-9223372036854775808≤d) (hx1:d < 9223372036854775808) (hx2:-9223372036854775808≤s) (hx3:s < 9223372036854775808) (hx4:-9223372036854775808≤a) (hx5:a < 9223372036854775808) (t:Int) (htw:InW t):Calls Try.prog 3 #[.agg #[.slice A0 l.length c0,vI day,vI off],vL d s a,vW t] w0 fun e w'=>e = .returned (.bool true)∧Below w0.heap.size w0 w':=by
 have hle:=RowU_le hl
 have hl9:l.length≤140737488351232:=by omega
 have hst:=St.start w0 (Θ:=fun _=>True) (fun _ _=>trivial)
 refine en_ Try.func3 hst 115 [(0,.agg #[.slice A0 l.length c0,vI day,vI off]),(1,vL d s a),(2,vW t)] (fun ac H_=>?_)
 replace H_:=H_.facts
 refine fq H_ 3 [[0],[1],[2],[3]] [_,_,_,_] (fun E1=>[(3,vP (pb E1 0) 0),(4,vP (pb E1 1) 0),(5,vP (pb E1 2) 0)]) (W:=[{ i:=0,T:=24,c0:=[.slice A0 l.length c0,vI day,vI off] },{ i:=1,T:=26,c0:=[vI d,vI s,vI a] },{ i:=2,T:=29,c0:=[vI (hi (t)),.int .u64 (lo (t))] }]) (s:=⟨bx3 0,bx3 1,bx3 2,mv3⟩) (k:=fun E1 ac wd H_=>?_)
 refine fq1 H_ 0 [[0]] [_] (fun _=>[(7,.pointer none)]) (s:=mv3) (k:=fun E2 ac wd H_=>?_)
 refine fq H_ 8 [[0],[1],[0,1,2],r_ 4,r_ 5,[0,1,2,3,5],[6],[0,1,2,3,4,6,7],r_ 9] [_,_,_,_,_,_,_,none,_] (fun _=>[(9,vI 12)]) (W:=[{ i:=6,T:=29,c0:=[vI 0,.int .u64 0],s:=some 7,c1:=fun _=>[vI (hi (0)),.int .u64 (lo (0))] }]) (s:=⟨mv3,ld3c 1 sh26,cl3 Try.func4 ((rtai_nil d s a)),mv3,xt3,xt3,al_ 3,sw3 3 6 sh29,mv3⟩) (k:=fun E3 ac wd H_=>?_)
 refine fq H_ 8 [[0],[1],[0,1,2],r_ 4,r_ 5,[0,1,2,3,5],[6],[0,1,2,3,4,6,7],r_ 9] [_,_,_,_,_,_,_,none,_] (fun _=>[(11,vI 12)]) (W:=[{ i:=6,T:=26,c0:=[vI 0,vI 0,vI 0],s:=some 7,c1:=fun _=>[vI 0,vI 0,vI 0] }]) (s:=⟨mv3,ld3b 2 sh29,cl3 Try.func5 ((rlabel_nil t)),mv3,xt3,xt3,al_ 4,sw3 4 6 sh26,mv3⟩) (k:=fun E4 ac wd H_=>?_)
 by_cases hl0:0 < l.length
 refine fq H_ 4 [[0],[1],[1,2],r_ 4,r_ 5] [KE_ fun env=>.slice (some ⟨ptrB (env 0),0,none⟩) 0 0,_,_,KE_ fun env=>.slice ((sA (env 3))) l.length ((sC (env 3))),_] (fun E5=>[(12,.slice ((sA (E5 3))) l.length ((sC (E5 3))))]) (F:=[(0,fun env w=>NewE w0.heap.size w 39 (env 0)),(3,fun env w=>OwnK 39 4 w w0.heap.size (env 3) l.length ((List.range (l.length*4)).map (sgC l)))]) (s:=⟨s_bsZ rfl rfl rfl (.buildSlice 22 0 #[]) rfl 39 rfl rfl (fun {D env ac wd} hA=>by intro o' hoq;unfold execOp;simp [go_sem,hoq,Try.underlying22]),fa3 0,ld31 0 sh22,s_apE rfl rfl rfl rfl Try.underlying22 seg_info rfl (by omega) 0 rfl rfl rfl (by omega) (fun p=>rfl) (by unfold maxLen;omega) (by omega) rfl rfl (fun _=>rfl) (A:=A0) (c:=c0) (fun _=>rfl) (fun {D env ac wd} hA=>(hl.grown hA.j.st.gr).els),mv3⟩) (k:=fun E5 ac wd H_=>?_)
 replace H_:=Cur.allThZ H_ (Θ':=fun w=>OwnK 39 4 w w0.heap.size (.slice ((sA (E5 3))) l.length ((sC (E5 3)))) l.length ((List.range (l.length*4)).map (sgC l))) (fun w hF _=>OwnK.reZ (show OwnK _ _ _ _ _ _ _ from hF.get 1 rfl))
 cases hm:mayS l day off
 refine fq1 H_ 10 [[0],[1],[1,2],[3],[3,4],r_ 6,r_ 7,r_ 8,r_ 7++[8],r_ 8++[9],r_ 11] [_,_,_,_,_,_,_,_,_,_,_] (fun _=>[(13,.pointer none),(14,vI 10)]) (s:=⟨mv3,fa3 1,ld31 0 sh3,fa3 2,ld31 0 sh3,cw3 Try.func6 fun wd hA=>rNew_no wd ((sA (E5 3))) ((sC (E5 3))) l (OwnK.rowF hl9 (hA.thO rfl)) day off hd0 hd1 hm,mv3,xt3,xt3,mv3,mv3⟩) (k:=fun E6 ac wd H_=>?_)
 replace H_:=Cur.allThZ H_ (Θ':=fun w=>OwnK 39 4 w w0.heap.size (.slice ((sA (E5 3))) l.length ((sC (E5 3)))) l.length ((List.range (l.length*4)).map (sgC l))∧(fun _=>True) w) (fun w _ h=>⟨h,trivial⟩)
 refine fq1 H_ 0 [[0]] [_] (fun _=>[(15,vI 0)]) (s:=mv3) (k:=fun E7 ac wd H_=>?_)
 refine lp3 (fun ac wd=>∃ (i:Nat) (cs:List Value),(i≤l.length∧cs.length=l.length*4)∧Cur 115 w0 none none (Facts []) (fun w=>OwnK 39 4 w w0.heap.size (.slice ((sA (E5 3))) l.length ((sC (E5 3)))) l.length cs∧(fun _=>True) w) [(3,vP (pb E1 0) 0),(4,vP (pb E1 1) 0),(7,.pointer none),(9,vI 12),(11,vI 12),(12,.slice ((sA (E5 3))) l.length ((sC (E5 3)))),(13,.pointer none),(14,vI 10),(15,vN i)] [((pb E1 0),24,[.slice A0 l.length c0,vI day,vI off]),((pb E1 1),26,[vI d,vI s,vI a]),((pb E1 2),29,[vI (hi (t)),.int .u64 (lo (t))]),((pb E3 6),29,[vI (hi (0)),.int .u64 (lo (0))]),((pb E4 6),26,[vI 0,vI 0,vI 0])] ac wd) (fun ac _=>(((l.length:Nat):Int)-sI ac 15).toNat) ⟨0,_,⟨by omega,by simp⟩,(H_.re rfl).th (fun _ h=>h)⟩ ?_
 rintro ac wd ⟨i,cs,⟨hi1,hcl⟩,H_⟩
 have hmu:sI ac 15=((i:Nat):Int):=sI_eq (H_.g (t:=15) rfl)
 by_cases h1:i < l.length
 refine fq1 H_ 3 [[0],[1],[1,2],r_ 4] [_,_,vN l.length,bT] (fun _=>[(50,bT)]) (s:=⟨mv3,mv3,ln_ Try.underlying22 fun _ env _ wd hA=>(OwnK.rowY hl9 (hA.thO rfl)).els,bi3⟩) (k:=fun E9 ac wd H_=>?_)
 refine cT3 H_ ?_
 refine fq H_ 4 [[0],[1],[2],r_ 4,r_ 5] [_,_,K_ (.agg #[vI 0,vI 0,vI 0,vI 0]),elt (.slice ((sA (E5 3))) l.length ((sC (E5 3)))) (i*4),none] (fun _=>[]) (th:=(some (4,fun _ w=>OwnK 39 4 w w0.heap.size (.slice ((sA (E5 3))) l.length ((sC (E5 3)))) l.length (((((cs).set (i*4) (vI 0)).set (i*4+1) (vI 0)).set (i*4+2) (vI 0)).set (i*4+3) (vI 0))∧(fun _=>True) w))) (T:=fun E10=>fun w=>OwnK 39 4 w w0.heap.size (.slice ((sA (E5 3))) l.length ((sC (E5 3)))) l.length (((((cs).set (i*4) (vI 0)).set (i*4+1) (vI 0)).set (i*4+2) (vI 0)).set (i*4+3) (vI 0))∧(fun _=>True) w) (s:=⟨mv3,mv3,bd30,ia_ Try.underlying22 sz39 i (i*4) ((i:Nat):Int) (fun _ env _ wd hA=>(OwnK.rowY hl9 (hA.thO rfl)).els) (rfl) (by omega) rfl,s_stF rfl rfl rfl rfl rfl rfl (fun _ _ h=>by cases h) rfl (fun _=>True) [] (fun _ _ _ h=>h) rfl rfl (fun _ h=>h) rfl i (i*4) rfl (by omega) (fun _=>rfl) (fun _=>rfl) (by simp) (st4 (by rw [hcl]) (by omega) (fun e0 e1 e2 e3 e=>st39 e0 e1 e2 e3 e))⟩) (k:=fun E10 ac wd H_=>?_)
 refine fq1 H_ 2 (tri 3) [_,vI (((i:Nat):Int)+1),_] (fun _=>[(15,vI (((i:Nat):Int)+1))]) (s:=⟨mv3,bi3,mv3⟩) (k:=fun E11 ac wd H_=>?_)
 refine then_n ?_
 exact ⟨⟨i+1,_,⟨by omega,by simp [hcl]⟩,(H_.re rfl).th (fun _ h=>h)⟩,by rw [sI_eq (H_.g (t:=15) rfl),hmu];omega⟩
 obtain rfl:i=l.length:=by omega
 refine fq1 H_ 3 [[0],[1],[1,2],r_ 4] [_,_,vN l.length,bF] (fun _=>[(50,bF)]) (s:=⟨mv3,mv3,ln_ Try.underlying22 fun _ env _ wd hA=>(OwnK.rowY hl9 (hA.thO rfl)).els,bi3⟩) (k:=fun E9 ac wd H_=>?_)
 refine cF3 H_ ?_
 replace H_:=H_.th (Θ':=fun _=>True) (fun w h=>h.2)
 refine fq H_ 1 [[0],[0,1]] [KE_ fun env=>.slice ((sA (env 0))) 13 ((sC (env 0))),_] (fun E10=>[(16,.slice ((sA (E10 0))) 13 ((sC (E10 0))))]) (F:=[(0,fun env w=>OwnK 39 4 w w0.heap.size (env 0) 13 ((List.range (13*4)).map (sgC pubS)))]) (s:=⟨s_factT rfl rfl rfl Try.func7 (by kernel_rfl) rfl (fun _=>wanted_none rfl _) (fun v w=>OwnK 39 4 w w0.heap.size v 13 ((List.range (13*4)).map (sgC pubS))) (fun v=>.slice (sA v) 13 (sC v)) rfl rfl [39] rfl (fun v w h=>h.formZ) (fun v w w' hk h=>h.keepZ hk) (fun {D env ac wd} hA=>⟨_,hA.args (vs:=[]) rfl,segOwn_up hA.j.st.gr.size⟩),mv3⟩) (k:=fun E10 ac wd H_=>?_)
 replace H_:=Cur.allThZ H_ (Θ':=fun w=>OwnK 39 4 w w0.heap.size (.slice ((sA (E10 0))) 13 ((sC (E10 0)))) 13 ((List.range (13*4)).map (sgC pubS))∧(fun _=>True) w) (fun w hF h=>⟨OwnK.reZ (show OwnK _ _ _ _ _ _ _ from hF.get 0 rfl),h⟩)
 refine fq1 H_ 0 [[0]] [_] (fun _=>[(17,vI 0)]) (s:=mv3) (k:=fun E11 ac wd H_=>?_)
 refine lp3 (fun ac wd=>∃ (i:Nat) (cs:List Value),(i≤13∧cs.length=13*4)∧Cur 115 w0 none none (Facts []) (fun w=>OwnK 39 4 w w0.heap.size (.slice ((sA (E10 0))) 13 ((sC (E10 0)))) 13 cs∧(fun _=>True) w) [(3,vP (pb E1 0) 0),(4,vP (pb E1 1) 0),(7,.pointer none),(9,vI 12),(11,vI 12),(13,.pointer none),(14,vI 10),(16,.slice ((sA (E10 0))) 13 ((sC (E10 0)))),(17,vN i)] [((pb E1 0),24,[.slice A0 l.length c0,vI day,vI off]),((pb E1 1),26,[vI d,vI s,vI a]),((pb E1 2),29,[vI (hi (t)),.int .u64 (lo (t))]),((pb E3 6),29,[vI (hi (0)),.int .u64 (lo (0))]),((pb E4 6),26,[vI 0,vI 0,vI 0])] ac wd) (fun ac _=>(((13:Nat):Int)-sI ac 17).toNat) ⟨0,_,⟨by omega,by simp⟩,(H_.re rfl).th (fun _ h=>h)⟩ ?_
 rintro ac wd ⟨i,cs,⟨hi1,hcl⟩,H_⟩
 have hmu:sI ac 17=((i:Nat):Int):=sI_eq (H_.g (t:=17) rfl)
 by_cases h1:i < 13
 refine fq1 H_ 3 [[0],[1],[1,2],r_ 4] [_,_,vI ((13:Int)),bT] (fun _=>[(61,bT)]) (s:=⟨mv3,mv3,ln_ Try.underlying22 fun _ env _ wd hA=>(OwnK.rowY (by omega) (hA.thO rfl)).els,bi3⟩) (k:=fun E13 ac wd H_=>?_)
 refine cT3 H_ ?_
 refine fq H_ 4 [[0],[1],[2],r_ 4,r_ 5] [_,_,K_ (.agg #[vI 0,vI 0,vI 0,vI 0]),elt (.slice ((sA (E10 0))) 13 ((sC (E10 0)))) (i*4),none] (fun _=>[]) (th:=(some (4,fun _ w=>OwnK 39 4 w w0.heap.size (.slice ((sA (E10 0))) 13 ((sC (E10 0)))) 13 (((((cs).set (i*4) (vI 0)).set (i*4+1) (vI 0)).set (i*4+2) (vI 0)).set (i*4+3) (vI 0))∧(fun _=>True) w))) (T:=fun E14=>fun w=>OwnK 39 4 w w0.heap.size (.slice ((sA (E10 0))) 13 ((sC (E10 0)))) 13 (((((cs).set (i*4) (vI 0)).set (i*4+1) (vI 0)).set (i*4+2) (vI 0)).set (i*4+3) (vI 0))∧(fun _=>True) w) (s:=⟨mv3,mv3,bd30,ia_ Try.underlying22 sz39 i (i*4) ((i:Nat):Int) (fun _ env _ wd hA=>(OwnK.rowY (by omega) (hA.thO rfl)).els) (rfl) (by omega) rfl,s_stF rfl rfl rfl rfl rfl rfl (fun _ _ h=>by cases h) rfl (fun _=>True) [] (fun _ _ _ h=>h) rfl rfl (fun _ h=>h) rfl i (i*4) rfl (by omega) (fun _=>rfl) (fun _=>rfl) (by simp) (st4 (by rw [hcl]) (by omega) (fun e0 e1 e2 e3 e=>st39 e0 e1 e2 e3 e))⟩) (k:=fun E14 ac wd H_=>?_)
 refine fq1 H_ 2 (tri 3) [_,vI (((i:Nat):Int)+1),_] (fun _=>[(17,vI (((i:Nat):Int)+1))]) (s:=⟨mv3,bi3,mv3⟩) (k:=fun E15 ac wd H_=>?_)
 refine then_n ?_
 exact ⟨⟨i+1,_,⟨by omega,by simp [hcl]⟩,(H_.re rfl).th (fun _ h=>h)⟩,by rw [sI_eq (H_.g (t:=17) rfl),hmu];omega⟩
 obtain rfl:i=13:=by omega
 refine fq1 H_ 3 [[0],[1],[1,2],r_ 4] [_,_,vI ((13:Int)),bF] (fun _=>[(61,bF)]) (s:=⟨mv3,mv3,ln_ Try.underlying22 fun _ env _ wd hA=>(OwnK.rowY (by omega) (hA.thO rfl)).els,bi3⟩) (k:=fun E13 ac wd H_=>?_)
 refine cF3 H_ ?_
 replace H_:=H_.th (Θ':=fun _=>True) (fun w h=>h.2)
 refine fq1 H_ 1 [[0],[0,1]] [_,bF] (fun _=>[(69,bF)]) (s:=⟨mv3,bi3⟩) (k:=fun E14 ac wd H_=>?_)
 refine cF3 H_ ?_
 refine fq1 H_ 14 (tri 15) [_,_,_,bT,bT,_,_,bT,bT,_,_,_,bT,bT,_] (fun _=>[(6,bT)]) (s:=⟨cl3 Try.func11 answers14_any,mv3,gm3,bi3 (h:=by intro env w;(first | (simp [go_sem];done) | (simp [go_sem];rfl))),pk3 (h:=by intro env w;(first | (simp [go_sem];done) | (simp [go_sem];rfl))),mv3,gm3,bi3 (h:=by intro env w;(first | (simp [go_sem];done) | (simp [go_sem];rfl))),pk3 (h:=by intro env w;(first | (simp [go_sem];done) | (simp [go_sem];rfl))),mv3,gm3,cl3 Try.func12 rfirst_nil,bi3 (h:=by intro env w;(first | (simp [go_sem];done) | (simp [go_sem];rfl))),pk3 (h:=by intro env w;(first | (simp [go_sem];done) | (simp [go_sem];rfl))),mv3⟩) (k:=fun E15 ac wd H_=>?_)
 refine lvT3 Try.results3 H_ ?_
 exact ⟨rfl,H_.st.below⟩
 have hM:=mayS_ok hm;have hL:=hM.toLOk;have n0:=hL.n0
 refine fq H_ 10 [[0],[1],[1,2],[3],[3,4],r_ 6,r_ 7,r_ 8,r_ 7++[8],r_ 8++[9],r_ 11] [_,_,_,_,_,KE_ fun env=>vT2 (vP (ptrB (tp (env 5) 0)) 0) (vI 0),_,_,_,_,_] (fun E6=>[(13,vP (ptrB (tp (E6 5) 0)) 0),(14,vI 0)]) (F:=[(5,fun env w=>NewX none w (env 5) l day off)]) (s:=⟨mv3,fa3 1,ld31 0 sh3,fa3 2,ld31 0 sh3,s_factT rfl rfl rfl Try.func6 (by kernel_rfl) rfl (fun _=>wanted_none rfl _) (fun v w=>NewX none w v l day off) newF rfl rfl [54,56] rfl (fun v w h=>h.form) (fun v w w' hk h=>h.keep hk) (fun {D env ac wd} hA=>⟨_,hA.args (vs:=[.slice ((sA (E5 3))) l.length ((sC (E5 3))),vI day,vI off]) rfl,rNew_yes wd ((sA (E5 3))) ((sC (E5 3))) l (OwnK.rowF hl9 (hA.thO rfl)) day off hd0 hd1 hm (fun k h=>by cases h)⟩),mv3,xt3,xt3,mv3,mv3⟩) (k:=fun E6 ac wd H_=>?_)
 replace H_:=Cur.allThZ H_ (Θ':=fun w=>OwnK 39 4 w w0.heap.size (.slice ((sA (E5 3))) l.length ((sC (E5 3)))) l.length ((List.range (l.length*4)).map (sgC l))∧(fun w=>IsR none w ((tp (E6 5) 0)) l day off) w) (fun w hF h=>⟨h,Facts.isR hF 0 rfl⟩)
 refine fq1 H_ 0 [[0]] [_] (fun _=>[(15,vI 0)]) (s:=mv3) (k:=fun E7 ac wd H_=>?_)
 refine lp3 (fun ac wd=>∃ (i:Nat) (cs:List Value),(i≤l.length∧cs.length=l.length*4)∧Cur 115 w0 none none (Facts []) (fun w=>OwnK 39 4 w w0.heap.size (.slice ((sA (E5 3))) l.length ((sC (E5 3)))) l.length cs∧(fun w=>IsR none w ((tp (E6 5) 0)) l day off) w) [(3,vP (pb E1 0) 0),(4,vP (pb E1 1) 0),(7,.pointer none),(9,vI 12),(11,vI 12),(12,.slice ((sA (E5 3))) l.length ((sC (E5 3)))),(13,vP (ptrB (tp (E6 5) 0)) 0),(14,vI 0),(15,vN i)] [((pb E1 0),24,[.slice A0 l.length c0,vI day,vI off]),((pb E1 1),26,[vI d,vI s,vI a]),((pb E1 2),29,[vI (hi (t)),.int .u64 (lo (t))]),((pb E3 6),29,[vI (hi (0)),.int .u64 (lo (0))]),((pb E4 6),26,[vI 0,vI 0,vI 0])] ac wd) (fun ac _=>(((l.length:Nat):Int)-sI ac 15).toNat) ⟨0,_,⟨by omega,by simp⟩,(H_.re rfl).th (fun _ h=>h)⟩ ?_
 rintro ac wd ⟨i,cs,⟨hi1,hcl⟩,H_⟩
 have hmu:sI ac 15=((i:Nat):Int):=sI_eq (H_.g (t:=15) rfl)
 by_cases h1:i < l.length
 refine fq1 H_ 3 [[0],[1],[1,2],r_ 4] [_,_,vN l.length,bT] (fun _=>[(50,bT)]) (s:=⟨mv3,mv3,ln_ Try.underlying22 fun _ env _ wd hA=>(OwnK.rowY hl9 (hA.thO rfl)).els,bi3⟩) (k:=fun E9 ac wd H_=>?_)
 refine cT3 H_ ?_
 refine fq H_ 4 [[0],[1],[2],r_ 4,r_ 5] [_,_,K_ (.agg #[vI 0,vI 0,vI 0,vI 0]),elt (.slice ((sA (E5 3))) l.length ((sC (E5 3)))) (i*4),none] (fun _=>[]) (th:=(some (4,fun _ w=>OwnK 39 4 w w0.heap.size (.slice ((sA (E5 3))) l.length ((sC (E5 3)))) l.length (((((cs).set (i*4) (vI 0)).set (i*4+1) (vI 0)).set (i*4+2) (vI 0)).set (i*4+3) (vI 0))∧(fun w=>IsR none w ((tp (E6 5) 0)) l day off) w))) (T:=fun E10=>fun w=>OwnK 39 4 w w0.heap.size (.slice ((sA (E5 3))) l.length ((sC (E5 3)))) l.length (((((cs).set (i*4) (vI 0)).set (i*4+1) (vI 0)).set (i*4+2) (vI 0)).set (i*4+3) (vI 0))∧(fun w=>IsR none w ((tp (E6 5) 0)) l day off) w) (s:=⟨mv3,mv3,bd30,ia_ Try.underlying22 sz39 i (i*4) ((i:Nat):Int) (fun _ env _ wd hA=>(OwnK.rowY hl9 (hA.thO rfl)).els) (rfl) (by omega) rfl,s_stF rfl rfl rfl rfl rfl rfl (fun _ _ h=>by cases h) rfl (fun w=>IsR none w ((tp (E6 5) 0)) l day off) [54,56] (fun _ _ hk h=>IsR.keep h hk) rfl rfl (fun _ h=>h) rfl i (i*4) rfl (by omega) (fun _=>rfl) (fun _=>rfl) (by simp) (st4 (by rw [hcl]) (by omega) (fun e0 e1 e2 e3 e=>st39 e0 e1 e2 e3 e))⟩) (k:=fun E10 ac wd H_=>?_)
 refine fq1 H_ 2 (tri 3) [_,vI (((i:Nat):Int)+1),_] (fun _=>[(15,vI (((i:Nat):Int)+1))]) (s:=⟨mv3,bi3,mv3⟩) (k:=fun E11 ac wd H_=>?_)
 refine then_n ?_
 exact ⟨⟨i+1,_,⟨by omega,by simp [hcl]⟩,(H_.re rfl).th (fun _ h=>h)⟩,by rw [sI_eq (H_.g (t:=15) rfl),hmu];omega⟩
 obtain rfl:i=l.length:=by omega
 refine fq1 H_ 3 [[0],[1],[1,2],r_ 4] [_,_,vN l.length,bF] (fun _=>[(50,bF)]) (s:=⟨mv3,mv3,ln_ Try.underlying22 fun _ env _ wd hA=>(OwnK.rowY hl9 (hA.thO rfl)).els,bi3⟩) (k:=fun E9 ac wd H_=>?_)
 refine cF3 H_ ?_
 replace H_:=H_.th (Θ':=fun w=>IsR none w ((tp (E6 5) 0)) l day off) (fun w h=>h.2)
 refine fq H_ 1 [[0],[0,1]] [KE_ fun env=>.slice ((sA (env 0))) 13 ((sC (env 0))),_] (fun E10=>[(16,.slice ((sA (E10 0))) 13 ((sC (E10 0))))]) (F:=[(0,fun env w=>OwnK 39 4 w w0.heap.size (env 0) 13 ((List.range (13*4)).map (sgC pubS)))]) (s:=⟨s_factT rfl rfl rfl Try.func7 (by kernel_rfl) rfl (fun _=>wanted_none rfl _) (fun v w=>OwnK 39 4 w w0.heap.size v 13 ((List.range (13*4)).map (sgC pubS))) (fun v=>.slice (sA v) 13 (sC v)) rfl rfl [39] rfl (fun v w h=>h.formZ) (fun v w w' hk h=>h.keepZ hk) (fun {D env ac wd} hA=>⟨_,hA.args (vs:=[]) rfl,segOwn_up hA.j.st.gr.size⟩),mv3⟩) (k:=fun E10 ac wd H_=>?_)
 replace H_:=Cur.allThZ H_ (Θ':=fun w=>OwnK 39 4 w w0.heap.size (.slice ((sA (E10 0))) 13 ((sC (E10 0)))) 13 ((List.range (13*4)).map (sgC pubS))∧(fun w=>IsR none w ((tp (E6 5) 0)) l day off) w) (fun w hF h=>⟨OwnK.reZ (show OwnK _ _ _ _ _ _ _ from hF.get 0 rfl),h⟩)
 refine fq1 H_ 0 [[0]] [_] (fun _=>[(17,vI 0)]) (s:=mv3) (k:=fun E11 ac wd H_=>?_)
 refine lp3 (fun ac wd=>∃ (i:Nat) (cs:List Value),(i≤13∧cs.length=13*4)∧Cur 115 w0 none none (Facts []) (fun w=>OwnK 39 4 w w0.heap.size (.slice ((sA (E10 0))) 13 ((sC (E10 0)))) 13 cs∧(fun w=>IsR none w ((tp (E6 5) 0)) l day off) w) [(3,vP (pb E1 0) 0),(4,vP (pb E1 1) 0),(7,.pointer none),(9,vI 12),(11,vI 12),(13,vP (ptrB (tp (E6 5) 0)) 0),(14,vI 0),(16,.slice ((sA (E10 0))) 13 ((sC (E10 0)))),(17,vN i)] [((pb E1 0),24,[.slice A0 l.length c0,vI day,vI off]),((pb E1 1),26,[vI d,vI s,vI a]),((pb E1 2),29,[vI (hi (t)),.int .u64 (lo (t))]),((pb E3 6),29,[vI (hi (0)),.int .u64 (lo (0))]),((pb E4 6),26,[vI 0,vI 0,vI 0])] ac wd) (fun ac _=>(((13:Nat):Int)-sI ac 17).toNat) ⟨0,_,⟨by omega,by simp⟩,(H_.re rfl).th (fun _ h=>h)⟩ ?_
 rintro ac wd ⟨i,cs,⟨hi1,hcl⟩,H_⟩
 have hmu:sI ac 17=((i:Nat):Int):=sI_eq (H_.g (t:=17) rfl)
 by_cases h1:i < 13
 refine fq1 H_ 3 [[0],[1],[1,2],r_ 4] [_,_,vI ((13:Int)),bT] (fun _=>[(61,bT)]) (s:=⟨mv3,mv3,ln_ Try.underlying22 fun _ env _ wd hA=>(OwnK.rowY (by omega) (hA.thO rfl)).els,bi3⟩) (k:=fun E13 ac wd H_=>?_)
 refine cT3 H_ ?_
 refine fq H_ 4 [[0],[1],[2],r_ 4,r_ 5] [_,_,K_ (.agg #[vI 0,vI 0,vI 0,vI 0]),elt (.slice ((sA (E10 0))) 13 ((sC (E10 0)))) (i*4),none] (fun _=>[]) (th:=(some (4,fun _ w=>OwnK 39 4 w w0.heap.size (.slice ((sA (E10 0))) 13 ((sC (E10 0)))) 13 (((((cs).set (i*4) (vI 0)).set (i*4+1) (vI 0)).set (i*4+2) (vI 0)).set (i*4+3) (vI 0))∧(fun w=>IsR none w ((tp (E6 5) 0)) l day off) w))) (T:=fun E14=>fun w=>OwnK 39 4 w w0.heap.size (.slice ((sA (E10 0))) 13 ((sC (E10 0)))) 13 (((((cs).set (i*4) (vI 0)).set (i*4+1) (vI 0)).set (i*4+2) (vI 0)).set (i*4+3) (vI 0))∧(fun w=>IsR none w ((tp (E6 5) 0)) l day off) w) (s:=⟨mv3,mv3,bd30,ia_ Try.underlying22 sz39 i (i*4) ((i:Nat):Int) (fun _ env _ wd hA=>(OwnK.rowY (by omega) (hA.thO rfl)).els) (rfl) (by omega) rfl,s_stF rfl rfl rfl rfl rfl rfl (fun _ _ h=>by cases h) rfl (fun w=>IsR none w ((tp (E6 5) 0)) l day off) [54,56] (fun _ _ hk h=>IsR.keep h hk) rfl rfl (fun _ h=>h) rfl i (i*4) rfl (by omega) (fun _=>rfl) (fun _=>rfl) (by simp) (st4 (by rw [hcl]) (by omega) (fun e0 e1 e2 e3 e=>st39 e0 e1 e2 e3 e))⟩) (k:=fun E14 ac wd H_=>?_)
 refine fq1 H_ 2 (tri 3) [_,vI (((i:Nat):Int)+1),_] (fun _=>[(17,vI (((i:Nat):Int)+1))]) (s:=⟨mv3,bi3,mv3⟩) (k:=fun E15 ac wd H_=>?_)
 refine then_n ?_
 exact ⟨⟨i+1,_,⟨by omega,by simp [hcl]⟩,(H_.re rfl).th (fun _ h=>h)⟩,by rw [sI_eq (H_.g (t:=17) rfl),hmu];omega⟩
 obtain rfl:i=13:=by omega
 refine fq1 H_ 3 [[0],[1],[1,2],r_ 4] [_,_,vI ((13:Int)),bF] (fun _=>[(61,bF)]) (s:=⟨mv3,mv3,ln_ Try.underlying22 fun _ env _ wd hA=>(OwnK.rowY (by omega) (hA.thO rfl)).els,bi3⟩) (k:=fun E13 ac wd H_=>?_)
 refine cF3 H_ ?_
 replace H_:=H_.th (Θ':=fun w=>IsR none w ((tp (E6 5) 0)) l day off) (fun w h=>h.2)
 refine fq1 H_ 1 [[0],[0,1]] [_,bT] (fun _=>[(69,bT)]) (s:=⟨mv3,bi3 (h:=by intro env w;(first | (simp [go_sem];done) | (simp [go_sem];rfl)))⟩) (k:=fun E14 ac wd H_=>?_)
 refine cT3 H_ ?_
 refine fq H_ 8 [[0],[1],[0,1,2],r_ 4,r_ 5,[0,1,2,3,5],[6],[0,1,2,3,4,6,7],r_ 9] [_,_,_,_,_,_,_,none,_] (fun E15=>[(18,vP (pb E15 6) 0),(19,vI (taiE l day off d s a))]) (W:=[{ i:=6,T:=29,c0:=[vI 0,.int .u64 0],s:=some 7,c1:=fun _=>[vI (hi (taiV l day off d s a)),.int .u64 (lo (taiV l day off d s a))] }]) (s:=⟨mv3,ld3c 1 sh26,cw3 Try.func4 fun wd hA=>tai_X (id (hA.thO rfl)) hL d s a hx0 hx1,mv3,xt3,xt3,al_ 5,sw3 5 6 sh29,mv3⟩) (k:=fun E15 ac wd H_=>?_)
 refine fq H_ 13 [[0],[0,1],[2],[2,3],[4],[4,5],[6],r_ 8,r_ 9,r_ 10,r_ 9++[10],[11],r_ 10++[11,12],r_ 14] [_,_,_,_,_,_,_,KE_ fun env=>vT2 (bigF (taiV l day off d s a) (tp (env 7) 0)) (vI (taiE l day off d s a)),_,_,_,_,none,_] (fun E16=>[(20,vP (pb E16 11) 0),(21,vI (taiE l day off d s a))]) (W:=[{ i:=11,T:=43,c0:=[bF,.slice none 0 0],s:=some 12,c1:=fun env=>[.bool (decide (taiV l day off d s a < 0)),rS (taiV l day off d s a) ((bA (tp (env 7) 0))) ((bC (tp (env 7) 0)))] }]) (F:=[(7,fun env w=>TaiX w0.heap.size w (env 7) (taiV l day off d s a) (taiE l day off d s a))]) (s:=⟨fa3 0,ld31 0 sh22,fa3 1,ld31 0 sh3,fa3 2,ld31 0 sh3,ld3c 1 sh26,cf_ Try.func8 (fun v w=>TaiX w0.heap.size w v (taiV l day off d s a) (taiE l day off d s a)) (taiF (taiV l day off d s a) (taiE l day off d s a)) (h:=fun _ env _ wd hA=>⟨_,toTaiX hA.j.st.gr.size (rTai_any wd A0 c0 l (hl.grown hA.j.st.gr) day off hL d s a hx0 hx1 hx2 hx3 hx4 hx5),rfl⟩),mv3,xt3,xt3,al_ 6,sw3 6 11 sh43,mv3⟩) (k:=fun E16 ac wd H_=>?_)
 by_cases he:taiE l day off d s a=0
 refine fq H_ 13 [[0],[1],[0,1,2],r_ 4,r_ 5,r_ 6,r_ 7,r_ 8,r_ 9,r_ 7++[9],r_ 11,r_ 12,r_ 13,r_ 14] [_,_,bF,_,_,bT,_,_,_,_,_,bF,bF,bF] (fun _=>[(100,bF)]) (F:=[fB w0 8 (taiV l day off d s a)]) (s:=⟨mv3,mv3,bi3 (h:=by intro env w;(first | (simp [go_sem];done) | (simp [go_sem];rfl))),mv3,gm3,bi3 (h:=by intro env w;simp [go_sem,he]),gm3 (h:=by intro env w;simp [go_sem,he]),ld3b 5 sh29,cb3 Try.func10 fun wd hA=>Of_any wd (taiV l day off d s a) (taiV_in hM d s a),ld3b 6 sh43,cw3e Try.func9 fun env wd hA=>(res_eq (Same_any wd (decide (taiV l day off d s a < 0)) (bA (env 8)) (bC (env 8)) (taiV l day off d s a) rfl (At.bigN hA 8 rfl rfl rfl)  (decide (taiV l day off d s a < 0)) (bA (tp (E16 7) 0)) (bC (tp (E16 7) 0)) (taiV l day off d s a) rfl (Facts.taiX (hA.j.st.now).1 0 rfl) ) (congrArg Value.bool (decide_eq_true rfl))),un3,pk3,pk3⟩) (k:=fun E17 ac wd H_=>?_)
 refine cF3 H_ ?_
 refine fq1 H_ 14 (tri 15) [_,_,_,bT,bT,_,_,bT,bT,_,_,_,bT,bT,_] (fun _=>[(6,bT)]) (s:=⟨cl3 Try.func11 answers14_any,mv3,gm3,bi3 (h:=by intro env w;(first | (simp [go_sem];done) | (simp [go_sem];rfl))),pk3 (h:=by intro env w;(first | (simp [go_sem];done) | (simp [go_sem];rfl))),mv3,gm3,bi3 (h:=by intro env w;(first | (simp [go_sem];done) | (simp [go_sem];rfl))),pk3 (h:=by intro env w;(first | (simp [go_sem];done) | (simp [go_sem];rfl))),mv3,gm3,cl3 Try.func12 rfirst_nil,bi3 (h:=by intro env w;(first | (simp [go_sem];done) | (simp [go_sem];rfl))),pk3 (h:=by intro env w;(first | (simp [go_sem];done) | (simp [go_sem];rfl))),mv3⟩) (k:=fun E18 ac wd H_=>?_)
 refine lvT3 Try.results3 H_ ?_
 exact ⟨rfl,H_.st.below⟩
 refine fq1 H_ 13 [[0],[1],[0,1,2],r_ 4,r_ 5,r_ 6,r_ 7,r_ 8,r_ 9,r_ 7++[9],r_ 11,r_ 12,r_ 13,r_ 14] [_,_,bF,_,_,bF,_,_,_,_,_,_,bF,bF] (fun _=>[(100,bF)]) (s:=⟨mv3,mv3,bi3 (h:=by intro env w;(first | (simp [go_sem];done) | (simp [go_sem];rfl))),mv3,gm3,bi3 (h:=by intro env w;simp [go_sem,he]),gm3 (h:=by intro env w;simp [go_sem,he]),off_,off_,off_,off_,off_,pk3,pk3⟩) (k:=fun E17 ac wd H_=>?_)
 refine cF3 H_ ?_
 refine fq1 H_ 14 (tri 15) [_,_,_,bT,bT,_,_,bT,bT,_,_,_,bT,bT,_] (fun _=>[(6,bT)]) (s:=⟨cl3 Try.func11 answers14_any,mv3,gm3,bi3 (h:=by intro env w;(first | (simp [go_sem];done) | (simp [go_sem];rfl))),pk3 (h:=by intro env w;(first | (simp [go_sem];done) | (simp [go_sem];rfl))),mv3,gm3,bi3 (h:=by intro env w;(first | (simp [go_sem];done) | (simp [go_sem];rfl))),pk3 (h:=by intro env w;(first | (simp [go_sem];done) | (simp [go_sem];rfl))),mv3,gm3,cl3 Try.func12 rfirst_nil,bi3 (h:=by intro env w;(first | (simp [go_sem];done) | (simp [go_sem];rfl))),pk3 (h:=by intro env w;(first | (simp [go_sem];done) | (simp [go_sem];rfl))),mv3⟩) (k:=fun E18 ac wd H_=>?_)
 refine lvT3 Try.results3 H_ ?_
 exact ⟨rfl,H_.st.below⟩
 obtain rfl:l=[]:=List.eq_nil_of_length_eq_zero (by omega);have hm:=may_nil day off
 refine fq H_ 4 [[0],[1],[1,2],r_ 4,r_ 5] [KE_ fun env=>.slice (some ⟨ptrB (env 0),0,none⟩) 0 0,_,_,KE_ fun env=>.slice ((some ⟨ptrB (env 0),0,none⟩)) 0 0,_] (fun E5=>[(12,.slice ((some ⟨ptrB (E5 0),0,none⟩)) 0 0)]) (F:=[(0,fun env w=>NewE w0.heap.size w 39 (env 0))]) (s:=⟨s_bsZ rfl rfl rfl (.buildSlice 22 0 #[]) rfl 39 rfl rfl (fun {D env ac wd} hA=>by intro o' hoq;unfold execOp;simp [go_sem,hoq,Try.underlying22]),fa3 0,ld31 0 sh22,s_apE0 rfl rfl rfl rfl Try.underlying22 (k:=4) (by kernel_rfl) (vb:=fun env=>ptrB (env 0)) rfl (fun _=>rfl) (A:=A0) (c:=c0) (fun _=>rfl),mv3⟩) (k:=fun E5 ac wd H_=>?_)
 refine fq1 H_ 10 [[0],[1],[1,2],[3],[3,4],r_ 6,r_ 7,r_ 8,r_ 7++[8],r_ 8++[9],r_ 11] [_,_,_,_,_,_,_,_,_,_,_] (fun _=>[(13,.pointer none),(14,vI 10)]) (s:=⟨mv3,fa3 1,ld31 0 sh3,fa3 2,ld31 0 sh3,cw3 Try.func6 fun wd hA=>rNew_no wd ((some ⟨ptrB (E5 0),0,none⟩)) 0 ([]:List Sg) (RowU.zero wd (some ⟨ptrB (E5 0),0,none⟩) 4 0 (sgC ([]:List Sg))) day off hd0 hd1 hm,mv3,xt3,xt3,mv3,mv3⟩) (k:=fun E6 ac wd H_=>?_)
 replace H_:=Cur.allThZ H_ (Θ':=fun _=>True) (fun w _ _=>trivial)
 refine fq1 H_ 0 [[0]] [_] (fun _=>[(15,vI 0)]) (s:=mv3) (k:=fun E7 ac wd H_=>?_)
 refine lp3 (fun ac wd=>∃ i:Nat,i=0∧Cur 115 w0 none none (Facts []) (fun _=>True) [(3,vP (pb E1 0) 0),(4,vP (pb E1 1) 0),(7,.pointer none),(9,vI 12),(11,vI 12),(12,.slice ((some ⟨ptrB (E5 0),0,none⟩)) 0 0),(13,.pointer none),(14,vI 10),(15,vI 0)] [((pb E1 0),24,[.slice A0 (([]:List Sg).length) c0,vI day,vI off]),((pb E1 1),26,[vI d,vI s,vI a]),((pb E1 2),29,[vI (hi (t)),.int .u64 (lo (t))]),((pb E3 6),29,[vI (hi (0)),.int .u64 (lo (0))]),((pb E4 6),26,[vI 0,vI 0,vI 0])] ac wd) (fun ac _=>0) ⟨0,rfl,(H_.re rfl).th (fun _ h=>h)⟩ ?_
 rintro ac wd ⟨i,hi1,H_⟩
 refine fq1 H_ 3 [[0],[1],[1,2],r_ 4] [_,_,vI ((0:Int)),bF] (fun _=>[(50,bF)]) (s:=⟨mv3,mv3,ln_ Try.underlying22 fun _ env _ wd hA=>(RowU.zero wd (some ⟨ptrB (E5 0),0,none⟩) 4 0 (sgC ([]:List Sg))).els,bi3⟩) (k:=fun E9 ac wd H_=>?_)
 refine cF3 H_ ?_
 refine fq H_ 1 [[0],[0,1]] [KE_ fun env=>.slice ((sA (env 0))) 13 ((sC (env 0))),_] (fun E10=>[(16,.slice ((sA (E10 0))) 13 ((sC (E10 0))))]) (F:=[(0,fun env w=>OwnK 39 4 w w0.heap.size (env 0) 13 ((List.range (13*4)).map (sgC pubS)))]) (s:=⟨s_factT rfl rfl rfl Try.func7 (by kernel_rfl) rfl (fun _=>wanted_none rfl _) (fun v w=>OwnK 39 4 w w0.heap.size v 13 ((List.range (13*4)).map (sgC pubS))) (fun v=>.slice (sA v) 13 (sC v)) rfl rfl [39] rfl (fun v w h=>h.formZ) (fun v w w' hk h=>h.keepZ hk) (fun {D env ac wd} hA=>⟨_,hA.args (vs:=[]) rfl,segOwn_up hA.j.st.gr.size⟩),mv3⟩) (k:=fun E10 ac wd H_=>?_)
 replace H_:=Cur.allThZ H_ (Θ':=fun w=>OwnK 39 4 w w0.heap.size (.slice ((sA (E10 0))) 13 ((sC (E10 0)))) 13 ((List.range (13*4)).map (sgC pubS))∧(fun _=>True) w) (fun w hF h=>⟨OwnK.reZ (show OwnK _ _ _ _ _ _ _ from hF.get 0 rfl),h⟩)
 refine fq1 H_ 0 [[0]] [_] (fun _=>[(17,vI 0)]) (s:=mv3) (k:=fun E11 ac wd H_=>?_)
 refine lp3 (fun ac wd=>∃ (i:Nat) (cs:List Value),(i≤13∧cs.length=13*4)∧Cur 115 w0 none none (Facts []) (fun w=>OwnK 39 4 w w0.heap.size (.slice ((sA (E10 0))) 13 ((sC (E10 0)))) 13 cs∧(fun _=>True) w) [(3,vP (pb E1 0) 0),(4,vP (pb E1 1) 0),(7,.pointer none),(9,vI 12),(11,vI 12),(13,.pointer none),(14,vI 10),(16,.slice ((sA (E10 0))) 13 ((sC (E10 0)))),(17,vN i)] [((pb E1 0),24,[.slice A0 (([]:List Sg).length) c0,vI day,vI off]),((pb E1 1),26,[vI d,vI s,vI a]),((pb E1 2),29,[vI (hi (t)),.int .u64 (lo (t))]),((pb E3 6),29,[vI (hi (0)),.int .u64 (lo (0))]),((pb E4 6),26,[vI 0,vI 0,vI 0])] ac wd) (fun ac _=>(((13:Nat):Int)-sI ac 17).toNat) ⟨0,_,⟨by omega,by simp⟩,(H_.re rfl).th (fun _ h=>h)⟩ ?_
 rintro ac wd ⟨i,cs,⟨hi1,hcl⟩,H_⟩
 have hmu:sI ac 17=((i:Nat):Int):=sI_eq (H_.g (t:=17) rfl)
 by_cases h1:i < 13
 refine fq1 H_ 3 [[0],[1],[1,2],r_ 4] [_,_,vI ((13:Int)),bT] (fun _=>[(61,bT)]) (s:=⟨mv3,mv3,ln_ Try.underlying22 fun _ env _ wd hA=>(OwnK.rowY (by omega) (hA.thO rfl)).els,bi3⟩) (k:=fun E13 ac wd H_=>?_)
 refine cT3 H_ ?_
 refine fq H_ 4 [[0],[1],[2],r_ 4,r_ 5] [_,_,K_ (.agg #[vI 0,vI 0,vI 0,vI 0]),elt (.slice ((sA (E10 0))) 13 ((sC (E10 0)))) (i*4),none] (fun _=>[]) (th:=(some (4,fun _ w=>OwnK 39 4 w w0.heap.size (.slice ((sA (E10 0))) 13 ((sC (E10 0)))) 13 (((((cs).set (i*4) (vI 0)).set (i*4+1) (vI 0)).set (i*4+2) (vI 0)).set (i*4+3) (vI 0))∧(fun _=>True) w))) (T:=fun E14=>fun w=>OwnK 39 4 w w0.heap.size (.slice ((sA (E10 0))) 13 ((sC (E10 0)))) 13 (((((cs).set (i*4) (vI 0)).set (i*4+1) (vI 0)).set (i*4+2) (vI 0)).set (i*4+3) (vI 0))∧(fun _=>True) w) (s:=⟨mv3,mv3,bd30,ia_ Try.underlying22 sz39 i (i*4) ((i:Nat):Int) (fun _ env _ wd hA=>(OwnK.rowY (by omega) (hA.thO rfl)).els) (rfl) (by omega) rfl,s_stF rfl rfl rfl rfl rfl rfl (fun _ _ h=>by cases h) rfl (fun _=>True) [] (fun _ _ _ h=>h) rfl rfl (fun _ h=>h) rfl i (i*4) rfl (by omega) (fun _=>rfl) (fun _=>rfl) (by simp) (st4 (by rw [hcl]) (by omega) (fun e0 e1 e2 e3 e=>st39 e0 e1 e2 e3 e))⟩) (k:=fun E14 ac wd H_=>?_)
 refine fq1 H_ 2 (tri 3) [_,vI (((i:Nat):Int)+1),_] (fun _=>[(17,vI (((i:Nat):Int)+1))]) (s:=⟨mv3,bi3,mv3⟩) (k:=fun E15 ac wd H_=>?_)
 refine then_n ?_
 exact ⟨⟨i+1,_,⟨by omega,by simp [hcl]⟩,(H_.re rfl).th (fun _ h=>h)⟩,by rw [sI_eq (H_.g (t:=17) rfl),hmu];omega⟩
 obtain rfl:i=13:=by omega
 refine fq1 H_ 3 [[0],[1],[1,2],r_ 4] [_,_,vI ((13:Int)),bF] (fun _=>[(61,bF)]) (s:=⟨mv3,mv3,ln_ Try.underlying22 fun _ env _ wd hA=>(OwnK.rowY (by omega) (hA.thO rfl)).els,bi3⟩) (k:=fun E13 ac wd H_=>?_)
 refine cF3 H_ ?_
 replace H_:=H_.th (Θ':=fun _=>True) (fun w h=>h.2)
 refine fq1 H_ 1 [[0],[0,1]] [_,bF] (fun _=>[(69,bF)]) (s:=⟨mv3,bi3⟩) (k:=fun E14 ac wd H_=>?_)
 refine cF3 H_ ?_
 refine fq1 H_ 14 (tri 15) [_,_,_,bT,bT,_,_,bT,bT,_,_,_,bT,bT,_] (fun _=>[(6,bT)]) (s:=⟨cl3 Try.func11 answers14_any,mv3,gm3,bi3 (h:=by intro env w;(first | (simp [go_sem];done) | (simp [go_sem];rfl))),pk3 (h:=by intro env w;(first | (simp [go_sem];done) | (simp [go_sem];rfl))),mv3,gm3,bi3 (h:=by intro env w;(first | (simp [go_sem];done) | (simp [go_sem];rfl))),pk3 (h:=by intro env w;(first | (simp [go_sem];done) | (simp [go_sem];rfl))),mv3,gm3,cl3 Try.func12 rfirst_nil,bi3 (h:=by intro env w;(first | (simp [go_sem];done) | (simp [go_sem];rfl))),pk3 (h:=by intro env w;(first | (simp [go_sem];done) | (simp [go_sem];rfl))),mv3⟩) (k:=fun E15 ac wd H_=>?_)
 refine lvT3 Try.results3 H_ ?_
 exact ⟨rfl,H_.st.below⟩
end Go.Proofs.Ytpoagcjpfaiidaa
