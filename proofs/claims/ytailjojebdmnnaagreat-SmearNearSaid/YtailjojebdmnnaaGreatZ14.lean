/- Texts R0, R1, R5 of one proof, one behind the other; what nothing here names is left out. -/
import Derived.Test.YtailjojebdmnnaaGreatZ2
import Derived.ProofKit
import Derived.OpenShut
import Derived.ChangeOld
import Derived.Lib.SmallJoins
import Derived.Deep.Slices
import Derived.Deep.Fields
import Derived.ChangeSame
import Derived.Test.YtailjojebdmnnaaGreatZ9
set_option maxRecDepth 100000
set_option maxHeartbeats 8000000
set_option linter.unusedVariables false
set_option linter.unusedSimpArgs false
namespace Go.Proofs.YtailjojebdmnnaaGreat
open Go.RowKit Go.ChangeShapes Go.WideShapes Go.ChangeAt Go.Deep Go.Joins
section
variable {H:Type} {enc:TypeId × Value→H} {P:Program} {w:World} {base:Nat} {spare:Nat→Bool} {held:Bool}
theorem open_slice_fields {t e:TypeId} {fs:Array Field} {fuel:Nat} {cs:List Value} {x:DataW H × List MemPlace} (ht:P.underlying t=some (.slice e)) (he:P.underlying e=some (.struct fs))
    (hone:oneCellFields P fs=true) (hC:P.cellsOf e=fs.size) (h:DataW.trod enc P w base spare held fuel t cs=some x) :
    (cs=[.slice none 0 0]∧x=(.nil,[])) ∨
    ∃ (a:Addr) (len cap m:Nat) (D:Nat→DataW H) (Pl:Nat→List MemPlace),cs=[.slice (some a) len cap]∧base≤a.block∧len≤cap∧cap≤maxLen∧m=(if spare a.block then cap else len) ∧
      x=(.slice ((List.range len).map D) ((List.range (m-len)).map fun j=>D (len+j)),MemPlace.row a (m*fs.size) ++ (List.range m).flatMap Pl) ∧
      ∀ i,i < m→∃ (ys:List (DataW H × List MemPlace)) (n:Nat),D i = .agg (ys.map (·.1))∧Pl i=ys.flatMap (·.2)∧ys.length=fs.size ∧
        ∀ (j:Nat) (f:Field),fs[j]? = some f→∃ (v:Value) (y:DataW H × List MemPlace),w.cell? (a.add (i*fs.size+j))=some v∧ys[j]? = some y∧DataW.trod enc P w base spare held n f.type [v]=some y:=by
  rcases open_slice ht h with h0 | ⟨a,len,cap,m,n,D,Pl,hcs,hb,hl,hm,hmm,hx,hi⟩
  · exact .inl h0
  · refine .inr ⟨a,len,cap,m,D,Pl,hcs,hb,hl,hm,hmm,by rw [hC] at hx;exact hx,fun i him=>?_⟩
    obtain ⟨cs',hc,ht'⟩:=hi i him
    rw [hC] at hc
    obtain ⟨ys,n',hn',hy,hlen,hyl,hf⟩:=DataW.trod_struct he ht'
    obtain ⟨_,hcl,hat⟩:=World.cells?_some hc
    simp only [Prod.mk.injEq] at hy
    refine ⟨ys,n',hy.1,hy.2,hyl,fun j f hj=>?_⟩
    obtain ⟨ho,hk⟩:=hone_of hone j f hj
    have hjl:j < fs.size:=(Array.getElem?_eq_some_iff.1 hj).1
    have hcell:=hat j hjl
    have hv:cs'[j]? = some (cs'[j]'(by omega)):=List.getElem?_eq_getElem (by omega)
    have h1:=hf j f hj
    rw [ho,hk] at h1
    have hone':(cs'.drop j).take 1=[cs'[j]'(by omega)]:=by
      rw [List.drop_eq_getElem_cons (by omega)]
      rfl
    rw [hone'] at h1
    have hys:ys[j]? = some (ys[j]'(by omega)):=List.getElem?_eq_getElem (by omega)
    refine ⟨_,_,?_,hys,h1.trans hys⟩
    rw [← Go.Deep.add_add,hcell,hv]
end
theorem ad_add' (b o j:Nat):(⟨b,o,none⟩:Addr).add j=⟨b,o+j,none⟩:=by unfold Addr.add;split <;> simp_all
theorem list_of {α:Type} (d:α) (P:Nat→α→Prop):∀ n:Nat,(∀ i,i < n→∃ e,P i e)→∃ l:List α,l.length=n∧∀ i,i < n→P i (l.getD i d)
  | 0,_=>⟨[],rfl,fun i hi=>absurd hi (Nat.not_lt_zero _)⟩
  | n+1,h=>by
    obtain ⟨l,hl,hp⟩:=list_of d P n (fun i hi=>h i (by omega))
    obtain ⟨e,he⟩:=h n (by omega)
    refine ⟨l ++ [e],by simp [hl],fun i hi=>?_⟩
    by_cases hin:i < n
    · have:(l ++ [e]).getD i d=l.getD i d:=by simp [List.getD_eq_getElem?_getD,List.getElem?_append_left (show i < l.length by omega)]
      rw [this];exact hp i hin
    · obtain rfl:i=n:=by omega
      have:(l ++ [e]).getD i d=e:=by simp [List.getD_eq_getElem?_getD,← hl]
      rw [this];exact he
theorem wf_I64 {x:Int} (h:(Lit.int .i64 x).wf=true):I64 x:=bounds_i64 h
theorem tableCells:Tryz.prog.cellsOf 24=3:=by kernel_rfl
theorem entryCells:Tryz.prog.cellsOf 44=2:=by kernel_rfl
section
variable {H:Type} {enc:TypeId × Value→H} {w:World}
theorem open_entries {sl:Value} {y:DataW H × List MemPlace} {n:Nat} (h:DataW.trod enc Tryz.prog w 0 (fun _=>true) true n 22 [sl]=some y) (hlt:∀ p∈y.2,p.block < w.heap.size) :
    ∃ es,Ents w w.heap.size sl es∧∀ i,I64 (es.getD i (0,0)).1∧I64 (es.getD i (0,0)).2:=by
  rcases open_slice_fields Tryz.underlying22 Tryz.underlying44 (by kernel_rfl) entryCells h with ⟨hcs,_⟩ | ⟨a,len,cap,m,D,Pl,hcs,_,hlc,hcm,hm,hx,hf⟩
  · simp only [List.cons.injEq,and_true] at hcs
    subst hcs
    exact ⟨[],⟨none,0,rfl,Nat.le_refl _,by omega,fun h=>absurd h (by simp)⟩,fun i=>by simp [I64]⟩
  · simp only [List.cons.injEq,and_true] at hcs
    subst hcs
    simp only [if_true] at hm
    subst hm
    have hel:∀ i,i < len→∃ e:Int × Int,I64 e.1∧I64 e.2∧w.cell? (a.add (i*2))=some (.int .i64 e.1)∧w.cell? (a.add (i*2+1))=some (.int .i64 e.2):=by
      intro i hi
      obtain ⟨ys,n',_,_,_,hfj⟩:=hf i (by omega)
      obtain ⟨v0,y0,c0,_,t0⟩:=hfj 0 _ rfl
      obtain ⟨v1,y1,c1,_,t1⟩:=hfj 1 _ rfl
      obtain ⟨z0,e0,_,w0⟩:=DataW.trod_int Tryz.underlying3 t0
      obtain ⟨z1,e1,_,w1⟩:=DataW.trod_int Tryz.underlying3 t1
      simp only [List.cons.injEq,and_true] at e0 e1
      subst e0 e1
      exact ⟨(z0,z1),wf_I64 w0,wf_I64 w1,c0,c1⟩
    obtain ⟨es,hl,hes⟩:=list_of (0,0) (fun i e=>I64 e.1∧I64 e.2∧w.cell? (a.add (i*2))=some (.int .i64 e.1)∧w.cell? (a.add (i*2+1))=some (.int .i64 e.2)) len hel
    refine ⟨es,⟨some a,m,by rw [hl],by omega,by unfold maxLen at hcm;omega,fun hp=>?_⟩,fun i=>?_⟩
    · obtain ⟨b,off,spot⟩:=a
      have c0:=(hes 0 (by omega)).2.2.1
      have hspot:spot=none:=by simpa [Addr.add] using World.cell?_spot c0
      subst hspot
      refine ⟨b,off,rfl,?_,fun i hi=>?_⟩
      · have:=World.block_lt_of_cell? _ _ c0
        simpa [Addr.add] using this
      · have:=hes i (by omega)
        rw [ad_add',ad_add'] at this
        exact ⟨this.2.2.1,by rw [Nat.add_assoc];exact this.2.2.2⟩
    · by_cases hi:i < len
      · exact ⟨(hes i hi).1,(hes i hi).2.1⟩
      · have:es.getD i (0,0)=(0,0):=by simp [List.getD_eq_getElem?_getD,List.getElem?_eq_none (show es.length≤i by omega)]
        rw [this];simp [I64]
theorem open_table {r:Reach} {b0:Nat} {v:Value} {d:DataW H} {p:List MemPlace} (hv:Value.okWide Tryz.prog w r b0 24 v) (h:DataW.Trod enc Tryz.prog w 0 (fun _=>true) true 24 v d p) (hlt:∀ q∈p,q.block < w.heap.size) :
    ∃ u x sl es,v = .agg #[.int .i64 u,.int .i64 x,sl]∧I64 u∧I64 x∧Ents w w.heap.size sl es∧∀ i,I64 (es.getD i (0,0)).1∧I64 (es.getD i (0,0)).2:=by
  obtain ⟨v0,v1,v2,y0,y1,y2,n,rfl,_,hp,h0,h1,h2⟩:=open_agg3 Tryz.underlying24 (by kernel_rfl) tableCells hv h
  obtain ⟨u,e0,_,w0⟩:=DataW.trod_int Tryz.underlying3 h0
  obtain ⟨x,e1,_,w1⟩:=DataW.trod_int Tryz.underlying3 h1
  simp only [List.cons.injEq,and_true] at e0 e1
  subst e0 e1
  obtain ⟨es,hE,hI⟩:=open_entries h2 (fun q hq=>hlt q (by rw [hp];simp [hq]))
  exact ⟨u,x,v2,es,rfl,wf_I64 w0,wf_I64 w1,hE,hI⟩
end
end Go.Proofs.YtailjojebdmnnaaGreat
namespace Go.Proofs.YtailjojebdmnnaaGreat
theorem own_knob:ownKnob Tryz.prog.godebug=none:=by kernel_rfl
theorem laidOut:laidOutB Tryz.prog=true:=by kernel_rfl
end Go.Proofs.YtailjojebdmnnaaGreat
namespace Go.Proofs.YtailjojebdmnnaaGreat
open Go.RowKit Go.ChangeShapes Go.WideShapes Go.ChangeAt Go.Deep Go.Joins
theorem wideCells:Tryz.prog.cellsOf 27=2:=by kernel_rfl
section
variable {H:Type} {enc:TypeId × Value→H} {w:World}
theorem open_wide {r:Reach} {b0:Nat} {v:Value} {d:DataW H} {p:List MemPlace} (hv:Value.okWide Tryz.prog w r b0 27 v) (h:DataW.Trod enc Tryz.prog w 0 (fun _=>true) true 27 v d p) :
    ∃ z,v=vW z∧InW z:=by
  obtain ⟨v0,v1,y0,y1,n,rfl,_,hp,h0,h1⟩:=open_agg2 Tryz.underlying27 (by kernel_rfl) wideCells hv h
  obtain ⟨u,e0,_,w0⟩:=DataW.trod_int Tryz.underlying2 h0
  obtain ⟨x,e1,_,w1⟩:=DataW.trod_int Tryz.underlying25 h1
  simp only [List.cons.injEq,and_true] at e0 e1
  subst e0 e1
  have h2:=bounds_i64 w0
  have h3:=bounds_u64 w1
  refine ⟨u*18446744073709551616+x,?_,by unfold InW;omega⟩
  rw [show vW (u*18446744073709551616+x) = .agg #[.int .i64 u,.int .u64 x] by
    unfold vW hi lo
    rw [show (u*18446744073709551616+x) / 18446744073709551616=u by omega,show (u*18446744073709551616+x) % 18446744073709551616=x by omega]]
end
end Go.Proofs.YtailjojebdmnnaaGreat
