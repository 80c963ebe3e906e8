/- Texts L1, L2, L3, M0, L4, M1, L5, N1, N0, L6, P1, M2, N2, E5 of one proof, one behind the other; what nothing here names is left out. -/
import Derived.Test.YtailjojebdmnnaaGreatZ1
import Derived.Orders
import Derived.RegionTactic
import Derived.Scope
import Derived.IntWalk
import Derived.Maps.AppendAt
import Derived.Laws.MakeOwn
import Derived.Laws.OwnMore
set_option maxRecDepth 100000
set_option maxHeartbeats 8000000
set_option linter.unusedVariables false
set_option linter.unusedSimpArgs false
namespace Go.Proofs.YtailjojebdmnnaaGreat
open Go.RowKit
def upB (D:Nat→Bool) (i:Nat):Nat→Bool:=fun j=>if j=i then true else D j
theorem upB_self (D:Nat→Bool) (i:Nat):upB D i i=true:=by simp [upB]
theorem upB_ne {D:Nat→Bool} {i j:Nat} (h:j≠i):upB D i j=D j:=by simp [upB,h]
theorem upB_mono {D:Nat→Bool} {i j:Nat} (h:D j=true):upB D i j=true:=by unfold upB;split <;> simp [h]
def clOk (ops:Array Oper) (cl:List (List Nat)):Bool:=
  (List.range ops.size).all fun i=>(cl.getD i []).contains i && match ops[i]? with
    | some o=>o.after.all (fun e=>!Region.binds .any e || decide (e.on < i)) && (cl.getD i []).all fun k=>k == i || o.after.any fun e=>Region.binds .any e && (cl.getD e.on []).contains k
    | none=>true
def Shut' (cl:List (List Nat)) (D:Nat→Bool):Prop:=∀ j,D j=true→∀ k∈cl.getD j [],D k=true
theorem clOk_row {ops:Array Oper} {cl:List (List Nat)} (h:clOk ops cl=true) {i:Nat} {o:Oper} (ho:ops[i]? = some o) :
    i∈cl.getD i []∧(∀ e∈o.after,Region.binds .any e=true→e.on < i)∧∀ k∈cl.getD i [],k=i∨∃ e∈o.after,Region.binds .any e=true∧k∈cl.getD e.on []:=by
  have hi:i < ops.size:=(Array.getElem?_eq_some_iff.1 ho).1
  have h1:=List.all_eq_true.1 h i (List.mem_range.2 hi)
  rw [ho] at h1
  simp only [Bool.and_eq_true,List.all_eq_true,Array.all_eq_true_iff_forall_mem,Bool.or_eq_true,Bool.not_eq_true',decide_eq_true_eq,beq_iff_eq,Array.any_eq_true',List.contains_iff_mem] at h1
  refine ⟨h1.1,fun e he hb=>?_,fun k hk=>?_⟩
  · rcases h1.2.1 e he with h | h
    · rw [hb] at h;cases h
    · exact h
  · rcases h1.2.2 k hk with h | ⟨e,he,hb,hc⟩
    · exact .inl h
    · exact .inr ⟨e,he,hb,hc⟩
theorem shut_up {ops:Array Oper} {cl:List (List Nat)} (h:clOk ops cl=true) {D:Nat→Bool} (hD:Shut' cl D) {i:Nat} {o:Oper} (ho:ops[i]? = some o) (hr:∀ e∈o.after,Region.binds .any e=true→D e.on=true):Shut' cl (upB D i):=by
  obtain ⟨_,_,hk⟩:=clOk_row h ho
  intro j hj k hkj
  by_cases hji:j=i
  · subst hji
    rcases hk k hkj with rfl | ⟨e,he,hb,hc⟩
    · exact upB_self _ _
    · exact upB_mono (hD e.on (hr e he hb) k hc)
  · rw [upB_ne hji] at hj
    exact upB_mono (hD j hj k hkj)
section
variable {P:Program} {ops:Array Oper} {Q:Exit→Act→World→Prop} {cl:List (List Nat)} {I:(Nat→Bool)→Act→World→Prop}
def Step1 (P:Program) (ops:Array Oper) (Q:Exit→Act→World→Prop) (cl:List (List Nat)) (I:(Nat→Bool)→Act→World→Prop) (i:Nat):Prop:=
  ∀ o,ops[i]? = some o→∀ D a w,I D a w→D i=false→(∀ j∈cl.getD i [],j≠i→D j=true)→(∀ j,D j=true→i ∉ cl.getD j []) →
    ∀ K:Act→World→Prop,(∀ a' w',I (upB D i) a' w'→K a' w')→if Region.wanted o (yielded ops a.tmps)=true then Oper.wp P o a w K Q else K (a.put o.dst undef) w
theorem step1_op (hcl:clOk ops cl=true) {i:Nat} {o:Oper} (ho:ops[i]? = some o) (hs:Step1 P ops Q cl I i) {D:Nat→Bool} {a:Act} {w:World} (hI:I D a w) (hD:Shut' cl D) (hi:D i=false) (hr:∀ e∈o.after,Region.binds .any e=true→D e.on=true) {K:Act→World→Prop} (hK:∀ a' w',I (upB D i) a' w'→K a' w'):wpOp P ops Q i K a w:=by
  obtain ⟨h1,h2,h3⟩:=clOk_row hcl ho
  refine wpOp_step ho (fun K' hK'=>hs o ho D a w hI hi (fun j hj hne=>?_) (fun j hj hm=>?_) K' (fun a' w' h=>hK' a' w' (hK a' w' h)))
  · rcases h3 j hj with h | ⟨e,he,hb,hc⟩
    · exact absurd h hne
    · exact hD e.on (hr e he hb) j hc
  · have:=hD j hj i hm
    rw [hi] at this;cases this
theorem blt_yes {i n:Nat} (h:i < n):Nat.blt i n=true:=by unfold Nat.blt;exact Nat.ble_eq_true_of_le h
theorem blt_no {i n:Nat} (h:¬ i < n):Nat.blt i n=false:=by
  cases h2:Nat.blt i n with
  | false=>rfl
  | true=>unfold Nat.blt at h2;exact absurd (Nat.le_of_ble_eq_true h2) h
theorem listed_all {listed:Array Bool} {n:Nat} (hsz:listed.size=n) (h:∀ i,i < n→listed.getD i false=true) (j:Nat):listed.getD j false=Nat.blt j n:=by
  by_cases hj:j < n
  · rw [h j hj,blt_yes hj]
  · rw [blt_no hj]
    have:¬ j < listed.size:=by omega
    simp [Array.getD,this]
theorem inv_any (hcl:clOk ops cl=true) (hs:∀ i,i < ops.size→Step1 P ops Q cl I i) (hend:∀ D a w,(∀ i,D i=Nat.blt i ops.size)→I D a w→Q .normal a w) :
    ∀ (fuel:Nat) (listed:Array Bool) (a:Act) (w:World),listed.size=ops.size→(listed.toList.filter (!·)).length=fuel→Shut' cl (fun j=>listed.getD j false)→I (fun j=>listed.getD j false) a w→wpAny P .any ops Q fuel listed a w:=by
  intro fuel
  induction fuel with
  | zero =>
    intro listed a w hsz hf hD hI
    have hall:∀ i,i < ops.size→listed.getD i false=true:=by
      intro i hi
      have hi':i < listed.size:=by omega
      cases hb:listed[i] with
      | true=>simp [hi',hb]
      | false =>
        have:false∈listed.toList.filter (!·):=by
          rw [List.mem_filter];exact ⟨by rw [← hb];exact Array.getElem_mem_toList hi',rfl⟩
        rw [List.eq_nil_of_length_eq_zero hf] at this;cases this
    refine ⟨?_,hend _ a w (listed_all hsz hall) hI⟩
    refine List.eq_nil_iff_forall_not_mem.2 (fun i hi=>?_)
    obtain ⟨h1,o,ho,_⟩:=mem_ready.1 hi
    have hi':i < ops.size:=(Array.getElem?_eq_some_iff.1 ho).1
    have h2:=hall i hi'
    have hi'':i < listed.size:=by omega
    simp [hi''] at h1 h2
    rw [h1] at h2;cases h2
  | succ fuel ih =>
    intro listed a w hsz hf hD hI
    refine ⟨fun hr=>?_,fun i hi=>?_⟩
    · refine hend _ a w (listed_all hsz (fun i hi=>?_)) hI
      have key:∀ n i,i≤n→i < ops.size→listed.getD i false=true:=by
        intro n
        induction n with
        | zero =>
          intro i hin hi
          cases hb:listed.getD i false with
          | true=>rfl
          | false =>
            exfalso
            have hi':i < listed.size:=by omega
            have:i∈Region.ready .any ops listed:=mem_ready.2 ⟨by simp [hi'] at hb ⊢;exact hb,ops[i],Array.getElem?_eq_getElem hi,fun e he hbd=>by have:=(clOk_row hcl (Array.getElem?_eq_getElem hi)).2.1 e he hbd;omega⟩
            rw [hr] at this;cases this
        | succ n ihn =>
          intro i hin hi
          by_cases hle:i≤n
          · exact ihn i hle hi
          cases hb:listed.getD i false with
          | true=>rfl
          | false =>
            exfalso
            have hi':i < listed.size:=by omega
            have:i∈Region.ready .any ops listed:=mem_ready.2 ⟨by simp [hi'] at hb ⊢;exact hb,ops[i],Array.getElem?_eq_getElem hi,fun e he hbd=>by
              have:=(clOk_row hcl (Array.getElem?_eq_getElem hi)).2.1 e he hbd
              exact ihn e.on (by omega) (by omega)⟩
            rw [hr] at this;cases this
      exact key i i (Nat.le_refl _) hi
    · obtain ⟨h1,o,ho,hall⟩:=mem_ready.1 hi
      have hi':i < ops.size:=(Array.getElem?_eq_some_iff.1 ho).1
      have hi'':i < listed.size:=by omega
      have h1':listed.getD i false=false:=by simp [hi''] at h1 ⊢;exact h1
      have hup:(fun j=>(listed.setIfInBounds i true).getD j false)=upB (fun j=>listed.getD j false) i:=by
        funext j
        unfold upB
        by_cases hji:j=i
        · subst hji;simp [hi'']
        · simp only [hji,if_false,Array.getD_eq_getD_getElem?]
          rw [Array.getElem?_setIfInBounds_ne (Ne.symm hji)]
      refine step1_op hcl ho (hs i hi') hI hD h1' hall (fun a' w' hI'=>ih (listed.setIfInBounds i true) a' w' (by simpa using hsz) ?_ ?_ ?_)
      · rw [Array.toList_setIfInBounds]
        have hx:listed.toList[i]? = some false:=by
          simp [hi''] at h1 ⊢
          exact h1
        have gen:∀ (l:List Bool) (i:Nat),l[i]? = some false→((l.set i true).filter (!·)).length+1=(l.filter (!·)).length:=by
          intro l
          induction l with
          | nil=>intro i h;cases h
          | cons x l ihl =>
            intro i h
            cases i with
            | zero=>simp only [List.getElem?_cons_zero,Option.some.injEq] at h;subst h;simp
            | succ i =>
              simp only [List.getElem?_cons_succ] at h
              have:=ihl i h
              cases x <;> simp [List.filter_cons] at this ⊢ <;> omega
        have:=gen listed.toList i hx
        omega
      · rw [hup];exact shut_up hcl hD ho hall
      · rw [hup];exact hI'
theorem inv_text (hcl:clOk ops cl=true) (hs:∀ i,i < ops.size→Step1 P ops Q cl I i) (hend:∀ D a w,(∀ i,D i=Nat.blt i ops.size)→I D a w→Q .normal a w) :
    ∀ (n k:Nat) (D:Nat→Bool) (a:Act) (w:World),k+n=ops.size→(∀ j,D j=true↔j < k)→Shut' cl D→I D a w→wpOps P ops Q (List.range' k n) a w:=by
  intro n
  induction n with
  | zero=>intro k D a w hk hD _ hI;exact hend D a w (fun j=>by
    by_cases hj:j < ops.size
    · rw [blt_yes hj];exact (hD j).2 (by omega)
    · rw [blt_no hj]
      cases h:D j with
      | false=>rfl
      | true=>have:=(hD j).1 h;omega) hI
  | succ n ih =>
    intro k D a w hk hD hS hI
    rw [List.range'_succ,wpOps_cons]
    have ho:ops[k]? = some ops[k]:=Array.getElem?_eq_getElem (by omega)
    have hr:∀ e∈ops[k].after,Region.binds .any e=true→D e.on=true:=fun e he hb=>(hD e.on).2 ((clOk_row hcl ho).2.1 e he hb)
    refine step1_op hcl ho (hs k (by omega)) hI hS (by cases h:D k with | false=>rfl | true=>have:=(hD k).1 h;omega) hr (fun a' w' hI'=>ih (k+1) (upB D k) a' w' (by omega) (fun j=>?_) (shut_up hcl hS ho hr) hI')
    unfold upB
    split
    · rename_i h;subst h;simp
    · rw [hD j];omega
theorem reg_inv {id:Nat} {draw:Bool} {a:Act} {w:World} (hm:P.follows .mixedOrders=true) (hcl:clOk ops cl=true) (h0:I (fun _=>false) a w) (hdr:draw=true→I (fun _=>false) a w.drew)
    (hs:∀ i,i < ops.size→Step1 P ops Q cl I i) (hend:∀ D a w,(∀ i,D i=Nat.blt i ops.size)→I D a w→Q .normal a w):(Code.region id ops draw).wp P Q a w:=by
  cases draw with
  | false =>
    refine wp_region ?_
    rw [List.range_eq_range']
    exact inv_text hcl hs hend ops.size 0 (fun _=>false) a w (by omega) (fun j=>by simp) (fun j hj=>by cases hj) h0
  | true =>
    refine wp_region_any hm ?_
    have e:(fun j=>(Array.replicate ops.size false).getD j false)=fun _=>false:=by
      funext j
      simp only [Array.getD_eq_getD_getElem?,Array.getElem?_replicate]
      split <;> rfl
    refine inv_any hcl hs hend ops.size _ a w.drew (by simp) (by simp) ?_ ?_
    · rw [e];intro j hj;cases hj
    · rw [e];exact hdr rfl
end
end Go.Proofs.YtailjojebdmnnaaGreat
namespace Go.Proofs.YtailjojebdmnnaaGreat
open Go.RowKit
abbrev Env:=Nat→Value
abbrev Ent:=Nat × TypeId × List Value
def upd (env:Env) (i:Nat) (v:Value):Env:=fun j=>if j=i then v else env j
def restr (d:List Nat) (env:Env):Env:=fun j=>if d.contains j then env j else undef
theorem restr_upd {d:List Nat} {env:Env} {i:Nat} {v:Value} (h:i ∉ d):restr d (upd env i v)=restr d env:=by
  funext j
  unfold restr upd
  split
  · rename_i hj
    rw [if_neg (fun e=>h (by rw [← e];exact List.contains_iff_mem.1 hj))]
  · rfl
structure Put (w w':World) (b:Nat) (o:Obj):Prop where
 os:w'.os=w.os
 tape:w'.tape=w.tape
 output:w'.output=w.output
 size:w'.heap.size=w.heap.size
 here:w'.heap[b]? = some o
 off:∀ k,k≠b→w'.heap[k]? = w.heap[k]?
theorem Put.refl {w:World} {b:Nat} {o:Obj} (h:w.heap[b]? = some o):Put w w b o:=⟨rfl,rfl,rfl,rfl,h,fun _ _=>rfl⟩
theorem Put.set {w w':World} {b:Nat} {T:TypeId} {cs cs':List Value} (h:Put w w' b (.cells cs.toArray T (0,0))) (o:Nat) (v:Value) (e:cs.set o v=cs'):Put w (w'.setCell ⟨b,o,none⟩ v) b (.cells cs'.toArray T (0,0)):=by
  refine ⟨h.os,h.tape,h.output,by simp [World.setCell,h.size],?_,fun k hk=>?_⟩
  · have:=h.here
    simp only [World.setCell,Array.getElem?_modify,if_true,this,Option.map_some]
    rw [← e]
    simp
  · rw [Below.heap_setCell _ _ _ _ hk];exact h.off k hk
theorem own_cell {w:World} {b o:Nat} {T:TypeId} {cs:List Value} {v:Value} (h:w.heap[b]? = some (.cells cs.toArray T (0,0))) (e:cs[o]? = some v):w.cell? ⟨b,o,none⟩=some v:=by
 simp [World.cell?,h,e]
theorem own_frozen {w:World} {b o:Nat} {T:TypeId} {cs:List Value} (h:w.heap[b]? = some (.cells cs.toArray T (0,0))):w.frozen? ⟨b,o,none⟩=false:=by
 simp [World.frozen?,h]
abbrev Mem:=Nat→Option Ent
def mem (L:List Ent):Mem:=fun m=>L[m]?
def Apart (M:Mem) (ex:Option Nat) (w w':World):Prop:=w.heap.size≤w'.heap.size∧∀ k,k < w.heap.size→(∀ m e,M m=some e→e.1≠k)→ex≠some k→w'.heap[k]? = w.heap[k]?
structure St (w0:World) (row ex:Option Nat) (w:World) (M:Mem) (Ψ Θ:World→Prop):Prop where
 gr:w0.grownBy w row
 nod:∀ m m' e e',M m=some e→M m'=some e'→m≠m'→e.1≠e'.1
 own:∀ m e,M m=some e→w0.heap.size≤e.1∧w.heap[e.1]? = some (.cells e.2.2.toArray e.2.1 (0,0))
 exb:∀ g,ex=some g→g < w.heap.size∧(∀ m e,M m=some e→e.1≠g)∧(w0.heap.size≤g∨row=some g)
 psi:∀ w',Apart M ex w w'→Ψ w'
 the:∀ w',Apart M none w w'→Θ w'
theorem lt_of_some {w:World} {b:Nat} {o:Obj} (h:w.heap[b]? = some o):b < w.heap.size:=(Array.getElem?_eq_some_iff.1 h).1
section
variable {w0 w w':World} {row ex:Option Nat} {M M':Mem} {Ψ Θ:World→Prop}
theorem Apart.refl (M:Mem) (ex:Option Nat) (w:World):Apart M ex w w:=⟨Nat.le_refl _,fun _ _ _ _=>rfl⟩
theorem St.now (h:St w0 row ex w M Ψ Θ):Ψ w:=h.psi w (Apart.refl _ _ _)
theorem St.nowT (h:St w0 row ex w M Ψ Θ):Θ w:=h.the w (Apart.refl _ _ _)
theorem St.lt (h:St w0 row ex w M Ψ Θ) {m:Nat} {e:Ent} (hm:M m=some e):e.1 < w.heap.size:=lt_of_some (h.own m e hm).2
theorem grown_of {a b c:World} {row:Option Nat} (h:a.grownBy b row) (hos:c.os=b.os) (ht:c.tape=b.tape) (ho:c.output=b.output) (hs:b.heap.size≤c.heap.size) (hb:∀ k,k < a.heap.size→some k≠row→c.heap[k]? = b.heap[k]?):a.grownBy c row:=
 ⟨hos.trans h.os,ht.trans h.tape,ho.trans h.output,Nat.le_trans h.size hs,fun i hi hr=>(hb i hi hr).trans (h.block i hi hr)⟩
theorem St.mono (h:St w0 row ex w M Ψ Θ) {Ψ' Θ':World→Prop} (h1:∀ w',Ψ w'→Ψ' w') (h2:∀ w',Θ w'→Θ' w'):St w0 row ex w M Ψ' Θ':=⟨h.gr,h.nod,h.own,h.exb,fun w' hw=>h1 w' (h.psi w' hw),fun w' hw=>h2 w' (h.the w' hw)⟩
theorem St.ext (h:St w0 row ex w M Ψ Θ) (e:∀ m,M' m=M m):St w0 row ex w M' Ψ Θ:=by rw [funext e];exact h
theorem St.add (h:St w0 row ex w M Ψ Θ) {φ:World→Prop} (hφ:∀ w',Apart M ex w w'→φ w'):St w0 row ex w M (fun w=>Ψ w∧φ w) Θ:=⟨h.gr,h.nod,h.own,h.exb,fun w' hw=>⟨h.psi w' hw,hφ w' hw⟩,h.the⟩
theorem St.same (h:St w0 row ex w M Ψ Θ) (hh:w'.heap=w.heap) (h1:w'.os=w.os) (h2:w'.tape=w.tape) (h3:w'.output=w.output):St w0 row ex w' M Ψ Θ:=
  ⟨grown_of h.gr h1 h2 h3 (by rw [hh];exact Nat.le_refl _) (fun k _ _=>by rw [hh]),h.nod,fun m e hm=>by rw [hh];exact h.own m e hm,fun g hg=>by rw [hh];exact h.exb g hg,
    fun w'' hw=>h.psi w'' (by unfold Apart at *;rw [hh] at hw;exact hw),fun w'' hw=>h.the w'' (by unfold Apart at *;rw [hh] at hw;exact hw)⟩
theorem St.drew (h:St w0 row ex w M Ψ Θ):St w0 row ex w.drew M Ψ Θ:=h.same rfl rfl rfl rfl
theorem St.alloc (h:St w0 row ex w M Ψ Θ) {m0:Nat} {T:TypeId} {cs:List Value} (hn:M m0=none) (h0:M' m0=some (w.heap.size,T,cs)) (hM:∀ m,m≠m0→M' m=M m) :
    St w0 row ex (w.alloc (.cells cs.toArray T (0,0))) M' Ψ Θ:=by
  have hs:(w.alloc (.cells cs.toArray T (0,0))).heap.size=w.heap.size+1:=by simp
  have hk:∀ k,k < w.heap.size→(w.alloc (.cells cs.toArray T (0,0))).heap[k]? = w.heap[k]?:=fun k hk=>Below.heap_alloc _ _ _ hk
  have h00:=h.gr.size
  have look:∀ m e,M' m=some e→(m=m0∧e=(w.heap.size,T,cs))∨(m≠m0∧M m=some e):=fun m e hm=>by
    by_cases hmm:m=m0
    · subst hmm;rw [h0] at hm;exact .inl ⟨rfl,(Option.some.inj hm).symm⟩
    · rw [hM m hmm] at hm;exact .inr ⟨hmm,hm⟩
  have ap:∀ {ex':Option Nat} {w':World},Apart M' ex' (w.alloc (.cells cs.toArray T (0,0))) w'→Apart M ex' w w':=fun {ex' w'} ⟨hw1,hw2⟩=>⟨by omega,fun k hkl hM2 hx=>by
    refine (hw2 k (by omega) (fun m e hm=>?_) hx).trans (hk k hkl)
    rcases look m e hm with ⟨_,rfl⟩ | ⟨_,h1⟩
    · exact fun h=>by simp at h;omega
    · exact hM2 m e h1⟩
  refine ⟨grown_of h.gr rfl rfl rfl (by omega) (fun k hk1 _=>hk k (by omega)),fun m m' e e' hm hm' hne=>?_,fun m e hm=>?_,fun g hg=>?_,fun w' hw=>h.psi w' (ap hw),fun w' hw=>h.the w' (ap hw)⟩
  · rcases look m e hm with ⟨rfl,rfl⟩ | ⟨h1,h2⟩ <;> rcases look m' e' hm' with ⟨rfl,rfl⟩ | ⟨h3,h4⟩
    · exact absurd rfl hne
    · have:=h.lt h4;exact fun h=>by simp at h;omega
    · have:=h.lt h2;exact fun h=>by simp at h;omega
    · exact h.nod m m' e e' h2 h4 hne
  · rcases look m e hm with ⟨rfl,rfl⟩ | ⟨h1,h2⟩
    · exact ⟨by simp;omega,by show (w.heap.push _)[w.heap.size]? = some _;simp⟩
    · rw [hk _ (h.lt h2)];exact h.own m e h2
  · obtain ⟨h1,h2,h3⟩:=h.exb g hg
    refine ⟨by omega,fun m e hm=>?_,h3⟩
    rcases look m e hm with ⟨rfl,rfl⟩ | ⟨_,h5⟩
    · exact fun h=>by simp at h;omega
    · exact h2 m e h5
theorem St.store (h:St w0 row ex w M Ψ Θ) {m0 b:Nat} {T:TypeId} {cs cs':List Value} (h1:M m0=some (b,T,cs)) (h2:M' m0=some (b,T,cs')) (hM:∀ m,m≠m0→M' m=M m) (hp:Put w w' b (.cells cs'.toArray T (0,0))) :
    St w0 row ex w' M' Ψ Θ:=by
  have look:∀ m e,M' m=some e→(m=m0∧e=(b,T,cs'))∨(m≠m0∧M m=some e):=fun m e hm=>by
    by_cases hmm:m=m0
    · subst hmm;rw [h2] at hm;exact .inl ⟨rfl,(Option.some.inj hm).symm⟩
    · rw [hM m hmm] at hm;exact .inr ⟨hmm,hm⟩
  have blk:∀ m e,M m=some e→∃ e',M' m=some e'∧e'.1=e.1:=fun m e hm=>by
    by_cases hmm:m=m0
    · subst hmm;rw [h1] at hm;obtain rfl:=Option.some.inj hm;exact ⟨_,h2,rfl⟩
    · exact ⟨e,by rw [hM m hmm];exact hm,rfl⟩
  have hb:=h.own m0 _ h1
  have ap:∀ {ex':Option Nat} {w'':World},Apart M' ex' w' w''→Apart M ex' w w'':=fun {ex' w''} ⟨hw1,hw2⟩=>⟨by rw [← hp.size];exact hw1,fun k hkl hM2 hx=>by
    have hkb:k≠b:=fun e=>hM2 m0 _ h1 e.symm
    refine (hw2 k (by rw [hp.size];exact hkl) (fun m e hm=>?_) hx).trans (hp.off k hkb)
    rcases look m e hm with ⟨_,rfl⟩ | ⟨_,h3⟩
    · exact Ne.symm hkb
    · exact hM2 m e h3⟩
  refine ⟨grown_of h.gr hp.os hp.tape hp.output (by rw [hp.size];exact Nat.le_refl _) (fun k hk _=>hp.off k (fun e=>by have:=hb.1;simp at this;omega)),fun m m' e e' hm hm' hne=>?_,fun m e hm=>?_,fun g hg=>?_,fun w'' hw=>h.psi w'' (ap hw),fun w'' hw=>h.the w'' (ap hw)⟩
  · rcases look m e hm with ⟨rfl,rfl⟩ | ⟨h3,h4⟩ <;> rcases look m' e' hm' with ⟨rfl,rfl⟩ | ⟨h5,h6⟩
    · exact absurd rfl hne
    · exact h.nod m m' (b,T,cs) e' h1 h6 hne
    · exact h.nod m m' e (b,T,cs) h4 h1 hne
    · exact h.nod m m' e e' h4 h6 hne
  · rcases look m e hm with ⟨rfl,rfl⟩ | ⟨h3,h4⟩
    · exact ⟨hb.1,hp.here⟩
    · rw [hp.off _ (h.nod m m0 e _ h4 h1 h3)];exact h.own m e h4
  · obtain ⟨h3,h4,h5⟩:=h.exb g hg
    refine ⟨by rw [hp.size];exact h3,fun m e hm=>?_,h5⟩
    rcases look m e hm with ⟨rfl,rfl⟩ | ⟨_,h6⟩
    · exact h4 m (b,T,cs) h1
    · exact h4 m e h6
theorem St.call (h:St w0 row ex w M Ψ Θ) (hb:Below w.heap.size w w'):St w0 row ex w' M Ψ Θ:=by
  have ap:∀ {ex':Option Nat} {w'':World},Apart M ex' w' w''→Apart M ex' w w'':=fun {ex' w''} ⟨hw1,hw2⟩=>⟨Nat.le_trans hb.size hw1,fun k hkl hM2 hx=>(hw2 k (Nat.lt_of_lt_of_le hkl hb.size) hM2 hx).trans (hb.block k hkl)⟩
  have h00:=h.gr.size
  exact ⟨grown_of h.gr hb.os hb.tape hb.output hb.size (fun k hk _=>hb.block k (by omega)),h.nod,fun m e hm=>by rw [hb.block _ (h.lt hm)];exact h.own m e hm,
    fun g hg=>⟨Nat.lt_of_lt_of_le (h.exb g hg).1 hb.size,(h.exb g hg).2⟩,fun w'' hw=>h.psi w'' (ap hw),fun w'' hw=>h.the w'' (ap hw)⟩
theorem St.callg (h:St w0 row ex w M Ψ Θ) {g:Nat} (hx:ex=some g) (hb:w.grownBy w' (some g)) {Θ':World→Prop} (hT:∀ w'',Apart M none w' w''→Θ' w''):St w0 row ex w' M Ψ Θ':=by
  obtain ⟨h1,h2,h3⟩:=h.exb g hx
  have h00:=h.gr.size
  have ap:∀ {w'':World},Apart M ex w' w''→Apart M ex w w'':=fun {w''} ⟨hw1,hw2⟩=>⟨Nat.le_trans hb.size hw1,fun k hkl hM2 hx2=>(hw2 k (Nat.lt_of_lt_of_le hkl hb.size) hM2 hx2).trans (hb.block k hkl (fun e=>hx2 (by rw [hx,e])))⟩
  refine ⟨grown_of h.gr hb.os hb.tape hb.output hb.size (fun k hk hr=>hb.block k (by omega) (fun e=>?_)),h.nod,fun m e hm=>?_,fun g' hg'=>⟨Nat.lt_of_lt_of_le (h.exb g' hg').1 hb.size,(h.exb g' hg').2⟩,fun w'' hw=>h.psi w'' (ap hw),hT⟩
  · have e':=Option.some.inj e
    rcases h3 with h3 | h3
    · omega
    · exact hr (by rw [h3,e])
  · rw [hb.block _ (h.lt hm) (fun e2=>h2 m e hm (Option.some.inj e2))]
    exact h.own m e hm
end
structure Own where
 al:Option Nat:=none
 st:Option Nat:=none
 b0:Nat:=0
 T:TypeId
 c0:List Value
 c1:Env→List Value:=fun _=>[]
def ptrB:Value→Nat
  | .pointer (some a)=>a.block
  | .slice (some a) _ _=>a.block
  | _=>0
def pb (env:Env) (i:Nat):Nat:=ptrB (env i)
def Own.blk (o:Own) (env:Env):Nat:=match o.al with
  | none=>o.b0
  | some i=>pb env i
def Own.on (o:Own) (D:Nat→Bool):Bool:=match o.al with
  | none=>true
  | some i=>D i
def Own.cs (o:Own) (cl:List (List Nat)) (D:Nat→Bool) (env:Env):List Value:=match o.st with
  | none=>o.c0
  | some s=>if D s=true then o.c1 (restr (cl.getD s []) env) else o.c0
structure Sto where
 m:Nat
 s:Nat
 c1:Env→List Value
structure New where
 i:Nat
 T:TypeId
 c0:List Value
 s:Option Nat:=none
 c1:Env→List Value:=fun _=>[]
def stAt (S:List Sto) (m:Nat):Option Sto:=S.find? fun s=>Nat.beq s.m m
def elders (S:List Sto):List Ent→Nat→List Own
  | [],_=>[]
  | e :: L,m=>(match stAt S m with
    | none=>{ b0:=e.1,T:=e.2.1,c0:=e.2.2 }
    | some s=>{ b0:=e.1,T:=e.2.1,c0:=e.2.2,st:=some s.s,c1:=s.c1 }) :: elders S L (m+1)
def news (W:List New):List Own:=W.map fun n=>{ al:=some n.i,st:=n.s,T:=n.T,c0:=n.c0,c1:=n.c1 }
abbrev Slots:=List (Nat × Value)
def lk (L:Slots) (t:Nat):Option Value:=match L with
  | []=>none
  | e :: r=>if Nat.beq e.1 t then some e.2 else lk r t
structure Reg where
 ops:Array Oper
 ds:List (Option Tmp)
 cl:List (List Nat)
 S:List Sto
 W:List New
 V:List (Option (Env→Value))
 F:List (Nat × (Env→World→Prop))
 n:Nat
 a0:Act
 L:Slots
 M:List Ent
 w0:World
 row:Option Nat
 ex:Option Nat
 Ψ:World→Prop
 Θ:World→Prop
 th:Option (Nat × (Env→World→Prop)):=none
def Reg.tht (R:Reg) (D:Nat→Bool) (env:Env):World→Prop:=match R.th with
  | none=>R.Θ
  | some (k,T)=>if D k=true then T (restr (R.cl.getD k []) env) else R.Θ
def noTh (R:Reg) (i:Nat):Bool:=match R.th with
  | none=>true
  | some (k,_)=>!(Nat.beq k i)
def Reg.O (R:Reg):List Own:=elders R.S R.M 0 ++ news R.W
def Reg.mem (R:Reg) (D:Nat→Bool) (env:Env):Mem:=fun m=>match R.O[m]? with
  | none=>none
  | some o=>if o.on D=true then some (o.blk env,o.T,o.cs R.cl D env) else none
def Reg.v? (R:Reg) (i:Nat):Option (Env→Value):=(R.V[i]?).join
def Reg.f (R:Reg) (i:Nat) (env:Env) (w:World):Prop:=(∀ V,R.v? i=some V→restr (R.cl.getD i []) env i=V (restr (R.cl.getD i []) env))∧∀ p∈R.F,p.1=i→p.2 (restr (R.cl.getD i []) env) w
def dstO (ops:Array Oper) (i:Nat):Option Tmp:=(ops[i]?).bind (·.dst)
structure J (R:Reg) (D:Nat→Bool) (env:Env) (a:Act) (w:World):Prop where
 sz:a.tmps.size=R.n
 df:a.defers=[]
 old:∀ t,(∀ j,D j=true→dstO R.ops j≠some t)→a.tmps[t]? = R.a0.tmps[t]?
 new:∀ j t,D j=true→dstO R.ops j=some t→a.tmps[t]? = some (env j)
 st:St R.w0 R.row R.ex w (R.mem D env) (fun w'=>R.Ψ w'∧∀ i,D i=true→R.f i env w') (R.tht D env)
 sl:∀ t v,lk R.L t=some v→R.a0.tmps[t]? = some v
def regOk (R:Reg):Bool:=
  clOk R.ops R.cl &&
  ((List.range R.ops.size).all fun i=>match dstO R.ops i with
    | none=>true
    | some t=>decide (t < R.n) && (List.range R.ops.size).all fun j=>j == i || !(dstO R.ops j == some t)) &&
  (R.O.all fun o=>match o.al,o.st with
    | some i,some s=>(R.cl.getD s []).contains i && !(i == s)
    | _,_=>true) &&
  ((List.range R.O.length).all fun m=>(List.range R.O.length).all fun m'=>m == m' || match R.O[m]?,R.O[m']? with
    | some o,some o'=>(o.al == none || !(o.al == o'.al)) && (o.st == none || !(o.st == o'.st)) && (o.al == none || !(o.al == o'.st))
    | _,_=>true)
theorem regOk_cl {R:Reg} (h:regOk R=true):clOk R.ops R.cl=true:=by unfold regOk at h;simp only [Bool.and_eq_true] at h;exact h.1.1.1
theorem regOk_dst {R:Reg} (h:regOk R=true) {i j:Nat} {t:Tmp} (hi:dstO R.ops i=some t) (hj:dstO R.ops j=some t):i=j∧t < R.n:=by
  unfold regOk at h;simp only [Bool.and_eq_true] at h
  have lt:∀ {i:Nat} {t:Tmp},dstO R.ops i=some t→i < R.ops.size:=fun {i t} h=>by
    unfold dstO at h
    cases ho:R.ops[i]? with
    | none=>rw [ho] at h;cases h
    | some o=>exact (Array.getElem?_eq_some_iff.1 ho).1
  have h1:=List.all_eq_true.1 h.1.1.2 i (List.mem_range.2 (lt hi))
  rw [hi] at h1
  simp only [Bool.and_eq_true,decide_eq_true_eq] at h1
  refine ⟨?_,h1.1⟩
  have h2:=List.all_eq_true.1 h1.2 j (List.mem_range.2 (lt hj))
  rw [hj] at h2
  simp at h2
  exact h2.symm
theorem regOk_own {R:Reg} (h:regOk R=true) {m:Nat} {o:Own} (ho:R.O[m]? = some o):(∀ i s,o.al=some i→o.st=some s→i∈R.cl.getD s []∧i≠s) ∧
    ∀ m' o',R.O[m']? = some o'→m'≠m→(∀ i,o.al=some i→o'.al≠some i∧o'.st≠some i)∧(∀ s,o.st=some s→o'.st≠some s∧o'.al≠some s):=by
  unfold regOk at h;simp only [Bool.and_eq_true] at h
  have hlt:m < R.O.length:=(List.getElem?_eq_some_iff.1 ho).1
  refine ⟨fun i s hi hs=>?_,fun m' o' ho' hne=>?_⟩
  · have h1:=List.all_eq_true.1 h.1.2 o (List.mem_of_getElem? ho)
    rw [hi,hs] at h1
    simp at h1
    exact ⟨by simpa using h1.1,h1.2⟩
  · have hlt':m' < R.O.length:=(List.getElem?_eq_some_iff.1 ho').1
    have h1:=List.all_eq_true.1 (List.all_eq_true.1 h.2 m (List.mem_range.2 hlt)) m' (List.mem_range.2 hlt')
    have h2:=List.all_eq_true.1 (List.all_eq_true.1 h.2 m' (List.mem_range.2 hlt')) m (List.mem_range.2 hlt)
    rw [ho,ho'] at h1
    rw [ho,ho'] at h2
    simp only [Bool.or_eq_true,Bool.and_eq_true,beq_iff_eq,Bool.not_eq_true',beq_eq_false_iff_ne,ne_eq] at h1 h2
    have h1:=h1.resolve_left (fun e=>hne e.symm)
    have h2:=h2.resolve_left (fun e=>hne e)
    refine ⟨fun i hi=>⟨fun e=>?_,fun e=>?_⟩,fun s hs=>⟨fun e=>?_,fun e=>?_⟩⟩
    · rcases h1.1.1 with h | h
      · rw [hi] at h;cases h
      · exact h (by rw [hi,e])
    · rcases h1.2 with h | h
      · rw [hi] at h;cases h
      · exact h (by rw [hi,e])
    · rcases h1.1.2 with h | h
      · rw [hs] at h;cases h
      · exact h (by rw [hs,e])
    · rcases h2.2 with h | h
      · rw [e] at h;cases h
      · exact h (by rw [hs,e])
section
variable {R:Reg} {D:Nat→Bool} {env:Env} {a:Act} {w w':World} {i:Nat} {o:Oper} {v:Value}
theorem J.fact (h:J R D env a w) {j:Nat} (hj:D j=true):R.f j env w:=(h.st.now).2 j hj
theorem J.slot (h:J R D env a w) (hp:∀ j∈R.cl.getD i [],j≠i→D j=true) (j:Nat) (t:Tmp) (hj:((R.cl.getD i []).contains j && !(j == i))=true) (ht:dstO R.ops j=some t):a.tmps[t]? = some (env j):=by
 simp only [Bool.and_eq_true,List.contains_iff_mem,Bool.not_eq_true',beq_eq_false_iff_ne] at hj
 exact h.new j t (hp j hj.1 hj.2) ht
theorem J.tell (h:J R D env a w) (hp:∀ j∈R.cl.getD i [],j≠i→D j=true) (j:Nat) (hj:((R.cl.getD i []).contains j && !(j == i))=true):R.f j env w:=by
 simp only [Bool.and_eq_true,List.contains_iff_mem,Bool.not_eq_true',beq_eq_false_iff_ne] at hj
 exact h.fact (hp j hj.1 hj.2)
def elder (R:Reg) (i:Nat) (t:Tmp):Bool:=(List.range R.ops.size).all fun j=>!(dstO R.ops j == some t) || (R.cl.getD j []).contains i
theorem J.put (hR:regOk R=true) (h:J R D env a w) (ho:R.ops[i]? = some o) (hi:D i=false)
    (hst:St R.w0 R.row R.ex w' (R.mem (upB D i) (upd env i v)) (fun w''=>R.Ψ w''∧∀ j,upB D i j=true→R.f j (upd env i v) w'') (R.tht (upB D i) (upd env i v))):J R (upB D i) (upd env i v) (a.put o.dst v) w':=by
  have hd:dstO R.ops i=o.dst:=by simp [dstO,ho]
  refine ⟨?_,?_,fun t ht=>?_,fun j t hj ht=>?_,hst,h.sl⟩
  · rw [← h.sz];unfold Act.put;split <;> simp
  · rw [← h.df];unfold Act.put;split <;> rfl
  · have h1:=h.old t (fun j hj=>ht j (upB_mono hj))
    rw [← h1]
    have h2:=ht i (upB_self _ _)
    rw [hd] at h2
    unfold Act.put
    split
    · rename_i d hd'
      rw [hd'] at h2
      simp only
      rw [Array.getElem?_setIfInBounds_ne (fun e=>h2 (by rw [e]))]
    · rfl
  · by_cases hji:j=i
    · subst hji
      rw [hd] at ht
      have:=(regOk_dst hR (i:=j) (j:=j) (t:=t) (by rw [hd];exact ht) (by rw [hd];exact ht)).2
      have hsz:=h.sz
      unfold Act.put upd
      rw [ht]
      simp only [if_true]
      rw [Array.getElem?_setIfInBounds_self_of_lt (by rw [hsz];exact this)]
    · rw [upB_ne hji] at hj
      have h1:=h.new j t hj ht
      have hne:o.dst≠some t:=fun e=>hji (regOk_dst hR ht (by rw [hd];exact e)).1
      unfold upd
      rw [if_neg hji,← h1]
      unfold Act.put
      split
      · rename_i d hd'
        rw [hd'] at hne
        simp only
        rw [Array.getElem?_setIfInBounds_ne (fun e=>hne (by rw [e]))]
      · rfl
theorem f_upd (hq:∀ j,D j=true→i ∉ R.cl.getD j []) {j:Nat} (hj:D j=true) {w:World}:R.f j (upd env i v) w↔R.f j env w:=by
 unfold Reg.f;rw [restr_upd (hq j hj)]
theorem tht_off (hq:∀ j,D j=true→i ∉ R.cl.getD j []) (hn:noTh R i=true):R.tht (upB D i) (upd env i v)=R.tht D env:=by
  unfold Reg.tht noTh at *
  cases ht:R.th with
  | none=>rfl
  | some p =>
    obtain ⟨k,T⟩:=p
    rw [ht] at hn
    have hne:k≠i:=fun e=>by subst e;simp at hn
    simp only
    rw [upB_ne hne]
    by_cases hD:D k=true
    · rw [if_pos hD,if_pos hD,restr_upd (hq k hD)]
    · rw [if_neg hD,if_neg hD]
theorem mem_off (hq:∀ j,D j=true→i ∉ R.cl.getD j []) {m:Nat} {ow:Own} (hm:R.O[m]? = some ow) (h1:ow.al≠some i) (h2:ow.st≠some i):R.mem (upB D i) (upd env i v) m=R.mem D env m:=by
  unfold Reg.mem
  simp only [hm]
  have e1:ow.on (upB D i)=ow.on D:=by
    unfold Own.on
    cases ha:ow.al with
    | none=>rfl
    | some k=>exact upB_ne (fun e=>h1 (by rw [ha,e]))
  have e2:ow.blk (upd env i v)=ow.blk env:=by
    unfold Own.blk
    cases ha:ow.al with
    | none=>rfl
    | some k=>simp only [pb,upd];rw [if_neg (fun e=>h1 (by rw [ha,e]))]
  have e3:ow.cs R.cl (upB D i) (upd env i v)=ow.cs R.cl D env:=by
    unfold Own.cs
    cases hs:ow.st with
    | none=>rfl
    | some s =>
      simp only
      rw [upB_ne (fun e=>h2 (by rw [hs,e]))]
      by_cases hD:D s=true
      · rw [if_pos hD,if_pos hD,restr_upd (hq s hD)]
      · rw [if_neg hD,if_neg hD]
  rw [e1,e2,e3]
theorem mem_none {m:Nat} (hm:R.O[m]? = none) (D:Nat→Bool) (env:Env):R.mem D env m=none:=by unfold Reg.mem;simp only [hm]
def free (R:Reg) (i:Nat):Bool:=R.O.all fun o=>!(o.al == some i) && !(o.st == some i)
theorem mem_free (hq:∀ j,D j=true→i ∉ R.cl.getD j []) (hf:free R i=true) (m:Nat):R.mem (upB D i) (upd env i v) m=R.mem D env m:=by
  cases hm:R.O[m]? with
  | none=>rw [mem_none hm,mem_none hm]
  | some ow =>
    have h1:=List.all_eq_true.1 hf ow (List.mem_of_getElem? hm)
    simp only [Bool.and_eq_true,Bool.not_eq_true',beq_eq_false_iff_ne] at h1
    exact mem_off hq hm h1.1 h1.2
theorem J.val (hR:regOk R=true) (h:J R D env a w) (ho:R.ops[i]? = some o) (hi:D i=false) (hq:∀ j,D j=true→i ∉ R.cl.getD j []) (hf:free R i=true)
    (hst:St R.w0 R.row R.ex w' (R.mem D env) (fun w''=>R.Ψ w''∧∀ j,D j=true→R.f j env w'') (R.tht (upB D i) (upd env i v))) (hF:∀ w'',Apart (R.mem D env) R.ex w' w''→R.f i (upd env i v) w''):J R (upB D i) (upd env i v) (a.put o.dst v) w':=by
  refine J.put hR h ho hi (((hst.add hF).ext (fun m=>mem_free hq hf m)).mono (fun w'' hw=>⟨hw.1.1,fun j hj=>?_⟩) (fun _ h=>h))
  by_cases hji:j=i
  · subst hji;exact hw.2
  · rw [upB_ne hji] at hj
    exact (f_upd hq hj).2 (hw.1.2 j hj)
theorem J.mk_ (hR:regOk R=true) (h:J R D env a w) (ho:R.ops[i]? = some o) (hi:D i=false) (hq:∀ j,D j=true→i ∉ R.cl.getD j []) (m:Nat) {ow:Own} (hm:R.O[m]? = some ow) (hal:ow.al=some i)
    (hnt:noTh R i=true) {v:Value} (hv:ptrB v=w.heap.size) (hF:∀ w'',R.f i (upd env i v) w''):J R (upB D i) (upd env i v) (a.put o.dst v) (w.alloc (.cells ow.c0.toArray ow.T (0,0))):=by
  have hown:=regOk_own hR hm
  have hst0:=h.st
  rw [← tht_off (env:=env) hq hnt (v:=v)] at hst0
  refine J.put hR h ho hi ((hst0.alloc (M':=R.mem (upB D i) (upd env i v)) (m0:=m) (T:=ow.T) (cs:=ow.c0) ?_ ?_ (fun m' hne=>?_)).mono (fun w'' hw=>⟨hw.1,fun j hj=>?_⟩) (fun _ h=>h))
  · unfold Reg.mem;simp only [hm];unfold Own.on;simp only [hal,hi];rfl
  · unfold Reg.mem;simp only [hm]
    have e1:ow.on (upB D i)=true:=by unfold Own.on;simp only [hal,upB_self]
    have e2:ow.cs R.cl (upB D i) (upd env i v)=ow.c0:=by
      unfold Own.cs
      cases hs:ow.st with
      | none=>rfl
      | some s =>
        have h1:=(hown.1 i s hal hs)
        simp only
        have:D s=false:=by
          cases hD:D s with
          | false=>rfl
          | true=>exact absurd h1.1 (hq s hD)
        rw [upB_ne (Ne.symm h1.2),this];simp
    rw [if_pos e1,e2]
    unfold Own.blk;simp only [hal,pb,upd,if_true,hv]
  · cases hm':R.O[m']? with
    | none=>rw [mem_none hm',mem_none hm']
    | some ow' =>
      have h2:=(hown.2 m' ow' hm' hne).1 i hal
      exact mem_off hq hm' h2.1 h2.2
  · by_cases hji:j=i
    · subst hji;exact hF _
    · rw [upB_ne hji] at hj
      exact (f_upd hq hj).2 (hw.2 j hj)
theorem J.store (hR:regOk R=true) (h:J R D env a w) (ho:R.ops[i]? = some o) (hi:D i=false) (hp:∀ j∈R.cl.getD i [],j≠i→D j=true) (hq:∀ j,D j=true→i ∉ R.cl.getD j []) (m:Nat) {ow:Own} (hm:R.O[m]? = some ow) (hs:ow.st=some i) {v:Value}
    (hp':Put w w' (ow.blk env) (.cells (ow.c1 (restr (R.cl.getD i []) (upd env i v))).toArray ow.T (0,0)))
    (hnt:noTh R i=true) (hF:∀ w'',R.f i (upd env i v) w''):J R (upB D i) (upd env i v) (a.put o.dst v) w':=by
  have hown:=regOk_own hR hm
  have hst0:=h.st
  rw [← tht_off (env:=env) hq hnt (v:=v)] at hst0
  have hal:∀ k,ow.al=some k→D k=true∧k≠i:=fun k hk=>by
    have h1:=hown.1 k i hk hs
    exact ⟨hp k h1.1 h1.2,h1.2⟩
  refine J.put hR h ho hi ((hst0.store (M':=R.mem (upB D i) (upd env i v)) (m0:=m) (b:=ow.blk env) (T:=ow.T) (cs:=ow.c0) (cs':=ow.c1 (restr (R.cl.getD i []) (upd env i v))) ?_ ?_ (fun m' hne=>?_) hp').mono (fun w'' hw=>⟨hw.1,fun j hj=>?_⟩) (fun _ h=>h))
  · unfold Reg.mem;simp only [hm]
    have e1:ow.on D=true:=by
      unfold Own.on
      cases ha:ow.al with
      | none=>rfl
      | some k=>exact (hal k ha).1
    have e2:ow.cs R.cl D env=ow.c0:=by unfold Own.cs;simp only [hs,hi];simp
    rw [if_pos e1,e2]
  · unfold Reg.mem;simp only [hm]
    have e1:ow.on (upB D i)=true:=by
      unfold Own.on
      cases ha:ow.al with
      | none=>rfl
      | some k=>exact upB_mono (hal k ha).1
    have e2:ow.cs R.cl (upB D i) (upd env i v)=ow.c1 (restr (R.cl.getD i []) (upd env i v)):=by unfold Own.cs;simp only [hs,upB_self,if_true]
    have e3:ow.blk (upd env i v)=ow.blk env:=by
      unfold Own.blk
      cases ha:ow.al with
      | none=>rfl
      | some k=>simp only [pb,upd];rw [if_neg (hal k ha).2]
    rw [if_pos e1,e2,e3]
  · cases hm':R.O[m']? with
    | none=>rw [mem_none hm',mem_none hm']
    | some ow' =>
      have h2:=(hown.2 m' ow' hm' hne).2 i hs
      exact mem_off hq hm' h2.2 h2.1
  · by_cases hji:j=i
    · subst hji;exact hF _
    · rw [upB_ne hji] at hj
      exact (f_upd hq hj).2 (hw.2 j hj)
theorem J.cells0 (h:J R D env a w) (m:Nat) {ow:Own} (hm:R.O[m]? = some ow) (hon:ow.on D=true) (hs:∀ s,ow.st=some s→D s=false):w.heap[ow.blk env]? = some (.cells ow.c0.toArray ow.T (0,0)):=by
  have:=(h.st.own m (ow.blk env,ow.T,ow.cs R.cl D env) (by unfold Reg.mem;simp only [hm,hon,if_true])).2
  have e2:ow.cs R.cl D env=ow.c0:=by
    unfold Own.cs
    cases hs':ow.st with
    | none=>rfl
    | some s=>simp only [hs s hs'];simp
  rw [e2] at this
  exact this
end
end Go.Proofs.YtailjojebdmnnaaGreat
namespace Go.Proofs.YtailjojebdmnnaaGreat
open Go.RowKit
abbrev vW (z:Int):Value:=.agg #[.int .i64 (hi z),.int .u64 (lo z)]
abbrev vM (z:Int):Value:=.agg #[.int .u64 (hi z),.int .u64 (lo z)]
abbrev vL (d s a:Int):Value:=.agg #[.int .i64 d,.int .i64 s,.int .i64 a]
abbrev vT2 (x y:Value):Value:=.tuple #[x,y]
abbrev vT3 (x y z:Value):Value:=.tuple #[x,y,z]
abbrev vP (b o:Nat):Value:=.pointer (some ⟨b,o,none⟩)
abbrev vI (n:Int):Value:=.int .i64 n
theorem hi_zero:hi 0=0:=rfl
theorem lo_zero:lo 0=0:=rfl
def RI (R:Reg):(Nat→Bool)→Act→World→Prop:=fun D a w=>∃ env,J R D env a w
def dsOk (R:Reg):Prop:=R.ops.toList.map (·.dst)=R.ds
theorem dstO_ds {R:Reg} (h:dsOk R) (j:Nat):dstO R.ops j=(R.ds[j]?).join:=by
 unfold dstO dsOk at *
 rw [← h]
 simp only [List.getElem?_map,Array.getElem?_toList]
 cases R.ops[j]? <;> rfl
abbrev SR (P:Program) (Q:Exit→Act→World→Prop) (R:Reg) (i:Nat):Prop:=regOk R=true→dsOk R→Step1 P R.ops Q R.cl (RI R) i
structure At (R:Reg) (i:Nat) (D:Nat→Bool) (env:Env) (a:Act) (w:World):Prop where
 j:J R D env a w
 p:∀ j∈R.cl.getD i [],j≠i→D j=true
 q:∀ j,D j=true→i ∉ R.cl.getD j []
 i:D i=false
 ok:regOk R=true
 ds:dsOk R
def Reg.val (R:Reg) (env:Env) (j:Nat):Value:=match R.v? j with
  | some V=>V (restr (R.cl.getD j []) env)
  | none=>env j
def isD (ds:List (Option Tmp)) (t:Tmp) (j:Nat):Bool:=match ds[j]? with
  | some (some u)=>Nat.beq u t
  | _=>false
def slotAt (R:Reg) (i:Nat) (env:Env) (t:Tmp):Option Value:=match (R.cl.getD i []).find? (fun j=>!(Nat.beq j i) && isD R.ds t j) with
  | some j=>some (R.val env j)
  | none=>if ((List.range R.ds.length).all fun j=>!(isD R.ds t j) || (R.cl.getD j []).contains i)=true then lk R.L t else none
def slotEnd (R:Reg) (env:Env) (t:Tmp):Option Value:=match (List.range R.ds.length).find? (isD R.ds t) with
  | some j=>some (R.val env j)
  | none=>lk R.L t
theorem isD_spec {R:Reg} (h:dsOk R) {t:Tmp} {j:Nat}:isD R.ds t j=true↔dstO R.ops j=some t:=by
  rw [dstO_ds h]
  unfold isD
  cases hj:R.ds[j]? with
  | none=>simp
  | some d=>cases d with
    | none=>simp
    | some u=>simp [Nat.beq_eq]
theorem cl_self {R:Reg} (h:regOk R=true) {i:Nat} {o:Oper} (ho:R.ops[i]? = some o):i∈R.cl.getD i []:=(clOk_row (regOk_cl h) ho).1
theorem op_of_dst {ops:Array Oper} {j:Nat} {t:Tmp} (h:dstO ops j=some t):∃ o,ops[j]? = some o:=by
  unfold dstO at h
  cases ho:ops[j]? with
  | none=>rw [ho] at h;cases h
  | some o=>exact ⟨o,rfl⟩
theorem lt_of_dst {R:Reg} (h:dsOk R) {j:Nat} {t:Tmp} (hj:dstO R.ops j=some t):j < R.ds.length:=by
  rw [dstO_ds h] at hj
  rcases Nat.lt_or_ge j R.ds.length with hl | hl
  · exact hl
  · rw [List.getElem?_eq_none hl] at hj;cases hj
theorem val_of {R:Reg} (hR:regOk R=true) {j:Nat} {env:Env} {w:World} {t:Tmp} (ht:dstO R.ops j=some t) (h:R.f j env w):R.val env j=env j:=by
  obtain ⟨o,ho⟩:=op_of_dst ht
  have hs:=cl_self hR ho
  unfold Reg.val
  cases hv:R.v? j with
  | none=>rfl
  | some V =>
    have:=h.1 V hv
    simp only
    rw [← this]
    unfold restr
    rw [if_pos (List.contains_iff_mem.2 hs)]
section
variable {P:Program} {Q:Exit→Act→World→Prop} {R:Reg} {i:Nat} {o:Oper} {D:Nat→Bool} {env:Env} {a:Act} {w:World}
theorem At.g (h:At R i D env a w) {t:Tmp} {v:Value} (hv:slotAt R i env t=some v):a.tmps[t]? = some v:=by
  unfold slotAt at hv
  split at hv
  · rename_i j hj
    have h1:=List.find?_some hj
    have h2:=List.mem_of_find?_eq_some hj
    simp only [Bool.and_eq_true,Bool.not_eq_true'] at h1
    have hne:j≠i:=fun e=>by rw [e] at h1;simp at h1
    have hd:=(isD_spec h.ds).1 h1.2
    have hD:=h.p j h2 hne
    rw [← Option.some.inj hv,val_of h.ok hd (h.j.fact hD)]
    exact h.j.new j t hD hd
  · split at hv
    · rename_i h1 h2
      rw [← h.j.sl t v hv]
      refine h.j.old t (fun j hj e=>?_)
      have h3:=List.all_eq_true.1 h2 j (List.mem_range.2 (lt_of_dst h.ds e))
      rw [(isD_spec h.ds).2 e] at h3
      simp at h3
      exact h.q j hj (by simpa using h3)
    · cases hv
theorem At.slot (h:At R i D env a w) (j:Nat) {t:Tmp} (hj:((R.cl.getD i []).contains j && !(j == i))=true) (ht:isD R.ds t j=true):a.tmps[t]? = some (env j):=h.j.slot h.p j t hj ((isD_spec h.ds).1 ht)
theorem At.tell (h:At R i D env a w) (j:Nat) (hj:((R.cl.getD i []).contains j && !(j == i))=true):R.f j env w:=h.j.tell h.p j hj
theorem At.cells (h:At R i D env a w) (m:Nat) {ow:Own} (hm:R.O[m]? = some ow) (hon:match ow.al with | none=>True | some k=>((R.cl.getD i []).contains k && !(k == i))=true) (hs:match ow.st with | none=>True | some s=>(R.cl.getD s []).contains i=true):w.heap[ow.blk env]? = some (.cells ow.c0.toArray ow.T (0,0)):=by
  refine h.j.cells0 m hm ?_ (fun s hs'=>?_)
  · unfold Own.on
    cases ha:ow.al with
    | none=>rfl
    | some k =>
      rw [ha] at hon
      simp only [Bool.and_eq_true,List.contains_iff_mem,Bool.not_eq_true',beq_eq_false_iff_ne] at hon
      exact h.p k hon.1 hon.2
  · rw [hs'] at hs
    cases hD:D s with
    | false=>rfl
    | true=>exact absurd (List.contains_iff_mem.1 hs) (h.q s hD)
theorem At.own (h:At R i D env a w) (m:Nat) {ow:Own} (hm:R.O[m]? = some ow) (hal:ow.al=none) (hs:match ow.st with | none=>True | some s=>(R.cl.getD s []).contains i=true):w.heap[ow.b0]? = some (.cells ow.c0.toArray ow.T (0,0)):=by
 have:=h.cells m hm (by rw [hal];trivial) hs
 have hb:ow.blk env=ow.b0:=by unfold Own.blk;rw [hal]
 rw [hb] at this
 exact this
theorem wanted_none (hg:o.guard=none) (y:Nat→Option Bool):Region.wanted o y=true:=by unfold Region.wanted;rw [hg]
theorem wanted_some {g:Nat} {u b:Bool} {t:Tmp} {ops:Array Oper} (hg:o.guard=some (g,u)) (ht:dstO ops g=some t) (hv:a.tmps[t]? = some (.bool b)):Region.wanted o (yielded ops a.tmps)=(b == u):=by
  unfold Region.wanted dstO at *
  rw [hg]
  cases ho:ops[g]? with
  | none=>rw [ho] at ht;cases ht
  | some og =>
    rw [ho] at ht
    simp only [Option.bind_some] at ht
    cases b <;> cases u <;> simp [yielded,ho,ht,hv]
def noF (R:Reg) (i:Nat):Bool:=R.F.all fun p=>!(Nat.beq p.1 i)
theorem f_val (hR:regOk R=true) (ho:R.ops[i]? = some o) {V:Env→Value} (hV:R.v? i=some V) (hn:noF R i=true) (hr:∀ env x,V (restr (R.cl.getD i []) (upd env i x))=V env) (env:Env) (w:World):R.f i (upd env i (V env)) w:=by
  refine ⟨fun V' hV'=>?_,fun p hp he=>?_⟩
  · rw [hV] at hV'
    obtain rfl:=Option.some.inj hV'
    rw [hr]
    unfold restr upd
    rw [if_pos (List.contains_iff_mem.2 (cl_self hR ho)),if_pos rfl]
  · have:=List.all_eq_true.1 hn p hp
    rw [he] at this
    simp at this
theorem f_none (hV:R.v? i=none) (hn:noF R i=true) (env:Env) (w:World):R.f i env w:=by
  refine ⟨fun V' hV'=>?_,fun p hp he=>?_⟩
  · rw [hV] at hV';cases hV'
  · have:=List.all_eq_true.1 hn p hp
    rw [he] at this
    simp at this
theorem s_th (ho:R.ops[i]? = some o) (hf:free R i=true)
    (h:∀ {D env a w},At R i D env a w→∀ K:Act→World→Prop,(∀ v w',St R.w0 R.row R.ex w' (R.mem D env) (fun w''=>R.Ψ w''∧∀ j,D j=true→R.f j env w'') (R.tht (upB D i) (upd env i v))→(∀ w'',Apart (R.mem D env) R.ex w' w''→R.f i (upd env i v) w'')→K (a.put o.dst v) w')→if Region.wanted o (yielded R.ops a.tmps)=true then Oper.wp P o a w K Q else K (a.put o.dst undef) w):SR P Q R i:=by
  intro hR hds o' ho' D a w hI hi hp hq K hK
  obtain rfl:o=o':=Option.some.inj (ho.symm.trans ho')
  obtain ⟨env,hJ⟩:=hI
  exact h ⟨hJ,hp,hq,hi,hR,hds⟩ K (fun v w' h1 h2=>hK _ _ ⟨_,J.val hR hJ ho hi hq hf h1 h2⟩)
def free' (R:Reg) (i:Nat):Bool:=free R i && noTh R i
theorem s_gen (ho:R.ops[i]? = some o) (hf:free' R i=true)
    (h:∀ {D env a w},At R i D env a w→∀ K:Act→World→Prop,(∀ v w',St R.w0 R.row R.ex w' (R.mem D env) (fun w''=>R.Ψ w''∧∀ j,D j=true→R.f j env w'') (R.tht D env)→(∀ w'',Apart (R.mem D env) R.ex w' w''→R.f i (upd env i v) w'')→K (a.put o.dst v) w')→if Region.wanted o (yielded R.ops a.tmps)=true then Oper.wp P o a w K Q else K (a.put o.dst undef) w):SR P Q R i:=by
  intro hR hds o' ho' D a w hI hi hp hq K hK
  obtain rfl:o=o':=Option.some.inj (ho.symm.trans ho')
  obtain ⟨env,hJ⟩:=hI
  unfold free' at hf
  rw [Bool.and_eq_true] at hf
  exact h ⟨hJ,hp,hq,hi,hR,hds⟩ K (fun v w' h1 h2=>hK _ _ ⟨_,J.val hR hJ ho hi hq hf.1 (by rw [tht_off hq hf.2];exact h1) h2⟩)
theorem s_val (ho:R.ops[i]? = some o) (hf:free' R i=true) {V:Env→Value} (hV:R.v? i=some V)
    (hrun:∀ {D env a w},At R i D env a w→Region.wanted o (yielded R.ops a.tmps)=true∧(execOp a.eval o).run P w = .ok (.value (V env)) w) (hn:noF R i=true:=by rfl) (hr:∀ env x,V (restr (R.cl.getD i []) (upd env i x))=V env:=by intros;rfl):SR P Q R i:=
  s_gen ho hf (fun hA K hK=>by
    obtain ⟨h1,h2⟩:=hrun hA
    rw [if_pos h1]
    unfold Oper.wp
    rw [h2]
    exact hK _ _ hA.j.st (fun w'' _=>f_val hA.ok ho hV hn hr _ w''))
theorem s_v (ho:R.ops[i]? = some o) (hf:free' R i=true) (hg:o.guard=none) {V:Env→Value} (hV:R.v? i=some V)
    (hrun:∀ {D env a w},At R i D env a w→(execOp a.eval o).run P w = .ok (.value (V env)) w) (hn:noF R i=true:=by rfl) (hr:∀ env x,V (restr (R.cl.getD i []) (upd env i x))=V env:=by intros;rfl):SR P Q R i:=
  s_val ho hf hV (fun hA=>⟨wanted_none hg _,hrun hA⟩) hn hr
theorem eval_tmp {a:Act} {t:Tmp} {v:Value} (h:a.tmps[t]? = some v):a.eval (.tmp t)=v:=by simp [Act.eval,h]
def opAt (R:Reg) (i:Nat) (env:Env):Operand→Option Value
  | .const c=>some c
  | .tmp t=>slotAt R i env t
  | _=>none
theorem At.e (h:At R i D env a w) {x:Operand} {v:Value} (hv:opAt R i env x=some v):a.eval x=v:=by
  cases x with
  | const c=>exact Option.some.inj hv
  | tmp t=>exact eval_tmp (h.g hv)
  | _=>cases hv
theorem s_mov (ho:R.ops[i]? = some o) (hf:free' R i=true) (hg:o.guard=none) {x:Operand} (hop:o.op = .move x∨o.op = .assign x) {V:Env→Value} (hV:R.v? i=some V)
    (h:∀ env,opAt R i env x=some (V env)) (hn:noF R i=true:=by rfl) (hr:∀ env x,V (restr (R.cl.getD i []) (upd env i x))=V env:=by intros;rfl):SR P Q R i:=
  s_v ho hf hg hV (fun hA=>by
    have e:=hA.e (h _)
    rcases hop with h | h <;> simp [execOp,h,e] <;> rfl) hn hr
theorem s_ext (ho:R.ops[i]? = some o) (hf:free' R i=true) (hg:o.guard=none) {t:Tmp} {ix:Nat} (hop:o.op = .extract (.tmp t) ix) {V:Env→Value} (hV:R.v? i=some V)
    (h:∀ env,∃ xs,slotAt R i env t=some (.tuple xs)∧xs[ix]? = some (V env)) (hn:noF R i=true:=by rfl) (hr:∀ env x,V (restr (R.cl.getD i []) (upd env i x))=V env:=by intros;rfl):SR P Q R i:=
  s_v ho hf hg hV (fun {D env a w} hA=>by
    obtain ⟨xs,h1,h2⟩:=h env
    simp [execOp,hop,eval_tmp (hA.g h1),Instr.extract,h2] <;> rfl) hn hr
theorem s_loadw (ho:R.ops[i]? = some o) (hf:free' R i=true) {T:TypeId} {t:Tmp} (hop:o.op = .load T (.tmp t)) {V:Env→Value} (hV:R.v? i=some V) (m:Nat) {ow:Own} (hm:R.O[m]? = some ow) (hal:ow.al=none) (hs:match ow.st with | none=>True | some s=>(R.cl.getD s []).contains i=true) {off n:Nat} {v:Value} (hw:∀ {D env a w},At R i D env a w→Region.wanted o (yielded R.ops a.tmps)=true)
    (hp:∀ env,slotAt R i env t=some (.pointer (some ⟨ow.b0,off,none⟩))) (hrd:∀ (b:Nat) (w:World),(∀ q x,q < n→ow.c0[off+q]? = some x→w.cell? ⟨b,off+q,none⟩=some x)→(Instr.loadAt T (.pointer (some ⟨b,off,none⟩))).run P w = .ok v w) (hv:∀ env,V env=v:=by intros;rfl) (hn:noF R i=true:=by rfl):SR P Q R i:=
  s_val ho hf hV (fun {D env a w} hA=>⟨hw hA,by
    have hc:=hA.own m hm hal hs
    have h1:=hrd ow.b0 w (fun q x hq hx=>own_cell hc hx)
    rw [hv env]
    simp [execOp,hop,eval_tmp (hA.g (hp env)),h1]⟩) hn (fun env x=>by rw [hv,hv])
theorem s_off (ho:R.ops[i]? = some o) (hf:free' R i=true) (hV:R.v? i=some fun _=>undef)
    (hrun:∀ {D env a w},At R i D env a w→Region.wanted o (yielded R.ops a.tmps)=false) (hn:noF R i=true:=by rfl):SR P Q R i:=
  s_gen ho hf (fun hA K hK=>by
    rw [hrun hA,if_neg (by simp)]
    exact hK _ _ hA.j.st (fun w'' _=>f_val hA.ok ho hV hn (fun _ _=>rfl) _ w''))
theorem At.gy (h:At R i D env a w) {g:Nat} {u:Bool} {t:Tmp} (hg:o.guard=some (g,u)) (ht:(R.ds[g]?).join=some t) (hv:slotAt R i env t=some (.bool u)):Region.wanted o (yielded R.ops a.tmps)=true:=by
 rw [wanted_some hg (by rw [dstO_ds h.ds];exact ht) (h.g hv)];cases u <;> rfl
theorem At.gn (h:At R i D env a w) {g:Nat} {u:Bool} {t:Tmp} (hg:o.guard=some (g,u)) (ht:(R.ds[g]?).join=some t) (hv:slotAt R i env t=some (.bool (!u))):Region.wanted o (yielded R.ops a.tmps)=false:=by
 rw [wanted_some hg (by rw [dstO_ds h.ds];exact ht) (h.g hv)];cases u <;> rfl
theorem enters' {f:FuncId} {fn:Func} (hf:P.funcs[f]? = some fn) (hname:(fn.name == "runtime.NumGoroutine")=false) (hb:fn.body.isSome=true) (args:Array Value) (w:World):(callFunc f args).run P w = .ok (.enter f args) w:=by
 have h1:fn.name ≠ "runtime.NumGoroutine":=by simpa using hname
 obtain ⟨c,hc⟩:=Option.isSome_iff_exists.1 hb
 simp [callFunc,hf,h1,hc]
theorem s_callx (ho:R.ops[i]? = some o) (hf:free' R i=true) {f:FuncId} {fn:Func} {ps:Array Operand} {ts:Array TypeId} (hop:o.op = .call { callee:=.value (.func f),args:=ps,argTypes:=ts })
    (hfn:P.funcs[f]? = some fn) (hname:(fn.name == "runtime.NumGoroutine")=false) (hb:fn.body.isSome=true)
    (h:∀ {D env a w},At R i D env a w→Region.wanted o (yielded R.ops a.tmps)=true∧∃ args,ps.map a.eval=args∧Calls P f args w fun e w'=>∃ v,e = .returned v∧St R.w0 R.row R.ex w' (R.mem D env) (fun w''=>R.Ψ w''∧∀ j,D j=true→R.f j env w'') (R.tht D env)∧∀ w'',Apart (R.mem D env) R.ex w' w''→R.f i (upd env i v) w''):SR P Q R i:=
  s_gen ho hf (fun {D env a w} hA K hK=>by
    obtain ⟨h1,args,ha,hc⟩:=h hA
    rw [if_pos h1]
    unfold Oper.wp
    have hrun:(execOp a.eval o).run P w = .ok (.enter f args) w:=by
      have he:=enters' hfn hname hb args w
      unfold execOp
      simp [hop,resolve,Deferred.ofValue,invoke,Act.eval,ha,he]
    rw [hrun,Oper.upon_enter]
    refine hc.mono ?_
    rintro e w' ⟨v,rfl,h2,h3⟩
    exact hK v w' h2 h3)
theorem s_callw (ho:R.ops[i]? = some o) (hf:free' R i=true) {f:FuncId} {fn:Func} {ps:Array Operand} {ts:Array TypeId} (hop:o.op = .call { callee:=.value (.func f),args:=ps,argTypes:=ts })
    (hfn:P.funcs[f]? = some fn) (hname:(fn.name == "runtime.NumGoroutine")=false) (hb:fn.body.isSome=true) {V:Env→Value} (hV:R.v? i=some V) (hw:∀ {D env a w},At R i D env a w→Region.wanted o (yielded R.ops a.tmps)=true)
    (h:∀ {D env a w},At R i D env a w→∃ args,ps.map a.eval=args∧Calls P f args w fun e w'=>e = .returned (V env)∧Below w.heap.size w w') (hn:noF R i=true:=by rfl) (hr:∀ env x,V (restr (R.cl.getD i []) (upd env i x))=V env:=by intros;rfl):SR P Q R i:=
  s_callx ho hf hop hfn hname hb (fun hA=>by
    obtain ⟨args,ha,hc⟩:=h hA
    refine ⟨hw hA,args,ha,hc.mono ?_⟩
    rintro e w' ⟨rfl,hb⟩
    exact ⟨_,rfl,hA.j.st.call hb,fun w'' _=>f_val hA.ok ho hV hn hr _ w''⟩)
theorem s_alloc (ho:R.ops[i]? = some o) (hg:o.guard=none) (m:Nat) {ow:Own} (hm:R.O[m]? = some ow) (hal:ow.al=some i) (hV:R.v? i=some fun env=>.pointer (some ⟨pb env i,0,none⟩))
    (hrun:∀ {D env a w},At R i D env a w→(execOp a.eval o).run P w = .ok (.value (.pointer (some ⟨w.heap.size,0,none⟩))) (w.alloc (.cells ow.c0.toArray ow.T (0,0)))) (hn:noF R i=true:=by rfl) (hnt:noTh R i=true:=by rfl):SR P Q R i:=by
  intro hR hds o' ho' D a w hI hi hp hq K hK
  obtain rfl:o=o':=Option.some.inj (ho.symm.trans ho')
  obtain ⟨env,hJ⟩:=hI
  rw [if_pos (wanted_none hg _)]
  unfold Oper.wp
  rw [hrun ⟨hJ,hp,hq,hi,hR,hds⟩]
  refine hK _ _ ⟨_,J.mk_ hR hJ ho hi hq m hm hal hnt (v:=.pointer (some ⟨w.heap.size,0,none⟩)) rfl (fun w''=>⟨fun V' hV'=>?_,fun p hp he=>?_⟩)⟩
  · rw [hV] at hV'
    obtain rfl:=Option.some.inj hV'
    have e:restr (R.cl.getD i []) (upd env i (.pointer (some ⟨w.heap.size,0,none⟩))) i = .pointer (some ⟨w.heap.size,0,none⟩):=by
      unfold restr upd
      rw [if_pos (List.contains_iff_mem.2 (cl_self hR ho)),if_pos rfl]
    simp only [pb,e,ptrB]
  · have:=List.all_eq_true.1 hn p hp
    rw [he] at this
    simp at this
theorem s_storeE (ho:R.ops[i]? = some o) (hg:o.guard=none) (m:Nat) {ow:Own} (hm:R.O[m]? = some ow) (hs:ow.st=some i) (hal:ow.al=none)
    (hrun:∀ {D env a w},At R i D env a w→w.heap[ow.b0]? = some (.cells ow.c0.toArray ow.T (0,0))→∃ w',(execOp a.eval o).run P w = .ok .skip w'∧Put w w' ow.b0 (.cells (ow.c1 (restr (R.cl.getD i []) (upd env i undef))).toArray ow.T (0,0))) (hV:R.v? i=none:=by rfl) (hn:noF R i=true:=by rfl) (hnt:noTh R i=true:=by rfl):SR P Q R i:=by
  intro hR hds o' ho' D a w hI hi hp hq K hK
  obtain rfl:o=o':=Option.some.inj (ho.symm.trans ho')
  obtain ⟨env,hJ⟩:=hI
  have hb:ow.blk env=ow.b0:=by unfold Own.blk;rw [hal]
  have hA:At R i D env a w:=⟨hJ,hp,hq,hi,hR,hds⟩
  have hc:=hA.own m hm hal (by rw [hs];exact List.contains_iff_mem.2 (cl_self hR ho))
  obtain ⟨w',h1,h2⟩:=hrun hA hc
  rw [if_pos (wanted_none hg _)]
  unfold Oper.wp
  rw [h1]
  exact hK _ _ ⟨_,J.store hR hJ ho hi hp hq m hm hs (by rw [hb];exact h2) hnt (fun w''=>f_none hV hn _ w'')⟩
theorem s_storeN (ho:R.ops[i]? = some o) (hg:o.guard=none) (m k:Nat) {ow:Own} (hm:R.O[m]? = some ow) (hs:ow.st=some i) (hal:ow.al=some k) (hk:R.v? k=some fun env=>.pointer (some ⟨pb env k,0,none⟩))
    (hrun:∀ {D env a w},At R i D env a w→w.heap[pb env k]? = some (.cells ow.c0.toArray ow.T (0,0))→∃ w',(execOp a.eval o).run P w = .ok .skip w'∧Put w w' (pb env k) (.cells (ow.c1 (restr (R.cl.getD i []) (upd env i undef))).toArray ow.T (0,0))) (hV:R.v? i=none:=by rfl) (hn:noF R i=true:=by rfl) (hnt:noTh R i=true:=by rfl):SR P Q R i:=by
  intro hR hds o' ho' D a w hI hi hp hq K hK
  obtain rfl:o=o':=Option.some.inj (ho.symm.trans ho')
  obtain ⟨env,hJ⟩:=hI
  have hown:=regOk_own hR hm
  have hki:=hown.1 k i hal hs
  have hb:ow.blk env=pb env k:=by unfold Own.blk;rw [hal]
  have hA:At R i D env a w:=⟨hJ,hp,hq,hi,hR,hds⟩
  have hc:=hA.cells m hm (by rw [hal];simp only [Bool.and_eq_true,List.contains_iff_mem,Bool.not_eq_true',beq_eq_false_iff_ne];exact hki) (by rw [hs];exact List.contains_iff_mem.2 (cl_self hR ho))
  rw [hb] at hc
  obtain ⟨w',h1,h2⟩:=hrun hA hc
  rw [if_pos (wanted_none hg _)]
  unfold Oper.wp
  rw [h1]
  exact hK _ _ ⟨_,J.store hR hJ ho hi hp hq m hm hs (by rw [hb];exact h2) hnt (fun w''=>f_none hV hn _ w'')⟩
def allD (N:Nat):Nat→Bool:=fun j=>Nat.blt j N
theorem steps_nil {p:Nat→Prop}:∀ i,i < 0→p i:=fun i h=>absurd h (Nat.not_lt_zero i)
theorem steps_snoc {p:Nat→Prop} {n:Nat} (h:∀ i,i < n→p i) (h1:p n):∀ i,i < n+1→p i:=fun i hi=>by
  rcases Nat.lt_or_eq_of_le (Nat.le_of_lt_succ hi) with h2 | rfl
  · exact h i h2
  · exact h1
structure Cur (n:Nat) (w0:World) (row ex:Option Nat) (Ψ Θ:World→Prop) (L:Slots) (M:List Ent) (a:Act) (w:World):Prop where
 sz:a.tmps.size=n
 df:a.defers=[]
 st:St w0 row ex w (mem M) Ψ Θ
 sl:∀ t v,lk L t=some v→a.tmps[t]? = some v
theorem elders_get (S:List Sto):∀ (M:List Ent) (k m:Nat),(elders S M k)[m]? = (M[m]?).map fun e=>match stAt S (k+m) with
    | none=>{ b0:=e.1,T:=e.2.1,c0:=e.2.2 }
    | some s=>{ b0:=e.1,T:=e.2.1,c0:=e.2.2,st:=some s.s,c1:=s.c1 }
  | [],_,_=>by simp [elders]
  | e :: M,k,0=>by simp only [elders,List.getElem?_cons_zero,Option.map_some,Nat.add_zero] <;> (cases stAt S k <;> rfl)
  | e :: M,k,m+1=>by
    simp only [elders,List.getElem?_cons_succ]
    rw [elders_get S M (k+1) m]
    have:k+1+m=k+(m+1):=by omega
    rw [this]
theorem elders_len (S:List Sto):∀ (M:List Ent) (k:Nat),(elders S M k).length=M.length
  | [],_=>rfl
  | e :: M,k=>by simp [elders,elders_len S M (k+1)]
theorem mem_start (R:Reg) (m:Nat):R.mem (fun _=>false) (fun _=>undef) m=mem R.M m:=by
  unfold Reg.mem Reg.O mem
  by_cases hm:m < R.M.length
  · rw [List.getElem?_append_left (by rw [elders_len];exact hm),elders_get]
    rw [List.getElem?_eq_getElem hm]
    simp only [Option.map_some]
    cases hs:stAt R.S (0+m) with
    | none=>simp [Own.on,Own.blk,Own.cs]
    | some s=>simp [Own.on,Own.blk,Own.cs]
  · rw [List.getElem?_append_right (by rw [elders_len];omega)]
    rw [List.getElem?_eq_none (l:=R.M) (by omega)]
    unfold news
    rw [List.getElem?_map]
    cases R.W[m-(elders R.S R.M 0).length]? with
    | none=>rfl
    | some n=>simp [Own.on]
structure End (R:Reg) (env:Env) (a:Act) (w:World):Prop where
 j:J R (allD R.ops.size) env a w
 ok:regOk R=true
 ds:dsOk R
theorem reg_cur {ops:Array Oper} {id n:Nat} {draw:Bool} {w0:World} {row ex:Option Nat} {Ψ Θ:World→Prop} {L:Slots} {M:List Ent} (hm:P.follows .mixedOrders=true) (h:Cur n w0 row ex Ψ Θ L M a w) (ds:List (Option Tmp)) (cl:List (List Nat)) (S:List Sto) (W:List New) (V:List (Option (Env→Value))) (F:List (Nat × (Env→World→Prop))) (th:Option (Nat × (Env→World→Prop)))
    (hds:ops.toList.map (·.dst)=ds) (hR:regOk ⟨ops,ds,cl,S,W,V,F,n,a,L,M,w0,row,ex,Ψ,Θ,th⟩=true)
    (hs:∀ i,i < ops.size→SR P Q ⟨ops,ds,cl,S,W,V,F,n,a,L,M,w0,row,ex,Ψ,Θ,th⟩ i)
    (hend:∀ env a' w',End ⟨ops,ds,cl,S,W,V,F,n,a,L,M,w0,row,ex,Ψ,Θ,th⟩ env a' w'→Q .normal a' w'):(Code.region id ops draw).wp P Q a w:=by
  have hJ:∀ w',St w0 row ex w' (mem M) Ψ Θ→RI ⟨ops,ds,cl,S,W,V,F,n,a,L,M,w0,row,ex,Ψ,Θ,th⟩ (fun _=>false) a w':=fun w' h' =>
    ⟨fun _=>undef,h.sz,h.df,fun t _=>rfl,fun j t hj=>(by cases hj),(h'.ext (fun m=>mem_start _ m)).mono (fun w'' h=>⟨h,fun i hi=>by cases hi⟩) (fun _ h=>by cases th <;> exact h),h.sl⟩
  refine reg_inv (cl:=cl) (I:=RI ⟨ops,ds,cl,S,W,V,F,n,a,L,M,w0,row,ex,Ψ,Θ,th⟩) hm (regOk_cl hR) (hJ w h.st) (fun _=>hJ _ h.st.drew) (fun i hi=>hs i hi hR hds) (fun D a' w' hD hI=>?_)
  obtain ⟨env,hJ'⟩:=hI
  have e:D=allD ops.size:=by funext j;rw [hD j];rfl
  rw [e] at hJ'
  exact hend env a' w' ⟨hJ',hR,hds⟩
def endM (R:Reg) (env:Env):List Ent:=R.O.map fun o=>(o.blk env,o.T,match o.st with
  | none=>o.c0
  | some s=>o.c1 (restr (R.cl.getD s []) env))
def ownIn (R:Reg) (N:Nat):Bool:=R.O.all fun o=>(match o.al with | none=>true | some i=>Nat.blt i N) && (match o.st with | none=>true | some i=>Nat.blt i N)
theorem J.cur (hR:regOk R=true) (hds:dsOk R) (h:J R (allD R.ops.size) env a w) {L:Slots} {M:List Ent} (hL:L.map (fun e=>slotEnd R env e.1)=L.map (fun e=>some e.2)) (hM:endM R env=M) (hO:ownIn R R.ops.size=true) {T:World→Prop} (hT:∀ w,R.tht (allD R.ops.size) env w→T w):Cur R.n R.w0 R.row R.ex R.Ψ T L M a w:=by
  refine ⟨h.sz,h.df,(h.st.ext (fun m=>?_)).mono (fun _ h=>h.1) hT,fun t v ht=>?_⟩
  · rw [← hM]
    unfold mem endM Reg.mem
    rw [List.getElem?_map]
    cases hm:R.O[m]? with
    | none=>rfl
    | some o =>
      have h1:=List.all_eq_true.1 hO o (List.mem_of_getElem? hm)
      simp only [Bool.and_eq_true] at h1
      have hon:o.on (allD R.ops.size)=true:=by
        unfold Own.on
        cases ha:o.al with
        | none=>rfl
        | some i=>rw [ha] at h1;exact h1.1
      have hcs:o.cs R.cl (allD R.ops.size) env=(match o.st with | none=>o.c0 | some s=>o.c1 (restr (R.cl.getD s []) env)):=by
        unfold Own.cs
        cases hs:o.st with
        | none=>rfl
        | some s =>
          have h2:allD R.ops.size s=true:=by rw [hs] at h1;exact h1.2
          simp only [h2,if_true]
      simp only [Option.map_some,hon,if_true,hcs]
  · have key:∀ (L:Slots),L.map (fun e=>slotEnd R env e.1)=L.map (fun e=>some e.2)→lk L t=some v→slotEnd R env t=some v:=by
      intro L
      induction L with
      | nil=>intro _ h;cases h
      | cons e r ih =>
        intro h1 h2
        simp only [List.map_cons,List.cons.injEq] at h1
        unfold lk at h2
        by_cases he:Nat.beq e.1 t=true
        · rw [if_pos he] at h2
          rw [← Nat.eq_of_beq_eq_true he,h1.1,h2]
        · rw [if_neg he] at h2
          exact ih h1.2 h2
    have h1:=key L hL ht
    unfold slotEnd at h1
    split at h1
    · rename_i j hj
      have h2:=List.find?_some hj
      have hd:=(isD_spec hds).1 h2
      have hlt:j < R.ops.size:=by
        obtain ⟨o,ho⟩:=op_of_dst hd
        exact (Array.getElem?_eq_some_iff.1 ho).1
      have hD:allD R.ops.size j=true:=blt_yes hlt
      rw [← Option.some.inj h1,val_of hR hd (h.fact hD)]
      exact h.new j t hD hd
    · rename_i hj
      rw [← h.sl t v h1]
      refine h.old t (fun j hj' e=>?_)
      have h3:=List.find?_eq_none.1 hj j (List.mem_range.2 (lt_of_dst hds e))
      exact h3 ((isD_spec hds).2 e)
theorem End.cur (h:End R env a w) {L:Slots} {M:List Ent} (hL:L.map (fun e=>slotEnd R env e.1)=L.map (fun e=>some e.2)) (hM:endM R env=M) (hO:ownIn R R.ops.size=true) {T:World→Prop} (hT:∀ w,R.tht (allD R.ops.size) env w→T w):Cur R.n R.w0 R.row R.ex R.Ψ T L M a w:=h.j.cur h.ok h.ds hL hM hO hT
theorem End.tell (h:End R env a w) (j:Nat) (hj:Nat.blt j R.ops.size=true):R.f j env w:=h.j.fact hj
theorem s0 {p:Nat→Prop}:∀ i,i < 0→p i:=steps_nil
theorem sn {p:Nat→Prop} {n:Nat} (h:∀ i,i < n→p i) (h1:p n):∀ i,i < n+1→p i:=steps_snoc h h1
theorem At.args (h:At R i D env a w) {ps:Array Operand} {vs:List Value} (hv:ps.toList.map (opAt R i env)=vs.map some):ps.map a.eval=vs.toArray:=by
  apply Array.ext'
  rw [Array.toList_map]
  have key:∀ (l:List Operand) (vs:List Value),l.map (opAt R i env)=vs.map some→l.map a.eval=vs:=by
    intro l
    induction l with
    | nil=>intro vs h;cases vs with
      | nil=>rfl
      | cons _ _=>cases h
    | cons x l ih=>intro vs h1;cases vs with
      | nil=>cases h1
      | cons v vs =>
        simp only [List.map_cons,List.cons.injEq] at h1 ⊢
        exact ⟨h.e h1.1,ih vs h1.2⟩
  exact key _ _ hv
theorem s_stE (ho:R.ops[i]? = some o) (hg:o.guard=none) {T:TypeId} {t:Tmp} {x:Operand} (hop:o.op = .store T (.tmp t) x) (m:Nat) {ow:Own} (hm:R.O[m]? = some ow) (hs:ow.st=some i) (hal:ow.al=none) {off:Nat} {v:Env→Value} {cs:Env→List Value}
    (hp:∀ env,slotAt R i env t=some (.pointer (some ⟨ow.b0,off,none⟩))) (hx:∀ env,opAt R i env x=some (v env)) (hst:∀ (env:Env) (b:Nat) (w:World),w.heap[b]? = some (.cells ow.c0.toArray ow.T (0,0))→∃ w',(Instr.storeAt T (.pointer (some ⟨b,off,none⟩)) (v env)).run P w = .ok () w'∧Put w w' b (.cells (cs env).toArray ow.T (0,0)))
    (hc:∀ env y,ow.c1 (restr (R.cl.getD i []) (upd env i y))=cs env:=by intros;rfl) (hV:R.v? i=none:=by rfl) (hn:noF R i=true:=by rfl) (hnt:noTh R i=true:=by rfl):SR P Q R i:=
  s_storeE ho hg m hm hs hal (fun {D env a w} hA hh=>by
    obtain ⟨w',h1,h2⟩:=hst env ow.b0 w hh
    rw [hc]
    exact ⟨w',by simp [execOp,hop,eval_tmp (hA.g (hp env)),hA.e (hx env),h1],h2⟩) hV hn hnt
theorem s_stN (ho:R.ops[i]? = some o) (hg:o.guard=none) {T:TypeId} {t:Tmp} {x:Operand} (hop:o.op = .store T (.tmp t) x) (m k:Nat) {ow:Own} (hm:R.O[m]? = some ow) (hs:ow.st=some i) (hal:ow.al=some k) (hk:R.v? k=some fun env=>.pointer (some ⟨pb env k,0,none⟩)) {v:Env→Value} {cs:Env→List Value}
    (hp:isD R.ds t k=true) (hx:∀ env,opAt R i env x=some (v env)) (hst:∀ (env:Env) (b:Nat) (w:World),w.heap[b]? = some (.cells ow.c0.toArray ow.T (0,0))→∃ w',(Instr.storeAt T (.pointer (some ⟨b,0,none⟩)) (v env)).run P w = .ok () w'∧Put w w' b (.cells (cs env).toArray ow.T (0,0)))
    (hc:∀ env y,ow.c1 (restr (R.cl.getD i []) (upd env i y))=cs env:=by intros;rfl) (hV:R.v? i=none:=by rfl) (hn:noF R i=true:=by rfl) (hnt:noTh R i=true:=by rfl):SR P Q R i:=fun hR hds =>
  s_storeN ho hg m k hm hs hal hk (fun {D env a w} hA hh=>by
    obtain ⟨w',h1,h2⟩:=hst env (pb env k) w hh
    rw [hc]
    have hki:=(regOk_own hA.ok hm).1 k i hal hs
    have e1:=hA.slot k (by simp only [Bool.and_eq_true,List.contains_iff_mem,Bool.not_eq_true',beq_eq_false_iff_ne];exact hki) hp
    have e2:=(hA.j.fact (hA.p k hki.1 hki.2)).1 _ hk
    obtain ⟨ok,hok⟩:=op_of_dst ((isD_spec hA.ds).1 hp)
    have e3:env k = .pointer (some ⟨pb env k,0,none⟩):=by
      have hself:=cl_self hA.ok hok
      unfold pb restr at e2
      rw [if_pos (List.contains_iff_mem.2 hself)] at e2
      exact e2
    rw [e3] at e1
    exact ⟨w',by simp [execOp,hop,eval_tmp e1,hA.e (hx env),h1],h2⟩) hV hn hnt hR hds
theorem Cur.g {n:Nat} {w0:World} {row ex:Option Nat} {Ψ Θ:World→Prop} {L:Slots} {M:List Ent} (h:Cur n w0 row ex Ψ Θ L M a w) {t:Tmp} {v:Value} (ht:lk L t=some v):a.tmps[t]? = some v:=h.sl t v ht
end
section
variable {P:Program} {Q:Exit→Act→World→Prop} {a:Act} {w:World}
theorem then_n {K:Act→World→Prop} (h:K a w):Exit.then K Q .normal a w:=h
theorem then_ret {K:Act→World→Prop} (h:Q .ret a w):Exit.then K Q .ret a w:=h
theorem St.start (w:World) {Θ:World→Prop} (hT:∀ w',Apart (mem []) none w w'→Θ w'):St w none none w (mem []) (fun _=>True) Θ:=
 ⟨⟨rfl,rfl,rfl,Nat.le_refl _,fun _ _ _=>rfl⟩,fun m m' e e' h=>(by simp [mem] at h),fun m e h=>(by simp [mem] at h),fun g hg=>(by cases hg),fun _ _=>trivial,hT⟩
theorem St.below {w0 w:World} {ex:Option Nat} {M:Mem} {Ψ Θ:World→Prop} (h:St w0 none ex w M Ψ Θ):Below w0.heap.size w0 w:=
 ⟨h.gr.os,h.gr.tape,h.gr.output,h.gr.size,fun k hk=>h.gr.block k hk (by simp)⟩
theorem enter {f:FuncId} {fn:Func} {c:Code} {args:Array Value} {n:Nat} {R:Ending→World→Prop} (hf:P.funcs[f]? = some fn) (hb:fn.body=some c) (hn:fn.ntmps=n) (hle:args.size≤n)
    {row ex:Option Nat} {Θ:World→Prop} {L:Slots} (hst:St w row ex w (mem []) (fun _=>True) Θ) (hL:∀ t v,lk L t=some v→args[t]? = some v)
    (h:∀ a:Act,Cur n w row ex (fun _=>True) Θ L [] a w→c.wp P (bodyPost P fn R) a w):Calls P f args w R:=by
  refine calls_of_wp hf hb (h _ ⟨?_,rfl,hst,fun i v hv=>?_⟩)
  · simp [hn];omega
  · have hv:=hL i v hv
    have hi:i < args.size:=(Array.getElem?_eq_some_iff.1 hv).1
    rw [← hv]
    simp [Array.getElem?_append,hi]
theorem lk_args {L:Slots} {args:Array Value} (h:L.map (fun e=>args.toList[e.1]?)=L.map (fun e=>some e.2)):∀ t v,lk L t=some v→args[t]? = some v:=by
  intro t v
  induction L with
  | nil=>intro h;cases h
  | cons e r ih =>
    intro h2
    simp only [List.map_cons,List.cons.injEq] at h
    unfold lk at h2
    by_cases he:Nat.beq e.1 t=true
    · rw [if_pos he] at h2
      have:=Nat.eq_of_beq_eq_true he
      subst this
      rw [← Array.getElem?_toList,h.1,h2]
    · rw [if_neg he] at h2
      exact ih h.2 h2
theorem leave {fn:Func} {R:Ending→World→Prop} {v:Value} (hdf:a.defers=[]) (hr:(results fn a.tmps).run P w = .ok v w) (h:R (.returned v) w):bodyPost P fn R .ret a w:=⟨hdf,v,hr,h⟩
end
def Ret (f:FuncId) (args:Array Value) (v:Value):Prop:=∀ w:World,Calls Tryz.prog f args w fun e w'=>e = .returned v∧Below w.heap.size w w'
theorem s_cw {R:Reg} {Q:Exit→Act→World→Prop} {i:Nat} {o:Oper} (ho:R.ops[i]? = some o) (hf:free' R i=true) {f:FuncId} {fn:Func} {ps:Array Operand} {ts:Array TypeId} (hop:o.op = .call { callee:=.value (.func f),args:=ps,argTypes:=ts })
    (hfn:Tryz.prog.funcs[f]? = some fn) (hname:(fn.name == "runtime.NumGoroutine")=false) (hb:fn.body.isSome=true) {V:Env→Value} (hV:R.v? i=some V) (hw:∀ {D env a w},At R i D env a w→Region.wanted o (yielded R.ops a.tmps)=true)
    (h:∀ env,∃ vs:List Value,Ret f vs.toArray (V env)∧ps.toList.map (opAt R i env)=vs.map some) (hn:noF R i=true:=by rfl) (hr:∀ env x,V (restr (R.cl.getD i []) (upd env i x))=V env:=by intros;rfl):SR Tryz.prog Q R i:=
  s_callw ho hf hop hfn hname hb hV hw (fun {D env a w} hA=>by
    obtain ⟨vs,h1,h2⟩:=h env
    exact ⟨vs.toArray,hA.args h2,h1 w⟩) hn hr
theorem Ret.eq {f:FuncId} {args:Array Value} {v v':Value} (h:Ret f args v) (e:v=v'):Ret f args v':=e▸h
theorem mixed:Tryz.prog.follows .mixedOrders=true:=by kernel_rfl
end Go.Proofs.YtailjojebdmnnaaGreat
namespace Go.Proofs.YtailjojebdmnnaaGreat
open Go.RowKit
section
variable {P:Program} {n:Nat} {w0:World} {row ex:Option Nat} {Ψ Θ:World→Prop} {L:Slots} {M:List Ent} {a:Act} {w:World}
theorem cF_ (h:Cur n w0 row ex Ψ Θ L M a w) {t:Tmp} {c1 c2:Code} {Q:Exit→Act→World→Prop} (k:c2.wp P Q a w) (hv:lk L t=some (.bool false):=by rfl):(Code.cond (.tmp t) c1 c2).wp P Q a w:=wp_cond_false (eval_tmp (h.g hv)) k
theorem cT_ (h:Cur n w0 row ex Ψ Θ L M a w) {t:Tmp} {c1 c2:Code} {Q:Exit→Act→World→Prop} (k:c1.wp P Q a w) (hv:lk L t=some (.bool true):=by rfl):(Code.cond (.tmp t) c1 c2).wp P Q a w:=wp_cond_true (eval_tmp (h.g hv)) k
theorem en_ {f:FuncId} {fn:Func} {c:Code} {args:Array Value} {R:Ending→World→Prop} (hf:P.funcs[f]? = some fn) (hst:St w row ex w (mem []) (fun _=>True) Θ) (n:Nat) (L:Slots) (k:∀ a:Act,Cur n w row ex (fun _=>True) Θ L [] a w→c.wp P (bodyPost P fn R) a w) (hb:fn.body=some c:=by rfl) (hn:fn.ntmps=n:=by rfl) (hle:args.size≤n:=by exact Nat.le_of_ble_eq_true rfl) (hL:∀ t v,lk L t=some v→args[t]? = some v:=by exact lk_args rfl):Calls P f args w R:=enter hf hb hn hle hst hL k
theorem cellLoad (h:Cur n w0 row ex Ψ Θ L M a w) {m N b:Nat} {T T':TypeId} {cs:List Value} {v:Value} (hm:M[m]? = some (b,T',cs)) (hrd:∀ (b:Nat) (w:World),(∀ q x,q < N→cs[0+q]? = some x→w.cell? ⟨b,0+q,none⟩=some x)→(Instr.loadAt T (.pointer (some ⟨b,0,none⟩))).run P w = .ok v w):(Instr.loadAt T (.pointer (some ⟨b,0,none⟩))).run P w = .ok v w:=
 hrd b w (fun q x _ e=>own_cell (h.st.own m _ hm).2 e)
theorem varLoad (h:Cur n w0 row ex Ψ Θ L M a w) {m N b:Nat} {T T':TypeId} {cs:List Value} {v:Value} (hm:M[m]? = some (b,T',cs)) (hrd:∀ (b:Nat) (w:World),(∀ q x,q < N→cs[0+q]? = some x→w.cell? ⟨b,0+q,none⟩=some x)→(Instr.loadAt T (.pointer (some ⟨b,0,none⟩))).run P w = .ok v w):(loadVar T ⟨b,0,none⟩).run P w = .ok v w:=by
 have hl:=cellLoad h hm hrd
 simpa [Instr.loadAt,Instr.sureAddr,go_sem] using hl
section
variable {fn:Func} {R:Ending→World→Prop}
theorem lvT {t:Tmp} (hr:fn.results = #[.tmp t]) (h:Cur n w0 row ex Ψ Θ L M a w) {v:Value} (k:R (.returned v) w) (hv:lk L t=some v:=by rfl):bodyPost P fn R .ret a w:=
 leave h.df (by simp [results,hr,go_sem,Array.getD_eq_getD_getElem?,h.g hv]) k
theorem lvC {p:Tmp} {T:TypeId} (hr:fn.results = #[.cell p T]) (h:Cur n w0 row ex Ψ Θ L M a w) (m:Nat) {N b:Nat} {T':TypeId} {cs:List Value} {v:Value} (hrd:∀ (b:Nat) (w:World),(∀ q x,q < N→cs[0+q]? = some x→w.cell? ⟨b,0+q,none⟩=some x)→(Instr.loadAt T (.pointer (some ⟨b,0,none⟩))).run P w = .ok v w) (k:R (.returned v) w) (hm:M[m]? = some (b,T',cs):=by rfl) (hp:lk L p=some (.pointer (some ⟨b,0,none⟩)):=by rfl):bodyPost P fn R .ret a w:=by
 have h1:=varLoad h hm hrd
 exact leave h.df (by simp [results,hr,go_sem,Array.getD_eq_getD_getElem?,h.g hp,asAddr];simpa [go_sem] using h1) k
theorem lvCT {p t:Tmp} {T:TypeId} (hr:fn.results = #[.cell p T,.tmp t]) (h:Cur n w0 row ex Ψ Θ L M a w) (m:Nat) {N b:Nat} {T':TypeId} {cs:List Value} {v v2:Value} (hrd:∀ (b:Nat) (w:World),(∀ q x,q < N→cs[0+q]? = some x→w.cell? ⟨b,0+q,none⟩=some x)→(Instr.loadAt T (.pointer (some ⟨b,0,none⟩))).run P w = .ok v w) (k:R (.returned (.tuple #[v,v2])) w) (hm:M[m]? = some (b,T',cs):=by rfl) (hp:lk L p=some (.pointer (some ⟨b,0,none⟩)):=by rfl) (hv:lk L t=some v2:=by rfl):bodyPost P fn R .ret a w:=by
 have h1:=varLoad h hm hrd
 refine leave h.df ?_ k
 unfold results
 rw [hr]
 simp only [List.mapM_toArray,List.mapM_cons,List.mapM_nil,Array.getD_eq_getD_getElem?,h.g hp,h.g hv,Option.getD_some,asAddr,pure_bind]
 generalize loadVar T ⟨b,0,none⟩=X at h1 ⊢
 simp [go_sem,h1]
end
end
end Go.Proofs.YtailjojebdmnnaaGreat
namespace Go.Proofs.YtailjojebdmnnaaGreat
open Go.RowKit
attribute [local go_sem] vW vM vL vT2 vT3 vP vI execOp Act.eval hi_zero lo_zero
theorem st3 {b off T0:Nat} {cs cs':List Value} {u0:Value} {n0:Int} (e0:cs[off]? = some u0) (e:(cs.set (off) (.int .i64 n0))=cs') {w:World} (hc:w.heap[b]? = some (.cells cs.toArray T0 (0,0))):∃ w',(Instr.storeAt 3 (.pointer (some ⟨b,off,none⟩)) (.int .i64 n0)).run Tryz.prog w = .ok () w'∧Put w w' b (.cells cs'.toArray T0 (0,0)):=by
 have c0:=own_cell hc e0
 have f0:=own_frozen (o:=off) hc
 exact ⟨_,by simp [go_sem,c0,f0],((Put.refl hc).set (off) (.int .i64 n0) e)⟩
theorem st27 {b off T0:Nat} {cs cs':List Value} {u0 u1:Value} {n0:Int} {n1:Int} (e0:cs[off]? = some u0) (e1:cs[off+1]? = some u1) (e:((cs.set (off) (.int .i64 n0)).set (off+1) (.int .u64 n1))=cs') {w:World} (hc:w.heap[b]? = some (.cells cs.toArray T0 (0,0))):∃ w',(Instr.storeAt 27 (.pointer (some ⟨b,off,none⟩)) (.agg #[.int .i64 n0,.int .u64 n1])).run Tryz.prog w = .ok () w'∧Put w w' b (.cells cs'.toArray T0 (0,0)):=by
 have c0:=own_cell hc e0
 have f0:=own_frozen (o:=off) hc
 have c1:=own_cell hc e1
 have f1:=own_frozen (o:=off+1) hc
 exact ⟨_,by simp [go_sem,Tryz.underlying27,c0,f0,c1,f1],(((Put.refl hc).set (off) (.int .i64 n0) rfl).set (off+1) (.int .u64 n1) e)⟩
theorem rd113 {off:Nat} {cs:List Value} {v0 v1 v2 v3 v4 v5 v6 v7 v8 v9 v10 v11 v12 v13:Value} (e0:cs[off]? = some v0) (e1:cs[off+1]? = some v1) (e2:cs[off+2]? = some v2) (e3:cs[off+3]? = some v3) (e4:cs[off+4]? = some v4) (e5:cs[off+5]? = some v5) (e6:cs[off+6]? = some v6) (e7:cs[off+7]? = some v7) (e8:cs[off+8]? = some v8) (e9:cs[off+9]? = some v9) (e10:cs[off+10]? = some v10) (e11:cs[off+11]? = some v11) (e12:cs[off+12]? = some v12) (e13:cs[off+13]? = some v13) (b:Nat) (w:World) (h:∀ q x,q < 14→cs[off+q]? = some x→w.cell? ⟨b,off+q,none⟩=some x):(Instr.loadAt 113 (.pointer (some ⟨b,off,none⟩))).run Tryz.prog w = .ok (.agg #[v0,v1,v2,v3,v4,v5,v6,v7,v8,v9,v10,v11,v12,v13]) w:=by
 have c0:=h 0 v0 (by omega) e0
 have c1:=h 1 v1 (by omega) e1
 have c2:=h 2 v2 (by omega) e2
 have c3:=h 3 v3 (by omega) e3
 have c4:=h 4 v4 (by omega) e4
 have c5:=h 5 v5 (by omega) e5
 have c6:=h 6 v6 (by omega) e6
 have c7:=h 7 v7 (by omega) e7
 have c8:=h 8 v8 (by omega) e8
 have c9:=h 9 v9 (by omega) e9
 have c10:=h 10 v10 (by omega) e10
 have c11:=h 11 v11 (by omega) e11
 have c12:=h 12 v12 (by omega) e12
 have c13:=h 13 v13 (by omega) e13
 simp only [Nat.add_zero] at c0
 simp [go_sem,Tryz.underlying113,c0,c1,c2,c3,c4,c5,c6,c7,c8,c9,c10,c11,c12,c13]
theorem sz3:(Tryz.prog.info? 3).map (·.size)=some 1:=by kernel_rfl
theorem sz44:(Tryz.prog.info? 44).map (·.size)=some 2:=by kernel_rfl
theorem sz47:(Tryz.prog.info? 47).map (·.size)=some 7:=by kernel_rfl
theorem sz111:(Tryz.prog.info? 111).map (·.size)=some 4:=by kernel_rfl
theorem sz113:(Tryz.prog.info? 113).map (·.size)=some 14:=by kernel_rfl
end Go.Proofs.YtailjojebdmnnaaGreat
namespace Go.Proofs.YtailjojebdmnnaaGreat
open Go.RowKit
attribute [local go_sem] vW vM vL vT2 vT3 vP vI execOp Act.eval hi_zero lo_zero
abbrev K_ (v:Value):Option (Env→Value):=some fun _=>v
abbrev vN (n:Nat):Value:=.int .i64 (n:Int)
abbrev bT:Value:=.bool true
abbrev bF:Value:=.bool false
def r_ (n:Nat):List Nat:=List.range n
def tri (n:Nat):List (List Nat):=(List.range n).map fun i=>List.range (i+1)
abbrev KE_ (f:Env→Value):Option (Env→Value):=some f
def evC:Operand→Value
  | .const c=>c
  | _=>undef
attribute [local go_sem] evC
section
variable {P:Program} {Q:Exit→Act→World→Prop} {R:Reg} {i:Nat} {o:Oper}
theorem At.gu {D:Nat→Bool} {env:Env} {a:Act} {w:World} (h:At R i D env a w) {g:Nat} {u:Bool} {t:Tmp} (hg:o.guard=some (g,u)) (ht:(R.ds[g]?).join=some t) (hv:slotAt R i env t=some undef):Region.wanted o (yielded R.ops a.tmps)=false:=by
  have ht':dstO R.ops g=some t:=by rw [dstO_ds h.ds];exact ht
  have hv':=h.g hv
  unfold Region.wanted dstO at *
  rw [hg]
  cases ho:R.ops[g]? with
  | none=>rw [ho] at ht';cases ht'
  | some og =>
    rw [ho] at ht'
    simp only [Option.bind_some] at ht'
    cases u <;> simp [yielded,ho,ht',hv',undef]
theorem off_ (ho:R.ops[i]? = some o:=by rfl) (hf:free' R i=true:=by rfl) (hV:R.v? i=some (fun _=>undef):=by rfl) (hrun:∀ D env a w,At R i D env a w→Region.wanted o (yielded R.ops a.tmps)=false:=by intro D env a w hA;first | exact hA.gn rfl rfl rfl | exact hA.gu rfl rfl rfl) (hn:noF R i=true:=by rfl):SR P Q R i:=s_off ho hf hV (fun hA=>hrun _ _ _ _ hA) hn
theorem bi_ {k:BinOp} {T T2:TypeId} {x y:Operand} (vx vy:Env→Value) (ho:R.ops[i]? = some o:=by rfl) (hf:free' R i=true:=by rfl) (hop:o.op = .binOp k T x y T2:=by rfl) {V:Env→Value} (hV:R.v? i=some V:=by rfl) (hx:∀ env,opAt R i env x=some (vx env):=by intro _;rfl) (hy:∀ env,opAt R i env y=some (vy env):=by intro _;rfl)
    (h:∀ env w,Sem.run P (do eqGuard k T x y (vx env) (vy env);binOp k T (vx env) (vy env)) w = .ok (V env) w:=by intro env w;first | (simp [go_sem];done) | (simp [go_sem];omega) | (simp [go_sem];exact IntWalk.i64_in _ (by omega))) (hw:∀ D env a w,At R i D env a w→Region.wanted o (yielded R.ops a.tmps)=true:=by intro D env a w hA;first | exact wanted_none rfl _ | exact hA.gy rfl rfl rfl) (hn:noF R i=true:=by rfl) (hr:∀ env x,V (restr (R.cl.getD i []) (upd env i x))=V env:=by intros;rfl):SR P Q R i:=
  s_val ho hf hV (fun {D env a w} hA=>⟨hw _ _ _ _ hA,by
    have h1:=h env w
    have ex:=hA.e (hx env);have ey:=hA.e (hy env)
    unfold execOp
    simp only [hop,ex,ey]
    rw [Sem.run_bind,h1]
    rfl⟩) hn hr
theorem un_ {k:UnOp} {T:TypeId} {x:Operand} (vx:Env→Value) (ho:R.ops[i]? = some o:=by rfl) (hf:free' R i=true:=by rfl) (hop:o.op = .unOp k T x:=by rfl) {V:Env→Value} (hV:R.v? i=some V:=by rfl) (hx:∀ env,opAt R i env x=some (vx env):=by intro _;rfl)
    (h:∀ env w,(execOp evC { o with op:=.unOp k T (.const (vx env)) }).run P w = .ok (.value (V env)) w:=by intro env w;first | (simp [go_sem];done) | (simp [go_sem];omega) | (simp [go_sem];exact IntWalk.i64_in _ (by omega))) (hw:∀ D env a w,At R i D env a w→Region.wanted o (yielded R.ops a.tmps)=true:=by intro D env a w hA;first | exact wanted_none rfl _ | exact hA.gy rfl rfl rfl) (hn:noF R i=true:=by rfl) (hr:∀ env x,V (restr (R.cl.getD i []) (upd env i x))=V env:=by intros;rfl):SR P Q R i:=
  s_val ho hf hV (fun {D env a w} hA=>⟨hw _ _ _ _ hA,by
    have h1:=h env w
    have ex:=hA.e (hx env)
    unfold execOp at h1 ⊢
    simp only [hop,evC,ex] at h1 ⊢
    exact h1⟩) hn hr
theorem cv_ {T T2:TypeId} {x:Operand} (vx:Env→Value) (ho:R.ops[i]? = some o:=by rfl) (hf:free' R i=true:=by rfl) (hop:o.op = .convert T T2 x:=by rfl) {V:Env→Value} (hV:R.v? i=some V:=by rfl) (hx:∀ env,opAt R i env x=some (vx env):=by intro _;rfl)
    (h:∀ env w,(execOp evC { o with op:=.convert T T2 (.const (vx env)) }).run P w = .ok (.value (V env)) w:=by intro env w;first | (simp [go_sem];done) | (simp [go_sem];omega) | (simp [go_sem];exact IntWalk.i64_in _ (by omega))) (hw:∀ D env a w,At R i D env a w→Region.wanted o (yielded R.ops a.tmps)=true:=by intro D env a w hA;first | exact wanted_none rfl _ | exact hA.gy rfl rfl rfl) (hn:noF R i=true:=by rfl) (hr:∀ env x,V (restr (R.cl.getD i []) (upd env i x))=V env:=by intros;rfl):SR P Q R i:=
  s_val ho hf hV (fun {D env a w} hA=>⟨hw _ _ _ _ hA,by
    have h1:=h env w
    have ex:=hA.e (hx env)
    unfold execOp at h1 ⊢
    simp only [hop,evC,ex] at h1 ⊢
    exact h1⟩) hn hr
theorem fl_ {T:TypeId} {k:Nat} {x:Operand} (vx:Env→Value) (ho:R.ops[i]? = some o:=by rfl) (hf:free' R i=true:=by rfl) (hop:o.op = .field T x k:=by rfl) {V:Env→Value} (hV:R.v? i=some V:=by rfl) (hx:∀ env,opAt R i env x=some (vx env):=by intro _;rfl)
    (h:∀ env w,(execOp evC { o with op:=.field T (.const (vx env)) k }).run P w = .ok (.value (V env)) w:=by intro env w;simp [go_sem,Instr.field,part,asAgg]) (hw:∀ D env a w,At R i D env a w→Region.wanted o (yielded R.ops a.tmps)=true:=by intro D env a w hA;first | exact wanted_none rfl _ | exact hA.gy rfl rfl rfl) (hn:noF R i=true:=by rfl) (hr:∀ env x,V (restr (R.cl.getD i []) (upd env i x))=V env:=by intros;rfl):SR P Q R i:=
  s_val ho hf hV (fun {D env a w} hA=>⟨hw _ _ _ _ hA,by
    have h1:=h env w
    have ex:=hA.e (hx env)
    unfold execOp at h1 ⊢
    simp only [hop,evC,ex] at h1 ⊢
    exact h1⟩) hn hr
theorem fa_ {T:TypeId} {k:Nat} {x:Operand} (vx:Env→Value) (ho:R.ops[i]? = some o:=by rfl) (hf:free' R i=true:=by rfl) (hop:o.op = .fieldAddr T x k:=by rfl) {V:Env→Value} (hV:R.v? i=some V:=by rfl) (hx:∀ env,opAt R i env x=some (vx env):=by intro _;rfl)
    (h:∀ env w,(execOp evC { o with op:=.fieldAddr T (.const (vx env)) k }).run P w = .ok (.value (V env)) w:=by intro env w;first | (simp [go_sem];done) | (simp [go_sem];omega) | (simp [go_sem];exact IntWalk.i64_in _ (by omega))) (hw:∀ D env a w,At R i D env a w→Region.wanted o (yielded R.ops a.tmps)=true:=by intro D env a w hA;first | exact wanted_none rfl _ | exact hA.gy rfl rfl rfl) (hn:noF R i=true:=by rfl) (hr:∀ env x,V (restr (R.cl.getD i []) (upd env i x))=V env:=by intros;rfl):SR P Q R i:=
  s_val ho hf hV (fun {D env a w} hA=>⟨hw _ _ _ _ hA,by
    have h1:=h env w
    have ex:=hA.e (hx env)
    unfold execOp at h1 ⊢
    simp only [hop,evC,ex] at h1 ⊢
    exact h1⟩) hn hr
theorem nc_  {x:Operand} (vx:Env→Value) (ho:R.ops[i]? = some o:=by rfl) (hf:free' R i=true:=by rfl) (hop:o.op = .nilCheck x:=by rfl) {V:Env→Value} (hV:R.v? i=some V:=by rfl) (hx:∀ env,opAt R i env x=some (vx env):=by intro _;rfl)
    (h:∀ env w,(execOp evC { o with op:=.nilCheck (.const (vx env)) }).run P w = .ok (.value (V env)) w:=by intro env w;first | (simp [go_sem];done) | (simp [go_sem];omega) | (simp [go_sem];exact IntWalk.i64_in _ (by omega))) (hw:∀ D env a w,At R i D env a w→Region.wanted o (yielded R.ops a.tmps)=true:=by intro D env a w hA;first | exact wanted_none rfl _ | exact hA.gy rfl rfl rfl) (hn:noF R i=true:=by rfl) (hr:∀ env x,V (restr (R.cl.getD i []) (upd env i x))=V env:=by intros;rfl):SR P Q R i:=
  s_val ho hf hV (fun {D env a w} hA=>⟨hw _ _ _ _ hA,by
    have h1:=h env w
    have ex:=hA.e (hx env)
    unfold execOp at h1 ⊢
    simp only [hop,evC,ex] at h1 ⊢
    exact h1⟩) hn hr
theorem pk_  {x y z:Operand} (vx vy vz:Env→Value) (ho:R.ops[i]? = some o:=by rfl) (hf:free' R i=true:=by rfl) (hop:o.op = .pick x y z:=by rfl) {V:Env→Value} (hV:R.v? i=some V:=by rfl) (hx:∀ env,opAt R i env x=some (vx env):=by intro _;rfl) (hy:∀ env,opAt R i env y=some (vy env):=by intro _;rfl) (hz:∀ env,opAt R i env z=some (vz env):=by intro _;rfl)
    (h:∀ env w,(execOp evC { o with op:=.pick (.const (vx env)) (.const (vy env)) (.const (vz env)) }).run P w = .ok (.value (V env)) w:=by intro env w;first | (simp [go_sem];done) | (simp [go_sem];omega) | (simp [go_sem];exact IntWalk.i64_in _ (by omega))) (hw:∀ D env a w,At R i D env a w→Region.wanted o (yielded R.ops a.tmps)=true:=by intro D env a w hA;first | exact wanted_none rfl _ | exact hA.gy rfl rfl rfl) (hn:noF R i=true:=by rfl) (hr:∀ env x,V (restr (R.cl.getD i []) (upd env i x))=V env:=by intros;rfl):SR P Q R i:=
  s_val ho hf hV (fun {D env a w} hA=>⟨hw _ _ _ _ hA,by
    have h1:=h env w
    have ex:=hA.e (hx env);have ey:=hA.e (hy env);have ez:=hA.e (hz env)
    unfold execOp at h1 ⊢
    simp only [hop,evC,ex,ey,ez] at h1 ⊢
    exact h1⟩) hn hr
theorem gm_  {x:Operand} (vx:Env→Value) (ho:R.ops[i]? = some o:=by rfl) (hf:free' R i=true:=by rfl) (hop:o.op = .move x:=by rfl) {V:Env→Value} (hV:R.v? i=some V:=by rfl) (hx:∀ env,opAt R i env x=some (vx env):=by intro _;rfl)
    (h:∀ env w,(execOp evC { o with op:=.move (.const (vx env)) }).run P w = .ok (.value (V env)) w:=by intro env w;first | (simp [go_sem];done) | (simp [go_sem];omega) | (simp [go_sem];exact IntWalk.i64_in _ (by omega))) (hw:∀ D env a w,At R i D env a w→Region.wanted o (yielded R.ops a.tmps)=true:=by intro D env a w hA;first | exact wanted_none rfl _ | exact hA.gy rfl rfl rfl) (hn:noF R i=true:=by rfl) (hr:∀ env x,V (restr (R.cl.getD i []) (upd env i x))=V env:=by intros;rfl):SR P Q R i:=
  s_val ho hf hV (fun {D env a w} hA=>⟨hw _ _ _ _ hA,by
    have h1:=h env w
    have ex:=hA.e (hx env)
    unfold execOp at h1 ⊢
    simp only [hop,evC,ex] at h1 ⊢
    exact h1⟩) hn hr
theorem bd_ {T:TypeId} {es:Array (Nat × Operand)} (vs:Env→List Value) (ho:R.ops[i]? = some o:=by rfl) (hf:free' R i=true:=by rfl) (hop:o.op = .build T es:=by rfl) {V:Env→Value} (hV:R.v? i=some V:=by rfl) (hx:∀ env,es.toList.map (fun e=>opAt R i env e.2)=(vs env).map some:=by intro _;rfl)
    (h:∀ env w,(execOp evC { o with op:=.build T (List.zipWith (fun (e:Nat × Operand) v=>(e.1,Operand.const v)) es.toList (vs env)).toArray }).run P w = .ok (.value (V env)) w:=by intro env w;simp [go_sem]) (hw:∀ D env a w,At R i D env a w→Region.wanted o (yielded R.ops a.tmps)=true:=by intro D env a w hA;first | exact wanted_none rfl _ | exact hA.gy rfl rfl rfl) (hn:noF R i=true:=by rfl) (hr:∀ env x,V (restr (R.cl.getD i []) (upd env i x))=V env:=by intros;rfl):SR P Q R i:=
  s_val ho hf hV (fun {D env a w} hA=>⟨hw _ _ _ _ hA,by
    have h1:=h env w
    have e0:es.map (fun e=>(e.1,a.eval e.2))=(List.zipWith (fun (e:Nat × Operand) v=>(e.1,Operand.const v)) es.toList (vs env)).toArray.map (fun e=>(e.1,evC e.2)):=by
      apply Array.ext'
      have key:∀ (l:List (Nat × Operand)) (vs:List Value),l.map (fun e=>opAt R i env e.2)=vs.map some→l.map (fun e=>(e.1,a.eval e.2))=(List.zipWith (fun (e:Nat × Operand) v=>(e.1,Operand.const v)) l vs).map (fun e=>(e.1,evC e.2)):=by
        intro l
        induction l with
        | nil=>intro vs h;cases vs with
          | nil=>rfl
          | cons _ _=>cases h
        | cons x l ih=>intro vs h1;cases vs with
          | nil=>cases h1
          | cons v vs =>
            simp only [List.map_cons,List.cons.injEq,List.zipWith_cons_cons] at h1 ⊢
            exact ⟨by rw [hA.e h1.1];rfl,ih vs h1.2⟩
      have:=key es.toList (vs env) (hx env)
      simpa using this
    unfold execOp at h1 ⊢
    simp only [hop] at h1 ⊢
    rw [e0]
    exact h1⟩) hn hr
theorem cl_ {V:Env→Value} {f:FuncId} {fn:Func} {ps:Array Operand} {ts:Array TypeId} (hfn:Tryz.prog.funcs[f]? = some fn) (ho:R.ops[i]? = some o:=by rfl) (hf:free' R i=true:=by rfl) (hop:o.op = .call { callee:=.value (.func f),args:=ps,argTypes:=ts }:=by rfl) (hname:(fn.name == "runtime.NumGoroutine")=false:=by kernel_rfl) (hb:fn.body.isSome=true:=by rfl) (hV:R.v? i=some V:=by rfl) (hw:∀ D env a w,At R i D env a w→Region.wanted o (yielded R.ops a.tmps)=true:=by intro D env a w hA;first | exact wanted_none rfl _ | exact hA.gy rfl rfl rfl) (hn:noF R i=true:=by rfl) (hr:∀ env x,V (restr (R.cl.getD i []) (upd env i x))=V env:=by intros;rfl) (h:∀ env,∃ vs:List Value,Ret f vs.toArray (V env)∧ps.toList.map (opAt R i env)=vs.map some):SR Tryz.prog Q R i:=s_cw ho hf hop hfn hname hb hV (fun hA=>hw _ _ _ _ hA) h hn hr
theorem cw_ {V:Env→Value} {f:FuncId} {fn:Func} {ps:Array Operand} {ts:Array TypeId} (hfn:P.funcs[f]? = some fn) (ho:R.ops[i]? = some o:=by rfl) (hf:free' R i=true:=by rfl) (hop:o.op = .call { callee:=.value (.func f),args:=ps,argTypes:=ts }:=by rfl) (hname:(fn.name == "runtime.NumGoroutine")=false:=by kernel_rfl) (hb:fn.body.isSome=true:=by rfl) (hV:R.v? i=some V:=by rfl) (hw:∀ D env a w,At R i D env a w→Region.wanted o (yielded R.ops a.tmps)=true:=by intro D env a w hA;first | exact wanted_none rfl _ | exact hA.gy rfl rfl rfl) (hn:noF R i=true:=by rfl) (hr:∀ env x,V (restr (R.cl.getD i []) (upd env i x))=V env:=by intros;rfl) (h:∀ D env a w,At R i D env a w→∃ vs:List Value,(Calls P f vs.toArray w fun e w'=>e = .returned (V env)∧Below w.heap.size w w')∧ps.toList.map (opAt R i env)=vs.map some):SR P Q R i:=
  s_callw ho hf hop hfn hname hb hV (fun hA=>hw _ _ _ _ hA) (fun {D env a w} hA=>by
    obtain ⟨vs,h1,h2⟩:=h D env a w hA
    exact ⟨vs.toArray,hA.args h2,h1⟩) hn hr
theorem al_ {T:TypeId} (m:Nat) (ho:R.ops[i]? = some o:=by rfl) (hg:o.guard=none:=by rfl) {ow:Own} (hm:R.O[m]? = some ow:=by rfl) (hal:ow.al=some i:=by rfl) (hV:R.v? i=some (fun env=>.pointer (some ⟨pb env i,0,none⟩)):=by rfl) (hop:o.op = .alloc T:=by rfl)
    (hrun:∀ (w:World) (ρ:Operand→Value),(execOp ρ { o with op:=.alloc T }).run P w = .ok (.value (.pointer (some ⟨w.heap.size,0,none⟩))) (w.alloc (.cells ow.c0.toArray ow.T (0,0))):=by intro w ρ;simp [go_sem]) (hn:noF R i=true:=by rfl) (hnt:noTh R i=true:=by rfl):SR P Q R i:=
  s_alloc ho hg m hm hal hV (fun {D env a w} hA=>by
    have:=hrun w a.eval
    unfold execOp at this ⊢
    simp only [hop] at this ⊢
    exact this) hn hnt
theorem bx_ {T:TypeId} {x:Operand} (m:Nat) (v:Env→Value) (ho:R.ops[i]? = some o:=by rfl) (hg:o.guard=none:=by rfl) {ow:Own} (hm:R.O[m]? = some ow:=by rfl) (hal:ow.al=some i:=by rfl) (hV:R.v? i=some (fun env=>.pointer (some ⟨pb env i,0,none⟩)):=by rfl) (hop:o.op = .box T x:=by rfl) (hx:∀ env,opAt R i env x=some (v env):=by intro _;rfl)
    (hrun:∀ (env:Env) (w:World),(execOp evC { o with op:=.box T (.const (v env)) }).run P w = .ok (.value (.pointer (some ⟨w.heap.size,0,none⟩))) (w.alloc (.cells ow.c0.toArray ow.T (0,0))):=by intro env w;simp [go_sem]) (hn:noF R i=true:=by rfl) (hnt:noTh R i=true:=by rfl):SR P Q R i:=
  s_alloc ho hg m hm hal hV (fun {D env a w} hA=>by
    have:=hrun env w
    have e1:=hA.e (hx env)
    unfold execOp at this ⊢
    simp only [hop,evC,e1] at this ⊢
    exact this) hn hnt
theorem ld_ {T:TypeId} {t:Tmp} {ow:Own} {off n:Nat} {v:Value} (m:Nat) (ho:R.ops[i]? = some o:=by rfl) (hf:free' R i=true:=by rfl) (hop:o.op = .load T (.tmp t):=by rfl) {V:Env→Value} (hV:R.v? i=some V:=by rfl) (hm:R.O[m]? = some ow:=by rfl) (hal:ow.al=none:=by rfl) (hs:match ow.st with | none=>True | some s=>(R.cl.getD s []).contains i=true:=by first | exact trivial | rfl)
    (hp:∀ env,slotAt R i env t=some (.pointer (some ⟨ow.b0,off,none⟩)):=by intro _;rfl) (hw:∀ D env a w,At R i D env a w→Region.wanted o (yielded R.ops a.tmps)=true:=by intro D env a w hA;first | exact wanted_none rfl _ | exact hA.gy rfl rfl rfl) (hrd:∀ (b:Nat) (w:World),(∀ q x,q < n→ow.c0[off+q]? = some x→w.cell? ⟨b,off+q,none⟩=some x)→(Instr.loadAt T (.pointer (some ⟨b,off,none⟩))).run P w = .ok v w) (hv:∀ env,V env=v:=by intros;rfl) (hn:noF R i=true:=by rfl):SR P Q R i:=s_loadw ho hf hop hV m hm hal hs (fun hA=>hw _ _ _ _ hA) hp hrd hv hn
theorem bd0 {T:TypeId} {es:Array (Nat × Operand)} (vs:List Value) (ho:R.ops[i]? = some o:=by rfl) (hf:free' R i=true:=by rfl) (hop:o.op = .build T es:=by rfl) {V:Env→Value} (hV:R.v? i=some V:=by rfl) (hx:∀ env,es.toList.map (fun e=>opAt R i env e.2)=(vs).map some:=by intro _;rfl)
    (h:∀ env w,(execOp evC { o with op:=.build T (List.zipWith (fun (e:Nat × Operand) v=>(e.1,Operand.const v)) es.toList (vs)).toArray }).run P w = .ok (.value (V env)) w:=by intro env w;simp [go_sem]) (hw:∀ D env a w,At R i D env a w→Region.wanted o (yielded R.ops a.tmps)=true:=by intro D env a w hA;first | exact wanted_none rfl _ | exact hA.gy rfl rfl rfl) (hn:noF R i=true:=by rfl) (hr:∀ env x,V (restr (R.cl.getD i []) (upd env i x))=V env:=by intros;rfl):SR P Q R i:=
  s_val ho hf hV (fun {D env a w} hA=>⟨hw _ _ _ _ hA,by
    have h1:=h env w
    have e0:es.map (fun e=>(e.1,a.eval e.2))=(List.zipWith (fun (e:Nat × Operand) v=>(e.1,Operand.const v)) es.toList (vs)).toArray.map (fun e=>(e.1,evC e.2)):=by
      apply Array.ext'
      have key:∀ (l:List (Nat × Operand)) (vs:List Value),l.map (fun e=>opAt R i env e.2)=vs.map some→l.map (fun e=>(e.1,a.eval e.2))=(List.zipWith (fun (e:Nat × Operand) v=>(e.1,Operand.const v)) l vs).map (fun e=>(e.1,evC e.2)):=by
        intro l
        induction l with
        | nil=>intro vs h;cases vs with
          | nil=>rfl
          | cons _ _=>cases h
        | cons x l ih=>intro vs h1;cases vs with
          | nil=>cases h1
          | cons v vs =>
            simp only [List.map_cons,List.cons.injEq,List.zipWith_cons_cons] at h1 ⊢
            exact ⟨by rw [hA.e h1.1];rfl,ih vs h1.2⟩
      have:=key es.toList (vs) (hx env)
      simpa using this
    unfold execOp at h1 ⊢
    simp only [hop] at h1 ⊢
    rw [e0]
    exact h1⟩) hn hr
end
theorem sc_n {Q:Exit→Act→World→Prop} {a:Act} {w:World} (h:Q .normal a w):Exit.noGoto Q .normal a w:=h
theorem sc_r {Q:Exit→Act→World→Prop} {a:Act} {w:World} (h:Q .ret a w):Exit.noGoto Q .ret a w:=h
theorem sc_x {Q:Exit→Act→World→Prop} {a:Act} {w:World} {id:Nat} (h:Q (.exit id) a w):Exit.noGoto Q (.exit id) a w:=h
abbrev Steps (p:Nat→Prop):Nat→Nat→Prop
  | 0,k=>p k
  | n+1,k=>p k∧Steps p n (k+1)
theorem Steps.get {p:Nat→Prop}:∀ {n k:Nat},Steps p n k→∀ i,k≤i→i < k+n+1→p i
  | 0,k,h,i,h1,h2=>by rw [show i=k by omega];exact h
  | n+1,k,h,i,h1,h2=>by
    by_cases h3:i=k
    · rw [h3];exact h.1
    · exact h.2.get i (by omega) (by omega)
instance:Coe Value (Option (Env→Value)):=⟨fun v=>some fun _=>v⟩
end Go.Proofs.YtailjojebdmnnaaGreat
namespace Go.Proofs.YtailjojebdmnnaaGreat
open Go.RowKit
section
variable {P:Program} {Q:Exit→Act→World→Prop} {a:Act} {w:World}
theorem then_e {K:Act→World→Prop} {id:Nat} (h:Q (.exit id) a w):Exit.then K Q (.exit id) a w:=h
theorem blk_n {id:Nat} (h:Q .normal a w):Exit.inBlock id Q .normal a w:=h
theorem blk_ret {id:Nat} (h:Q .ret a w):Exit.inBlock id Q .ret a w:=h
theorem blk_x {id:Nat} (h:Q .normal a w):Exit.inBlock id Q (.exit id) a w:=by simp only [Exit.inBlock,if_true];exact h
theorem blk_e {id id':Nat} (hne:Nat.beq id' id=false) (h:Q (.exit id') a w):Exit.inBlock id Q (.exit id') a w:=by
 simp only [Exit.inBlock]
 rw [if_neg (fun e=>by subst e;simp at hne)]
 exact h
variable {n:Nat} {w0:World} {row ex:Option Nat} {Ψ Θ:World→Prop} {L:Slots} {M:List Ent}
theorem lk_map {L L':Slots} (hL:L'.map (fun e=>lk L e.1)=L'.map (fun e=>some e.2)) {t:Nat} {v:Value} (h:lk L' t=some v):lk L t=some v:=by
  induction L' with
  | nil=>cases h
  | cons e r ih =>
    simp only [List.map_cons,List.cons.injEq] at hL
    unfold lk at h
    by_cases he:Nat.beq e.1 t=true
    · rw [if_pos he] at h
      rw [← Nat.eq_of_beq_eq_true he,hL.1,h]
    · rw [if_neg he] at h
      exact ih hL.2 h
theorem Cur.re (h:Cur n w0 row ex Ψ Θ L M a w) {L':Slots} (hL:L'.map (fun e=>lk L e.1)=L'.map (fun e=>some e.2)):Cur n w0 row ex Ψ Θ L' M a w:=⟨h.sz,h.df,h.st,fun t v ht=>h.sl t v (lk_map hL ht)⟩
theorem Cur.th (h:Cur n w0 row ex Ψ Θ L M a w) {Θ':World→Prop} (hΘ:∀ w,Θ w→Θ' w):Cur n w0 row ex Ψ Θ' L M a w:=⟨h.sz,h.df,h.st.mono (fun _ h=>h) hΘ,h.sl⟩
def sI (a:Act) (t:Tmp):Int:=intOf ((a.tmps[t]?).getD undef)
theorem sI_eq {t:Tmp} {k:IntKind} {z:Int} (h:a.tmps[t]? = some (.int k z)):sI a t=z:=by unfold sI;rw [h];rfl
end
abbrev vi (z:Int):Value:=.int .i64 z
def Row (w:World) (v:Value) (ds:List Int):Prop:=
 ∃ A c,v = .slice A ds.length c∧ds.length≤c∧ds.length≤140737488351232∧(ds.length=0∨∃ (b off:Nat) (cur:Array Value) (fz:Nat × Nat),A=some ⟨b,off,none⟩∧w.heap[b]? = some (Obj.cells cur 3 fz)∧∀ i,i < ds.length→cur[off+i]? = some (vi (ds.getD i 0)))
theorem Row.keep {w w':World} {v:Value} {ds:List Int} (h:Row w v ds) (hk:∀ (b:Nat) (cur:Array Value) (fz:Nat × Nat),w.heap[b]? = some (Obj.cells cur 3 fz)→w'.heap[b]? = w.heap[b]?):Row w' v ds:=by
  obtain ⟨A,c,e,h1,h2,h3⟩:=h
  refine ⟨A,c,e,h1,h2,?_⟩
  rcases h3 with h3 | ⟨b,off,cur,fz,hA,hb,hc⟩
  · exact .inl h3
  · exact .inr ⟨b,off,cur,fz,hA,by rw [hk b cur fz hb];exact hb,hc⟩
theorem Row.grown {w w':World} {v:Value} {ds:List Int} (h:Row w v ds) (hg:w.grownBy w' none):Row w' v ds:=h.keep (fun b cur fz hb=>hg.block b (lt_of_some hb) (by simp))
theorem Row.below {w w':World} {v:Value} {ds:List Int} (h:Row w v ds) (hg:Below w.heap.size w w'):Row w' v ds:=h.keep (fun b cur fz hb=>hg.block b (lt_of_some hb))
theorem Row.at {w:World} {A:Option Addr} {c:Nat} {ds:List Int} {l:Nat} (h:Row w (.slice A l c) ds) {i:Nat} (hi:i < ds.length):∃ b off,A=some ⟨b,off,none⟩∧b < w.heap.size∧∀ j,j < ds.length→w.cell? ⟨b,off+j,none⟩=some (vi (ds.getD j 0)):=by
  obtain ⟨A',c',e,h1,h2,h3⟩:=h
  simp only [Value.slice.injEq] at e
  obtain ⟨rfl,rfl,rfl⟩:=e
  rcases h3 with h3 | ⟨b,off,cur,fz,hA,hb,hc⟩
  · omega
  · exact ⟨b,off,hA,lt_of_some hb,fun j hj=>by simp [World.cell?,hb,hc j hj]⟩
def OwnR (w:World) (B:Nat) (v:Value) (ds:List Int):Prop:=w.ownsRow B 3 1 v ds.length (ds.map vi)
theorem OwnR.nil (w:World) (B:Nat):OwnR w B (.slice none 0 0) []:=⟨rfl,.inl ⟨rfl,rfl⟩⟩
theorem own_off {w:World} {M:Mem} {B:Nat} {v:Value} {ds:List Int} (h:∀ w',Apart M none w w'→OwnR w' B v ds) {m:Nat} {e:Ent} (hm:M m=some e):v.ownBlock≠some e.1:=by
  intro hv
  have h1:=h w (Apart.refl _ _ _)
  obtain ⟨_,h2⟩:=h1
  rcases h2 with ⟨rfl,_⟩ | ⟨g,cap,cur,rfl,hg,hh,_⟩
  · cases hv
  · simp only [Value.ownBlock,Option.some.injEq] at hv
    have hlt:=lt_of_some hh
    have h3:=h { w with heap:=w.heap.setIfInBounds g (.map #[] 0) } ⟨by simp,fun k hk hM _=>by
      show (w.heap.setIfInBounds g _)[k]? = _
      rw [Array.getElem?_setIfInBounds_ne (fun e'=>hM m e hm (by rw [← hv,e']))]⟩
    obtain ⟨_,h4⟩:=h3
    rcases h4 with ⟨h4,_⟩ | ⟨g',cap',cur',h4,_,h5,_⟩
    · cases h4
    · simp only [Value.slice.injEq,Option.some.injEq,Addr.mk.injEq] at h4
      obtain ⟨⟨rfl,_⟩,_⟩:=h4
      have:(w.heap.setIfInBounds g (.map #[] 0))[g]? = some (.map #[] 0):=by rw [Array.getElem?_setIfInBounds_self_of_lt hlt]
      rw [show ({ w with heap:=w.heap.setIfInBounds g (.map #[] 0) }:World).heap=w.heap.setIfInBounds g (.map #[] 0) from rfl,this] at h5
      cases h5
theorem OwnR.stab {w w':World} {M:Mem} {B:Nat} {v:Value} {ds:List Int} (h:OwnR w B v ds) (hM:∀ m e,M m=some e→v.ownBlock≠some e.1) (ha:Apart M none w w'):OwnR w' B v ds:=by
  obtain ⟨h1,h2⟩:=h
  refine ⟨h1,?_⟩
  rcases h2 with h2 | ⟨g,cap,cur,rfl,hg,hh,r⟩
  · exact .inl h2
  · refine .inr ⟨g,cap,cur,rfl,hg,?_,r⟩
    rw [ha.2 g (lt_of_some hh) (fun m e hm e'=>hM m e hm (by simp [Value.ownBlock,e'])) (by simp)]
    exact hh
theorem St.rowed {w0 w w':World} {row ex:Option Nat} {M:Mem} {Ψ Θ:World→Prop} (h:St w0 row ex w M Ψ Θ) (hΨ:∀ w,Ψ w) {v:Value} {ds:List Int} (hΘ:∀ w',Apart M none w w'→OwnR w' w0.heap.size v ds) (hg:w.grownBy w' v.ownBlock) {v':Value} {ds':List Int} (ho:OwnR w' w0.heap.size v' ds') (hv:v'.ownBlock=v.ownBlock∨v'.ownBlock=some w.heap.size∨v'.ownBlock=none) (hex:ex=none) :
    St w0 row ex w' M Ψ (fun w=>OwnR w w0.heap.size v' ds'):=by
  have hM:∀ m e,M m=some e→v.ownBlock≠some e.1:=fun m e hm=>own_off hΘ hm
  have hM':∀ m e,M m=some e→v'.ownBlock≠some e.1:=fun m e hm=>by
    rcases hv with hv | hv | hv
    · rw [hv];exact hM m e hm
    · rw [hv];have:=h.lt hm;exact fun e'=>by simp at e';omega
    · rw [hv];simp
  have hB:∀ g,v.ownBlock=some g→w0.heap.size≤g:=fun g hg'=>by
    obtain ⟨_,h2⟩:=hΘ w (Apart.refl _ _ _)
    rcases h2 with ⟨rfl,_⟩ | ⟨g',_,_,rfl,hB,_⟩
    · cases hg'
    · simp only [Value.ownBlock,Option.some.injEq] at hg';omega
  have h00:=h.gr.size
  refine ⟨grown_of h.gr hg.os hg.tape hg.output hg.size (fun k hk _=>hg.block k (by omega) (fun e=>by have:=hB k e.symm;omega)),h.nod,fun m e hm=>?_,fun g hg'=>(by rw [hex] at hg';cases hg'),fun w'' _=>hΨ w'',fun w'' hw=>ho.stab hM' hw⟩
  rw [hg.block _ (h.lt hm) (fun e'=>hM m e hm e'.symm)]
  exact h.own m e hm
theorem s_app {Q:Exit→Act→World→Prop} {R:Reg} {i:Nat} {o:Oper} (ho:R.ops[i]? = some o) (hf:free R i=true) (hg:o.guard=none) {s x:Operand} (hop:o.op = .call { callee:=.builtin .append,args:=#[s,x],argTypes:=#[50,50] })
    (hV:R.v? i=some fun env=>env i) (hF:R.F=[]) (hΨ:∀ w,R.Ψ w) (hex:R.ex=none) {v:Value} {ds:List Int} (hΘ:∀ w,R.Θ w→OwnR w R.w0.heap.size v ds) (z:Int) (hth:R.th=some (i,fun env w=>OwnR w R.w0.heap.size (env i) (ds ++ [z]))) (hlen:ds.length≤1000000)
    (j m:Nat) {ow:Own} (hm:R.O[m]? = some ow) (hal:ow.al=some j) (hst:ow.st=none) (hc:ow.c0=[vi z]) (hj:((R.cl.getD i []).contains j && !(j == i))=true)
    (hs:∀ env,opAt R i env s=some v) (hx:∀ {D env a w},At R i D env a w→a.eval x = .slice (some ⟨pb env j,0,none⟩) 1 1):SR Tryz.prog Q R i:=
  s_th ho hf (fun {D env a w} hA K hK=>by
    rw [if_pos (wanted_none hg _)]
    have hnD:D i=false:=hA.i
    have ht0:R.tht D env=R.Θ:=by unfold Reg.tht;rw [hth];simp [hnD]
    have hst0:=hA.j.st
    rw [ht0] at hst0
    have hT:∀ w',Apart (R.mem D env) none w w'→OwnR w' R.w0.heap.size v ds:=fun w' hw=>hΘ w' (hst0.the w' hw)
    obtain ⟨i0,hi,hz0,hz1,hz2⟩:=info_parts (show (Tryz.prog.info? 3).map (fun i=>(i.zero,i.size,i.bytes))=some (some (.int .i64 0),1,8) by kernel_rfl)
    have hcell:=hA.cells m hm (by rw [hal];exact hj) (by rw [hst];trivial)
    have hb:ow.blk env=pb env j:=by unfold Own.blk;rw [hal]
    rw [hb,hc] at hcell
    obtain ⟨v',w',hr,h2,h3,_,h5⟩:=run_append_own_at (P:=Tryz.prog) w R.w0.heap.size 50 o.type 3 i0 (.int .i64 0) 1 8 Tryz.underlying50 hi hz0 hz1 hz2 rfl (by decide) v ds.length (ds.map vi) (hT w (Apart.refl _ _ _)) ⟨pb env j,0,none⟩ 1 1 [vi z] rfl
      (fun q u hq=>by
        cases q with
        | zero=>simp only [List.getElem?_cons_zero,Option.some.injEq] at hq;subst hq;exact own_cell hcell rfl
        | succ q=>simp at hq) (fun u hu=>by simp at hu;subst hu;rfl) (by unfold maxLen;omega) (by omega) hst0.gr.size
    have hrun:(execOp a.eval o).run Tryz.prog w = .ok (.value v') w':=by
      have e1:=hA.e (hs env)
      have e2:=hx hA
      unfold execOp
      simp [hop,resolve,Deferred.ofValue,invoke,builtin,e1,e2,hr]
    unfold Oper.wp
    rw [hrun]
    have hown:OwnR w' R.w0.heap.size v' (ds ++ [z]):=by unfold OwnR;rw [List.length_append,List.map_append];exact h2
    have hself:=cl_self hA.ok ho
    have key:=hst0.rowed (fun w''=>⟨hΨ w'',fun j hj=>⟨fun V hV=>((hA.j.fact hj).1 V hV),fun p hp=>(by rw [hF] at hp;cases hp)⟩⟩) hT h3 hown (by rcases h5 with h | h;exact .inl h;exact .inr (.inl h)) hex
    refine hK v' w' ?_ (fun w'' _=>⟨fun V' hV'=>(by rw [hV] at hV';obtain rfl:=Option.some.inj hV';rfl),fun p hp=>(by rw [hF] at hp;cases hp)⟩)
    have ht1:R.tht (upB D i) (upd env i v')=fun w=>OwnR w R.w0.heap.size v' (ds ++ [z]):=by
      unfold Reg.tht
      rw [hth]
      simp only [upB_self,if_true]
      funext w''
      have:restr (R.cl.getD i []) (upd env i v') i=v':=by unfold restr upd;rw [if_pos (List.contains_iff_mem.2 hself),if_pos rfl]
      rw [this]
    rw [ht1]
    exact key)
end Go.Proofs.YtailjojebdmnnaaGreat
namespace Go.Proofs.YtailjojebdmnnaaGreat
open Go.RowKit
attribute [local go_sem] vW vM vL vT2 vT3 vP vI execOp Act.eval evC hi_zero lo_zero
def setK:List Ent→Nat→List Value→List Ent
  | [],_,_=>[]
  | e :: M,0,c=>(e.1,e.2.1,c) :: M
  | e :: M,k+1,c=>e :: setK M k c
def newM (env:Env):List New→List Ent
  | []=>[]
  | n :: W=>(pb env n.i,n.T,match n.s with | none=>n.c0 | some _=>n.c1 env) :: newM env W
def addW (env:Env) (M:List Ent):List New→List Ent
  | []=>M
  | n :: W=>M ++ newM env (n :: W)
def aM (env:Env) (W:List New):List Ent→List Sto→List Ent
  | M,[]=>addW env M W
  | M,s :: S=>aM env W (setK M s.m (s.c1 env)) S
def keyIn (t:Nat):Slots→Bool
  | []=>false
  | e :: L=>cond (Nat.beq e.1 t) true (keyIn t L)
def shOk (N L:Slots):List (Option Tmp)→Bool
  | []=>true
  | none :: ds=>shOk N L ds
  | some t :: ds=>cond (keyIn t N) (shOk N L ds) (cond (keyIn t L) false (shOk N L ds))
theorem shOk_at {N L:Slots} {t:Nat} (hN:keyIn t N=false) (hL:keyIn t L=true):∀ {ds:List (Option Tmp)},shOk N L ds=true→∀ j:Nat,ds[j]? ≠ some (some t)
  | [],_,j=>by simp
  | none :: ds,h,0=>by simp
  | none :: ds,h,j+1=>by simpa using shOk_at hN hL (ds:=ds) h j
  | some u :: ds,h,j=>by
    have h':shOk N L ds=true∧u≠t:=by
      unfold shOk at h
      by_cases e:u=t
      · subst e;rw [hN,hL] at h;exact absurd h (by simp)
      · refine ⟨?_,e⟩
        cases hk:keyIn u N <;> rw [hk] at h
        · cases hl:keyIn u L <;> rw [hl] at h
          · exact h
          · exact absurd h (by simp)
        · exact h
    cases j with
    | zero=>simpa using h'.2
    | succ j=>simpa using shOk_at hN hL (ds:=ds) h'.1 j
theorem keyIn_lk {t:Nat} {v:Value}:∀ {L:Slots},lk L t=some v→keyIn t L=true
  | [],h=>by cases h
  | e :: L,h=>by
    unfold lk at h;unfold keyIn
    by_cases he:Nat.beq e.1 t=true
    · rw [he];rfl
    · rw [if_neg he] at h
      have:Nat.beq e.1 t=false:=by cases hb:Nat.beq e.1 t with | false=>rfl | true=>exact absurd hb he
      rw [this];exact keyIn_lk h
theorem lk_keyIn {t:Nat}:∀ {L:Slots},lk L t=none→keyIn t L=false
  | [],_=>rfl
  | e :: L,h=>by
    unfold lk at h;unfold keyIn
    by_cases he:Nat.beq e.1 t=true
    · rw [if_pos he] at h;cases h
    · rw [if_neg he] at h
      have:Nat.beq e.1 t=false:=by cases hb:Nat.beq e.1 t with | false=>rfl | true=>exact absurd hb he
      rw [this];exact lk_keyIn h
theorem lk_app {L:Slots} {t:Nat}:∀ {N:Slots},lk (N ++ L) t=match lk N t with | some v=>some v | none=>lk L t
  | []=>rfl
  | e :: N=>by
    have ih:=lk_app (L:=L) (t:=t) (N:=N)
    simp only [List.cons_append,lk]
    by_cases he:Nat.beq e.1 t=true
    · rw [if_pos he,if_pos he]
    · rw [if_neg he,if_neg he];exact ih
theorem lk_end {R:Reg} {env:Env} {t:Nat} {v:Value}:∀ {N:Slots},N.map (fun e=>slotEnd R env e.1)=N.map (fun e=>some e.2)→lk N t=some v→slotEnd R env t=some v
  | [],_,h=>by cases h
  | e :: N,h1,h2=>by
    simp only [List.map_cons,List.cons.injEq] at h1
    unfold lk at h2
    by_cases he:Nat.beq e.1 t=true
    · rw [if_pos he] at h2
      rw [← Nat.eq_of_beq_eq_true he,h1.1,h2]
    · rw [if_neg he] at h2
      exact lk_end h1.2 h2
theorem End.sl {R:Reg} {env:Env} {a:Act} {w:World} (h:End R env a w) {t:Nat} {v:Value} (h1:slotEnd R env t=some v):a.tmps[t]? = some v:=by
  have:=(h.j.cur h.ok h.ds (L:=[(t,v)]) (M:=endM R env) (by simp [h1])) rfl
  unfold slotEnd at h1
  split at h1
  · rename_i j hj
    have h2:=List.find?_some hj
    have hd:=(isD_spec h.ds).1 h2
    have hlt:j < R.ops.size:=by
      obtain ⟨o,ho⟩:=op_of_dst hd
      exact (Array.getElem?_eq_some_iff.1 ho).1
    have hD:allD R.ops.size j=true:=blt_yes hlt
    rw [← Option.some.inj h1,val_of h.ok hd (h.j.fact hD)]
    exact h.j.new j t hD hd
  · rename_i hj
    rw [← h.j.sl t v h1]
    refine h.j.old t (fun j hj' e=>?_)
    have h3:=List.find?_eq_none.1 hj j (List.mem_range.2 (lt_of_dst h.ds e))
    exact h3 ((isD_spec h.ds).2 e)
theorem End.lkN {R:Reg} {env:Env} {a:Act} {w:World} (h:End R env a w) {N:Slots} (hN:N.map (fun e=>slotEnd R env e.1)=N.map (fun e=>some e.2)) (hK:shOk N R.L R.ds=true) {t:Nat} {v:Value} (ht:lk (N ++ R.L) t=some v):a.tmps[t]? = some v:=by
  rw [lk_app] at ht
  cases hn:lk N t with
  | some v'=>rw [hn] at ht;obtain rfl:=Option.some.inj ht;exact h.sl (lk_end hN hn)
  | none =>
    rw [hn] at ht
    refine h.sl ?_
    have h1:=shOk_at (lk_keyIn hn) (keyIn_lk ht) hK
    unfold slotEnd
    have h2:(List.range R.ds.length).find? (isD R.ds t)=none:=by
      refine List.find?_eq_none.2 (fun j hj hd=>h1 j ?_)
      unfold isD at hd
      split at hd
      · rename_i u hu
        rw [hu,Nat.eq_of_beq_eq_true hd]
      · cases hd
    rw [h2];exact ht
theorem End.curN {R:Reg} {env:Env} {a:Act} {w:World} (h:End R env a w) {N:Slots} {M:List Ent} (hN:N.map (fun e=>slotEnd R env e.1)=N.map (fun e=>some e.2)) (hK:shOk N R.L R.ds=true) (hM:endM R env=M) (hO:ownIn R R.ops.size=true) {T:World→Prop} (hT:∀ w,R.tht (allD R.ops.size) env w→T w):Cur R.n R.w0 R.row R.ex R.Ψ T (N ++ R.L) M a w:=
 have h0:=h.j.cur h.ok h.ds (L:=[]) (M:=M) rfl hM hO hT
 ⟨h0.sz,h0.df,h0.st,fun _ _ ht=>h.lkN hN hK ht⟩
def lget {α:Type}:List α→Nat→Option α
  | [],_=>none
  | x :: _,0=>some x
  | _ :: l,n+1=>lget l n
theorem lget_eq {α:Type}:∀ (l:List α) (n:Nat),lget l n=l[n]?
  | [],_=>rfl
  | _ :: _,0=>rfl
  | _ :: l,n+1=>by simpa [lget] using lget_eq l n
def shapeOf (P:Program) (T:TypeId):Option (Bool × Nat):=match P.underlying T,P.info? T with
  | some (.struct _),some i=>some (true,i.size)
  | some (.array _ _),some i=>some (true,i.size)
  | some _,some i=>some (false,i.size)
  | _,_=>none
theorem shape_agg {P:Program} {T:TypeId} {b:Bool} {n:Nat} (h:shapeOf P T=some (b,n)) (w:World):(isAgg T).run P w = .ok b w:=by
  unfold shapeOf at h
  cases h1:P.underlying T with
  | none=>rw [h1] at h;cases h
  | some u=>cases h2:P.info? T with
    | none=>rw [h1,h2] at h;cases u <;> cases h
    | some i=>rw [h1,h2] at h;cases u <;> simp at h <;> obtain ⟨rfl,rfl⟩:=h <;> simp [isAgg,underlying,go_sem,h1]
theorem shape_size {P:Program} {T:TypeId} {b:Bool} {n:Nat} (h:shapeOf P T=some (b,n)) (w:World):(sizeOf T).run P w = .ok n w:=by
  unfold shapeOf at h
  cases h1:P.underlying T with
  | none=>rw [h1] at h;cases h
  | some u=>cases h2:P.info? T with
    | none=>rw [h1,h2] at h;cases u <;> cases h
    | some i=>rw [h1,h2] at h;cases u <;> simp at h <;> obtain ⟨rfl,rfl⟩:=h <;> simp [sizeOf,typeInfo,go_sem,h2]
theorem addr_add (b o i:Nat):(⟨b,o,none⟩:Addr).add i=⟨b,o+i,none⟩:=by unfold Addr.add;split <;> simp_all
theorem cells_run {P:Program} (b:Nat) (w:World):∀ (vs:List Value) (off i:Nat) (acc:Array Value),(∀ q x,lget vs q=some x→w.cell? ⟨b,off+i+q,none⟩=some x)→(loadCellsFrom ⟨b,off,none⟩ i vs.length acc).run P w = .ok (acc ++ vs.toArray) w
  | [],off,i,acc,h=>by simp [loadCellsFrom,go_sem]
  | v :: vs,off,i,acc,h=>by
    have h0:=h 0 v rfl
    simp only [Nat.add_zero] at h0
    have ih:=cells_run (P:=P) b w vs off (i+1) (acc.push v) (fun q x hq=>by have:=h (q+1) x hq;rwa [show off+(i+1)+q=off+i+(q+1) by omega])
    simp only [List.length_cons,loadCellsFrom,addr_add]
    rw [Sem.run_bind]
    have:(load ⟨b,off+i,none⟩).run P w = .ok v w:=by simp [load,Sem.run,h0]
    rw [this]
    show (loadCellsFrom ⟨b,off,none⟩ (i+1) vs.length (acc.push v)).run P w=_
    rw [ih];simp
theorem loadG1 {P:Program} {T:TypeId} {n off:Nat} {cs:List Value} {v:Value} (hT:shapeOf P T=some (false,n)) (e:lget cs off=some v) (b:Nat) (w:World) (h:∀ q x,q < 1→cs[off+q]? = some x→w.cell? ⟨b,off+q,none⟩=some x):(Instr.loadAt T (.pointer (some ⟨b,off,none⟩))).run P w = .ok v w:=by
 have h1:=h 0 v (by omega) (by rw [← lget_eq];exact e)
 have ha:=shape_agg hT w
 simp only [Nat.add_zero] at h1
 simp only [Instr.loadAt,Instr.sureAddr,loadVar]
 simp [go_sem,Sem.run_bind,ha,h1]
theorem loadGn {P:Program} {T:TypeId} {n off:Nat} {cs:List Value} {vs:List Value} (hT:shapeOf P T=some (true,n)) (hl:vs.length=n) (e:∀ q x,lget vs q=some x→lget cs (off+q)=some x) (b:Nat) (w:World) (h:∀ q x,q < n→cs[off+q]? = some x→w.cell? ⟨b,off+q,none⟩=some x):(Instr.loadAt T (.pointer (some ⟨b,off,none⟩))).run P w = .ok (.agg vs.toArray) w:=by
 have ha:=shape_agg hT w
 have hs:=shape_size hT w
 have hc:=cells_run (P:=P) b w vs off 0 #[] (fun q x hq=>h q x (by rw [← hl];rw [lget_eq] at hq;exact (List.getElem?_eq_some_iff.1 hq).1) (by rw [← lget_eq];exact e q x hq))
 subst hl
 simp only [Instr.loadAt,Instr.sureAddr,loadVar]
 simp [go_sem,Sem.run_bind,ha,hs,loadCells,hc]
def flatV:Value→Bool
  | .agg _=>false
  | .tuple _=>false
  | _=>true
def setFrom (cs:List Value) (off:Nat):List Value→List Value
  | []=>cs
  | v :: l=>setFrom (cs.set off v) (off+1) l
def stOk (n off:Nat) (cs l:List Value):Bool:=Nat.beq l.length n && (l.all flatV && Nat.ble (off+n) cs.length)
theorem putc_run {P:Program} {b off T0:Nat} {w:World}:∀ (l:List Value) (i:Nat) (cs:List Value) (w1:World),l.all flatV=true→off+i+l.length≤cs.length→Put w w1 b (.cells cs.toArray T0 (0,0))→∃ w',(storeCells ⟨b,off,none⟩ l i).run P w1 = .ok () w'∧Put w w' b (.cells (setFrom cs (off+i) l).toArray T0 (0,0))
  | [],i,cs,w1,_,_,hp=>⟨w1,by simp [storeCells,go_sem],hp⟩
  | v :: l,i,cs,w1,hf,hl,hp=>by
    simp only [List.all_cons,Bool.and_eq_true] at hf
    simp only [List.length_cons] at hl
    have hx:cs[off+i]? = some cs[off+i]:=List.getElem?_eq_getElem (by omega)
    have hc:=own_cell (o:=off+i) hp.here hx
    have hz:=own_frozen (o:=off+i) hp.here
    have hp2:=hp.set (cs':=cs.set (off+i) v) (off+i) v rfl
    obtain ⟨w',h1,h2⟩:=putc_run (off:=off) l (i+1) (cs.set (off+i) v) _ hf.2 (by simp;omega) hp2
    refine ⟨w',?_,?_⟩
    · rw [storeCells,Sem.run_bind,addr_add]
      have:(store ⟨b,off+i,none⟩ v).run P w1 = .ok () (w1.setCell ⟨b,off+i,none⟩ v):=by
        cases v <;> simp [flatV] at hf <;> simp [store,Sem.run,hc,hz]
      rw [this]
      exact h1
    · simpa [setFrom,Nat.add_assoc] using h2
theorem storeG {P:Program} {T n:Nat} {g:Bool} {b off T0:Nat} {cs:List Value} {v:Value} {w:World} (hT:shapeOf P T=some (g,n)) (hk:stOk n off cs v.cells.toList=true) (hc:w.heap[b]? = some (.cells cs.toArray T0 (0,0))):∃ w',(Instr.storeAt T (.pointer (some ⟨b,off,none⟩)) v).run P w = .ok () w'∧Put w w' b (.cells (setFrom cs off v.cells.toList).toArray T0 (0,0)):=by
  unfold stOk at hk
  simp only [Bool.and_eq_true,Nat.beq_eq,Nat.ble_eq] at hk
  obtain ⟨w',h1,h2⟩:=putc_run (P:=P) (off:=off) v.cells.toList 0 cs w hk.2.1 (by omega) (Put.refl hc)
  refine ⟨w',?_,h2⟩
  have hs:=shape_size hT w
  have hn:v.cells.size=n:=by simpa using hk.1
  have e:(storeVar T ⟨b,off,none⟩ v).run P w = .ok () w':=by
    unfold storeVar
    simp only [Sem.run_bind,hs,hn,ne_eq,Result.andThen_ok,not_true,if_false]
    exact h1
  simpa [Instr.storeAt,Instr.sureAddr,go_sem] using e
theorem leG1 {P:Program} {T n:Nat} (hT:shapeOf P T=some (false,n)) {g:Nat→Value} {v:Value} (e:g 0=v) (b off:Nat) (w:World) (h:∀ p,p < 1→w.cell? ⟨b,off+p,none⟩=some (g p)):(Instr.loadAt T (.pointer (some ⟨b,off,none⟩))).run P w = .ok v w:=by
 have h1:=h 0 (by omega)
 rw [e] at h1
 simp only [Nat.add_zero] at h1
 have ha:=shape_agg hT w
 simp only [Instr.loadAt,Instr.sureAddr,loadVar]
 simp [go_sem,Sem.run_bind,ha,h1]
def eqsG (g:Nat→Value):Nat→List Value→Prop
  | _,[]=>True
  | k,v :: vs=>g k=v∧eqsG g (k+1) vs
theorem eqsG_at {g:Nat→Value}:∀ {vs:List Value} {k:Nat},eqsG g k vs→∀ q x,lget vs q=some x→g (k+q)=x
  | [],_,_,q,x,hq=>by cases hq
  | v :: vs,k,h,0,x,hq=>by obtain rfl:=Option.some.inj hq;exact h.1
  | v :: vs,k,h,q+1,x,hq=>by have:=eqsG_at h.2 q x hq;rwa [show k+1+q=k+(q+1) by omega] at this
theorem leG_n {P:Program} {T n:Nat} (hT:shapeOf P T=some (true,n)) {g:Nat→Value} {vs:List Value} (hl:vs.length=n) (e:eqsG g 0 vs) (b off:Nat) (w:World) (h:∀ p,p < n→w.cell? ⟨b,off+p,none⟩=some (g p)):(Instr.loadAt T (.pointer (some ⟨b,off,none⟩))).run P w = .ok (.agg vs.toArray) w:=by
  have ha:=shape_agg hT w
  have hs:=shape_size hT w
  have hc:=cells_run (P:=P) b w vs off 0 #[] (fun q x hq=>by
    have h1:=eqsG_at e q x hq
    have hlt:q < n:=by rw [← hl];rw [lget_eq] at hq;exact (List.getElem?_eq_some_iff.1 hq).1
    rw [Nat.zero_add] at h1
    rw [← h1];exact h q hlt)
  subst hl
  simp only [Instr.loadAt,Instr.sureAddr,loadVar]
  simp [go_sem,Sem.run_bind,ha,hs,loadCells,hc]
def eqsC (cs:List Value):Nat→List Value→Prop
  | _,[]=>True
  | k,v :: vs=>lget cs k=some v∧eqsC cs (k+1) vs
theorem eqsC_at {cs:List Value}:∀ {vs:List Value} {k:Nat},eqsC cs k vs→∀ q x,lget vs q=some x→lget cs (k+q)=some x
  | [],_,_,q,x,hq=>by cases hq
  | v :: vs,k,h,0,x,hq=>by obtain rfl:=Option.some.inj hq;exact h.1
  | v :: vs,k,h,q+1,x,hq=>by have:=eqsC_at h.2 q x hq;rwa [show k+1+q=k+(q+1) by omega] at this
theorem loadGc {P:Program} {T n off:Nat} {cs vs:List Value} (hT:shapeOf P T=some (true,n)) (hl:vs.length=n) (e:eqsC cs off vs) (b:Nat) (w:World) (h:∀ q x,q < n→cs[off+q]? = some x→w.cell? ⟨b,off+q,none⟩=some x):(Instr.loadAt T (.pointer (some ⟨b,off,none⟩))).run P w = .ok (.agg vs.toArray) w:=loadGn hT hl (fun q x hq=>eqsC_at e q x hq) b w h
theorem leGb {P:Program} {T:Nat} (hT:shapeOf P T=some (true,2)) {g:Nat→Value} {v0 v1:Value} (e0:g 0=v0) (e1:g 1=v1) (b off:Nat) (w:World) (h:∀ p,p < 2→w.cell? ⟨b,off+p,none⟩=some (g p)):(Instr.loadAt T (.pointer (some ⟨b,off,none⟩))).run P w = .ok (.agg #[v0,v1]) w:=leG_n (vs:=[v0,v1]) hT rfl ⟨e0,e1,trivial⟩ b off w h
theorem leGd {P:Program} {T:Nat} (hT:shapeOf P T=some (true,4)) {g:Nat→Value} {v0 v1 v2 v3:Value} (e0:g 0=v0) (e1:g 1=v1) (e2:g 2=v2) (e3:g 3=v3) (b off:Nat) (w:World) (h:∀ p,p < 4→w.cell? ⟨b,off+p,none⟩=some (g p)):(Instr.loadAt T (.pointer (some ⟨b,off,none⟩))).run P w = .ok (.agg #[v0,v1,v2,v3]) w:=leG_n (vs:=[v0,v1,v2,v3]) hT rfl ⟨e0,e1,e2,e3,trivial⟩ b off w h
theorem leGg {P:Program} {T:Nat} (hT:shapeOf P T=some (true,7)) {g:Nat→Value} {v0 v1 v2 v3 v4 v5 v6:Value} (e0:g 0=v0) (e1:g 1=v1) (e2:g 2=v2) (e3:g 3=v3) (e4:g 4=v4) (e5:g 5=v5) (e6:g 6=v6) (b off:Nat) (w:World) (h:∀ p,p < 7→w.cell? ⟨b,off+p,none⟩=some (g p)):(Instr.loadAt T (.pointer (some ⟨b,off,none⟩))).run P w = .ok (.agg #[v0,v1,v2,v3,v4,v5,v6]) w:=leG_n (vs:=[v0,v1,v2,v3,v4,v5,v6]) hT rfl ⟨e0,e1,e2,e3,e4,e5,e6,trivial⟩ b off w h
theorem leGn {P:Program} {T:Nat} (hT:shapeOf P T=some (true,14)) {g:Nat→Value} {v0 v1 v2 v3 v4 v5 v6 v7 v8 v9 v10 v11 v12 v13:Value} (e0:g 0=v0) (e1:g 1=v1) (e2:g 2=v2) (e3:g 3=v3) (e4:g 4=v4) (e5:g 5=v5) (e6:g 6=v6) (e7:g 7=v7) (e8:g 8=v8) (e9:g 9=v9) (e10:g 10=v10) (e11:g 11=v11) (e12:g 12=v12) (e13:g 13=v13) (b off:Nat) (w:World) (h:∀ p,p < 14→w.cell? ⟨b,off+p,none⟩=some (g p)):(Instr.loadAt T (.pointer (some ⟨b,off,none⟩))).run P w = .ok (.agg #[v0,v1,v2,v3,v4,v5,v6,v7,v8,v9,v10,v11,v12,v13]) w:=leG_n (vs:=[v0,v1,v2,v3,v4,v5,v6,v7,v8,v9,v10,v11,v12,v13]) hT rfl ⟨e0,e1,e2,e3,e4,e5,e6,e7,e8,e9,e10,e11,e12,e13,trivial⟩ b off w h
def lkA:Slots→Tmp→Option Value
  | [],_=>none
  | (k,v) :: r,t=>cond (Nat.beq k t) (some v) (lkA r t)
def slotA (R:Reg) (i:Nat) (env:Env) (t:Tmp):Option Value:=match (R.cl.getD i []).find? (fun j=>!(Nat.beq j i) && isD R.ds t j) with
  | some j=>(match R.v? j with | some V=>some (V env) | none=>some (env j))
  | none=>lkA R.L t
def opA (R:Reg) (i:Nat) (env:Env):Operand→Option Value
  | .const c=>some c
  | .tmp t=>slotA R i env t
  | _=>none
def argsA (R:Reg) (i:Nat) (env:Env):List Operand→Option (List Value)
  | []=>some []
  | p :: ps=>match opA R i env p,argsA R i env ps with
    | some v,some vs=>some (v :: vs)
    | _,_=>none
section
variable {P:Program} {Q:Exit→Act→World→Prop} {R:Reg} {i:Nat} {o:Oper}
theorem mv3 {x:Operand} {V:Env→Value} (ho:R.ops[i]? = some o:=by rfl) (hf:free' R i=true:=by rfl) (hg:o.guard=none:=by rfl) (hop:o.op = .move x∨o.op = .assign x:=by first | exact .inl rfl | exact .inr rfl) (h0:∀ env,opA R i env x=some (V env):=by intro _;rfl) (hV:R.v? i=some V:=by rfl) (h:∀ env,opAt R i env x=some (V env):=by intro _;rfl) (hn:noF R i=true:=by rfl) (hr:∀ env x,V (restr (R.cl.getD i []) (upd env i x))=V env:=by intros;rfl):SR P Q R i:=s_mov ho hf hg hop hV h hn hr
theorem xt3 {t:Tmp} {ix:Nat} (ho:R.ops[i]? = some o:=by rfl) (hf:free' R i=true:=by rfl) (hg:o.guard=none:=by rfl) (hop:o.op = .extract (.tmp t) ix:=by rfl) {V:Env→Value} (h0:∀ env,∃ l:List Value,slotA R i env t=some (.tuple l.toArray)∧lget l ix=some (V env):=by intro _;exact ⟨_,rfl,rfl⟩) (hV:R.v? i=some V:=by rfl) (h:∀ env,∃ l:List Value,slotAt R i env t=some (.tuple l.toArray)∧lget l ix=some (V env):=by intro _;exact ⟨_,rfl,rfl⟩) (hn:noF R i=true:=by rfl) (hr:∀ env x,V (restr (R.cl.getD i []) (upd env i x))=V env:=by intros;rfl):SR P Q R i:=
  s_ext ho hf hg hop hV (fun env=>by
    obtain ⟨l,h1,h2⟩:=h env
    exact ⟨_,h1,by rw [lget_eq] at h2;simpa using h2⟩) hn hr
theorem bi3 {k:BinOp} {T T2:TypeId} {x y:Operand} {V vx vy:Env→Value} (ho:R.ops[i]? = some o:=by rfl) (hf:free' R i=true:=by rfl) (hop:o.op = .binOp k T x y T2:=by rfl) (hV:R.v? i=some V:=by rfl) (gx:∀ env,opA R i env x=some (vx env):=by intro _;rfl) (hx:∀ env,opAt R i env x=some (vx env):=by intro _;rfl) (gy:∀ env,opA R i env y=some (vy env):=by intro _;rfl) (hy:∀ env,opAt R i env y=some (vy env):=by intro _;rfl)
    (h:∀ env w,Sem.run P (do eqGuard k T x y (vx env) (vy env);binOp k T (vx env) (vy env)) w = .ok (V env) w:=by intro env w;first | (simp [go_sem];done) | (simp [go_sem];omega) | (simp [go_sem];exact IntWalk.i64_in _ (by omega))) (hw:∀ D env a w,At R i D env a w→Region.wanted o (yielded R.ops a.tmps)=true:=by intro D env a w hA;first | exact wanted_none rfl _ | exact hA.gy rfl rfl rfl) (hn:noF R i=true:=by rfl) (hr:∀ env x,V (restr (R.cl.getD i []) (upd env i x))=V env:=by intros;rfl):SR P Q R i:=bi_ vx vy ho hf hop hV hx hy h hw hn hr
theorem un3 {k:UnOp} {T:TypeId} {x:Operand} {V vx:Env→Value} (ho:R.ops[i]? = some o:=by rfl) (hf:free' R i=true:=by rfl) (hop:o.op = .unOp k T x:=by rfl) (hV:R.v? i=some V:=by rfl) (gx:∀ env,opA R i env x=some (vx env):=by intro _;rfl) (hx:∀ env,opAt R i env x=some (vx env):=by intro _;rfl)
    (h:∀ env w,(execOp evC { o with op:=.unOp k T (.const (vx env)) }).run P w = .ok (.value (V env)) w:=by intro env w;first | (simp [go_sem];done) | (simp [go_sem];omega) | (simp [go_sem];exact IntWalk.i64_in _ (by omega))) (hw:∀ D env a w,At R i D env a w→Region.wanted o (yielded R.ops a.tmps)=true:=by intro D env a w hA;first | exact wanted_none rfl _ | exact hA.gy rfl rfl rfl) (hn:noF R i=true:=by rfl) (hr:∀ env x,V (restr (R.cl.getD i []) (upd env i x))=V env:=by intros;rfl):SR P Q R i:=un_ vx ho hf hop hV hx h hw hn hr
theorem cv3 {T T2:TypeId} {x:Operand} {V vx:Env→Value} (ho:R.ops[i]? = some o:=by rfl) (hf:free' R i=true:=by rfl) (hop:o.op = .convert T T2 x:=by rfl) (hV:R.v? i=some V:=by rfl) (gx:∀ env,opA R i env x=some (vx env):=by intro _;rfl) (hx:∀ env,opAt R i env x=some (vx env):=by intro _;rfl)
    (h:∀ env w,(execOp evC { o with op:=.convert T T2 (.const (vx env)) }).run P w = .ok (.value (V env)) w:=by intro env w;first | (simp [go_sem];done) | (simp [go_sem];omega) | (simp [go_sem];exact IntWalk.i64_in _ (by omega))) (hw:∀ D env a w,At R i D env a w→Region.wanted o (yielded R.ops a.tmps)=true:=by intro D env a w hA;first | exact wanted_none rfl _ | exact hA.gy rfl rfl rfl) (hn:noF R i=true:=by rfl) (hr:∀ env x,V (restr (R.cl.getD i []) (upd env i x))=V env:=by intros;rfl):SR P Q R i:=cv_ vx ho hf hop hV hx h hw hn hr
theorem fl3 {T:TypeId} {k:Nat} {x:Operand} {V vx:Env→Value} (ho:R.ops[i]? = some o:=by rfl) (hf:free' R i=true:=by rfl) (hop:o.op = .field T x k:=by rfl) (hV:R.v? i=some V:=by rfl) (gx:∀ env,opA R i env x=some (vx env):=by intro _;rfl) (hx:∀ env,opAt R i env x=some (vx env):=by intro _;rfl)
    (h:∀ env w,(execOp evC { o with op:=.field T (.const (vx env)) k }).run P w = .ok (.value (V env)) w:=by intro env w;simp [go_sem,Instr.field,part,asAgg]) (hw:∀ D env a w,At R i D env a w→Region.wanted o (yielded R.ops a.tmps)=true:=by intro D env a w hA;first | exact wanted_none rfl _ | exact hA.gy rfl rfl rfl) (hn:noF R i=true:=by rfl) (hr:∀ env x,V (restr (R.cl.getD i []) (upd env i x))=V env:=by intros;rfl):SR P Q R i:=fl_ vx ho hf hop hV hx h hw hn hr
theorem pk3  {x y z:Operand} {V vx vy vz:Env→Value} (ho:R.ops[i]? = some o:=by rfl) (hf:free' R i=true:=by rfl) (hop:o.op = .pick x y z:=by rfl) (hV:R.v? i=some V:=by rfl) (gx:∀ env,opA R i env x=some (vx env):=by intro _;rfl) (hx:∀ env,opAt R i env x=some (vx env):=by intro _;rfl) (gy:∀ env,opA R i env y=some (vy env):=by intro _;rfl) (hy:∀ env,opAt R i env y=some (vy env):=by intro _;rfl) (gz:∀ env,opA R i env z=some (vz env):=by intro _;rfl) (hz:∀ env,opAt R i env z=some (vz env):=by intro _;rfl)
    (h:∀ env w,(execOp evC { o with op:=.pick (.const (vx env)) (.const (vy env)) (.const (vz env)) }).run P w = .ok (.value (V env)) w:=by intro env w;first | (simp [go_sem];done) | (simp [go_sem];omega) | (simp [go_sem];exact IntWalk.i64_in _ (by omega))) (hw:∀ D env a w,At R i D env a w→Region.wanted o (yielded R.ops a.tmps)=true:=by intro D env a w hA;first | exact wanted_none rfl _ | exact hA.gy rfl rfl rfl) (hn:noF R i=true:=by rfl) (hr:∀ env x,V (restr (R.cl.getD i []) (upd env i x))=V env:=by intros;rfl):SR P Q R i:=pk_ vx vy vz ho hf hop hV hx hy hz h hw hn hr
theorem nc3 {x:Operand} {vx:Env→Value} (ho:R.ops[i]? = some o:=by rfl) (hf:free' R i=true:=by rfl) (hop:o.op = .nilCheck x:=by rfl) (gx:∀ env,opA R i env x=some (vx env):=by intro _;rfl) (hx:∀ env,opAt R i env x=some (vx env):=by intro _;rfl) (hV:R.v? i=some vx:=by rfl)
    (h:∀ env w,(execOp evC { o with op:=.nilCheck (.const (vx env)) }).run P w = .ok (.value (vx env)) w:=by intro env w;first | (simp [go_sem];done) | (simp [go_sem];omega) | (simp [go_sem];exact IntWalk.i64_in _ (by omega))) (hw:∀ D env a w,At R i D env a w→Region.wanted o (yielded R.ops a.tmps)=true:=by intro D env a w hA;first | exact wanted_none rfl _ | exact hA.gy rfl rfl rfl) (hn:noF R i=true:=by rfl) (hr:∀ env x,vx (restr (R.cl.getD i []) (upd env i x))=vx env:=by intros;rfl):SR P Q R i:=nc_ vx ho hf hop hV hx h hw hn hr
theorem gm3 {x:Operand} {vx:Env→Value} (ho:R.ops[i]? = some o:=by rfl) (hf:free' R i=true:=by rfl) (hop:o.op = .move x:=by rfl) (gx:∀ env,opA R i env x=some (vx env):=by intro _;rfl) (hx:∀ env,opAt R i env x=some (vx env):=by intro _;rfl) (hV:R.v? i=some vx:=by rfl)
    (h:∀ env w,(execOp evC { o with op:=.move (.const (vx env)) }).run P w = .ok (.value (vx env)) w:=by intro env w;first | (simp [go_sem];done) | (simp [go_sem];omega) | (simp [go_sem];exact IntWalk.i64_in _ (by omega))) (hw:∀ D env a w,At R i D env a w→Region.wanted o (yielded R.ops a.tmps)=true:=by intro D env a w hA;first | exact wanted_none rfl _ | exact hA.gy rfl rfl rfl) (hn:noF R i=true:=by rfl) (hr:∀ env x,vx (restr (R.cl.getD i []) (upd env i x))=vx env:=by intros;rfl):SR P Q R i:=gm_ vx ho hf hop hV hx h hw hn hr
theorem fa3 {T:TypeId} {k:Nat} {x:Operand} (q:Nat) {b:Env→Nat} {o1:Nat} (ho:R.ops[i]? = some o:=by rfl) (hf:free' R i=true:=by rfl) (hop:o.op = .fieldAddr T x k:=by rfl) (gx:∀ env,opA R i env x=some (vP (b env) o1):=by intro _;rfl) (hx:∀ env,opAt R i env x=some (vP (b env) o1):=by intro _;rfl) (hV:R.v? i=some (fun env=>vP (b env) q):=by rfl)
    (h:∀ b w,(execOp evC { o with op:=.fieldAddr T (.const (vP b o1)) k }).run P w = .ok (.value (vP b q)) w:=by intro b w;simp [go_sem]) (hw:∀ D env a w,At R i D env a w→Region.wanted o (yielded R.ops a.tmps)=true:=by intro D env a w hA;first | exact wanted_none rfl _ | exact hA.gy rfl rfl rfl) (hn:noF R i=true:=by rfl) (hr:∀ env x,b (restr (R.cl.getD i []) (upd env i x))=b env:=by intros;rfl):SR P Q R i:=
  fa_ (fun env=>vP (b env) o1) ho hf hop hV hx (fun env w=>h (b env) w) hw hn (fun env x=>by simp only [hr])
theorem bd30 {T:TypeId}  {V  : Env→Value} (ho:R.ops[i]? = some o:=by rfl) (hf:free' R i=true:=by rfl) (hop:o.op = .build T #[]:=by rfl) (hV:R.v? i=some V:=by rfl) 
    (h:∀ env w,(execOp evC { o with op:=.build T #[] }).run P w = .ok (.value (V env)) w:=by intro env w;simp [go_sem]) (hw:∀ D env a w,At R i D env a w→Region.wanted o (yielded R.ops a.tmps)=true:=by intro D env a w hA;first | exact wanted_none rfl _ | exact hA.gy rfl rfl rfl) (hn:noF R i=true:=by rfl) (hr:∀ env x,V (restr (R.cl.getD i []) (upd env i x))=V env:=by intros;rfl):SR P Q R i:=bd_ (fun env=>[]) ho hf hop hV (fun env=>by simp []) (fun env w=>by simpa using h env w) hw hn hr
theorem bd31 {T:TypeId} {j0:Nat} {x0:Operand} {V v0:Env→Value} (ho:R.ops[i]? = some o:=by rfl) (hf:free' R i=true:=by rfl) (hop:o.op = .build T #[(j0,x0)]:=by rfl) (hV:R.v? i=some V:=by rfl) (g0:∀ env,opA R i env x0=some (v0 env):=by intro _;rfl) (h0:∀ env,opAt R i env x0=some (v0 env):=by intro _;rfl)
    (h:∀ env w,(execOp evC { o with op:=.build T #[(j0,.const (v0 env))] }).run P w = .ok (.value (V env)) w:=by intro env w;simp [go_sem]) (hw:∀ D env a w,At R i D env a w→Region.wanted o (yielded R.ops a.tmps)=true:=by intro D env a w hA;first | exact wanted_none rfl _ | exact hA.gy rfl rfl rfl) (hn:noF R i=true:=by rfl) (hr:∀ env x,V (restr (R.cl.getD i []) (upd env i x))=V env:=by intros;rfl):SR P Q R i:=bd_ (fun env=>[v0 env]) ho hf hop hV (fun env=>by simp [h0]) (fun env w=>by simpa using h env w) hw hn hr
theorem bd32 {T:TypeId} {j0 j1:Nat} {x0 x1:Operand} {V v0 v1:Env→Value} (ho:R.ops[i]? = some o:=by rfl) (hf:free' R i=true:=by rfl) (hop:o.op = .build T #[(j0,x0),(j1,x1)]:=by rfl) (hV:R.v? i=some V:=by rfl) (g0:∀ env,opA R i env x0=some (v0 env):=by intro _;rfl) (h0:∀ env,opAt R i env x0=some (v0 env):=by intro _;rfl) (g1:∀ env,opA R i env x1=some (v1 env):=by intro _;rfl) (h1:∀ env,opAt R i env x1=some (v1 env):=by intro _;rfl)
    (h:∀ env w,(execOp evC { o with op:=.build T #[(j0,.const (v0 env)),(j1,.const (v1 env))] }).run P w = .ok (.value (V env)) w:=by intro env w;simp [go_sem]) (hw:∀ D env a w,At R i D env a w→Region.wanted o (yielded R.ops a.tmps)=true:=by intro D env a w hA;first | exact wanted_none rfl _ | exact hA.gy rfl rfl rfl) (hn:noF R i=true:=by rfl) (hr:∀ env x,V (restr (R.cl.getD i []) (upd env i x))=V env:=by intros;rfl):SR P Q R i:=bd_ (fun env=>[v0 env,v1 env]) ho hf hop hV (fun env=>by simp [h0,h1]) (fun env w=>by simpa using h env w) hw hn hr
theorem bd33 {T:TypeId} {j0 j1 j2:Nat} {x0 x1 x2:Operand} {V v0 v1 v2:Env→Value} (ho:R.ops[i]? = some o:=by rfl) (hf:free' R i=true:=by rfl) (hop:o.op = .build T #[(j0,x0),(j1,x1),(j2,x2)]:=by rfl) (hV:R.v? i=some V:=by rfl) (g0:∀ env,opA R i env x0=some (v0 env):=by intro _;rfl) (h0:∀ env,opAt R i env x0=some (v0 env):=by intro _;rfl) (g1:∀ env,opA R i env x1=some (v1 env):=by intro _;rfl) (h1:∀ env,opAt R i env x1=some (v1 env):=by intro _;rfl) (g2:∀ env,opA R i env x2=some (v2 env):=by intro _;rfl) (h2:∀ env,opAt R i env x2=some (v2 env):=by intro _;rfl)
    (h:∀ env w,(execOp evC { o with op:=.build T #[(j0,.const (v0 env)),(j1,.const (v1 env)),(j2,.const (v2 env))] }).run P w = .ok (.value (V env)) w:=by intro env w;simp [go_sem]) (hw:∀ D env a w,At R i D env a w→Region.wanted o (yielded R.ops a.tmps)=true:=by intro D env a w hA;first | exact wanted_none rfl _ | exact hA.gy rfl rfl rfl) (hn:noF R i=true:=by rfl) (hr:∀ env x,V (restr (R.cl.getD i []) (upd env i x))=V env:=by intros;rfl):SR P Q R i:=bd_ (fun env=>[v0 env,v1 env,v2 env]) ho hf hop hV (fun env=>by simp [h0,h1,h2]) (fun env w=>by simpa using h env w) hw hn hr
theorem bd34 {T:TypeId} {j0 j1 j2 j3:Nat} {x0 x1 x2 x3:Operand} {V v0 v1 v2 v3:Env→Value} (ho:R.ops[i]? = some o:=by rfl) (hf:free' R i=true:=by rfl) (hop:o.op = .build T #[(j0,x0),(j1,x1),(j2,x2),(j3,x3)]:=by rfl) (hV:R.v? i=some V:=by rfl) (g0:∀ env,opA R i env x0=some (v0 env):=by intro _;rfl) (h0:∀ env,opAt R i env x0=some (v0 env):=by intro _;rfl) (g1:∀ env,opA R i env x1=some (v1 env):=by intro _;rfl) (h1:∀ env,opAt R i env x1=some (v1 env):=by intro _;rfl) (g2:∀ env,opA R i env x2=some (v2 env):=by intro _;rfl) (h2:∀ env,opAt R i env x2=some (v2 env):=by intro _;rfl) (g3:∀ env,opA R i env x3=some (v3 env):=by intro _;rfl) (h3:∀ env,opAt R i env x3=some (v3 env):=by intro _;rfl)
    (h:∀ env w,(execOp evC { o with op:=.build T #[(j0,.const (v0 env)),(j1,.const (v1 env)),(j2,.const (v2 env)),(j3,.const (v3 env))] }).run P w = .ok (.value (V env)) w:=by intro env w;simp [go_sem]) (hw:∀ D env a w,At R i D env a w→Region.wanted o (yielded R.ops a.tmps)=true:=by intro D env a w hA;first | exact wanted_none rfl _ | exact hA.gy rfl rfl rfl) (hn:noF R i=true:=by rfl) (hr:∀ env x,V (restr (R.cl.getD i []) (upd env i x))=V env:=by intros;rfl):SR P Q R i:=bd_ (fun env=>[v0 env,v1 env,v2 env,v3 env]) ho hf hop hV (fun env=>by simp [h0,h1,h2,h3]) (fun env w=>by simpa using h env w) hw hn hr
theorem bx3 {T:TypeId} {x:Operand} (m:Nat) {v:Env→Value} (ho:R.ops[i]? = some o:=by rfl) (hg:o.guard=none:=by rfl) {ow:Own} (hm:R.O[m]? = some ow:=by rfl) (hal:ow.al=some i:=by rfl) (hV:R.v? i=some (fun env=>.pointer (some ⟨pb env i,0,none⟩)):=by rfl) (hop:o.op = .box T x:=by rfl) (gx:∀ env,opA R i env x=some (v env):=by intro _;rfl) (hx:∀ env,opAt R i env x=some (v env):=by intro _;rfl)
    (hrun:∀ (env:Env) (w:World),(execOp evC { o with op:=.box T (.const (v env)) }).run P w = .ok (.value (.pointer (some ⟨w.heap.size,0,none⟩))) (w.alloc (.cells ow.c0.toArray ow.T (0,0))):=by intro env w;simp [go_sem]) (hn:noF R i=true:=by rfl) (hnt:noTh R i=true:=by rfl):SR P Q R i:=bx_ m v ho hg hm hal hV hop hx hrun hn hnt
theorem ld31 {T:TypeId} {t:Tmp} {ow:Own} {off:Nat} {v0:Value} (m:Nat) (hT:shapeOf P T=some (false,1)) (ho:R.ops[i]? = some o:=by rfl) (hf:free' R i=true:=by rfl) (hop:o.op = .load T (.tmp t):=by rfl) (hm:R.O[m]? = some ow:=by rfl) (hal:ow.al=none:=by rfl) (hs:match ow.st with | none=>True | some s=>(R.cl.getD s []).contains i=true:=by first | exact trivial | rfl)
    (hp:∀ env,slotAt R i env t=some (.pointer (some ⟨ow.b0,off,none⟩)):=by intro _;rfl) (e0:lget ow.c0 off=some v0:=by rfl) (hV:R.v? i=some (fun _=>v0):=by rfl) (hw:∀ D env a w,At R i D env a w→Region.wanted o (yielded R.ops a.tmps)=true:=by intro D env a w hA;first | exact wanted_none rfl _ | exact hA.gy rfl rfl rfl) (hn:noF R i=true:=by rfl):SR P Q R i:=ld_ m ho hf hop hV hm hal hs hp hw (loadG1 hT e0) (fun _=>rfl) hn
theorem ld3b {T:TypeId} {t:Tmp} {ow:Own} {off:Nat} {v0 v1:Value} (m:Nat) (hT:shapeOf P T=some (true,2)) (ho:R.ops[i]? = some o:=by rfl) (hf:free' R i=true:=by rfl) (hop:o.op = .load T (.tmp t):=by rfl) (hm:R.O[m]? = some ow:=by rfl) (hal:ow.al=none:=by rfl) (hs:match ow.st with | none=>True | some s=>(R.cl.getD s []).contains i=true:=by first | exact trivial | rfl)
    (hp:∀ env,slotAt R i env t=some (.pointer (some ⟨ow.b0,off,none⟩)):=by intro _;rfl) (e0:lget ow.c0 (off+0)=some v0:=by rfl) (e1:lget ow.c0 (off+1)=some v1:=by rfl) (hV:R.v? i=some (fun _=>.agg #[v0,v1]):=by rfl) (hw:∀ D env a w,At R i D env a w→Region.wanted o (yielded R.ops a.tmps)=true:=by intro D env a w hA;first | exact wanted_none rfl _ | exact hA.gy rfl rfl rfl) (hn:noF R i=true:=by rfl):SR P Q R i:=ld_ m ho hf hop hV hm hal hs hp hw (loadGc (vs:=[v0,v1]) hT rfl ⟨e0,e1,trivial⟩) (fun _=>rfl) hn
theorem ld3c {T:TypeId} {t:Tmp} {ow:Own} {off:Nat} {v0 v1 v2:Value} (m:Nat) (hT:shapeOf P T=some (true,3)) (ho:R.ops[i]? = some o:=by rfl) (hf:free' R i=true:=by rfl) (hop:o.op = .load T (.tmp t):=by rfl) (hm:R.O[m]? = some ow:=by rfl) (hal:ow.al=none:=by rfl) (hs:match ow.st with | none=>True | some s=>(R.cl.getD s []).contains i=true:=by first | exact trivial | rfl)
    (hp:∀ env,slotAt R i env t=some (.pointer (some ⟨ow.b0,off,none⟩)):=by intro _;rfl) (e0:lget ow.c0 (off+0)=some v0:=by rfl) (e1:lget ow.c0 (off+1)=some v1:=by rfl) (e2:lget ow.c0 (off+2)=some v2:=by rfl) (hV:R.v? i=some (fun _=>.agg #[v0,v1,v2]):=by rfl) (hw:∀ D env a w,At R i D env a w→Region.wanted o (yielded R.ops a.tmps)=true:=by intro D env a w hA;first | exact wanted_none rfl _ | exact hA.gy rfl rfl rfl) (hn:noF R i=true:=by rfl):SR P Q R i:=ld_ m ho hf hop hV hm hal hs hp hw (loadGc (vs:=[v0,v1,v2]) hT rfl ⟨e0,e1,e2,trivial⟩) (fun _=>rfl) hn
theorem ld3d {T:TypeId} {t:Tmp} {ow:Own} {off:Nat} {v0 v1 v2 v3:Value} (m:Nat) (hT:shapeOf P T=some (true,4)) (ho:R.ops[i]? = some o:=by rfl) (hf:free' R i=true:=by rfl) (hop:o.op = .load T (.tmp t):=by rfl) (hm:R.O[m]? = some ow:=by rfl) (hal:ow.al=none:=by rfl) (hs:match ow.st with | none=>True | some s=>(R.cl.getD s []).contains i=true:=by first | exact trivial | rfl)
    (hp:∀ env,slotAt R i env t=some (.pointer (some ⟨ow.b0,off,none⟩)):=by intro _;rfl) (e0:lget ow.c0 (off+0)=some v0:=by rfl) (e1:lget ow.c0 (off+1)=some v1:=by rfl) (e2:lget ow.c0 (off+2)=some v2:=by rfl) (e3:lget ow.c0 (off+3)=some v3:=by rfl) (hV:R.v? i=some (fun _=>.agg #[v0,v1,v2,v3]):=by rfl) (hw:∀ D env a w,At R i D env a w→Region.wanted o (yielded R.ops a.tmps)=true:=by intro D env a w hA;first | exact wanted_none rfl _ | exact hA.gy rfl rfl rfl) (hn:noF R i=true:=by rfl):SR P Q R i:=ld_ m ho hf hop hV hm hal hs hp hw (loadGc (vs:=[v0,v1,v2,v3]) hT rfl ⟨e0,e1,e2,e3,trivial⟩) (fun _=>rfl) hn
theorem ld3g {T:TypeId} {t:Tmp} {ow:Own} {off:Nat} {v0 v1 v2 v3 v4 v5 v6:Value} (m:Nat) (hT:shapeOf P T=some (true,7)) (ho:R.ops[i]? = some o:=by rfl) (hf:free' R i=true:=by rfl) (hop:o.op = .load T (.tmp t):=by rfl) (hm:R.O[m]? = some ow:=by rfl) (hal:ow.al=none:=by rfl) (hs:match ow.st with | none=>True | some s=>(R.cl.getD s []).contains i=true:=by first | exact trivial | rfl)
    (hp:∀ env,slotAt R i env t=some (.pointer (some ⟨ow.b0,off,none⟩)):=by intro _;rfl) (e0:lget ow.c0 (off+0)=some v0:=by rfl) (e1:lget ow.c0 (off+1)=some v1:=by rfl) (e2:lget ow.c0 (off+2)=some v2:=by rfl) (e3:lget ow.c0 (off+3)=some v3:=by rfl) (e4:lget ow.c0 (off+4)=some v4:=by rfl) (e5:lget ow.c0 (off+5)=some v5:=by rfl) (e6:lget ow.c0 (off+6)=some v6:=by rfl) (hV:R.v? i=some (fun _=>.agg #[v0,v1,v2,v3,v4,v5,v6]):=by rfl) (hw:∀ D env a w,At R i D env a w→Region.wanted o (yielded R.ops a.tmps)=true:=by intro D env a w hA;first | exact wanted_none rfl _ | exact hA.gy rfl rfl rfl) (hn:noF R i=true:=by rfl):SR P Q R i:=ld_ m ho hf hop hV hm hal hs hp hw (loadGc (vs:=[v0,v1,v2,v3,v4,v5,v6]) hT rfl ⟨e0,e1,e2,e3,e4,e5,e6,trivial⟩) (fun _=>rfl) hn
theorem se3 {T n:Nat} {g:Bool} {t:Tmp} {x:Operand} {ow:Own} {off:Nat} {v:Env→Value} (m:Nat) (hT:shapeOf P T=some (g,n)) (ho:R.ops[i]? = some o:=by rfl) (hg:o.guard=none:=by rfl) (hop:o.op = .store T (.tmp t) x:=by rfl) (hm:R.O[m]? = some ow:=by rfl) (hs:ow.st=some i:=by rfl) (hal:ow.al=none:=by rfl)
    (hp:∀ env,slotAt R i env t=some (.pointer (some ⟨ow.b0,off,none⟩)):=by intro _;rfl) (gx:∀ env,opA R i env x=some (v env):=by intro _;rfl) (hx:∀ env,opAt R i env x=some (v env):=by intro _;rfl) (hk:∀ env,stOk n off ow.c0 (v env).cells.toList=true:=by intro _;rfl) (hc:∀ env y,ow.c1 (restr (R.cl.getD i []) (upd env i y))=setFrom ow.c0 off (v env).cells.toList:=by intros;rfl) (hV:R.v? i=none:=by rfl) (hn:noF R i=true:=by rfl) (hnt:noTh R i=true:=by rfl):SR P Q R i:=s_stE ho hg hop m hm hs hal hp hx (fun env b w hc=>storeG hT (hk env) hc) hc hV hn hnt
theorem sw3 {T n:Nat} {g:Bool} {t:Tmp} {x:Operand} {ow:Own} {v:Env→Value} (m k:Nat) (hT:shapeOf P T=some (g,n)) (ho:R.ops[i]? = some o:=by rfl) (hg:o.guard=none:=by rfl) (hop:o.op = .store T (.tmp t) x:=by rfl) (hm:R.O[m]? = some ow:=by rfl) (hs:ow.st=some i:=by rfl) (hal:ow.al=some k:=by rfl)
    (hk2:R.v? k=some (fun env=>.pointer (some ⟨pb env k,0,none⟩)):=by rfl) (hp:isD R.ds t k=true:=by rfl) (gx:∀ env,opA R i env x=some (v env):=by intro _;rfl) (hx:∀ env,opAt R i env x=some (v env):=by intro _;rfl) (hk:∀ env,stOk n 0 ow.c0 (v env).cells.toList=true:=by intro _;rfl) (hc:∀ env y,ow.c1 (restr (R.cl.getD i []) (upd env i y))=setFrom ow.c0 0 (v env).cells.toList:=by intros;rfl) (hV:R.v? i=none:=by rfl) (hn:noF R i=true:=by rfl) (hnt:noTh R i=true:=by rfl):SR P Q R i:=s_stN ho hg hop m k hm hs hal hk2 hp hx (fun env b w hc=>storeG hT (hk env) hc) hc hV hn hnt
theorem cl3 {V:Value} {f:FuncId} {fn:Func} {ps:Array Operand} {ts:Array TypeId} {vs:List Value} (hfn:Tryz.prog.funcs[f]? = some fn) (h:Ret f vs.toArray V) (ho:R.ops[i]? = some o:=by rfl) (hf:free' R i=true:=by rfl) (hop:o.op = .call { callee:=.value (.func f),args:=ps,argTypes:=ts }:=by rfl) (hname:(fn.name == "runtime.NumGoroutine")=false:=by kernel_rfl) (hb:fn.body.isSome=true:=by rfl) (ha:∀ env,ps.toList.map (opAt R i env)=vs.map some:=by intro _;rfl) (hV:R.v? i=some (fun _=>V):=by rfl) (hw:∀ D env a w,At R i D env a w→Region.wanted o (yielded R.ops a.tmps)=true:=by intro D env a w hA;first | exact wanted_none rfl _ | exact hA.gy rfl rfl rfl) (hn:noF R i=true:=by rfl):SR Tryz.prog Q R i:=cl_ hfn ho hf hop hname hb hV hw hn (fun _ _=>rfl) (fun env=>⟨_,h,ha env⟩)
theorem cw3e {V:Env→Value} {f:FuncId} {fn:Func} {ps:Array Operand} {ts:Array TypeId} {vs:Env→List Value} (hfn:P.funcs[f]? = some fn) (h:∀ {D a} env w,At R i D env a w→Calls P f (vs env).toArray w fun e w'=>e = .returned (V env)∧Below w.heap.size w w') (ho:R.ops[i]? = some o:=by rfl) (hf:free' R i=true:=by rfl) (hop:o.op = .call { callee:=.value (.func f),args:=ps,argTypes:=ts }:=by rfl) (hname:(fn.name == "runtime.NumGoroutine")=false:=by kernel_rfl) (hb:fn.body.isSome=true:=by rfl) (ha:∀ env,ps.toList.map (opAt R i env)=(vs env).map some:=by intro _;rfl) (hV:R.v? i=some V:=by rfl) (hw:∀ D env a w,At R i D env a w→Region.wanted o (yielded R.ops a.tmps)=true:=by intro D env a w hA;first | exact wanted_none rfl _ | exact hA.gy rfl rfl rfl) (hn:noF R i=true:=by rfl) (hr:∀ env x,V (restr (R.cl.getD i []) (upd env i x))=V env:=by intros;rfl):SR P Q R i:=cw_ hfn ho hf hop hname hb hV hw hn hr (fun _ env _ w hA=>⟨_,h env w hA,ha env⟩)
theorem cw3 {V:Value} {f:FuncId} {fn:Func} {ps:Array Operand} {ts:Array TypeId} {vs:List Value} (hfn:P.funcs[f]? = some fn) (h:∀ {D env a} w,At R i D env a w→Calls P f vs.toArray w fun e w'=>e = .returned V∧Below w.heap.size w w') (ho:R.ops[i]? = some o:=by rfl) (hf:free' R i=true:=by rfl) (hop:o.op = .call { callee:=.value (.func f),args:=ps,argTypes:=ts }:=by rfl) (hname:(fn.name == "runtime.NumGoroutine")=false:=by kernel_rfl) (hb:fn.body.isSome=true:=by rfl) (ha:∀ env,ps.toList.map (opAt R i env)=vs.map some:=by intro _;rfl) (hV:R.v? i=some (fun _=>V):=by rfl) (hw:∀ D env a w,At R i D env a w→Region.wanted o (yielded R.ops a.tmps)=true:=by intro D env a w hA;first | exact wanted_none rfl _ | exact hA.gy rfl rfl rfl) (hn:noF R i=true:=by rfl):SR P Q R i:=cw_ hfn ho hf hop hname hb hV hw hn (fun _ _=>rfl) (fun _ env _ w hA=>⟨_,h w hA,ha env⟩)
theorem cl4 {V:Value} {f:FuncId} {fn:Func} {ps:Array Operand} {ts:Array TypeId} {vs:List Value} (hfn:Tryz.prog.funcs[f]? = some fn) (ho:R.ops[i]? = some o:=by rfl) (hf:free' R i=true:=by rfl) (hop:o.op = .call { callee:=.value (.func f),args:=ps,argTypes:=ts }:=by rfl) (ha0:∀ env,argsA R i env ps.toList=some vs:=by intro _;rfl) (h:Ret f vs.toArray V) (hname:(fn.name == "runtime.NumGoroutine")=false:=by kernel_rfl) (hb:fn.body.isSome=true:=by rfl) (ha:∀ env,ps.toList.map (opAt R i env)=vs.map some:=by intro _;rfl) (hV:R.v? i=some (fun _=>V):=by rfl) (hw:∀ D env a w,At R i D env a w→Region.wanted o (yielded R.ops a.tmps)=true:=by intro D env a w hA;first | exact wanted_none rfl _ | exact hA.gy rfl rfl rfl) (hn:noF R i=true:=by rfl):SR Tryz.prog Q R i:=cl_ hfn ho hf hop hname hb hV hw hn (fun _ _=>rfl) (fun env=>⟨_,h,ha env⟩)
end
section
variable {P:Program} {n:Nat} {w0:World} {row ex:Option Nat} {Ψ Θ:World→Prop} {L:Slots} {M:List Ent} {a:Act} {w:World} {G:Prop} {Q:Exit→Act→World→Prop}
theorem cF3 (h:Cur n w0 row ex Ψ Θ L M a w) {t:Tmp} {c1 c2:Code} (k:c2.wp P Q a w) (nav:(Code.cond (.tmp t) c1 c2).wp P Q a w→G:=by intro nv;with_reducible repeat (first | exact nv | refine then_n ?_ | refine wp_seq ?_ | refine wp_block ?_ | refine blk_n ?_ | refine sc_n ?_ | refine wp_skip ?_ | refine wp_scope_straight ?_ | refine wp_label ?_ | refine wp_ret ?_ | refine then_ret ?_ | refine blk_ret ?_ | refine sc_r ?_ | refine wp_exit ?_ | refine then_e ?_ | refine blk_x ?_ | refine blk_e rfl ?_ | refine sc_x ?_)) (hv:lk L t=some (.bool false):=by rfl):G:=nav (cF_ h k hv)
theorem cT3 (h:Cur n w0 row ex Ψ Θ L M a w) {t:Tmp} {c1 c2:Code} (k:c1.wp P Q a w) (nav:(Code.cond (.tmp t) c1 c2).wp P Q a w→G:=by intro nv;with_reducible repeat (first | exact nv | refine then_n ?_ | refine wp_seq ?_ | refine wp_block ?_ | refine blk_n ?_ | refine sc_n ?_ | refine wp_skip ?_ | refine wp_scope_straight ?_ | refine wp_label ?_ | refine wp_ret ?_ | refine then_ret ?_ | refine blk_ret ?_ | refine sc_r ?_ | refine wp_exit ?_ | refine then_e ?_ | refine blk_x ?_ | refine blk_e rfl ?_ | refine sc_x ?_)) (hv:lk L t=some (.bool true):=by rfl):G:=nav (cT_ h k hv)
theorem cS3 (h:Cur n w0 row ex Ψ Θ L M a w) {t:Tmp} {c1 c2:Code} {b:Bool} (k1:b=true→c1.wp P Q a w) (k2:b=false→c2.wp P Q a w) (nav:(Code.cond (.tmp t) c1 c2).wp P Q a w→G:=by intro nv;with_reducible repeat (first | exact nv | refine then_n ?_ | refine wp_seq ?_ | refine wp_block ?_ | refine blk_n ?_ | refine sc_n ?_ | refine wp_skip ?_ | refine wp_scope_straight ?_ | refine wp_label ?_ | refine wp_ret ?_ | refine then_ret ?_ | refine blk_ret ?_ | refine sc_r ?_ | refine wp_exit ?_ | refine then_e ?_ | refine blk_x ?_ | refine blk_e rfl ?_ | refine sc_x ?_)) (hv:lk L t=some (.bool b):=by rfl):G:=nav (wp_cond_split (eval_tmp (h.g hv)) k1 k2)
theorem lp3 {c:Code} (I:Act→World→Prop) (μ:Act→World→Nat) (h0:I a w) (round:∀ a w,I a w→c.wp P (Exit.then (fun a' w'=>I a' w'∧μ a' w' < μ a w) Q) a w) (nav:(Code.loop c).wp P Q a w→G:=by intro nv;with_reducible repeat (first | exact nv | refine then_n ?_ | refine wp_seq ?_ | refine wp_block ?_ | refine blk_n ?_ | refine sc_n ?_ | refine wp_skip ?_ | refine wp_scope_straight ?_ | refine wp_label ?_ | refine wp_ret ?_ | refine then_ret ?_ | refine blk_ret ?_ | refine sc_r ?_ | refine wp_exit ?_ | refine then_e ?_ | refine blk_x ?_ | refine blk_e rfl ?_ | refine sc_x ?_)):G:=nav (wp_loop I μ h0 round)
variable {fn:Func} {R:Ending→World→Prop}
theorem lvT3 {t:Tmp} (hr:fn.results = #[.tmp t]) (h:Cur n w0 row ex Ψ Θ L M a w) {v:Value} (k:R (.returned v) w) (nav:bodyPost P fn R .ret a w→G:=by intro nv;with_reducible repeat (first | exact nv | refine then_n ?_ | refine wp_seq ?_ | refine wp_block ?_ | refine blk_n ?_ | refine sc_n ?_ | refine wp_skip ?_ | refine wp_scope_straight ?_ | refine wp_label ?_ | refine wp_ret ?_ | refine then_ret ?_ | refine blk_ret ?_ | refine sc_r ?_ | refine wp_exit ?_ | refine then_e ?_ | refine blk_x ?_ | refine blk_e rfl ?_ | refine sc_x ?_)) (hv:lk L t=some v:=by rfl):G:=nav (lvT hr h k hv)
theorem lvC3 {p:Tmp} {T:TypeId} (hr:fn.results = #[.cell p T]) (h:Cur n w0 row ex Ψ Θ L M a w) (m:Nat) {N b:Nat} {T':TypeId} {cs:List Value} {v:Value} (hrd:∀ (b:Nat) (w:World),(∀ q x,q < N→cs[0+q]? = some x→w.cell? ⟨b,0+q,none⟩=some x)→(Instr.loadAt T (.pointer (some ⟨b,0,none⟩))).run P w = .ok v w) (k:R (.returned v) w) (nav:bodyPost P fn R .ret a w→G:=by intro nv;with_reducible repeat (first | exact nv | refine then_n ?_ | refine wp_seq ?_ | refine wp_block ?_ | refine blk_n ?_ | refine sc_n ?_ | refine wp_skip ?_ | refine wp_scope_straight ?_ | refine wp_label ?_ | refine wp_ret ?_ | refine then_ret ?_ | refine blk_ret ?_ | refine sc_r ?_ | refine wp_exit ?_ | refine then_e ?_ | refine blk_x ?_ | refine blk_e rfl ?_ | refine sc_x ?_)) (hm:M[m]? = some (b,T',cs):=by rfl) (hp:lk L p=some (.pointer (some ⟨b,0,none⟩)):=by rfl):G:=nav (lvC hr h m hrd k hm hp)
theorem lvCT3 {p t:Tmp} {T:TypeId} (hr:fn.results = #[.cell p T,.tmp t]) (h:Cur n w0 row ex Ψ Θ L M a w) (m:Nat) {N b:Nat} {T':TypeId} {cs:List Value} {v v2:Value} (hrd:∀ (b:Nat) (w:World),(∀ q x,q < N→cs[0+q]? = some x→w.cell? ⟨b,0+q,none⟩=some x)→(Instr.loadAt T (.pointer (some ⟨b,0,none⟩))).run P w = .ok v w) (k:R (.returned (.tuple #[v,v2])) w) (nav:bodyPost P fn R .ret a w→G:=by intro nv;with_reducible repeat (first | exact nv | refine then_n ?_ | refine wp_seq ?_ | refine wp_block ?_ | refine blk_n ?_ | refine sc_n ?_ | refine wp_skip ?_ | refine wp_scope_straight ?_ | refine wp_label ?_ | refine wp_ret ?_ | refine then_ret ?_ | refine blk_ret ?_ | refine sc_r ?_ | refine wp_exit ?_ | refine then_e ?_ | refine blk_x ?_ | refine blk_e rfl ?_ | refine sc_x ?_)) (hm:M[m]? = some (b,T',cs):=by rfl) (hp:lk L p=some (.pointer (some ⟨b,0,none⟩)):=by rfl) (hv:lk L t=some v2:=by rfl):G:=nav (lvCT hr h m hrd k hm hp hv)
end
theorem gq {G:Prop} {Q:Exit→Act→World→Prop} {ops:Array Oper} {id n:Nat} {draw:Bool} {w0:World} {row ex:Option Nat} {Ψ:World→Prop} {Θ:World→Prop} {L:Slots} {M:List Ent} {a:Act} {w:World} (h:Cur n w0 row ex (Ψ) Θ L M a w) (n1:Nat) (cl:List (List Nat)) (V:List (Option (Env→Value))) (N:Env→Slots)
    (nav:(Code.region id ops draw).wp Tryz.prog Q a w→G:=by intro nv;with_reducible repeat (first | exact nv | refine then_n ?_ | refine wp_seq ?_ | refine wp_block ?_ | refine blk_n ?_ | refine sc_n ?_ | refine wp_skip ?_ | refine wp_scope_straight ?_ | refine wp_label ?_ | refine wp_ret ?_ | refine then_ret ?_ | refine blk_ret ?_ | refine sc_r ?_ | refine wp_exit ?_ | refine then_e ?_ | refine blk_x ?_ | refine blk_e rfl ?_ | refine sc_x ?_)) (S:List Sto:=[]) (W:List New:=[]) (F:List (Nat × (Env→World→Prop)):=[]) (th:Option (Nat × (Env→World→Prop)):=none) (T:Env→World→Prop:=fun _=>Θ) (M':Env→List Ent:=fun env=>aM env W M S) (s:Steps (SR Tryz.prog Q ⟨ops,ops.toList.map (·.dst),cl,S,W,V,F,n,a,L,M,w0,row,ex,Ψ,Θ,th⟩) n1 0)
    (k:∀ (env:Env) a' w',Cur n w0 row ex (Ψ) (T env) (N env ++ L) (M' env) a' w'→Q .normal a' w') (hR:regOk ⟨ops,ops.toList.map (·.dst),cl,S,W,V,F,n,a,L,M,w0,row,ex,Ψ,Θ,th⟩=true:=by kernel_rfl) (hsz:ops.size=n1+1:=by rfl) (hN:∀ env,(N env).map (fun e=>slotEnd ⟨ops,ops.toList.map (·.dst),cl,S,W,V,F,n,a,L,M,w0,row,ex,Ψ,Θ,th⟩ env e.1)=(N env).map (fun e=>some e.2):=by intro _;rfl) (hK:∀ env:Env,shOk (N env) L (ops.toList.map (·.dst))=true:=by intro _;rfl) (hM:∀ env,endM ⟨ops,ops.toList.map (·.dst),cl,S,W,V,F,n,a,L,M,w0,row,ex,Ψ,Θ,th⟩ env=(M' env):=by intro _;rfl) (hO:ownIn ⟨ops,ops.toList.map (·.dst),cl,S,W,V,F,n,a,L,M,w0,row,ex,Ψ,Θ,th⟩ (n1+1)=true:=by rfl) (hT:∀ env w,Reg.tht ⟨ops,ops.toList.map (·.dst),cl,S,W,V,F,n,a,L,M,w0,row,ex,Ψ,Θ,th⟩ (allD (n1+1)) env w→T env w:=by intro _ _ h;exact h)  : G:=by
  refine nav ?_
  obtain ⟨m,hm⟩:∃ m,m=n1+1:=⟨_,rfl⟩
  rw [← hm] at hsz hO hT
  subst hsz
  exact reg_cur mixed h _ cl S W V F th rfl hR (fun i hi=>s.get i (Nat.zero_le _) (by omega)) (fun env a' w' hJ=>k env a' w' (hJ.curN (hN env) (hK env) (hM env) hO (fun w hw=>hT env w hw)))
theorem gq1 {G:Prop} {Q:Exit→Act→World→Prop} {ops:Array Oper} {id n:Nat} {draw:Bool} {w0:World} {row ex:Option Nat} {Ψ:World→Prop} {Θ:World→Prop} {L:Slots} {M:List Ent} {a:Act} {w:World} (h:Cur n w0 row ex (Ψ) Θ L M a w) (n1:Nat) (cl:List (List Nat)) (V:List (Option (Env→Value))) (N:Env→Slots)
    (nav:(Code.region id ops draw).wp Tryz.prog Q a w→G:=by intro nv;with_reducible repeat (first | exact nv | refine then_n ?_ | refine wp_seq ?_ | refine wp_block ?_ | refine blk_n ?_ | refine sc_n ?_ | refine wp_skip ?_ | refine wp_scope_straight ?_ | refine wp_label ?_ | refine wp_ret ?_ | refine then_ret ?_ | refine blk_ret ?_ | refine sc_r ?_ | refine wp_exit ?_ | refine then_e ?_ | refine blk_x ?_ | refine blk_e rfl ?_ | refine sc_x ?_))  (s:Steps (SR Tryz.prog Q ⟨ops,ops.toList.map (·.dst),cl,[],[],V,[],n,a,L,M,w0,row,ex,Ψ,Θ,none⟩) n1 0)
    (k:∀ (env:Env) a' w',Cur n w0 row ex (Ψ) Θ (N env ++ L) M a' w'→Q .normal a' w') (hR:regOk ⟨ops,ops.toList.map (·.dst),cl,[],[],V,[],n,a,L,M,w0,row,ex,Ψ,Θ,none⟩=true:=by kernel_rfl) (hsz:ops.size=n1+1:=by rfl) (hN:∀ env,(N env).map (fun e=>slotEnd ⟨ops,ops.toList.map (·.dst),cl,[],[],V,[],n,a,L,M,w0,row,ex,Ψ,Θ,none⟩ env e.1)=(N env).map (fun e=>some e.2):=by intro _;rfl) (hK:∀ env:Env,shOk (N env) L (ops.toList.map (·.dst))=true:=by intro _;rfl) (hM:∀ env,endM ⟨ops,ops.toList.map (·.dst),cl,[],[],V,[],n,a,L,M,w0,row,ex,Ψ,Θ,none⟩ env=M:=by intro _;rfl) (hO:ownIn ⟨ops,ops.toList.map (·.dst),cl,[],[],V,[],n,a,L,M,w0,row,ex,Ψ,Θ,none⟩ (n1+1)=true:=by rfl)   : G:=gq h n1 cl V N nav (s:=s) (k:=k) (hR:=hR) (hsz:=hsz) (hN:=hN) (hK:=hK) (hM:=hM) (hO:=hO)
theorem gq0 {G:Prop} {Q:Exit→Act→World→Prop} {ops:Array Oper} {id n:Nat} {draw:Bool} {w0:World} {row ex:Option Nat} {Ψ:World→Prop} {Θ:World→Prop} {L:Slots} {M:List Ent} {a:Act} {w:World} (h:Cur n w0 row ex (Ψ) Θ L M a w) (n1:Nat) (cl:List (List Nat)) (V:List (Option (Env→Value))) 
    (nav:(Code.region id ops draw).wp Tryz.prog Q a w→G:=by intro nv;with_reducible repeat (first | exact nv | refine then_n ?_ | refine wp_seq ?_ | refine wp_block ?_ | refine blk_n ?_ | refine sc_n ?_ | refine wp_skip ?_ | refine wp_scope_straight ?_ | refine wp_label ?_ | refine wp_ret ?_ | refine then_ret ?_ | refine blk_ret ?_ | refine sc_r ?_ | refine wp_exit ?_ | refine then_e ?_ | refine blk_x ?_ | refine blk_e rfl ?_ | refine sc_x ?_))  (s:Steps (SR Tryz.prog Q ⟨ops,ops.toList.map (·.dst),cl,[],[],V,[],n,a,L,M,w0,row,ex,Ψ,Θ,none⟩) n1 0)
    (k:∀ (env:Env) a' w',Cur n w0 row ex (Ψ) Θ L M a' w'→Q .normal a' w') (hR:regOk ⟨ops,ops.toList.map (·.dst),cl,[],[],V,[],n,a,L,M,w0,row,ex,Ψ,Θ,none⟩=true:=by kernel_rfl) (hsz:ops.size=n1+1:=by rfl)  (hK:∀ env:Env,shOk [] L (ops.toList.map (·.dst))=true:=by intro _;rfl) (hM:∀ env,endM ⟨ops,ops.toList.map (·.dst),cl,[],[],V,[],n,a,L,M,w0,row,ex,Ψ,Θ,none⟩ env=M:=by intro _;rfl) (hO:ownIn ⟨ops,ops.toList.map (·.dst),cl,[],[],V,[],n,a,L,M,w0,row,ex,Ψ,Θ,none⟩ (n1+1)=true:=by rfl)   : G:=gq1 h n1 cl V (fun _=>[]) nav (s:=s) (k:=k) (hR:=hR) (hsz:=hsz) (hN:=fun _=>rfl) (hK:=hK) (hM:=hM) (hO:=hO)
end Go.Proofs.YtailjojebdmnnaaGreat
namespace Go.Proofs.YtailjojebdmnnaaGreat
open Go.RowKit
attribute [local go_sem] vW vM vL vT2 vT3 vP vI execOp Act.eval hi_zero lo_zero
theorem sh2:shapeOf Tryz.prog 2=some (false,1):=by kernel_rfl
theorem sh3:shapeOf Tryz.prog 3=some (false,1):=by kernel_rfl
theorem sh4:shapeOf Tryz.prog 4=some (false,1):=by kernel_rfl
theorem sh22:shapeOf Tryz.prog 22=some (false,1):=by kernel_rfl
theorem sh24:shapeOf Tryz.prog 24=some (true,3):=by kernel_rfl
theorem sh25:shapeOf Tryz.prog 25=some (false,1):=by kernel_rfl
theorem sh27:shapeOf Tryz.prog 27=some (true,2):=by kernel_rfl
theorem sh39:shapeOf Tryz.prog 39=some (true,3):=by kernel_rfl
theorem sh44:shapeOf Tryz.prog 44=some (true,2):=by kernel_rfl
theorem sh47:shapeOf Tryz.prog 47=some (true,7):=by kernel_rfl
theorem sh50:shapeOf Tryz.prog 50=some (false,1):=by kernel_rfl
theorem sh52:shapeOf Tryz.prog 52=some (true,2):=by kernel_rfl
theorem sh79:shapeOf Tryz.prog 79=some (false,1):=by kernel_rfl
theorem sh107:shapeOf Tryz.prog 107=some (false,1):=by kernel_rfl
theorem sh111:shapeOf Tryz.prog 111=some (true,4):=by kernel_rfl
theorem sh113:shapeOf Tryz.prog 113=some (true,14):=by kernel_rfl
theorem sh133:shapeOf Tryz.prog 133=some (true,2):=by kernel_rfl
end Go.Proofs.YtailjojebdmnnaaGreat
namespace Go.Proofs.YtailjojebdmnnaaGreat
open Go.RowKit
def elt (s:Value) (o:Nat):Value:=match s with
  | .slice (some ⟨b,off,none⟩) _ _=>.pointer (some ⟨b,off+o,none⟩)
  | _=>undef
def cutS (s:Value) (n:Nat):Value:=match s with
  | .slice A _ c=>.slice A n c
  | v=>v
def Els (w:World) (s:Value) (n k:Nat) (f:Nat→Value):Prop:=
 ∃ A c,s = .slice A n c∧n≤c∧(n=0∨∃ b off,A=some ⟨b,off,none⟩∧∀ i,i < n*k→w.cell? ⟨b,off+i,none⟩=some (f i))
theorem Row.els {w:World} {v:Value} {ds:List Int} (h:Row w v ds):Els w v ds.length 1 (fun i=>vi (ds.getD i 0)):=by
  obtain ⟨A,c,rfl,h1,h2,h3⟩:=h
  refine ⟨A,c,rfl,h1,?_⟩
  rcases h3 with h3 | ⟨b,off,cur,fz,hA,hb,hc⟩
  · exact .inl h3
  · exact .inr ⟨b,off,hA,fun i hi=>by simp [World.cell?,hb,hc i (by omega)]⟩
theorem OwnR.els {w:World} {B:Nat} {v:Value} {ds:List Int} (h:OwnR w B v ds):Els w v ds.length 1 (fun i=>vi (ds.getD i 0)):=by
  obtain ⟨h1,h2⟩:=h
  rcases h2 with ⟨rfl,h2⟩ | ⟨g,cap,cur,rfl,hB,hb,hn,hc,hs,ht⟩
  · exact ⟨none,0,by rw [h2],by omega,.inl h2⟩
  · refine ⟨_,cap,rfl,hn,.inr ⟨g,0,rfl,fun i hi=>?_⟩⟩
    have e:(ds.map vi)[i]? = some (vi (ds.getD i 0)):=by
      rw [List.getElem?_map,List.getD_eq_getElem?_getD,List.getElem?_eq_getElem (by omega)]
      rfl
    rw [← ht,List.getElem?_take,if_pos hi] at e
    simp only [World.cell?,hb,Nat.zero_add,Option.bind_some]
    simpa using e
theorem Row.cut {w:World} {v:Value} {ds:List Int} (h:Row w v ds) {n:Nat} (hn:n≤ds.length):Row w (cutS v n) (ds.take n):=by
  obtain ⟨A,c,rfl,h1,h2,h3⟩:=h
  have hl:(ds.take n).length=n:=by simp;omega
  refine ⟨A,c,by simp [cutS];omega,by omega,by omega,?_⟩
  rcases h3 with h3 | ⟨b,off,cur,fz,hA,hb,hc⟩
  · exact .inl (by omega)
  · refine .inr ⟨b,off,cur,fz,hA,hb,fun i hi=>?_⟩
    rw [hl] at hi
    rw [hc i (by omega),List.getD_eq_getElem?_getD,List.getD_eq_getElem?_getD,List.getElem?_take,if_pos hi]
section
variable {R:Reg} {Q:Exit→Act→World→Prop} {i:Nat} {o:Oper}
theorem s_len (ho:R.ops[i]? = some o) (hf:free' R i=true) {x:Operand} {T E:TypeId} (hop:o.op = .call { callee:=.builtin .len,args:=#[x],argTypes:=#[T] }) (hT:Tryz.prog.underlying T=some (.slice E)) (hw:∀ {D env a w},At R i D env a w→Region.wanted o (yielded R.ops a.tmps)=true)
    {n k:Nat} {f:Nat→Value} (hV:R.v? i=some fun _=>vI (n:Int)) {s:Env→Value} (hx:∀ env,opAt R i env x=some (s env)) (hs:∀ {D env a w},At R i D env a w→Els w (s env) n k f) (hn:noF R i=true:=by rfl):SR Tryz.prog Q R i:=
  s_val ho hf hV (fun {D env a w} hA=>⟨hw hA,by
    obtain ⟨A,c,e,_⟩:=hs hA
    have e1:=hA.e (hx env)
    rw [e] at e1
    simp [execOp,hop,resolve,Deferred.ofValue,invoke,builtin,e1,Builtin.len_,run_underlying hT,goInt]⟩) hn (fun _ _=>rfl)
theorem s_ia (ho:R.ops[i]? = some o) (hf:free' R i=true) {T E:TypeId} {x ix:Operand} (hop:o.op = .indexAddr T x ix) (hw:∀ {D env a w},At R i D env a w→Region.wanted o (yielded R.ops a.tmps)=true)
    (hT:Tryz.prog.underlying T=some (.slice E)) {n k:Nat} (hE:(Tryz.prog.info? E).map (·.size)=some k) {f:Nat→Value} (j q:Nat) (hq:j*k=q) {s:Env→Value} (hV:R.v? i=some fun env=>elt (s env) q)
    (hx:∀ env,opAt R i env x=some (s env)) (z:Int) (hix:∀ env,opAt R i env ix=some (vI z)) (hz:z=(j:Int)) (hs:∀ {D env a w},At R i D env a w→Els w (s env) n k f) (hj:j < n) (hn:noF R i=true:=by rfl) (hr:∀ env x,s (restr (R.cl.getD i []) (upd env i x))=s env:=by intros;rfl):SR Tryz.prog Q R i:=
  s_val ho hf hV (fun {D env a w} hA=>⟨hw hA,by
    subst hq
    obtain ⟨A,c,e,h1,h2⟩:=hs hA
    have e1:=hA.e (hx env)
    have e2:=hA.e (hix env)
    rw [e] at e1
    rcases h2 with h2 | ⟨b,off,rfl,_⟩
    · omega
    obtain ⟨i0,hi,hz0⟩:=Option.map_eq_some_iff.1 hE
    subst hz
    rw [e]
    have:(j:Int) < (n:Int):=by omega
    have h0:(j:Int)*(k:Int)=((j*k:Nat):Int):=by simp
    simp [execOp,hop,e1,e2,Instr.indexAt,asIntOf,run_underlying hT,sizeOf,typeInfo,hi,hz0,elt,hj,Addr.add]
    try (split <;> simp_all)⟩) hn (fun env x=>by simp only [hr])
theorem s_ld (ho:R.ops[i]? = some o) (hf:free' R i=true) {T:TypeId} {x:Operand} (hop:o.op = .load T x) (hw:∀ {D env a w},At R i D env a w→Region.wanted o (yielded R.ops a.tmps)=true)
    {n k m:Nat} {f:Nat→Value} (q:Nat) {s:Env→Value} {v:Value} (hV:R.v? i=some fun _=>v) (hx:∀ env,opAt R i env x=some (elt (s env) q)) (hs:∀ {D env a w},At R i D env a w→Els w (s env) n k f) (hq:q+m≤n*k)
    (hrd:∀ (b off:Nat) (w:World),(∀ p,p < m→w.cell? ⟨b,off+p,none⟩=some (f (q+p)))→(Instr.loadAt T (.pointer (some ⟨b,off,none⟩))).run Tryz.prog w = .ok v w) (hm:0 < m) (hn:noF R i=true:=by rfl):SR Tryz.prog Q R i:=
  s_val ho hf hV (fun {D env a w} hA=>⟨hw hA,by
    obtain ⟨A,c,e,h1,h2⟩:=hs hA
    have e1:=hA.e (hx env)
    rw [e] at e1
    rcases h2 with h2 | ⟨b,off,rfl,hc⟩
    · subst h2;omega
    have h3:=hrd b (off+q) w (fun p hp=>by have:=hc (q+p) (by omega);rwa [← Nat.add_assoc] at this)
    simp [execOp,hop,e1,elt,h3]⟩) hn (fun _ _=>rfl)
theorem s_cut (ho:R.ops[i]? = some o) (hf:free' R i=true) {T E:TypeId} {x ix:Operand} (hop:o.op = .slice T x none (some ix) none) (hw:∀ {D env a w},At R i D env a w→Region.wanted o (yielded R.ops a.tmps)=true)
    (hT:Tryz.prog.underlying T=some (.slice E)) {n k:Nat} (hE:(Tryz.prog.info? E).map (·.size)=some k) {f:Nat→Value} (j:Nat) {s:Env→Value} (hV:R.v? i=some fun env=>cutS (s env) j)
    (hx:∀ env,opAt R i env x=some (s env)) (hix:∀ env,opAt R i env ix=some (vI (j:Int))) (hs:∀ {D env a w},At R i D env a w→Els w (s env) n k f) (hj:j≤n) (hn:noF R i=true:=by rfl) (hr:∀ env x,s (restr (R.cl.getD i []) (upd env i x))=s env:=by intros;rfl):SR Tryz.prog Q R i:=
  s_val ho hf hV (fun {D env a w} hA=>⟨hw hA,by
    obtain ⟨A,c,e,h1,h2⟩:=hs hA
    have e1:=hA.e (hx env)
    have e2:=hA.e (hix env)
    rw [e] at e1
    obtain ⟨i0,hi,hz0⟩:=Option.map_eq_some_iff.1 hE
    rw [e]
    have:(j:Int)≤(c:Int):=by omega
    have h0:(0:Int)≤(j:Int):=by omega
    simp [execOp,hop,e1,e2,Instr.sliceAt,Instr.slice,Instr.sliceBounds,run_sliceBound,run_underlying hT,sizeOf,typeInfo,hi,hz0,cutS,this,h0,Addr.add]⟩) hn (fun env x=>by simp only [hr])
end
def Keep (ex:Option Nat) (w w':World):Prop:=∀ (b:Nat) (cur:Array Value) (fz:Nat × Nat),w.heap[b]? = some (Obj.cells cur 3 fz)→ex≠some b→w'.heap[b]? = w.heap[b]?
def Off (ex:Option Nat) (v:Value):Prop:=∀ g,ex=some g→v.ownBlock≠some g
theorem Off.none (v:Value):Off none v:=fun g h=>by cases h
def RowX (ex:Option Nat) (w:World) (v:Value) (ds:List Int):Prop:=Row w v ds∧Off ex v
theorem RowX.keep {ex:Option Nat} {w w':World} {v:Value} {ds:List Int} (h:RowX ex w v ds) (hk:Keep ex w w'):RowX ex w' v ds:=by
  refine ⟨?_,h.2⟩
  obtain ⟨⟨A,c,rfl,h1,h2,h3⟩,ho⟩:=h
  refine ⟨A,c,rfl,h1,h2,?_⟩
  rcases h3 with h3 | ⟨b,off,cur,fz,rfl,hb,hc⟩
  · exact .inl h3
  · exact .inr ⟨b,off,cur,fz,rfl,by rw [hk b cur fz hb (fun e=>ho b e rfl)];exact hb,hc⟩
theorem RowX.cut {ex:Option Nat} {w:World} {v:Value} {ds:List Int} (h:RowX ex w v ds) {n:Nat} (hn:n≤ds.length):RowX ex w (cutS v n) (ds.take n):=by
 refine ⟨h.1.cut hn,fun g hg=>?_⟩
 have:=h.2 g hg
 obtain ⟨A,c,rfl,_⟩:=h.1
 cases A <;> exact this
theorem OwnR.form {w:World} {B:Nat} {v:Value} {ds:List Int} (h:OwnR w B v ds):∃ A c,v = .slice A ds.length c:=by
  obtain ⟨_,h2⟩:=h
  rcases h2 with ⟨rfl,h2⟩ | ⟨g,cap,cur,rfl,_⟩
  · exact ⟨none,0,by rw [h2]⟩
  · exact ⟨_,_,rfl⟩
theorem OwnR.row {w:World} {B:Nat} {v:Value} {ds:List Int} (hl:ds.length≤140737488351232) (h:OwnR w B v ds):Row w v ds:=by
  have he:=h.els
  obtain ⟨h1,h2⟩:=h
  rcases h2 with ⟨rfl,h2⟩ | ⟨g,cap,cur,rfl,hB,hb,hn,hc,hs,ht⟩
  · exact ⟨none,0,by rw [h2],by omega,hl,.inl h2⟩
  · refine ⟨_,cap,rfl,hn,hl,.inr ⟨g,0,cur,_,rfl,hb,fun i hi=>?_⟩⟩
    obtain ⟨A,c,e,_,h3⟩:=he
    simp only [Value.slice.injEq] at e
    obtain ⟨rfl,_,_⟩:=e
    rcases h3 with h3 | ⟨b,off,e,h3⟩
    · omega
    · simp only [Option.some.injEq,Addr.mk.injEq] at e
      obtain ⟨rfl,rfl,_⟩:=e
      have:=h3 i (by omega)
      simp only [World.cell?,hb,Option.bind_some] at this
      simpa using this
def sA:Value→Option Addr
  | .slice A _ _=>A
  | _=>none
def sC:Value→Nat
  | .slice _ _ c=>c
  | _=>0
def slF (ds:List Int) (v:Value):Value:=.slice (sA v) ds.length (sC v)
theorem RowX.form {ex:Option Nat} {w:World} {v:Value} {ds:List Int} (h:RowX ex w v ds):v=slF ds v:=by
 obtain ⟨⟨A,c,rfl,_⟩,_⟩:=h
 rfl
def Facts (L:List (World→Prop)) (w:World):Prop:=∀ φ∈L,φ w
theorem Facts.get {L:List (World→Prop)} {w:World} (h:Facts L w) (k:Nat) {φ:World→Prop} (hk:L[k]? = some φ):φ w:=h φ (List.mem_of_getElem? hk)
theorem Facts.row {L:List (World→Prop)} {w:World} {ex:Option Nat} {v:Value} {ds:List Int} (h:Facts L w) (k:Nat) (hk:L[k]? = some (fun w=>RowX ex w v ds)):Row w (.slice (sA v) ds.length (sC v)) ds:=by
 have h1:RowX ex w v ds:=h.get k hk
 have h2:=h1.1
 rw [h1.form] at h2
 exact h2
def intFree (R:Reg):Bool:=R.O.all fun o=>!(Nat.beq o.T 3)
theorem apart_keep {R:Reg} {D:Nat→Bool} {env:Env} {w w':World} {Ψ Θ:World→Prop} (hi:intFree R=true) (hst:St R.w0 R.row R.ex w (R.mem D env) Ψ Θ) (h:Apart (R.mem D env) R.ex w w'):Keep R.ex w w':=by
  intro b cur fz hb hx
  refine h.2 b (lt_of_some hb) (fun m e hm he=>?_) hx
  have h1:=(hst.own m e hm).2
  rw [he,hb] at h1
  simp only [Option.some.injEq,Obj.cells.injEq] at h1
  unfold Reg.mem at hm
  cases ho:R.O[m]? with
  | none=>simp only [ho] at hm;cases hm
  | some o =>
    simp only [ho] at hm
    split at hm
    · have h2:=List.all_eq_true.1 hi o (List.mem_of_getElem? ho)
      rw [← Option.some.inj hm] at h1
      simp only at h1
      rw [← h1.2.1] at h2
      simp at h2
    · cases hm
section
variable {P:Program} {R:Reg} {Q:Exit→Act→World→Prop} {i:Nat} {o:Oper}
theorem f_fact {φ:Value→World→Prop} {form:Value→Value} (hV:R.v? i=some fun env=>form (env i)) (hφ:∀ v w,φ v w→v=form v) (hF:R.F.filter (fun p=>Nat.beq p.1 i)=[(i,fun env w=>φ (env i) w)]) (hR:regOk R=true) (ho:R.ops[i]? = some o) {env:Env} {v:Value} {w:World} (h:φ v w):R.f i (upd env i v) w:=by
  have e:restr (R.cl.getD i []) (upd env i v) i=v:=by
    unfold restr upd
    rw [if_pos (List.contains_iff_mem.2 (cl_self hR ho)),if_pos rfl]
  refine ⟨fun V' hV'=>(by rw [hV] at hV';obtain rfl:=Option.some.inj hV';simp only [e];exact hφ v w h),fun p hp he=>?_⟩
  have h1:p∈R.F.filter (fun p=>Nat.beq p.1 i):=List.mem_filter.2 ⟨hp,by rw [he];exact Nat.beq_refl i⟩
  rw [hF,List.mem_singleton] at h1
  subst h1
  simp only [e]
  exact h
theorem At.fact {D:Nat→Bool} {env:Env} {a:Act} {w:World} (h:At R i D env a w) (j:Nat) {φ:Value→World→Prop} (hj:((R.cl.getD i []).contains j && !(j == i))=true) (hs:((R.cl.getD j []).contains j)=true) (hF:R.F.filter (fun p=>Nat.beq p.1 j)=[(j,fun env w=>φ (env j) w)]):φ (env j) w:=by
  have h1:=(h.tell j hj).2 (j,fun env w=>φ (env j) w) (by
    have:(j,fun env w=>φ (env j) w)∈R.F.filter (fun p=>Nat.beq p.1 j):=by rw [hF];exact List.mem_singleton.2 rfl
    exact (List.mem_filter.1 this).1) rfl
  have e:restr (R.cl.getD j []) env j=env j:=by unfold restr;rw [if_pos hs]
  simp only [e] at h1
  exact h1
theorem At.row {D:Nat→Bool} {env:Env} {a:Act} {w:World} (h:At R i D env a w) (j:Nat) {ex:Option Nat} {ds:List Int} (hj:((R.cl.getD i []).contains j && !(j == i))=true) (hs:((R.cl.getD j []).contains j)=true) (hF:R.F.filter (fun p=>Nat.beq p.1 j)=[(j,fun env w=>RowX ex w (env j) ds)]):Row w (.slice (sA (env j)) ds.length (sC (env j))) ds:=by
 have h1:=h.fact j (φ:=fun v w=>RowX ex w v ds) hj hs hF
 have h2:=h1.1
 rw [h1.form] at h2
 exact h2
theorem s_fact (ho:R.ops[i]? = some o) (hf:free' R i=true) {f:FuncId} {fn:Func} {ps:Array Operand} {ts:Array TypeId} (hop:o.op = .call { callee:=.value (.func f),args:=ps,argTypes:=ts })
    (hfn:P.funcs[f]? = some fn) (hname:(fn.name == "runtime.NumGoroutine")=false) (hb:fn.body.isSome=true) (hw:∀ {D env a w},At R i D env a w→Region.wanted o (yielded R.ops a.tmps)=true) (φ:Value→World→Prop) (form:Value→Value) (hV:R.v? i=some fun env=>form (env i)) (hF:R.F.filter (fun p=>Nat.beq p.1 i)=[(i,fun env w=>φ (env i) w)])
    (hint:intFree R=true) (hφ:∀ v w,φ v w→v=form v) (hst:∀ v w w',Keep R.ex w w'→φ v w→φ v w')
    (h:∀ {D env a w},At R i D env a w→∃ args,ps.map a.eval=args∧Calls P f args w fun e w'=>∃ v,e = .returned v∧Below w.heap.size w w'∧φ v w'):SR P Q R i:=
  s_callx ho hf hop hfn hname hb (fun hA=>by
    obtain ⟨args,ha,hc⟩:=h hA
    refine ⟨hw hA,args,ha,hc.mono ?_⟩
    rintro e w' ⟨v,rfl,hb,h3⟩
    have hs':=hA.j.st.call hb
    exact ⟨v,rfl,hs',fun w'' ha=>f_fact hV hφ hF hA.ok ho (hst v _ _ (apart_keep hint hs' ha) h3)⟩)
theorem s_bsM (ho:R.ops[i]? = some o) (hg:o.guard=none) (m:Nat) {ow:Own} (hm:R.O[m]? = some ow) (hal:ow.al=some i) (n:Nat) (hV:R.v? i=some fun env=>.slice (some ⟨pb env i,0,none⟩) n n)
    (hrun:∀ {D env a w},At R i D env a w→(execOp a.eval o).run P w = .ok (.value (.slice (some ⟨w.heap.size,0,none⟩) n n)) (w.alloc (.cells ow.c0.toArray ow.T (0,0)))) (hn:noF R i=true:=by rfl) (hnt:noTh R i=true:=by rfl):SR P Q R i:=by
  intro hR hds o' ho' D a w hI hi hp hq K hK
  obtain rfl:o=o':=Option.some.inj (ho.symm.trans ho')
  obtain ⟨env,hJ⟩:=hI
  rw [if_pos (wanted_none hg _)]
  unfold Oper.wp
  rw [hrun ⟨hJ,hp,hq,hi,hR,hds⟩]
  refine hK _ _ ⟨_,J.mk_ hR hJ ho hi hq m hm hal hnt (v:=.slice (some ⟨w.heap.size,0,none⟩) n n) rfl (fun w''=>⟨fun V' hV'=>?_,fun p hp he=>?_⟩)⟩
  · rw [hV] at hV'
    obtain rfl:=Option.some.inj hV'
    have e:restr (R.cl.getD i []) (upd env i (.slice (some ⟨w.heap.size,0,none⟩) n n)) i = .slice (some ⟨w.heap.size,0,none⟩) n n:=by
      unfold restr upd
      rw [if_pos (List.contains_iff_mem.2 (cl_self hR ho)),if_pos rfl]
    simp only [pb,e,ptrB]
  · have:=List.all_eq_true.1 hn p hp
    rw [he] at this
    simp at this
theorem At.thO {D:Nat→Bool} {env:Env} {a:Act} {w:World} (h:At R i D env a w) (hth:(match R.th with | none=>true | some (k,_)=>(R.cl.getD k []).contains i)=true):R.Θ w:=by
  have h1:=h.j.st.nowT
  unfold Reg.tht at h1
  cases ht:R.th with
  | none=>rw [ht] at h1;exact h1
  | some p =>
    obtain ⟨k,T⟩:=p
    rw [ht] at h1 hth
    simp only at h1
    by_cases hD:D k=true
    · exact absurd (List.contains_iff_mem.1 hth) (h.q k hD)
    · rw [if_neg hD] at h1;exact h1
theorem endM_mem {env:Env} (hO:ownIn R R.ops.size=true) (m:Nat):mem (endM R env) m=R.mem (allD R.ops.size) env m:=by
  unfold mem endM Reg.mem
  rw [List.getElem?_map]
  cases hm:R.O[m]? with
  | none=>rfl
  | some o =>
    have h1:=List.all_eq_true.1 hO o (List.mem_of_getElem? hm)
    simp only [Bool.and_eq_true] at h1
    have hon:o.on (allD R.ops.size)=true:=by
      unfold Own.on
      cases ha:o.al with
      | none=>rfl
      | some i=>rw [ha] at h1;exact h1.1
    have hcs:o.cs R.cl (allD R.ops.size) env=(match o.st with | none=>o.c0 | some s=>o.c1 (restr (R.cl.getD s []) env)):=by
      unfold Own.cs
      cases hs:o.st with
      | none=>rfl
      | some s =>
        have h2:allD R.ops.size s=true:=by rw [hs] at h1;exact h1.2
        simp only [h2,if_true]
    simp only [Option.map_some,hon,if_true,hcs] <;> (cases o.st <;> rfl)
theorem End.curF {env:Env} {a:Act} {w:World} (h:End R env a w) {L:Slots} {M:List Ent} (hL:L.map (fun e=>slotEnd R env e.1)=L.map (fun e=>some e.2)) (hM:endM R env=M) (hO:ownIn R R.ops.size=true) {T:World→Prop} (hT:∀ w,R.tht (allD R.ops.size) env w→T w)
    {L0 L1:List (World→Prop)} (hΨ:R.Ψ=Facts L0) (hF:(R.F.all fun p=>Nat.blt p.1 R.ops.size)=true) (hL1:L0 ++ R.F.map (fun p=>p.2 (restr (R.cl.getD p.1 []) env))=L1):Cur R.n R.w0 R.row R.ex (Facts L1) T L M a w:=by
  have hc:=h.cur hL hM hO hT
  have hst:=h.j.st
  have hall:∀ p∈R.F,allD R.ops.size p.1=true:=fun p hp=>List.all_eq_true.1 hF p hp
  refine ⟨hc.sz,hc.df,?_,hc.sl⟩
  have hsame:=hc.st
  have hmem:∀ m,mem M m=R.mem (allD R.ops.size) env m:=fun m=>by rw [← hM];exact endM_mem hO m
  refine ⟨hsame.gr,hsame.nod,hsame.own,hsame.exb,fun w' hw φ hφ=>?_,hsame.the⟩
  have hw':Apart (R.mem (allD R.ops.size) env) R.ex w w':=by
    have e:mem M=R.mem (allD R.ops.size) env:=funext hmem
    rw [← e];exact hw
  have h2:=hst.psi w' hw'
  rw [← hL1,List.mem_append] at hφ
  rcases hφ with hφ | hφ
  · rw [hΨ] at h2;exact h2.1 φ hφ
  · obtain ⟨p,hp,rfl⟩:=List.mem_map.1 hφ
    exact (h2.2 p.1 (hall p hp)).2 p hp rfl
end
theorem St.dropM {w0 w:World} {row ex:Option Nat} {M M':Mem} {Ψ Θ:World→Prop} (h:St w0 row ex w M Ψ Θ) (k:Nat→Nat) (hinj:∀ m m',m≠m'→M' m≠none→M' m'≠none→k m≠k m') (hk:∀ m e,M' m=some e→M (k m)=some e):St w0 row ex w M' Ψ Θ:=by
 have ap:∀ {ex':Option Nat} {w':World},Apart M' ex' w w'→Apart M ex' w w':=fun ⟨h1,h2⟩=>⟨h1,fun k' hk' hM hx=>h2 k' hk' (fun m e hm=>hM (k m) e (hk m e hm)) hx⟩
 exact ⟨h.gr,fun m m' e e' hm hm' hne=>h.nod (k m) (k m') e e' (hk m e hm) (hk m' e' hm') (hinj m m' hne (by rw [hm];simp) (by rw [hm'];simp)),fun m e hm=>h.own (k m) e (hk m e hm),fun g hg=>⟨(h.exb g hg).1,fun m e hm=>(h.exb g hg).2.1 (k m) e (hk m e hm),(h.exb g hg).2.2⟩,fun w' hw=>h.psi w' (ap hw),fun w' hw=>h.the w' (ap hw)⟩
theorem Cur.take {n:Nat} {w0:World} {row ex:Option Nat} {Ψ Θ:World→Prop} {L:Slots} {M M1:List Ent} {a:Act} {w:World} (h:Cur n w0 row ex Ψ Θ L M a w) {M2:List Ent} (hM:M=M1 ++ M2):Cur n w0 row ex Ψ Θ L M1 a w:=
  ⟨h.sz,h.df,h.st.dropM (M':=mem M1) (fun m=>m) (fun _ _ h _ _=>h) (fun m e hm=>by
    subst hM
    unfold mem at *
    rw [List.getElem?_append_left (List.getElem?_eq_some_iff.1 hm).1];exact hm),h.sl⟩
theorem Cur.facts {n:Nat} {w0:World} {row ex:Option Nat} {Ψ Θ:World→Prop} {L:Slots} {M:List Ent} {a:Act} {w:World} (h:Cur n w0 row ex Ψ Θ L M a w):Cur n w0 row ex (Facts []) Θ L M a w:=⟨h.sz,h.df,h.st.mono (fun _ _ φ hφ=>by cases hφ) (fun _ h=>h),h.sl⟩
end Go.Proofs.YtailjojebdmnnaaGreat
namespace Go.Proofs.YtailjojebdmnnaaGreat
def nat:List Int→Int
  | []=>0
  | d :: r=>d+65536*nat r
def Rg (ds:List Int):Prop:=∀ d∈ds,0≤d∧d < 65536
def digsN (n:Nat):List Int:=if h:n=0 then [] else ((n % 65536:Nat):Int) :: digsN (n / 65536)
termination_by n
decreasing_by omega
def digs (z:Int):List Int:=digsN z.natAbs
theorem Rg.nil:Rg []:=fun d h=>by cases h
theorem Rg.cons {d:Int} {r:List Int}:Rg (d :: r)↔(0≤d∧d < 65536)∧Rg r:=by
 unfold Rg;simp
theorem Rg.append {a b:List Int}:Rg (a ++ b)↔Rg a∧Rg b:=by
  unfold Rg
  constructor
  · exact fun h=>⟨fun d hd=>h d (List.mem_append.2 (.inl hd)),fun d hd=>h d (List.mem_append.2 (.inr hd))⟩
  · rintro ⟨h1,h2⟩ d hd
    rcases List.mem_append.1 hd with h | h
    · exact h1 d h
    · exact h2 d h
theorem Rg.take {a:List Int} (h:Rg a) (n:Nat):Rg (a.take n):=fun d hd=>h d (List.mem_of_mem_take hd)
theorem Rg.getD {a:List Int} (h:Rg a) (n:Nat):0≤a.getD n 0∧a.getD n 0 < 65536:=by
  rw [List.getD_eq_getElem?_getD]
  cases hn:a[n]? with
  | none=>simp
  | some d=>exact h d (List.mem_of_getElem? hn)
theorem Rg.set {a:List Int} (h:Rg a) (n:Nat) {d:Int} (hd:0≤d∧d < 65536):Rg (a.set n d):=fun x hx=>by
  rcases List.mem_or_eq_of_mem_set hx with h1 | h1
  · exact h x h1
  · subst h1;exact hd
theorem nat_nonneg {ds:List Int} (h:Rg ds):0≤nat ds:=by
  induction ds with
  | nil=>exact Int.le_refl _
  | cons d r ih =>
    have:=Rg.cons.1 h
    have:=ih this.2
    simp only [nat];omega
theorem nat_lt {ds:List Int} (h:Rg ds):nat ds < 65536 ^ ds.length:=by
  induction ds with
  | nil=>simp [nat]
  | cons d r ih =>
    have h1:=Rg.cons.1 h
    have h2:=ih h1.2
    simp only [nat,List.length_cons,Int.pow_succ]
    omega
theorem nat_append (a b:List Int):nat (a ++ b)=nat a+65536 ^ a.length*nat b:=by
  induction a with
  | nil=>simp [nat]
  | cons d r ih =>
    simp only [List.cons_append,nat,ih,List.length_cons,Int.pow_succ]
    rw [Int.mul_add,Int.mul_comm (65536 ^ r.length) 65536,Int.mul_assoc]
    omega
theorem nat_take_succ (ds:List Int) {i:Nat} (hi:i < ds.length):nat (ds.take (i+1))=nat (ds.take i)+65536 ^ i*ds.getD i 0:=by
 rw [List.take_add_one,List.getElem?_eq_getElem hi,nat_append]
 have:(ds.take i).length=i:=by simp;omega
 simp [this,nat,List.getD_eq_getElem?_getD,List.getElem?_eq_getElem hi]
theorem nat_take_all (ds:List Int) {i:Nat} (hi:ds.length≤i):nat (ds.take i)=nat ds:=by rw [List.take_of_length_le hi]
theorem nat_split (ds:List Int) (i:Nat):nat ds=nat (ds.take i)+65536 ^ (ds.take i).length*nat (ds.drop i):=by
 rw [← nat_append,List.take_append_drop]
theorem nat_replicate (n:Nat):nat (List.replicate n 0)=0:=by
  induction n with
  | zero=>rfl
  | succ n ih=>simp [List.replicate_succ,nat,ih]
theorem nat_set {ds:List Int} {i:Nat} (hi:i < ds.length) (d:Int):nat (ds.set i d)=nat ds+65536 ^ i*(d-ds.getD i 0):=by
  induction ds generalizing i with
  | nil=>simp at hi
  | cons x r ih =>
    cases i with
    | zero=>simp [nat];omega
    | succ i =>
      have:=ih (i:=i) (by simpa using hi)
      simp only [List.set_cons_succ,nat,this,Int.pow_succ,List.getD_cons_succ]
      rw [Int.mul_add,← Int.mul_assoc,Int.mul_comm 65536 (65536 ^ i)]
      omega
def Can:List Int→Prop
  | []=>True
  | [d]=>d≠0
  | _ :: r=>Can r
theorem can_snoc (l:List Int) (d:Int):Can (l ++ [d])↔d≠0:=by
  induction l with
  | nil=>simp [Can]
  | cons x r ih =>
    cases r with
    | nil=>simp [Can]
    | cons y s=>simpa [Can] using ih
theorem nat_zero_can {l:List Int} (h:Rg l) (hc:Can l) (h0:nat l=0):l=[]:=by
  induction l with
  | nil=>rfl
  | cons d r ih =>
    exfalso
    have h1:=Rg.cons.1 h
    have h2:=nat_nonneg h1.2
    simp only [nat] at h0
    cases r with
    | nil=>simp [Can] at hc;simp [nat] at h0;omega
    | cons y s =>
      have:=ih h1.2 hc (by omega)
      cases this
theorem digs_zero:digs 0=[]:=by unfold digs;rw [digsN];rfl
theorem digs_nat {l:List Int} (h:Rg l) (hc:Can l):digs (nat l)=l:=by
  induction l with
  | nil=>exact digs_zero
  | cons d r ih =>
    have h1:=Rg.cons.1 h
    have h2:=nat_nonneg h1.2
    have hcr:Can r:=by cases r with
      | nil=>trivial
      | cons y s=>exact hc
    have h0:nat (d :: r)≠0:=fun e=>by have:=nat_zero_can h hc e;cases this
    have h3:=nat_nonneg h
    have ih:=ih h1.2 hcr
    unfold digs at ih ⊢
    rw [digsN,dif_neg (by omega)]
    have e1:(((nat (d :: r)).natAbs % 65536:Nat):Int)=d:=by simp only [nat] at h3 ⊢;omega
    have e2:(nat (d :: r)).natAbs / 65536=(nat r).natAbs:=by simp only [nat] at h3 ⊢;omega
    rw [e1,e2,ih]
theorem digsN_spec (n:Nat):nat (digsN n)=n∧Rg (digsN n)∧Can (digsN n):=by
  induction n using Nat.strongRecOn with
  | _ n ih =>
    rw [digsN]
    by_cases hn:n=0
    · rw [dif_pos hn];subst hn;exact ⟨rfl,Rg.nil,trivial⟩
    · rw [dif_neg hn]
      obtain ⟨h1,h2,h3⟩:=ih (n / 65536) (by omega)
      refine ⟨by simp only [nat,h1];omega,Rg.cons.2 ⟨by omega,h2⟩,?_⟩
      cases hr:digsN (n / 65536) with
      | nil =>
        rw [hr] at h1;simp [nat] at h1
        show ((n % 65536:Nat):Int)≠0
        omega
      | cons y s=>rw [hr] at h3;exact h3
theorem nat_digs (z:Int):nat (digs z)=(z.natAbs:Int):=(digsN_spec _).1
theorem nat_digs' {z:Int} (h:0≤z):nat (digs z)=z:=by rw [nat_digs];omega
theorem rg_digs (z:Int):Rg (digs z):=(digsN_spec _).2.1
theorem can_digs (z:Int):Can (digs z):=(digsN_spec _).2.2
theorem digs_natAbs (z:Int):digs (z.natAbs:Int)=digs z:=by unfold digs;rw [Int.natAbs_natCast]
theorem digs_neg (z:Int):digs (-z)=digs z:=by unfold digs;rw [Int.natAbs_neg]
theorem digs_nil {z:Int}:(digs z).length=0↔z=0:=by
  constructor
  · intro h
    have h1:=nat_digs z
    rw [List.length_eq_zero_iff.1 h] at h1
    simp [nat] at h1;omega
  · rintro rfl;simp [digs_zero]
theorem pow_le_of_can {l:List Int} (h:Rg l) (hc:Can l) (h0:l≠[]):65536 ^ (l.length-1)≤nat l:=by
  induction l with
  | nil=>exact absurd rfl h0
  | cons d r ih =>
    have h1:=Rg.cons.1 h
    cases r with
    | nil=>simp [Can] at hc;simp [nat];omega
    | cons y s =>
      have:=ih h1.2 hc (by simp)
      simp only [List.length_cons,Nat.add_sub_cancel] at this ⊢
      simp only [nat,Int.pow_succ] at this ⊢
      omega
theorem pow_mono {m n:Nat} (h:m≤n):(65536:Int) ^ m≤65536 ^ n:=by
 obtain ⟨k,rfl⟩:=Nat.exists_eq_add_of_le h
 have h1:(0:Int) < 65536 ^ m:=Int.pow_pos (by decide)
 have h2:(0:Int) < 65536 ^ k:=Int.pow_pos (by decide)
 rw [Int.pow_add]
 have:=Int.mul_le_mul_of_nonneg_left (show (1:Int)≤65536 ^ k by omega) (Int.le_of_lt h1)
 omega
theorem digs_len_le {z:Int} {n:Nat} (h:(z.natAbs:Int) < 65536 ^ n):(digs z).length≤n:=by
  rcases Nat.lt_or_ge n (digs z).length with hl | hl
  · exfalso
    have h1:=pow_le_of_can (rg_digs z) (can_digs z) (by intro e;rw [e] at hl;exact Nat.not_lt_zero _ hl)
    rw [nat_digs] at h1
    have h3:=pow_mono (show n≤(digs z).length-1 by omega)
    omega
  · exact hl
theorem digs_lt (z:Int):(z.natAbs:Int) < 65536 ^ (digs z).length:=by rw [← nat_digs];exact nat_lt (rg_digs z)
theorem digs_len_lt {x y:Int} (h:(digs x).length < (digs y).length):x.natAbs < y.natAbs:=by
  rcases Nat.lt_or_ge x.natAbs y.natAbs with h1 | h1
  · exact h1
  · have:=digs_len_le (z:=y) (n:=(digs x).length) (by have:=digs_lt x;omega)
    omega
def trimN (ds:List Int):Nat→Nat
  | 0=>0
  | n+1=>if ds.getD n 0=0 then trimN ds n else n+1
theorem trimN_le (ds:List Int):∀ n,trimN ds n≤n
  | 0=>Nat.le_refl _
  | n+1=>by have:=trimN_le ds n;unfold trimN;split <;> omega
theorem trimN_spec (ds:List Int):∀ n,n≤ds.length→nat (ds.take (trimN ds n))=nat (ds.take n)∧Can (ds.take (trimN ds n))
  | 0,_=>⟨rfl,by simp [trimN,Can]⟩
  | n+1,h=>by
    have ih:=trimN_spec ds n (by omega)
    unfold trimN
    split
    · rename_i h0
      rw [nat_take_succ ds (by omega),h0]
      exact ⟨by rw [ih.1];omega,ih.2⟩
    · rename_i h0
      refine ⟨rfl,?_⟩
      rw [List.take_add_one,List.getElem?_eq_getElem (by omega)]
      rw [List.getD_eq_getElem?_getD,List.getElem?_eq_getElem (by omega)] at h0
      exact (can_snoc _ _).2 h0
theorem digs_take {ds:List Int} (h:Rg ds):digs (nat ds)=ds.take (trimN ds ds.length):=by
 have h1:=trimN_spec ds ds.length (Nat.le_refl _)
 rw [List.take_length] at h1
 rw [← h1.1]
 exact digs_nat (h.take _) h1.2
theorem trim_len {ds:List Int} (h:Rg ds):trimN ds ds.length=(digs (nat ds)).length:=by
 rw [digs_take h,List.length_take]
 have:=trimN_le ds ds.length
 omega
theorem digs_take' {ds:List Int} (h:Rg ds):ds.take (digs (nat ds)).length=digs (nat ds):=by rw [← trim_len h,digs_take h]
theorem digs_len_nat {ds:List Int} (h:Rg ds):(digs (nat ds)).length≤ds.length:=by rw [← trim_len h];exact trimN_le _ _
def cmpZ (x y:Int):Int:=if x < y then -1 else if y < x then 1 else 0
theorem nat_drop_lt {xs ys:List Int} (hx:Rg xs) (hy:Rg ys) (hl:xs.length=ys.length) {i:Nat} (hi:i < xs.length) (h:xs.drop (i+1)=ys.drop (i+1)) (hlt:xs.getD i 0 < ys.getD i 0):nat xs < nat ys:=by
 rw [nat_split xs (i+1),nat_split ys (i+1),h]
 have e1:(xs.take (i+1)).length=i+1:=by simp;omega
 have e2:(ys.take (i+1)).length=i+1:=by simp;omega
 rw [e1,e2,nat_take_succ xs hi,nat_take_succ ys (by omega)]
 have h1:=nat_lt (hx.take i)
 have h2:=nat_nonneg (hy.take i)
 have e3:(xs.take i).length=i:=by simp;omega
 rw [e3] at h1
 have h3:(65536:Int) ^ i*(xs.getD i 0+1)≤65536 ^ i*ys.getD i 0:=Int.mul_le_mul_of_nonneg_left (by omega) (Int.pow_nonneg (by decide))
 rw [Int.mul_add,Int.mul_one] at h3
 omega
theorem cmp_len_lt {x y:Int} (hx:0≤x) (hy:0≤y) (h:(digs x).length < (digs y).length):cmpZ x y = -1:=by
 have:=digs_len_lt h
 unfold cmpZ;rw [if_pos (by omega)]
theorem cmp_len_gt {x y:Int} (hx:0≤x) (hy:0≤y) (h:(digs y).length < (digs x).length):cmpZ x y=1:=by
 have:=digs_len_lt h
 unfold cmpZ;rw [if_neg (by omega),if_pos (by omega)]
theorem dcmp_lt {x y:Int} (hx:0≤x) (hy:0≤y) (hl:(digs x).length=(digs y).length) {i:Nat} (hi:i < (digs x).length) (h:(digs x).drop (i+1)=(digs y).drop (i+1)) (hlt:(digs x).getD i 0 < (digs y).getD i 0):cmpZ x y = -1:=by
 have:=nat_drop_lt (rg_digs x) (rg_digs y) hl hi h hlt
 rw [nat_digs' hx,nat_digs' hy] at this
 unfold cmpZ;rw [if_pos (by omega)]
theorem cmp_gt {x y:Int} (hx:0≤x) (hy:0≤y) (hl:(digs x).length=(digs y).length) {i:Nat} (hi:i < (digs x).length) (h:(digs x).drop (i+1)=(digs y).drop (i+1)) (hlt:(digs y).getD i 0 < (digs x).getD i 0):cmpZ x y=1:=by
 have:=nat_drop_lt (rg_digs y) (rg_digs x) hl.symm (by omega) h.symm hlt
 rw [nat_digs' hx,nat_digs' hy] at this
 unfold cmpZ;rw [if_neg (by omega),if_pos (by omega)]
theorem cmp_eq {x y:Int} (hx:0≤x) (hy:0≤y) (h:digs x=digs y):cmpZ x y=0:=by
 have h1:=nat_digs' hx
 have h2:=nat_digs' hy
 rw [h] at h1
 unfold cmpZ;rw [if_neg (by omega),if_neg (by omega)]
theorem drop_step {xs ys:List Int} (hl:xs.length=ys.length) {i:Nat} (h:xs.drop (i+1)=ys.drop (i+1)) (he:xs.getD i 0=ys.getD i 0):xs.drop i=ys.drop i:=by
  rcases Nat.lt_or_ge i xs.length with hi | hi
  · rw [List.drop_eq_getElem_cons hi,List.drop_eq_getElem_cons (show i < ys.length by omega),h]
    simp only [List.getD_eq_getElem?_getD,List.getElem?_eq_getElem hi,List.getElem?_eq_getElem (show i < ys.length by omega)] at he
    simp only [Option.getD_some] at he
    rw [he]
  · rw [List.drop_eq_nil_of_le hi,List.drop_eq_nil_of_le (by omega)]
theorem nat_take_succ' (ds:List Int) (i:Nat):nat (ds.take (i+1))=nat (ds.take i)+65536 ^ i*ds.getD i 0:=by
  rcases Nat.lt_or_ge i ds.length with hi | hi
  · exact nat_take_succ ds hi
  · rw [List.take_of_length_le (show ds.length≤i+1 by omega),List.take_of_length_le hi,List.getD_eq_getElem?_getD,List.getElem?_eq_none hi]
    simp
theorem nat_snoc (ds:List Int) {i:Nat} (hl:ds.length=i) (d:Int):nat (ds ++ [d])=nat ds+65536 ^ i*d:=by
 rw [nat_append,hl];simp [nat]
theorem rg_snoc {ds:List Int} (h:Rg ds) {d:Int} (h0:0≤d) (h1:d < 65536):Rg (ds ++ [d]):=Rg.append.2 ⟨h,Rg.cons.2 ⟨⟨h0,h1⟩,Rg.nil⟩⟩
structure AddI (xs ys ds:List Int) (i:Nat) (cy:Int):Prop where
 l:ds.length=i
 g:Rg ds
 h0:0≤cy
 h1:cy≤1
 s:nat ds+65536 ^ i*cy=nat (xs.take i)+nat (ys.take i)
theorem AddI.start (xs ys:List Int):AddI xs ys [] 0 0:=⟨rfl,Rg.nil,by omega,by omega,by simp [nat]⟩
theorem AddI.step {xs ys ds:List Int} {i:Nat} {cy c:Int} (h:AddI xs ys ds i cy) (hx:Rg xs) (hy:Rg ys) (hc:c=cy+xs.getD i 0+ys.getD i 0):AddI xs ys (ds ++ [c % 65536]) (i+1) (c / 65536):=by
  obtain ⟨hl,hg,h0,h1,hs⟩:=h
  have a:=hx.getD i
  have b:=hy.getD i
  refine ⟨by simp [hl],rg_snoc hg (by omega) (by omega),by omega,by omega,?_⟩
  rw [nat_snoc ds hl,nat_take_succ',nat_take_succ',Int.pow_succ]
  have e:c=65536*(c / 65536)+c % 65536:=by omega
  have e2:(65536:Int) ^ i*c=65536 ^ i*65536*(c / 65536)+65536 ^ i*(c % 65536):=by
    rw [Int.mul_assoc,← Int.mul_add,← e]
  have e3:(65536:Int) ^ i*c=65536 ^ i*cy+65536 ^ i*xs.getD i 0+65536 ^ i*ys.getD i 0:=by rw [hc,Int.mul_add,Int.mul_add]
  omega
theorem AddI.done {xs ys ds:List Int} {i:Nat} (h:AddI xs ys ds i 0) (hx:xs.length≤i) (hy:ys.length≤i):nat ds=nat xs+nat ys:=by
 have:=h.s
 rw [nat_take_all xs hx,nat_take_all ys hy] at this
 omega
structure SubI (xs ys ds:List Int) (i:Nat) (cy:Int):Prop where
 l:ds.length=i
 g:Rg ds
 h0:0≤cy
 h1:cy≤1
 s:nat ds+nat (ys.take i)=nat (xs.take i)+65536 ^ i*cy
theorem SubI.start (xs ys:List Int):SubI xs ys [] 0 0:=⟨rfl,Rg.nil,by omega,by omega,by simp [nat]⟩
theorem SubI.step {xs ys ds:List Int} {i:Nat} {cy n:Int} (h:SubI xs ys ds i cy) (hx:Rg xs) (hy:Rg ys) (hc:n=xs.getD i 0-cy-ys.getD i 0):(0≤n→SubI xs ys (ds ++ [n]) (i+1) 0)∧(n < 0→SubI xs ys (ds ++ [n+65536]) (i+1) 1):=by
  obtain ⟨hl,hg,h0,h1,hs⟩:=h
  have a:=hx.getD i
  have b:=hy.getD i
  have e3:(65536:Int) ^ i*n=65536 ^ i*xs.getD i 0-65536 ^ i*cy-65536 ^ i*ys.getD i 0:=by rw [hc,Int.mul_sub,Int.mul_sub]
  constructor
  · intro hn
    refine ⟨by simp [hl],rg_snoc hg (by omega) (by omega),by omega,by omega,?_⟩
    rw [nat_snoc ds hl,nat_take_succ',nat_take_succ']
    omega
  · intro hn
    refine ⟨by simp [hl],rg_snoc hg (by omega) (by omega),by omega,by omega,?_⟩
    rw [nat_snoc ds hl,nat_take_succ',nat_take_succ',Int.pow_succ,Int.mul_add]
    omega
theorem SubI.done {xs ys ds:List Int} {i:Nat} {cy:Int} (h:SubI xs ys ds i cy) (hx:xs.length≤i) (hy:ys.length≤i) (hle:nat ys≤nat xs):nat ds=nat xs-nat ys:=by
  have h2:=h.s
  rw [nat_take_all xs hx,nat_take_all ys hy] at h2
  have h3:=nat_lt h.g
  rw [h.l] at h3
  have h4:=h.h0
  have h5:=h.h1
  have:cy=0:=by
    rcases (show cy=0∨cy=1 by omega) with h | h
    · exact h
    · subst h;omega
  subst this
  omega
theorem getD_out {ds:List Int} {i:Nat} (h:ds.length≤i):ds.getD i 0=0:=by rw [List.getD_eq_getElem?_getD,List.getElem?_eq_none h];rfl
theorem digs_mono {x y:Int} (hx:0≤x) (h:x≤y):(digs x).length≤(digs y).length:=by
  rcases Nat.lt_or_ge (digs y).length (digs x).length with h1 | h1
  · have:=digs_len_lt h1;omega
  · exact h1
end Go.Proofs.YtailjojebdmnnaaGreat
namespace Go.Proofs.YtailjojebdmnnaaGreat
open Go.RowKit
abbrev rS (z:Int) (A:Option Addr) (c:Nat):Value:=.slice A (digs z).length c
section
variable {P:Program} {Q:Exit→Act→World→Prop} {R:Reg} {i:Nat} {o:Oper}
theorem cf_ {f:FuncId} {fn:Func} {ps:Array Operand} {ts:Array TypeId} (hfn:P.funcs[f]? = some fn) (φ:Value→World→Prop) (form:Value→Value) (ho:R.ops[i]? = some o:=by rfl) (hf:free' R i=true:=by rfl) (hop:o.op = .call { callee:=.value (.func f),args:=ps,argTypes:=ts }:=by rfl) (hname:(fn.name == "runtime.NumGoroutine")=false:=by kernel_rfl) (hb:fn.body.isSome=true:=by rfl) (hw:∀ D env a w,At R i D env a w→Region.wanted o (yielded R.ops a.tmps)=true:=by intro D env a w hA;first | exact wanted_none rfl _ | exact hA.gy rfl rfl rfl) (hV:R.v? i=some (fun env=>form (env i)):=by rfl) (hF:R.F.filter (fun p=>Nat.beq p.1 i)=[(i,fun env w=>φ (env i) w)]:=by rfl) (hint:intFree R=true:=by rfl)
    (hφ:∀ v w,φ v w→v=form v:=by intro v w h;exact h.form) (hst:∀ v w w',Keep R.ex w w'→φ v w→φ v w':=by intro v w w' hk h;exact h.keep hk) (h:∀ D env a w,At R i D env a w→∃ vs:List Value,(Calls P f vs.toArray w fun e w'=>∃ v,e = .returned v∧Below w.heap.size w w'∧φ v w')∧ps.toList.map (opAt R i env)=vs.map some):SR P Q R i:=
  s_fact ho hf hop hfn hname hb (fun hA=>hw _ _ _ _ hA) φ form hV hF hint hφ hst (fun {D env a w} hA=>by
    obtain ⟨vs,h1,h2⟩:=h D env a w hA
    exact ⟨vs.toArray,hA.args h2,h1⟩)
theorem ln_ {x:Operand} {T E:TypeId} (hT:Tryz.prog.underlying T=some (.slice E)) {n k:Nat} {f:Nat→Value} {s:Env→Value} (hs:∀ D env a w,At R i D env a w→Els w (s env) n k f) (ho:R.ops[i]? = some o:=by rfl) (hf:free' R i=true:=by rfl) (hop:o.op = .call { callee:=.builtin .len,args:=#[x],argTypes:=#[T] }:=by rfl) (hw:∀ D env a w,At R i D env a w→Region.wanted o (yielded R.ops a.tmps)=true:=by intro D env a w hA;first | exact wanted_none rfl _ | exact hA.gy rfl rfl rfl) (hV:R.v? i=some (fun _=>vI (n:Int)):=by rfl) (hx:∀ env,opAt R i env x=some (s env):=by intro _;rfl) (hn:noF R i=true:=by rfl):SR Tryz.prog Q R i:=s_len ho hf hop hT (fun hA=>hw _ _ _ _ hA) hV hx (fun hA=>hs _ _ _ _ hA) hn
theorem ia_ {T E:TypeId} {x ix:Operand} (hT:Tryz.prog.underlying T=some (.slice E)) {k:Nat} (hE:(Tryz.prog.info? E).map (·.size)=some k) (j q:Nat) (z:Int) {n:Nat} {f:Nat→Value} {s:Env→Value} (hs:∀ D env a w,At R i D env a w→Els w (s env) n k f) (hz:z=(j:Int)) (hj:j < n) (hq:j*k=q) (ho:R.ops[i]? = some o:=by rfl) (hf:free' R i=true:=by rfl) (hop:o.op = .indexAddr T x ix:=by rfl) (hw:∀ D env a w,At R i D env a w→Region.wanted o (yielded R.ops a.tmps)=true:=by intro D env a w hA;first | exact wanted_none rfl _ | exact hA.gy rfl rfl rfl) (hV:R.v? i=some (fun env=>elt (s env) q):=by rfl) (hx:∀ env,opAt R i env x=some (s env):=by intro _;rfl) (hix:∀ env,opAt R i env ix=some (vI z):=by intro _;rfl) (hn:noF R i=true:=by rfl) (hr:∀ env x,s (restr (R.cl.getD i []) (upd env i x))=s env:=by intros;rfl):SR Tryz.prog Q R i:=
 s_ia ho hf hop (fun hA=>hw _ _ _ _ hA) hT hE j q hq hV hx z hix hz (fun hA=>hs _ _ _ _ hA) hj hn hr
theorem le_ {T:TypeId} {x:Operand} (q:Nat) {n k m:Nat} {f:Nat→Value} {s:Env→Value} {v:Value} (hs:∀ D env a w,At R i D env a w→Els w (s env) n k f) (hq:q+m≤n*k) (hrd:∀ (b off:Nat) (w:World),(∀ p,p < m→w.cell? ⟨b,off+p,none⟩=some (f (q+p)))→(Instr.loadAt T (.pointer (some ⟨b,off,none⟩))).run Tryz.prog w = .ok v w) (ho:R.ops[i]? = some o:=by rfl) (hf:free' R i=true:=by rfl) (hop:o.op = .load T x:=by rfl) (hw:∀ D env a w,At R i D env a w→Region.wanted o (yielded R.ops a.tmps)=true:=by intro D env a w hA;first | exact wanted_none rfl _ | exact hA.gy rfl rfl rfl) (hV:R.v? i=some (fun _=>v):=by rfl) (hx:∀ env,opAt R i env x=some (elt (s env) q):=by intro _;rfl) (hm:0 < m:=by exact Nat.le_of_ble_eq_true rfl) (hn:noF R i=true:=by rfl):SR Tryz.prog Q R i:=
 s_ld ho hf hop (fun hA=>hw _ _ _ _ hA) q hV hx (fun hA=>hs _ _ _ _ hA) hq hrd hm hn
end
end Go.Proofs.YtailjojebdmnnaaGreat
namespace Go.Proofs.YtailjojebdmnnaaGreat
open Go.RowKit
def addF (env:Env) (L0:List (World→Prop)):List (Nat × (Env→World→Prop))→List (World→Prop)
  | []=>L0
  | p :: F=>L0 ++ (p :: F).map fun p=>p.2 env
theorem End.curN2 {R:Reg} {env:Env} {a:Act} {w:World} {L0 L1:List (World→Prop)} (h:End R env a w) {N:Slots} {M:List Ent} (hN:N.map (fun e=>slotEnd R env e.1)=N.map (fun e=>some e.2)) (hK:shOk N R.L R.ds=true) (hM:endM R env=M) (hO:ownIn R R.ops.size=true) {T:World→Prop} (hT:∀ w,R.tht (allD R.ops.size) env w→T w) (hF:(R.F.all fun p=>Nat.blt p.1 R.ops.size)=true) (hL1:L0 ++ R.F.map (fun p=>p.2 (restr (R.cl.getD p.1 []) env))=L1) (hΨ:R.Ψ=Facts L0:=by rfl):Cur R.n R.w0 R.row R.ex (Facts L1) T (N ++ R.L) M a w:=
 have h0:=h.curF (L:=[]) (M:=M) rfl hM hO hT hΨ hF hL1
 ⟨h0.sz,h0.df,h0.st,fun _ _ ht=>h.lkN hN hK ht⟩
theorem fq {G:Prop} {Q:Exit→Act→World→Prop} {ops:Array Oper} {id n:Nat} {draw:Bool} {w0:World} {row ex:Option Nat} {L0:List (World→Prop)} {Θ:World→Prop} {L:Slots} {M:List Ent} {a:Act} {w:World} (h:Cur n w0 row ex (Facts L0) Θ L M a w) (n1:Nat) (cl:List (List Nat)) (V:List (Option (Env→Value))) (N:Env→Slots)
    (nav:(Code.region id ops draw).wp Tryz.prog Q a w→G:=by intro nv;with_reducible repeat (first | exact nv | refine then_n ?_ | refine wp_seq ?_ | refine wp_block ?_ | refine blk_n ?_ | refine sc_n ?_ | refine wp_skip ?_ | refine wp_scope_straight ?_ | refine wp_label ?_ | refine wp_ret ?_ | refine then_ret ?_ | refine blk_ret ?_ | refine sc_r ?_ | refine wp_exit ?_ | refine then_e ?_ | refine blk_x ?_ | refine blk_e rfl ?_ | refine sc_x ?_)) (S:List Sto:=[]) (W:List New:=[]) (F:List (Nat × (Env→World→Prop)):=[]) (th:Option (Nat × (Env→World→Prop)):=none) (T:Env→World→Prop:=fun _=>Θ) (M':Env→List Ent:=fun env=>aM env W M S) (s:Steps (SR Tryz.prog Q ⟨ops,ops.toList.map (·.dst),cl,S,W,V,F,n,a,L,M,w0,row,ex,Facts L0,Θ,th⟩) n1 0)
    (k:∀ (env:Env) a' w',Cur n w0 row ex (Facts (addF env L0 F)) (T env) (N env ++ L) (M' env) a' w'→Q .normal a' w') (hR:regOk ⟨ops,ops.toList.map (·.dst),cl,S,W,V,F,n,a,L,M,w0,row,ex,Facts L0,Θ,th⟩=true:=by kernel_rfl) (hsz:ops.size=n1+1:=by rfl) (hN:∀ env,(N env).map (fun e=>slotEnd ⟨ops,ops.toList.map (·.dst),cl,S,W,V,F,n,a,L,M,w0,row,ex,Facts L0,Θ,th⟩ env e.1)=(N env).map (fun e=>some e.2):=by intro _;rfl) (hK:∀ env:Env,shOk (N env) L (ops.toList.map (·.dst))=true:=by intro _;rfl) (hM:∀ env,endM ⟨ops,ops.toList.map (·.dst),cl,S,W,V,F,n,a,L,M,w0,row,ex,Facts L0,Θ,th⟩ env=(M' env):=by intro _;rfl) (hO:ownIn ⟨ops,ops.toList.map (·.dst),cl,S,W,V,F,n,a,L,M,w0,row,ex,Facts L0,Θ,th⟩ (n1+1)=true:=by rfl) (hT:∀ env w,Reg.tht ⟨ops,ops.toList.map (·.dst),cl,S,W,V,F,n,a,L,M,w0,row,ex,Facts L0,Θ,th⟩ (allD (n1+1)) env w→T env w:=by intro _ _ h;exact h) (hF:(F.all fun p=>Nat.blt p.1 (n1+1))=true:=by rfl) (hL1:∀ env,L0 ++ F.map (fun p=>p.2 (restr (cl.getD p.1 []) env))=addF env L0 F:=by intro _;rfl):G:=by
  refine nav ?_
  obtain ⟨m,hm⟩:∃ m,m=n1+1:=⟨_,rfl⟩
  rw [← hm] at hsz hO hT hF
  subst hsz
  exact reg_cur mixed h _ cl S W V F th rfl hR (fun i hi=>s.get i (Nat.zero_le _) (by omega)) (fun env a' w' hJ=>k env a' w' (hJ.curN2 (hN env) (hK env) (hM env) hO (fun w hw=>hT env w hw) hF (hL1 env)))
theorem fq1 {G:Prop} {Q:Exit→Act→World→Prop} {ops:Array Oper} {id n:Nat} {draw:Bool} {w0:World} {row ex:Option Nat} {L0:List (World→Prop)} {Θ:World→Prop} {L:Slots} {M:List Ent} {a:Act} {w:World} (h:Cur n w0 row ex (Facts L0) Θ L M a w) (n1:Nat) (cl:List (List Nat)) (V:List (Option (Env→Value))) (N:Env→Slots)
    (nav:(Code.region id ops draw).wp Tryz.prog Q a w→G:=by intro nv;with_reducible repeat (first | exact nv | refine then_n ?_ | refine wp_seq ?_ | refine wp_block ?_ | refine blk_n ?_ | refine sc_n ?_ | refine wp_skip ?_ | refine wp_scope_straight ?_ | refine wp_label ?_ | refine wp_ret ?_ | refine then_ret ?_ | refine blk_ret ?_ | refine sc_r ?_ | refine wp_exit ?_ | refine then_e ?_ | refine blk_x ?_ | refine blk_e rfl ?_ | refine sc_x ?_))  (s:Steps (SR Tryz.prog Q ⟨ops,ops.toList.map (·.dst),cl,[],[],V,[],n,a,L,M,w0,row,ex,Facts L0,Θ,none⟩) n1 0)
    (k:∀ (env:Env) a' w',Cur n w0 row ex (Facts L0) Θ (N env ++ L) M a' w'→Q .normal a' w') (hR:regOk ⟨ops,ops.toList.map (·.dst),cl,[],[],V,[],n,a,L,M,w0,row,ex,Facts L0,Θ,none⟩=true:=by kernel_rfl) (hsz:ops.size=n1+1:=by rfl) (hN:∀ env,(N env).map (fun e=>slotEnd ⟨ops,ops.toList.map (·.dst),cl,[],[],V,[],n,a,L,M,w0,row,ex,Facts L0,Θ,none⟩ env e.1)=(N env).map (fun e=>some e.2):=by intro _;rfl) (hK:∀ env:Env,shOk (N env) L (ops.toList.map (·.dst))=true:=by intro _;rfl) (hM:∀ env,endM ⟨ops,ops.toList.map (·.dst),cl,[],[],V,[],n,a,L,M,w0,row,ex,Facts L0,Θ,none⟩ env=M:=by intro _;rfl) (hO:ownIn ⟨ops,ops.toList.map (·.dst),cl,[],[],V,[],n,a,L,M,w0,row,ex,Facts L0,Θ,none⟩ (n1+1)=true:=by rfl)   : G:=fq h n1 cl V N nav (s:=s) (k:=k) (hR:=hR) (hsz:=hsz) (hN:=hN) (hK:=hK) (hM:=hM) (hO:=hO) (hL1:=fun _=>List.append_nil L0)
theorem fq0 {G:Prop} {Q:Exit→Act→World→Prop} {ops:Array Oper} {id n:Nat} {draw:Bool} {w0:World} {row ex:Option Nat} {L0:List (World→Prop)} {Θ:World→Prop} {L:Slots} {M:List Ent} {a:Act} {w:World} (h:Cur n w0 row ex (Facts L0) Θ L M a w) (n1:Nat) (cl:List (List Nat)) (V:List (Option (Env→Value))) 
    (nav:(Code.region id ops draw).wp Tryz.prog Q a w→G:=by intro nv;with_reducible repeat (first | exact nv | refine then_n ?_ | refine wp_seq ?_ | refine wp_block ?_ | refine blk_n ?_ | refine sc_n ?_ | refine wp_skip ?_ | refine wp_scope_straight ?_ | refine wp_label ?_ | refine wp_ret ?_ | refine then_ret ?_ | refine blk_ret ?_ | refine sc_r ?_ | refine wp_exit ?_ | refine then_e ?_ | refine blk_x ?_ | refine blk_e rfl ?_ | refine sc_x ?_))  (s:Steps (SR Tryz.prog Q ⟨ops,ops.toList.map (·.dst),cl,[],[],V,[],n,a,L,M,w0,row,ex,Facts L0,Θ,none⟩) n1 0)
    (k:∀ (env:Env) a' w',Cur n w0 row ex (Facts L0) Θ L M a' w'→Q .normal a' w') (hR:regOk ⟨ops,ops.toList.map (·.dst),cl,[],[],V,[],n,a,L,M,w0,row,ex,Facts L0,Θ,none⟩=true:=by kernel_rfl) (hsz:ops.size=n1+1:=by rfl)  (hK:∀ env:Env,shOk [] L (ops.toList.map (·.dst))=true:=by intro _;rfl) (hM:∀ env,endM ⟨ops,ops.toList.map (·.dst),cl,[],[],V,[],n,a,L,M,w0,row,ex,Facts L0,Θ,none⟩ env=M:=by intro _;rfl) (hO:ownIn ⟨ops,ops.toList.map (·.dst),cl,[],[],V,[],n,a,L,M,w0,row,ex,Facts L0,Θ,none⟩ (n1+1)=true:=by rfl)   : G:=fq1 h n1 cl V (fun _=>[]) nav (s:=s) (k:=k) (hR:=hR) (hsz:=hsz) (hN:=fun _=>rfl) (hK:=hK) (hM:=hM) (hO:=hO)
end Go.Proofs.YtailjojebdmnnaaGreat
namespace Go.Proofs.YtailjojebdmnnaaGreat
open Go.RowKit
attribute [local go_sem] vN bT bF rS vW vM vL vT2 vT3 vP vI execOp Act.eval evC hi_zero lo_zero
theorem Row.le {w:World} {A:Option Addr} {n c:Nat} {ds:List Int} (h:Row w (.slice A n c) ds):ds.length≤140737488351232:=by obtain ⟨_,_,_,_,h,_⟩:=h;exact h
theorem trim_core (w0:World) (A:Option Addr) (c:Nat) (ds:List Int) (hr:Row w0 (.slice A ds.length c) ds) (hg:Rg ds):Calls Tryz.prog 50 #[.slice A ds.length c] w0 fun e w'=>e = .returned (.slice A (digs (nat ds)).length c)∧Below w0.heap.size w0 w':=by
 have hst:=St.start w0 (Θ:=fun _=>True) (fun _ _=>trivial)
 refine en_ Tryz.func50 hst 21 [(0,.slice A ds.length c)] (fun ac H_=>?_)
 refine gq0 H_ 0 [[0]] [_] (s:=mv3) (k:=fun E1 ac wd H_=>?_)
 refine gq1 H_ 2 (tri 3) [_,vN ds.length,_] (fun _=>[(3,vN ds.length)]) (s:=⟨mv3,ln_ Tryz.underlying50 fun _ env _ wd hA=>(hr.grown hA.j.st.gr).els,mv3⟩) (k:=fun E2 ac wd H_=>?_)
 refine lp3 (fun ac wd=>∃ k:Nat,(k≤ds.length∧trimN ds k=(digs (nat ds)).length)∧Cur 21 w0 none none (fun _=>True) (fun _=>True) [(0,.slice A ds.length c),(3,vI ((k:Int)))] [] ac wd) (fun ac _=>(sI ac 3).toNat) ⟨ds.length,⟨Nat.le_refl _,trim_len hg⟩,(H_.re rfl).th (fun _ h=>h)⟩ ?_
 rintro ac wd ⟨k,⟨hk,hkt⟩,H_⟩
 have hmu:sI ac 3=(k:Int):=sI_eq (H_.g (t:=3) rfl)
 rcases Nat.eq_zero_or_pos k with h0 | h0
 subst h0
 refine gq1 H_ 9 (tri 4++[[0,1,2,4],[0,1,2,4,5],r_ 7,r_ 8,r_ 9,r_ 10]) [_,bF,_,_,_,_,_,_,_,bF] (fun _=>[(15,bF)]) (s:=⟨mv3,bi3,mv3,off_,off_,off_,off_,off_,off_,pk3⟩) (k:=fun E4 ac wd H_=>?_)
 refine cF3 H_ ?_
 refine gq1 H_ 3 [[0],[1],[0,1,2],r_ 4] [_,_,K_ (.slice A 0 c),_] (fun _=>[(2,.slice A 0 c)]) (s:=⟨mv3,mv3,s_cut rfl rfl rfl (fun _=>wanted_none rfl _) Tryz.underlying50 sz3 0 (s:=fun _=>.slice A ds.length c) rfl (fun _=>rfl) (fun _=>rfl) (fun {D env ac wd} hA=>(hr.grown hA.j.st.gr).els) (by omega),mv3⟩) (k:=fun E5 ac wd H_=>?_)
 refine lvT3 Tryz.results50 H_ ?_
 have e1:trimN ds 0=0:=by rfl
 exact ⟨by rw [← hkt,e1],H_.st.below⟩
 obtain ⟨j,rfl⟩:∃ j,k=j+1:=⟨k-1,by omega⟩
 by_cases h2:ds.getD j 0=0
 refine gq1 H_ 9 (tri 4++[[0,1,2,4],[0,1,2,4,5],r_ 7,r_ 8,r_ 9,r_ 10]) [_,bT,_,_,_,vI ((j:Int)),elt (.slice A ds.length c) j,vI (ds.getD j 0),bT,bT] (fun _=>[(15,bT)]) (s:=⟨mv3,bi3,mv3,gm3,gm3,bi3 (h:=by intro env w;(first | (simp [go_sem];done) | (simp [go_sem];exact IntWalk.i64_in _ (by omega)) | (have hle:=hr.le;simp [go_sem];exact IntWalk.i64_in _ (by omega)))),ia_ Tryz.underlying50 sz3 j j (j:Int) (fun _ env _ wd hA=>(hr.grown hA.j.st.gr).els) (rfl) (by omega) (Nat.mul_one _),le_ j (fun _ env _ wd hA=>(hr.grown hA.j.st.gr).els) (by omega) (leG1 sh3 rfl),bi3 (h:=by intro env w;have h2q:=h2;rw [List.getD_eq_getElem?_getD] at h2q;simp [go_sem,h2q]),pk3 (h:=by intro env w;have h2q:=h2;rw [List.getD_eq_getElem?_getD] at h2q;simp [go_sem,h2q])⟩) (k:=fun E4 ac wd H_=>?_)
 refine cT3 H_ ?_
 refine gq1 H_ 2 (tri 3) [_,vI ((j:Int)),_] (fun _=>[(3,vI ((j:Int)))]) (s:=⟨mv3,bi3 (h:=by intro env w;(first | (simp [go_sem];done) | (simp [go_sem];exact IntWalk.i64_in _ (by omega)) | (have hle:=hr.le;simp [go_sem];exact IntWalk.i64_in _ (by omega)))),mv3⟩) (k:=fun E5 ac wd H_=>?_)
 refine blk_n (then_n ?_)
 exact ⟨⟨j,⟨by omega,by rw [← hkt];simp only [trimN];rw [if_pos h2]⟩,H_.re rfl⟩,by rw [sI_eq (H_.g (t:=3) rfl),hmu];omega⟩
 refine gq1 H_ 9 (tri 4++[[0,1,2,4],[0,1,2,4,5],r_ 7,r_ 8,r_ 9,r_ 10]) [_,bT,_,_,_,vI ((j:Int)),elt (.slice A ds.length c) j,vI (ds.getD j 0),bF,bF] (fun _=>[(15,bF)]) (s:=⟨mv3,bi3,mv3,gm3,gm3,bi3 (h:=by intro env w;(first | (simp [go_sem];done) | (simp [go_sem];exact IntWalk.i64_in _ (by omega)) | (have hle:=hr.le;simp [go_sem];exact IntWalk.i64_in _ (by omega)))),ia_ Tryz.underlying50 sz3 j j (j:Int) (fun _ env _ wd hA=>(hr.grown hA.j.st.gr).els) (rfl) (by omega) (Nat.mul_one _),le_ j (fun _ env _ wd hA=>(hr.grown hA.j.st.gr).els) (by omega) (leG1 sh3 rfl),bi3 (h:=by intro env w;have h2q:=h2;rw [List.getD_eq_getElem?_getD] at h2q;simp [go_sem,h2q]),pk3 (h:=by intro env w;have h2q:=h2;rw [List.getD_eq_getElem?_getD] at h2q;simp [go_sem,h2q])⟩) (k:=fun E4 ac wd H_=>?_)
 refine cF3 H_ ?_
 refine gq1 H_ 3 [[0],[1],[0,1,2],r_ 4] [_,_,K_ (.slice A ((j+1)) c),_] (fun _=>[(2,.slice A ((j+1)) c)]) (s:=⟨mv3,mv3,s_cut rfl rfl rfl (fun _=>wanted_none rfl _) Tryz.underlying50 sz3 (j+1) (s:=fun _=>.slice A ds.length c) rfl (fun _=>rfl) (fun _=>rfl) (fun {D env ac wd} hA=>(hr.grown hA.j.st.gr).els) (by omega),mv3⟩) (k:=fun E5 ac wd H_=>?_)
 refine lvT3 Tryz.results50 H_ ?_
 have e1:trimN ds (j+1)=(j+1):=by simp only [trimN];rw [if_neg h2]
 exact ⟨by rw [← hkt,e1],H_.st.below⟩
theorem Row.trim {w:World} {A:Option Addr} {c:Nat} {ds:List Int} (hg:Rg ds) (h:Row w (.slice A ds.length c) ds):Row w (.slice A (digs (nat ds)).length c) (digs (nat ds)):=by
 have:=h.cut (digs_len_nat hg)
 rwa [digs_take' hg] at this
theorem cmp_any (w0:World) (A B:Option Addr) (c k:Nat) (x y:Int) (hx:0≤x) (hy:0≤y) (hr:Row w0 (.slice A (digs x).length c) (digs x)) (hr2:Row w0 (.slice B (digs y).length k) (digs y)):Calls Tryz.prog 37 #[.slice A ((digs x).length) c,.slice B ((digs y).length) k] w0 fun e w'=>e = .returned (vI (cmpZ x y))∧Below w0.heap.size w0 w':=by
 have hst:=St.start w0 (Θ:=fun _=>True) (fun _ _=>trivial)
 refine en_ Tryz.func37 hst 41 [(0,.slice A ((digs x).length) c),(1,.slice B ((digs y).length) k)] (fun ac H_=>?_)
 refine gq0 H_ 0 [[0]] [_] (s:=mv3) (k:=fun E1 ac wd H_=>?_)
 rcases Nat.lt_trichotomy (digs x).length (digs y).length with h | h | h
 refine gq1 H_ 4 [[0],[0,1],[2],[2,3],r_ 5] [_,vN ((digs x).length),_,vN ((digs y).length),bT] (fun _=>[(10,bT)]) (s:=⟨mv3,ln_ Tryz.underlying50 fun _ env _ wd hA=>(hr.grown hA.j.st.gr).els,mv3,ln_ Tryz.underlying50 fun _ env _ wd hA=>(hr2.grown hA.j.st.gr).els,bi3⟩) (k:=fun E2 ac wd H_=>?_)
 refine cT3 H_ ?_
 refine gq1 H_ 4 [[0],[0,1],[2],[2,3],r_ 5] [_,vN ((digs x).length),_,vN ((digs y).length),bT] (fun _=>[(15,bT)]) (s:=⟨mv3,ln_ Tryz.underlying50 fun _ env _ wd hA=>(hr.grown hA.j.st.gr).els,mv3,ln_ Tryz.underlying50 fun _ env _ wd hA=>(hr2.grown hA.j.st.gr).els,bi3⟩) (k:=fun E3 ac wd H_=>?_)
 refine cT3 H_ ?_
 refine gq1 H_ 0 [[0]] [_] (fun _=>[(4,vI (-1))]) (s:=mv3) (k:=fun E4 ac wd H_=>?_)
 refine lvT3 Tryz.results37 H_ ?_
 exact ⟨by rw [cmp_len_lt hx hy h],H_.st.below⟩
 refine gq1 H_ 4 [[0],[0,1],[2],[2,3],r_ 5] [_,vN ((digs x).length),_,vN ((digs y).length),bF] (fun _=>[(10,bF)]) (s:=⟨mv3,ln_ Tryz.underlying50 fun _ env _ wd hA=>(hr.grown hA.j.st.gr).els,mv3,ln_ Tryz.underlying50 fun _ env _ wd hA=>(hr2.grown hA.j.st.gr).els,bi3⟩) (k:=fun E2 ac wd H_=>?_)
 refine cF3 H_ ?_
 refine gq1 H_ 3 (tri 4) [_,vN ((digs x).length),vI ((((digs x).length:Nat):Int)-1),_] (fun _=>[(5,vI ((((digs x).length:Nat):Int)-1))]) (s:=⟨mv3,ln_ Tryz.underlying50 fun _ env _ wd hA=>(hr.grown hA.j.st.gr).els,bi3 (h:=by intro env w;(first | (simp [go_sem];done) | (simp [go_sem];exact IntWalk.i64_in _ (by omega)) | (have hle:=hr.le;have hle2:=hr2.le;simp [go_sem];exact IntWalk.i64_in _ (by omega)))),mv3⟩) (k:=fun E3 ac wd H_=>?_)
 refine lp3 (fun ac wd=>∃ m:Nat,(m≤(digs x).length∧(digs x).drop m=(digs y).drop m)∧Cur 41 w0 none none (fun _=>True) (fun _=>True) [(0,rS x A c),(1,rS y B k),(5,vI (((m:Nat):Int)-1))] [] ac wd) (fun ac _=>(sI ac 5+1).toNat) ⟨(digs x).length,⟨Nat.le_refl _,by rw [List.drop_of_length_le (Nat.le_refl _),List.drop_of_length_le (by omega)]⟩,(H_.re rfl).th (fun _ h=>h)⟩ ?_
 rintro ac wd ⟨m,⟨hm,hdr⟩,H_⟩
 have hmu:sI ac 5=((m:Nat):Int)-1:=sI_eq (H_.g (t:=5) rfl)
 rcases Nat.eq_zero_or_pos m with h0 | h0
 subst h0
 refine gq1 H_ 1 [[0],[0,1]] [_,bF] (fun _=>[(20,bF)]) (s:=⟨mv3,bi3⟩) (k:=fun E5 ac wd H_=>?_)
 refine cF3 H_ ?_
 refine gq1 H_ 0 [[0]] [_] (fun _=>[(4,vI 0)]) (s:=mv3) (k:=fun E6 ac wd H_=>?_)
 refine lvT3 Tryz.results37 H_ ?_
 exact ⟨by rw [cmp_eq hx hy (by simpa using hdr)],H_.st.below⟩
 obtain ⟨j,rfl⟩:∃ j,m=j+1:=⟨m-1,by omega⟩
 refine gq1 H_ 1 [[0],[0,1]] [_,bT] (fun _=>[(20,bT)]) (s:=⟨mv3,bi3⟩) (k:=fun E5 ac wd H_=>?_)
 refine cT3 H_ ?_
 by_cases h2:(digs x).getD j 0 < (digs y).getD j 0
 refine gq1 H_ 8 [[0],[1],[0,1,2],r_ 4,[4],[5],[4,5,6],[4,5,6,7],r_ 9] [_,_,elt (rS x A c) j,vI (((digs x)).getD j 0),_,_,elt (rS y B k) j,vI (((digs y)).getD j 0),bT] (fun _=>[(31,bT)]) (s:=⟨mv3,mv3,ia_ Tryz.underlying50 sz3 j j ((((j+1):Nat):Int)-1) (fun _ env _ wd hA=>(hr.grown hA.j.st.gr).els) (by omega) (by omega) (Nat.mul_one _),le_ j (fun _ env _ wd hA=>(hr.grown hA.j.st.gr).els) (by omega) (leG1 sh3 rfl),mv3,mv3,ia_ Tryz.underlying50 sz3 j j ((((j+1):Nat):Int)-1) (fun _ env _ wd hA=>(hr2.grown hA.j.st.gr).els) (by omega) (by omega) (Nat.mul_one _),le_ j (fun _ env _ wd hA=>(hr2.grown hA.j.st.gr).els) (by omega) (leG1 sh3 rfl),bi3 (h:=by intro env w;have q0:=h2;simp only [List.getD_eq_getElem?_getD] at q0;simp [go_sem,q0])⟩) (k:=fun E6 ac wd H_=>?_)
 refine cT3 H_ ?_
 refine gq1 H_ 0 [[0]] [_] (fun _=>[(4,vI (-1))]) (s:=mv3) (k:=fun E7 ac wd H_=>?_)
 refine lvT3 Tryz.results37 H_ ?_
 exact ⟨by rw [dcmp_lt hx hy h (i:=j) (by omega) hdr h2],H_.st.below⟩
 refine gq1 H_ 8 [[0],[1],[0,1,2],r_ 4,[4],[5],[4,5,6],[4,5,6,7],r_ 9] [_,_,elt (rS x A c) j,vI (((digs x)).getD j 0),_,_,elt (rS y B k) j,vI (((digs y)).getD j 0),bF] (fun _=>[(31,bF)]) (s:=⟨mv3,mv3,ia_ Tryz.underlying50 sz3 j j ((((j+1):Nat):Int)-1) (fun _ env _ wd hA=>(hr.grown hA.j.st.gr).els) (by omega) (by omega) (Nat.mul_one _),le_ j (fun _ env _ wd hA=>(hr.grown hA.j.st.gr).els) (by omega) (leG1 sh3 rfl),mv3,mv3,ia_ Tryz.underlying50 sz3 j j ((((j+1):Nat):Int)-1) (fun _ env _ wd hA=>(hr2.grown hA.j.st.gr).els) (by omega) (by omega) (Nat.mul_one _),le_ j (fun _ env _ wd hA=>(hr2.grown hA.j.st.gr).els) (by omega) (leG1 sh3 rfl),bi3 (h:=by intro env w;have q0:=h2;simp only [List.getD_eq_getElem?_getD] at q0;simp [go_sem,q0])⟩) (k:=fun E6 ac wd H_=>?_)
 refine cF3 H_ ?_
 by_cases h3:(digs y).getD j 0 < (digs x).getD j 0
 refine gq1 H_ 8 [[0],[1],[0,1,2],r_ 4,[4],[5],[4,5,6],[4,5,6,7],r_ 9] [_,_,elt (rS x A c) j,vI (((digs x)).getD j 0),_,_,elt (rS y B k) j,vI (((digs y)).getD j 0),bT] (fun _=>[(40,bT)]) (s:=⟨mv3,mv3,ia_ Tryz.underlying50 sz3 j j ((((j+1):Nat):Int)-1) (fun _ env _ wd hA=>(hr.grown hA.j.st.gr).els) (by omega) (by omega) (Nat.mul_one _),le_ j (fun _ env _ wd hA=>(hr.grown hA.j.st.gr).els) (by omega) (leG1 sh3 rfl),mv3,mv3,ia_ Tryz.underlying50 sz3 j j ((((j+1):Nat):Int)-1) (fun _ env _ wd hA=>(hr2.grown hA.j.st.gr).els) (by omega) (by omega) (Nat.mul_one _),le_ j (fun _ env _ wd hA=>(hr2.grown hA.j.st.gr).els) (by omega) (leG1 sh3 rfl),bi3 (h:=by intro env w;have q0:=h3;simp only [List.getD_eq_getElem?_getD] at q0;simp [go_sem,q0])⟩) (k:=fun E7 ac wd H_=>?_)
 refine cT3 H_ ?_
 refine gq1 H_ 0 [[0]] [_] (fun _=>[(4,vI 1)]) (s:=mv3) (k:=fun E8 ac wd H_=>?_)
 refine lvT3 Tryz.results37 H_ ?_
 exact ⟨by rw [cmp_gt hx hy h (i:=j) (by omega) hdr h3],H_.st.below⟩
 refine gq1 H_ 8 [[0],[1],[0,1,2],r_ 4,[4],[5],[4,5,6],[4,5,6,7],r_ 9] [_,_,elt (rS x A c) j,vI (((digs x)).getD j 0),_,_,elt (rS y B k) j,vI (((digs y)).getD j 0),bF] (fun _=>[(40,bF)]) (s:=⟨mv3,mv3,ia_ Tryz.underlying50 sz3 j j ((((j+1):Nat):Int)-1) (fun _ env _ wd hA=>(hr.grown hA.j.st.gr).els) (by omega) (by omega) (Nat.mul_one _),le_ j (fun _ env _ wd hA=>(hr.grown hA.j.st.gr).els) (by omega) (leG1 sh3 rfl),mv3,mv3,ia_ Tryz.underlying50 sz3 j j ((((j+1):Nat):Int)-1) (fun _ env _ wd hA=>(hr2.grown hA.j.st.gr).els) (by omega) (by omega) (Nat.mul_one _),le_ j (fun _ env _ wd hA=>(hr2.grown hA.j.st.gr).els) (by omega) (leG1 sh3 rfl),bi3 (h:=by intro env w;have q0:=h3;simp only [List.getD_eq_getElem?_getD] at q0;simp [go_sem,q0])⟩) (k:=fun E7 ac wd H_=>?_)
 refine cF3 H_ ?_
 refine gq1 H_ 2 (tri 3) [_,vI (((j:Nat):Int)-1),_] (fun _=>[(5,vI (((j:Nat):Int)-1))]) (s:=⟨mv3,bi3 (h:=by intro env w;(first | (simp [go_sem];done) | (simp [go_sem];exact IntWalk.i64_in _ (by omega)) | (have hle:=hr.le;have hle2:=hr2.le;simp [go_sem];exact IntWalk.i64_in _ (by omega)))),mv3⟩) (k:=fun E8 ac wd H_=>?_)
 refine then_n ?_
 exact ⟨⟨j,⟨by omega,drop_step h hdr (by omega)⟩,H_.re rfl⟩,by rw [sI_eq (H_.g (t:=5) rfl),hmu];omega⟩
 refine gq1 H_ 4 [[0],[0,1],[2],[2,3],r_ 5] [_,vN ((digs x).length),_,vN ((digs y).length),bT] (fun _=>[(10,bT)]) (s:=⟨mv3,ln_ Tryz.underlying50 fun _ env _ wd hA=>(hr.grown hA.j.st.gr).els,mv3,ln_ Tryz.underlying50 fun _ env _ wd hA=>(hr2.grown hA.j.st.gr).els,bi3⟩) (k:=fun E2 ac wd H_=>?_)
 refine cT3 H_ ?_
 refine gq1 H_ 4 [[0],[0,1],[2],[2,3],r_ 5] [_,vN ((digs x).length),_,vN ((digs y).length),bF] (fun _=>[(15,bF)]) (s:=⟨mv3,ln_ Tryz.underlying50 fun _ env _ wd hA=>(hr.grown hA.j.st.gr).els,mv3,ln_ Tryz.underlying50 fun _ env _ wd hA=>(hr2.grown hA.j.st.gr).els,bi3⟩) (k:=fun E3 ac wd H_=>?_)
 refine cF3 H_ ?_
 refine gq1 H_ 0 [[0]] [_] (fun _=>[(4,vI 1)]) (s:=mv3) (k:=fun E4 ac wd H_=>?_)
 refine lvT3 Tryz.results37 H_ ?_
 exact ⟨by rw [cmp_len_gt hx hy h],H_.st.below⟩
end Go.Proofs.YtailjojebdmnnaaGreat
