/- A region of operations in whatever order, by one relation over what is done; the call's own variables in memory as a list. Own work: it serves all walks that gen.py prints. -/
import Derived.Test.YtdfkghpgekmmlaaB
import Derived.Orders
import Derived.RegionTactic
namespace Go.Proofs.Ytdfkghpgekmmlaa
open Go.RowKit
set_option linter.unusedVariables false
set_option linter.unusedSimpArgs false

/-! ### the order -/
/-- number i is done, too -/
def upB (D : Nat → Bool) (i : Nat) : Nat → Bool := fun j => if j = i then true else D j
theorem upB_self (D : Nat → Bool) (i : Nat) : upB D i i = true := by simp [upB]
theorem upB_ne {D : Nat → Bool} {i j : Nat} (h : j ≠ i) : upB D i j = D j := by simp [upB, h]
theorem upB_mono {D : Nat → Bool} {i j : Nat} (h : D j = true) : upB D i j = true := by unfold upB; split <;> simp [h]
/-- cl: for each operation itself and all that it waits for, by whatever chain -/
def clOk (ops : Array Oper) (cl : List (List Nat)) : Bool :=
  (List.range ops.size).all fun i => (cl.getD i []).contains i && match ops[i]? with
    | some o => o.after.all (fun e => !Region.binds .any e || decide (e.on < i)) && (cl.getD i []).all fun k => k == i || o.after.any fun e => Region.binds .any e && (cl.getD e.on []).contains k
    | none => true
def Shut' (cl : List (List Nat)) (D : Nat → Bool) : Prop := ∀ j, D j = true → ∀ k ∈ cl.getD j [], D k = true
theorem clOk_row {ops : Array Oper} {cl : List (List Nat)} (h : clOk ops cl = true) {i : Nat} {o : Oper} (ho : ops[i]? = some o) :
    i ∈ cl.getD i [] ∧ (∀ e ∈ o.after, Region.binds .any e = true → e.on < i) ∧ ∀ k ∈ cl.getD i [], k = i ∨ ∃ e ∈ o.after, Region.binds .any e = true ∧ k ∈ cl.getD e.on [] := by
  have hi : i < ops.size := (Array.getElem?_eq_some_iff.1 ho).1
  have h1 := List.all_eq_true.1 h i (List.mem_range.2 hi)
  rw [ho] at h1
  simp only [Bool.and_eq_true, List.all_eq_true, Array.all_eq_true_iff_forall_mem, Bool.or_eq_true, Bool.not_eq_true', decide_eq_true_eq, beq_iff_eq, Array.any_eq_true', List.contains_iff_mem] at h1
  refine ⟨h1.1, fun e he hb => ?_, fun k hk => ?_⟩
  · rcases h1.2.1 e he with h | h
    · rw [hb] at h; cases h
    · exact h
  · rcases h1.2.2 k hk with h | ⟨e, he, hb, hc⟩
    · exact .inl h
    · exact .inr ⟨e, he, hb, hc⟩
theorem shut_up {ops : Array Oper} {cl : List (List Nat)} (h : clOk ops cl = true) {D : Nat → Bool} (hD : Shut' cl D) {i : Nat} {o : Oper} (ho : ops[i]? = some o) (hr : ∀ e ∈ o.after, Region.binds .any e = true → D e.on = true) : Shut' cl (upB D i) := by
  obtain ⟨_, _, hk⟩ := clOk_row h ho
  intro j hj k hkj
  by_cases hji : j = i
  · subst hji
    rcases hk k hkj with rfl | ⟨e, he, hb, hc⟩
    · exact upB_self _ _
    · exact upB_mono (hD e.on (hr e he hb) k hc)
  · rw [upB_ne hji] at hj
    exact upB_mono (hD j hj k hkj)

section
variable {P : Program} {ops : Array Oper} {Q : Exit → Act → World → Prop} {cl : List (List Nat)} {I : (Nat → Bool) → Act → World → Prop}
/-- one operation: out of the relation, all that it waits for being done, and nothing that waits for it -/
def Step1 (P : Program) (ops : Array Oper) (Q : Exit → Act → World → Prop) (cl : List (List Nat)) (I : (Nat → Bool) → Act → World → Prop) (i : Nat) : Prop :=
  ∀ o, ops[i]? = some o → ∀ D a w, I D a w → D i = false → (∀ j ∈ cl.getD i [], j ≠ i → D j = true) → (∀ j, D j = true → i ∉ cl.getD j []) →
    ∀ K : Act → World → Prop, (∀ a' w', I (upB D i) a' w' → K a' w') → if Region.wanted o (yielded ops a.tmps) = true then Oper.wp P o a w K Q else K (a.put o.dst undef) w
theorem step1_op (hcl : clOk ops cl = true) {i : Nat} {o : Oper} (ho : ops[i]? = some o) (hs : Step1 P ops Q cl I i) {D : Nat → Bool} {a : Act} {w : World} (hI : I D a w) (hD : Shut' cl D) (hi : D i = false) (hr : ∀ e ∈ o.after, Region.binds .any e = true → D e.on = true) {K : Act → World → Prop} (hK : ∀ a' w', I (upB D i) a' w' → K a' w') : wpOp P ops Q i K a w := by
  obtain ⟨h1, h2, h3⟩ := clOk_row hcl ho
  refine wpOp_step ho (fun K' hK' => hs o ho D a w hI hi (fun j hj hne => ?_) (fun j hj hm => ?_) K' (fun a' w' h => hK' a' w' (hK a' w' h)))
  · rcases h3 j hj with h | ⟨e, he, hb, hc⟩
    · exact absurd h hne
    · exact hD e.on (hr e he hb) j hc
  · have := hD j hj i hm
    rw [hi] at this; cases this
theorem blt_yes {i n : Nat} (h : i < n) : Nat.blt i n = true := by unfold Nat.blt; exact Nat.ble_eq_true_of_le h
theorem blt_no {i n : Nat} (h : ¬ i < n) : Nat.blt i n = false := by
  cases h2 : Nat.blt i n with
  | false => rfl
  | true => unfold Nat.blt at h2; exact absurd (Nat.le_of_ble_eq_true h2) h
theorem listed_all {listed : Array Bool} {n : Nat} (hsz : listed.size = n) (h : ∀ i, i < n → listed.getD i false = true) (j : Nat) : listed.getD j false = Nat.blt j n := by
  by_cases hj : j < n
  · rw [h j hj, blt_yes hj]
  · rw [blt_no hj]
    have : ¬ j < listed.size := by omega
    simp [Array.getD, this]
theorem inv_any (hcl : clOk ops cl = true) (hs : ∀ i, i < ops.size → Step1 P ops Q cl I i) (hend : ∀ D a w, (∀ i, D i = Nat.blt i ops.size) → I D a w → Q .normal a w) :
    ∀ (fuel : Nat) (listed : Array Bool) (a : Act) (w : World), listed.size = ops.size → (listed.toList.filter (!·)).length = fuel → Shut' cl (fun j => listed.getD j false) → I (fun j => listed.getD j false) a w → wpAny P .any ops Q fuel listed a w := by
  intro fuel
  induction fuel with
  | zero =>
    intro listed a w hsz hf hD hI
    have hall : ∀ i, i < ops.size → listed.getD i false = true := by
      intro i hi
      have hi' : i < listed.size := by omega
      cases hb : listed[i] with
      | true => simp [hi', hb]
      | false =>
        have : false ∈ listed.toList.filter (!·) := by
          rw [List.mem_filter]; exact ⟨by rw [← hb]; exact Array.getElem_mem_toList hi', rfl⟩
        rw [List.eq_nil_of_length_eq_zero hf] at this; cases this
    refine ⟨?_, hend _ a w (listed_all hsz hall) hI⟩
    refine List.eq_nil_iff_forall_not_mem.2 (fun i hi => ?_)
    obtain ⟨h1, o, ho, _⟩ := mem_ready.1 hi
    have hi' : i < ops.size := (Array.getElem?_eq_some_iff.1 ho).1
    have h2 := hall i hi'
    have hi'' : i < listed.size := by omega
    simp [hi''] at h1 h2
    rw [h1] at h2; cases h2
  | succ fuel ih =>
    intro listed a w hsz hf hD hI
    refine ⟨fun hr => ?_, fun i hi => ?_⟩
    · refine hend _ a w (listed_all hsz (fun i hi => ?_)) hI
      have key : ∀ n i, i ≤ n → i < ops.size → listed.getD i false = true := by
        intro n
        induction n with
        | zero =>
          intro i hin hi
          cases hb : listed.getD i false with
          | true => rfl
          | false =>
            exfalso
            have hi' : i < listed.size := by omega
            have : i ∈ Region.ready .any ops listed := mem_ready.2 ⟨by simp [hi'] at hb ⊢; exact hb, ops[i], Array.getElem?_eq_getElem hi, fun e he hbd => by have := (clOk_row hcl (Array.getElem?_eq_getElem hi)).2.1 e he hbd; omega⟩
            rw [hr] at this; cases this
        | succ n ihn =>
          intro i hin hi
          by_cases hle : i ≤ n
          · exact ihn i hle hi
          cases hb : listed.getD i false with
          | true => rfl
          | false =>
            exfalso
            have hi' : i < listed.size := by omega
            have : i ∈ Region.ready .any ops listed := mem_ready.2 ⟨by simp [hi'] at hb ⊢; exact hb, ops[i], Array.getElem?_eq_getElem hi, fun e he hbd => by
              have := (clOk_row hcl (Array.getElem?_eq_getElem hi)).2.1 e he hbd
              exact ihn e.on (by omega) (by omega)⟩
            rw [hr] at this; cases this
      exact key i i (Nat.le_refl _) hi
    · obtain ⟨h1, o, ho, hall⟩ := mem_ready.1 hi
      have hi' : i < ops.size := (Array.getElem?_eq_some_iff.1 ho).1
      have hi'' : i < listed.size := by omega
      have h1' : listed.getD i false = false := by simp [hi''] at h1 ⊢; exact h1
      have hup : (fun j => (listed.setIfInBounds i true).getD j false) = upB (fun j => listed.getD j false) i := by
        funext j
        unfold upB
        by_cases hji : j = i
        · subst hji; simp [hi'']
        · simp only [hji, if_false, Array.getD_eq_getD_getElem?]
          rw [Array.getElem?_setIfInBounds_ne (Ne.symm hji)]
      refine step1_op hcl ho (hs i hi') hI hD h1' hall (fun a' w' hI' => ih (listed.setIfInBounds i true) a' w' (by simpa using hsz) ?_ ?_ ?_)
      · rw [Array.toList_setIfInBounds]
        have hx : listed.toList[i]? = some false := by
          simp [hi''] at h1 ⊢
          exact h1
        have gen : ∀ (l : List Bool) (i : Nat), l[i]? = some false → ((l.set i true).filter (!·)).length + 1 = (l.filter (!·)).length := by
          intro l
          induction l with
          | nil => intro i h; cases h
          | cons x l ihl =>
            intro i h
            cases i with
            | zero => simp only [List.getElem?_cons_zero, Option.some.injEq] at h; subst h; simp
            | succ i =>
              simp only [List.getElem?_cons_succ] at h
              have := ihl i h
              cases x <;> simp [List.filter_cons] at this ⊢ <;> omega
        have := gen listed.toList i hx
        omega
      · rw [hup]; exact shut_up hcl hD ho hall
      · rw [hup]; exact hI'
theorem inv_text (hcl : clOk ops cl = true) (hs : ∀ i, i < ops.size → Step1 P ops Q cl I i) (hend : ∀ D a w, (∀ i, D i = Nat.blt i ops.size) → I D a w → Q .normal a w) :
    ∀ (n k : Nat) (D : Nat → Bool) (a : Act) (w : World), k + n = ops.size → (∀ j, D j = true ↔ j < k) → Shut' cl D → I D a w → wpOps P ops Q (List.range' k n) a w := by
  intro n
  induction n with
  | zero => intro k D a w hk hD _ hI; exact hend D a w (fun j => by
    by_cases hj : j < ops.size
    · rw [blt_yes hj]; exact (hD j).2 (by omega)
    · rw [blt_no hj]
      cases h : D j with
      | false => rfl
      | true => have := (hD j).1 h; omega) hI
  | succ n ih =>
    intro k D a w hk hD hS hI
    rw [List.range'_succ, wpOps_cons]
    have ho : ops[k]? = some ops[k] := Array.getElem?_eq_getElem (by omega)
    have hr : ∀ e ∈ ops[k].after, Region.binds .any e = true → D e.on = true := fun e he hb => (hD e.on).2 ((clOk_row hcl ho).2.1 e he hb)
    refine step1_op hcl ho (hs k (by omega)) hI hS (by cases h : D k with | false => rfl | true => have := (hD k).1 h; omega) hr (fun a' w' hI' => ih (k + 1) (upB D k) a' w' (by omega) (fun j => ?_) (shut_up hcl hS ho hr) hI')
    unfold upB
    split
    · rename_i h; subst h; simp
    · rw [hD j]; omega
/-- THE RULE: a region in whatever order (or, undrawn, in the text's) -/
theorem reg_inv {id : Nat} {draw : Bool} {a : Act} {w : World} (hm : P.follows .mixedOrders = true) (hcl : clOk ops cl = true) (h0 : I (fun _ => false) a w) (hdr : draw = true → I (fun _ => false) a w.drew)
    (hs : ∀ i, i < ops.size → Step1 P ops Q cl I i) (hend : ∀ D a w, (∀ i, D i = Nat.blt i ops.size) → I D a w → Q .normal a w) : (Code.region id ops draw).wp P Q a w := by
  cases draw with
  | false =>
    refine wp_region ?_
    rw [List.range_eq_range']
    exact inv_text hcl hs hend ops.size 0 (fun _ => false) a w (by omega) (fun j => by simp) (fun j hj => by cases hj) h0
  | true =>
    refine wp_region_any hm ?_
    have e : (fun j => (Array.replicate ops.size false).getD j false) = fun _ => false := by
      funext j
      simp only [Array.getD_eq_getD_getElem?, Array.getElem?_replicate]
      split <;> rfl
    refine inv_any hcl hs hend ops.size _ a w.drew (by simp) (by simp) ?_ ?_
    · rw [e]; intro j hj; cases hj
    · rw [e]; exact hdr rfl
end
end Go.Proofs.Ytdfkghpgekmmlaa
