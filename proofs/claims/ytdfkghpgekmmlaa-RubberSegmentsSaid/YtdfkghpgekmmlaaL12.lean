/- A region in two: its last operations, each of which waits for all ahead of it, are walked as a region of their own. Own work. -/
import Derived.Test.YtdfkghpgekmmlaaL11
namespace Go.Proofs.Ytdfkghpgekmmlaa
open Go.RowKit
set_option linter.unusedVariables false
set_option linter.unusedSimpArgs false

/-- the first k operations -/
def pfx (ops : Array Oper) (k : Nat) : Array Oper := (ops.toList.take k).toArray
/-- the others, as a region of their own -/
def sfx (ops : Array Oper) (k : Nat) : Array Oper := ((ops.toList.drop k).map fun o => { o with after := ((o.after.toList.filter fun e => Nat.ble k e.on).map fun e => { e with on := e.on - k }).toArray }).toArray
/-- all behind place k wait for all ahead of them, and have no guard; all ahead of it are guarded by what is ahead of it -/
def cutOk (ops : Array Oper) (cl : List (List Nat)) (k : Nat) : Bool :=
  clOk ops cl && Nat.ble k ops.size && ((List.range ops.size).all fun i => Nat.blt i k || (match ops[i]? with | some o => o.guard.isNone | none => true) && (List.range i).all fun j => (cl.getD i []).contains j) &&
  (List.range k).all fun i => match ops[i]? with | some o => (match o.guard with | some (g, _) => Nat.blt g k | none => true) | none => true
section
variable {P : Program} {ops : Array Oper} {Q : Exit → Act → World → Prop} {cl : List (List Nat)}
/-- operations one behind the other -/
def wpS (P : Program) (ops : Array Oper) (Q : Exit → Act → World → Prop) : List Nat → Act → World → Prop
  | [], a, w => Q .normal a w
  | i :: rest, a, w => match ops[i]? with
    | none => False
    | some o => Oper.wp P o a w (wpS P ops Q rest) Q
theorem cut_parts {k : Nat} (h : cutOk ops cl k = true) : clOk ops cl = true ∧ k ≤ ops.size ∧ (∀ i o, k ≤ i → ops[i]? = some o → o.guard = none ∧ ∀ j, j < i → j ∈ cl.getD i []) ∧ (∀ i o g u, i < k → ops[i]? = some o → o.guard = some (g, u) → g < k) := by
  unfold cutOk at h
  simp only [Bool.and_eq_true] at h
  obtain ⟨⟨⟨h1, h2⟩, h3⟩, h4⟩ := h
  refine ⟨h1, Nat.le_of_ble_eq_true h2, fun i o hi ho => ?_, fun i o g u hi ho hg => ?_⟩
  · have hlt : i < ops.size := (Array.getElem?_eq_some_iff.1 ho).1
    have := List.all_eq_true.1 h3 i (List.mem_range.2 hlt)
    rw [blt_no (by omega), ho] at this
    simp only [Bool.false_or, Bool.and_eq_true, Option.isNone_iff_eq_none] at this
    exact ⟨this.1, fun j hj => by have := List.all_eq_true.1 this.2 j (List.mem_range.2 hj); simpa using this⟩
  · have := List.all_eq_true.1 h4 i (List.mem_range.2 hi)
    rw [ho] at this
    simp only [hg] at this
    unfold Nat.blt at this
    exact Nat.le_of_ble_eq_true this
theorem pfx_get {k i : Nat} (hk : k ≤ ops.size) (hi : i < k) : (pfx ops k)[i]? = ops[i]? := by
  unfold pfx
  rw [List.getElem?_toArray, List.getElem?_take, if_pos hi, Array.getElem?_toList]
theorem sfx_get {k i : Nat} {o : Oper} (ho : (sfx ops k)[i]? = some o) : ∃ o', ops[k + i]? = some o' ∧ o'.op = o.op ∧ o'.dst = o.dst ∧ o'.type = o.type ∧ o = { o' with after := o.after } := by
  unfold sfx at ho
  rw [List.getElem?_toArray, List.getElem?_map, Option.map_eq_some_iff] at ho
  obtain ⟨o', h1, rfl⟩ := ho
  rw [List.getElem?_drop, Array.getElem?_toList] at h1
  exact ⟨o', h1, rfl, rfl, rfl, rfl⟩
theorem sfx_size {k : Nat} (hk : k ≤ ops.size) : (sfx ops k).size = ops.size - k := by simp [sfx]
theorem wpS_sfx {k : Nat} : ∀ (m i : Nat) (a : Act) (w : World), wpS P (sfx ops k) Q (List.range' i m) a w → (∀ j, j < m → ∃ o, (sfx ops k)[i + j]? = some o) → wpS P ops Q (List.range' (k + i) m) a w := by
  intro m
  induction m with
  | zero => intro i a w h _; exact h
  | succ m ih =>
    intro i a w h hall
    rw [List.range'_succ] at h ⊢
    obtain ⟨o, ho⟩ := hall 0 (by omega)
    rw [Nat.add_zero] at ho
    obtain ⟨o', h1, _, _, _, h5⟩ := sfx_get ho
    unfold wpS at h ⊢
    rw [ho] at h
    rw [h1]
    simp only at h ⊢
    have hw : Oper.wp P o' a w (wpS P (sfx ops k) Q (List.range' (i + 1) m)) Q := by
      rw [h5] at h
      exact h
    refine Oper.wp_mono (fun a' w' h' => ?_) hw
    have := ih (i + 1) a' w' h' (fun j hj => by have := hall (j + 1) (by omega); rwa [show i + 1 + j = i + (j + 1) by omega])
    rwa [show k + i + 1 = k + (i + 1) by omega]
theorem wpS_text {I : (Nat → Bool) → Act → World → Prop} (hcl : clOk ops cl = true) (hg : ∀ (i : Nat) (o : Oper), ops[i]? = some o → o.guard = none) (hs : ∀ i, i < ops.size → Step1 P ops Q cl I i) (hend : ∀ D a w, (∀ i, D i = Nat.blt i ops.size) → I D a w → Q .normal a w) :
    ∀ (n k : Nat) (D : Nat → Bool) (a : Act) (w : World), k + n = ops.size → (∀ j, D j = true ↔ j < k) → Shut' cl D → I D a w → wpS P ops Q (List.range' k n) a w := by
  intro n
  induction n with
  | zero => intro k D a w hk hD _ hI; exact hend D a w (fun j => by
    by_cases hj : j < ops.size
    · rw [blt_yes hj]; exact (hD j).2 (by omega)
    · rw [blt_no hj]
      cases h : D j with
      | false => rfl
      | true => have := (hD j).1 h; omega) hI
  | succ n ih =>
    intro k D a w hk hD hS hI
    rw [List.range'_succ]
    have ho : ops[k]? = some ops[k] := Array.getElem?_eq_getElem (by omega)
    obtain ⟨h1, h2, h3⟩ := clOk_row hcl ho
    have hr : ∀ e ∈ ops[k].after, Region.binds .any e = true → D e.on = true := fun e he hb => (hD e.on).2 (h2 e he hb)
    have hk' : D k = false := by cases h : D k with | false => rfl | true => have := (hD k).1 h; omega
    have key := hs k (by omega) _ ho D a w hI hk' (fun j hj hne => by
        rcases h3 j hj with h | ⟨e, he, hb, hc⟩
        · exact absurd h hne
        · exact hS e.on (hr e he hb) j hc) (fun j hj hm => by
        have := hS j hj k hm
        rw [hk'] at this; cases this) (wpS P ops Q (List.range' (k + 1) n)) (fun a' w' hI' => ih (k + 1) (upB D k) a' w' (by omega) (fun j => by
        unfold upB
        split
        · rename_i h; subst h; simp
        · rw [hD j]; omega) (shut_up hcl hS ho hr) hI')
    rw [if_pos (wanted_none (hg _ _ ho) _)] at key
    unfold wpS
    rw [ho]
    exact key
theorem yielded_pfx {k g : Nat} (hk : k ≤ ops.size) (hg : g < k) (t : Array Value) : yielded (pfx ops k) t g = yielded ops t g := by
  unfold yielded
  rw [pfx_get hk hg]
theorem wanted_pfx {k : Nat} {o : Oper} (hk : k ≤ ops.size) (hg : ∀ g u, o.guard = some (g, u) → g < k) (t : Array Value) : Region.wanted o (yielded (pfx ops k) t) = Region.wanted o (yielded ops t) := by
  unfold Region.wanted
  cases h : o.guard with
  | none => rfl
  | some p =>
    obtain ⟨g, u⟩ := p
    simp only [yielded_pfx hk (hg g u h)]
/-- THE CUT: the first k operations as a region, the others behind it -/
theorem reg_cut {id n : Nat} {draw : Bool} {w0 : World} {row ex : Option Nat} {Ψ Θ : World → Prop} {L : Slots} {M : List Ent} {a : Act} {w : World} (hm : P.follows .mixedOrders = true) (k : Nat) (clA : List (List Nat)) (hcut : cutOk ops clA k = true) (h : Cur n w0 row ex Ψ Θ L M a w) (ds : List (Option Tmp)) (cl : List (List Nat)) (S : List Sto) (W : List New) (V : List (Option (Env → Value))) (F : List (Nat × (Env → World → Prop))) (th : Option (Nat × (Env → World → Prop)))
    (hds : (pfx ops k).toList.map (·.dst) = ds) (hR : regOk ⟨pfx ops k, ds, cl, S, W, V, F, n, a, L, M, w0, row, ex, Ψ, Θ, th⟩ = true) (hcl : (List.range k).all (fun i => cl.getD i [] == clA.getD i []) = true)
    (hs : ∀ i, i < k → SR P Q ⟨pfx ops k, ds, cl, S, W, V, F, n, a, L, M, w0, row, ex, Ψ, Θ, th⟩ i)
    (hend : ∀ env a' w', End ⟨pfx ops k, ds, cl, S, W, V, F, n, a, L, M, w0, row, ex, Ψ, Θ, th⟩ env a' w' → wpS P (sfx ops k) Q (List.range' 0 (ops.size - k)) a' w') : (Code.region id ops draw).wp P Q a w := by
  obtain ⟨c1, c2, c3, c4⟩ := cut_parts hcut
  have hps : (pfx ops k).size = k := by unfold pfx; simp; omega
  have hJ : ∀ w', St w0 row ex w' (mem M) Ψ Θ → RI ⟨pfx ops k, ds, cl, S, W, V, F, n, a, L, M, w0, row, ex, Ψ, Θ, th⟩ (fun _ => false) a w' := fun w' h' =>
    ⟨fun _ => undef, h.sz, h.df, fun t _ => rfl, fun j t hj => (by cases hj), (h'.ext (fun m => mem_start _ m)).mono (fun w'' h => ⟨h, fun i hi => by cases hi⟩) (fun _ h => by cases th <;> exact h), h.sl⟩
  have ecl : ∀ i, i < k → cl.getD i [] = clA.getD i [] := fun i hi => by have := List.all_eq_true.1 hcl i (List.mem_range.2 hi); simpa using this
  have hlen : ∀ a' w', (∃ env, End ⟨pfx ops k, ds, cl, S, W, V, F, n, a, L, M, w0, row, ex, Ψ, Θ, th⟩ env a' w') → wpS P ops Q (List.range' k (ops.size - k)) a' w' := fun a' w' ⟨env, he⟩ => by
    have := wpS_sfx (k := k) (ops.size - k) 0 a' w' (hend env a' w' he) (fun j hj => ⟨_, Array.getElem?_eq_getElem (by rw [sfx_size c2]; omega)⟩)
    simpa using this
  -- the relation: in the first part, or at a place behind it
  let I : (Nat → Bool) → Act → World → Prop := fun D a' w' => ((∃ i, i < k ∧ D i = false) ∧ (∀ j, k ≤ j → D j = false) ∧ RI ⟨pfx ops k, ds, cl, S, W, V, F, n, a, L, M, w0, row, ex, Ψ, Θ, th⟩ D a' w') ∨ (∃ m, k ≤ m ∧ m ≤ ops.size ∧ (∀ j, D j = Nat.blt j m) ∧ wpS P ops Q (List.range' m (ops.size - m)) a' w')
  have allk : ∀ D a' w', (∀ j, k ≤ j → D j = false) → RI ⟨pfx ops k, ds, cl, S, W, V, F, n, a, L, M, w0, row, ex, Ψ, Θ, th⟩ D a' w' → I D a' w' := fun D a' w' h1 h2 => by
    by_cases hx : ∃ i, i < k ∧ D i = false
    · exact .inl ⟨hx, h1, h2⟩
    · refine .inr ⟨k, Nat.le_refl _, c2, fun j => ?_, ?_⟩
      · by_cases hj : j < k
        · rw [blt_yes hj]
          cases hD : D j with
          | true => rfl
          | false => exact absurd ⟨j, hj, hD⟩ hx
        · rw [blt_no hj]; exact h1 j (by omega)
      · obtain ⟨env, hJ'⟩ := h2
        have e : D = allD k := by
          funext j
          show D j = Nat.blt j k
          by_cases hj : j < k
          · rw [blt_yes hj]
            cases hD : D j with
            | true => rfl
            | false => exact absurd ⟨j, hj, hD⟩ hx
          · rw [blt_no hj]; exact h1 j (by omega)
        rw [e] at hJ'
        exact hlen a' w' ⟨env, ⟨by show J _ (allD (pfx ops k).size) env a' w'; rw [hps]; exact hJ', hR, hds⟩⟩
  refine reg_inv (cl := clA) (I := I) hm c1 (allk _ a w (fun _ _ => rfl) (hJ w h.st)) (fun _ => allk _ a w.drew (fun _ _ => rfl) (hJ _ h.st.drew)) (fun i hi => ?_) (fun D a' w' hD hI => ?_)
  · intro o ho D a' w' hI hDi hp hq K hK
    rcases hI with ⟨⟨i0, hi0, hDi0⟩, hge, hRI⟩ | ⟨m, hkm, hmn, hDm, hw⟩
    · by_cases hik : i < k
      · have hp' : (pfx ops k)[i]? = some o := by rw [pfx_get c2 hik]; exact ho
        have key := hs i hik hR hds o hp' D a' w' hRI hDi (fun j hj hne => hp j (by rw [← ecl i hik]; exact hj) hne) (fun j hj hm' => by
          have hjk : j < k := by
            rcases Nat.lt_or_ge j k with h | h
            · exact h
            · rw [hge j h] at hj; cases hj
          have e := ecl j hjk
          rw [show (Reg.cl ⟨pfx ops k, ds, cl, S, W, V, F, n, a, L, M, w0, row, ex, Ψ, Θ, th⟩) = cl from rfl, e] at hm'
          exact hq j hj hm') K (fun a'' w'' h' => hK a'' w'' (allk _ a'' w'' (fun j hj => by rw [upB_ne (by omega)]; exact hge j hj) h'))
        rw [wanted_pfx c2 (fun g u hg => c4 i o g u hik ho hg)] at key
        exact key
      · exfalso
        have := (c3 i o (by omega) ho).2 i0 (by omega)
        have := hp i0 this (by omega)
        rw [hDi0] at this; cases this
    · have him : i = m := by
        have h1 : ¬ i < m := fun h => by rw [hDm i, blt_yes h] at hDi; cases hDi
        rcases Nat.lt_or_ge m i with h2 | h2
        · exfalso
          have h3 := (c3 i o (by omega) ho).2 m h2
          have h4 := hp m h3 (by omega)
          rw [hDm m, blt_no (by omega)] at h4; cases h4
        · omega
      subst him
      rw [if_pos (wanted_none (c3 i o hkm ho).1 _)]
      rw [show ops.size - i = (ops.size - (i + 1)) + 1 by omega, List.range'_succ] at hw
      unfold wpS at hw
      rw [ho] at hw
      refine Oper.wp_mono (fun a'' w'' h' => hK a'' w'' (.inr ⟨i + 1, by omega, by omega, fun j => ?_, h'⟩)) hw
      unfold upB
      split
      · rename_i hji; subst hji; rw [blt_yes (by omega)]
      · rename_i hji
        rw [hDm j]
        by_cases hj : j < i
        · rw [blt_yes hj, blt_yes (by omega)]
        · rw [blt_no hj, blt_no (by omega)]
  · rcases hI with ⟨⟨i, hi, hDi⟩, _, _⟩ | ⟨m, hkm, hmn, hDm, hw⟩
    · rw [hD i, blt_yes (by omega)] at hDi; cases hDi
    · have : m = ops.size := by
        rcases Nat.lt_or_eq_of_le hmn with h1 | h1
        · have h2 := hDm m
          rw [hD m, blt_yes h1, blt_no (by omega)] at h2; cases h2
        · exact h1
      subst this
      rw [Nat.sub_self] at hw
      exact hw
/-- the others -/
theorem reg_rest {n : Nat} {w0 : World} {row ex : Option Nat} {Ψ Θ : World → Prop} {L : Slots} {M : List Ent} {a : Act} {w : World} (h : Cur n w0 row ex Ψ Θ L M a w) (ds : List (Option Tmp)) (cl : List (List Nat)) (S : List Sto) (W : List New) (V : List (Option (Env → Value))) (F : List (Nat × (Env → World → Prop))) (th : Option (Nat × (Env → World → Prop))) {m : Nat}
    (hds : ops.toList.map (·.dst) = ds) (hR : regOk ⟨ops, ds, cl, S, W, V, F, n, a, L, M, w0, row, ex, Ψ, Θ, th⟩ = true) (hg : (ops.all fun o => o.guard.isNone) = true) (hmm : m = ops.size)
    (hs : ∀ i, i < ops.size → SR P Q ⟨ops, ds, cl, S, W, V, F, n, a, L, M, w0, row, ex, Ψ, Θ, th⟩ i)
    (hend : ∀ env a' w', End ⟨ops, ds, cl, S, W, V, F, n, a, L, M, w0, row, ex, Ψ, Θ, th⟩ env a' w' → Q .normal a' w') : wpS P ops Q (List.range' 0 m) a w := by
  have hJ : RI ⟨ops, ds, cl, S, W, V, F, n, a, L, M, w0, row, ex, Ψ, Θ, th⟩ (fun _ => false) a w :=
    ⟨fun _ => undef, h.sz, h.df, fun t _ => rfl, fun j t hj => (by cases hj), (h.st.ext (fun m => mem_start _ m)).mono (fun w'' h => ⟨h, fun i hi => by cases hi⟩) (fun _ h => by cases th <;> exact h), h.sl⟩
  subst hmm
  refine wpS_text (cl := cl) (I := RI ⟨ops, ds, cl, S, W, V, F, n, a, L, M, w0, row, ex, Ψ, Θ, th⟩) (regOk_cl hR) (fun i o ho => ?_) (fun i hi => hs i hi hR hds) (fun D a' w' hD hI => ?_) ops.size 0 (fun _ => false) a w (Nat.zero_add _) (fun j => by simp) (fun j hj => by cases hj) hJ
  · have := Array.all_eq_true_iff_forall_mem.1 hg o (Array.mem_of_getElem? ho)
    simpa using this
  · obtain ⟨env, hJ'⟩ := hI
    have e : D = allD ops.size := by funext j; rw [hD j]; rfl
    rw [e] at hJ'
    exact hend env a' w' ⟨hJ', hR, hds⟩
end
end Go.Proofs.Ytdfkghpgekmmlaa
