/- Facts that stand: rows of numbers, elements, making and storing. Own work. -/
import Derived.Test.YtdfkghpgekmmlaaL5
import Derived.Laws.OwnMore
namespace Go.Proofs.Ytdfkghpgekmmlaa
open Go.RowKit
set_option linter.unusedVariables false
set_option linter.unusedSimpArgs false

/-! ### elements of a slice -/
/-- the address of cell o of a slice -/
def elt (s : Value) (o : Nat) : Value := match s with
  | .slice (some ⟨b, off, none⟩) _ _ => .pointer (some ⟨b, off + o, none⟩)
  | _ => undef
/-- the first n -/
def cutS (s : Value) (n : Nat) : Value := match s with
  | .slice A _ c => .slice A n c
  | v => v
/-- n elements of k cells that read as f -/
def Els (w : World) (s : Value) (n k : Nat) (f : Nat → Value) : Prop :=
  ∃ A c, s = .slice A n c ∧ n ≤ c ∧ (n = 0 ∨ ∃ b off, A = some ⟨b, off, none⟩ ∧ ∀ i, i < n * k → w.cell? ⟨b, off + i, none⟩ = some (f i))
theorem Row.els {w : World} {v : Value} {ds : List Int} (h : Row w v ds) : Els w v ds.length 1 (fun i => vi (ds.getD i 0)) := by
  obtain ⟨A, c, rfl, h1, h2, h3⟩ := h
  refine ⟨A, c, rfl, h1, ?_⟩
  rcases h3 with h3 | ⟨b, off, cur, fz, hA, hb, hc⟩
  · exact .inl h3
  · exact .inr ⟨b, off, hA, fun i hi => by simp [World.cell?, hb, hc i (by omega)]⟩
theorem OwnR.els {w : World} {B : Nat} {v : Value} {ds : List Int} (h : OwnR w B v ds) : Els w v ds.length 1 (fun i => vi (ds.getD i 0)) := by
  obtain ⟨h1, h2⟩ := h
  rcases h2 with ⟨rfl, h2⟩ | ⟨g, cap, cur, rfl, hB, hb, hn, hc, hs, ht⟩
  · exact ⟨none, 0, by rw [h2], by omega, .inl h2⟩
  · refine ⟨_, cap, rfl, hn, .inr ⟨g, 0, rfl, fun i hi => ?_⟩⟩
    have e : (ds.map vi)[i]? = some (vi (ds.getD i 0)) := by
      rw [List.getElem?_map, List.getD_eq_getElem?_getD, List.getElem?_eq_getElem (by omega)]
      rfl
    rw [← ht, List.getElem?_take, if_pos hi] at e
    simp only [World.cell?, hb, Nat.zero_add, Option.bind_some]
    simpa using e
theorem Row.cut {w : World} {v : Value} {ds : List Int} (h : Row w v ds) {n : Nat} (hn : n ≤ ds.length) : Row w (cutS v n) (ds.take n) := by
  obtain ⟨A, c, rfl, h1, h2, h3⟩ := h
  have hl : (ds.take n).length = n := by simp; omega
  refine ⟨A, c, by simp [cutS]; omega, by omega, by omega, ?_⟩
  rcases h3 with h3 | ⟨b, off, cur, fz, hA, hb, hc⟩
  · exact .inl (by omega)
  · refine .inr ⟨b, off, cur, fz, hA, hb, fun i hi => ?_⟩
    rw [hl] at hi
    rw [hc i (by omega), List.getD_eq_getElem?_getD, List.getD_eq_getElem?_getD, List.getElem?_take, if_pos hi]
section
variable {R : Reg} {Q : Exit → Act → World → Prop} {i : Nat} {o : Oper}
/-- the length of a slice -/
theorem s_len (ho : R.ops[i]? = some o) (hf : free' R i = true) {x : Operand} {T E : TypeId} (hop : o.op = .call { callee := .builtin .len, args := #[x], argTypes := #[T] }) (hT : Try.prog.underlying T = some (.slice E)) (hw : ∀ {D env a w}, At R i D env a w → Region.wanted o (yielded R.ops a.tmps) = true)
    {n k : Nat} {f : Nat → Value} (hV : R.v? i = some fun _ => vI (n : Int)) {s : Env → Value} (hx : ∀ env, opAt R i env x = some (s env)) (hs : ∀ {D env a w}, At R i D env a w → Els w (s env) n k f) (hn : noF R i = true := by rfl) : SR Try.prog Q R i :=
  s_val ho hf hV (fun {D env a w} hA => ⟨hw hA, by
    obtain ⟨A, c, e, _⟩ := hs hA
    have e1 := hA.e (hx env)
    rw [e] at e1
    simp [execOp, hop, resolve, Deferred.ofValue, invoke, builtin, e1, Builtin.len_, run_underlying hT, goInt]⟩) hn (fun _ _ => rfl)
/-- an element's address -/
theorem s_ia (ho : R.ops[i]? = some o) (hf : free' R i = true) {T E : TypeId} {x ix : Operand} (hop : o.op = .indexAddr T x ix) (hw : ∀ {D env a w}, At R i D env a w → Region.wanted o (yielded R.ops a.tmps) = true)
    (hT : Try.prog.underlying T = some (.slice E)) {n k : Nat} (hE : (Try.prog.info? E).map (·.size) = some k) {f : Nat → Value} (j q : Nat) (hq : j * k = q) {s : Env → Value} (hV : R.v? i = some fun env => elt (s env) q)
    (hx : ∀ env, opAt R i env x = some (s env)) (z : Int) (hix : ∀ env, opAt R i env ix = some (vI z)) (hz : z = (j : Int)) (hs : ∀ {D env a w}, At R i D env a w → Els w (s env) n k f) (hj : j < n) (hn : noF R i = true := by rfl) (hr : ∀ env x, s (restr (R.cl.getD i []) (upd env i x)) = s env := by intros; rfl) : SR Try.prog Q R i :=
  s_val ho hf hV (fun {D env a w} hA => ⟨hw hA, by
    subst hq
    obtain ⟨A, c, e, h1, h2⟩ := hs hA
    have e1 := hA.e (hx env)
    have e2 := hA.e (hix env)
    rw [e] at e1
    rcases h2 with h2 | ⟨b, off, rfl, _⟩
    · omega
    obtain ⟨i0, hi, hz0⟩ := Option.map_eq_some_iff.1 hE
    subst hz
    rw [e]
    have : (j : Int) < (n : Int) := by omega
    have h0 : (j : Int) * (k : Int) = ((j * k : Nat) : Int) := by simp
    simp [execOp, hop, e1, e2, Instr.indexAt, asIntOf, run_underlying hT, sizeOf, typeInfo, hi, hz0, elt, hj, Addr.add]
    try (split <;> simp_all)⟩) hn (fun env x => by simp only [hr])
/-- an element is read, or a part of it -/
theorem s_ld (ho : R.ops[i]? = some o) (hf : free' R i = true) {T : TypeId} {x : Operand} (hop : o.op = .load T x) (hw : ∀ {D env a w}, At R i D env a w → Region.wanted o (yielded R.ops a.tmps) = true)
    {n k m : Nat} {f : Nat → Value} (q : Nat) {s : Env → Value} {v : Value} (hV : R.v? i = some fun _ => v) (hx : ∀ env, opAt R i env x = some (elt (s env) q)) (hs : ∀ {D env a w}, At R i D env a w → Els w (s env) n k f) (hq : q + m ≤ n * k)
    (hrd : ∀ (b off : Nat) (w : World), (∀ p, p < m → w.cell? ⟨b, off + p, none⟩ = some (f (q + p))) → (Instr.loadAt T (.pointer (some ⟨b, off, none⟩))).run Try.prog w = .ok v w) (hm : 0 < m) (hn : noF R i = true := by rfl) : SR Try.prog Q R i :=
  s_val ho hf hV (fun {D env a w} hA => ⟨hw hA, by
    obtain ⟨A, c, e, h1, h2⟩ := hs hA
    have e1 := hA.e (hx env)
    rw [e] at e1
    rcases h2 with h2 | ⟨b, off, rfl, hc⟩
    · subst h2; omega
    have h3 := hrd b (off + q) w (fun p hp => by have := hc (q + p) (by omega); rwa [← Nat.add_assoc] at this)
    simp [execOp, hop, e1, elt, h3]⟩) hn (fun _ _ => rfl)
/-- the first j of a slice -/
theorem s_cut (ho : R.ops[i]? = some o) (hf : free' R i = true) {T E : TypeId} {x ix : Operand} (hop : o.op = .slice T x none (some ix) none) (hw : ∀ {D env a w}, At R i D env a w → Region.wanted o (yielded R.ops a.tmps) = true)
    (hT : Try.prog.underlying T = some (.slice E)) {n k : Nat} (hE : (Try.prog.info? E).map (·.size) = some k) {f : Nat → Value} (j : Nat) {s : Env → Value} (hV : R.v? i = some fun env => cutS (s env) j)
    (hx : ∀ env, opAt R i env x = some (s env)) (hix : ∀ env, opAt R i env ix = some (vI (j : Int))) (hs : ∀ {D env a w}, At R i D env a w → Els w (s env) n k f) (hj : j ≤ n) (hn : noF R i = true := by rfl) (hr : ∀ env x, s (restr (R.cl.getD i []) (upd env i x)) = s env := by intros; rfl) : SR Try.prog Q R i :=
  s_val ho hf hV (fun {D env a w} hA => ⟨hw hA, by
    obtain ⟨A, c, e, h1, h2⟩ := hs hA
    have e1 := hA.e (hx env)
    have e2 := hA.e (hix env)
    rw [e] at e1
    obtain ⟨i0, hi, hz0⟩ := Option.map_eq_some_iff.1 hE
    rw [e]
    have : (j : Int) ≤ (c : Int) := by omega
    have h0 : (0 : Int) ≤ (j : Int) := by omega
    simp [execOp, hop, e1, e2, Instr.sliceAt, Instr.slice, Instr.sliceBounds, run_sliceBound, run_underlying hT, sizeOf, typeInfo, hi, hz0, cutS, this, h0, Addr.add]⟩) hn (fun env x => by simp only [hr])
end

/-! ### facts that stand -/
/-- what was a row of numbers is as it was, off ex -/
def Keep (ex : Option Nat) (w w' : World) : Prop := ∀ (b : Nat) (cur : Array Value) (fz : Nat × Nat), w.heap[b]? = some (Obj.cells cur 3 fz) → ex ≠ some b → w'.heap[b]? = w.heap[b]?
def Off (ex : Option Nat) (v : Value) : Prop := ∀ g, ex = some g → v.ownBlock ≠ some g
theorem Off.none (v : Value) : Off none v := fun g h => by cases h
/-- a row of numbers that stands, off ex -/
def RowX (ex : Option Nat) (w : World) (v : Value) (ds : List Int) : Prop := Row w v ds ∧ Off ex v
theorem RowX.keep {ex : Option Nat} {w w' : World} {v : Value} {ds : List Int} (h : RowX ex w v ds) (hk : Keep ex w w') : RowX ex w' v ds := by
  refine ⟨?_, h.2⟩
  obtain ⟨⟨A, c, rfl, h1, h2, h3⟩, ho⟩ := h
  refine ⟨A, c, rfl, h1, h2, ?_⟩
  rcases h3 with h3 | ⟨b, off, cur, fz, rfl, hb, hc⟩
  · exact .inl h3
  · exact .inr ⟨b, off, cur, fz, rfl, by rw [hk b cur fz hb (fun e => ho b e rfl)]; exact hb, hc⟩
theorem RowX.cut {ex : Option Nat} {w : World} {v : Value} {ds : List Int} (h : RowX ex w v ds) {n : Nat} (hn : n ≤ ds.length) : RowX ex w (cutS v n) (ds.take n) := by
  refine ⟨h.1.cut hn, fun g hg => ?_⟩
  have := h.2 g hg
  obtain ⟨A, c, rfl, _⟩ := h.1
  cases A <;> exact this
theorem OwnR.form {w : World} {B : Nat} {v : Value} {ds : List Int} (h : OwnR w B v ds) : ∃ A c, v = .slice A ds.length c := by
  obtain ⟨_, h2⟩ := h
  rcases h2 with ⟨rfl, h2⟩ | ⟨g, cap, cur, rfl, _⟩
  · exact ⟨none, 0, by rw [h2]⟩
  · exact ⟨_, _, rfl⟩
theorem OwnR.row {w : World} {B : Nat} {v : Value} {ds : List Int} (hl : ds.length ≤ 140737488351232) (h : OwnR w B v ds) : Row w v ds := by
  have he := h.els
  obtain ⟨h1, h2⟩ := h
  rcases h2 with ⟨rfl, h2⟩ | ⟨g, cap, cur, rfl, hB, hb, hn, hc, hs, ht⟩
  · exact ⟨none, 0, by rw [h2], by omega, hl, .inl h2⟩
  · refine ⟨_, cap, rfl, hn, hl, .inr ⟨g, 0, cur, _, rfl, hb, fun i hi => ?_⟩⟩
    obtain ⟨A, c, e, _, h3⟩ := he
    simp only [Value.slice.injEq] at e
    obtain ⟨rfl, _, _⟩ := e
    rcases h3 with h3 | ⟨b, off, e, h3⟩
    · omega
    · simp only [Option.some.injEq, Addr.mk.injEq] at e
      obtain ⟨rfl, rfl, _⟩ := e
      have := h3 i (by omega)
      simp only [World.cell?, hb, Option.bind_some] at this
      simpa using this
/-! the parts of a value that is told by a fact only -/
def sA : Value → Option Addr
  | .slice A _ _ => A
  | _ => none
def sC : Value → Nat
  | .slice _ _ c => c
  | _ => 0
def slF (ds : List Int) (v : Value) : Value := .slice (sA v) ds.length (sC v)
theorem RowX.form {ex : Option Nat} {w : World} {v : Value} {ds : List Int} (h : RowX ex w v ds) : v = slF ds v := by
  obtain ⟨⟨A, c, rfl, _⟩, _⟩ := h
  rfl
def Facts (L : List (World → Prop)) (w : World) : Prop := ∀ φ ∈ L, φ w
theorem Facts.get {L : List (World → Prop)} {w : World} (h : Facts L w) (k : Nat) {φ : World → Prop} (hk : L[k]? = some φ) : φ w := h φ (List.mem_of_getElem? hk)
theorem Facts.row {L : List (World → Prop)} {w : World} {ex : Option Nat} {v : Value} {ds : List Int} (h : Facts L w) (k : Nat) (hk : L[k]? = some (fun w => RowX ex w v ds)) : Row w (.slice (sA v) ds.length (sC v)) ds := by
  have h1 : RowX ex w v ds := h.get k hk
  have h2 := h1.1
  rw [h1.form] at h2
  exact h2
/-- no variable of the call's own is a row of numbers -/
def intFree (R : Reg) : Bool := R.O.all fun o => !(Nat.beq o.T 3)
theorem apart_keep {R : Reg} {D : Nat → Bool} {env : Env} {w w' : World} {Ψ Θ : World → Prop} (hi : intFree R = true) (hst : St R.w0 R.row R.ex w (R.mem D env) Ψ Θ) (h : Apart (R.mem D env) R.ex w w') : Keep R.ex w w' := by
  intro b cur fz hb hx
  refine h.2 b (lt_of_some hb) (fun m e hm he => ?_) hx
  have h1 := (hst.own m e hm).2
  rw [he, hb] at h1
  simp only [Option.some.injEq, Obj.cells.injEq] at h1
  unfold Reg.mem at hm
  cases ho : R.O[m]? with
  | none => simp only [ho] at hm; cases hm
  | some o =>
    simp only [ho] at hm
    split at hm
    · have h2 := List.all_eq_true.1 hi o (List.mem_of_getElem? ho)
      rw [← Option.some.inj hm] at h1
      simp only at h1
      rw [← h1.2.1] at h2
      simp at h2
    · cases hm
section
variable {P : Program} {R : Reg} {Q : Exit → Act → World → Prop} {i : Nat} {o : Oper}
theorem f_fact {φ : Value → World → Prop} {form : Value → Value} (hV : R.v? i = some fun env => form (env i)) (hφ : ∀ v w, φ v w → v = form v) (hF : R.F.filter (fun p => Nat.beq p.1 i) = [(i, fun env w => φ (env i) w)]) (hR : regOk R = true) (ho : R.ops[i]? = some o) {env : Env} {v : Value} {w : World} (h : φ v w) : R.f i (upd env i v) w := by
  have e : restr (R.cl.getD i []) (upd env i v) i = v := by
    unfold restr upd
    rw [if_pos (List.contains_iff_mem.2 (cl_self hR ho)), if_pos rfl]
  refine ⟨fun V' hV' => (by rw [hV] at hV'; obtain rfl := Option.some.inj hV'; simp only [e]; exact hφ v w h), fun p hp he => ?_⟩
  have h1 : p ∈ R.F.filter (fun p => Nat.beq p.1 i) := List.mem_filter.2 ⟨hp, by rw [he]; exact Nat.beq_refl i⟩
  rw [hF, List.mem_singleton] at h1
  subst h1
  simp only [e]
  exact h
/-- what is told of an operation ahead -/
theorem At.fact {D : Nat → Bool} {env : Env} {a : Act} {w : World} (h : At R i D env a w) (j : Nat) {φ : Value → World → Prop} (hj : ((R.cl.getD i []).contains j && !(j == i)) = true) (hs : ((R.cl.getD j []).contains j) = true) (hF : R.F.filter (fun p => Nat.beq p.1 j) = [(j, fun env w => φ (env j) w)]) : φ (env j) w := by
  have h1 := (h.tell j hj).2 (j, fun env w => φ (env j) w) (by
    have : (j, fun env w => φ (env j) w) ∈ R.F.filter (fun p => Nat.beq p.1 j) := by rw [hF]; exact List.mem_singleton.2 rfl
    exact (List.mem_filter.1 this).1) rfl
  have e : restr (R.cl.getD j []) env j = env j := by unfold restr; rw [if_pos hs]
  simp only [e] at h1
  exact h1
theorem At.row {D : Nat → Bool} {env : Env} {a : Act} {w : World} (h : At R i D env a w) (j : Nat) {ex : Option Nat} {ds : List Int} (hj : ((R.cl.getD i []).contains j && !(j == i)) = true) (hs : ((R.cl.getD j []).contains j) = true) (hF : R.F.filter (fun p => Nat.beq p.1 j) = [(j, fun env w => RowX ex w (env j) ds)]) : Row w (.slice (sA (env j)) ds.length (sC (env j))) ds := by
  have h1 := h.fact j (φ := fun v w => RowX ex w v ds) hj hs hF
  have h2 := h1.1
  rw [h1.form] at h2
  exact h2
/-- a call of whose value a fact is told that stands -/
theorem s_fact (ho : R.ops[i]? = some o) (hf : free' R i = true) {f : FuncId} {fn : Func} {ps : Array Operand} {ts : Array TypeId} (hop : o.op = .call { callee := .value (.func f), args := ps, argTypes := ts })
    (hfn : P.funcs[f]? = some fn) (hname : (fn.name == "runtime.NumGoroutine") = false) (hb : fn.body.isSome = true) (hw : ∀ {D env a w}, At R i D env a w → Region.wanted o (yielded R.ops a.tmps) = true) (φ : Value → World → Prop) (form : Value → Value) (hV : R.v? i = some fun env => form (env i)) (hF : R.F.filter (fun p => Nat.beq p.1 i) = [(i, fun env w => φ (env i) w)])
    (hint : intFree R = true) (hφ : ∀ v w, φ v w → v = form v) (hst : ∀ v w w', Keep R.ex w w' → φ v w → φ v w')
    (h : ∀ {D env a w}, At R i D env a w → ∃ args, ps.map a.eval = args ∧ Calls P f args w fun e w' => ∃ v, e = .returned v ∧ Below w.heap.size w w' ∧ φ v w') : SR P Q R i :=
  s_callx ho hf hop hfn hname hb (fun hA => by
    obtain ⟨args, ha, hc⟩ := h hA
    refine ⟨hw hA, args, ha, hc.mono ?_⟩
    rintro e w' ⟨v, rfl, hb, h3⟩
    have hs' := hA.j.st.call hb
    exact ⟨v, rfl, hs', fun w'' ha => f_fact hV hφ hF hA.ok ho (hst v _ _ (apart_keep hint hs' ha) h3)⟩)
/-- a row that an append takes over -/
theorem s_bsM (ho : R.ops[i]? = some o) (hg : o.guard = none) (m : Nat) {ow : Own} (hm : R.O[m]? = some ow) (hal : ow.al = some i) (n : Nat) (hV : R.v? i = some fun env => .slice (some ⟨pb env i, 0, none⟩) n n)
    (hrun : ∀ {D env a w}, At R i D env a w → (execOp a.eval o).run P w = .ok (.value (.slice (some ⟨w.heap.size, 0, none⟩) n n)) (w.alloc (.cells ow.c0.toArray ow.T (0, 0)))) (hn : noF R i = true := by rfl) (hnt : noTh R i = true := by rfl) : SR P Q R i := by
  intro hR hds o' ho' D a w hI hi hp hq K hK
  obtain rfl : o = o' := Option.some.inj (ho.symm.trans ho')
  obtain ⟨env, hJ⟩ := hI
  rw [if_pos (wanted_none hg _)]
  unfold Oper.wp
  rw [hrun ⟨hJ, hp, hq, hi, hR, hds⟩]
  refine hK _ _ ⟨_, J.mk_ hR hJ ho hi hq m hm hal hnt (v := .slice (some ⟨w.heap.size, 0, none⟩) n n) rfl (fun w'' => ⟨fun V' hV' => ?_, fun p hp he => ?_⟩)⟩
  · rw [hV] at hV'
    obtain rfl := Option.some.inj hV'
    have e : restr (R.cl.getD i []) (upd env i (.slice (some ⟨w.heap.size, 0, none⟩) n n)) i = .slice (some ⟨w.heap.size, 0, none⟩) n n := by
      unfold restr upd
      rw [if_pos (List.contains_iff_mem.2 (cl_self hR ho)), if_pos rfl]
    simp only [pb, e, ptrB]
  · have := List.all_eq_true.1 hn p hp
    rw [he] at this
    simp at this
/-- what holds of the state ahead of the operation that turns it -/
theorem At.thO {D : Nat → Bool} {env : Env} {a : Act} {w : World} (h : At R i D env a w) (hth : (match R.th with | none => true | some (k, _) => (R.cl.getD k []).contains i) = true) : R.Θ w := by
  have h1 := h.j.st.nowT
  unfold Reg.tht at h1
  cases ht : R.th with
  | none => rw [ht] at h1; exact h1
  | some p =>
    obtain ⟨k, T⟩ := p
    rw [ht] at h1 hth
    simp only at h1
    by_cases hD : D k = true
    · exact absurd (List.contains_iff_mem.1 hth) (h.q k hD)
    · rw [if_neg hD] at h1; exact h1
/-- a slice of numbers out of its elements -/
theorem s_bs (ho : R.ops[i]? = some o) (hf : free' R i = true) (hw : ∀ {D env a w}, At R i D env a w → Region.wanted o (yielded R.ops a.tmps) = true) (zs : List Int) (hlen : 0 < zs.length ∧ zs.length ≤ 64) (hV : R.v? i = some fun env => slF zs (env i)) (hF : R.F.filter (fun p => Nat.beq p.1 i) = [(i, fun env w => RowX R.ex w (env i) zs)]) (hint : intFree R = true)
    (hrun : ∀ {D env a w}, At R i D env a w → (execOp a.eval o).run P w = .ok (.value (.slice (some ⟨w.heap.size, 0, none⟩) zs.length zs.length)) (w.alloc (.cells (zs.map vi).toArray 3 (0, 0)))) : SR P Q R i :=
  s_gen ho hf (fun {D env a w} hA K hK => by
    rw [if_pos (hw hA)]
    unfold Oper.wp
    rw [hrun hA]
    have hs' := hA.j.st.call (w' := w.alloc (.cells (zs.map vi).toArray 3 (0, 0))) ⟨rfl, rfl, rfl, by simp, fun k hk => Below.heap_alloc _ _ _ hk⟩
    refine hK _ _ hs' (fun w'' ha => f_fact (φ := fun v w => RowX R.ex w v zs) (form := slF zs) hV (fun v w h => h.form) hF hA.ok ho (RowX.keep ?_ (apart_keep hint hs' ha)))
    refine ⟨⟨_, _, rfl, Nat.le_refl _, by omega, .inr ⟨w.heap.size, 0, _, _, rfl, heap_alloc_new w _, fun j hj => ?_⟩⟩, fun g hg e => ?_⟩
    · simp only [Nat.zero_add, List.getElem?_toArray, List.getElem?_map, List.getD_eq_getElem?_getD]
      rw [List.getElem?_eq_getElem hj]
      rfl
    · simp only [Value.ownBlock, Option.some.injEq] at e
      have := (hA.j.st.exb g hg).1
      omega)
theorem endM_mem {env : Env} (hO : ownIn R R.ops.size = true) (m : Nat) : mem (endM R env) m = R.mem (allD R.ops.size) env m := by
  unfold mem endM Reg.mem
  rw [List.getElem?_map]
  cases hm : R.O[m]? with
  | none => rfl
  | some o =>
    have h1 := List.all_eq_true.1 hO o (List.mem_of_getElem? hm)
    simp only [Bool.and_eq_true] at h1
    have hon : o.on (allD R.ops.size) = true := by
      unfold Own.on
      cases ha : o.al with
      | none => rfl
      | some i => rw [ha] at h1; exact h1.1
    have hcs : o.cs R.cl (allD R.ops.size) env = (match o.st with | none => o.c0 | some s => o.c1 (restr (R.cl.getD s []) env)) := by
      unfold Own.cs
      cases hs : o.st with
      | none => rfl
      | some s =>
        have h2 : allD R.ops.size s = true := by rw [hs] at h1; exact h1.2
        simp only [h2, if_true]
    simp only [Option.map_some, hon, if_true, hcs]
    cases o.st <;> rfl
theorem End.curF {env : Env} {a : Act} {w : World} (h : End R env a w) {L : Slots} {M : List Ent} (hL : L.map (fun e => slotEnd R env e.1) = L.map (fun e => some e.2)) (hM : endM R env = M) (hO : ownIn R R.ops.size = true) {T : World → Prop} (hT : ∀ w, R.tht (allD R.ops.size) env w → T w)
    {L0 L1 : List (World → Prop)} (hΨ : R.Ψ = Facts L0) (hF : (R.F.all fun p => Nat.blt p.1 R.ops.size) = true) (hL1 : L0 ++ R.F.map (fun p => p.2 (restr (R.cl.getD p.1 []) env)) = L1) : Cur R.n R.w0 R.row R.ex (Facts L1) T L M a w := by
  have hc := h.cur hL hM hO hT
  have hst := h.j.st
  have hall : ∀ p ∈ R.F, allD R.ops.size p.1 = true := fun p hp => List.all_eq_true.1 hF p hp
  refine ⟨hc.sz, hc.df, ?_, hc.sl⟩
  have hsame := hc.st
  have hmem : ∀ m, mem M m = R.mem (allD R.ops.size) env m := fun m => by rw [← hM]; exact endM_mem hO m
  refine ⟨hsame.gr, hsame.nod, hsame.own, hsame.exb, fun w' hw φ hφ => ?_, hsame.the⟩
  have hw' : Apart (R.mem (allD R.ops.size) env) R.ex w w' := by
    have e : mem M = R.mem (allD R.ops.size) env := funext hmem
    rw [← e]; exact hw
  have h2 := hst.psi w' hw'
  rw [← hL1, List.mem_append] at hφ
  rcases hφ with hφ | hφ
  · rw [hΨ] at h2; exact h2.1 φ hφ
  · obtain ⟨p, hp, rfl⟩ := List.mem_map.1 hφ
    exact (h2.2 p.1 (hall p hp)).2 p hp rfl
end
/-- fewer facts, fewer variables -/
theorem Cur.sel {n : Nat} {w0 : World} {row ex : Option Nat} {L0 : List (World → Prop)} {Θ : World → Prop} {L : Slots} {M : List Ent} {a : Act} {w : World} (h : Cur n w0 row ex (Facts L0) Θ L M a w) (ks : List Nat) {L1 : List (World → Prop)} (hk : ks.map (L0[·]?) = L1.map some) : Cur n w0 row ex (Facts L1) Θ L M a w :=
  ⟨h.sz, h.df, h.st.mono (fun w' hw φ hφ => by
    have : some φ ∈ L1.map some := List.mem_map.2 ⟨φ, hφ, rfl⟩
    rw [← hk] at this
    obtain ⟨k, _, e⟩ := List.mem_map.1 this
    exact hw.get k e) (fun _ h => h), h.sl⟩
theorem St.dropM {w0 w : World} {row ex : Option Nat} {M M' : Mem} {Ψ Θ : World → Prop} (h : St w0 row ex w M Ψ Θ) (k : Nat → Nat) (hinj : ∀ m m', m ≠ m' → M' m ≠ none → M' m' ≠ none → k m ≠ k m') (hk : ∀ m e, M' m = some e → M (k m) = some e) : St w0 row ex w M' Ψ Θ := by
  have ap : ∀ {ex' : Option Nat} {w' : World}, Apart M' ex' w w' → Apart M ex' w w' := fun ⟨h1, h2⟩ => ⟨h1, fun k' hk' hM hx => h2 k' hk' (fun m e hm => hM (k m) e (hk m e hm)) hx⟩
  exact ⟨h.gr, fun m m' e e' hm hm' hne => h.nod (k m) (k m') e e' (hk m e hm) (hk m' e' hm') (hinj m m' hne (by rw [hm]; simp) (by rw [hm']; simp)), fun m e hm => h.own (k m) e (hk m e hm), fun g hg => ⟨(h.exb g hg).1, fun m e hm => (h.exb g hg).2.1 (k m) e (hk m e hm), (h.exb g hg).2.2⟩, fun w' hw => h.psi w' (ap hw), fun w' hw => h.the w' (ap hw)⟩
/-- the first variables only -/
theorem Cur.take {n : Nat} {w0 : World} {row ex : Option Nat} {Ψ Θ : World → Prop} {L : Slots} {M M1 : List Ent} {a : Act} {w : World} (h : Cur n w0 row ex Ψ Θ L M a w) {M2 : List Ent} (hM : M = M1 ++ M2) : Cur n w0 row ex Ψ Θ L M1 a w :=
  ⟨h.sz, h.df, h.st.dropM (M' := mem M1) (fun m => m) (fun _ _ h _ _ => h) (fun m e hm => by
    subst hM
    unfold mem at *
    rw [List.getElem?_append_left (List.getElem?_eq_some_iff.1 hm).1]; exact hm), h.sl⟩
theorem Cur.facts {n : Nat} {w0 : World} {row ex : Option Nat} {Ψ Θ : World → Prop} {L : Slots} {M : List Ent} {a : Act} {w : World} (h : Cur n w0 row ex Ψ Θ L M a w) : Cur n w0 row ex (Facts []) Θ L M a w := ⟨h.sz, h.df, h.st.mono (fun _ _ φ hφ => by cases hφ) (fun _ h => h), h.sl⟩
end Go.Proofs.Ytdfkghpgekmmlaa
