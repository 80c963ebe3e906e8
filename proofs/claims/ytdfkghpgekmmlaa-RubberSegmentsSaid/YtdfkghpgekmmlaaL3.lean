/- The step of each kind of operation in a region, the region's rule, a function's begin and end: the words that walk.py's walks use. Own work. -/
import Derived.Test.YtdfkghpgekmmlaaL2
namespace Go.Proofs.Ytdfkghpgekmmlaa
open Go.RowKit
set_option linter.unusedVariables false
set_option linter.unusedSimpArgs false

abbrev vW (z : Int) : Value := .agg #[.int .i64 (hi z), .int .u64 (lo z)]
abbrev vM (z : Int) : Value := .agg #[.int .u64 (hi z), .int .u64 (lo z)]
abbrev vL (d s a : Int) : Value := .agg #[.int .i64 d, .int .i64 s, .int .i64 a]
abbrev vT2 (x y : Value) : Value := .tuple #[x, y]
abbrev vT3 (x y z : Value) : Value := .tuple #[x, y, z]
abbrev vP (b o : Nat) : Value := .pointer (some ⟨b, o, none⟩)
abbrev vI (n : Int) : Value := .int .i64 n
theorem hi_zero : hi 0 = 0 := rfl
theorem lo_zero : lo 0 = 0 := rfl
def RI (R : Reg) : (Nat → Bool) → Act → World → Prop := fun D a w => ∃ env, J R D env a w
def dsOk (R : Reg) : Prop := R.ops.toList.map (·.dst) = R.ds
theorem dstO_ds {R : Reg} (h : dsOk R) (j : Nat) : dstO R.ops j = (R.ds[j]?).join := by
  unfold dstO dsOk at *
  rw [← h]
  simp only [List.getElem?_map, Array.getElem?_toList]
  cases R.ops[j]? <;> rfl
/-- step i of R -/
abbrev SR (P : Program) (Q : Exit → Act → World → Prop) (R : Reg) (i : Nat) : Prop := regOk R = true → dsOk R → Step1 P R.ops Q R.cl (RI R) i
/-- what a step may use -/
structure At (R : Reg) (i : Nat) (D : Nat → Bool) (env : Env) (a : Act) (w : World) : Prop where
  j : J R D env a w
  p : ∀ j ∈ R.cl.getD i [], j ≠ i → D j = true
  q : ∀ j, D j = true → i ∉ R.cl.getD j []
  i : D i = false
  ok : regOk R = true
  ds : dsOk R
/-- what is told of operation j's value -/
def Reg.val (R : Reg) (env : Env) (j : Nat) : Value := match R.v? j with
  | some V => V (restr (R.cl.getD j []) env)
  | none => env j
def isD (ds : List (Option Tmp)) (t : Tmp) (j : Nat) : Bool := match ds[j]? with
  | some (some u) => Nat.beq u t
  | _ => false
def slotAt (R : Reg) (i : Nat) (env : Env) (t : Tmp) : Option Value := match (R.cl.getD i []).find? (fun j => !(Nat.beq j i) && isD R.ds t j) with
  | some j => some (R.val env j)
  | none => if ((List.range R.ds.length).all fun j => !(isD R.ds t j) || (R.cl.getD j []).contains i) = true then lk R.L t else none
def slotEnd (R : Reg) (env : Env) (t : Tmp) : Option Value := match (List.range R.ds.length).find? (isD R.ds t) with
  | some j => some (R.val env j)
  | none => lk R.L t
theorem isD_spec {R : Reg} (h : dsOk R) {t : Tmp} {j : Nat} : isD R.ds t j = true ↔ dstO R.ops j = some t := by
  rw [dstO_ds h]
  unfold isD
  cases hj : R.ds[j]? with
  | none => simp
  | some d => cases d with
    | none => simp
    | some u => simp [Nat.beq_eq]
theorem cl_self {R : Reg} (h : regOk R = true) {i : Nat} {o : Oper} (ho : R.ops[i]? = some o) : i ∈ R.cl.getD i [] := (clOk_row (regOk_cl h) ho).1
theorem op_of_dst {ops : Array Oper} {j : Nat} {t : Tmp} (h : dstO ops j = some t) : ∃ o, ops[j]? = some o := by
  unfold dstO at h
  cases ho : ops[j]? with
  | none => rw [ho] at h; cases h
  | some o => exact ⟨o, rfl⟩
theorem lt_of_dst {R : Reg} (h : dsOk R) {j : Nat} {t : Tmp} (hj : dstO R.ops j = some t) : j < R.ds.length := by
  rw [dstO_ds h] at hj
  rcases Nat.lt_or_ge j R.ds.length with hl | hl
  · exact hl
  · rw [List.getElem?_eq_none hl] at hj; cases hj
theorem val_of {R : Reg} (hR : regOk R = true) {j : Nat} {env : Env} {w : World} {t : Tmp} (ht : dstO R.ops j = some t) (h : R.f j env w) : R.val env j = env j := by
  obtain ⟨o, ho⟩ := op_of_dst ht
  have hs := cl_self hR ho
  unfold Reg.val
  cases hv : R.v? j with
  | none => rfl
  | some V =>
    have := h.1 V hv
    simp only
    rw [← this]
    unfold restr
    rw [if_pos (List.contains_iff_mem.2 hs)]
section
variable {P : Program} {Q : Exit → Act → World → Prop} {R : Reg} {i : Nat} {o : Oper} {D : Nat → Bool} {env : Env} {a : Act} {w : World}
/-- what stands in a slot at step i -/
theorem At.g (h : At R i D env a w) {t : Tmp} {v : Value} (hv : slotAt R i env t = some v) : a.tmps[t]? = some v := by
  unfold slotAt at hv
  split at hv
  · rename_i j hj
    have h1 := List.find?_some hj
    have h2 := List.mem_of_find?_eq_some hj
    simp only [Bool.and_eq_true, Bool.not_eq_true'] at h1
    have hne : j ≠ i := fun e => by rw [e] at h1; simp at h1
    have hd := (isD_spec h.ds).1 h1.2
    have hD := h.p j h2 hne
    rw [← Option.some.inj hv, val_of h.ok hd (h.j.fact hD)]
    exact h.j.new j t hD hd
  · split at hv
    · rename_i h1 h2
      rw [← h.j.sl t v hv]
      refine h.j.old t (fun j hj e => ?_)
      have h3 := List.all_eq_true.1 h2 j (List.mem_range.2 (lt_of_dst h.ds e))
      rw [(isD_spec h.ds).2 e] at h3
      simp at h3
      exact h.q j hj (by simpa using h3)
    · cases hv
theorem At.slot (h : At R i D env a w) (j : Nat) {t : Tmp} (hj : ((R.cl.getD i []).contains j && !(j == i)) = true) (ht : isD R.ds t j = true) : a.tmps[t]? = some (env j) := h.j.slot h.p j t hj ((isD_spec h.ds).1 ht)
theorem At.tell (h : At R i D env a w) (j : Nat) (hj : ((R.cl.getD i []).contains j && !(j == i)) = true) : R.f j env w := h.j.tell h.p j hj
/-- an owner's block ahead of its store -/
theorem At.cells (h : At R i D env a w) (m : Nat) {ow : Own} (hm : R.O[m]? = some ow) (hon : match ow.al with | none => True | some k => ((R.cl.getD i []).contains k && !(k == i)) = true) (hs : match ow.st with | none => True | some s => (R.cl.getD s []).contains i = true) : w.heap[ow.blk env]? = some (.cells ow.c0.toArray ow.T (0, 0)) := by
  refine h.j.cells0 m hm ?_ (fun s hs' => ?_)
  · unfold Own.on
    cases ha : ow.al with
    | none => rfl
    | some k =>
      rw [ha] at hon
      simp only [Bool.and_eq_true, List.contains_iff_mem, Bool.not_eq_true', beq_eq_false_iff_ne] at hon
      exact h.p k hon.1 hon.2
  · rw [hs'] at hs
    cases hD : D s with
    | false => rfl
    | true => exact absurd (List.contains_iff_mem.1 hs) (h.q s hD)
/-- an elder owner's cells -/
theorem At.own (h : At R i D env a w) (m : Nat) {ow : Own} (hm : R.O[m]? = some ow) (hal : ow.al = none) (hs : match ow.st with | none => True | some s => (R.cl.getD s []).contains i = true) : w.heap[ow.b0]? = some (.cells ow.c0.toArray ow.T (0, 0)) := by
  have := h.cells m hm (by rw [hal]; trivial) hs
  have hb : ow.blk env = ow.b0 := by unfold Own.blk; rw [hal]
  rw [hb] at this
  exact this
theorem wanted_none (hg : o.guard = none) (y : Nat → Option Bool) : Region.wanted o y = true := by unfold Region.wanted; rw [hg]
theorem wanted_some {g : Nat} {u b : Bool} {t : Tmp} {ops : Array Oper} (hg : o.guard = some (g, u)) (ht : dstO ops g = some t) (hv : a.tmps[t]? = some (.bool b)) : Region.wanted o (yielded ops a.tmps) = (b == u) := by
  unfold Region.wanted dstO at *
  rw [hg]
  cases ho : ops[g]? with
  | none => rw [ho] at ht; cases ht
  | some og =>
    rw [ho] at ht
    simp only [Option.bind_some] at ht
    cases b <;> cases u <;> simp [yielded, ho, ht, hv]
/-- nothing but its value is told of operation i -/
def noF (R : Reg) (i : Nat) : Bool := R.F.all fun p => !(Nat.beq p.1 i)
theorem f_val (hR : regOk R = true) (ho : R.ops[i]? = some o) {V : Env → Value} (hV : R.v? i = some V) (hn : noF R i = true) (hr : ∀ env x, V (restr (R.cl.getD i []) (upd env i x)) = V env) (env : Env) (w : World) : R.f i (upd env i (V env)) w := by
  refine ⟨fun V' hV' => ?_, fun p hp he => ?_⟩
  · rw [hV] at hV'
    obtain rfl := Option.some.inj hV'
    rw [hr]
    unfold restr upd
    rw [if_pos (List.contains_iff_mem.2 (cl_self hR ho)), if_pos rfl]
  · have := List.all_eq_true.1 hn p hp
    rw [he] at this
    simp at this
theorem f_none (hV : R.v? i = none) (hn : noF R i = true) (env : Env) (w : World) : R.f i env w := by
  refine ⟨fun V' hV' => ?_, fun p hp he => ?_⟩
  · rw [hV] at hV'; cases hV'
  · have := List.all_eq_true.1 hn p hp
    rw [he] at this
    simp at this
/-- an operation that yields v, whatever it does to the world beyond the call's own memory -/
theorem s_th (ho : R.ops[i]? = some o) (hf : free R i = true)
    (h : ∀ {D env a w}, At R i D env a w → ∀ K : Act → World → Prop, (∀ v w', St R.w0 R.row R.ex w' (R.mem D env) (fun w'' => R.Ψ w'' ∧ ∀ j, D j = true → R.f j env w'') (R.tht (upB D i) (upd env i v)) → (∀ w'', Apart (R.mem D env) R.ex w' w'' → R.f i (upd env i v) w'') → K (a.put o.dst v) w') → if Region.wanted o (yielded R.ops a.tmps) = true then Oper.wp P o a w K Q else K (a.put o.dst undef) w) : SR P Q R i := by
  intro hR hds o' ho' D a w hI hi hp hq K hK
  obtain rfl : o = o' := Option.some.inj (ho.symm.trans ho')
  obtain ⟨env, hJ⟩ := hI
  exact h ⟨hJ, hp, hq, hi, hR, hds⟩ K (fun v w' h1 h2 => hK _ _ ⟨_, J.val hR hJ ho hi hq hf h1 h2⟩)
/-- no owner's operation, and none that turns the state -/
def free' (R : Reg) (i : Nat) : Bool := free R i && noTh R i
theorem s_gen (ho : R.ops[i]? = some o) (hf : free' R i = true)
    (h : ∀ {D env a w}, At R i D env a w → ∀ K : Act → World → Prop, (∀ v w', St R.w0 R.row R.ex w' (R.mem D env) (fun w'' => R.Ψ w'' ∧ ∀ j, D j = true → R.f j env w'') (R.tht D env) → (∀ w'', Apart (R.mem D env) R.ex w' w'' → R.f i (upd env i v) w'') → K (a.put o.dst v) w') → if Region.wanted o (yielded R.ops a.tmps) = true then Oper.wp P o a w K Q else K (a.put o.dst undef) w) : SR P Q R i := by
  intro hR hds o' ho' D a w hI hi hp hq K hK
  obtain rfl : o = o' := Option.some.inj (ho.symm.trans ho')
  obtain ⟨env, hJ⟩ := hI
  unfold free' at hf
  rw [Bool.and_eq_true] at hf
  exact h ⟨hJ, hp, hq, hi, hR, hds⟩ K (fun v w' h1 h2 => hK _ _ ⟨_, J.val hR hJ ho hi hq hf.1 (by rw [tht_off hq hf.2]; exact h1) h2⟩)
theorem s_val (ho : R.ops[i]? = some o) (hf : free' R i = true) {V : Env → Value} (hV : R.v? i = some V)
    (hrun : ∀ {D env a w}, At R i D env a w → Region.wanted o (yielded R.ops a.tmps) = true ∧ (execOp a.eval o).run P w = .ok (.value (V env)) w) (hn : noF R i = true := by rfl) (hr : ∀ env x, V (restr (R.cl.getD i []) (upd env i x)) = V env := by intros; rfl) : SR P Q R i :=
  s_gen ho hf (fun hA K hK => by
    obtain ⟨h1, h2⟩ := hrun hA
    rw [if_pos h1]
    unfold Oper.wp
    rw [h2]
    exact hK _ _ hA.j.st (fun w'' _ => f_val hA.ok ho hV hn hr _ w''))
/-- .. without a guard -/
theorem s_v (ho : R.ops[i]? = some o) (hf : free' R i = true) (hg : o.guard = none) {V : Env → Value} (hV : R.v? i = some V)
    (hrun : ∀ {D env a w}, At R i D env a w → (execOp a.eval o).run P w = .ok (.value (V env)) w) (hn : noF R i = true := by rfl) (hr : ∀ env x, V (restr (R.cl.getD i []) (upd env i x)) = V env := by intros; rfl) : SR P Q R i :=
  s_val ho hf hV (fun hA => ⟨wanted_none hg _, hrun hA⟩) hn hr
theorem eval_tmp {a : Act} {t : Tmp} {v : Value} (h : a.tmps[t]? = some v) : a.eval (.tmp t) = v := by simp [Act.eval, h]
/-- what an operand comes to -/
def opAt (R : Reg) (i : Nat) (env : Env) : Operand → Option Value
  | .const c => some c
  | .tmp t => slotAt R i env t
  | _ => none
theorem At.e (h : At R i D env a w) {x : Operand} {v : Value} (hv : opAt R i env x = some v) : a.eval x = v := by
  cases x with
  | const c => exact Option.some.inj hv
  | tmp t => exact eval_tmp (h.g hv)
  | _ => cases hv
/-- a copy -/
theorem s_mov (ho : R.ops[i]? = some o) (hf : free' R i = true) (hg : o.guard = none) {x : Operand} (hop : o.op = .move x ∨ o.op = .assign x) {V : Env → Value} (hV : R.v? i = some V)
    (h : ∀ env, opAt R i env x = some (V env)) (hn : noF R i = true := by rfl) (hr : ∀ env x, V (restr (R.cl.getD i []) (upd env i x)) = V env := by intros; rfl) : SR P Q R i :=
  s_v ho hf hg hV (fun hA => by
    have e := hA.e (h _)
    rcases hop with h | h <;> simp [execOp, h, e] <;> rfl) hn hr
/-- a part of a tuple -/
theorem s_ext (ho : R.ops[i]? = some o) (hf : free' R i = true) (hg : o.guard = none) {t : Tmp} {ix : Nat} (hop : o.op = .extract (.tmp t) ix) {V : Env → Value} (hV : R.v? i = some V)
    (h : ∀ env, ∃ xs, slotAt R i env t = some (.tuple xs) ∧ xs[ix]? = some (V env)) (hn : noF R i = true := by rfl) (hr : ∀ env x, V (restr (R.cl.getD i []) (upd env i x)) = V env := by intros; rfl) : SR P Q R i :=
  s_v ho hf hg hV (fun {D env a w} hA => by
    obtain ⟨xs, h1, h2⟩ := h env
    simp [execOp, hop, eval_tmp (hA.g h1), Instr.extract, h2] <;> rfl) hn hr
/-- a load out of a variable that was there: hrun: how its type is read -/
theorem s_load (ho : R.ops[i]? = some o) (hf : free' R i = true) (hg : o.guard = none) {T : TypeId} {t : Tmp} (hop : o.op = .load T (.tmp t)) {V : Env → Value} (hV : R.v? i = some V) (m : Nat) {ow : Own} (hm : R.O[m]? = some ow) (hal : ow.al = none) (hs : match ow.st with | none => True | some s => (R.cl.getD s []).contains i = true) {off n : Nat} {v : Value}
    (hp : ∀ env, slotAt R i env t = some (.pointer (some ⟨ow.b0, off, none⟩))) (hrd : ∀ (b : Nat) (w : World), (∀ q x, q < n → ow.c0[off + q]? = some x → w.cell? ⟨b, off + q, none⟩ = some x) → (Instr.loadAt T (.pointer (some ⟨b, off, none⟩))).run P w = .ok v w) (hv : ∀ env, V env = v := by intros; rfl) (hn : noF R i = true := by rfl) : SR P Q R i :=
  s_v ho hf hg hV (fun {D env a w} hA => by
    have hc := hA.own m hm hal hs
    have h1 := hrd ow.b0 w (fun q x hq hx => own_cell hc hx)
    rw [hv env]
    simp [execOp, hop, eval_tmp (hA.g (hp env)), h1]) hn (fun env x => by rw [hv, hv])
theorem s_loadw (ho : R.ops[i]? = some o) (hf : free' R i = true) {T : TypeId} {t : Tmp} (hop : o.op = .load T (.tmp t)) {V : Env → Value} (hV : R.v? i = some V) (m : Nat) {ow : Own} (hm : R.O[m]? = some ow) (hal : ow.al = none) (hs : match ow.st with | none => True | some s => (R.cl.getD s []).contains i = true) {off n : Nat} {v : Value} (hw : ∀ {D env a w}, At R i D env a w → Region.wanted o (yielded R.ops a.tmps) = true)
    (hp : ∀ env, slotAt R i env t = some (.pointer (some ⟨ow.b0, off, none⟩))) (hrd : ∀ (b : Nat) (w : World), (∀ q x, q < n → ow.c0[off + q]? = some x → w.cell? ⟨b, off + q, none⟩ = some x) → (Instr.loadAt T (.pointer (some ⟨b, off, none⟩))).run P w = .ok v w) (hv : ∀ env, V env = v := by intros; rfl) (hn : noF R i = true := by rfl) : SR P Q R i :=
  s_val ho hf hV (fun {D env a w} hA => ⟨hw hA, by
    have hc := hA.own m hm hal hs
    have h1 := hrd ow.b0 w (fun q x hq hx => own_cell hc hx)
    rw [hv env]
    simp [execOp, hop, eval_tmp (hA.g (hp env)), h1]⟩) hn (fun env x => by rw [hv, hv])
/-- an operation whose guard says no -/
theorem s_off (ho : R.ops[i]? = some o) (hf : free' R i = true) (hV : R.v? i = some fun _ => undef)
    (hrun : ∀ {D env a w}, At R i D env a w → Region.wanted o (yielded R.ops a.tmps) = false) (hn : noF R i = true := by rfl) : SR P Q R i :=
  s_gen ho hf (fun hA K hK => by
    rw [hrun hA, if_neg (by simp)]
    exact hK _ _ hA.j.st (fun w'' _ => f_val hA.ok ho hV hn (fun _ _ => rfl) _ w''))
/-- the guard of operation i says yes; no -/
theorem At.gy (h : At R i D env a w) {g : Nat} {u : Bool} {t : Tmp} (hg : o.guard = some (g, u)) (ht : (R.ds[g]?).join = some t) (hv : slotAt R i env t = some (.bool u)) : Region.wanted o (yielded R.ops a.tmps) = true := by
  rw [wanted_some hg (by rw [dstO_ds h.ds]; exact ht) (h.g hv)]; cases u <;> rfl
theorem At.gn (h : At R i D env a w) {g : Nat} {u : Bool} {t : Tmp} (hg : o.guard = some (g, u)) (ht : (R.ds[g]?).join = some t) (hv : slotAt R i env t = some (.bool (!u))) : Region.wanted o (yielded R.ops a.tmps) = false := by
  rw [wanted_some hg (by rw [dstO_ds h.ds]; exact ht) (h.g hv)]; cases u <;> rfl
theorem enters' {f : FuncId} {fn : Func} (hf : P.funcs[f]? = some fn) (hname : (fn.name == "runtime.NumGoroutine") = false) (hb : fn.body.isSome = true) (args : Array Value) (w : World) : (callFunc f args).run P w = .ok (.enter f args) w := by
  have h1 : fn.name ≠ "runtime.NumGoroutine" := by simpa using hname
  obtain ⟨c, hc⟩ := Option.isSome_iff_exists.1 hb
  simp [callFunc, hf, h1, hc]
/-- a call of a Go function -/
theorem s_callx (ho : R.ops[i]? = some o) (hf : free' R i = true) {f : FuncId} {fn : Func} {ps : Array Operand} {ts : Array TypeId} (hop : o.op = .call { callee := .value (.func f), args := ps, argTypes := ts })
    (hfn : P.funcs[f]? = some fn) (hname : (fn.name == "runtime.NumGoroutine") = false) (hb : fn.body.isSome = true)
    (h : ∀ {D env a w}, At R i D env a w → Region.wanted o (yielded R.ops a.tmps) = true ∧ ∃ args, ps.map a.eval = args ∧ Calls P f args w fun e w' => ∃ v, e = .returned v ∧ St R.w0 R.row R.ex w' (R.mem D env) (fun w'' => R.Ψ w'' ∧ ∀ j, D j = true → R.f j env w'') (R.tht D env) ∧ ∀ w'', Apart (R.mem D env) R.ex w' w'' → R.f i (upd env i v) w'') : SR P Q R i :=
  s_gen ho hf (fun {D env a w} hA K hK => by
    obtain ⟨h1, args, ha, hc⟩ := h hA
    rw [if_pos h1]
    unfold Oper.wp
    have hrun : (execOp a.eval o).run P w = .ok (.enter f args) w := by
      have he := enters' hfn hname hb args w
      unfold execOp
      simp [hop, resolve, Deferred.ofValue, invoke, Act.eval, ha, he]
    rw [hrun, Oper.upon_enter]
    refine hc.mono ?_
    rintro e w' ⟨v, rfl, h2, h3⟩
    exact hK v w' h2 h3)
/-- .. that makes memory of its own at most; its value is told -/
theorem s_callw (ho : R.ops[i]? = some o) (hf : free' R i = true) {f : FuncId} {fn : Func} {ps : Array Operand} {ts : Array TypeId} (hop : o.op = .call { callee := .value (.func f), args := ps, argTypes := ts })
    (hfn : P.funcs[f]? = some fn) (hname : (fn.name == "runtime.NumGoroutine") = false) (hb : fn.body.isSome = true) {V : Env → Value} (hV : R.v? i = some V) (hw : ∀ {D env a w}, At R i D env a w → Region.wanted o (yielded R.ops a.tmps) = true)
    (h : ∀ {D env a w}, At R i D env a w → ∃ args, ps.map a.eval = args ∧ Calls P f args w fun e w' => e = .returned (V env) ∧ Below w.heap.size w w') (hn : noF R i = true := by rfl) (hr : ∀ env x, V (restr (R.cl.getD i []) (upd env i x)) = V env := by intros; rfl) : SR P Q R i :=
  s_callx ho hf hop hfn hname hb (fun hA => by
    obtain ⟨args, ha, hc⟩ := h hA
    refine ⟨hw hA, args, ha, hc.mono ?_⟩
    rintro e w' ⟨rfl, hb⟩
    exact ⟨_, rfl, hA.j.st.call hb, fun w'' _ => f_val hA.ok ho hV hn hr _ w''⟩)
theorem s_call (ho : R.ops[i]? = some o) (hf : free' R i = true) {f : FuncId} {fn : Func} {ps : Array Operand} {ts : Array TypeId} (hop : o.op = .call { callee := .value (.func f), args := ps, argTypes := ts })
    (hfn : P.funcs[f]? = some fn) (hname : (fn.name == "runtime.NumGoroutine") = false) (hb : fn.body.isSome = true) (hg : o.guard = none) {V : Env → Value} (hV : R.v? i = some V)
    (h : ∀ {D env a w}, At R i D env a w → ∃ args, ps.map a.eval = args ∧ Calls P f args w fun e w' => e = .returned (V env) ∧ Below w.heap.size w w') (hn : noF R i = true := by rfl) (hr : ∀ env x, V (restr (R.cl.getD i []) (upd env i x)) = V env := by intros; rfl) : SR P Q R i :=
  s_callw ho hf hop hfn hname hb hV (fun _ => wanted_none hg _) h hn hr
/-- .. of whose value something is told -/
theorem s_calle (ho : R.ops[i]? = some o) (hf : free' R i = true) {f : FuncId} {fn : Func} {ps : Array Operand} {ts : Array TypeId} (hop : o.op = .call { callee := .value (.func f), args := ps, argTypes := ts })
    (hfn : P.funcs[f]? = some fn) (hname : (fn.name == "runtime.NumGoroutine") = false) (hb : fn.body.isSome = true) (hg : o.guard = none)
    (h : ∀ {D env a w}, At R i D env a w → ∃ args, ps.map a.eval = args ∧ Calls P f args w fun e w' => ∃ v, e = .returned v ∧ Below w.heap.size w w' ∧ ∀ w'', Apart (R.mem D env) R.ex w' w'' → R.f i (upd env i v) w'') : SR P Q R i :=
  s_callx ho hf hop hfn hname hb (fun hA => by
    obtain ⟨args, ha, hc⟩ := h hA
    refine ⟨wanted_none hg _, args, ha, hc.mono ?_⟩
    rintro e w' ⟨v, rfl, hb, h3⟩
    exact ⟨v, rfl, hA.j.st.call hb, h3⟩)
/-- .. that may write the state's block -/
theorem s_callg (ho : R.ops[i]? = some o) (hf : free' R i = true) {f : FuncId} {fn : Func} {ps : Array Operand} {ts : Array TypeId} (hop : o.op = .call { callee := .value (.func f), args := ps, argTypes := ts })
    (hfn : P.funcs[f]? = some fn) (hname : (fn.name == "runtime.NumGoroutine") = false) (hb : fn.body.isSome = true) (hg : o.guard = none) {V : Env → Value} (hV : R.v? i = some V) (g : Nat) (hx : R.ex = some g)
    (h : ∀ {D env a w}, At R i D env a w → ∃ args, ps.map a.eval = args ∧ Calls P f args w fun e w' => e = .returned (V env) ∧ w.grownBy w' (some g) ∧ ∀ w'', Apart (R.mem D env) none w' w'' → R.tht D env w'') (hn : noF R i = true := by rfl) (hr : ∀ env x, V (restr (R.cl.getD i []) (upd env i x)) = V env := by intros; rfl) : SR P Q R i :=
  s_callx ho hf hop hfn hname hb (fun hA => by
    obtain ⟨args, ha, hc⟩ := h hA
    refine ⟨wanted_none hg _, args, ha, hc.mono ?_⟩
    rintro e w' ⟨rfl, hb, h3⟩
    exact ⟨_, rfl, hA.j.st.callg hx hb h3, fun w'' _ => f_val hA.ok ho hV hn hr _ w''⟩)
/-- a making (alloc, box) -/
theorem s_alloc (ho : R.ops[i]? = some o) (hg : o.guard = none) (m : Nat) {ow : Own} (hm : R.O[m]? = some ow) (hal : ow.al = some i) (hV : R.v? i = some fun env => .pointer (some ⟨pb env i, 0, none⟩))
    (hrun : ∀ {D env a w}, At R i D env a w → (execOp a.eval o).run P w = .ok (.value (.pointer (some ⟨w.heap.size, 0, none⟩))) (w.alloc (.cells ow.c0.toArray ow.T (0, 0)))) (hn : noF R i = true := by rfl) (hnt : noTh R i = true := by rfl) : SR P Q R i := by
  intro hR hds o' ho' D a w hI hi hp hq K hK
  obtain rfl : o = o' := Option.some.inj (ho.symm.trans ho')
  obtain ⟨env, hJ⟩ := hI
  rw [if_pos (wanted_none hg _)]
  unfold Oper.wp
  rw [hrun ⟨hJ, hp, hq, hi, hR, hds⟩]
  refine hK _ _ ⟨_, J.mk_ hR hJ ho hi hq m hm hal hnt (v := .pointer (some ⟨w.heap.size, 0, none⟩)) rfl (fun w'' => ⟨fun V' hV' => ?_, fun p hp he => ?_⟩)⟩
  · rw [hV] at hV'
    obtain rfl := Option.some.inj hV'
    have e : restr (R.cl.getD i []) (upd env i (.pointer (some ⟨w.heap.size, 0, none⟩))) i = .pointer (some ⟨w.heap.size, 0, none⟩) := by
      unfold restr upd
      rw [if_pos (List.contains_iff_mem.2 (cl_self hR ho)), if_pos rfl]
    simp only [pb, e, ptrB]
  · have := List.all_eq_true.1 hn p hp
    rw [he] at this
    simp at this
/-- stores, by where the block comes from -/
theorem s_storeE (ho : R.ops[i]? = some o) (hg : o.guard = none) (m : Nat) {ow : Own} (hm : R.O[m]? = some ow) (hs : ow.st = some i) (hal : ow.al = none)
    (hrun : ∀ {D env a w}, At R i D env a w → w.heap[ow.b0]? = some (.cells ow.c0.toArray ow.T (0, 0)) → ∃ w', (execOp a.eval o).run P w = .ok .skip w' ∧ Put w w' ow.b0 (.cells (ow.c1 (restr (R.cl.getD i []) (upd env i undef))).toArray ow.T (0, 0))) (hV : R.v? i = none := by rfl) (hn : noF R i = true := by rfl) (hnt : noTh R i = true := by rfl) : SR P Q R i := by
  intro hR hds o' ho' D a w hI hi hp hq K hK
  obtain rfl : o = o' := Option.some.inj (ho.symm.trans ho')
  obtain ⟨env, hJ⟩ := hI
  have hb : ow.blk env = ow.b0 := by unfold Own.blk; rw [hal]
  have hA : At R i D env a w := ⟨hJ, hp, hq, hi, hR, hds⟩
  have hc := hA.own m hm hal (by rw [hs]; exact List.contains_iff_mem.2 (cl_self hR ho))
  obtain ⟨w', h1, h2⟩ := hrun hA hc
  rw [if_pos (wanted_none hg _)]
  unfold Oper.wp
  rw [h1]
  exact hK _ _ ⟨_, J.store hR hJ ho hi hp hq m hm hs (by rw [hb]; exact h2) hnt (fun w'' => f_none hV hn _ w'')⟩
theorem s_storeN (ho : R.ops[i]? = some o) (hg : o.guard = none) (m k : Nat) {ow : Own} (hm : R.O[m]? = some ow) (hs : ow.st = some i) (hal : ow.al = some k) (hk : R.v? k = some fun env => .pointer (some ⟨pb env k, 0, none⟩))
    (hrun : ∀ {D env a w}, At R i D env a w → w.heap[pb env k]? = some (.cells ow.c0.toArray ow.T (0, 0)) → ∃ w', (execOp a.eval o).run P w = .ok .skip w' ∧ Put w w' (pb env k) (.cells (ow.c1 (restr (R.cl.getD i []) (upd env i undef))).toArray ow.T (0, 0))) (hV : R.v? i = none := by rfl) (hn : noF R i = true := by rfl) (hnt : noTh R i = true := by rfl) : SR P Q R i := by
  intro hR hds o' ho' D a w hI hi hp hq K hK
  obtain rfl : o = o' := Option.some.inj (ho.symm.trans ho')
  obtain ⟨env, hJ⟩ := hI
  have hown := regOk_own hR hm
  have hki := hown.1 k i hal hs
  have hb : ow.blk env = pb env k := by unfold Own.blk; rw [hal]
  have hA : At R i D env a w := ⟨hJ, hp, hq, hi, hR, hds⟩
  have hc := hA.cells m hm (by rw [hal]; simp only [Bool.and_eq_true, List.contains_iff_mem, Bool.not_eq_true', beq_eq_false_iff_ne]; exact hki) (by rw [hs]; exact List.contains_iff_mem.2 (cl_self hR ho))
  rw [hb] at hc
  obtain ⟨w', h1, h2⟩ := hrun hA hc
  rw [if_pos (wanted_none hg _)]
  unfold Oper.wp
  rw [h1]
  exact hK _ _ ⟨_, J.store hR hJ ho hi hp hq m hm hs (by rw [hb]; exact h2) hnt (fun w'' => f_none hV hn _ w'')⟩

/-! ### the region -/
def allD (N : Nat) : Nat → Bool := fun j => Nat.blt j N
theorem steps_nil {p : Nat → Prop} : ∀ i, i < 0 → p i := fun i h => absurd h (Nat.not_lt_zero i)
theorem steps_snoc {p : Nat → Prop} {n : Nat} (h : ∀ i, i < n → p i) (h1 : p n) : ∀ i, i < n + 1 → p i := fun i hi => by
  rcases Nat.lt_or_eq_of_le (Nat.le_of_lt_succ hi) with h2 | rfl
  · exact h i h2
  · exact h1
/-- where the walk stands -/
structure Cur (n : Nat) (w0 : World) (row ex : Option Nat) (Ψ Θ : World → Prop) (L : Slots) (M : List Ent) (a : Act) (w : World) : Prop where
  sz : a.tmps.size = n
  df : a.defers = []
  st : St w0 row ex w (mem M) Ψ Θ
  sl : ∀ t v, lk L t = some v → a.tmps[t]? = some v
theorem elders_get (S : List Sto) : ∀ (M : List Ent) (k m : Nat), (elders S M k)[m]? = (M[m]?).map fun e => match stAt S (k + m) with
    | none => { b0 := e.1, T := e.2.1, c0 := e.2.2 }
    | some s => { b0 := e.1, T := e.2.1, c0 := e.2.2, st := some s.s, c1 := s.c1 }
  | [], _, _ => by simp [elders]
  | e :: M, k, 0 => by simp only [elders, List.getElem?_cons_zero, Option.map_some, Nat.add_zero]; cases stAt S k <;> rfl
  | e :: M, k, m + 1 => by
    simp only [elders, List.getElem?_cons_succ]
    rw [elders_get S M (k + 1) m]
    have : k + 1 + m = k + (m + 1) := by omega
    rw [this]
theorem elders_len (S : List Sto) : ∀ (M : List Ent) (k : Nat), (elders S M k).length = M.length
  | [], _ => rfl
  | e :: M, k => by simp [elders, elders_len S M (k + 1)]
theorem mem_start (R : Reg) (m : Nat) : R.mem (fun _ => false) (fun _ => undef) m = mem R.M m := by
  unfold Reg.mem Reg.O mem
  by_cases hm : m < R.M.length
  · rw [List.getElem?_append_left (by rw [elders_len]; exact hm), elders_get]
    rw [List.getElem?_eq_getElem hm]
    simp only [Option.map_some]
    cases hs : stAt R.S (0 + m) with
    | none => simp [Own.on, Own.blk, Own.cs]
    | some s => simp [Own.on, Own.blk, Own.cs]
  · rw [List.getElem?_append_right (by rw [elders_len]; omega)]
    rw [List.getElem?_eq_none (l := R.M) (by omega)]
    unfold news
    rw [List.getElem?_map]
    cases R.W[m - (elders R.S R.M 0).length]? with
    | none => rfl
    | some n => simp [Own.on]
structure End (R : Reg) (env : Env) (a : Act) (w : World) : Prop where
  j : J R (allD R.ops.size) env a w
  ok : regOk R = true
  ds : dsOk R
theorem reg_cur {ops : Array Oper} {id n : Nat} {draw : Bool} {w0 : World} {row ex : Option Nat} {Ψ Θ : World → Prop} {L : Slots} {M : List Ent} (hm : P.follows .mixedOrders = true) (h : Cur n w0 row ex Ψ Θ L M a w) (ds : List (Option Tmp)) (cl : List (List Nat)) (S : List Sto) (W : List New) (V : List (Option (Env → Value))) (F : List (Nat × (Env → World → Prop))) (th : Option (Nat × (Env → World → Prop)))
    (hds : ops.toList.map (·.dst) = ds) (hR : regOk ⟨ops, ds, cl, S, W, V, F, n, a, L, M, w0, row, ex, Ψ, Θ, th⟩ = true)
    (hs : ∀ i, i < ops.size → SR P Q ⟨ops, ds, cl, S, W, V, F, n, a, L, M, w0, row, ex, Ψ, Θ, th⟩ i)
    (hend : ∀ env a' w', End ⟨ops, ds, cl, S, W, V, F, n, a, L, M, w0, row, ex, Ψ, Θ, th⟩ env a' w' → Q .normal a' w') : (Code.region id ops draw).wp P Q a w := by
  have hJ : ∀ w', St w0 row ex w' (mem M) Ψ Θ → RI ⟨ops, ds, cl, S, W, V, F, n, a, L, M, w0, row, ex, Ψ, Θ, th⟩ (fun _ => false) a w' := fun w' h' =>
    ⟨fun _ => undef, h.sz, h.df, fun t _ => rfl, fun j t hj => (by cases hj), (h'.ext (fun m => mem_start _ m)).mono (fun w'' h => ⟨h, fun i hi => by cases hi⟩) (fun _ h => by cases th <;> exact h), h.sl⟩
  refine reg_inv (cl := cl) (I := RI ⟨ops, ds, cl, S, W, V, F, n, a, L, M, w0, row, ex, Ψ, Θ, th⟩) hm (regOk_cl hR) (hJ w h.st) (fun _ => hJ _ h.st.drew) (fun i hi => hs i hi hR hds) (fun D a' w' hD hI => ?_)
  obtain ⟨env, hJ'⟩ := hI
  have e : D = allD ops.size := by funext j; rw [hD j]; rfl
  rw [e] at hJ'
  exact hend env a' w' ⟨hJ', hR, hds⟩
def endM (R : Reg) (env : Env) : List Ent := R.O.map fun o => (o.blk env, o.T, match o.st with
  | none => o.c0
  | some s => o.c1 (restr (R.cl.getD s []) env))
/-- all an owner's operations are the region's -/
def ownIn (R : Reg) (N : Nat) : Bool := R.O.all fun o => (match o.al with | none => true | some i => Nat.blt i N) && (match o.st with | none => true | some i => Nat.blt i N)
theorem J.cur (hR : regOk R = true) (hds : dsOk R) (h : J R (allD R.ops.size) env a w) {L : Slots} {M : List Ent} (hL : L.map (fun e => slotEnd R env e.1) = L.map (fun e => some e.2)) (hM : endM R env = M) (hO : ownIn R R.ops.size = true) {T : World → Prop} (hT : ∀ w, R.tht (allD R.ops.size) env w → T w) : Cur R.n R.w0 R.row R.ex R.Ψ T L M a w := by
  refine ⟨h.sz, h.df, (h.st.ext (fun m => ?_)).mono (fun _ h => h.1) hT, fun t v ht => ?_⟩
  · rw [← hM]
    unfold mem endM Reg.mem
    rw [List.getElem?_map]
    cases hm : R.O[m]? with
    | none => rfl
    | some o =>
      have h1 := List.all_eq_true.1 hO o (List.mem_of_getElem? hm)
      simp only [Bool.and_eq_true] at h1
      have hon : o.on (allD R.ops.size) = true := by
        unfold Own.on
        cases ha : o.al with
        | none => rfl
        | some i => rw [ha] at h1; exact h1.1
      have hcs : o.cs R.cl (allD R.ops.size) env = (match o.st with | none => o.c0 | some s => o.c1 (restr (R.cl.getD s []) env)) := by
        unfold Own.cs
        cases hs : o.st with
        | none => rfl
        | some s =>
          have h2 : allD R.ops.size s = true := by rw [hs] at h1; exact h1.2
          simp only [h2, if_true]
      simp only [Option.map_some, hon, if_true, hcs]
  · have key : ∀ (L : Slots), L.map (fun e => slotEnd R env e.1) = L.map (fun e => some e.2) → lk L t = some v → slotEnd R env t = some v := by
      intro L
      induction L with
      | nil => intro _ h; cases h
      | cons e r ih =>
        intro h1 h2
        simp only [List.map_cons, List.cons.injEq] at h1
        unfold lk at h2
        by_cases he : Nat.beq e.1 t = true
        · rw [if_pos he] at h2
          rw [← Nat.eq_of_beq_eq_true he, h1.1, h2]
        · rw [if_neg he] at h2
          exact ih h1.2 h2
    have h1 := key L hL ht
    unfold slotEnd at h1
    split at h1
    · rename_i j hj
      have h2 := List.find?_some hj
      have hd := (isD_spec hds).1 h2
      have hlt : j < R.ops.size := by
        obtain ⟨o, ho⟩ := op_of_dst hd
        exact (Array.getElem?_eq_some_iff.1 ho).1
      have hD : allD R.ops.size j = true := blt_yes hlt
      rw [← Option.some.inj h1, val_of hR hd (h.fact hD)]
      exact h.new j t hD hd
    · rename_i hj
      rw [← h.sl t v h1]
      refine h.old t (fun j hj' e => ?_)
      have h3 := List.find?_eq_none.1 hj j (List.mem_range.2 (lt_of_dst hds e))
      exact h3 ((isD_spec hds).2 e)
theorem End.cur (h : End R env a w) {L : Slots} {M : List Ent} (hL : L.map (fun e => slotEnd R env e.1) = L.map (fun e => some e.2)) (hM : endM R env = M) (hO : ownIn R R.ops.size = true) {T : World → Prop} (hT : ∀ w, R.tht (allD R.ops.size) env w → T w) : Cur R.n R.w0 R.row R.ex R.Ψ T L M a w := h.j.cur h.ok h.ds hL hM hO hT
theorem End.tell (h : End R env a w) (j : Nat) (hj : Nat.blt j R.ops.size = true) : R.f j env w := h.j.fact hj
theorem s0 {p : Nat → Prop} : ∀ i, i < 0 → p i := steps_nil
theorem sn {p : Nat → Prop} {n : Nat} (h : ∀ i, i < n → p i) (h1 : p n) : ∀ i, i < n + 1 → p i := steps_snoc h h1
/-- what operands come to, all at once -/
theorem At.args (h : At R i D env a w) {ps : Array Operand} {vs : List Value} (hv : ps.toList.map (opAt R i env) = vs.map some) : ps.map a.eval = vs.toArray := by
  apply Array.ext'
  rw [Array.toList_map]
  have key : ∀ (l : List Operand) (vs : List Value), l.map (opAt R i env) = vs.map some → l.map a.eval = vs := by
    intro l
    induction l with
    | nil => intro vs h; cases vs with
      | nil => rfl
      | cons _ _ => cases h
    | cons x l ih => intro vs h1; cases vs with
      | nil => cases h1
      | cons v vs =>
        simp only [List.map_cons, List.cons.injEq] at h1 ⊢
        exact ⟨h.e h1.1, ih vs h1.2⟩
  exact key _ _ hv
/-- a store into a variable that was there -/
theorem s_stE (ho : R.ops[i]? = some o) (hg : o.guard = none) {T : TypeId} {t : Tmp} {x : Operand} (hop : o.op = .store T (.tmp t) x) (m : Nat) {ow : Own} (hm : R.O[m]? = some ow) (hs : ow.st = some i) (hal : ow.al = none) {off : Nat} {v : Env → Value} {cs : Env → List Value}
    (hp : ∀ env, slotAt R i env t = some (.pointer (some ⟨ow.b0, off, none⟩))) (hx : ∀ env, opAt R i env x = some (v env)) (hst : ∀ (env : Env) (b : Nat) (w : World), w.heap[b]? = some (.cells ow.c0.toArray ow.T (0, 0)) → ∃ w', (Instr.storeAt T (.pointer (some ⟨b, off, none⟩)) (v env)).run P w = .ok () w' ∧ Put w w' b (.cells (cs env).toArray ow.T (0, 0)))
    (hc : ∀ env y, ow.c1 (restr (R.cl.getD i []) (upd env i y)) = cs env := by intros; rfl) (hV : R.v? i = none := by rfl) (hn : noF R i = true := by rfl) (hnt : noTh R i = true := by rfl) : SR P Q R i :=
  s_storeE ho hg m hm hs hal (fun {D env a w} hA hh => by
    obtain ⟨w', h1, h2⟩ := hst env ow.b0 w hh
    rw [hc]
    exact ⟨w', by simp [execOp, hop, eval_tmp (hA.g (hp env)), hA.e (hx env), h1], h2⟩) hV hn hnt
/-- .. into one that the region makes -/
theorem s_stN (ho : R.ops[i]? = some o) (hg : o.guard = none) {T : TypeId} {t : Tmp} {x : Operand} (hop : o.op = .store T (.tmp t) x) (m k : Nat) {ow : Own} (hm : R.O[m]? = some ow) (hs : ow.st = some i) (hal : ow.al = some k) (hk : R.v? k = some fun env => .pointer (some ⟨pb env k, 0, none⟩)) {v : Env → Value} {cs : Env → List Value}
    (hp : isD R.ds t k = true) (hx : ∀ env, opAt R i env x = some (v env)) (hst : ∀ (env : Env) (b : Nat) (w : World), w.heap[b]? = some (.cells ow.c0.toArray ow.T (0, 0)) → ∃ w', (Instr.storeAt T (.pointer (some ⟨b, 0, none⟩)) (v env)).run P w = .ok () w' ∧ Put w w' b (.cells (cs env).toArray ow.T (0, 0)))
    (hc : ∀ env y, ow.c1 (restr (R.cl.getD i []) (upd env i y)) = cs env := by intros; rfl) (hV : R.v? i = none := by rfl) (hn : noF R i = true := by rfl) (hnt : noTh R i = true := by rfl) : SR P Q R i := fun hR hds =>
  s_storeN ho hg m k hm hs hal hk (fun {D env a w} hA hh => by
    obtain ⟨w', h1, h2⟩ := hst env (pb env k) w hh
    rw [hc]
    have hki := (regOk_own hA.ok hm).1 k i hal hs
    have e1 := hA.slot k (by simp only [Bool.and_eq_true, List.contains_iff_mem, Bool.not_eq_true', beq_eq_false_iff_ne]; exact hki) hp
    have e2 := (hA.j.fact (hA.p k hki.1 hki.2)).1 _ hk
    obtain ⟨ok, hok⟩ := op_of_dst ((isD_spec hA.ds).1 hp)
    have e3 : env k = .pointer (some ⟨pb env k, 0, none⟩) := by
      have hself := cl_self hA.ok hok
      unfold pb restr at e2
      rw [if_pos (List.contains_iff_mem.2 hself)] at e2
      exact e2
    rw [e3] at e1
    exact ⟨w', by simp [execOp, hop, eval_tmp e1, hA.e (hx env), h1], h2⟩) hV hn hnt hR hds
theorem Cur.g {n : Nat} {w0 : World} {row ex : Option Nat} {Ψ Θ : World → Prop} {L : Slots} {M : List Ent} (h : Cur n w0 row ex Ψ Θ L M a w) {t : Tmp} {v : Value} (ht : lk L t = some v) : a.tmps[t]? = some v := h.sl t v ht
end

/-! ### code around regions; a function's begin and end -/
section
variable {P : Program} {Q : Exit → Act → World → Prop} {a : Act} {w : World}
theorem then_n {K : Act → World → Prop} (h : K a w) : Exit.then K Q .normal a w := h
theorem then_ret {K : Act → World → Prop} (h : Q .ret a w) : Exit.then K Q .ret a w := h
theorem St.start (w : World) {Θ : World → Prop} (hT : ∀ w', Apart (mem []) none w w' → Θ w') : St w none none w (mem []) (fun _ => True) Θ :=
  ⟨⟨rfl, rfl, rfl, Nat.le_refl _, fun _ _ _ => rfl⟩, fun m m' e e' h => (by simp [mem] at h), fun m e h => (by simp [mem] at h), fun g hg => (by cases hg), fun _ _ => trivial, hT⟩
theorem St.below {w0 w : World} {ex : Option Nat} {M : Mem} {Ψ Θ : World → Prop} (h : St w0 none ex w M Ψ Θ) : Below w0.heap.size w0 w :=
  ⟨h.gr.os, h.gr.tape, h.gr.output, h.gr.size, fun k hk => h.gr.block k hk (by simp)⟩
theorem enter {f : FuncId} {fn : Func} {c : Code} {args : Array Value} {n : Nat} {R : Ending → World → Prop} (hf : P.funcs[f]? = some fn) (hb : fn.body = some c) (hn : fn.ntmps = n) (hle : args.size ≤ n)
    {row ex : Option Nat} {Θ : World → Prop} {L : Slots} (hst : St w row ex w (mem []) (fun _ => True) Θ) (hL : ∀ t v, lk L t = some v → args[t]? = some v)
    (h : ∀ a : Act, Cur n w row ex (fun _ => True) Θ L [] a w → c.wp P (bodyPost P fn R) a w) : Calls P f args w R := by
  refine calls_of_wp hf hb (h _ ⟨?_, rfl, hst, fun i v hv => ?_⟩)
  · simp [hn]; omega
  · have hv := hL i v hv
    have hi : i < args.size := (Array.getElem?_eq_some_iff.1 hv).1
    rw [← hv]
    simp [Array.getElem?_append, hi]
theorem lk_args {L : Slots} {args : Array Value} (h : L.map (fun e => args.toList[e.1]?) = L.map (fun e => some e.2)) : ∀ t v, lk L t = some v → args[t]? = some v := by
  intro t v
  induction L with
  | nil => intro h; cases h
  | cons e r ih =>
    intro h2
    simp only [List.map_cons, List.cons.injEq] at h
    unfold lk at h2
    by_cases he : Nat.beq e.1 t = true
    · rw [if_pos he] at h2
      have := Nat.eq_of_beq_eq_true he
      subst this
      rw [← Array.getElem?_toList, h.1, h2]
    · rw [if_neg he] at h2
      exact ih h.2 h2
theorem leave {fn : Func} {R : Ending → World → Prop} {v : Value} (hdf : a.defers = []) (hr : (results fn a.tmps).run P w = .ok v w) (h : R (.returned v) w) : bodyPost P fn R .ret a w := ⟨hdf, v, hr, h⟩
theorem leave_n {fn : Func} {R : Ending → World → Prop} {v : Value} (hdf : a.defers = []) (hr : (results fn a.tmps).run P w = .ok v w) (h : R (.returned v) w) : bodyPost P fn R .normal a w := ⟨hdf, v, hr, h⟩
end
/-- the call of f answers v, whatever the world; it makes memory of its own at most -/
def Ret (f : FuncId) (args : Array Value) (v : Value) : Prop := ∀ w : World, Calls Try.prog f args w fun e w' => e = .returned v ∧ Below w.heap.size w w'
/-- a call whose contract is a Ret -/
theorem s_c {R : Reg} {Q : Exit → Act → World → Prop} {i : Nat} {o : Oper} (ho : R.ops[i]? = some o) (hf : free' R i = true) {f : FuncId} {fn : Func} {ps : Array Operand} {ts : Array TypeId} (hop : o.op = .call { callee := .value (.func f), args := ps, argTypes := ts })
    (hfn : Try.prog.funcs[f]? = some fn) (hname : (fn.name == "runtime.NumGoroutine") = false) (hb : fn.body.isSome = true) (hg : o.guard = none) {V : Env → Value} (hV : R.v? i = some V)
    (h : ∀ env, ∃ vs : List Value, Ret f vs.toArray (V env) ∧ ps.toList.map (opAt R i env) = vs.map some) (hn : noF R i = true := by rfl) (hr : ∀ env x, V (restr (R.cl.getD i []) (upd env i x)) = V env := by intros; rfl) : SR Try.prog Q R i :=
  s_call ho hf hop hfn hname hb hg hV (fun {D env a w} hA => by
    obtain ⟨vs, h1, h2⟩ := h env
    exact ⟨vs.toArray, hA.args h2, h1 w⟩) hn hr
theorem s_cw {R : Reg} {Q : Exit → Act → World → Prop} {i : Nat} {o : Oper} (ho : R.ops[i]? = some o) (hf : free' R i = true) {f : FuncId} {fn : Func} {ps : Array Operand} {ts : Array TypeId} (hop : o.op = .call { callee := .value (.func f), args := ps, argTypes := ts })
    (hfn : Try.prog.funcs[f]? = some fn) (hname : (fn.name == "runtime.NumGoroutine") = false) (hb : fn.body.isSome = true) {V : Env → Value} (hV : R.v? i = some V) (hw : ∀ {D env a w}, At R i D env a w → Region.wanted o (yielded R.ops a.tmps) = true)
    (h : ∀ env, ∃ vs : List Value, Ret f vs.toArray (V env) ∧ ps.toList.map (opAt R i env) = vs.map some) (hn : noF R i = true := by rfl) (hr : ∀ env x, V (restr (R.cl.getD i []) (upd env i x)) = V env := by intros; rfl) : SR Try.prog Q R i :=
  s_callw ho hf hop hfn hname hb hV hw (fun {D env a w} hA => by
    obtain ⟨vs, h1, h2⟩ := h env
    exact ⟨vs.toArray, hA.args h2, h1 w⟩) hn hr
theorem Ret.eq {f : FuncId} {args : Array Value} {v v' : Value} (h : Ret f args v) (e : v = v') : Ret f args v' := e ▸ h
theorem mixed : Try.prog.follows .mixedOrders = true := by kernel_rfl
end Go.Proofs.Ytdfkghpgekmmlaa
