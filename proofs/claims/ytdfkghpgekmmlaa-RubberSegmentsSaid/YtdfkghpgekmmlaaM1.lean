/- Short words for walks: the steps with their parts found by themselves; a region of n operations in one word (printed by my m1.py). -/
import Derived.Test.YtdfkghpgekmmlaaL4
import Derived.Scope
import Derived.IntWalk
namespace Go.Proofs.Ytdfkghpgekmmlaa
open Go.RowKit
set_option linter.unusedVariables false
set_option linter.unusedSimpArgs false
attribute [local go_sem] vW vM vL vT2 vT3 vP vI execOp Act.eval hi_zero lo_zero
abbrev K_ (v : Value) : Option (Env → Value) := some fun _ => v
abbrev vN (n : Nat) : Value := .int .i64 (n : Int)
abbrev bT : Value := .bool true
abbrev bF : Value := .bool false
/-- the numbers below n -/
def r_ (n : Nat) : List Nat := List.range n
/-- each waits for all ahead of it -/
def tri (n : Nat) : List (List Nat) := (List.range n).map fun i => List.range (i + 1)
abbrev KE_ (f : Env → Value) : Option (Env → Value) := some f
/-- the value of an operand that is one -/
def evC : Operand → Value
  | .const c => c
  | _ => undef
attribute [local go_sem] evC
section
variable {P : Program} {Q : Exit → Act → World → Prop} {R : Reg} {i : Nat} {o : Oper}

theorem mv_ {x : Operand} (ho : R.ops[i]? = some o := by rfl) (hf : free' R i = true := by rfl) (hg : o.guard = none := by rfl) (hop : o.op = .move x ∨ o.op = .assign x := by first | exact .inl rfl | exact .inr rfl) {V : Env → Value} (hV : R.v? i = some V := by rfl) (h : ∀ env, opAt R i env x = some (V env) := by intro _; rfl) (hn : noF R i = true := by rfl) (hr : ∀ env x, V (restr (R.cl.getD i []) (upd env i x)) = V env := by intros; rfl) : SR P Q R i := s_mov ho hf hg hop hV h hn hr
theorem At.gu {D : Nat → Bool} {env : Env} {a : Act} {w : World} (h : At R i D env a w) {g : Nat} {u : Bool} {t : Tmp} (hg : o.guard = some (g, u)) (ht : (R.ds[g]?).join = some t) (hv : slotAt R i env t = some undef) : Region.wanted o (yielded R.ops a.tmps) = false := by
  have ht' : dstO R.ops g = some t := by rw [dstO_ds h.ds]; exact ht
  have hv' := h.g hv
  unfold Region.wanted dstO at *
  rw [hg]
  cases ho : R.ops[g]? with
  | none => rw [ho] at ht'; cases ht'
  | some og =>
    rw [ho] at ht'
    simp only [Option.bind_some] at ht'
    cases u <;> simp [yielded, ho, ht', hv', undef]
theorem off_ (ho : R.ops[i]? = some o := by rfl) (hf : free' R i = true := by rfl) (hV : R.v? i = some (fun _ => undef) := by rfl) (hrun : ∀ D env a w, At R i D env a w → Region.wanted o (yielded R.ops a.tmps) = false := by intro D env a w hA; first | exact hA.gn rfl rfl rfl | exact hA.gu rfl rfl rfl) (hn : noF R i = true := by rfl) : SR P Q R i := s_off ho hf hV (fun hA => hrun _ _ _ _ hA) hn
theorem ext_ {t : Tmp} {ix : Nat} (ho : R.ops[i]? = some o := by rfl) (hf : free' R i = true := by rfl) (hg : o.guard = none := by rfl) (hop : o.op = .extract (.tmp t) ix := by rfl) {V : Env → Value} (hV : R.v? i = some V := by rfl) (h : ∀ env, ∃ xs, slotAt R i env t = some (.tuple xs) ∧ xs[ix]? = some (V env) := by intro _; exact ⟨_, rfl, rfl⟩) (hn : noF R i = true := by rfl) (hr : ∀ env x, V (restr (R.cl.getD i []) (upd env i x)) = V env := by intros; rfl) : SR P Q R i := s_ext ho hf hg hop hV h hn hr
theorem bi_ {k : BinOp} {T T2 : TypeId} {x y : Operand} (vx vy : Env → Value) (ho : R.ops[i]? = some o := by rfl) (hf : free' R i = true := by rfl) (hop : o.op = .binOp k T x y T2 := by rfl) {V : Env → Value} (hV : R.v? i = some V := by rfl) (hx : ∀ env, opAt R i env x = some (vx env) := by intro _; rfl) (hy : ∀ env, opAt R i env y = some (vy env) := by intro _; rfl)
    (h : ∀ env w, Sem.run P (do eqGuard k T x y (vx env) (vy env); binOp k T (vx env) (vy env)) w = .ok (V env) w := by intro env w; first | (simp [go_sem]; done) | (simp [go_sem]; omega) | (simp [go_sem]; exact IntWalk.i64_in _ (by omega))) (hw : ∀ D env a w, At R i D env a w → Region.wanted o (yielded R.ops a.tmps) = true := by intro D env a w hA; first | exact wanted_none rfl _ | exact hA.gy rfl rfl rfl) (hn : noF R i = true := by rfl) (hr : ∀ env x, V (restr (R.cl.getD i []) (upd env i x)) = V env := by intros; rfl) : SR P Q R i :=
  s_val ho hf hV (fun {D env a w} hA => ⟨hw _ _ _ _ hA, by
    have h1 := h env w
    have ex := hA.e (hx env); have ey := hA.e (hy env)
    unfold execOp
    simp only [hop, ex, ey]
    rw [Sem.run_bind, h1]
    rfl⟩) hn hr
theorem un_ {k : UnOp} {T : TypeId} {x : Operand} (vx : Env → Value) (ho : R.ops[i]? = some o := by rfl) (hf : free' R i = true := by rfl) (hop : o.op = .unOp k T x := by rfl) {V : Env → Value} (hV : R.v? i = some V := by rfl) (hx : ∀ env, opAt R i env x = some (vx env) := by intro _; rfl)
    (h : ∀ env w, (execOp evC { o with op := .unOp k T (.const (vx env)) }).run P w = .ok (.value (V env)) w := by intro env w; first | (simp [go_sem]; done) | (simp [go_sem]; omega) | (simp [go_sem]; exact IntWalk.i64_in _ (by omega))) (hw : ∀ D env a w, At R i D env a w → Region.wanted o (yielded R.ops a.tmps) = true := by intro D env a w hA; first | exact wanted_none rfl _ | exact hA.gy rfl rfl rfl) (hn : noF R i = true := by rfl) (hr : ∀ env x, V (restr (R.cl.getD i []) (upd env i x)) = V env := by intros; rfl) : SR P Q R i :=
  s_val ho hf hV (fun {D env a w} hA => ⟨hw _ _ _ _ hA, by
    have h1 := h env w
    have ex := hA.e (hx env)
    unfold execOp at h1 ⊢
    simp only [hop, evC, ex] at h1 ⊢
    exact h1⟩) hn hr
theorem cv_ {T T2 : TypeId} {x : Operand} (vx : Env → Value) (ho : R.ops[i]? = some o := by rfl) (hf : free' R i = true := by rfl) (hop : o.op = .convert T T2 x := by rfl) {V : Env → Value} (hV : R.v? i = some V := by rfl) (hx : ∀ env, opAt R i env x = some (vx env) := by intro _; rfl)
    (h : ∀ env w, (execOp evC { o with op := .convert T T2 (.const (vx env)) }).run P w = .ok (.value (V env)) w := by intro env w; first | (simp [go_sem]; done) | (simp [go_sem]; omega) | (simp [go_sem]; exact IntWalk.i64_in _ (by omega))) (hw : ∀ D env a w, At R i D env a w → Region.wanted o (yielded R.ops a.tmps) = true := by intro D env a w hA; first | exact wanted_none rfl _ | exact hA.gy rfl rfl rfl) (hn : noF R i = true := by rfl) (hr : ∀ env x, V (restr (R.cl.getD i []) (upd env i x)) = V env := by intros; rfl) : SR P Q R i :=
  s_val ho hf hV (fun {D env a w} hA => ⟨hw _ _ _ _ hA, by
    have h1 := h env w
    have ex := hA.e (hx env)
    unfold execOp at h1 ⊢
    simp only [hop, evC, ex] at h1 ⊢
    exact h1⟩) hn hr
theorem fl_ {T : TypeId} {k : Nat} {x : Operand} (vx : Env → Value) (ho : R.ops[i]? = some o := by rfl) (hf : free' R i = true := by rfl) (hop : o.op = .field T x k := by rfl) {V : Env → Value} (hV : R.v? i = some V := by rfl) (hx : ∀ env, opAt R i env x = some (vx env) := by intro _; rfl)
    (h : ∀ env w, (execOp evC { o with op := .field T (.const (vx env)) k }).run P w = .ok (.value (V env)) w := by intro env w; simp [go_sem, Instr.field, part, asAgg]) (hw : ∀ D env a w, At R i D env a w → Region.wanted o (yielded R.ops a.tmps) = true := by intro D env a w hA; first | exact wanted_none rfl _ | exact hA.gy rfl rfl rfl) (hn : noF R i = true := by rfl) (hr : ∀ env x, V (restr (R.cl.getD i []) (upd env i x)) = V env := by intros; rfl) : SR P Q R i :=
  s_val ho hf hV (fun {D env a w} hA => ⟨hw _ _ _ _ hA, by
    have h1 := h env w
    have ex := hA.e (hx env)
    unfold execOp at h1 ⊢
    simp only [hop, evC, ex] at h1 ⊢
    exact h1⟩) hn hr
theorem fa_ {T : TypeId} {k : Nat} {x : Operand} (vx : Env → Value) (ho : R.ops[i]? = some o := by rfl) (hf : free' R i = true := by rfl) (hop : o.op = .fieldAddr T x k := by rfl) {V : Env → Value} (hV : R.v? i = some V := by rfl) (hx : ∀ env, opAt R i env x = some (vx env) := by intro _; rfl)
    (h : ∀ env w, (execOp evC { o with op := .fieldAddr T (.const (vx env)) k }).run P w = .ok (.value (V env)) w := by intro env w; first | (simp [go_sem]; done) | (simp [go_sem]; omega) | (simp [go_sem]; exact IntWalk.i64_in _ (by omega))) (hw : ∀ D env a w, At R i D env a w → Region.wanted o (yielded R.ops a.tmps) = true := by intro D env a w hA; first | exact wanted_none rfl _ | exact hA.gy rfl rfl rfl) (hn : noF R i = true := by rfl) (hr : ∀ env x, V (restr (R.cl.getD i []) (upd env i x)) = V env := by intros; rfl) : SR P Q R i :=
  s_val ho hf hV (fun {D env a w} hA => ⟨hw _ _ _ _ hA, by
    have h1 := h env w
    have ex := hA.e (hx env)
    unfold execOp at h1 ⊢
    simp only [hop, evC, ex] at h1 ⊢
    exact h1⟩) hn hr
theorem nc_  {x : Operand} (vx : Env → Value) (ho : R.ops[i]? = some o := by rfl) (hf : free' R i = true := by rfl) (hop : o.op = .nilCheck x := by rfl) {V : Env → Value} (hV : R.v? i = some V := by rfl) (hx : ∀ env, opAt R i env x = some (vx env) := by intro _; rfl)
    (h : ∀ env w, (execOp evC { o with op := .nilCheck (.const (vx env)) }).run P w = .ok (.value (V env)) w := by intro env w; first | (simp [go_sem]; done) | (simp [go_sem]; omega) | (simp [go_sem]; exact IntWalk.i64_in _ (by omega))) (hw : ∀ D env a w, At R i D env a w → Region.wanted o (yielded R.ops a.tmps) = true := by intro D env a w hA; first | exact wanted_none rfl _ | exact hA.gy rfl rfl rfl) (hn : noF R i = true := by rfl) (hr : ∀ env x, V (restr (R.cl.getD i []) (upd env i x)) = V env := by intros; rfl) : SR P Q R i :=
  s_val ho hf hV (fun {D env a w} hA => ⟨hw _ _ _ _ hA, by
    have h1 := h env w
    have ex := hA.e (hx env)
    unfold execOp at h1 ⊢
    simp only [hop, evC, ex] at h1 ⊢
    exact h1⟩) hn hr
theorem pk_  {x y z : Operand} (vx vy vz : Env → Value) (ho : R.ops[i]? = some o := by rfl) (hf : free' R i = true := by rfl) (hop : o.op = .pick x y z := by rfl) {V : Env → Value} (hV : R.v? i = some V := by rfl) (hx : ∀ env, opAt R i env x = some (vx env) := by intro _; rfl) (hy : ∀ env, opAt R i env y = some (vy env) := by intro _; rfl) (hz : ∀ env, opAt R i env z = some (vz env) := by intro _; rfl)
    (h : ∀ env w, (execOp evC { o with op := .pick (.const (vx env)) (.const (vy env)) (.const (vz env)) }).run P w = .ok (.value (V env)) w := by intro env w; first | (simp [go_sem]; done) | (simp [go_sem]; omega) | (simp [go_sem]; exact IntWalk.i64_in _ (by omega))) (hw : ∀ D env a w, At R i D env a w → Region.wanted o (yielded R.ops a.tmps) = true := by intro D env a w hA; first | exact wanted_none rfl _ | exact hA.gy rfl rfl rfl) (hn : noF R i = true := by rfl) (hr : ∀ env x, V (restr (R.cl.getD i []) (upd env i x)) = V env := by intros; rfl) : SR P Q R i :=
  s_val ho hf hV (fun {D env a w} hA => ⟨hw _ _ _ _ hA, by
    have h1 := h env w
    have ex := hA.e (hx env); have ey := hA.e (hy env); have ez := hA.e (hz env)
    unfold execOp at h1 ⊢
    simp only [hop, evC, ex, ey, ez] at h1 ⊢
    exact h1⟩) hn hr
theorem gm_  {x : Operand} (vx : Env → Value) (ho : R.ops[i]? = some o := by rfl) (hf : free' R i = true := by rfl) (hop : o.op = .move x := by rfl) {V : Env → Value} (hV : R.v? i = some V := by rfl) (hx : ∀ env, opAt R i env x = some (vx env) := by intro _; rfl)
    (h : ∀ env w, (execOp evC { o with op := .move (.const (vx env)) }).run P w = .ok (.value (V env)) w := by intro env w; first | (simp [go_sem]; done) | (simp [go_sem]; omega) | (simp [go_sem]; exact IntWalk.i64_in _ (by omega))) (hw : ∀ D env a w, At R i D env a w → Region.wanted o (yielded R.ops a.tmps) = true := by intro D env a w hA; first | exact wanted_none rfl _ | exact hA.gy rfl rfl rfl) (hn : noF R i = true := by rfl) (hr : ∀ env x, V (restr (R.cl.getD i []) (upd env i x)) = V env := by intros; rfl) : SR P Q R i :=
  s_val ho hf hV (fun {D env a w} hA => ⟨hw _ _ _ _ hA, by
    have h1 := h env w
    have ex := hA.e (hx env)
    unfold execOp at h1 ⊢
    simp only [hop, evC, ex] at h1 ⊢
    exact h1⟩) hn hr
theorem ga_  {x : Operand} (vx : Env → Value) (ho : R.ops[i]? = some o := by rfl) (hf : free' R i = true := by rfl) (hop : o.op = .assign x := by rfl) {V : Env → Value} (hV : R.v? i = some V := by rfl) (hx : ∀ env, opAt R i env x = some (vx env) := by intro _; rfl)
    (h : ∀ env w, (execOp evC { o with op := .assign (.const (vx env)) }).run P w = .ok (.value (V env)) w := by intro env w; first | (simp [go_sem]; done) | (simp [go_sem]; omega) | (simp [go_sem]; exact IntWalk.i64_in _ (by omega))) (hw : ∀ D env a w, At R i D env a w → Region.wanted o (yielded R.ops a.tmps) = true := by intro D env a w hA; first | exact wanted_none rfl _ | exact hA.gy rfl rfl rfl) (hn : noF R i = true := by rfl) (hr : ∀ env x, V (restr (R.cl.getD i []) (upd env i x)) = V env := by intros; rfl) : SR P Q R i :=
  s_val ho hf hV (fun {D env a w} hA => ⟨hw _ _ _ _ hA, by
    have h1 := h env w
    have ex := hA.e (hx env)
    unfold execOp at h1 ⊢
    simp only [hop, evC, ex] at h1 ⊢
    exact h1⟩) hn hr
theorem bd_ {T : TypeId} {es : Array (Nat × Operand)} (vs : Env → List Value) (ho : R.ops[i]? = some o := by rfl) (hf : free' R i = true := by rfl) (hop : o.op = .build T es := by rfl) {V : Env → Value} (hV : R.v? i = some V := by rfl) (hx : ∀ env, es.toList.map (fun e => opAt R i env e.2) = (vs env).map some := by intro _; rfl)
    (h : ∀ env w, (execOp evC { o with op := .build T (List.zipWith (fun (e : Nat × Operand) v => (e.1, Operand.const v)) es.toList (vs env)).toArray }).run P w = .ok (.value (V env)) w := by intro env w; simp [go_sem]) (hw : ∀ D env a w, At R i D env a w → Region.wanted o (yielded R.ops a.tmps) = true := by intro D env a w hA; first | exact wanted_none rfl _ | exact hA.gy rfl rfl rfl) (hn : noF R i = true := by rfl) (hr : ∀ env x, V (restr (R.cl.getD i []) (upd env i x)) = V env := by intros; rfl) : SR P Q R i :=
  s_val ho hf hV (fun {D env a w} hA => ⟨hw _ _ _ _ hA, by
    have h1 := h env w
    have e0 : es.map (fun e => (e.1, a.eval e.2)) = (List.zipWith (fun (e : Nat × Operand) v => (e.1, Operand.const v)) es.toList (vs env)).toArray.map (fun e => (e.1, evC e.2)) := by
      apply Array.ext'
      have key : ∀ (l : List (Nat × Operand)) (vs : List Value), l.map (fun e => opAt R i env e.2) = vs.map some → l.map (fun e => (e.1, a.eval e.2)) = (List.zipWith (fun (e : Nat × Operand) v => (e.1, Operand.const v)) l vs).map (fun e => (e.1, evC e.2)) := by
        intro l
        induction l with
        | nil => intro vs h; cases vs with
          | nil => rfl
          | cons _ _ => cases h
        | cons x l ih => intro vs h1; cases vs with
          | nil => cases h1
          | cons v vs =>
            simp only [List.map_cons, List.cons.injEq, List.zipWith_cons_cons] at h1 ⊢
            exact ⟨by rw [hA.e h1.1]; rfl, ih vs h1.2⟩
      have := key es.toList (vs env) (hx env)
      simpa using this
    unfold execOp at h1 ⊢
    simp only [hop] at h1 ⊢
    rw [e0]
    exact h1⟩) hn hr
theorem cl_ {V : Env → Value} {f : FuncId} {fn : Func} {ps : Array Operand} {ts : Array TypeId} (hfn : Try.prog.funcs[f]? = some fn) (ho : R.ops[i]? = some o := by rfl) (hf : free' R i = true := by rfl) (hop : o.op = .call { callee := .value (.func f), args := ps, argTypes := ts } := by rfl) (hname : (fn.name == "runtime.NumGoroutine") = false := by kernel_rfl) (hb : fn.body.isSome = true := by rfl) (hV : R.v? i = some V := by rfl) (hw : ∀ D env a w, At R i D env a w → Region.wanted o (yielded R.ops a.tmps) = true := by intro D env a w hA; first | exact wanted_none rfl _ | exact hA.gy rfl rfl rfl) (hn : noF R i = true := by rfl) (hr : ∀ env x, V (restr (R.cl.getD i []) (upd env i x)) = V env := by intros; rfl) (h : ∀ env, ∃ vs : List Value, Ret f vs.toArray (V env) ∧ ps.toList.map (opAt R i env) = vs.map some) : SR Try.prog Q R i := s_cw ho hf hop hfn hname hb hV (fun hA => hw _ _ _ _ hA) h hn hr
theorem cw_ {V : Env → Value} {f : FuncId} {fn : Func} {ps : Array Operand} {ts : Array TypeId} (hfn : P.funcs[f]? = some fn) (ho : R.ops[i]? = some o := by rfl) (hf : free' R i = true := by rfl) (hop : o.op = .call { callee := .value (.func f), args := ps, argTypes := ts } := by rfl) (hname : (fn.name == "runtime.NumGoroutine") = false := by kernel_rfl) (hb : fn.body.isSome = true := by rfl) (hV : R.v? i = some V := by rfl) (hw : ∀ D env a w, At R i D env a w → Region.wanted o (yielded R.ops a.tmps) = true := by intro D env a w hA; first | exact wanted_none rfl _ | exact hA.gy rfl rfl rfl) (hn : noF R i = true := by rfl) (hr : ∀ env x, V (restr (R.cl.getD i []) (upd env i x)) = V env := by intros; rfl) (h : ∀ D env a w, At R i D env a w → ∃ vs : List Value, (Calls P f vs.toArray w fun e w' => e = .returned (V env) ∧ Below w.heap.size w w') ∧ ps.toList.map (opAt R i env) = vs.map some) : SR P Q R i :=
  s_callw ho hf hop hfn hname hb hV (fun hA => hw _ _ _ _ hA) (fun {D env a w} hA => by
    obtain ⟨vs, h1, h2⟩ := h D env a w hA
    exact ⟨vs.toArray, hA.args h2, h1⟩) hn hr
theorem al_ {T : TypeId} (m : Nat) (ho : R.ops[i]? = some o := by rfl) (hg : o.guard = none := by rfl) {ow : Own} (hm : R.O[m]? = some ow := by rfl) (hal : ow.al = some i := by rfl) (hV : R.v? i = some (fun env => .pointer (some ⟨pb env i, 0, none⟩)) := by rfl) (hop : o.op = .alloc T := by rfl)
    (hrun : ∀ (w : World) (ρ : Operand → Value), (execOp ρ { o with op := .alloc T }).run P w = .ok (.value (.pointer (some ⟨w.heap.size, 0, none⟩))) (w.alloc (.cells ow.c0.toArray ow.T (0, 0))) := by intro w ρ; simp [go_sem]) (hn : noF R i = true := by rfl) (hnt : noTh R i = true := by rfl) : SR P Q R i :=
  s_alloc ho hg m hm hal hV (fun {D env a w} hA => by
    have := hrun w a.eval
    unfold execOp at this ⊢
    simp only [hop] at this ⊢
    exact this) hn hnt
theorem bx_ {T : TypeId} {x : Operand} (m : Nat) (v : Env → Value) (ho : R.ops[i]? = some o := by rfl) (hg : o.guard = none := by rfl) {ow : Own} (hm : R.O[m]? = some ow := by rfl) (hal : ow.al = some i := by rfl) (hV : R.v? i = some (fun env => .pointer (some ⟨pb env i, 0, none⟩)) := by rfl) (hop : o.op = .box T x := by rfl) (hx : ∀ env, opAt R i env x = some (v env) := by intro _; rfl)
    (hrun : ∀ (env : Env) (w : World), (execOp evC { o with op := .box T (.const (v env)) }).run P w = .ok (.value (.pointer (some ⟨w.heap.size, 0, none⟩))) (w.alloc (.cells ow.c0.toArray ow.T (0, 0))) := by intro env w; simp [go_sem]) (hn : noF R i = true := by rfl) (hnt : noTh R i = true := by rfl) : SR P Q R i :=
  s_alloc ho hg m hm hal hV (fun {D env a w} hA => by
    have := hrun env w
    have e1 := hA.e (hx env)
    unfold execOp at this ⊢
    simp only [hop, evC, e1] at this ⊢
    exact this) hn hnt
theorem ld_ {T : TypeId} {t : Tmp} {ow : Own} {off n : Nat} {v : Value} (m : Nat) (ho : R.ops[i]? = some o := by rfl) (hf : free' R i = true := by rfl) (hop : o.op = .load T (.tmp t) := by rfl) {V : Env → Value} (hV : R.v? i = some V := by rfl) (hm : R.O[m]? = some ow := by rfl) (hal : ow.al = none := by rfl) (hs : match ow.st with | none => True | some s => (R.cl.getD s []).contains i = true := by first | exact trivial | rfl)
    (hp : ∀ env, slotAt R i env t = some (.pointer (some ⟨ow.b0, off, none⟩)) := by intro _; rfl) (hw : ∀ D env a w, At R i D env a w → Region.wanted o (yielded R.ops a.tmps) = true := by intro D env a w hA; first | exact wanted_none rfl _ | exact hA.gy rfl rfl rfl) (hrd : ∀ (b : Nat) (w : World), (∀ q x, q < n → ow.c0[off + q]? = some x → w.cell? ⟨b, off + q, none⟩ = some x) → (Instr.loadAt T (.pointer (some ⟨b, off, none⟩))).run P w = .ok v w) (hv : ∀ env, V env = v := by intros; rfl) (hn : noF R i = true := by rfl) : SR P Q R i := s_loadw ho hf hop hV m hm hal hs (fun hA => hw _ _ _ _ hA) hp hrd hv hn
theorem se_ {T : TypeId} {t : Tmp} {x : Operand} {ow : Own} {off : Nat} {v : Env → Value} {cs : Env → List Value} (m : Nat) (ho : R.ops[i]? = some o := by rfl) (hg : o.guard = none := by rfl) (hop : o.op = .store T (.tmp t) x := by rfl) (hm : R.O[m]? = some ow := by rfl) (hs : ow.st = some i := by rfl) (hal : ow.al = none := by rfl)
    (hp : ∀ env, slotAt R i env t = some (.pointer (some ⟨ow.b0, off, none⟩)) := by intro _; rfl) (hx : ∀ env, opAt R i env x = some (v env) := by intro _; rfl) (hst : ∀ (env : Env) (b : Nat) (w : World), w.heap[b]? = some (.cells ow.c0.toArray ow.T (0, 0)) → ∃ w', (Instr.storeAt T (.pointer (some ⟨b, off, none⟩)) (v env)).run P w = .ok () w' ∧ Put w w' b (.cells (cs env).toArray ow.T (0, 0))) (hc : ∀ env y, ow.c1 (restr (R.cl.getD i []) (upd env i y)) = cs env := by intros; rfl) (hV : R.v? i = none := by rfl) (hn : noF R i = true := by rfl) (hnt : noTh R i = true := by rfl) : SR P Q R i := s_stE ho hg hop m hm hs hal hp hx hst hc hV hn hnt
theorem sw_ {T : TypeId} {t : Tmp} {x : Operand} {ow : Own} {v : Env → Value} {cs : Env → List Value} (m k : Nat) (ho : R.ops[i]? = some o := by rfl) (hg : o.guard = none := by rfl) (hop : o.op = .store T (.tmp t) x := by rfl) (hm : R.O[m]? = some ow := by rfl) (hs : ow.st = some i := by rfl) (hal : ow.al = some k := by rfl)
    (hk : R.v? k = some (fun env => .pointer (some ⟨pb env k, 0, none⟩)) := by rfl) (hp : isD R.ds t k = true := by rfl) (hx : ∀ env, opAt R i env x = some (v env) := by intro _; rfl) (hst : ∀ (env : Env) (b : Nat) (w : World), w.heap[b]? = some (.cells ow.c0.toArray ow.T (0, 0)) → ∃ w', (Instr.storeAt T (.pointer (some ⟨b, 0, none⟩)) (v env)).run P w = .ok () w' ∧ Put w w' b (.cells (cs env).toArray ow.T (0, 0))) (hc : ∀ env y, ow.c1 (restr (R.cl.getD i []) (upd env i y)) = cs env := by intros; rfl) (hV : R.v? i = none := by rfl) (hn : noF R i = true := by rfl) (hnt : noTh R i = true := by rfl) : SR P Q R i := s_stN ho hg hop m k hm hs hal hk hp hx hst hc hV hn hnt
theorem bi0 {k : BinOp} {T T2 : TypeId} {x y : Operand} (vx vy : Value) (ho : R.ops[i]? = some o := by rfl) (hf : free' R i = true := by rfl) (hop : o.op = .binOp k T x y T2 := by rfl) {V : Env → Value} (hV : R.v? i = some V := by rfl) (hx : ∀ env, opAt R i env x = some (vx) := by intro _; rfl) (hy : ∀ env, opAt R i env y = some (vy) := by intro _; rfl)
    (h : ∀ env w, Sem.run P (do eqGuard k T x y (vx) (vy); binOp k T (vx) (vy)) w = .ok (V env) w := by intro env w; first | (simp [go_sem]; done) | (simp [go_sem]; omega) | (simp [go_sem]; exact IntWalk.i64_in _ (by omega))) (hw : ∀ D env a w, At R i D env a w → Region.wanted o (yielded R.ops a.tmps) = true := by intro D env a w hA; first | exact wanted_none rfl _ | exact hA.gy rfl rfl rfl) (hn : noF R i = true := by rfl) (hr : ∀ env x, V (restr (R.cl.getD i []) (upd env i x)) = V env := by intros; rfl) : SR P Q R i :=
  s_val ho hf hV (fun {D env a w} hA => ⟨hw _ _ _ _ hA, by
    have h1 := h env w
    have ex := hA.e (hx env); have ey := hA.e (hy env)
    unfold execOp
    simp only [hop, ex, ey]
    rw [Sem.run_bind, h1]
    rfl⟩) hn hr
theorem un0 {k : UnOp} {T : TypeId} {x : Operand} (vx : Value) (ho : R.ops[i]? = some o := by rfl) (hf : free' R i = true := by rfl) (hop : o.op = .unOp k T x := by rfl) {V : Env → Value} (hV : R.v? i = some V := by rfl) (hx : ∀ env, opAt R i env x = some (vx) := by intro _; rfl)
    (h : ∀ env w, (execOp evC { o with op := .unOp k T (.const (vx)) }).run P w = .ok (.value (V env)) w := by intro env w; first | (simp [go_sem]; done) | (simp [go_sem]; omega) | (simp [go_sem]; exact IntWalk.i64_in _ (by omega))) (hw : ∀ D env a w, At R i D env a w → Region.wanted o (yielded R.ops a.tmps) = true := by intro D env a w hA; first | exact wanted_none rfl _ | exact hA.gy rfl rfl rfl) (hn : noF R i = true := by rfl) (hr : ∀ env x, V (restr (R.cl.getD i []) (upd env i x)) = V env := by intros; rfl) : SR P Q R i :=
  s_val ho hf hV (fun {D env a w} hA => ⟨hw _ _ _ _ hA, by
    have h1 := h env w
    have ex := hA.e (hx env)
    unfold execOp at h1 ⊢
    simp only [hop, evC, ex] at h1 ⊢
    exact h1⟩) hn hr
theorem cv0 {T T2 : TypeId} {x : Operand} (vx : Value) (ho : R.ops[i]? = some o := by rfl) (hf : free' R i = true := by rfl) (hop : o.op = .convert T T2 x := by rfl) {V : Env → Value} (hV : R.v? i = some V := by rfl) (hx : ∀ env, opAt R i env x = some (vx) := by intro _; rfl)
    (h : ∀ env w, (execOp evC { o with op := .convert T T2 (.const (vx)) }).run P w = .ok (.value (V env)) w := by intro env w; first | (simp [go_sem]; done) | (simp [go_sem]; omega) | (simp [go_sem]; exact IntWalk.i64_in _ (by omega))) (hw : ∀ D env a w, At R i D env a w → Region.wanted o (yielded R.ops a.tmps) = true := by intro D env a w hA; first | exact wanted_none rfl _ | exact hA.gy rfl rfl rfl) (hn : noF R i = true := by rfl) (hr : ∀ env x, V (restr (R.cl.getD i []) (upd env i x)) = V env := by intros; rfl) : SR P Q R i :=
  s_val ho hf hV (fun {D env a w} hA => ⟨hw _ _ _ _ hA, by
    have h1 := h env w
    have ex := hA.e (hx env)
    unfold execOp at h1 ⊢
    simp only [hop, evC, ex] at h1 ⊢
    exact h1⟩) hn hr
theorem fl0 {T : TypeId} {k : Nat} {x : Operand} (vx : Value) (ho : R.ops[i]? = some o := by rfl) (hf : free' R i = true := by rfl) (hop : o.op = .field T x k := by rfl) {V : Env → Value} (hV : R.v? i = some V := by rfl) (hx : ∀ env, opAt R i env x = some (vx) := by intro _; rfl)
    (h : ∀ env w, (execOp evC { o with op := .field T (.const (vx)) k }).run P w = .ok (.value (V env)) w := by intro env w; simp [go_sem, Instr.field, part, asAgg]) (hw : ∀ D env a w, At R i D env a w → Region.wanted o (yielded R.ops a.tmps) = true := by intro D env a w hA; first | exact wanted_none rfl _ | exact hA.gy rfl rfl rfl) (hn : noF R i = true := by rfl) (hr : ∀ env x, V (restr (R.cl.getD i []) (upd env i x)) = V env := by intros; rfl) : SR P Q R i :=
  s_val ho hf hV (fun {D env a w} hA => ⟨hw _ _ _ _ hA, by
    have h1 := h env w
    have ex := hA.e (hx env)
    unfold execOp at h1 ⊢
    simp only [hop, evC, ex] at h1 ⊢
    exact h1⟩) hn hr
theorem fa0 {T : TypeId} {k : Nat} {x : Operand} (vx : Value) (ho : R.ops[i]? = some o := by rfl) (hf : free' R i = true := by rfl) (hop : o.op = .fieldAddr T x k := by rfl) {V : Env → Value} (hV : R.v? i = some V := by rfl) (hx : ∀ env, opAt R i env x = some (vx) := by intro _; rfl)
    (h : ∀ env w, (execOp evC { o with op := .fieldAddr T (.const (vx)) k }).run P w = .ok (.value (V env)) w := by intro env w; first | (simp [go_sem]; done) | (simp [go_sem]; omega) | (simp [go_sem]; exact IntWalk.i64_in _ (by omega))) (hw : ∀ D env a w, At R i D env a w → Region.wanted o (yielded R.ops a.tmps) = true := by intro D env a w hA; first | exact wanted_none rfl _ | exact hA.gy rfl rfl rfl) (hn : noF R i = true := by rfl) (hr : ∀ env x, V (restr (R.cl.getD i []) (upd env i x)) = V env := by intros; rfl) : SR P Q R i :=
  s_val ho hf hV (fun {D env a w} hA => ⟨hw _ _ _ _ hA, by
    have h1 := h env w
    have ex := hA.e (hx env)
    unfold execOp at h1 ⊢
    simp only [hop, evC, ex] at h1 ⊢
    exact h1⟩) hn hr
theorem nc0  {x : Operand} (vx : Value) (ho : R.ops[i]? = some o := by rfl) (hf : free' R i = true := by rfl) (hop : o.op = .nilCheck x := by rfl) {V : Env → Value} (hV : R.v? i = some V := by rfl) (hx : ∀ env, opAt R i env x = some (vx) := by intro _; rfl)
    (h : ∀ env w, (execOp evC { o with op := .nilCheck (.const (vx)) }).run P w = .ok (.value (V env)) w := by intro env w; first | (simp [go_sem]; done) | (simp [go_sem]; omega) | (simp [go_sem]; exact IntWalk.i64_in _ (by omega))) (hw : ∀ D env a w, At R i D env a w → Region.wanted o (yielded R.ops a.tmps) = true := by intro D env a w hA; first | exact wanted_none rfl _ | exact hA.gy rfl rfl rfl) (hn : noF R i = true := by rfl) (hr : ∀ env x, V (restr (R.cl.getD i []) (upd env i x)) = V env := by intros; rfl) : SR P Q R i :=
  s_val ho hf hV (fun {D env a w} hA => ⟨hw _ _ _ _ hA, by
    have h1 := h env w
    have ex := hA.e (hx env)
    unfold execOp at h1 ⊢
    simp only [hop, evC, ex] at h1 ⊢
    exact h1⟩) hn hr
theorem pk0  {x y z : Operand} (vx vy vz : Value) (ho : R.ops[i]? = some o := by rfl) (hf : free' R i = true := by rfl) (hop : o.op = .pick x y z := by rfl) {V : Env → Value} (hV : R.v? i = some V := by rfl) (hx : ∀ env, opAt R i env x = some (vx) := by intro _; rfl) (hy : ∀ env, opAt R i env y = some (vy) := by intro _; rfl) (hz : ∀ env, opAt R i env z = some (vz) := by intro _; rfl)
    (h : ∀ env w, (execOp evC { o with op := .pick (.const (vx)) (.const (vy)) (.const (vz)) }).run P w = .ok (.value (V env)) w := by intro env w; first | (simp [go_sem]; done) | (simp [go_sem]; omega) | (simp [go_sem]; exact IntWalk.i64_in _ (by omega))) (hw : ∀ D env a w, At R i D env a w → Region.wanted o (yielded R.ops a.tmps) = true := by intro D env a w hA; first | exact wanted_none rfl _ | exact hA.gy rfl rfl rfl) (hn : noF R i = true := by rfl) (hr : ∀ env x, V (restr (R.cl.getD i []) (upd env i x)) = V env := by intros; rfl) : SR P Q R i :=
  s_val ho hf hV (fun {D env a w} hA => ⟨hw _ _ _ _ hA, by
    have h1 := h env w
    have ex := hA.e (hx env); have ey := hA.e (hy env); have ez := hA.e (hz env)
    unfold execOp at h1 ⊢
    simp only [hop, evC, ex, ey, ez] at h1 ⊢
    exact h1⟩) hn hr
theorem gm0  {x : Operand} (vx : Value) (ho : R.ops[i]? = some o := by rfl) (hf : free' R i = true := by rfl) (hop : o.op = .move x := by rfl) {V : Env → Value} (hV : R.v? i = some V := by rfl) (hx : ∀ env, opAt R i env x = some (vx) := by intro _; rfl)
    (h : ∀ env w, (execOp evC { o with op := .move (.const (vx)) }).run P w = .ok (.value (V env)) w := by intro env w; first | (simp [go_sem]; done) | (simp [go_sem]; omega) | (simp [go_sem]; exact IntWalk.i64_in _ (by omega))) (hw : ∀ D env a w, At R i D env a w → Region.wanted o (yielded R.ops a.tmps) = true := by intro D env a w hA; first | exact wanted_none rfl _ | exact hA.gy rfl rfl rfl) (hn : noF R i = true := by rfl) (hr : ∀ env x, V (restr (R.cl.getD i []) (upd env i x)) = V env := by intros; rfl) : SR P Q R i :=
  s_val ho hf hV (fun {D env a w} hA => ⟨hw _ _ _ _ hA, by
    have h1 := h env w
    have ex := hA.e (hx env)
    unfold execOp at h1 ⊢
    simp only [hop, evC, ex] at h1 ⊢
    exact h1⟩) hn hr
theorem ga0  {x : Operand} (vx : Value) (ho : R.ops[i]? = some o := by rfl) (hf : free' R i = true := by rfl) (hop : o.op = .assign x := by rfl) {V : Env → Value} (hV : R.v? i = some V := by rfl) (hx : ∀ env, opAt R i env x = some (vx) := by intro _; rfl)
    (h : ∀ env w, (execOp evC { o with op := .assign (.const (vx)) }).run P w = .ok (.value (V env)) w := by intro env w; first | (simp [go_sem]; done) | (simp [go_sem]; omega) | (simp [go_sem]; exact IntWalk.i64_in _ (by omega))) (hw : ∀ D env a w, At R i D env a w → Region.wanted o (yielded R.ops a.tmps) = true := by intro D env a w hA; first | exact wanted_none rfl _ | exact hA.gy rfl rfl rfl) (hn : noF R i = true := by rfl) (hr : ∀ env x, V (restr (R.cl.getD i []) (upd env i x)) = V env := by intros; rfl) : SR P Q R i :=
  s_val ho hf hV (fun {D env a w} hA => ⟨hw _ _ _ _ hA, by
    have h1 := h env w
    have ex := hA.e (hx env)
    unfold execOp at h1 ⊢
    simp only [hop, evC, ex] at h1 ⊢
    exact h1⟩) hn hr
theorem bd0 {T : TypeId} {es : Array (Nat × Operand)} (vs : List Value) (ho : R.ops[i]? = some o := by rfl) (hf : free' R i = true := by rfl) (hop : o.op = .build T es := by rfl) {V : Env → Value} (hV : R.v? i = some V := by rfl) (hx : ∀ env, es.toList.map (fun e => opAt R i env e.2) = (vs).map some := by intro _; rfl)
    (h : ∀ env w, (execOp evC { o with op := .build T (List.zipWith (fun (e : Nat × Operand) v => (e.1, Operand.const v)) es.toList (vs)).toArray }).run P w = .ok (.value (V env)) w := by intro env w; simp [go_sem]) (hw : ∀ D env a w, At R i D env a w → Region.wanted o (yielded R.ops a.tmps) = true := by intro D env a w hA; first | exact wanted_none rfl _ | exact hA.gy rfl rfl rfl) (hn : noF R i = true := by rfl) (hr : ∀ env x, V (restr (R.cl.getD i []) (upd env i x)) = V env := by intros; rfl) : SR P Q R i :=
  s_val ho hf hV (fun {D env a w} hA => ⟨hw _ _ _ _ hA, by
    have h1 := h env w
    have e0 : es.map (fun e => (e.1, a.eval e.2)) = (List.zipWith (fun (e : Nat × Operand) v => (e.1, Operand.const v)) es.toList (vs)).toArray.map (fun e => (e.1, evC e.2)) := by
      apply Array.ext'
      have key : ∀ (l : List (Nat × Operand)) (vs : List Value), l.map (fun e => opAt R i env e.2) = vs.map some → l.map (fun e => (e.1, a.eval e.2)) = (List.zipWith (fun (e : Nat × Operand) v => (e.1, Operand.const v)) l vs).map (fun e => (e.1, evC e.2)) := by
        intro l
        induction l with
        | nil => intro vs h; cases vs with
          | nil => rfl
          | cons _ _ => cases h
        | cons x l ih => intro vs h1; cases vs with
          | nil => cases h1
          | cons v vs =>
            simp only [List.map_cons, List.cons.injEq, List.zipWith_cons_cons] at h1 ⊢
            exact ⟨by rw [hA.e h1.1]; rfl, ih vs h1.2⟩
      have := key es.toList (vs) (hx env)
      simpa using this
    unfold execOp at h1 ⊢
    simp only [hop] at h1 ⊢
    rw [e0]
    exact h1⟩) hn hr
theorem bx0 {T : TypeId} {x : Operand} (m : Nat) (v : Value) (ho : R.ops[i]? = some o := by rfl) (hg : o.guard = none := by rfl) {ow : Own} (hm : R.O[m]? = some ow := by rfl) (hal : ow.al = some i := by rfl) (hV : R.v? i = some (fun env => .pointer (some ⟨pb env i, 0, none⟩)) := by rfl) (hop : o.op = .box T x := by rfl) (hx : ∀ env, opAt R i env x = some (v) := by intro _; rfl)
    (hrun : ∀ (env : Env) (w : World), (execOp evC { o with op := .box T (.const (v)) }).run P w = .ok (.value (.pointer (some ⟨w.heap.size, 0, none⟩))) (w.alloc (.cells ow.c0.toArray ow.T (0, 0))) := by intro env w; simp [go_sem]) (hn : noF R i = true := by rfl) (hnt : noTh R i = true := by rfl) : SR P Q R i :=
  s_alloc ho hg m hm hal hV (fun {D env a w} hA => by
    have := hrun env w
    have e1 := hA.e (hx env)
    unfold execOp at this ⊢
    simp only [hop, evC, e1] at this ⊢
    exact this) hn hnt
end
theorem sc_n {Q : Exit → Act → World → Prop} {a : Act} {w : World} (h : Q .normal a w) : Exit.noGoto Q .normal a w := h
theorem sc_r {Q : Exit → Act → World → Prop} {a : Act} {w : World} (h : Q .ret a w) : Exit.noGoto Q .ret a w := h
theorem sc_x {Q : Exit → Act → World → Prop} {a : Act} {w : World} {id : Nat} (h : Q (.exit id) a w) : Exit.noGoto Q (.exit id) a w := h
/-- steps k to m -/
def Steps (p : Nat → Prop) (k m : Nat) : Prop := ∀ i, k ≤ i → i < m → p i
theorem e_ {p : Nat → Prop} {k : Nat} : Steps p k k := fun i h1 h2 => absurd h1 (by omega)
theorem c_ {p : Nat → Prop} {k m : Nat} (h : p k) (t : Steps p (k + 1) m) : Steps p k m := fun i h1 h2 => by
  rcases Nat.lt_or_eq_of_le h1 with h3 | h3
  · exact t i h3 h2
  · rw [← h3]; exact h
theorem rg_ {Q : Exit → Act → World → Prop} {ops : Array Oper} {id n m : Nat} {draw : Bool} {w0 : World} {row ex : Option Nat} {Ψ : World → Prop} {Θ : World → Prop} {L : Slots} {M : List Ent} {a : Act} {w : World} (h : Cur n w0 row ex (Ψ) Θ L M a w) (cl : List (List Nat)) (V : List (Option (Env → Value))) (L' : Env → Slots)
    (S : List Sto := []) (W : List New := []) (F : List (Nat × (Env → World → Prop)) := []) (th : Option (Nat × (Env → World → Prop)) := none) (T : Env → World → Prop := fun _ => Θ)  (M' : Env → List Ent := fun _ => M) (hs : Steps (SR Try.prog Q ⟨ops, ops.toList.map (·.dst), cl, S, W, V, F, n, a, L, M, w0, row, ex, Ψ, Θ, th⟩) 0 m)
    (k : ∀ env a' w', Cur n w0 row ex (Ψ) (T env) (L' env) (M' env) a' w' → Q .normal a' w') (hR : regOk ⟨ops, ops.toList.map (·.dst), cl, S, W, V, F, n, a, L, M, w0, row, ex, Ψ, Θ, th⟩ = true := by kernel_rfl) (hsz : ops.size = m := by rfl) (hL : ∀ env, (L' env).map (fun e => slotEnd ⟨ops, ops.toList.map (·.dst), cl, S, W, V, F, n, a, L, M, w0, row, ex, Ψ, Θ, th⟩ env e.1) = (L' env).map (fun e => some e.2) := by intro _; rfl) (hM : ∀ env, endM ⟨ops, ops.toList.map (·.dst), cl, S, W, V, F, n, a, L, M, w0, row, ex, Ψ, Θ, th⟩ env = M' env := by intro _; rfl) (hO : ownIn ⟨ops, ops.toList.map (·.dst), cl, S, W, V, F, n, a, L, M, w0, row, ex, Ψ, Θ, th⟩ m = true := by rfl) (hT : ∀ env w, Reg.tht ⟨ops, ops.toList.map (·.dst), cl, S, W, V, F, n, a, L, M, w0, row, ex, Ψ, Θ, th⟩ (allD m) env w → T env w := by intro _ _ h; exact h)  : (Code.region id ops draw).wp Try.prog Q a w := by
  subst hsz
  exact reg_cur mixed h _ cl S W V F th rfl hR (fun i hi => hs i (Nat.zero_le _) hi) (fun env a' w' hJ => k env a' w' (hJ.cur (hL env) (hM env) hO (fun w hw => hT env w hw)))
end Go.Proofs.Ytdfkghpgekmmlaa
