/- Texts L16, U1, Q8, U2, E1, E2, E3, E4, F1, Q9, U3, GUSec of one proof, one behind the other. -/
import Derived.Test.YtdbhgeihphjgeaaL13
import Derived.Test.YtdbhgeihphjgeaaM3
import Derived.Test.YtdbhgeihphjgeaaD7
import Derived.Test.YtdbhgeihphjgeaaC14
import Derived.Test.YtdbhgeihphjgeaaC15
import Derived.IntWalk
/- Leap seconds as the state of a walk: one block that calls may write. Own work. -/
namespace Go.Proofs.Ytdbhgeihphjgeaa
open Go.RowKit
set_option linter.unusedVariables false
set_option linter.unusedSimpArgs false
/-- the types of the blocks of leap seconds -/
abbrev leT : List TypeId := [111, 43, 115]
/-- leap seconds, asked however often -/
def IsLx (w : World) (g : Nat) (u x : Int) (es : List (Int × Int)) : Prop := ∃ q, IsL w g u x es q
theorem ownsRow_keep {w w' : World} {B : Nat} {T : TypeId} {k n : Nat} {v : Value} {cs : List Value} (h : w.ownsRow B T k v n cs) (hk : ∀ (b : Nat) (cur : Array Value), w.heap[b]? = some (Obj.cells cur T (0, 0)) → w'.heap[b]? = w.heap[b]?) : w'.ownsRow B T k v n cs := by
  refine ⟨h.1, ?_⟩
  rcases h.2 with h2 | ⟨g, cap, cur, rfl, hB, hh, r⟩
  · exact .inl h2
  · exact .inr ⟨g, cap, cur, rfl, hB, by rw [hk g cur hh]; exact hh, r⟩
theorem IsL.keepT {w w' : World} {g : Nat} {u x q : Int} {es : List (Int × Int)} (h : IsL w g u x es q) (hg : w'.heap[g]? = w.heap[g]?) (hk : KeepT leT (some g) w w') : IsL w' g u x es q := by
  obtain ⟨hok, ge, d, mv, hne, hb, he, hm⟩ := h
  unfold Blk at hb he
  refine ⟨hok, ge, d, mv, hne, by unfold Blk; rw [hg]; exact hb, by unfold Blk; rw [hk ge _ _ _ he rfl (by simp; exact hne)]; exact he, ?_⟩
  rcases hm with hm | ⟨hd, hm⟩
  · exact .inl hm
  · refine .inr ⟨hd, ownsRow_keep hm (fun b cur hb' => hk b _ _ _ hb' rfl (fun e => ?_))⟩
    obtain rfl := Option.some.inj e
    rw [hb] at hb'
    simp at hb'
theorem IsLx.keepT {w w' : World} {g : Nat} {u x : Int} {es : List (Int × Int)} (h : IsLx w g u x es) (hg : w'.heap[g]? = w.heap[g]?) (hk : KeepT leT (some g) w w') : IsLx w' g u x es := by
  obtain ⟨q, h⟩ := h
  exact ⟨q, h.keepT hg hk⟩
theorem IsLx.lt {w : World} {g : Nat} {u x : Int} {es : List (Int × Int)} (h : IsLx w g u x es) : g < w.heap.size := by
  obtain ⟨q, _, _, _, _, _, hg, _⟩ := h; exact hg.lt
/-- a walk begins with leap seconds at g -/
theorem St.startL (w : World) {g : Nat} {u x : Int} {es : List (Int × Int)} (h : IsLx w g u x es) : St w (some g) (some g) w (mem []) (fun _ => True) (fun w => IsLx w g u x es) :=
  ⟨⟨rfl, rfl, rfl, Nat.le_refl _, fun _ _ _ => rfl⟩, fun m m' e e' h => (by simp [mem] at h), fun m e h => (by simp [mem] at h), fun k hk => (by obtain rfl := Option.some.inj hk; exact ⟨h.lt, fun m e hm => by simp [mem] at hm, .inr rfl⟩), fun _ _ => trivial, fun w' ha => h.keepT (ha.2 g h.lt (fun m e hm => by simp [mem] at hm) (by simp)) (fun b cur T fz hb _ _ => ha.2 b (lt_of_some hb) (fun m e hm => by simp [mem] at hm) (by simp))⟩
section
variable {R : Reg} {Q : Exit → Act → World → Prop} {i : Nat} {o : Oper} {P : Program}
/-- what a question to leap seconds gives: the answer; they are as they were -/
def LeapC (P : Program) (f : FuncId) (vs : List Value) (w : World) (g : Nat) (u x : Int) (es : List (Int × Int)) (v : Value) : Prop := Calls P f vs.toArray w fun e w' => e = .returned v ∧ IsLx w' g u x es ∧ w.grownBy w' (some g)
theorem s_leap {V : Env → Value} {f : FuncId} {fn : Func} {ps : Array Operand} {ts : Array TypeId} (hfn : P.funcs[f]? = some fn) {g : Nat} {u x : Int} {es : List (Int × Int)} (hΘ : ∀ w, R.Θ w → IsLx w g u x es) (hΘ' : ∀ w, IsLx w g u x es → R.Θ w) (ho : R.ops[i]? = some o := by rfl) (hf : free' R i = true := by rfl) (hop : o.op = .call { callee := .value (.func f), args := ps, argTypes := ts } := by rfl) (hname : (fn.name == "runtime.NumGoroutine") = false := by kernel_rfl) (hb : fn.body.isSome = true := by rfl) (hV : R.v? i = some V := by rfl)
    (hw : ∀ D env a w, At R i D env a w → Region.wanted o (yielded R.ops a.tmps) = true := by intro D env a w hA; first | exact wanted_none rfl _ | exact hA.gy rfl rfl rfl) (hx : R.ex = some g := by rfl) (hth : R.th = none := by rfl) (hT : tFree leT R = true := by rfl) (hn : noF R i = true := by rfl) (hr : ∀ env x, V (restr (R.cl.getD i []) (upd env i x)) = V env := by intros; rfl)
    (h : ∀ D env a w, At R i D env a w → IsLx w g u x es → ∃ vs : List Value, LeapC P f vs w g u x es (V env) ∧ ps.toList.map (opAt R i env) = vs.map some) : SR P Q R i :=
  s_callx ho hf hop hfn hname hb (fun {D env a w} hA => by
    have hL : IsLx w g u x es := hΘ w (by have := hA.j.st.nowT; unfold Reg.tht at this; rw [hth] at this; exact this)
    obtain ⟨vs, h1, h2⟩ := h D env a w hA hL
    refine ⟨hw _ _ _ _ hA, vs.toArray, hA.args h2, h1.mono ?_⟩
    rintro e w' ⟨rfl, hL', hg⟩
    refine ⟨_, rfl, ?_, fun w'' _ => f_val hA.ok ho hV hn hr _ w''⟩
    refine hA.j.st.callg hx hg (fun w'' ha => ?_)
    have hst' := hA.j.st.callg hx hg (Θ' := fun _ => True) (fun _ _ => trivial)
    unfold Reg.tht
    rw [hth]
    refine hΘ' w'' (hL'.keepT ?_ ?_)
    · obtain ⟨k1, k2, _⟩ := hst'.exb g hx
      exact ha.2 g k1 (fun m e hm => k2 m e hm) (by simp)
    · have := apart_keepT (Ts := leT) hT hst' (.inr rfl) ha
      rw [hx] at this
      exact this)
/-- a call that yields a number in new memory, beside a state's block -/
theorem cg_ {f : FuncId} {fn : Func} {ps : Array Operand} {ts : Array TypeId} (hfn : P.funcs[f]? = some fn) (z : Int) (ho : R.ops[i]? = some o := by rfl) (hf : free' R i = true := by rfl) (hop : o.op = .call { callee := .value (.func f), args := ps, argTypes := ts } := by rfl) (hname : (fn.name == "runtime.NumGoroutine") = false := by kernel_rfl) (hb : fn.body.isSome = true := by rfl)
    (hw : ∀ D env a w, At R i D env a w → Region.wanted o (yielded R.ops a.tmps) = true := by intro D env a w hA; first | exact wanted_none rfl _ | exact hA.gy rfl rfl rfl) {g : Nat} (hx : R.ex = some g := by rfl) (hV : R.v? i = some (fun env => bigF z (env i)) := by rfl) (hF : R.F.filter (fun p => Nat.beq p.1 i) = [(i, fun env w => BigX (some g) w (env i) z)] := by rfl) (hint : intFree R = true := by rfl)
    (h : ∀ D env a w, At R i D env a w → ∃ vs : List Value, (Calls P f vs.toArray w fun e w' => ∃ v, e = .returned v ∧ Below w.heap.size w w' ∧ BigN w.heap.size w' v z) ∧ ps.toList.map (opAt R i env) = vs.map some) : SR P Q R i :=
  cf_ hfn (fun v w => BigX (some g) w v z) (bigF z) ho hf hop hname hb hw hV hF hint (fun v w h => h.form) (fun v w w' hk h => by rw [hx] at hk; exact h.keep hk) (fun D env a w hA => by
    obtain ⟨vs, h1, h2⟩ := h D env a w hA
    exact ⟨vs, toG (hA.j.st.exb g hx).1 h1, h2⟩)
end
/-- a new table's leap seconds -/
def NewL (w : World) (v : Value) (u x : Int) (es : List (Int × Int)) (B : Nat) : Prop := v = .tuple #[vP (ptrB (tp v 0)) 0, vI 0] ∧ IsLx w (ptrB (tp v 0)) u x es ∧ B ≤ ptrB (tp v 0)
/-- from here on they are the state -/
theorem Cur.exInL {n : Nat} {w0 : World} {Θ : World → Prop} {L : Slots} {M : List Ent} {a : Act} {w : World} {v : Value} {u x : Int} {es : List (Int × Int)} (h : Cur n w0 none none (Facts [fun w => NewL w v u x es w0.heap.size]) Θ L M a w) : Cur n w0 none (some (ptrB (tp v 0))) (Facts []) (fun w => IsLx w (ptrB (tp v 0)) u x es) L M a w := by
  have hN := fun w' (ha : Apart (mem M) none w w') => (show NewL w' v u x es w0.heap.size from (h.st.psi w' ha).get 0 rfl)
  have h0 := hN w (Apart.refl _ _ _)
  refine ⟨h.sz, h.df, ⟨h.st.gr, h.st.nod, h.st.own, fun g' hg' => ?_, fun _ _ φ hφ => (by cases hφ), fun w' ha => (hN w' ha).2.1⟩, h.sl⟩
  obtain rfl := Option.some.inj hg'
  refine ⟨h0.2.1.lt, fun m e hm he => ?_, .inl h0.2.2⟩
  -- a variable of the call's own lies elsewhere: else turning it would turn the leap seconds
  have hlt := h0.2.1.lt
  have h3 := (hN { w with heap := w.heap.setIfInBounds (ptrB (tp v 0)) (.map #[] 0) } ⟨by simp, fun k hk hM _ => by
    show (w.heap.setIfInBounds _ _)[k]? = _
    rw [Array.getElem?_setIfInBounds_ne (fun e' => hM m e hm (by rw [he, e']))]⟩).2.1
  obtain ⟨q, _, ge, d, mv, _, hb, _⟩ := h3
  unfold Blk at hb
  rw [show ({ w with heap := w.heap.setIfInBounds (ptrB (tp v 0)) (.map #[] 0) } : World).heap = w.heap.setIfInBounds (ptrB (tp v 0)) (.map #[] 0) from rfl, Array.getElem?_setIfInBounds_self_of_lt hlt] at hb
  cases hb
end Go.Proofs.Ytdbhgeihphjgeaa
/- utc: form, in, count, floor (printed by my walk.py) -/
namespace Go.Proofs.Ytdbhgeihphjgeaa
open Go.RowKit
set_option linter.unusedVariables false
set_option linter.unusedSimpArgs false
attribute [local go_sem] vN bT bF rS vW vM vL vT2 vT3 vP vI execOp Act.eval evC bigF vB hi_zero lo_zero Try.underlying63 Try.underlying66

set_option maxRecDepth 100000 in
set_option maxHeartbeats 8000000 in
theorem uform_any (d s x : Int) : Ret 117 #[vL d s x] (.bool (formB s x)) := by
  intro w0
  have hst := St.start w0 (Θ := fun _ => True) (fun _ _ => trivial)
  refine enter Try.func117 rfl (n := 21) rfl (Nat.le_of_ble_eq_true rfl) hst (L := [(0, vL d s x)]) (lk_args rfl) (fun ac h => ?_)
  refine wp_seq ?_
  refine rg_ h [[0],[1]] [KE_ fun env => vP (pb env 0) 0, K_ bF] (fun E1 => [(1, vP (pb E1 0) 0), (2, bF)]) (W := [{ i := 0, T := 63, c0 := [vI d, vI s, vI x] }]) (M' := fun E1 => [((pb E1 0), 63, [vI d, vI s, vI x])]) (hs := c_ (bx0 0 (vL d s x)) <| c_ mv_ <| e_) (k := fun E1 ac wd h_1 => ?_)
  clear h
  refine then_n (wp_seq ?_)
  by_cases h0 : 0 ≤ s
  by_cases h1 : s ≤ 86400
  by_cases h2 : 0 ≤ x
  refine rg_ h_1 (tri 19) [K_ (vP (pb E1 0) 1), K_ (vI s), K_ bT, K_ bT, K_ (vP (pb E1 0) 1), K_ (vI s), K_ bT, K_ bT, K_ bT, K_ (vP (pb E1 0) 2), K_ (vI x), K_ bT, K_ bT, K_ bT, K_ (vP (pb E1 0) 2), K_ (vI x), K_ (.bool (decide (x < 1000000000000000000))), K_ (.bool (decide (x < 1000000000000000000))), K_ (.bool (decide (x < 1000000000000000000)))] (fun E2 => [(2, .bool (decide (x < 1000000000000000000)))]) (hs := c_ (fa0 (vP (pb E1 0) 0)) <| c_ (ld_ 0 (hrd := by exact rd3 rfl)) <| c_ (bi0 (vI s) (vI 0) (h := by intro env w; simp [go_sem, h0])) <| c_ mv_ <| c_ (fa0 (vP (pb E1 0) 0)) <| c_ (ld_ 0 (hrd := by exact rd3 rfl)) <| c_ (bi0 (vI s) (vI 86400) (h := by intro env w; simp [go_sem, h1])) <| c_ (pk0 bT bT bF (h := by intro env w; simp [go_sem, h1])) <| c_ mv_ <| c_ (fa0 (vP (pb E1 0) 0)) <| c_ (ld_ 0 (hrd := by exact rd3 rfl)) <| c_ (bi0 (vI x) (vI 0) (h := by intro env w; simp [go_sem, h2])) <| c_ (pk0 bT bT bF (h := by intro env w; simp [go_sem, h2])) <| c_ mv_ <| c_ (fa0 (vP (pb E1 0) 0)) <| c_ (ld_ 0 (hrd := by exact rd3 rfl)) <| c_ (bi0 (vI x) (vI 1000000000000000000)) <| c_ (pk0 bT (.bool (decide (x < 1000000000000000000))) bF) <| c_ mv_ <| e_) (k := fun E2 ac wd h_2 => ?_)
  clear h_1
  refine then_n (wp_ret ?_)
  have s2 := h_2.g (t := 2) rfl
  refine leave (v := .bool (decide (x < 1000000000000000000))) h_2.df (by simp [results, Try.results117, go_sem, Array.getD_eq_getD_getElem?, s2]) ?_
  have e : formB s x = decide (x < 1000000000000000000) := by have e0 := decide_eq_true h0; have e1 := decide_eq_true h1; have e2 := decide_eq_true h2; unfold formB wthn; rw [e0, e1, e2]; simp only [Bool.true_and]; exact decide_eq_decide.2 (by omega)
  exact ⟨by rw [e], h_2.st.below⟩
  refine rg_ h_1 (tri 19) [K_ (vP (pb E1 0) 1), K_ (vI s), K_ bT, K_ bT, K_ (vP (pb E1 0) 1), K_ (vI s), K_ bT, K_ bT, K_ bT, K_ (vP (pb E1 0) 2), K_ (vI x), K_ bF, K_ bF, K_ bF, K_ undef, K_ undef, K_ undef, K_ bF, K_ bF] (fun E2 => [(2, bF)]) (hs := c_ (fa0 (vP (pb E1 0) 0)) <| c_ (ld_ 0 (hrd := by exact rd3 rfl)) <| c_ (bi0 (vI s) (vI 0) (h := by intro env w; simp [go_sem, h0])) <| c_ mv_ <| c_ (fa0 (vP (pb E1 0) 0)) <| c_ (ld_ 0 (hrd := by exact rd3 rfl)) <| c_ (bi0 (vI s) (vI 86400) (h := by intro env w; simp [go_sem, h1])) <| c_ (pk0 bT bT bF (h := by intro env w; simp [go_sem, h1])) <| c_ mv_ <| c_ (fa0 (vP (pb E1 0) 0)) <| c_ (ld_ 0 (hrd := by exact rd3 rfl)) <| c_ (bi0 (vI x) (vI 0) (h := by intro env w; simp [go_sem, h2])) <| c_ (pk0 bT bF bF (h := by intro env w; simp [go_sem, h2])) <| c_ mv_ <| c_ off_ <| c_ off_ <| c_ off_ <| c_ (pk0 bF undef bF) <| c_ mv_ <| e_) (k := fun E2 ac wd h_2 => ?_)
  clear h_1
  refine then_n (wp_ret ?_)
  have s2 := h_2.g (t := 2) rfl
  refine leave (v := .bool false) h_2.df (by simp [results, Try.results117, go_sem, Array.getD_eq_getD_getElem?, s2]) ?_
  have e : formB s x = false := by simp [formB, wthn]; omega
  exact ⟨by rw [e], h_2.st.below⟩
  refine rg_ h_1 (tri 19) [K_ (vP (pb E1 0) 1), K_ (vI s), K_ bT, K_ bT, K_ (vP (pb E1 0) 1), K_ (vI s), K_ bF, K_ bF, K_ bF, K_ undef, K_ undef, K_ undef, K_ bF, K_ bF, K_ undef, K_ undef, K_ undef, K_ bF, K_ bF] (fun E2 => [(2, bF)]) (hs := c_ (fa0 (vP (pb E1 0) 0)) <| c_ (ld_ 0 (hrd := by exact rd3 rfl)) <| c_ (bi0 (vI s) (vI 0) (h := by intro env w; simp [go_sem, h0])) <| c_ mv_ <| c_ (fa0 (vP (pb E1 0) 0)) <| c_ (ld_ 0 (hrd := by exact rd3 rfl)) <| c_ (bi0 (vI s) (vI 86400) (h := by intro env w; simp [go_sem, h1])) <| c_ (pk0 bT bF bF (h := by intro env w; simp [go_sem, h1])) <| c_ mv_ <| c_ off_ <| c_ off_ <| c_ off_ <| c_ (pk0 bF undef bF) <| c_ mv_ <| c_ off_ <| c_ off_ <| c_ off_ <| c_ (pk0 bF undef bF) <| c_ mv_ <| e_) (k := fun E2 ac wd h_2 => ?_)
  clear h_1
  refine then_n (wp_ret ?_)
  have s2 := h_2.g (t := 2) rfl
  refine leave (v := .bool false) h_2.df (by simp [results, Try.results117, go_sem, Array.getD_eq_getD_getElem?, s2]) ?_
  have e : formB s x = false := by simp [formB, wthn]; omega
  exact ⟨by rw [e], h_2.st.below⟩
  refine rg_ h_1 (tri 19) [K_ (vP (pb E1 0) 1), K_ (vI s), K_ bF, K_ bF, K_ undef, K_ undef, K_ undef, K_ bF, K_ bF, K_ undef, K_ undef, K_ undef, K_ bF, K_ bF, K_ undef, K_ undef, K_ undef, K_ bF, K_ bF] (fun E2 => [(2, bF)]) (hs := c_ (fa0 (vP (pb E1 0) 0)) <| c_ (ld_ 0 (hrd := by exact rd3 rfl)) <| c_ (bi0 (vI s) (vI 0) (h := by intro env w; simp [go_sem, h0])) <| c_ mv_ <| c_ off_ <| c_ off_ <| c_ off_ <| c_ (pk0 bF undef bF) <| c_ mv_ <| c_ off_ <| c_ off_ <| c_ off_ <| c_ (pk0 bF undef bF) <| c_ mv_ <| c_ off_ <| c_ off_ <| c_ off_ <| c_ (pk0 bF undef bF) <| c_ mv_ <| e_) (k := fun E2 ac wd h_2 => ?_)
  clear h_1
  refine then_n (wp_ret ?_)
  have s2 := h_2.g (t := 2) rfl
  refine leave (v := .bool false) h_2.df (by simp [results, Try.results117, go_sem, Array.getD_eq_getD_getElem?, s2]) ?_
  have e : formB s x = false := by simp [formB, wthn]; omega
  exact ⟨by rw [e], h_2.st.below⟩
set_option maxRecDepth 100000 in
set_option maxHeartbeats 8000000 in
theorem uin_any (n : Int) : Ret 96 #[vI n] (.bool (wthn n (-1099511627776) 1099511627776)) := by
  intro w0
  have hst := St.start w0 (Θ := fun _ => True) (fun _ _ => trivial)
  refine enter Try.func96 rfl (n := 9) rfl (Nat.le_of_ble_eq_true rfl) hst (L := [(0, vI n)]) (lk_args rfl) (fun ac h => ?_)
  refine wp_seq ?_
  refine rg_ h [[0]] [K_ bF] (fun E1 => [(0, vI n), (2, bF)]) (hs := c_ mv_ <| e_) (k := fun E1 ac wd h_1 => ?_)
  clear h
  refine then_n (wp_seq ?_)
  by_cases h : -1099511627776 ≤ n
  refine rg_ h_1 (tri 7) [K_ (vI n), K_ bT, K_ bT, K_ (vI n), K_ (.bool (decide (n ≤ 1099511627776))), K_ (.bool (decide (n ≤ 1099511627776))), K_ (.bool (decide (n ≤ 1099511627776)))] (fun E2 => [(2, .bool (decide (n ≤ 1099511627776)))]) (hs := c_ mv_ <| c_ (bi0 (vI n) (vI (-1099511627776)) (h := by intro env w; simp [go_sem, h])) <| c_ mv_ <| c_ (gm0 (vI n)) <| c_ (bi0 (vI n) (vI 1099511627776)) <| c_ (pk0 bT (.bool (decide (n ≤ 1099511627776))) bF) <| c_ mv_ <| e_) (k := fun E2 ac wd h_2 => ?_)
  clear h_1
  refine then_n (wp_ret ?_)
  have s2 := h_2.g (t := 2) rfl
  refine leave (v := .bool (decide (n ≤ 1099511627776))) h_2.df (by simp [results, Try.results96, go_sem, Array.getD_eq_getD_getElem?, s2]) ?_
  exact ⟨by simp [wthn, h], h_2.st.below⟩
  refine rg_ h_1 (tri 7) [K_ (vI n), K_ bF, K_ bF, K_ undef, K_ undef, K_ bF, K_ bF] (fun E2 => [(2, bF)]) (hs := c_ mv_ <| c_ (bi0 (vI n) (vI (-1099511627776)) (h := by intro env w; simp [go_sem, h])) <| c_ mv_ <| c_ off_ <| c_ off_ <| c_ (pk0 bF undef bF) <| c_ mv_ <| e_) (k := fun E2 ac wd h_2 => ?_)
  clear h_1
  refine then_n (wp_ret ?_)
  have s2 := h_2.g (t := 2) rfl
  refine leave (v := .bool false) h_2.df (by simp [results, Try.results96, go_sem, Array.getD_eq_getD_getElem?, s2]) ?_
  exact ⟨by simp [wthn, h], h_2.st.below⟩
theorem fit_tup {z : Int} (h : InW z) : vT2 (vW (fitV z)) (vI (fitE z)) = vT2 (vW z) (vI 0) := by rw [(fit_yes h).1, (fit_yes h).2]
theorem ucount_w {s x : Int} (hs : -9223372036854775808 ≤ s) (hs1 : s < 9223372036854775808) (hx : 0 ≤ x) (hx1 : x < 1000000000000000000) : InW s ∧ InW x ∧ InW (1000000000000000000 : Int) ∧ InW (s * 1000000000000000000) ∧ InW (s * 1000000000000000000 + x) := by
  refine ⟨?_, ?_, ?_, ?_, ?_⟩ <;> unfold InW <;> omega
set_option maxRecDepth 100000 in
set_option maxHeartbeats 8000000 in
theorem ucount_any (s x : Int) (hs : -9223372036854775808 ≤ s) (hs1 : s < 9223372036854775808) (hx : 0 ≤ x) (hx1 : x < 1000000000000000000) : Ret 91 #[vI s, vI x] (vW (s * 1000000000000000000 + x)) := by
  obtain ⟨q0, q1, q2, q3, q4⟩ := ucount_w hs hs1 hx hx1
  intro w0
  have hst := St.start w0 (Θ := fun _ => True) (fun _ _ => trivial)
  refine enter Try.func91 rfl (n := 22) rfl (Nat.le_of_ble_eq_true rfl) hst (L := [(0, vI s), (1, vI x)]) (lk_args rfl) (fun ac h => ?_)
  refine wp_seq ?_
  refine rg_ h [[0]] [KE_ fun env => vP (pb env 0) 0] (fun E1 => [(0, vI s), (1, vI x), (4, vP (pb E1 0) 0)]) (W := [{ i := 0, T := 66, c0 := [vI 0, .int .u64 0] }]) (M' := fun E1 => [((pb E1 0), 66, [vI 0, .int .u64 0])]) (hs := c_ (al_ 0) <| e_) (k := fun E1 ac wd h_1 => ?_)
  clear h
  refine then_n (wp_seq ?_)
  refine rg_ h_1 [[0],[0,1],[0,1,2],r_ 4,r_ 5,r_ 6,[0,1,2,3,4,6],[7],[0,1,2,3,4,5,7,8],r_ 10] [K_ (vI s), K_ (vW s), K_ (vW 1000000000000000000), K_ (vT2 (vW (s * 1000000000000000000)) (vI 0)), K_ (vT2 (vW (s * 1000000000000000000)) (vI 0)), K_ (vW (s * 1000000000000000000)), K_ (vI 0), KE_ fun env => vP (pb env 7) 0, none, K_ (vI 0)] (fun E2 => [(1, vI x), (4, vP (pb E1 0) 0), (5, vP (pb E2 7) 0)]) (W := [{ i := 7, T := 66, c0 := [vI 0, .int .u64 0], s := some 8, c1 := fun _ => [vI (hi (s * 1000000000000000000)), .int .u64 (lo (s * 1000000000000000000))] }]) (M' := fun E2 => [((pb E1 0), 66, [vI 0, .int .u64 0]), ((pb E2 7), 66, [vI (hi (s * 1000000000000000000)), .int .u64 (lo (s * 1000000000000000000))])]) (hs := c_ mv_ <| c_ (cl_ Try.func93 (h := fun env => ⟨_, (of_any s (by omega) (by omega)), rfl⟩)) <| c_ (cl_ Try.func93 (h := fun env => ⟨_, (of_any 1000000000000000000 (by omega) (by omega)), rfl⟩)) <| c_ (cl_ Try.func118 (h := fun env => ⟨_, ((wmul_any s 1000000000000000000 q0 q2).eq (fit_tup q3)), rfl⟩)) <| c_ mv_ <| c_ ext_ <| c_ ext_ <| c_ (al_ 1) <| c_ (sw_ 1 7 (hst := by exact fun _ _ _ hc => st66 rfl rfl rfl hc)) <| c_ mv_ <| e_) (k := fun E2 ac wd h_2 => ?_)
  clear h_1
  refine then_n (wp_seq ?_)
  refine rg_ h_2 [[0],[1],[1,2],r_ 4,r_ 5,r_ 6,[0,1,2,3,4,6],[0,1,2,3,4,5,7]] [K_ (vW (s * 1000000000000000000)), K_ (vI x), K_ (vW x), K_ (vT2 (vW (s * 1000000000000000000 + x)) (vI 0)), K_ (vT2 (vW (s * 1000000000000000000 + x)) (vI 0)), K_ (vW (s * 1000000000000000000 + x)), K_ (vI 0), none] (fun E3 => [(4, vP (pb E1 0) 0), (5, vP (pb E2 7) 0)]) (S := [⟨1, 7, fun _ => [vI (hi (s * 1000000000000000000 + x)), .int .u64 (lo (s * 1000000000000000000 + x))]⟩]) (M' := fun E3 => [((pb E1 0), 66, [vI 0, .int .u64 0]), ((pb E2 7), 66, [vI (hi (s * 1000000000000000000 + x)), .int .u64 (lo (s * 1000000000000000000 + x))])]) (hs := c_ (ld_ 1 (hrd := by exact rd66 rfl rfl)) <| c_ mv_ <| c_ (cl_ Try.func93 (h := fun env => ⟨_, (of_any x (by omega) (by omega)), rfl⟩)) <| c_ (cl_ Try.func119 (h := fun env => ⟨_, (Ret.eq (wadd_any (s * 1000000000000000000) x q3 q1) (fit_tup q4)), rfl⟩)) <| c_ mv_ <| c_ ext_ <| c_ ext_ <| c_ (se_ 1 (hst := by exact fun _ _ _ hc => st66 rfl rfl rfl hc)) <| e_) (k := fun E3 ac wd h_3 => ?_)
  clear h_2
  refine then_n (wp_seq ?_)
  refine rg_ h_3 [[0],[0,1]] [K_ (vW (s * 1000000000000000000 + x)), none] (fun E4 => [(4, vP (pb E1 0) 0)]) (S := [⟨0, 1, fun _ => [vI (hi (s * 1000000000000000000 + x)), .int .u64 (lo (s * 1000000000000000000 + x))]⟩]) (M' := fun E4 => [((pb E1 0), 66, [vI (hi (s * 1000000000000000000 + x)), .int .u64 (lo (s * 1000000000000000000 + x))]), ((pb E2 7), 66, [vI (hi (s * 1000000000000000000 + x)), .int .u64 (lo (s * 1000000000000000000 + x))])]) (hs := c_ (ld_ 1 (hrd := by exact rd66 rfl rfl)) <| c_ (se_ 0 (hst := by exact fun _ _ _ hc => st66 rfl rfl rfl hc)) <| e_) (k := fun E4 ac wd h_4 => ?_)
  clear h_3
  refine then_n (wp_ret ?_)
  have s4 := h_4.g (t := 4) rfl
  have hc4 := (h_4.st.own 0 _ rfl).2
  have c4_0 := own_cell (o := 0) hc4 rfl
  have c4_1 := own_cell (o := 1) hc4 rfl
  refine leave (v := vW (s * 1000000000000000000 + x)) h_4.df (by simp [results, Try.results91, go_sem, Array.getD_eq_getD_getElem?, s4, c4_0, c4_1, Try.underlying66]) ?_
  exact ⟨rfl, h_4.st.below⟩
theorem floor_dm (n : Int) : ∃ q m, n.tdiv 86400 = q ∧ n.tmod 86400 = m ∧ -86400 < m ∧ m < 86400 ∧ n = 86400 * q + m ∧ (0 ≤ n → 0 ≤ m) ∧ (n ≤ 0 → m ≤ 0) := by
  refine ⟨_, _, rfl, rfl, ?_, ?_, (Int.mul_tdiv_add_tmod n 86400).symm, fun h => Int.tmod_nonneg 86400 h, fun h => ?_⟩
  · rcases Int.le_total 0 n with h | h
    · have := Int.tmod_nonneg 86400 h; omega
    · have h1 : n = -(-n) := by omega
      rw [h1, Int.neg_tmod]
      have := Int.tmod_lt_of_pos (-n) (b := 86400) (by omega)
      omega
  · exact Int.tmod_lt_of_pos n (by omega)
  · have h1 : n = -(-n) := by omega
    rw [h1, Int.neg_tmod]
    have := Int.tmod_nonneg 86400 (a := -n) (by omega)
    omega
set_option maxRecDepth 100000 in
set_option maxHeartbeats 8000000 in
theorem ufloor_any (n : Int) (h0 : -9223372036854775808 ≤ n) (h1 : n < 9223372036854775808) : Ret 95 #[vI n, vI 86400] (vI (n / 86400)) := by
  obtain ⟨q, m, hq, hm, m0, m1, e, m2, m3⟩ := floor_dm n
  intro w0
  have hst := St.start w0 (Θ := fun _ => True) (fun _ _ => trivial)
  refine enter Try.func95 rfl (n := 16) rfl (Nat.le_of_ble_eq_true rfl) hst (L := [(0, vI n), (1, vI 86400)]) (lk_args rfl) (fun ac h => ?_)
  refine wp_seq ?_
  refine rg_ h [[0]] [K_ (vI 0)] (fun E1 => [(0, vI n), (1, vI 86400), (4, vI 0)]) (hs := c_ mv_ <| e_) (k := fun E1 ac wd h_1 => ?_)
  clear h
  refine then_n (wp_seq ?_)
  refine rg_ h_1 [[0],[1],[0,1,2],r_ 4] [K_ (vI n), K_ (vI 86400), K_ (vI q), K_ (vI q)] (fun E2 => [(0, vI n), (1, vI 86400), (4, vI 0), (5, vI q)]) (hs := c_ mv_ <| c_ mv_ <| c_ (bi0 (vI n) (vI 86400) (h := by intro env w; (first | (simp [go_sem, hq]; done) | (simp [go_sem, hq]; exact IntWalk.i64_in _ (by omega))))) <| c_ mv_ <| e_) (k := fun E2 ac wd h_2 => ?_)
  clear h_1
  refine then_n (wp_seq (wp_seq ?_))
  by_cases hm0 : m < 0
  refine rg_ h_2 [[0],[1],[0,1,2],r_ 4] [K_ (vI n), K_ (vI 86400), K_ (vI m), K_ bT] (fun E3 => [(4, vI 0), (5, vI q), (12, bT)]) (hs := c_ mv_ <| c_ mv_ <| c_ (bi0 (vI n) (vI 86400) (h := by intro env w; (first | (simp [go_sem, hm]; done) | (simp [go_sem, hm]; exact IntWalk.i64_in _ (by omega))))) <| c_ (bi0 (vI m) (vI 0) (h := by intro env w; simp [go_sem, hm0]; first | done | omega)) <| e_) (k := fun E3 ac wd h_3 => ?_)
  clear h_2
  refine then_n ?_
  refine wp_cond_true (eval_tmp (h_3.g (t := 12) rfl)) ?_
  refine rg_ h_3 (tri 3) [K_ (vI q), K_ (vI (q - 1)), K_ (vI (q - 1))] (fun E4 => [(4, vI 0), (5, vI (q - 1))]) (hs := c_ mv_ <| c_ (bi0 (vI q) (vI 1)) <| c_ mv_ <| e_) (k := fun E4 ac wd h_4 => ?_)
  clear h_3
  refine then_n (wp_seq ?_)
  refine rg_ h_4 [[0],[0,1]] [K_ (vI (q - 1)), K_ (vI (q - 1))] (fun E5 => [(4, vI (q - 1))]) (hs := c_ mv_ <| c_ mv_ <| e_) (k := fun E5 ac wd h_5 => ?_)
  clear h_4
  refine then_n (wp_ret ?_)
  have s4 := h_5.g (t := 4) rfl
  refine leave (v := vI (q - 1)) h_5.df (by simp [results, Try.results95, go_sem, Array.getD_eq_getD_getElem?, s4]) ?_
  have e : n / 86400 = q - 1 := by omega
  exact ⟨by rw [e], h_5.st.below⟩
  refine rg_ h_2 [[0],[1],[0,1,2],r_ 4] [K_ (vI n), K_ (vI 86400), K_ (vI m), K_ bF] (fun E3 => [(4, vI 0), (5, vI q), (12, bF)]) (hs := c_ mv_ <| c_ mv_ <| c_ (bi0 (vI n) (vI 86400) (h := by intro env w; (first | (simp [go_sem, hm]; done) | (simp [go_sem, hm]; exact IntWalk.i64_in _ (by omega))))) <| c_ (bi0 (vI m) (vI 0) (h := by intro env w; simp [go_sem, hm0]; first | done | omega)) <| e_) (k := fun E3 ac wd h_3 => ?_)
  clear h_2
  refine then_n ?_
  refine wp_cond_false (eval_tmp (h_3.g (t := 12) rfl)) ?_
  refine wp_skip (then_n (wp_seq ?_))
  refine rg_ h_3 [[0],[0,1]] [K_ (vI q), K_ (vI q)] (fun E4 => [(4, vI q)]) (hs := c_ mv_ <| c_ mv_ <| e_) (k := fun E4 ac wd h_4 => ?_)
  clear h_3
  refine then_n (wp_ret ?_)
  have s4 := h_4.g (t := 4) rfl
  refine leave (v := vI q) h_4.df (by simp [results, Try.results95, go_sem, Array.getD_eq_getD_getElem?, s4]) ?_
  have e : n / 86400 = q := by omega
  exact ⟨by rw [e], h_4.st.below⟩
end Go.Proofs.Ytdbhgeihphjgeaa
/- Utc in plain words: what check, Tai, Label answer by leap seconds. Own work. -/
namespace Go.Proofs.Ytdbhgeihphjgeaa
open Go.RowKit
set_option linter.unusedVariables false
set_option linter.unusedSimpArgs false
theorem Fact.neg_dec {z : Int} (h : ¬ z < 0) : ¬ hi z < 0 := fun h' => h (hi_neg.1 h')
theorem IsLx.ok {w : World} {g : Nat} {u x : Int} {es : List (Int × Int)} (h : IsLx w g u x es) : okT u x es = true := by obtain ⟨q, hok, _⟩ := h; exact hok
theorem LeapC.eq {P : Program} {f : FuncId} {vs : List Value} {w : World} {g : Nat} {u x : Int} {es : List (Int × Int)} {v v' : Value} (h : LeapC P f vs w g u x es v) (e : v = v') : LeapC P f vs w g u x es v' := e ▸ h
section
variable {w : World} {g : Nat} {u x : Int} {es : List (Int × Int)}
theorem length_l (h : IsLx w g u x es) (day : Int) : LeapC Try.prog 23 [vP g 0, vI day] w g u x es (vT2 (vI (lenV es day)) (vI (lenE es day))) := by
  obtain ⟨q, h⟩ := h
  exact (length_any g u x q day es w h).mono (fun e w' h => ⟨h.1, ⟨_, h.2.1⟩, h.2.2⟩)
theorem offset_l (h : IsLx w g u x es) (day : Int) : LeapC Try.prog 22 [vP g 0, vI day] w g u x es (vT2 (vI (offV es day)) (vI (offE es day))) := by
  obtain ⟨q, h⟩ := h
  exact (offset_any g u x q day es w h).mono (fun e w' h => ⟨h.1, ⟨_, h.2.1⟩, h.2.2⟩)
theorem at_l (h : IsLx w g u x es) (s : Int) : LeapC Try.prog 33 [vP g 0, vI s] w g u x es (vT3 (vI (atV es s)) (vI (atU es s)) (vI (atE es s))) := by
  obtain ⟨q, h⟩ := h
  exact (at_any g u x q s es w h).mono (fun e w' h => ⟨h.1, ⟨_, h.2.1⟩, h.2.2⟩)
end
/-- which error a label has -/
def whyU (es : List (Int × Int)) (d s a : Int) : Int := if formB s a = false then 1 else if wthn d (-1099511627776) 1099511627776 = false then 2 else if d < day0 es then 8 else if 86400 + chgV es d ≤ s then 6 else 0
/-- its instant -/
def taiU (es : List (Int × Int)) (d s a : Int) : Int := if whyU es d s a = 0 then (d * 86400 + s + offV es d) * 1000000000000000000 + a else 0
/-- an instant's label: the error, the day, the second, the attosecond -/
def labR (es : List (Int × Int)) (z s r o U : Int) : Int × Int × Int × Int :=
  if s < -9223372036854775808 ∨ 9223372036854775808 ≤ s then (if z < 0 then (8, 0, 0, 0) else (2, 0, 0, 0))
  else if cnt startOf es s = 0 then (8, 0, 0, 0)
  else if U ≤ (s - o) / 86400 then (if wthn (U - 1) (-1099511627776) 1099511627776 = true then (0, U - 1, s - o - (s - o) / 86400 * 86400 + 86400, r) else (2, 0, 0, 0))
  else if wthn ((s - o) / 86400) (-1099511627776) 1099511627776 = true then (0, (s - o) / 86400, s - o - (s - o) / 86400 * 86400, r) else (2, 0, 0, 0)
def labUt (es : List (Int × Int)) (z : Int) : Int × Int × Int × Int := labR es z (z / 1000000000000000000) (z % 1000000000000000000) (atV es (z / 1000000000000000000)) (atU es (z / 1000000000000000000))
theorem len_early {es : List (Int × Int)} {d : Int} (h : d < day0 es) : vT2 (vI (lenV es d)) (vI (lenE es d)) = vT2 (vI 0) (vI 8) := by unfold lenV lenE; rw [if_pos h, if_pos h]
theorem len_ok {es : List (Int × Int)} {d : Int} (h : ¬ d < day0 es) : vT2 (vI (lenV es d)) (vI (lenE es d)) = vT2 (vI (86400 + chgV es d)) (vI 0) := by unfold lenV lenE; rw [if_neg h, if_neg h]
theorem at_no {es : List (Int × Int)} {s : Int} (h : cnt startOf es s = 0) : vT3 (vI (atV es s)) (vI (atU es s)) (vI (atE es s)) = vT3 (vI 0) (vI 0) (vI 8) := by unfold atV atU atE; rw [if_pos h, if_pos h, if_pos h]
theorem at_yes {es : List (Int × Int)} {s o U : Int} (h : ¬ cnt startOf es s = 0) (ho : atV es s = o) (hU : atU es s = U) : vT3 (vI (atV es s)) (vI (atU es s)) (vI (atE es s)) = vT3 (vI o) (vI U) (vI 0) := by rw [ho, hU]; unfold atE; rw [if_neg h]
theorem div_eq3 {a b c d : Int} (h1 : a = c) (h2 : b = d) : vT3 (vW a) (vW b) (vI 0) = vT3 (vW c) (vW d) (vI 0) := by rw [h1, h2]
theorem whyU_ok {es : List (Int × Int)} {d s a : Int} (h : whyU es d s a = 0) : 0 ≤ s ∧ s ≤ 86400 ∧ 0 ≤ a ∧ a < 1000000000000000000 ∧ -1099511627776 ≤ d ∧ d ≤ 1099511627776 ∧ day0 es ≤ d ∧ s < 86400 + chgV es d := by
  unfold whyU at h
  split at h
  · omega
  split at h
  · omega
  split at h
  · omega
  split at h
  · omega
  rename_i h1 h2 h3 h4
  simp [formB, wthn] at h1 h2
  omega
theorem u_off_bd {es : List (Int × Int)} (h : okPre es es.length = true) (d : Int) : 0 ≤ offV es d ∧ offV es d ≤ 1000 := by
  unfold offV
  split
  · omega
  · have h1 := cnt_le dayOf es d
    have := okPre_num h (i := cnt dayOf es d - 1) (by omega)
    omega
theorem at_bd {es : List (Int × Int)} (h : okPre es es.length = true) {s : Int} (hc : ¬ cnt startOf es s = 0) : 0 ≤ atV es s ∧ atV es s ≤ 1000 ∧ 15000 ≤ atU es s ∧ atU es s ≤ 4611686018427387904 := by
  have h1 := cnt_le startOf es s
  have h2 := okPre_num h (i := cnt startOf es s - 1) (by omega)
  unfold atV atU
  rw [if_neg hc, if_neg hc]
  refine ⟨by omega, by omega, ?_⟩
  split
  · omega
  · have h3 := okPre_num h (i := cnt startOf es s) (by omega)
    unfold dayOf
    omega
end Go.Proofs.Ytdbhgeihphjgeaa
/- utc by leap seconds: check, Exists, Tai, Label (printed by my walk.py) -/
namespace Go.Proofs.Ytdbhgeihphjgeaa
open Go.RowKit
set_option linter.unusedVariables false
set_option linter.unusedSimpArgs false
attribute [local go_sem] vN bT bF rS vW vM vL vT2 vT3 vP vI execOp Act.eval evC bigF vB hi_zero lo_zero Try.underlying63 Try.underlying66

set_option maxRecDepth 100000 in
set_option maxHeartbeats 8000000 in
theorem ucheck_l (w0 : World) (g : Nat) (u x : Int) (es : List (Int × Int)) (hL : IsLx w0 g u x es) (d s a : Int) : LeapC Try.prog 90 [vP g 0, vL d s a] w0 g u x es (vI (whyU es d s a)) := by
  unfold LeapC
  have hst := St.startL w0 hL
  refine enter Try.func90 rfl (n := 35) rfl (Nat.le_of_ble_eq_true rfl) hst (L := [(0, vP g 0), (1, vL d s a)]) (lk_args rfl) (fun ac h => ?_)
  refine wp_seq ?_
  refine rg_ h [[0],[1]] [KE_ fun env => vP (pb env 0) 0, K_ (vI 0)] (fun E1 => [(0, vP g 0), (3, vP (pb E1 0) 0), (4, vI 0)]) (W := [{ i := 0, T := 63, c0 := [vI d, vI s, vI a] }]) (M' := fun E1 => [((pb E1 0), 63, [vI d, vI s, vI a])]) (hs := c_ (bx0 0 (vL d s a)) <| c_ mv_ <| e_) (k := fun E1 ac wd h_1 => ?_)
  clear h
  refine then_n (wp_seq (wp_block (wp_seq ?_)))
  refine rg_ h_1 (tri 3) [K_ (vP g 0), K_ bF, K_ bF] (fun E2 => [(0, vP g 0), (3, vP (pb E1 0) 0), (4, vI 0), (7, bF)]) (hs := c_ mv_ <| c_ (bi0 (vP g 0) (.pointer none)) <| c_ mv_ <| e_) (k := fun E2 ac wd h_2 => ?_)
  clear h_1
  refine then_n ?_
  refine wp_cond_false (eval_tmp (h_2.g (t := 7) rfl)) ?_
  refine wp_seq ?_
  cases hf : formB s a
  refine rg_ h_2 (tri 4) [K_ (vL d s a), K_ bF, K_ bT, K_ bT] (fun E3 => [(0, vP g 0), (3, vP (pb E1 0) 0), (4, vI 0), (10, bT)]) (hs := c_ (ld_ 0 (hrd := by exact rd63 rfl rfl rfl)) <| c_ (cl_ Try.func117 (h := fun env => ⟨_, ((uform_any d s a).eq (congrArg Value.bool hf)), rfl⟩)) <| c_ (un0 bF) <| c_ mv_ <| e_) (k := fun E3 ac wd h_3 => ?_)
  clear h_2
  refine then_n ?_
  refine wp_cond_true (eval_tmp (h_3.g (t := 10) rfl)) ?_
  refine wp_seq ?_
  refine rg_ h_3 [[0]] [K_ (vI 1)] (fun E4 => [(0, vP g 0), (3, vP (pb E1 0) 0), (4, vI 1)]) (hs := c_ mv_ <| e_) (k := fun E4 ac wd h_4 => ?_)
  clear h_3
  refine then_n (wp_ret (blk_ret (then_ret ?_)))
  have s4 := h_4.g (t := 4) rfl
  refine leave (v := vI 1) h_4.df (by simp [results, Try.results90, go_sem, Array.getD_eq_getD_getElem?, s4]) ?_
  have e : whyU es d s a = 1 := by unfold whyU; simp [hf]
  exact ⟨by rw [e], h_4.st.nowT, h_4.st.gr⟩
  refine rg_ h_2 (tri 4) [K_ (vL d s a), K_ bT, K_ bF, K_ bF] (fun E3 => [(0, vP g 0), (3, vP (pb E1 0) 0), (4, vI 0), (10, bF)]) (hs := c_ (ld_ 0 (hrd := by exact rd63 rfl rfl rfl)) <| c_ (cl_ Try.func117 (h := fun env => ⟨_, ((uform_any d s a).eq (congrArg Value.bool hf)), rfl⟩)) <| c_ (un0 bT) <| c_ mv_ <| e_) (k := fun E3 ac wd h_3 => ?_)
  clear h_2
  refine then_n ?_
  refine wp_cond_false (eval_tmp (h_3.g (t := 10) rfl)) ?_
  refine wp_seq ?_
  cases hin : wthn d (-1099511627776) 1099511627776
  refine rg_ h_3 (tri 5) [K_ (vP (pb E1 0) 0), K_ (vI d), K_ bF, K_ bT, K_ bT] (fun E4 => [(0, vP g 0), (3, vP (pb E1 0) 0), (4, vI 0), (14, bT)]) (hs := c_ (fa0 (vP (pb E1 0) 0)) <| c_ (ld_ 0 (hrd := by exact rd3 rfl)) <| c_ (cl_ Try.func96 (h := fun env => ⟨_, ((uin_any d).eq (congrArg Value.bool hin)), rfl⟩)) <| c_ (un0 bF) <| c_ mv_ <| e_) (k := fun E4 ac wd h_4 => ?_)
  clear h_3
  refine then_n ?_
  refine wp_cond_true (eval_tmp (h_4.g (t := 14) rfl)) ?_
  refine wp_seq ?_
  refine rg_ h_4 [[0]] [K_ (vI 2)] (fun E5 => [(0, vP g 0), (3, vP (pb E1 0) 0), (4, vI 2)]) (hs := c_ mv_ <| e_) (k := fun E5 ac wd h_5 => ?_)
  clear h_4
  refine then_n (wp_ret (blk_ret (then_ret ?_)))
  have s4 := h_5.g (t := 4) rfl
  refine leave (v := vI 2) h_5.df (by simp [results, Try.results90, go_sem, Array.getD_eq_getD_getElem?, s4]) ?_
  have e : whyU es d s a = 2 := by unfold whyU; simp [hf, hin]
  exact ⟨by rw [e], h_5.st.nowT, h_5.st.gr⟩
  refine rg_ h_3 (tri 5) [K_ (vP (pb E1 0) 0), K_ (vI d), K_ bT, K_ bF, K_ bF] (fun E4 => [(0, vP g 0), (3, vP (pb E1 0) 0), (4, vI 0), (14, bF)]) (hs := c_ (fa0 (vP (pb E1 0) 0)) <| c_ (ld_ 0 (hrd := by exact rd3 rfl)) <| c_ (cl_ Try.func96 (h := fun env => ⟨_, ((uin_any d).eq (congrArg Value.bool hin)), rfl⟩)) <| c_ (un0 bT) <| c_ mv_ <| e_) (k := fun E4 ac wd h_4 => ?_)
  clear h_3
  refine then_n ?_
  refine wp_cond_false (eval_tmp (h_4.g (t := 14) rfl)) ?_
  refine wp_skip (blk_n (then_n (wp_seq ?_)))
  by_cases hd : d < day0 es
  refine rg_ h_4 [[0],[1],[1,2],r_ 4,r_ 5,r_ 6,[0,1,2,3,4,6],[0,1,2,3,4,5,7],r_ 9] [K_ (vP g 0), K_ (vP (pb E1 0) 0), K_ (vI d), K_ (vT2 (vI 0) (vI 8)), K_ (vT2 (vI 0) (vI 8)), K_ (vI 0), K_ (vI 8), K_ (vI 0), K_ (vI 8)] (fun E5 => [(3, vP (pb E1 0) 0), (4, vI 0), (5, vI 0), (6, vI 8)]) (hs := c_ mv_ <| c_ (fa0 (vP (pb E1 0) 0)) <| c_ (ld_ 0 (hrd := by exact rd3 rfl)) <| c_ (s_leap (g := g) (u := u) (x := x) (es := es) Try.func23 (fun _ h => h) (fun _ h => h) (h := fun D env ac wd hA hL => ⟨_, LeapC.eq (length_l hL d) (len_early hd), rfl⟩)) <| c_ mv_ <| c_ ext_ <| c_ ext_ <| c_ mv_ <| c_ mv_ <| e_) (k := fun E5 ac wd h_5 => ?_)
  clear h_4
  refine then_n (wp_seq (wp_block (wp_seq ?_)))
  refine rg_ h_5 (tri 3) [K_ (vI 8), K_ bT, K_ bT] (fun E6 => [(3, vP (pb E1 0) 0), (4, vI 0), (5, vI 0), (6, vI 8), (26, bT)]) (hs := c_ mv_ <| c_ (bi0 (vI 8) (vI 0)) <| c_ mv_ <| e_) (k := fun E6 ac wd h_6 => ?_)
  clear h_5
  refine then_n ?_
  refine wp_cond_true (eval_tmp (h_6.g (t := 26) rfl)) ?_
  refine wp_seq ?_
  refine rg_ h_6 [[0],[0,1]] [K_ (vI 8), K_ (vI 8)] (fun E7 => [(4, vI 8)]) (hs := c_ mv_ <| c_ mv_ <| e_) (k := fun E7 ac wd h_7 => ?_)
  clear h_6
  refine then_n (wp_ret (blk_ret (then_ret ?_)))
  have s4 := h_7.g (t := 4) rfl
  refine leave (v := vI 8) h_7.df (by simp [results, Try.results90, go_sem, Array.getD_eq_getD_getElem?, s4]) ?_
  have e : whyU es d s a = 8 := by unfold whyU; simp [hf, hin, hd]
  exact ⟨by rw [e], h_7.st.nowT, h_7.st.gr⟩
  refine rg_ h_4 [[0],[1],[1,2],r_ 4,r_ 5,r_ 6,[0,1,2,3,4,6],[0,1,2,3,4,5,7],r_ 9] [K_ (vP g 0), K_ (vP (pb E1 0) 0), K_ (vI d), K_ (vT2 (vI (86400 + chgV es d)) (vI 0)), K_ (vT2 (vI (86400 + chgV es d)) (vI 0)), K_ (vI (86400 + chgV es d)), K_ (vI 0), K_ (vI (86400 + chgV es d)), K_ (vI 0)] (fun E5 => [(3, vP (pb E1 0) 0), (4, vI 0), (5, vI (86400 + chgV es d)), (6, vI 0)]) (hs := c_ mv_ <| c_ (fa0 (vP (pb E1 0) 0)) <| c_ (ld_ 0 (hrd := by exact rd3 rfl)) <| c_ (s_leap (g := g) (u := u) (x := x) (es := es) Try.func23 (fun _ h => h) (fun _ h => h) (h := fun D env ac wd hA hL => ⟨_, LeapC.eq (length_l hL d) (len_ok hd), rfl⟩)) <| c_ mv_ <| c_ ext_ <| c_ ext_ <| c_ mv_ <| c_ mv_ <| e_) (k := fun E5 ac wd h_5 => ?_)
  clear h_4
  refine then_n (wp_seq (wp_block (wp_seq ?_)))
  refine rg_ h_5 (tri 3) [K_ (vI 0), K_ bF, K_ bF] (fun E6 => [(3, vP (pb E1 0) 0), (4, vI 0), (5, vI (86400 + chgV es d)), (6, vI 0), (26, bF)]) (hs := c_ mv_ <| c_ (bi0 (vI 0) (vI 0)) <| c_ mv_ <| e_) (k := fun E6 ac wd h_6 => ?_)
  clear h_5
  refine then_n ?_
  refine wp_cond_false (eval_tmp (h_6.g (t := 26) rfl)) ?_
  refine wp_seq ?_
  by_cases hs : 86400 + chgV es d ≤ s
  refine rg_ h_6 [[0],[0,1],[2],r_ 4,r_ 5] [K_ (vP (pb E1 0) 1), K_ (vI s), K_ (vI (86400 + chgV es d)), K_ bT, K_ bT] (fun E7 => [(4, vI 0), (30, bT)]) (hs := c_ (fa0 (vP (pb E1 0) 0)) <| c_ (ld_ 0 (hrd := by exact rd3 rfl)) <| c_ mv_ <| c_ (bi0 (vI s) (vI (86400 + chgV es d)) (h := by intro env w; simp [go_sem, hs])) <| c_ mv_ <| e_) (k := fun E7 ac wd h_7 => ?_)
  clear h_6
  refine then_n ?_
  refine wp_cond_true (eval_tmp (h_7.g (t := 30) rfl)) ?_
  refine wp_seq ?_
  refine rg_ h_7 [[0]] [K_ (vI 6)] (fun E8 => [(4, vI 6)]) (hs := c_ mv_ <| e_) (k := fun E8 ac wd h_8 => ?_)
  clear h_7
  refine then_n (wp_ret (blk_ret (then_ret ?_)))
  have s4 := h_8.g (t := 4) rfl
  refine leave (v := vI 6) h_8.df (by simp [results, Try.results90, go_sem, Array.getD_eq_getD_getElem?, s4]) ?_
  have e : whyU es d s a = 6 := by unfold whyU; simp [hf, hin, hd, hs]
  exact ⟨by rw [e], h_8.st.nowT, h_8.st.gr⟩
  refine rg_ h_6 [[0],[0,1],[2],r_ 4,r_ 5] [K_ (vP (pb E1 0) 1), K_ (vI s), K_ (vI (86400 + chgV es d)), K_ bF, K_ bF] (fun E7 => [(4, vI 0), (30, bF)]) (hs := c_ (fa0 (vP (pb E1 0) 0)) <| c_ (ld_ 0 (hrd := by exact rd3 rfl)) <| c_ mv_ <| c_ (bi0 (vI s) (vI (86400 + chgV es d)) (h := by intro env w; simp [go_sem, hs])) <| c_ mv_ <| e_) (k := fun E7 ac wd h_7 => ?_)
  clear h_6
  refine then_n ?_
  refine wp_cond_false (eval_tmp (h_7.g (t := 30) rfl)) ?_
  refine wp_skip (blk_n (then_n (wp_seq ?_)))
  refine rg_ h_7 [[0]] [K_ (vI 0)] (fun E8 => [(4, vI 0)]) (hs := c_ mv_ <| e_) (k := fun E8 ac wd h_8 => ?_)
  clear h_7
  refine then_n (wp_ret ?_)
  have s4 := h_8.g (t := 4) rfl
  refine leave (v := vI 0) h_8.df (by simp [results, Try.results90, go_sem, Array.getD_eq_getD_getElem?, s4]) ?_
  have e : whyU es d s a = 0 := by unfold whyU; simp [hf, hin, hd, hs]
  exact ⟨by rw [e], h_8.st.nowT, h_8.st.gr⟩
set_option maxRecDepth 100000 in
set_option maxHeartbeats 8000000 in
theorem uexists_l (w0 : World) (g : Nat) (u x : Int) (es : List (Int × Int)) (hL : IsLx w0 g u x es) (d s a : Int) : LeapC Try.prog 54 [vP g 0, vL d s a] w0 g u x es (.bool (whyU es d s a == 0)) := by
  unfold LeapC
  have hst := St.startL w0 hL
  refine enter Try.func54 rfl (n := 9) rfl (Nat.le_of_ble_eq_true rfl) hst (L := [(0, vP g 0), (1, vL d s a)]) (lk_args rfl) (fun ac h => ?_)
  refine wp_seq ?_
  refine rg_ h [[0],[1]] [KE_ fun env => vP (pb env 0) 0, K_ bF] (fun E1 => [(0, vP g 0), (3, vP (pb E1 0) 0), (4, bF)]) (W := [{ i := 0, T := 63, c0 := [vI d, vI s, vI a] }]) (M' := fun E1 => [((pb E1 0), 63, [vI d, vI s, vI a])]) (hs := c_ (bx0 0 (vL d s a)) <| c_ mv_ <| e_) (k := fun E1 ac wd h_1 => ?_)
  clear h
  refine then_n (wp_seq ?_)
  refine rg_ h_1 [[0],[1],[0,1,2],r_ 4,r_ 5] [K_ (vP g 0), K_ (vL d s a), K_ (vI (whyU es d s a)), K_ (.bool ((whyU es d s a) == 0)), K_ (.bool ((whyU es d s a) == 0))] (fun E2 => [(4, .bool ((whyU es d s a) == 0))]) (hs := c_ mv_ <| c_ (ld_ 0 (hrd := by exact rd63 rfl rfl rfl)) <| c_ (s_leap (g := g) (u := u) (x := x) (es := es) Try.func90 (fun _ h => h) (fun _ h => h) (h := fun D env ac wd hA hL => ⟨_, ucheck_l _ g u x es hL d s a, rfl⟩)) <| c_ (bi0 (vI (whyU es d s a)) (vI 0)) <| c_ mv_ <| e_) (k := fun E2 ac wd h_2 => ?_)
  clear h_1
  refine then_n (wp_ret ?_)
  have s4 := h_2.g (t := 4) rfl
  refine leave (v := .bool ((whyU es d s a) == 0)) h_2.df (by simp [results, Try.results54, go_sem, Array.getD_eq_getD_getElem?, s4]) ?_
  exact ⟨rfl, h_2.st.nowT, h_2.st.gr⟩
set_option maxRecDepth 100000 in
set_option maxHeartbeats 8000000 in
theorem utai_l (w0 : World) (g : Nat) (u x : Int) (es : List (Int × Int)) (hL : IsLx w0 g u x es) (d s a : Int) : LeapC Try.prog 52 [vP g 0, vL d s a] w0 g u x es (vT2 (vW (taiU es d s a)) (vI (whyU es d s a))) := by
  unfold LeapC
  have hst := St.startL w0 hL
  refine enter Try.func52 rfl (n := 34) rfl (Nat.le_of_ble_eq_true rfl) hst (L := [(0, vP g 0), (1, vL d s a)]) (lk_args rfl) (fun ac h => ?_)
  refine wp_seq ?_
  refine rg_ h [[0],[1],[2]] [KE_ fun env => vP (pb env 0) 0, KE_ fun env => vP (pb env 1) 0, K_ (vI 0)] (fun E1 => [(0, vP g 0), (3, vP (pb E1 0) 0), (4, vP (pb E1 1) 0), (5, vI 0)]) (W := [{ i := 0, T := 63, c0 := [vI d, vI s, vI a] }, { i := 1, T := 66, c0 := [vI 0, .int .u64 0] }]) (M' := fun E1 => [((pb E1 0), 63, [vI d, vI s, vI a]), ((pb E1 1), 66, [vI 0, .int .u64 0])]) (hs := c_ (bx0 0 (vL d s a)) <| c_ (al_ 1) <| c_ mv_ <| e_) (k := fun E1 ac wd h_1 => ?_)
  clear h
  refine then_n (wp_seq (wp_seq ?_))
  refine rg_ h_1 [[0],[1],[0,1,2],r_ 4] [K_ (vP g 0), K_ (vL d s a), K_ (vI (whyU es d s a)), K_ (vI (whyU es d s a))] (fun E2 => [(0, vP g 0), (3, vP (pb E1 0) 0), (4, vP (pb E1 1) 0), (5, vI 0), (6, vI (whyU es d s a))]) (hs := c_ mv_ <| c_ (ld_ 0 (hrd := by exact rd63 rfl rfl rfl)) <| c_ (s_leap (g := g) (u := u) (x := x) (es := es) Try.func90 (fun _ h => h) (fun _ h => h) (h := fun D env ac wd hA hL => ⟨_, ucheck_l _ g u x es hL d s a, rfl⟩)) <| c_ mv_ <| e_) (k := fun E2 ac wd h_2 => ?_)
  clear h_1
  refine then_n (wp_seq ?_)
  by_cases he : whyU es d s a = 0
  obtain ⟨q0, q1, q2, q3, q4, q5, q6, q7⟩ := whyU_ok he; obtain ⟨o0, o1⟩ := u_off_bd (okT_pre hL.ok).1 d
  refine rg_ h_2 [[0],[0,1]] [K_ (vI (whyU es d s a)), K_ bF] (fun E3 => [(0, vP g 0), (3, vP (pb E1 0) 0), (4, vP (pb E1 1) 0), (5, vI 0), (6, vI (whyU es d s a)), (13, bF)]) (hs := c_ mv_ <| c_ (bi0 (vI (whyU es d s a)) (vI 0) (h := by intro env w; simp [go_sem, he])) <| e_) (k := fun E3 ac wd h_3 => ?_)
  clear h_2
  refine then_n ?_
  refine wp_cond_false (eval_tmp (h_3.g (t := 13) rfl)) ?_
  refine wp_skip (then_n (wp_seq ?_))
  refine rg_ h_3 [[0],[1],[1,2],r_ 4,r_ 5,r_ 6,[0,1,2,3,4,6],[0,1,2,3,4,5,7],r_ 9] [K_ (vP g 0), K_ (vP (pb E1 0) 0), K_ (vI d), K_ (vT2 (vI (offV es d)) (vI (offE es d))), K_ (vT2 (vI (offV es d)) (vI (offE es d))), K_ (vI (offV es d)), K_ (vI (offE es d)), K_ (vI (offV es d)), K_ (vI (offE es d))] (fun E4 => [(3, vP (pb E1 0) 0), (4, vP (pb E1 1) 0), (5, vI 0), (7, vI (offV es d))]) (hs := c_ mv_ <| c_ (fa0 (vP (pb E1 0) 0)) <| c_ (ld_ 0 (hrd := by exact rd3 rfl)) <| c_ (s_leap (g := g) (u := u) (x := x) (es := es) Try.func22 (fun _ h => h) (fun _ h => h) (h := fun D env ac wd hA hL => ⟨_, offset_l hL d, rfl⟩)) <| c_ mv_ <| c_ ext_ <| c_ ext_ <| c_ mv_ <| c_ mv_ <| e_) (k := fun E4 ac wd h_4 => ?_)
  clear h_3
  refine then_n (wp_seq ?_)
  refine rg_ h_4 [[0],[0,1],[0,1,2],[3],[3,4],r_ 6,[6],r_ 8,[8],[8,9],r_ 11,r_ 12,r_ 13] [K_ (vP (pb E1 0) 0), K_ (vI d), K_ (vI (d * 86400)), K_ (vP (pb E1 0) 1), K_ (vI s), K_ (vI ((d * 86400) + s)), K_ (vI (offV es d)), K_ (vI (((d * 86400) + s) + (offV es d))), K_ (vP (pb E1 0) 2), K_ (vI a), K_ (vW ((d * 86400 + s + offV es d) * 1000000000000000000 + a)), none, K_ (vI 0)] (fun E5 => [(4, vP (pb E1 1) 0), (5, vI 0)]) (S := [⟨1, 11, fun _ => [vI (hi ((d * 86400 + s + offV es d) * 1000000000000000000 + a)), .int .u64 (lo ((d * 86400 + s + offV es d) * 1000000000000000000 + a))]⟩]) (M' := fun E5 => [((pb E1 0), 63, [vI d, vI s, vI a]), ((pb E1 1), 66, [vI (hi ((d * 86400 + s + offV es d) * 1000000000000000000 + a)), .int .u64 (lo ((d * 86400 + s + offV es d) * 1000000000000000000 + a))])]) (hs := c_ (fa0 (vP (pb E1 0) 0)) <| c_ (ld_ 0 (hrd := by exact rd3 rfl)) <| c_ (bi0 (vI d) (vI 86400)) <| c_ (fa0 (vP (pb E1 0) 0)) <| c_ (ld_ 0 (hrd := by exact rd3 rfl)) <| c_ (bi0 (vI (d * 86400)) (vI s)) <| c_ mv_ <| c_ (bi0 (vI ((d * 86400) + s)) (vI (offV es d))) <| c_ (fa0 (vP (pb E1 0) 0)) <| c_ (ld_ 0 (hrd := by exact rd3 rfl)) <| c_ (cl_ Try.func91 (h := fun env => ⟨_, (ucount_any (((d * 86400) + s) + (offV es d)) a (by omega) (by omega) q2 q3), rfl⟩)) <| c_ (se_ 1 (hst := by exact fun _ _ _ hc => st66 rfl rfl rfl hc)) <| c_ mv_ <| e_) (k := fun E5 ac wd h_5 => ?_)
  clear h_4
  refine then_n (wp_ret ?_)
  have s4 := h_5.g (t := 4) rfl
  have hc4 := (h_5.st.own 1 _ rfl).2
  have c4_0 := own_cell (o := 0) hc4 rfl
  have c4_1 := own_cell (o := 1) hc4 rfl
  have s5 := h_5.g (t := 5) rfl
  refine leave (v := vT2 (vW ((d * 86400 + s + offV es d) * 1000000000000000000 + a)) (vI 0)) h_5.df (by simp [results, Try.results52, go_sem, Array.getD_eq_getD_getElem?, s4, c4_0, c4_1, Try.underlying66, s5]) ?_
  have e : taiU es d s a = (d * 86400 + s + offV es d) * 1000000000000000000 + a := by unfold taiU; rw [if_pos he]
  exact ⟨by rw [e, he], h_5.st.nowT, h_5.st.gr⟩
  refine rg_ h_2 [[0],[0,1]] [K_ (vI (whyU es d s a)), K_ bT] (fun E3 => [(0, vP g 0), (3, vP (pb E1 0) 0), (4, vP (pb E1 1) 0), (5, vI 0), (6, vI (whyU es d s a)), (13, bT)]) (hs := c_ mv_ <| c_ (bi0 (vI (whyU es d s a)) (vI 0) (h := by intro env w; simp [go_sem, he])) <| e_) (k := fun E3 ac wd h_3 => ?_)
  clear h_2
  refine then_n ?_
  refine wp_cond_true (eval_tmp (h_3.g (t := 13) rfl)) ?_
  refine wp_seq ?_
  refine rg_ h_3 [[0],[1],[0,2],r_ 4] [K_ (.agg #[vI 0, .int .u64 0]), K_ (vI (whyU es d s a)), none, K_ (vI (whyU es d s a))] (fun E4 => [(0, vP g 0), (3, vP (pb E1 0) 0), (4, vP (pb E1 1) 0), (5, vI (whyU es d s a))]) (S := [⟨1, 2, fun _ => [vI 0, .int .u64 0]⟩]) (M' := fun E4 => [((pb E1 0), 63, [vI d, vI s, vI a]), ((pb E1 1), 66, [vI 0, .int .u64 0])]) (hs := c_ (bd0 ([])) <| c_ mv_ <| c_ (se_ 1 (hst := by exact fun _ _ _ hc => st66 rfl rfl rfl hc)) <| c_ mv_ <| e_) (k := fun E4 ac wd h_4 => ?_)
  clear h_3
  refine then_n (wp_ret (then_ret ?_))
  have s4 := h_4.g (t := 4) rfl
  have hc4 := (h_4.st.own 1 _ rfl).2
  have c4_0 := own_cell (o := 0) hc4 rfl
  have c4_1 := own_cell (o := 1) hc4 rfl
  have s5 := h_4.g (t := 5) rfl
  refine leave (v := vT2 (.agg #[vI 0, .int .u64 0]) (vI (whyU es d s a))) h_4.df (by simp [results, Try.results52, go_sem, Array.getD_eq_getD_getElem?, s4, c4_0, c4_1, Try.underlying66, s5]) ?_
  have e : taiU es d s a = 0 := by unfold taiU; rw [if_neg he]
  exact ⟨by rw [e, vW, hi_zero, lo_zero], h_4.st.nowT, h_4.st.gr⟩
theorem at_ge {es : List (Int × Int)} (h : okPre es es.length = true) {s : Int} (hc : ¬ cnt startOf es s = 0) : 1000000000 ≤ s := by
  have h1 := cnt_le startOf es s
  have h2 := okPre_num h (i := 0) (by omega)
  have h3 : startOf (es.getD 0 (0, 0)) ≤ s := by
    refine Int.not_lt.1 fun hlt => hc ?_
    unfold cnt
    rw [List.countP_eq_zero]
    intro i hi
    have hi' := List.mem_range.1 hi
    have := (day_le h (a := 0) (b := i) (by omega) hi').2
    simp only [Bool.not_eq_true', decide_eq_true_eq, Bool.not_eq_true, Bool.not_eq_false']
    simp
    simp only [List.getD_eq_getElem?_getD] at *
    omega
  unfold startOf dayOf at h3
  omega
set_option maxRecDepth 100000 in
set_option maxHeartbeats 8000000 in
theorem ulabel_core (w0 : World) (g : Nat) (u x : Int) (es : List (Int × Int)) (hL : IsLx w0 g u x es) (z : Int) (hz : InW z) (s r o U : Int) (hs : z / 1000000000000000000 = s) (hr : z % 1000000000000000000 = r) (ho : atV es s = o) (hU : atU es s = U) : LeapC Try.prog 53 [vP g 0, vW z] w0 g u x es (vT2 (vL ((labR es z s r o U).2.1) ((labR es z s r o U).2.2.1) ((labR es z s r o U).2.2.2)) (vI ((labR es z s r o U).1))) := by
  unfold LeapC
  have hsw : InW s := by unfold InW at *; omega
  have hr0 : 0 ≤ r := by omega
  have hr1 : r < 1000000000000000000 := by omega
  have hst := St.startL w0 hL
  refine enter Try.func53 rfl (n := 85) rfl (Nat.le_of_ble_eq_true rfl) hst (L := [(0, vP g 0), (1, vW z)]) (lk_args rfl) (fun ac h => ?_)
  refine wp_seq ?_
  refine rg_ h [[0],[1],[2]] [KE_ fun env => vP (pb env 0) 0, KE_ fun env => vP (pb env 1) 0, K_ (vI 0)] (fun E1 => [(0, vP g 0), (3, vP (pb E1 0) 0), (4, vP (pb E1 1) 0), (5, vI 0)]) (W := [{ i := 0, T := 66, c0 := [vI (hi (z)), .int .u64 (lo (z))] }, { i := 1, T := 63, c0 := [vI 0, vI 0, vI 0] }]) (M' := fun E1 => [((pb E1 0), 66, [vI (hi (z)), .int .u64 (lo (z))]), ((pb E1 1), 63, [vI 0, vI 0, vI 0])]) (hs := c_ (bx0 0 (vW z)) <| c_ (al_ 1) <| c_ mv_ <| e_) (k := fun E1 ac wd h_1 => ?_)
  clear h
  refine then_n (wp_seq (wp_seq ?_))
  refine rg_ h_1 [[0],[0,1]] [K_ (vP g 0), K_ bF] (fun E2 => [(0, vP g 0), (3, vP (pb E1 0) 0), (4, vP (pb E1 1) 0), (5, vI 0), (18, bF)]) (hs := c_ mv_ <| c_ (bi0 (vP g 0) (.pointer none)) <| e_) (k := fun E2 ac wd h_2 => ?_)
  clear h_1
  refine then_n ?_
  refine wp_cond_false (eval_tmp (h_2.g (t := 18) rfl)) ?_
  refine wp_skip (then_n (wp_seq ?_))
  refine rg_ h_2 [[0],[1],[0,1,2],r_ 4,r_ 5,[0,1,2,3,5],[0,1,2,3,6],[7],[8],[0,1,2,3,4,7,8,9],[0,1,2,3,4,5,7,8,9,10],r_ 12] [K_ (vW z), K_ (vW 1000000000000000000), K_ (vT3 (vW s) (vW r) (vI 0)), K_ (vT3 (vW s) (vW r) (vI 0)), K_ (vW s), K_ (vW r), K_ (vI 0), KE_ fun env => vP (pb env 7) 0, KE_ fun env => vP (pb env 8) 0, none, none, K_ (vI 0)] (fun E3 => [(0, vP g 0), (3, vP (pb E1 0) 0), (4, vP (pb E1 1) 0), (5, vI 0), (6, vP (pb E3 7) 0), (7, vP (pb E3 8) 0)]) (W := [{ i := 7, T := 66, c0 := [vI 0, .int .u64 0], s := some 9, c1 := fun _ => [vI (hi (s)), .int .u64 (lo (s))] }, { i := 8, T := 66, c0 := [vI 0, .int .u64 0], s := some 10, c1 := fun _ => [vI (hi (r)), .int .u64 (lo (r))] }]) (M' := fun E3 => [((pb E1 0), 66, [vI (hi (z)), .int .u64 (lo (z))]), ((pb E1 1), 63, [vI 0, vI 0, vI 0]), ((pb E3 7), 66, [vI (hi (s)), .int .u64 (lo (s))]), ((pb E3 8), 66, [vI (hi (r)), .int .u64 (lo (r))])]) (hs := c_ (ld_ 0 (hrd := by exact rd66 rfl rfl)) <| c_ (cl_ Try.func93 (h := fun env => ⟨_, (of_any 1000000000000000000 (by omega) (by omega)), rfl⟩)) <| c_ (cl_ Try.func92 (h := fun env => ⟨_, (Ret.eq (wdiv_any z 1000000000000000000 hz (by unfold InW; omega) (by omega)) (div_eq3 hs hr)), rfl⟩)) <| c_ mv_ <| c_ ext_ <| c_ ext_ <| c_ ext_ <| c_ (al_ 2) <| c_ (al_ 3) <| c_ (sw_ 2 7 (hst := by exact fun _ _ _ hc => st66 rfl rfl rfl hc)) <| c_ (sw_ 3 8 (hst := by exact fun _ _ _ hc => st66 rfl rfl rfl hc)) <| c_ mv_ <| e_) (k := fun E3 ac wd h_3 => ?_)
  clear h_2
  refine then_n (wp_seq ?_)
  by_cases h64 : s < -9223372036854775808 ∨ 9223372036854775808 ≤ s
  refine rg_ h_3 [[0],[0,1],[0,1,2],r_ 4,[0,1,2,4],[0,1,2,3,5],r_ 7] [K_ (vW s), K_ (vT2 (vI 0) (vI 2)), K_ (vT2 (vI 0) (vI 2)), K_ (vI 0), K_ (vI 2), K_ (vI 0), K_ (vI 2)] (fun E4 => [(0, vP g 0), (3, vP (pb E1 0) 0), (4, vP (pb E1 1) 0), (5, vI 0), (7, vP (pb E3 8) 0), (9, vI 0), (10, vI 2)]) (hs := c_ (ld_ 2 (hrd := by exact rd66 rfl rfl)) <| c_ (cl_ Try.func94 (h := fun env => ⟨_, (wint_no s hsw h64), rfl⟩)) <| c_ mv_ <| c_ ext_ <| c_ ext_ <| c_ mv_ <| c_ mv_ <| e_) (k := fun E4 ac wd h_4 => ?_)
  clear h_3
  refine then_n (wp_seq (wp_block (wp_seq ?_)))
  by_cases hz0 : z < 0
  refine rg_ h_4 (tri 8) [K_ (vI 2), K_ bT, K_ bT, K_ (vP (pb E1 0) 0), K_ (vI (hi (z))), K_ bT, K_ bT, K_ bT] (fun E5 => [(0, vP g 0), (4, vP (pb E1 1) 0), (5, vI 0), (7, vP (pb E3 8) 0), (9, vI 0), (10, vI 2), (32, bT)]) (hs := c_ mv_ <| c_ (bi0 (vI 2) (vI 0)) <| c_ mv_ <| c_ (fa0 (vP (pb E1 0) 0)) <| c_ (ld_ 0 (hrd := by exact rd2 rfl)) <| c_ (bi0 (vI (hi (z))) (vI 0) (h := by intro env w; simp [go_sem, hi_neg, hz0])) <| c_ (pk0 bT bT bF (h := by intro env w; simp [go_sem, hi_neg, hz0])) <| c_ mv_ <| e_) (k := fun E5 ac wd h_5 => ?_)
  clear h_4
  refine then_n ?_
  refine wp_cond_true (eval_tmp (h_5.g (t := 32) rfl)) ?_
  refine wp_seq ?_
  refine rg_ h_5 (tri 3) [K_ (vL 0 0 0), none, K_ (vI 8)] (fun E6 => [(0, vP g 0), (4, vP (pb E1 1) 0), (5, vI 8), (7, vP (pb E3 8) 0), (9, vI 0), (10, vI 2)]) (S := [⟨1, 1, fun _ => [vI 0, vI 0, vI 0]⟩]) (M' := fun E6 => [((pb E1 0), 66, [vI (hi (z)), .int .u64 (lo (z))]), ((pb E1 1), 63, [vI 0, vI 0, vI 0]), ((pb E3 7), 66, [vI (hi (s)), .int .u64 (lo (s))]), ((pb E3 8), 66, [vI (hi (r)), .int .u64 (lo (r))])]) (hs := c_ (bd0 ([])) <| c_ (se_ 1 (hst := by exact fun _ _ _ hc => st63 rfl rfl rfl rfl hc)) <| c_ mv_ <| e_) (k := fun E6 ac wd h_6 => ?_)
  clear h_5
  refine then_n (wp_ret (blk_ret (then_ret ?_)))
  have s4 := h_6.g (t := 4) rfl
  have hc4 := (h_6.st.own 1 _ rfl).2
  have c4_0 := own_cell (o := 0) hc4 rfl
  have c4_1 := own_cell (o := 1) hc4 rfl
  have c4_2 := own_cell (o := 2) hc4 rfl
  have s5 := h_6.g (t := 5) rfl
  refine leave (v := vT2 (vL 0 0 0) (vI 8)) h_6.df (by simp [results, Try.results53, go_sem, Array.getD_eq_getD_getElem?, s4, c4_0, c4_1, c4_2, Try.underlying63, s5]) ?_
  have e : labR es z s r o U = (8, 0, 0, 0) := by unfold labR; rw [if_pos h64, if_pos hz0]
  exact ⟨by rw [e], h_6.st.nowT, h_6.st.gr⟩
  refine rg_ h_4 (tri 8) [K_ (vI 2), K_ bT, K_ bT, K_ (vP (pb E1 0) 0), K_ (vI (hi (z))), K_ bF, K_ bF, K_ bF] (fun E5 => [(0, vP g 0), (4, vP (pb E1 1) 0), (5, vI 0), (7, vP (pb E3 8) 0), (9, vI 0), (10, vI 2), (32, bF)]) (hs := c_ mv_ <| c_ (bi0 (vI 2) (vI 0)) <| c_ mv_ <| c_ (fa0 (vP (pb E1 0) 0)) <| c_ (ld_ 0 (hrd := by exact rd2 rfl)) <| c_ (bi0 (vI (hi (z))) (vI 0) (h := by intro env w; simp [go_sem, hi_neg, hz0])) <| c_ (pk0 bT bF bF (h := by intro env w; simp [go_sem, hi_neg, hz0])) <| c_ mv_ <| e_) (k := fun E5 ac wd h_5 => ?_)
  clear h_4
  refine then_n ?_
  refine wp_cond_false (eval_tmp (h_5.g (t := 32) rfl)) ?_
  refine wp_seq ?_
  refine rg_ h_5 (tri 3) [K_ (vI 2), K_ bT, K_ bT] (fun E6 => [(0, vP g 0), (4, vP (pb E1 1) 0), (5, vI 0), (7, vP (pb E3 8) 0), (9, vI 0), (10, vI 2), (41, bT)]) (hs := c_ mv_ <| c_ (bi0 (vI 2) (vI 0)) <| c_ mv_ <| e_) (k := fun E6 ac wd h_6 => ?_)
  clear h_5
  refine then_n ?_
  refine wp_cond_true (eval_tmp (h_6.g (t := 41) rfl)) ?_
  refine wp_seq ?_
  refine rg_ h_6 (tri 3) [K_ (vL 0 0 0), none, K_ (vI 2)] (fun E7 => [(0, vP g 0), (4, vP (pb E1 1) 0), (5, vI 2), (7, vP (pb E3 8) 0), (9, vI 0), (10, vI 2)]) (S := [⟨1, 1, fun _ => [vI 0, vI 0, vI 0]⟩]) (M' := fun E7 => [((pb E1 0), 66, [vI (hi (z)), .int .u64 (lo (z))]), ((pb E1 1), 63, [vI 0, vI 0, vI 0]), ((pb E3 7), 66, [vI (hi (s)), .int .u64 (lo (s))]), ((pb E3 8), 66, [vI (hi (r)), .int .u64 (lo (r))])]) (hs := c_ (bd0 ([])) <| c_ (se_ 1 (hst := by exact fun _ _ _ hc => st63 rfl rfl rfl rfl hc)) <| c_ mv_ <| e_) (k := fun E7 ac wd h_7 => ?_)
  clear h_6
  refine then_n (wp_ret (blk_ret (then_ret ?_)))
  have s4 := h_7.g (t := 4) rfl
  have hc4 := (h_7.st.own 1 _ rfl).2
  have c4_0 := own_cell (o := 0) hc4 rfl
  have c4_1 := own_cell (o := 1) hc4 rfl
  have c4_2 := own_cell (o := 2) hc4 rfl
  have s5 := h_7.g (t := 5) rfl
  refine leave (v := vT2 (vL 0 0 0) (vI 2)) h_7.df (by simp [results, Try.results53, go_sem, Array.getD_eq_getD_getElem?, s4, c4_0, c4_1, c4_2, Try.underlying63, s5]) ?_
  have e : labR es z s r o U = (2, 0, 0, 0) := by unfold labR; rw [if_pos h64, if_neg hz0]
  exact ⟨by rw [e], h_7.st.nowT, h_7.st.gr⟩
  refine rg_ h_3 [[0],[0,1],[0,1,2],r_ 4,[0,1,2,4],[0,1,2,3,5],r_ 7] [K_ (vW s), K_ (vT2 (vI s) (vI 0)), K_ (vT2 (vI s) (vI 0)), K_ (vI s), K_ (vI 0), K_ (vI s), K_ (vI 0)] (fun E4 => [(0, vP g 0), (3, vP (pb E1 0) 0), (4, vP (pb E1 1) 0), (5, vI 0), (7, vP (pb E3 8) 0), (9, vI s), (10, vI 0)]) (hs := c_ (ld_ 2 (hrd := by exact rd66 rfl rfl)) <| c_ (cl_ Try.func94 (h := fun env => ⟨_, (wint_yes s (by omega) (by omega)), rfl⟩)) <| c_ mv_ <| c_ ext_ <| c_ ext_ <| c_ mv_ <| c_ mv_ <| e_) (k := fun E4 ac wd h_4 => ?_)
  clear h_3
  refine then_n (wp_seq (wp_block (wp_seq ?_)))
  refine rg_ h_4 (tri 8) [K_ (vI 0), K_ bF, K_ bF, K_ undef, K_ undef, K_ undef, K_ bF, K_ bF] (fun E5 => [(0, vP g 0), (4, vP (pb E1 1) 0), (5, vI 0), (7, vP (pb E3 8) 0), (9, vI s), (10, vI 0), (32, bF)]) (hs := c_ mv_ <| c_ (bi0 (vI 0) (vI 0)) <| c_ mv_ <| c_ off_ <| c_ off_ <| c_ off_ <| c_ (pk0 bF undef bF) <| c_ mv_ <| e_) (k := fun E5 ac wd h_5 => ?_)
  clear h_4
  refine then_n ?_
  refine wp_cond_false (eval_tmp (h_5.g (t := 32) rfl)) ?_
  refine wp_seq ?_
  refine rg_ h_5 (tri 3) [K_ (vI 0), K_ bF, K_ bF] (fun E6 => [(0, vP g 0), (4, vP (pb E1 1) 0), (5, vI 0), (7, vP (pb E3 8) 0), (9, vI s), (10, vI 0), (41, bF)]) (hs := c_ mv_ <| c_ (bi0 (vI 0) (vI 0)) <| c_ mv_ <| e_) (k := fun E6 ac wd h_6 => ?_)
  clear h_5
  refine then_n ?_
  refine wp_cond_false (eval_tmp (h_6.g (t := 41) rfl)) ?_
  refine wp_skip (blk_n (then_n (wp_seq ?_)))
  by_cases hc : cnt startOf es s = 0
  refine rg_ h_6 [[0],[1],[0,1,2],r_ 4,r_ 5,[0,1,2,3,5],[0,1,2,3,6],[0,1,2,3,4,7],[0,1,2,3,4,5,7,8],r_ 10] [K_ (vP g 0), K_ (vI s), K_ (vT3 (vI 0) (vI 0) (vI 8)), K_ (vT3 (vI 0) (vI 0) (vI 8)), K_ (vI 0), K_ (vI 0), K_ (vI 8), K_ (vI 0), K_ (vI 0), K_ (vI 8)] (fun E7 => [(4, vP (pb E1 1) 0), (5, vI 0), (7, vP (pb E3 8) 0), (9, vI s), (10, vI 8), (11, vI 0), (12, vI 0)]) (hs := c_ mv_ <| c_ mv_ <| c_ (s_leap (g := g) (u := u) (x := x) (es := es) Try.func33 (fun _ h => h) (fun _ h => h) (h := fun D env ac wd hA hL => ⟨_, LeapC.eq (at_l hL s) (at_no hc), rfl⟩)) <| c_ mv_ <| c_ ext_ <| c_ ext_ <| c_ ext_ <| c_ mv_ <| c_ mv_ <| c_ mv_ <| e_) (k := fun E7 ac wd h_7 => ?_)
  clear h_6
  refine then_n (wp_seq (wp_seq ?_))
  refine rg_ h_7 [[0],[0,1]] [K_ (vI 8), K_ bT] (fun E8 => [(4, vP (pb E1 1) 0), (5, vI 0), (7, vP (pb E3 8) 0), (9, vI s), (10, vI 8), (11, vI 0), (12, vI 0), (53, bT)]) (hs := c_ mv_ <| c_ (bi0 (vI 8) (vI 0)) <| e_) (k := fun E8 ac wd h_8 => ?_)
  clear h_7
  refine then_n ?_
  refine wp_cond_true (eval_tmp (h_8.g (t := 53) rfl)) ?_
  refine wp_seq ?_
  refine rg_ h_8 [[0],[1],[0,2],r_ 4] [K_ (vL 0 0 0), K_ (vI 8), none, K_ (vI 8)] (fun E9 => [(4, vP (pb E1 1) 0), (5, vI 8), (7, vP (pb E3 8) 0), (9, vI s), (11, vI 0), (12, vI 0)]) (S := [⟨1, 2, fun _ => [vI 0, vI 0, vI 0]⟩]) (M' := fun E9 => [((pb E1 0), 66, [vI (hi (z)), .int .u64 (lo (z))]), ((pb E1 1), 63, [vI 0, vI 0, vI 0]), ((pb E3 7), 66, [vI (hi (s)), .int .u64 (lo (s))]), ((pb E3 8), 66, [vI (hi (r)), .int .u64 (lo (r))])]) (hs := c_ (bd0 ([])) <| c_ mv_ <| c_ (se_ 1 (hst := by exact fun _ _ _ hc => st63 rfl rfl rfl rfl hc)) <| c_ mv_ <| e_) (k := fun E9 ac wd h_9 => ?_)
  clear h_8
  refine then_n (wp_ret (then_ret ?_))
  have s4 := h_9.g (t := 4) rfl
  have hc4 := (h_9.st.own 1 _ rfl).2
  have c4_0 := own_cell (o := 0) hc4 rfl
  have c4_1 := own_cell (o := 1) hc4 rfl
  have c4_2 := own_cell (o := 2) hc4 rfl
  have s5 := h_9.g (t := 5) rfl
  refine leave (v := vT2 (vL 0 0 0) (vI 8)) h_9.df (by simp [results, Try.results53, go_sem, Array.getD_eq_getD_getElem?, s4, c4_0, c4_1, c4_2, Try.underlying63, s5]) ?_
  have e : labR es z s r o U = (8, 0, 0, 0) := by unfold labR; rw [if_neg h64, if_pos hc]
  exact ⟨by rw [e], h_9.st.nowT, h_9.st.gr⟩
  have hb := at_bd (okT_pre hL.ok).1 hc; rw [ho, hU] at hb; obtain ⟨b0, b1, b2, b3⟩ := hb; have hs0 := at_ge (okT_pre hL.ok).1 hc
  refine rg_ h_6 [[0],[1],[0,1,2],r_ 4,r_ 5,[0,1,2,3,5],[0,1,2,3,6],[0,1,2,3,4,7],[0,1,2,3,4,5,7,8],r_ 10] [K_ (vP g 0), K_ (vI s), K_ (vT3 (vI o) (vI U) (vI 0)), K_ (vT3 (vI o) (vI U) (vI 0)), K_ (vI o), K_ (vI U), K_ (vI 0), K_ (vI o), K_ (vI U), K_ (vI 0)] (fun E7 => [(4, vP (pb E1 1) 0), (5, vI 0), (7, vP (pb E3 8) 0), (9, vI s), (10, vI 0), (11, vI o), (12, vI U)]) (hs := c_ mv_ <| c_ mv_ <| c_ (s_leap (g := g) (u := u) (x := x) (es := es) Try.func33 (fun _ h => h) (fun _ h => h) (h := fun D env ac wd hA hL => ⟨_, LeapC.eq (at_l hL s) (at_yes hc ho hU), rfl⟩)) <| c_ mv_ <| c_ ext_ <| c_ ext_ <| c_ ext_ <| c_ mv_ <| c_ mv_ <| c_ mv_ <| e_) (k := fun E7 ac wd h_7 => ?_)
  clear h_6
  refine then_n (wp_seq (wp_seq ?_))
  refine rg_ h_7 [[0],[0,1]] [K_ (vI 0), K_ bF] (fun E8 => [(4, vP (pb E1 1) 0), (5, vI 0), (7, vP (pb E3 8) 0), (9, vI s), (10, vI 0), (11, vI o), (12, vI U), (53, bF)]) (hs := c_ mv_ <| c_ (bi0 (vI 0) (vI 0)) <| e_) (k := fun E8 ac wd h_8 => ?_)
  clear h_7
  refine then_n ?_
  refine wp_cond_false (eval_tmp (h_8.g (t := 53) rfl)) ?_
  refine wp_skip (then_n (wp_seq ?_))
  refine rg_ h_8 [[0],[1],[0,1,2],r_ 4] [K_ (vI s), K_ (vI o), K_ (vI (s - o)), K_ (vI (s - o))] (fun E9 => [(4, vP (pb E1 1) 0), (5, vI 0), (7, vP (pb E3 8) 0), (9, vI (s - o)), (12, vI U)]) (hs := c_ mv_ <| c_ mv_ <| c_ (bi0 (vI s) (vI o)) <| c_ mv_ <| e_) (k := fun E9 ac wd h_9 => ?_)
  clear h_8
  refine then_n (wp_seq ?_)
  refine rg_ h_9 (tri 3) [K_ (vI (s - o)), K_ (vI ((s - o) / 86400)), K_ (vI ((s - o) / 86400))] (fun E10 => [(4, vP (pb E1 1) 0), (5, vI 0), (7, vP (pb E3 8) 0), (9, vI (s - o)), (12, vI U), (13, vI ((s - o) / 86400))]) (hs := c_ mv_ <| c_ (cl_ Try.func95 (h := fun env => ⟨_, (ufloor_any (s - o) (by omega) (by omega)), rfl⟩)) <| c_ mv_ <| e_) (k := fun E10 ac wd h_10 => ?_)
  clear h_9
  refine then_n (wp_seq ?_)
  refine rg_ h_10 [[0],[1],[1,2],r_ 4,r_ 5] [K_ (vI (s - o)), K_ (vI ((s - o) / 86400)), K_ (vI (((s - o) / 86400) * 86400)), K_ (vI ((s - o) - (((s - o) / 86400) * 86400))), K_ (vI ((s - o) - (((s - o) / 86400) * 86400)))] (fun E11 => [(4, vP (pb E1 1) 0), (5, vI 0), (7, vP (pb E3 8) 0), (12, vI U), (13, vI ((s - o) / 86400)), (14, vI ((s - o) - (((s - o) / 86400) * 86400)))]) (hs := c_ mv_ <| c_ mv_ <| c_ (bi0 (vI ((s - o) / 86400)) (vI 86400)) <| c_ (bi0 (vI (s - o)) (vI (((s - o) / 86400) * 86400))) <| c_ mv_ <| e_) (k := fun E11 ac wd h_11 => ?_)
  clear h_10
  refine then_n (wp_seq (wp_seq ?_))
  by_cases hq : U ≤ (s - o) / 86400
  refine rg_ h_11 [[0],[1],[0,1,2]] [K_ (vI ((s - o) / 86400)), K_ (vI U), K_ bT] (fun E12 => [(4, vP (pb E1 1) 0), (5, vI 0), (7, vP (pb E3 8) 0), (12, vI U), (13, vI ((s - o) / 86400)), (14, vI ((s - o) - (((s - o) / 86400) * 86400))), (67, bT)]) (hs := c_ mv_ <| c_ mv_ <| c_ (bi0 (vI ((s - o) / 86400)) (vI U) (h := by intro env w; simp [go_sem, hq])) <| e_) (k := fun E12 ac wd h_12 => ?_)
  clear h_11
  refine then_n ?_
  refine wp_cond_true (eval_tmp (h_12.g (t := 67) rfl)) ?_
  refine rg_ h_12 [[0],[0,1],[2],[2,3],[0,1,4],r_ 6] [K_ (vI U), K_ (vI (U - 1)), K_ (vI ((s - o) - (((s - o) / 86400) * 86400))), K_ (vI (((s - o) - (((s - o) / 86400) * 86400)) + 86400)), K_ (vI (U - 1)), K_ (vI (((s - o) - (((s - o) / 86400) * 86400)) + 86400))] (fun E13 => [(4, vP (pb E1 1) 0), (5, vI 0), (7, vP (pb E3 8) 0), (13, vI (U - 1)), (14, vI (((s - o) - (((s - o) / 86400) * 86400)) + 86400))]) (hs := c_ mv_ <| c_ (bi0 (vI U) (vI 1)) <| c_ mv_ <| c_ (bi0 (vI ((s - o) - (((s - o) / 86400) * 86400))) (vI 86400)) <| c_ mv_ <| c_ mv_ <| e_) (k := fun E13 ac wd h_13 => ?_)
  clear h_12
  refine then_n (wp_seq (wp_seq ?_))
  cases hin : wthn (U - 1) (-1099511627776) 1099511627776
  refine rg_ h_13 (tri 3) [K_ (vI (U - 1)), K_ bF, K_ bT] (fun E14 => [(4, vP (pb E1 1) 0), (5, vI 0), (7, vP (pb E3 8) 0), (13, vI (U - 1)), (14, vI (((s - o) - (((s - o) / 86400) * 86400)) + 86400)), (74, bT)]) (hs := c_ mv_ <| c_ (cl_ Try.func96 (h := fun env => ⟨_, ((uin_any (U - 1)).eq (congrArg Value.bool hin)), rfl⟩)) <| c_ (un0 bF) <| e_) (k := fun E14 ac wd h_14 => ?_)
  clear h_13
  refine then_n ?_
  refine wp_cond_true (eval_tmp (h_14.g (t := 74) rfl)) ?_
  refine wp_seq ?_
  refine rg_ h_14 (tri 3) [K_ (vL 0 0 0), none, K_ (vI 2)] (fun E15 => [(4, vP (pb E1 1) 0), (5, vI 2), (7, vP (pb E3 8) 0), (13, vI (U - 1)), (14, vI (((s - o) - (((s - o) / 86400) * 86400)) + 86400))]) (S := [⟨1, 1, fun _ => [vI 0, vI 0, vI 0]⟩]) (M' := fun E15 => [((pb E1 0), 66, [vI (hi (z)), .int .u64 (lo (z))]), ((pb E1 1), 63, [vI 0, vI 0, vI 0]), ((pb E3 7), 66, [vI (hi (s)), .int .u64 (lo (s))]), ((pb E3 8), 66, [vI (hi (r)), .int .u64 (lo (r))])]) (hs := c_ (bd0 ([])) <| c_ (se_ 1 (hst := by exact fun _ _ _ hc => st63 rfl rfl rfl rfl hc)) <| c_ mv_ <| e_) (k := fun E15 ac wd h_15 => ?_)
  clear h_14
  refine then_n (wp_ret (then_ret ?_))
  have s4 := h_15.g (t := 4) rfl
  have hc4 := (h_15.st.own 1 _ rfl).2
  have c4_0 := own_cell (o := 0) hc4 rfl
  have c4_1 := own_cell (o := 1) hc4 rfl
  have c4_2 := own_cell (o := 2) hc4 rfl
  have s5 := h_15.g (t := 5) rfl
  refine leave (v := vT2 (vL 0 0 0) (vI 2)) h_15.df (by simp [results, Try.results53, go_sem, Array.getD_eq_getD_getElem?, s4, c4_0, c4_1, c4_2, Try.underlying63, s5]) ?_
  have e : labR es z s r o U = (2, 0, 0, 0) := by unfold labR; rw [if_neg h64, if_neg hc, if_pos hq, if_neg (by rw [hin]; exact Bool.false_ne_true)]
  exact ⟨by rw [e], h_15.st.nowT, h_15.st.gr⟩
  refine rg_ h_13 (tri 3) [K_ (vI (U - 1)), K_ bT, K_ bF] (fun E14 => [(4, vP (pb E1 1) 0), (5, vI 0), (7, vP (pb E3 8) 0), (13, vI (U - 1)), (14, vI (((s - o) - (((s - o) / 86400) * 86400)) + 86400)), (74, bF)]) (hs := c_ mv_ <| c_ (cl_ Try.func96 (h := fun env => ⟨_, ((uin_any (U - 1)).eq (congrArg Value.bool hin)), rfl⟩)) <| c_ (un0 bT) <| e_) (k := fun E14 ac wd h_14 => ?_)
  clear h_13
  refine then_n ?_
  refine wp_cond_false (eval_tmp (h_14.g (t := 74) rfl)) ?_
  refine wp_skip (then_n (wp_seq ?_))
  refine rg_ h_14 [[0],[0,1],[0,1,2],r_ 4,[0,1,2,4],[0,1,2,3,5],r_ 7] [K_ (vW r), K_ (vT2 (vI r) (vI 0)), K_ (vT2 (vI r) (vI 0)), K_ (vI r), K_ (vI 0), K_ (vI r), K_ (vI 0)] (fun E15 => [(4, vP (pb E1 1) 0), (5, vI 0), (13, vI (U - 1)), (14, vI (((s - o) - (((s - o) / 86400) * 86400)) + 86400)), (15, vI r)]) (hs := c_ (ld_ 3 (hrd := by exact rd66 rfl rfl)) <| c_ (cl_ Try.func94 (h := fun env => ⟨_, (wint_yes r (by omega) (by omega)), rfl⟩)) <| c_ mv_ <| c_ ext_ <| c_ ext_ <| c_ mv_ <| c_ mv_ <| e_) (k := fun E15 ac wd h_15 => ?_)
  clear h_14
  refine then_n (wp_seq ?_)
  refine rg_ h_15 [[0],[1],[2],r_ 4,r_ 5,r_ 6] [K_ (vI (U - 1)), K_ (vI (((s - o) - (((s - o) / 86400) * 86400)) + 86400)), K_ (vI r), K_ (vL (U - 1) (((s - o) - (((s - o) / 86400) * 86400)) + 86400) r), none, K_ (vI 0)] (fun E16 => [(4, vP (pb E1 1) 0), (5, vI 0)]) (S := [⟨1, 4, fun _ => [vI (U - 1), vI (((s - o) - (((s - o) / 86400) * 86400)) + 86400), vI r]⟩]) (M' := fun E16 => [((pb E1 0), 66, [vI (hi (z)), .int .u64 (lo (z))]), ((pb E1 1), 63, [vI (U - 1), vI (((s - o) - (((s - o) / 86400) * 86400)) + 86400), vI r]), ((pb E3 7), 66, [vI (hi (s)), .int .u64 (lo (s))]), ((pb E3 8), 66, [vI (hi (r)), .int .u64 (lo (r))])]) (hs := c_ mv_ <| c_ mv_ <| c_ mv_ <| c_ (bd0 ([vI (U - 1), vI (((s - o) - (((s - o) / 86400) * 86400)) + 86400), vI r])) <| c_ (se_ 1 (hst := by exact fun _ _ _ hc => st63 rfl rfl rfl rfl hc)) <| c_ mv_ <| e_) (k := fun E16 ac wd h_16 => ?_)
  clear h_15
  refine then_n (wp_ret ?_)
  have s4 := h_16.g (t := 4) rfl
  have hc4 := (h_16.st.own 1 _ rfl).2
  have c4_0 := own_cell (o := 0) hc4 rfl
  have c4_1 := own_cell (o := 1) hc4 rfl
  have c4_2 := own_cell (o := 2) hc4 rfl
  have s5 := h_16.g (t := 5) rfl
  refine leave (v := vT2 (vL (U - 1) (((s - o) - (((s - o) / 86400) * 86400)) + 86400) r) (vI 0)) h_16.df (by simp [results, Try.results53, go_sem, Array.getD_eq_getD_getElem?, s4, c4_0, c4_1, c4_2, Try.underlying63, s5]) ?_
  have e : labR es z s r o U = (0, U - 1, ((s - o) - (((s - o) / 86400) * 86400)) + 86400, r) := by unfold labR; rw [if_neg h64, if_neg hc, if_pos hq, if_pos hin]
  exact ⟨by rw [e], h_16.st.nowT, h_16.st.gr⟩
  refine rg_ h_11 [[0],[1],[0,1,2]] [K_ (vI ((s - o) / 86400)), K_ (vI U), K_ bF] (fun E12 => [(4, vP (pb E1 1) 0), (5, vI 0), (7, vP (pb E3 8) 0), (12, vI U), (13, vI ((s - o) / 86400)), (14, vI ((s - o) - (((s - o) / 86400) * 86400))), (67, bF)]) (hs := c_ mv_ <| c_ mv_ <| c_ (bi0 (vI ((s - o) / 86400)) (vI U) (h := by intro env w; simp [go_sem, hq])) <| e_) (k := fun E12 ac wd h_12 => ?_)
  clear h_11
  refine then_n ?_
  refine wp_cond_false (eval_tmp (h_12.g (t := 67) rfl)) ?_
  refine wp_skip (then_n (wp_seq (wp_seq ?_)))
  cases hin : wthn ((s - o) / 86400) (-1099511627776) 1099511627776
  refine rg_ h_12 (tri 3) [K_ (vI ((s - o) / 86400)), K_ bF, K_ bT] (fun E13 => [(4, vP (pb E1 1) 0), (5, vI 0), (7, vP (pb E3 8) 0), (13, vI ((s - o) / 86400)), (14, vI ((s - o) - (((s - o) / 86400) * 86400))), (74, bT)]) (hs := c_ mv_ <| c_ (cl_ Try.func96 (h := fun env => ⟨_, ((uin_any ((s - o) / 86400)).eq (congrArg Value.bool hin)), rfl⟩)) <| c_ (un0 bF) <| e_) (k := fun E13 ac wd h_13 => ?_)
  clear h_12
  refine then_n ?_
  refine wp_cond_true (eval_tmp (h_13.g (t := 74) rfl)) ?_
  refine wp_seq ?_
  refine rg_ h_13 (tri 3) [K_ (vL 0 0 0), none, K_ (vI 2)] (fun E14 => [(4, vP (pb E1 1) 0), (5, vI 2), (7, vP (pb E3 8) 0), (13, vI ((s - o) / 86400)), (14, vI ((s - o) - (((s - o) / 86400) * 86400)))]) (S := [⟨1, 1, fun _ => [vI 0, vI 0, vI 0]⟩]) (M' := fun E14 => [((pb E1 0), 66, [vI (hi (z)), .int .u64 (lo (z))]), ((pb E1 1), 63, [vI 0, vI 0, vI 0]), ((pb E3 7), 66, [vI (hi (s)), .int .u64 (lo (s))]), ((pb E3 8), 66, [vI (hi (r)), .int .u64 (lo (r))])]) (hs := c_ (bd0 ([])) <| c_ (se_ 1 (hst := by exact fun _ _ _ hc => st63 rfl rfl rfl rfl hc)) <| c_ mv_ <| e_) (k := fun E14 ac wd h_14 => ?_)
  clear h_13
  refine then_n (wp_ret (then_ret ?_))
  have s4 := h_14.g (t := 4) rfl
  have hc4 := (h_14.st.own 1 _ rfl).2
  have c4_0 := own_cell (o := 0) hc4 rfl
  have c4_1 := own_cell (o := 1) hc4 rfl
  have c4_2 := own_cell (o := 2) hc4 rfl
  have s5 := h_14.g (t := 5) rfl
  refine leave (v := vT2 (vL 0 0 0) (vI 2)) h_14.df (by simp [results, Try.results53, go_sem, Array.getD_eq_getD_getElem?, s4, c4_0, c4_1, c4_2, Try.underlying63, s5]) ?_
  have e : labR es z s r o U = (2, 0, 0, 0) := by unfold labR; rw [if_neg h64, if_neg hc, if_neg hq, if_neg (by rw [hin]; exact Bool.false_ne_true)]
  exact ⟨by rw [e], h_14.st.nowT, h_14.st.gr⟩
  refine rg_ h_12 (tri 3) [K_ (vI ((s - o) / 86400)), K_ bT, K_ bF] (fun E13 => [(4, vP (pb E1 1) 0), (5, vI 0), (7, vP (pb E3 8) 0), (13, vI ((s - o) / 86400)), (14, vI ((s - o) - (((s - o) / 86400) * 86400))), (74, bF)]) (hs := c_ mv_ <| c_ (cl_ Try.func96 (h := fun env => ⟨_, ((uin_any ((s - o) / 86400)).eq (congrArg Value.bool hin)), rfl⟩)) <| c_ (un0 bT) <| e_) (k := fun E13 ac wd h_13 => ?_)
  clear h_12
  refine then_n ?_
  refine wp_cond_false (eval_tmp (h_13.g (t := 74) rfl)) ?_
  refine wp_skip (then_n (wp_seq ?_))
  refine rg_ h_13 [[0],[0,1],[0,1,2],r_ 4,[0,1,2,4],[0,1,2,3,5],r_ 7] [K_ (vW r), K_ (vT2 (vI r) (vI 0)), K_ (vT2 (vI r) (vI 0)), K_ (vI r), K_ (vI 0), K_ (vI r), K_ (vI 0)] (fun E14 => [(4, vP (pb E1 1) 0), (5, vI 0), (13, vI ((s - o) / 86400)), (14, vI ((s - o) - (((s - o) / 86400) * 86400))), (15, vI r)]) (hs := c_ (ld_ 3 (hrd := by exact rd66 rfl rfl)) <| c_ (cl_ Try.func94 (h := fun env => ⟨_, (wint_yes r (by omega) (by omega)), rfl⟩)) <| c_ mv_ <| c_ ext_ <| c_ ext_ <| c_ mv_ <| c_ mv_ <| e_) (k := fun E14 ac wd h_14 => ?_)
  clear h_13
  refine then_n (wp_seq ?_)
  refine rg_ h_14 [[0],[1],[2],r_ 4,r_ 5,r_ 6] [K_ (vI ((s - o) / 86400)), K_ (vI ((s - o) - (((s - o) / 86400) * 86400))), K_ (vI r), K_ (vL ((s - o) / 86400) ((s - o) - (((s - o) / 86400) * 86400)) r), none, K_ (vI 0)] (fun E15 => [(4, vP (pb E1 1) 0), (5, vI 0)]) (S := [⟨1, 4, fun _ => [vI ((s - o) / 86400), vI ((s - o) - (((s - o) / 86400) * 86400)), vI r]⟩]) (M' := fun E15 => [((pb E1 0), 66, [vI (hi (z)), .int .u64 (lo (z))]), ((pb E1 1), 63, [vI ((s - o) / 86400), vI ((s - o) - (((s - o) / 86400) * 86400)), vI r]), ((pb E3 7), 66, [vI (hi (s)), .int .u64 (lo (s))]), ((pb E3 8), 66, [vI (hi (r)), .int .u64 (lo (r))])]) (hs := c_ mv_ <| c_ mv_ <| c_ mv_ <| c_ (bd0 ([vI ((s - o) / 86400), vI ((s - o) - (((s - o) / 86400) * 86400)), vI r])) <| c_ (se_ 1 (hst := by exact fun _ _ _ hc => st63 rfl rfl rfl rfl hc)) <| c_ mv_ <| e_) (k := fun E15 ac wd h_15 => ?_)
  clear h_14
  refine then_n (wp_ret ?_)
  have s4 := h_15.g (t := 4) rfl
  have hc4 := (h_15.st.own 1 _ rfl).2
  have c4_0 := own_cell (o := 0) hc4 rfl
  have c4_1 := own_cell (o := 1) hc4 rfl
  have c4_2 := own_cell (o := 2) hc4 rfl
  have s5 := h_15.g (t := 5) rfl
  refine leave (v := vT2 (vL ((s - o) / 86400) ((s - o) - (((s - o) / 86400) * 86400)) r) (vI 0)) h_15.df (by simp [results, Try.results53, go_sem, Array.getD_eq_getD_getElem?, s4, c4_0, c4_1, c4_2, Try.underlying63, s5]) ?_
  have e : labR es z s r o U = (0, (s - o) / 86400, (s - o) - (((s - o) / 86400) * 86400), r) := by unfold labR; rw [if_neg h64, if_neg hc, if_neg hq, if_pos hin]
  exact ⟨by rw [e], h_15.st.nowT, h_15.st.gr⟩
theorem ulabel_l (w0 : World) (g : Nat) (u x : Int) (es : List (Int × Int)) (hL : IsLx w0 g u x es) (z : Int) (hz : InW z) : LeapC Try.prog 53 [vP g 0, vW z] w0 g u x es (vT2 (vL (labUt es z).2.1 (labUt es z).2.2.1 (labUt es z).2.2.2) (vI (labUt es z).1)) := ulabel_core w0 g u x es hL z hz _ _ _ _ rfl rfl rfl rfl
end Go.Proofs.Ytdbhgeihphjgeaa
/- Walks of the reference of layer 12 (ref12): Day, Offset, Change, Start, At, of a table that may be. -/
namespace Go.Proofs.Ytdbhgeihphjgeaa
open Go.RowKit
set_option linter.unusedVariables false
set_option linter.unusedSimpArgs false

/-! ### plain: where a rising test turns -/
theorem mono_cnt (p : Nat → Bool) : ∀ n : Nat, (∀ a b, a ≤ b → b < n → p a = true → p b = true) → ∀ i, i < n → (p i = false ↔ i < (List.range n).countP (fun i => !p i))
  | 0, _, i, hi => absurd hi (Nat.not_lt_zero _)
  | n + 1, hm, i, hi => by
    have hle : (List.range n).countP (fun i => !p i) ≤ n := by have := List.countP_le_length (l := List.range n) (p := fun i => !p i); simpa using this
    rw [List.range_succ, List.countP_append, List.countP_singleton]
    have ih := mono_cnt p n (fun a b h1 h2 h3 => hm a b h1 (by omega) h3)
    cases hn : p n with
    | true =>
      simp only [Bool.not_true, Bool.false_eq_true, if_false, Nat.add_zero]
      by_cases h : i < n
      · exact ih i h
      · obtain rfl : i = n := by omega
        rw [hn]; simp; omega
    | false =>
      simp only [Bool.not_false, if_true]
      have hall : ∀ j, j < n → p j = false := fun j hj => by
        cases h : p j with
        | false => rfl
        | true => have := hm j n (by omega) (by omega) h; rw [hn] at this; cases this
      have hc : (List.range n).countP (fun i => !p i) = n := by
        rw [List.countP_eq_length.2 (fun a ha => by rw [hall a (by simpa using ha)]; rfl)]; simp
      rw [hc]
      by_cases h : i < n
      · rw [hall i h]; simp; omega
      · obtain rfl : i = n := by omega
        rw [hn]; simp
theorem cnt_day {es : List (Int × Int)} (h : okPre es es.length = true) (d : Int) {i : Nat} (hi : i < es.length) : dayOf (es.getD i (0, 0)) ≤ d ↔ i < cnt dayOf es d := by
  have := mono_cnt (fun i => decide (d < dayOf (es.getD i (0, 0)))) es.length (fun a b hab hb hh => by have := (day_le h hab hb).1; simp only [decide_eq_true_eq] at hh ⊢; omega) i hi
  simp only [decide_eq_false_iff_not] at this
  unfold cnt; rw [← this]; omega
theorem cnt_start {es : List (Int × Int)} (h : okPre es es.length = true) (d : Int) {i : Nat} (hi : i < es.length) : startOf (es.getD i (0, 0)) ≤ d ↔ i < cnt startOf es d := by
  have := mono_cnt (fun i => decide (d < startOf (es.getD i (0, 0)))) es.length (fun a b hab hb hh => by have := (day_le h hab hb).2; simp only [decide_eq_true_eq] at hh ⊢; omega) i hi
  simp only [decide_eq_false_iff_not] at this
  unfold cnt; rw [← this]; omega
theorem cnt_chg {es : List (Int × Int)} (h : okPre es es.length = true) (d : Int) {i : Nat} (hi : i < es.length) : dayOf (es.getD i (0, 0)) - 1 < d ↔ i < cntC es d := by
  have := mono_cnt (fun i => decide (d ≤ dayOf (es.getD i (0, 0)) - 1)) es.length (fun a b hab hb hh => by have := (day_le h hab hb).1; simp only [decide_eq_true_eq] at hh ⊢; omega) i hi
  simp only [decide_eq_false_iff_not] at this
  unfold cntC; rw [← this]; omega
/-- what the reference's loops hold behind k rounds: the last entry among the first k that has begun: how many they are -/
def upto (f : Int × Int → Int) (es : List (Int × Int)) (d : Int) : Nat → Nat
  | 0 => 0
  | k + 1 => if f (es.getD k (0, 0)) ≤ d then k + 1 else upto f es d k
theorem upto_le (f : Int × Int → Int) (es : List (Int × Int)) (d : Int) : ∀ k, upto f es d k ≤ k
  | 0 => Nat.le_refl _
  | k + 1 => by have := upto_le f es d k; unfold upto; split <;> omega
theorem upto_day {es : List (Int × Int)} (h : okPre es es.length = true) (d : Int) : ∀ k, k ≤ es.length → upto dayOf es d k = min k (cnt dayOf es d)
  | 0, _ => by simp [upto]
  | k + 1, hk => by
    have h1 := upto_day h d k (by omega)
    have h2 := cnt_day h d (i := k) (by omega)
    unfold upto
    split <;> omega
theorem upto_start {es : List (Int × Int)} (h : okPre es es.length = true) (d : Int) : ∀ k, k ≤ es.length → upto startOf es d k = min k (cnt startOf es d)
  | 0, _ => by simp [upto]
  | k + 1, hk => by
    have h1 := upto_start h d k (by omega)
    have h2 := cnt_start h d (i := k) (by omega)
    unfold upto
    split <;> omega
theorem upto_day_all {es : List (Int × Int)} (h : okPre es es.length = true) (d : Int) : upto dayOf es d es.length = cnt dayOf es d := by
  have := upto_day h d es.length (Nat.le_refl _); have := cnt_le dayOf es d; omega
theorem upto_start_all {es : List (Int × Int)} (h : okPre es es.length = true) (d : Int) : upto startOf es d es.length = cnt startOf es d := by
  have := upto_start h d es.length (Nat.le_refl _); have := cnt_le startOf es d; omega
theorem chg_found {es : List (Int × Int)} (h : okPre es es.length = true) (d : Int) {k : Nat} (hk : 0 < k) (hn : k < es.length) (he : dayOf (es.getD k (0, 0)) - 1 = d) : chgV es d = (es.getD k (0, 0)).2 - (es.getD (k - 1) (0, 0)).2 := by
  have h1 := cnt_chg h d hn
  have h2 := cnt_chg h d (i := k - 1) (by omega)
  have h3 := (day_step h (k := k - 1) (by omega)).1
  rw [show k - 1 + 1 = k by omega] at h3
  have hc : cntC es d = k := by omega
  simp only [chgV]
  rw [if_neg (by omega), if_neg (by omega), hc, if_pos he]
theorem chg_none {es : List (Int × Int)} (d : Int) (hne : ∀ j, 0 < j → j < es.length → dayOf (es.getD j (0, 0)) - 1 ≠ d) : chgV es d = 0 := by
  have hc := cntC_le es d
  simp only [chgV]
  split
  · rfl
  · split
    · rfl
    · rw [if_neg (hne _ (by omega) (by omega))]

/-! ### a table as an argument -/
theorem Ents.get {w : World} {B : Nat} {b off n c : Nat} {es : List (Int × Int)} (h : Ents w B (.slice (some ⟨b, off, none⟩) n c) es) (hn : n = es.length) (i : Nat) (hi : i < n) :
    w.cell? ⟨b, off + i * 2, none⟩ = some (.int .i64 (es.getD i (0, 0)).1) ∧ w.cell? ⟨b, off + i * 2 + 1, none⟩ = some (.int .i64 (es.getD i (0, 0)).2) := by
  obtain ⟨A', c', e', h1', h2', h3'⟩ := h
  simp only [Value.slice.injEq] at e'
  obtain ⟨rfl, hx, rfl⟩ := e'
  obtain ⟨b', off', hA', hb', hcell'⟩ := h3' (by omega)
  simp only [Option.some.injEq, Addr.mk.injEq] at hA'
  obtain ⟨rfl, rfl, hx2⟩ := hA'
  exact hcell' i (by omega)
theorem tbox (w : World) (u x : Int) (v : Value) (es : List (Int × Int)) (hv : Ents w w.heap.size v es) :
    ∃ w1, w1 = w.alloc (.cells #[.int .i64 u, .int .i64 x, v] 24) ∧ w1.cell? ⟨w.heap.size, 0, none⟩ = some (.int .i64 u) ∧ w1.cell? ⟨w.heap.size, 1, none⟩ = some (.int .i64 x) ∧ w1.cell? ⟨w.heap.size, 2, none⟩ = some v ∧
      Ents w1 w1.heap.size v es ∧ Below w.heap.size w w1 ∧ w1.heap.size = w.heap.size + 1 :=
  ⟨_, rfl, by simp, by simp, by simp, (hv.below (below_al (Below.refl _ _) _)).mono (by simp), below_al (Below.refl _ _) _, by simp⟩

set_option maxHeartbeats 400000 in
theorem rday_any (a o : Int) (h0 : 0 ≤ a) (h1 : a ≤ 1125899906842624) (w : World) :
    Calls Try.prog 31 #[.agg #[.int .i64 a, .int .i64 o]] w fun e w' => e = .returned (.int .i64 (dayOf (a, o))) ∧ Below w.heap.size w w' := by
  go_enter Try.func31, Try.ntmps31
  go_wp2
  go_ret
  exact ⟨rfl, (by repeat (first | exact Below.refl _ _ | assumption | refine below_al ?_ _ | refine below_dr ?_ | refine below_drN ?_ _ | refine below_set ?_ (by simp; try omega) _ | (refine below_to ?_ (by assumption))))⟩
set_option maxHeartbeats 400000 in
theorem rstart_any (a o : Int) (h0 : 0 ≤ a) (h1 : a ≤ 1125899906842624) (o0 : 0 ≤ o) (o1 : o ≤ 1000) (w : World) :
    Calls Try.prog 66 #[.agg #[.int .i64 a, .int .i64 o]] w fun e w' => e = .returned (.int .i64 (startOf (a, o))) ∧ Below w.heap.size w w' := by
  have hd : 0 ≤ dayOf (a, o) ∧ dayOf (a, o) ≤ 20000000000 := by unfold dayOf; omega
  have hs : startOf (a, o) = dayOf (a, o) * 86400 + o := rfl
  have HS := Lib.hid hs
  have HD := Lib.hid (fun W => rday_any a o h0 h1 W)
  obtain ⟨D, hD⟩ : ∃ D, D = dayOf (a, o) := ⟨_, rfl⟩
  rw [← hD] at hd
  obtain ⟨d0, d1⟩ := hd
  have hw1 : IntKind.i64.wrap (D * 86400) = D * 86400 := IntWalk.i64_in _ (by omega)
  have hw2 : IntKind.i64.wrap (D * 86400 + o) = D * 86400 + o := IntWalk.i64_in _ (by omega)
  have HDD := Lib.hid hD
  clear hs hD
  go_enter Try.func66, Try.ntmps66
  go_wp2
  go_region_held3 (fun w' => w'.cell? ⟨w.heap.size, 0, none⟩ = some (.int .i64 a) ∧ w'.cell? ⟨w.heap.size, 1, none⟩ = some (.int .i64 o)) (go_keep)
    (first | (go_at_call 31; refine (HD.out _).mono ?_; rintro e w' ⟨rfl, hb1⟩; rw [← HDD.out]; obtain ⟨hcl, hfr⟩ := bcell hb1))
  go_wp2
  go_ret
  exact ⟨by rw [HS.out, ← HDD.out]; rfl, (by repeat (first | exact Below.refl _ _ | assumption | refine below_al ?_ _ | refine below_dr ?_ | refine below_drN ?_ _ | refine below_set ?_ (by simp; try omega) _ | (refine below_to ?_ (by assumption))))⟩

def rOff (es : List (Int × Int)) (k : Nat) : Int := if k = 0 then 0 else (es.getD (k - 1) (0, 0)).2
def rOk (k : Nat) : Bool := !(k == 0)

set_option maxRecDepth 100000 in
set_option maxHeartbeats 1000000 in
theorem roffset_any (v : Value) (es : List (Int × Int)) (u x d : Int) (w : World) (hv : Ents w w.heap.size v es) (hp : okPre es es.length = true) :
    Calls Try.prog 24 #[.agg #[.int .i64 u, .int .i64 x, v], .int .i64 d] w fun e w' => e = .returned (.tuple #[.int .i64 (rOff es (cnt dayOf es d)), .bool (rOk (cnt dayOf es d))]) ∧ Below w.heap.size w w' := by
  have hlen := okPre_len hp
  have HP := Lib.hid hp
  have hvv := hv
  obtain ⟨A, c, rfl, hc, hc2, hcells⟩ := hvv
  obtain ⟨w1, hw1, q0, q1, q2, hE1, hB1, s1⟩ := tbox w u x _ es hv
  have HU := Lib.hid (upto_day_all hp d)
  obtain ⟨n, hn⟩ : ∃ n, n = es.length := ⟨_, rfl⟩
  rw [← hn] at hc hcells hw1 q2 hE1 hlen HU ⊢
  have HN := Lib.hid hn
  have HE1 := Lib.hid hE1
  have HB1 := Lib.hid hB1
  clear hn hp hv hE1 hB1 hc2
  go_enter Try.func24, Try.ntmps24
  go_wp2
  rw [← hw1]
  clear hw1
  go_loopw [6, 7, 8] (fun a b i wr => ∃ k : Nat, k ≤ n ∧ a = .int .i64 (rOff es (upto dayOf es d k)) ∧ b = .bool (rOk (upto dayOf es d k)) ∧ i = .int .i64 k ∧ Below w1.heap.size w1 wr) (fun _ _ i _ => n - (intOf i).toNat)
  case atStart => exact ⟨0, Nat.zero_le _, rfl, rfl, rfl, Below.refl _ _⟩
  case round =>
    obtain ⟨k, hk, rfl, rfl, rfl, hbw⟩ := hrel
    have hsz := hbw.size
    have r2 : wr.cell? ⟨w.heap.size, 2, none⟩ = some (.slice A n c) := (hbw.cell (p := ⟨_, 2, none⟩) (by simp; omega)).trans q2
    by_cases hlt : k < n
    · obtain ⟨b, off, rfl, hb, hcell⟩ := hcells (by omega)
      obtain ⟨c0, c1⟩ := (HE1.out.below hbw).get HN.out k hlt
      have hnum := okPre_num HP.out (i := k) (by rw [← HN.out]; exact hlt)
      have hup : upto dayOf es d (k + 1) = if dayOf (es.getD k (0, 0)) ≤ d then k + 1 else upto dayOf es d k := rfl
      obtain ⟨⟨a, o⟩, he⟩ : ∃ e, e = es.getD k (0, 0) := ⟨_, rfl⟩
      rw [← he] at c0 c1 hnum hup
      obtain ⟨n0, n1, n2, n3, n4⟩ := hnum
      simp only at n0 n1 n2 n3 n4
      have HD := Lib.hid (fun W => rday_any a o n0 n1 W)
      have HE := Lib.hid he
      have HUP := Lib.hid hup
      clear he hcell hcells n4 hup
      go_wp2_with fail
      refine (HD.out _).mono ?_
      rintro e w' ⟨rfl, hb1⟩
      obtain ⟨hcl, hfr⟩ := bcell hb1
      have r2' : w'.cell? ⟨w.heap.size, 2, none⟩ = some (.slice (some ⟨b, off, none⟩) n c) := (hcl _ _ (by omega)).trans r2
      have c1' : w'.cell? ⟨b, off + k * 2 + 1, none⟩ = some (.int .i64 o) := (hcl _ _ (by omega)).trans c1
      have HB := Lib.hid (hbw.trans (hb1.mono hsz))
      clear hcl hfr hb1 r2 c1 c0 hbw
      by_cases hd : dayOf (a, o) ≤ d
      · have hu2 : upto dayOf es d (k + 1) = k + 1 := by rw [HUP.out, if_pos hd]
        have HU2 := Lib.hid hu2
        clear hu2
        go_wp2
        go_roundw
        case rel => exact ⟨k + 1, by omega, by rw [HU2.out]; simp only [rOff]; rw [if_neg (by omega), Nat.add_sub_cancel, ← HE.out], by rw [HU2.out]; rfl, by go_num, HB.out⟩
        case measure => simp [intOf]; omega
      · have hu2 : upto dayOf es d (k + 1) = upto dayOf es d k := by rw [HUP.out, if_neg hd]
        have HU2 := Lib.hid hu2
        clear hu2
        go_wp2
        go_roundw
        case rel => exact ⟨k + 1, by omega, by rw [HU2.out], by rw [HU2.out], by go_num, HB.out⟩
        case measure => simp [intOf]; omega
    · obtain rfl : k = n := by omega
      have HB := Lib.hid (below_to HB1.out hbw)
      clear hbw
      go_wp2
      go_ret2
      exact ⟨by rw [← HU.out]; rfl, HB.out⟩
end Go.Proofs.Ytdbhgeihphjgeaa
/- Walks of the references of layers 11 and 12: Change, At; Entry, Table, Same. -/
namespace Go.Proofs.Ytdbhgeihphjgeaa
open Go.RowKit
set_option linter.unusedVariables false
set_option linter.unusedSimpArgs false

set_option maxRecDepth 100000 in
set_option maxHeartbeats 2000000 in
theorem rchange_any (v : Value) (es : List (Int × Int)) (u x d : Int) (w : World) (hv : Ents w w.heap.size v es) (hp : okPre es es.length = true) :
    Calls Try.prog 26 #[.agg #[.int .i64 u, .int .i64 x, v], .int .i64 d] w fun e w' => e = .returned (.int .i64 (chgV es d)) ∧ Below w.heap.size w w' := by
  have hlen := okPre_len hp
  have HP := Lib.hid hp
  have hvv := hv
  obtain ⟨A, c, rfl, hc, hc2, hcells⟩ := hvv
  obtain ⟨w1, hw1, q0, q1, q2, hE1, hB1, s1⟩ := tbox w u x _ es hv
  have HCN := Lib.hid (chg_none (es := es) d)
  have HCF := Lib.hid (fun k => chg_found (k := k) hp d)
  obtain ⟨n, hn⟩ : ∃ n, n = es.length := ⟨_, rfl⟩
  rw [← hn] at hc hcells hw1 q2 hE1 hlen HCN HCF ⊢
  have HN := Lib.hid hn
  have HE1 := Lib.hid hE1
  have HB1 := Lib.hid hB1
  clear hn hp hv hE1 hB1 hc2
  go_enter Try.func26, Try.ntmps26
  go_wp2
  rw [← hw1]
  clear hw1
  go_loopw [5] (fun i wr => ∃ k : Nat, 1 ≤ k ∧ k ≤ n + 1 ∧ i = .int .i64 k ∧ Hid (∀ j, 0 < j → j < k → j < n → dayOf (es.getD j (0, 0)) - 1 ≠ d) ∧ Below w1.heap.size w1 wr) (fun i _ => n + 1 - (intOf i).toNat)
  case atStart => exact ⟨1, by omega, by omega, rfl, fun j h1 h2 => by omega, Below.refl _ _⟩
  case round =>
    obtain ⟨k, hk1, hk, rfl, hno, hbw⟩ := hrel
    have hsz := hbw.size
    have r2 : wr.cell? ⟨w.heap.size, 2, none⟩ = some (.slice A n c) := (hbw.cell (p := ⟨_, 2, none⟩) (by simp; omega)).trans q2
    by_cases hlt : k < n
    · obtain ⟨b, off, rfl, hb, hcell⟩ := hcells (by omega)
      obtain ⟨m, rfl⟩ : ∃ m, k = m + 1 := ⟨k - 1, by omega⟩
      obtain ⟨c0, c1⟩ := (HE1.out.below hbw).get HN.out (m + 1) hlt
      obtain ⟨b0, b1⟩ := (HE1.out.below hbw).get HN.out m (by omega)
      have hnum := okPre_num HP.out (i := m + 1) (by rw [← HN.out]; exact hlt)
      have hnum2 := okPre_num HP.out (i := m) (by rw [← HN.out]; omega)
      obtain ⟨⟨a, o⟩, he⟩ : ∃ e, e = es.getD (m + 1) (0, 0) := ⟨_, rfl⟩
      obtain ⟨ob, hob⟩ : ∃ e, e = (es.getD m (0, 0)).2 := ⟨_, rfl⟩
      rw [← he] at c0 c1 hnum
      rw [← hob] at b1 hnum2
      obtain ⟨n0, n1, n2, n3, n4⟩ := hnum
      obtain ⟨_, _, m2, m3, _⟩ := hnum2
      simp only at n0 n1 n2 n3 n4
      have hD : 0 ≤ dayOf (a, o) ∧ dayOf (a, o) ≤ 20000000000 := by unfold dayOf; simp only; omega
      obtain ⟨d0, d1⟩ := hD
      have HD := Lib.hid (fun W => rday_any a o n0 n1 W)
      have HE := Lib.hid he
      have HOB := Lib.hid hob
      have hw : IntKind.i64.wrap (dayOf (a, o) - 1) = dayOf (a, o) - 1 := IntWalk.i64_in _ (by omega)
      have hw2 : IntKind.i64.wrap (o - ob) = o - ob := IntWalk.i64_in _ (by omega)
      have hw3 : IntKind.i64.wrap ((m : Int) + 1 - 1) = (m : Int) := by rw [show (m : Int) + 1 - 1 = m by omega]; exact IntWalk.i64_in _ (by omega)
      have i1 : (0 : Int) ≤ (m : Int) + 1 := by omega
      have i2 : (m : Int) + 1 < (n : Int) := by omega
      have i0 : (0 : Int) ≤ (m : Int) := by omega
      have i3 : (m : Int) < (n : Int) := by omega
      clear he hob hcell hcells n4 b0
      rw [show ((m + 1 : Nat) : Int) = (m : Int) + 1 by omega]
      go_wp2_with fail
      refine (HD.out _).mono ?_
      rintro e w' ⟨rfl, hb1⟩
      obtain ⟨hcl, hfr⟩ := bcell hb1
      have r2' : w'.cell? ⟨w.heap.size, 2, none⟩ = some (.slice (some ⟨b, off, none⟩) n c) := (hcl _ _ (by omega)).trans r2
      have c1' : w'.cell? ⟨b, off + (m + 1) * 2 + 1, none⟩ = some (.int .i64 o) := (hcl _ _ (by omega)).trans c1
      have b1' : w'.cell? ⟨b, off + m * 2 + 1, none⟩ = some (.int .i64 ob) := (hcl _ _ (by omega)).trans b1
      have HB := Lib.hid (hbw.trans (hb1.mono hsz))
      clear hcl hfr hb1 r2 c1 c0 b1 hbw
      obtain ⟨D, hDe⟩ : ∃ D, D = dayOf (a, o) := ⟨_, rfl⟩
      rw [← hDe] at d0 d1 hw ⊢
      have HDE := Lib.hid hDe
      clear hDe
      by_cases hd : D - 1 = d
      · have g3 : (D - 1 == d) = true := by simp [hd]
        have hv2 : chgV es d = o - ob := by rw [HCF.out (m + 1) (by omega) hlt (by rw [← HE.out, ← HDE.out]; exact hd), ← HE.out, Nat.add_sub_cancel, ← HOB.out]
        have HV2 := Lib.hid hv2
        have HBW := Lib.hid (below_to HB1.out HB.out)
        clear hd hv2
        go_wp2
        go_quiet (fail)
        go_wp2
        go_ret
        exact ⟨by rw [HV2.out]; rfl, below_drN HBW.out _⟩
      · have g3 : (D - 1 == d) = false := by simp [hd]
        have HDN := Lib.hid hd
        clear hd
        go_wp2
        go_roundw
        case rel =>
          refine ⟨m + 1 + 1, by omega, by omega, by go_num, fun j h1 h2 h3 => ?_, HB.out⟩
          by_cases hj : j = m + 1
          · subst hj; rw [← HE.out, ← HDE.out]; exact HDN.out
          · exact hno.out j h1 (by omega) h3
        case measure => simp [intOf]; omega
    · have HB := Lib.hid (below_to HB1.out hbw)
      have hv2 := HCN.out (fun j h1 h2 => hno.out j h1 (by omega) h2)
      have HV2 := Lib.hid hv2
      clear hbw hv2
      go_wp2
      go_ret
      exact ⟨by rw [HV2.out]; rfl, HB.out⟩

set_option maxRecDepth 100000 in
set_option maxHeartbeats 1000000 in
theorem rat_any (v : Value) (es : List (Int × Int)) (u x d : Int) (w : World) (hv : Ents w w.heap.size v es) (hp : okPre es es.length = true) :
    Calls Try.prog 34 #[.agg #[.int .i64 u, .int .i64 x, v], .int .i64 d] w fun e w' => e = .returned (.int .i64 ((cnt startOf es d : Int) - 1)) ∧ Below w.heap.size w w' := by
  have hlen := okPre_len hp
  have HP := Lib.hid hp
  have hvv := hv
  obtain ⟨A, c, rfl, hc, hc2, hcells⟩ := hvv
  obtain ⟨w1, hw1, q0, q1, q2, hE1, hB1, s1⟩ := tbox w u x _ es hv
  have HU := Lib.hid (upto_start_all hp d)
  obtain ⟨n, hn⟩ : ∃ n, n = es.length := ⟨_, rfl⟩
  rw [← hn] at hc hcells hw1 q2 hE1 hlen HU ⊢
  have HN := Lib.hid hn
  have HE1 := Lib.hid hE1
  have HB1 := Lib.hid hB1
  clear hn hp hv hE1 hB1 hc2
  go_enter Try.func34, Try.ntmps34
  go_wp2
  rw [← hw1]
  clear hw1
  go_loopw [5, 6] (fun a i wr => ∃ k : Nat, k ≤ n ∧ a = .int .i64 ((upto startOf es d k : Int) - 1) ∧ i = .int .i64 k ∧ Below w1.heap.size w1 wr) (fun _ i _ => n - (intOf i).toNat)
  case atStart => exact ⟨0, Nat.zero_le _, rfl, rfl, Below.refl _ _⟩
  case round =>
    obtain ⟨k, hk, rfl, rfl, hbw⟩ := hrel
    have hsz := hbw.size
    have r2 : wr.cell? ⟨w.heap.size, 2, none⟩ = some (.slice A n c) := (hbw.cell (p := ⟨_, 2, none⟩) (by simp; omega)).trans q2
    by_cases hlt : k < n
    · obtain ⟨b, off, rfl, hb, hcell⟩ := hcells (by omega)
      obtain ⟨c0, c1⟩ := (HE1.out.below hbw).get HN.out k hlt
      have hnum := okPre_num HP.out (i := k) (by rw [← HN.out]; exact hlt)
      have hup : upto startOf es d (k + 1) = if startOf (es.getD k (0, 0)) ≤ d then k + 1 else upto startOf es d k := rfl
      obtain ⟨⟨a, o⟩, he⟩ : ∃ e, e = es.getD k (0, 0) := ⟨_, rfl⟩
      rw [← he] at c0 c1 hnum hup
      obtain ⟨n0, n1, n2, n3, n4⟩ := hnum
      simp only at n0 n1 n2 n3 n4
      have HD := Lib.hid (fun W => rstart_any a o n0 n1 n2 n3 W)
      have HE := Lib.hid he
      have HUP := Lib.hid hup
      clear he hcell hcells n4 hup
      go_wp2_with fail
      refine (HD.out _).mono ?_
      rintro e w' ⟨rfl, hb1⟩
      have HB := Lib.hid (hbw.trans (hb1.mono hsz))
      clear hb1 r2 c1 c0 hbw
      by_cases hd : startOf (a, o) ≤ d
      · have hu2 : upto startOf es d (k + 1) = k + 1 := by rw [HUP.out, if_pos hd]
        have HU2 := Lib.hid hu2
        clear hu2
        go_wp2
        go_roundw
        case rel => exact ⟨k + 1, by omega, by rw [HU2.out]; exact congrArg _ (by omega), by go_num, HB.out⟩
        case measure => simp [intOf]; omega
      · have hu2 : upto startOf es d (k + 1) = upto startOf es d k := by rw [HUP.out, if_neg hd]
        have HU2 := Lib.hid hu2
        clear hu2
        go_wp2
        go_roundw
        case rel => exact ⟨k + 1, by omega, by rw [HU2.out], by go_num, HB.out⟩
        case measure => simp [intOf]; omega
    · obtain rfl : k = n := by omega
      have HB := Lib.hid (below_to HB1.out hbw)
      clear hbw
      go_wp2
      go_ret
      exact ⟨by rw [← HU.out]; rfl, HB.out⟩
end Go.Proofs.Ytdbhgeihphjgeaa
/- Walks of the reference of layer 11 (ref10): Entry, Table, Same. -/
namespace Go.Proofs.Ytdbhgeihphjgeaa
open Go.RowKit
set_option linter.unusedVariables false
set_option linter.unusedSimpArgs false

set_option maxRecDepth 100000 in
set_option maxHeartbeats 1000000 in
theorem rentry_any (v : Value) (es : List (Int × Int)) (a o : Int) (w : World) (B : Nat) (hB : B ≤ w.heap.size) (hv : Ents w B v es) (ha : I64 a) (ho : I64 o) (hes : ∀ x ∈ es, 0 ≤ x.2 ∧ x.2 ≤ 1000) :
    Calls Try.prog 63 #[v, .agg #[.int .i64 a, .int .i64 o]] w fun e w' => e = .returned (.bool (okE es (a, o))) ∧ Below w.heap.size w w' := by
  obtain ⟨A, c, rfl, hc, hc2, hcells⟩ := hv
  unfold I64 at ha ho
  obtain ⟨ha0, ha1⟩ := ha
  obtain ⟨ho0, ho1⟩ := ho
  by_cases c1 : es.length < 64
  case neg =>
    have h1 : (64 : Int) ≤ (es.length : Int) := by omega
    have hr : okE es (a, o) = false := by simp [okE, c1]
    rw [hr]; clear hr hcells c1 hes
    generalize es.length = n at *
    go_enter Try.func63, Try.ntmps63
    go_wp2
    go_ret
    exact ⟨rfl, (by repeat (first | exact Below.refl _ _ | assumption | refine below_al ?_ _ | refine below_dr ?_ | refine below_drN ?_ _ | refine below_set ?_ (by simp; try omega) _ | (refine below_to ?_ (by assumption))))⟩
  have h1 : ¬ (64 : Int) ≤ (es.length : Int) := by omega
  by_cases a0 : 0 ≤ a
  case neg =>
    have hr : okE es (a, o) = false := by simp [okE, inB, a0]
    have a0' : a < 0 := by omega
    rw [hr]; clear hr hcells c1 hes a0
    generalize es.length = n at *
    go_enter Try.func63, Try.ntmps63
    go_wp2
    go_ret
    exact ⟨rfl, (by repeat (first | exact Below.refl _ _ | assumption | refine below_al ?_ _ | refine below_dr ?_ | refine below_drN ?_ _ | refine below_set ?_ (by simp; try omega) _ | (refine below_to ?_ (by assumption))))⟩
  by_cases a1 : a ≤ 1125899906842624
  case neg =>
    have hr : okE es (a, o) = false := by simp [okE, inB, a1]
    have a1' : 1125899906842624 < a := by omega
    rw [hr]; clear hr hcells c1 hes a1
    generalize es.length = n at *
    go_enter Try.func63, Try.ntmps63
    go_wp2
    go_ret
    exact ⟨rfl, (by repeat (first | exact Below.refl _ _ | assumption | refine below_al ?_ _ | refine below_dr ?_ | refine below_drN ?_ _ | refine below_set ?_ (by simp; try omega) _ | (refine below_to ?_ (by assumption))))⟩
  by_cases c3 : a % 86400 = 0
  case neg =>
    have hr : okE es (a, o) = false := by simp [okE, c3]
    have h3 : (a % 86400 != 0) = true := by simpa using c3
    rw [hr]; clear hr hcells c1 hes c3
    generalize es.length = n at *
    go_enter Try.func63, Try.ntmps63
    go_wp2
    go_ret
    exact ⟨rfl, (by repeat (first | exact Below.refl _ _ | assumption | refine below_al ?_ _ | refine below_dr ?_ | refine below_drN ?_ _ | refine below_set ?_ (by simp; try omega) _ | (refine below_to ?_ (by assumption))))⟩
  have h3 : (a % 86400 != 0) = false := by simpa using c3
  by_cases o0 : 0 ≤ o
  case neg =>
    have hr : okE es (a, o) = false := by simp [okE, inB, o0]
    have o0' : o < 0 := by omega
    rw [hr]; clear hr hcells c1 hes c3 o0
    generalize es.length = n at *
    go_enter Try.func63, Try.ntmps63
    go_wp2
    go_ret
    exact ⟨rfl, (by repeat (first | exact Below.refl _ _ | assumption | refine below_al ?_ _ | refine below_dr ?_ | refine below_drN ?_ _ | refine below_set ?_ (by simp; try omega) _ | (refine below_to ?_ (by assumption))))⟩
  by_cases o1 : o ≤ 1000
  case neg =>
    have hr : okE es (a, o) = false := by simp [okE, inB, o1]
    have o1' : 1000 < o := by omega
    rw [hr]; clear hr hcells c1 hes c3 o1
    generalize es.length = n at *
    go_enter Try.func63, Try.ntmps63
    go_wp2
    go_ret
    exact ⟨rfl, (by repeat (first | exact Below.refl _ _ | assumption | refine below_al ?_ _ | refine below_dr ?_ | refine below_drN ?_ _ | refine below_set ?_ (by simp; try omega) _ | (refine below_to ?_ (by assumption))))⟩
  have c2 : inB a 1125899906842624 = true := by simp [inB, a0, a1]
  have c4 : inB o 1000 = true := by simp [inB, o0, o1]
  have a0' : ¬ a < 0 := by omega
  have a1' : ¬ 1125899906842624 < a := by omega
  have o0' : ¬ o < 0 := by omega
  have o1' : ¬ 1000 < o := by omega
  rcases List.eq_nil_or_concat es with rfl | ⟨ds, l, rfl⟩
  · have hr : okE [] (a, o) = true := by simp [okE, c2, c3, c4]
    rw [hr]; clear hr hcells c1 hes c3 c2 c4
    simp only [List.length_nil] at *
    go_enter Try.func63, Try.ntmps63
    go_wp2
    go_ret
    exact ⟨rfl, (by repeat (first | exact Below.refl _ _ | assumption | refine below_al ?_ _ | refine below_dr ?_ | refine below_drN ?_ _ | refine below_set ?_ (by simp; try omega) _ | (refine below_to ?_ (by assumption))))⟩
  · rw [List.concat_eq_append] at *
    obtain ⟨la, lo'⟩ := l
    have hl := hes (la, lo') (by simp)
    obtain ⟨hl0, hl1⟩ := hl
    have hl0' : 0 ≤ lo' := hl0
    have hl1' : lo' ≤ 1000 := hl1
    obtain ⟨b, off, rfl, hb, hcell⟩ := hcells (by simp)
    have hcc := hcell ds.length (by simp)
    simp only [List.getD_eq_getElem?_getD, List.getElem?_concat_length, Option.getD_some] at hcc
    obtain ⟨k0, k1⟩ := hcc
    have hfin : okE (ds ++ [(la, lo')]) (a, o) = (decide (la < a) && (o - lo' == 1 || o - lo' == -1)) := by
      rw [okE_last]; simp only [c2, c4]; simp only [List.length_append, List.length_cons, List.length_nil] at c1; simp [c3]; omega
    rw [hfin]
    clear hfin hcell hcells hes hl0 hl1 c3 c2 c4
    have hlen : (ds ++ [(la, lo')]).length = ds.length + 1 := by simp
    rw [hlen] at h1 hc c1 ⊢
    clear hlen
    generalize ds.length = n at *
    have hbl : b < w.heap.size := by omega
    go_enter Try.func63, Try.ntmps63
    go_wp2
    all_goals go_ret
    all_goals refine ⟨ret_b ?_, (by repeat (first | exact Below.refl _ _ | assumption | refine below_al ?_ _ | refine below_dr ?_ | refine below_drN ?_ _ | refine below_set ?_ (by simp; try omega) _ | (refine below_to ?_ (by assumption))))⟩
    all_goals (rw [Bool.eq_iff_iff]; simp; try omega)

set_option maxRecDepth 100000 in
set_option maxHeartbeats 2000000 in
/-- what the reference's Table answers -/
def RTabPost (b : Bool) (w : World) (e : Ending) (w' : World) : Prop := ∃ m : Int, e = .returned (.tuple #[.int .i64 m, .bool b]) ∧ Below w.heap.size w w'

set_option maxRecDepth 100000 in
set_option maxHeartbeats 2000000 in
theorem rtable_any (v : Value) (es : List (Int × Int)) (u x : Int) (w : World) (hv : Ents w w.heap.size v es) (hu : I64 u) (hx : I64 x) (hes : ∀ i, I64 (es.getD i (0, 0)).1 ∧ I64 (es.getD i (0, 0)).2) :
    Calls Try.prog 28 #[.agg #[.int .i64 u, .int .i64 x, v]] w (RTabPost (okT u x es) w) := by
  have hvv := hv
  obtain ⟨A, c, rfl, hc, hc2, hcells⟩ := hvv
  obtain ⟨w1, hw1, q0, q1, q2, hE1, hB1, s1⟩ := tbox w u x _ es hv
  obtain ⟨n, hn⟩ : ∃ n, n = es.length := ⟨_, rfl⟩
  rw [← hn] at hc hcells hw1 q2 hE1 ⊢
  have HN := Lib.hid hn
  have HE1 := Lib.hid hE1
  have HB1 := Lib.hid hB1
  have HS := Lib.hid hes
  clear hn hv hE1 hB1 hes
  go_enter Try.func28, Try.ntmps28
  go_wp2
  rw [← hw1]
  clear hw1
  go_loopw [4] (fun i wr => ∃ k : Nat, k ≤ n ∧ i = .int .i64 k ∧ Hid (okPre es k = true) ∧ Below w1.heap.size w1 wr) (fun i _ => n - (intOf i).toNat)
  case atStart => exact ⟨0, Nat.zero_le _, rfl, okPre_zero es, Below.refl _ _⟩
  case round =>
    obtain ⟨k, hk, rfl, hok, hbw⟩ := hrel
    have hsz := hbw.size
    have r2 : wr.cell? ⟨w.heap.size, 2, none⟩ = some (.slice A n c) := (hbw.cell (p := ⟨_, 2, none⟩) (by simp; omega)).trans q2
    have r0 : wr.cell? ⟨w.heap.size, 0, none⟩ = some (.int .i64 u) := (hbw.cell (p := ⟨_, 0, none⟩) (by simp; omega)).trans q0
    have r1 : wr.cell? ⟨w.heap.size, 1, none⟩ = some (.int .i64 x) := (hbw.cell (p := ⟨_, 1, none⟩) (by simp; omega)).trans q1
    by_cases hlt : k < n
    · obtain ⟨b, off, rfl, hb, hcell⟩ := hcells (by omega)
      have hev := HE1.out.below hbw
      obtain ⟨c0, c1⟩ := hev.get HN.out k hlt
      have ho := HS.out k
      obtain ⟨⟨a, o⟩, he⟩ : ∃ e, e = es.getD k (0, 0) := ⟨_, rfl⟩
      rw [← he] at c0 c1 ho
      have hek : Ents wr w1.heap.size (.slice (some ⟨b, off, none⟩) k c) (es.take k) := by
        rw [show (Value.slice (some ⟨b, off, none⟩) n c) = .slice (some ⟨b, off, none⟩) es.length c by rw [HN.out]] at hev
        exact hev.take k (by rw [← HN.out]; omega)
      have hoff := okPre_off hok.out (by rw [← HN.out]; omega)
      have hcall := fun W (hB : w1.heap.size ≤ W.heap.size) (hE : Ents W w1.heap.size (.slice (some ⟨b, off, none⟩) k c) (es.take k)) => rentry_any (.slice (some ⟨b, off, none⟩) k c) (es.take k) a o W w1.heap.size hB hE ho.1 ho.2 hoff
      have hokE : okPre es (k + 1) = okE (es.take k) (a, o) := by rw [okPre_succ, hok.out, ← he]; simp
      have HC := Lib.hid hcall
      have HE := Lib.hid he
      have HEK := Lib.hid hek
      have HOK := Lib.hid hokE
      have hbl : b < wr.heap.size := by omega
      have hwl : w.heap.size < wr.heap.size := by omega
      have i1 : (0 : Int) ≤ (k : Int) := by omega
      have i2 : (k : Int) ≤ (c : Int) := by omega
      have i3 : (k : Int) < (n : Int) := by omega
      clear hcall he hek hokE hcell hcells hoff ho hev
      go_wp2
      go_region_held3 (fun w' => w'.cell? ⟨w.heap.size, 2, none⟩ = some (.slice (some ⟨b, off, none⟩) n c) ∧ w'.cell? ⟨b, off + k * 2, none⟩ = some (.int .i64 a) ∧ w'.cell? ⟨b, off + k * 2 + 1, none⟩ = some (.int .i64 o)) (go_keep)
        (first | (go_at_call 63; refine (HC.out _ ?c1 ?c2).mono ?_; (case c1 => simp; omega); (case c2 => exact HEK.out.below (Below.mono (B := wr.heap.size) (by repeat (first | exact Below.refl _ _ | assumption | refine below_al ?_ _ | refine below_dr ?_ | refine below_drN ?_ _ | refine below_set ?_ (by simp; try omega) _ | (refine below_to ?_ (by assumption)))) (by omega))); rintro e w' ⟨rfl, hb1⟩; have t2 := (hb1.cell (p := ⟨w.heap.size, 2, none⟩) hwl).trans r2; have t0 := (hb1.cell (p := ⟨b, off + k * 2, none⟩) hbl).trans c0; have t1 := (hb1.cell (p := ⟨b, off + k * 2 + 1, none⟩) hbl).trans c1))
      have hbw' : Below w1.heap.size w1 w' := hbw.trans ((below_dr (Below.refl _ _)).mono hsz |>.trans (hb1.mono (by simp; omega)))
      have HBW := Lib.hid hbw'
      have HBB := Lib.hid (below_to HB1.out hbw')
      clear hbw' hb1
      cases hE : okE (es.take k) (a, o)
      · have hT : okT u x es = false := by
          have h1 : okPre es (k + 1) = false := HOK.out.trans hE
          have h2 : okPre es es.length = false := by
            cases h3 : okPre es es.length with
            | false => rfl
            | true => rw [okPre_mono h3 (by rw [← HN.out]; omega)] at h1; cases h1
          simp [okT, h2]
        have HT := Lib.hid hT
        clear hT
        go_wp2
        go_ret2
        exact ⟨k, by rw [HT.out]; rfl, HBB.out⟩
      · have h1 : okPre es (k + 1) = true := HOK.out.trans hE
        have H1 := Lib.hid h1
        clear h1
        go_wp2
        go_roundw
        case rel => exact ⟨k + 1, by omega, by go_num, H1.out, HBW.out⟩
        case measure => simp [intOf]; omega
    · obtain rfl : k = n := by omega
      have HBB := Lib.hid (below_to HB1.out hbw)
      have hT : okT u x es = (decide (0 < k) && inB u 999999999999999999 && inB x 999999999999999999) := by
        unfold okT; rw [← HN.out, hok.out]
        cases es with
        | nil => have := HN.out; simp at this; subst this; simp
        | cons e r =>
          have h2 : 0 < k := by rw [HN.out]; simp
          simp [h2]
      have HT := Lib.hid hT
      clear hT hbw hcells
      by_cases p0 : 0 < k
      · by_cases p1 : 0 ≤ u
        · by_cases p2 : u < 1000000000000000000
          · by_cases p3 : 0 ≤ x
            · by_cases p4 : x < 1000000000000000000
              · go_wp2
                go_ret2
                exact ⟨_, by rw [HT.out, show (decide (0 < k) && inB u 999999999999999999 && inB x 999999999999999999) = true by simp [inB]; omega]; rfl, HBB.out⟩
              · go_wp2
                go_ret2
                exact ⟨_, by rw [HT.out, show (decide (0 < k) && inB u 999999999999999999 && inB x 999999999999999999) = false by simp [inB]; omega]; rfl, HBB.out⟩
            · go_wp2
              go_ret2
              exact ⟨_, by rw [HT.out, show (decide (0 < k) && inB u 999999999999999999 && inB x 999999999999999999) = false by simp [inB]; omega]; rfl, HBB.out⟩
          · go_wp2
            go_ret2
            exact ⟨_, by rw [HT.out, show (decide (0 < k) && inB u 999999999999999999 && inB x 999999999999999999) = false by simp [inB]; omega]; rfl, HBB.out⟩
        · go_wp2
          go_ret2
          exact ⟨_, by rw [HT.out, show (decide (0 < k) && inB u 999999999999999999 && inB x 999999999999999999) = false by simp [inB]; omega]; rfl, HBB.out⟩
      · go_wp2
        go_ret2
        exact ⟨_, by rw [HT.out, show (decide (0 < k) && inB u 999999999999999999 && inB x 999999999999999999) = false by simp [inB]; omega]; rfl, HBB.out⟩
end Go.Proofs.Ytdbhgeihphjgeaa
/- Walk of the reference of layer 11: Same, of two tables that read alike. -/
namespace Go.Proofs.Ytdbhgeihphjgeaa
open Go.RowKit
set_option linter.unusedVariables false
set_option linter.unusedSimpArgs false

set_option maxRecDepth 100000 in
set_option maxHeartbeats 2000000 in
theorem same_yes (v v' : Value) (es : List (Int × Int)) (u x : Int) (w : World) (hv : Ents w w.heap.size v es) (hv' : Ents w w.heap.size v' es) :
    Calls Try.prog 29 #[.agg #[.int .i64 u, .int .i64 x, v], .agg #[.int .i64 u, .int .i64 x, v']] w fun e w' => e = .returned (.bool true) ∧ Below w.heap.size w w' := by
  have hvv := hv
  obtain ⟨A, c, rfl, hc, hc2, hcells⟩ := hvv
  have hvv' := hv'
  obtain ⟨A', c', rfl, hc', hc2', hcells'⟩ := hvv'
  obtain ⟨w1, hw1, q0, q1, q2, hE1, hB1, s1⟩ := tbox w u x _ es hv
  have hE1' := (hv'.below hB1).mono hB1.size
  obtain ⟨w2, hw2, p0, p1, p2, hE2, hB2, s2⟩ := tbox w1 u x _ es hE1'
  have hE3 := (hE1.below hB2).mono hB2.size
  rw [s1] at p0 p1 p2 s2
  have q0' := (hB2.cell (p := ⟨w.heap.size, 0, none⟩) (by simp; omega)).trans q0
  have q1' := (hB2.cell (p := ⟨w.heap.size, 1, none⟩) (by simp; omega)).trans q1
  have q2' := (hB2.cell (p := ⟨w.heap.size, 2, none⟩) (by simp; omega)).trans q2
  have hB := below_to hB1 hB2
  obtain ⟨n, hn⟩ : ∃ n, n = es.length := ⟨_, rfl⟩
  rw [← hn] at hc hcells hc' hcells' hw1 hw2 q2' p2 hE2 hE3 ⊢
  rw [hw1] at hw2
  have HN := Lib.hid hn
  have HE2 := Lib.hid hE2
  have HE3 := Lib.hid hE3
  have HB := Lib.hid hB
  clear hn hv hv' hE1 hB1 hE1' hB2 hE2 hE3 hB q0 q1 q2 hw1 s1
  go_enter Try.func29, Try.ntmps29
  go_wp2
  rw [← hw2]
  clear hw2
  go_loopw [5] (fun i wr => ∃ k : Nat, k ≤ n ∧ i = .int .i64 k ∧ Below w2.heap.size w2 wr) (fun i _ => n - (intOf i).toNat)
  case atStart => exact ⟨0, Nat.zero_le _, rfl, Below.refl _ _⟩
  case round =>
    obtain ⟨k, hk, rfl, hbw⟩ := hrel
    have hsz := hbw.size
    have r2 := (hbw.cell (p := ⟨w.heap.size, 2, none⟩) (by simp; omega)).trans q2'
    have t2 := (hbw.cell (p := ⟨w.heap.size + 1, 2, none⟩) (by simp; omega)).trans p2
    by_cases hlt : k < n
    · obtain ⟨b, off, rfl, hb, hcell⟩ := hcells (by omega)
      obtain ⟨b', off', rfl, hb', hcell'⟩ := hcells' (by omega)
      obtain ⟨c0, c1⟩ := (HE3.out.below hbw).get HN.out k hlt
      obtain ⟨d0, d1⟩ := (HE2.out.below hbw).get HN.out k hlt
      obtain ⟨⟨a, o⟩, he⟩ : ∃ e, e = es.getD k (0, 0) := ⟨_, rfl⟩
      rw [← he] at c0 c1 d0 d1
      have HBW := Lib.hid hbw
      have i1 : (0 : Int) ≤ (k : Int) := by omega
      have i3 : (k : Int) < (n : Int) := by omega
      clear he hcell hcell' hcells hcells' hbw
      go_wp2
      go_quiet (fail)
      go_wp2
      go_roundw
      case rel => exact ⟨k + 1, by omega, by go_num, Below.trans HBW.out (⟨rfl, rfl, rfl, Nat.le_refl _, fun _ _ => rfl⟩)⟩
      case measure => simp [intOf]; omega
    · obtain rfl : k = n := by omega
      have HBW := Lib.hid (below_to HB.out hbw)
      clear hbw hcells hcells'
      go_wp2
      go_ret
      exact ⟨rfl, HBW.out⟩
end Go.Proofs.Ytdbhgeihphjgeaa
/- Walks of the laws of layer 12: what each law's Go text answers. -/
namespace Go.Proofs.Ytdbhgeihphjgeaa
open Go.RowKit
set_option linter.unusedVariables false
set_option linter.unusedSimpArgs false

theorem below_gr {w W W' : World} {g : Nat} (h : Below w.heap.size w W) (hg : W.grownBy W' (some g)) (hge : w.heap.size ≤ g) : Below w.heap.size w W' :=
  h.grown hg h.size (fun k hk => by simp only [Option.some.injEq] at hk; omega)

/-- the table of 'answers' -/
def ansT : List (Int × Int) := [(2272060800, 10), (2287785600, 11)]
theorem ansT_ok : okT 0 0 ansT = true := by decide +kernel
theorem ansT_64 : ∀ i, I64 (ansT.getD i (0, 0)).1 ∧ I64 (ansT.getD i (0, 0)).2 := by
  intro i
  match i with
  | 0 => simp [ansT, I64]
  | 1 => simp [ansT, I64]
  | i + 2 => simp [ansT, I64]
theorem ansT_row : (ansT.flatMap entC).toArray = #[.int .i64 2272060800, .int .i64 10, .int .i64 2287785600, .int .i64 11] := rfl

set_option maxRecDepth 100000 in
set_option maxHeartbeats 2000000 in
theorem answers12_any (w : World) : Calls Try.prog 21 #[] w fun e w' => e = .returned (.bool true) ∧ Below w.heap.size w w' := by
  have hb0 : Below w.heap.size w (w.alloc (.cells #[.int .i64 2272060800, .int .i64 10, .int .i64 2287785600, .int .i64 11] 43)) := (by repeat (first | exact Below.refl _ _ | assumption | refine below_al ?_ _ | refine below_dr ?_ | refine below_drN ?_ _ | refine below_set ?_ (by simp; try omega) _ | (refine below_to ?_ (by assumption))))
  have hbk : Blk (w.alloc (.cells #[.int .i64 2272060800, .int .i64 10, .int .i64 2287785600, .int .i64 11] 43)) w.heap.size 43 (ansT.flatMap entC).toArray := Blk.new w _ _
  have hE : Ents (w.alloc (.cells #[.int .i64 2272060800, .int .i64 10, .int .i64 2287785600, .int .i64 11] 43)) (w.alloc (.cells #[.int .i64 2272060800, .int .i64 10, .int .i64 2287785600, .int .i64 11] 43)).heap.size (.slice (some ⟨w.heap.size, 0, none⟩) 2 2) ansT := hbk.ents (c := 2) (by decide) (by decide) (by simp)
  have hn := new_yes _ ansT 0 0 _ hE (by simp [I64]) (by simp [I64]) ansT_64 ansT_ok
  have HN := Lib.hid hn
  have HB0 := Lib.hid hb0
  clear hn hE hbk hb0
  go_enter Try.func21, Try.ntmps21
  go_wp2_with fail
  refine HN.out.mono ?_
  rintro e w1 ⟨g, rfl, hL1, hg, hb1⟩
  have hgw : w.heap.size ≤ g := by simp at hg; omega
  have HB1 := Lib.hid (below_to HB0.out hb1)
  have HL1 := Lib.hid (length_any g 0 0 0 41498 ansT w1 hL1)
  clear hb1 hL1 hg
  go_wp2_with fail
  refine HL1.out.mono ?_
  rintro e w2 ⟨rfl, hL2, hg2⟩
  rw [show lenV ansT 41498 = 86401 from by decide +kernel, show lenE ansT 41498 = 0 from by decide +kernel]
  have HB2 := Lib.hid (below_gr HB1.out hg2 hgw)
  have HL2 := Lib.hid (offset_any g 0 0 _ 41499 ansT w2 hL2)
  clear hL2 hg2
  go_wp2_with fail
  refine HL2.out.mono ?_
  rintro e w3 ⟨rfl, hL3, hg3⟩
  rw [show offV ansT 41499 = 11 from by decide +kernel, show offE ansT 41499 = 0 from by decide +kernel]
  have HB3 := Lib.hid (below_gr HB2.out hg3 hgw)
  have HL3 := Lib.hid (first_any g 0 0 _ ansT w3 hL3)
  clear hL3 hg3
  go_wp2_with fail
  refine HL3.out.mono ?_
  rintro e w4 ⟨rfl, hL4, hg4⟩
  rw [show day0 ansT = 41317 from by decide +kernel]
  have HB4 := Lib.hid (below_gr HB3.out hg4 hgw)
  have HL4 := Lib.hid (changeX_any g 0 0 _ 41498 ansT w4 hL4)
  clear hL4 hg4
  go_wp2_with fail
  refine HL4.out.mono ?_
  rintro e w5 ⟨rfl, hL5, hg5⟩
  rw [show chgV ansT 41498 = 1 from by decide +kernel]
  have HB5 := Lib.hid (below_gr HB4.out hg5 hgw)
  rw [show wrap64 (wrap64 (wrap64 (0 + 1) + 1) + 1) = 3 from by decide +kernel] at hL5
  have HL5 := Lib.hid (asked_any g 0 0 3 (by simp [I64]) ansT w5 hL5)
  clear hL5 hg5
  go_wp2_with fail
  refine HL5.out.mono ?_
  rintro e w6 ⟨rfl, rfl⟩
  go_wp2
  go_ret
  exact ⟨rfl, HB5.out⟩
end Go.Proofs.Ytdbhgeihphjgeaa
/- leaps.New in a walk: entries written out, the leap seconds that it yields. Own work. -/
namespace Go.Proofs.Ytdbhgeihphjgeaa
open Go.RowKit
set_option linter.unusedVariables false
set_option linter.unusedSimpArgs false
def newLF (v : Value) : Value := .tuple #[vP (ptrB (tp v 0)) 0, vI 0]
theorem NewL.form {w : World} {v : Value} {u x : Int} {es : List (Int × Int)} {B : Nat} (h : NewL w v u x es B) : v = newLF v := h.1
theorem NewL.keep {w w' : World} {v : Value} {u x : Int} {es : List (Int × Int)} {B : Nat} (h : NewL w v u x es B) (hk : KeepT leT none w w') : NewL w' v u x es B := by
  refine ⟨h.1, h.2.1.keepT ?_ (fun b cur T fz hb hT _ => hk b cur T fz hb hT (by simp)), h.2.2⟩
  obtain ⟨q, _, ge, d, mv, _, hb, _⟩ := h.2.1
  unfold Blk at hb
  exact hk _ _ _ _ hb rfl (by simp)
theorem lnew_yes {B : Nat} {w : World} (hB : B ≤ w.heap.size) {v : Value} {es : List (Int × Int)} (hv : Ents w w.heap.size v es) {u x : Int} (hu : I64 u) (hx : I64 x) (hes : ∀ i, I64 (es.getD i (0, 0)).1 ∧ I64 (es.getD i (0, 0)).2) (hok : okT u x es = true) :
    Calls Try.prog 20 #[.agg #[vI u, vI x, v]] w fun e w' => ∃ v', e = .returned v' ∧ Below w.heap.size w w' ∧ NewL w' v' u x es B := by
  refine (new_yes v es u x w hv hu hx hes hok).mono ?_
  rintro e w' ⟨g, rfl, hL, hg, hb⟩
  exact ⟨_, rfl, hb, rfl, ⟨_, hL⟩, Nat.le_trans hB hg⟩
/-- entries in a block of their own -/
def EntL (w : World) (v : Value) (es : List (Int × Int)) : Prop := ∃ b, v = .slice (some ⟨b, 0, none⟩) es.length es.length ∧ w.heap[b]? = some (Obj.cells (es.flatMap entC).toArray 43 (0, 0))
def entF (n : Nat) (v : Value) : Value := .slice (sA v) n n
theorem EntL.form {w : World} {v : Value} {es : List (Int × Int)} (h : EntL w v es) : v = entF es.length v := by obtain ⟨b, rfl, _⟩ := h; rfl
theorem EntL.keep {w w' : World} {v : Value} {es : List (Int × Int)} (h : EntL w v es) (hk : KeepT [43] none w w') : EntL w' v es := by
  obtain ⟨b, rfl, hb⟩ := h
  exact ⟨b, rfl, (hk _ _ _ _ hb rfl (by simp)).trans hb⟩
theorem EntL.ents {w : World} {v : Value} {es : List (Int × Int)} (h : EntL w v es) (hl : es.length ≤ 9223372036854775807) : Ents w w.heap.size v es := by
  obtain ⟨b, rfl, hb⟩ := h
  exact Blk.ents (g := b) (t := 43) hb (Nat.le_refl _) hl (lt_of_some hb)
theorem At.ent {R : Reg} {i : Nat} {D : Nat → Bool} {env : Env} {a : Act} {w : World} (h : At R i D env a w) (j : Nat) {n : Nat} {es : List (Int × Int)} (hn : es.length = n) (hl : n ≤ 9223372036854775807) (hj : ((R.cl.getD i []).contains j && !(j == i)) = true) (hs : ((R.cl.getD j []).contains j) = true) (hF : R.F.filter (fun p => Nat.beq p.1 j) = [(j, fun env w => EntL w (env j) es)]) : Ents w w.heap.size (.slice (sA (env j)) n n) es := by
  subst hn
  have h1 : EntL w (env j) es := h.fact j (φ := fun v w => EntL w v es) hj hs hF
  have h2 := h1.ents hl
  rw [h1.form] at h2
  exact h2
section
variable {P : Program} {R : Reg} {Q : Exit → Act → World → Prop} {i : Nat} {o : Oper}
theorem s_bsE (ho : R.ops[i]? = some o) (hf : free' R i = true) (hw : ∀ {D env a w}, At R i D env a w → Region.wanted o (yielded R.ops a.tmps) = true) (es : List (Int × Int)) (n : Nat) (hn : es.length = n) (cs : Array Value) (hcs : (es.flatMap entC).toArray = cs) (hV : R.v? i = some fun env => entF n (env i)) (hF : R.F.filter (fun p => Nat.beq p.1 i) = [(i, fun env w => EntL w (env i) es)]) (hint : tFree [43] R = true) (hx : R.ex = none)
    (hrun : ∀ {D env a w}, At R i D env a w → (execOp a.eval o).run P w = .ok (.value (.slice (some ⟨w.heap.size, 0, none⟩) n n)) (w.alloc (.cells cs 43 (0, 0)))) : SR P Q R i :=
  s_gen ho hf (fun {D env a w} hA K hK => by
    subst hn
    subst hcs
    rw [if_pos (hw hA)]
    unfold Oper.wp
    rw [hrun hA]
    have hs' := hA.j.st.call (w' := w.alloc (.cells (es.flatMap entC).toArray 43 (0, 0))) ⟨rfl, rfl, rfl, by simp, fun k hk => Below.heap_alloc _ _ _ hk⟩
    have hkt := fun w'' (ha : Apart (R.mem _ _) none _ w'') => apart_keepT (w' := w'') hint hs' (.inl hx.symm) ha
    rw [hx] at hkt
    refine hK _ _ hs' (fun w'' ha => f_fact (φ := fun v w => EntL w v es) (form := entF es.length) hV (fun v w h => h.form) hF hA.ok ho (EntL.keep ⟨w.heap.size, rfl, heap_alloc_new w _⟩ (hkt w'' (by rw [hx] at ha; exact ha)))))
end
/-- from here on they are the state, whatever else was told -/
theorem Cur.exInF {n : Nat} {w0 : World} {Θ : World → Prop} {L : Slots} {M : List Ent} {a : Act} {w : World} {v : Value} {u x : Int} {es : List (Int × Int)} {Fs : List (World → Prop)} (h : Cur n w0 none none (Facts Fs) Θ L M a w) (k : Nat) (hk : Fs[k]? = some (fun w => NewL w v u x es w0.heap.size)) : Cur n w0 none (some (ptrB (tp v 0))) (Facts []) (fun w => IsLx w (ptrB (tp v 0)) u x es) L M a w :=
  Cur.exInL (v := v) ⟨h.sz, h.df, h.st.mono (fun _ hF φ hφ => by
    obtain rfl := List.mem_singleton.1 hφ
    exact hF.get k hk) (fun _ h => h), h.sl⟩
theorem Ents.gn {w w' : World} {v : Value} {es : List (Int × Int)} (h : Ents w w.heap.size v es) (hg : w.grownBy w' none) : Ents w' w'.heap.size v es :=
  (h.below ⟨hg.os, hg.tape, hg.output, hg.size, fun i hi => hg.block i hi (by simp)⟩).mono hg.size
theorem ans_cs : (ansT.flatMap entC).toArray = #[vI 2272060800, vI 10, vI 2287785600, vI 11] := rfl
end Go.Proofs.Ytdbhgeihphjgeaa
/- utc without leap seconds; layer 13's answers (printed by my walk.py) -/
namespace Go.Proofs.Ytdbhgeihphjgeaa
open Go.RowKit
set_option linter.unusedVariables false
set_option linter.unusedSimpArgs false
attribute [local go_sem] vN bT bF rS vW vM vL vT2 vT3 vP vI execOp Act.eval evC bigF vB hi_zero lo_zero Try.underlying24 Try.underlying43 Try.underlying63 Try.underlying66

set_option maxRecDepth 100000 in
set_option maxHeartbeats 8000000 in
theorem ucheck_nil (d s a : Int) : Ret 90 #[.pointer none, vL d s a] (vI 12) := by
  intro w0
  have hst := St.start w0 (Θ := fun _ => True) (fun _ _ => trivial)
  refine enter Try.func90 rfl (n := 35) rfl (Nat.le_of_ble_eq_true rfl) hst (L := [(0, .pointer none), (1, vL d s a)]) (lk_args rfl) (fun ac h => ?_)
  refine wp_seq ?_
  refine rg_ h [[0],[1]] [KE_ fun env => vP (pb env 0) 0, K_ (vI 0)] (fun E1 => [(0, .pointer none), (3, vP (pb E1 0) 0), (4, vI 0)]) (W := [{ i := 0, T := 63, c0 := [vI d, vI s, vI a] }]) (M' := fun E1 => [((pb E1 0), 63, [vI d, vI s, vI a])]) (hs := c_ (bx0 0 (vL d s a)) <| c_ mv_ <| e_) (k := fun E1 ac wd h_1 => ?_)
  clear h
  refine then_n (wp_seq (wp_block (wp_seq ?_)))
  refine rg_ h_1 (tri 3) [K_ (.pointer none), K_ bT, K_ bT] (fun E2 => [(0, .pointer none), (3, vP (pb E1 0) 0), (4, vI 0), (7, bT)]) (hs := c_ mv_ <| c_ (bi0 (.pointer none) (.pointer none)) <| c_ mv_ <| e_) (k := fun E2 ac wd h_2 => ?_)
  clear h_1
  refine then_n ?_
  refine wp_cond_true (eval_tmp (h_2.g (t := 7) rfl)) ?_
  refine wp_seq ?_
  refine rg_ h_2 [[0]] [K_ (vI 12)] (fun E3 => [(0, .pointer none), (3, vP (pb E1 0) 0), (4, vI 12)]) (hs := c_ mv_ <| e_) (k := fun E3 ac wd h_3 => ?_)
  clear h_2
  refine then_n (wp_ret (blk_ret (then_ret ?_)))
  have s4 := h_3.g (t := 4) rfl
  refine leave (v := vI 12) h_3.df (by simp [results, Try.results90, go_sem, Array.getD_eq_getD_getElem?, s4]) ?_
  exact ⟨rfl, h_3.st.below⟩
set_option maxRecDepth 100000 in
set_option maxHeartbeats 8000000 in
theorem uexists_nil (d s a : Int) : Ret 54 #[.pointer none, vL d s a] (.bool false) := by
  intro w0
  have hst := St.start w0 (Θ := fun _ => True) (fun _ _ => trivial)
  refine enter Try.func54 rfl (n := 9) rfl (Nat.le_of_ble_eq_true rfl) hst (L := [(0, .pointer none), (1, vL d s a)]) (lk_args rfl) (fun ac h => ?_)
  refine wp_seq ?_
  refine rg_ h [[0],[1]] [KE_ fun env => vP (pb env 0) 0, K_ bF] (fun E1 => [(0, .pointer none), (3, vP (pb E1 0) 0), (4, bF)]) (W := [{ i := 0, T := 63, c0 := [vI d, vI s, vI a] }]) (M' := fun E1 => [((pb E1 0), 63, [vI d, vI s, vI a])]) (hs := c_ (bx0 0 (vL d s a)) <| c_ mv_ <| e_) (k := fun E1 ac wd h_1 => ?_)
  clear h
  refine then_n (wp_seq ?_)
  refine rg_ h_1 [[0],[1],[0,1,2],r_ 4,r_ 5] [K_ (.pointer none), K_ (vL d s a), K_ (vI 12), K_ bF, K_ bF] (fun E2 => [(4, bF)]) (hs := c_ mv_ <| c_ (ld_ 0 (hrd := by exact rd63 rfl rfl rfl)) <| c_ (cl_ Try.func90 (h := fun env => ⟨_, (ucheck_nil d s a), rfl⟩)) <| c_ (bi0 (vI 12) (vI 0)) <| c_ mv_ <| e_) (k := fun E2 ac wd h_2 => ?_)
  clear h_1
  refine then_n (wp_ret ?_)
  have s4 := h_2.g (t := 4) rfl
  refine leave (v := .bool false) h_2.df (by simp [results, Try.results54, go_sem, Array.getD_eq_getD_getElem?, s4]) ?_
  exact ⟨rfl, h_2.st.below⟩
set_option maxRecDepth 100000 in
set_option maxHeartbeats 8000000 in
theorem utai_nil (d s a : Int) : Ret 52 #[.pointer none, vL d s a] (vT2 (vW 0) (vI 12)) := by
  intro w0
  have hst := St.start w0 (Θ := fun _ => True) (fun _ _ => trivial)
  refine enter Try.func52 rfl (n := 34) rfl (Nat.le_of_ble_eq_true rfl) hst (L := [(0, .pointer none), (1, vL d s a)]) (lk_args rfl) (fun ac h => ?_)
  refine wp_seq ?_
  refine rg_ h [[0],[1],[2]] [KE_ fun env => vP (pb env 0) 0, KE_ fun env => vP (pb env 1) 0, K_ (vI 0)] (fun E1 => [(0, .pointer none), (3, vP (pb E1 0) 0), (4, vP (pb E1 1) 0), (5, vI 0)]) (W := [{ i := 0, T := 63, c0 := [vI d, vI s, vI a] }, { i := 1, T := 66, c0 := [vI 0, .int .u64 0] }]) (M' := fun E1 => [((pb E1 0), 63, [vI d, vI s, vI a]), ((pb E1 1), 66, [vI 0, .int .u64 0])]) (hs := c_ (bx0 0 (vL d s a)) <| c_ (al_ 1) <| c_ mv_ <| e_) (k := fun E1 ac wd h_1 => ?_)
  clear h
  refine then_n (wp_seq (wp_seq ?_))
  refine rg_ h_1 [[0],[1],[0,1,2],r_ 4] [K_ (.pointer none), K_ (vL d s a), K_ (vI 12), K_ (vI 12)] (fun E2 => [(0, .pointer none), (3, vP (pb E1 0) 0), (4, vP (pb E1 1) 0), (5, vI 0), (6, vI 12)]) (hs := c_ mv_ <| c_ (ld_ 0 (hrd := by exact rd63 rfl rfl rfl)) <| c_ (cl_ Try.func90 (h := fun env => ⟨_, (ucheck_nil d s a), rfl⟩)) <| c_ mv_ <| e_) (k := fun E2 ac wd h_2 => ?_)
  clear h_1
  refine then_n (wp_seq ?_)
  refine rg_ h_2 [[0],[0,1]] [K_ (vI 12), K_ bT] (fun E3 => [(0, .pointer none), (3, vP (pb E1 0) 0), (4, vP (pb E1 1) 0), (5, vI 0), (6, vI 12), (13, bT)]) (hs := c_ mv_ <| c_ (bi0 (vI 12) (vI 0)) <| e_) (k := fun E3 ac wd h_3 => ?_)
  clear h_2
  refine then_n ?_
  refine wp_cond_true (eval_tmp (h_3.g (t := 13) rfl)) ?_
  refine wp_seq ?_
  refine rg_ h_3 [[0],[1],[0,2],r_ 4] [K_ (.agg #[vI 0, .int .u64 0]), K_ (vI 12), none, K_ (vI 12)] (fun E4 => [(0, .pointer none), (3, vP (pb E1 0) 0), (4, vP (pb E1 1) 0), (5, vI 12)]) (S := [⟨1, 2, fun _ => [vI 0, .int .u64 0]⟩]) (M' := fun E4 => [((pb E1 0), 63, [vI d, vI s, vI a]), ((pb E1 1), 66, [vI 0, .int .u64 0])]) (hs := c_ (bd0 ([])) <| c_ mv_ <| c_ (se_ 1 (hst := by exact fun _ _ _ hc => st66 rfl rfl rfl hc)) <| c_ mv_ <| e_) (k := fun E4 ac wd h_4 => ?_)
  clear h_3
  refine then_n (wp_ret (then_ret ?_))
  have s4 := h_4.g (t := 4) rfl
  have hc4 := (h_4.st.own 1 _ rfl).2
  have c4_0 := own_cell (o := 0) hc4 rfl
  have c4_1 := own_cell (o := 1) hc4 rfl
  have s5 := h_4.g (t := 5) rfl
  refine leave (v := vT2 (.agg #[vI 0, .int .u64 0]) (vI 12)) h_4.df (by simp [results, Try.results52, go_sem, Array.getD_eq_getD_getElem?, s4, c4_0, c4_1, Try.underlying66, s5]) ?_
  exact ⟨rfl, h_4.st.below⟩
set_option maxRecDepth 100000 in
set_option maxHeartbeats 8000000 in
theorem ulabel_nil (z : Int) : Ret 53 #[.pointer none, vW z] (vT2 (vL 0 0 0) (vI 12)) := by
  intro w0
  have hst := St.start w0 (Θ := fun _ => True) (fun _ _ => trivial)
  refine enter Try.func53 rfl (n := 85) rfl (Nat.le_of_ble_eq_true rfl) hst (L := [(0, .pointer none), (1, vW z)]) (lk_args rfl) (fun ac h => ?_)
  refine wp_seq ?_
  refine rg_ h [[0],[1],[2]] [KE_ fun env => vP (pb env 0) 0, KE_ fun env => vP (pb env 1) 0, K_ (vI 0)] (fun E1 => [(0, .pointer none), (3, vP (pb E1 0) 0), (4, vP (pb E1 1) 0), (5, vI 0)]) (W := [{ i := 0, T := 66, c0 := [vI (hi (z)), .int .u64 (lo (z))] }, { i := 1, T := 63, c0 := [vI 0, vI 0, vI 0] }]) (M' := fun E1 => [((pb E1 0), 66, [vI (hi (z)), .int .u64 (lo (z))]), ((pb E1 1), 63, [vI 0, vI 0, vI 0])]) (hs := c_ (bx0 0 (vW z)) <| c_ (al_ 1) <| c_ mv_ <| e_) (k := fun E1 ac wd h_1 => ?_)
  clear h
  refine then_n (wp_seq (wp_seq ?_))
  refine rg_ h_1 [[0],[0,1]] [K_ (.pointer none), K_ bT] (fun E2 => [(0, .pointer none), (3, vP (pb E1 0) 0), (4, vP (pb E1 1) 0), (5, vI 0), (18, bT)]) (hs := c_ mv_ <| c_ (bi0 (.pointer none) (.pointer none)) <| e_) (k := fun E2 ac wd h_2 => ?_)
  clear h_1
  refine then_n ?_
  refine wp_cond_true (eval_tmp (h_2.g (t := 18) rfl)) ?_
  refine wp_seq ?_
  refine rg_ h_2 (tri 3) [K_ (vL 0 0 0), none, K_ (vI 12)] (fun E3 => [(0, .pointer none), (3, vP (pb E1 0) 0), (4, vP (pb E1 1) 0), (5, vI 12)]) (S := [⟨1, 1, fun _ => [vI 0, vI 0, vI 0]⟩]) (M' := fun E3 => [((pb E1 0), 66, [vI (hi (z)), .int .u64 (lo (z))]), ((pb E1 1), 63, [vI 0, vI 0, vI 0])]) (hs := c_ (bd0 ([])) <| c_ (se_ 1 (hst := by exact fun _ _ _ hc => st63 rfl rfl rfl rfl hc)) <| c_ mv_ <| e_) (k := fun E3 ac wd h_3 => ?_)
  clear h_2
  refine then_n (wp_ret (then_ret ?_))
  have s4 := h_3.g (t := 4) rfl
  have hc4 := (h_3.st.own 1 _ rfl).2
  have c4_0 := own_cell (o := 0) hc4 rfl
  have c4_1 := own_cell (o := 1) hc4 rfl
  have c4_2 := own_cell (o := 2) hc4 rfl
  have s5 := h_3.g (t := 5) rfl
  refine leave (v := vT2 (vL 0 0 0) (vI 12)) h_3.df (by simp [results, Try.results53, go_sem, Array.getD_eq_getD_getElem?, s4, c4_0, c4_1, c4_2, Try.underlying63, s5]) ?_
  exact ⟨rfl, h_3.st.below⟩
theorem ans_t : vT2 (vW (taiU ansT 41498 86400 5)) (vI (whyU ansT 41498 86400 5)) = vT2 (vW 3585513610000000000000000005) (vI 0) := by
  rw [show taiU ansT 41498 86400 5 = 3585513610000000000000000005 by decide +kernel, show whyU ansT 41498 86400 5 = 0 by decide +kernel]
theorem ans_l : vT2 (vL (labUt ansT 3585513610000000000000000005).2.1 (labUt ansT 3585513610000000000000000005).2.2.1 (labUt ansT 3585513610000000000000000005).2.2.2) (vI (labUt ansT 3585513610000000000000000005).1) = vT2 (vL 41498 86400 5) (vI 0) := by
  rw [show labUt ansT 3585513610000000000000000005 = (0, 41498, 86400, 5) by decide +kernel]
theorem ans_e1 : Value.bool (whyU ansT 41498 86400 5 == 0) = .bool true := by rw [show whyU ansT 41498 86400 5 = 0 by decide +kernel]; rfl
theorem ans_e2 : Value.bool (whyU ansT 41497 86400 0 == 0) = .bool false := by rw [show whyU ansT 41497 86400 0 = 6 by decide +kernel]; rfl
set_option maxRecDepth 100000 in
set_option maxHeartbeats 8000000 in
theorem answers13_any  : Ret 51 #[] (.bool true) := by
  intro w0
  have hst := St.start w0 (Θ := fun _ => True) (fun _ _ => trivial)
  refine enter Try.func51 rfl (n := 55) rfl (Nat.le_of_ble_eq_true rfl) hst (L := []) (lk_args rfl) (fun ac h => ?_)
  replace h := h.facts
  refine wp_seq ?_
  refine rf_ h [[0]] [K_ bF] (fun E1 => [(0, bF)]) (hs := c_ mv_ <| e_) (k := fun E1 ac wd h_1 => ?_)
  clear h
  refine then_n (wp_seq ?_)
  refine rf_ h_1 [[0],[1],[0,1,2],r_ 4,r_ 5,r_ 6,r_ 7,[0,1,2,3,4,5,7],[0,1,2,3,4,5,6,8],r_ 10] [K_ (.agg #[vI 2272060800, vI 10]), K_ (.agg #[vI 2287785600, vI 11]), KE_ fun env => .slice ((sA (env 2))) 2 2, KE_ fun env => .agg #[vI 0, vI 0, .slice ((sA (env 2))) 2 2], KE_ fun env => vT2 (vP (ptrB (tp (env 4) 0)) 0) (vI 0), KE_ fun env => vT2 (vP (ptrB (tp (env 4) 0)) 0) (vI 0), KE_ fun env => vP (ptrB (tp (env 4) 0)) 0, K_ (vI 0), KE_ fun env => vP (ptrB (tp (env 4) 0)) 0, K_ (vI 0)] (fun E2 => [(0, bF), (1, vP (ptrB (tp (E2 4) 0)) 0), (2, vI 0)]) (F := [(2, fun env w => EntL w (env 2) ansT), (4, fun env w => NewL w (env 4) 0 0 ansT w0.heap.size)]) (L1 := fun E2 => [fun w => EntL w (E2 2) ansT, fun w => NewL w (E2 4) 0 0 ansT w0.heap.size]) (hs := c_ (bd0 ([vI 2272060800, vI 10])) <| c_ (bd0 ([vI 2287785600, vI 11])) <| c_ (s_bsE rfl rfl (fun _ => wanted_none rfl _) ansT 2 rfl #[vI 2272060800, vI 10, vI 2287785600, vI 11] ans_cs rfl rfl rfl rfl (fun {D env ac wd} hA => by have e9 : ac.tmps[9]? = some (.agg #[vI 2272060800, vI 10]) := hA.g rfl; have e10 : ac.tmps[10]? = some (.agg #[vI 2287785600, vI 11]) := hA.g rfl; simp [go_sem, e9, e10, Try.underlying22])) <| c_ (bd_ (fun env => [.slice ((sA (env 2))) 2 2])) <| c_ (s_factT rfl rfl rfl Try.func20 (by kernel_rfl) rfl (fun _ => wanted_none rfl _) (fun v w => NewL w v 0 0 ansT w0.heap.size) newLF rfl rfl leT rfl (fun v w h => h.form) (fun v w w' hk h => h.keep hk) (fun {D env ac wd} hA => ⟨_, hA.args (vs := [.agg #[vI 0, vI 0, .slice ((sA (env 2))) 2 2]]) rfl, lnew_yes hA.j.st.gr.size (At.ent hA 2 rfl (by decide) rfl rfl rfl) (by simp [I64]) (by simp [I64]) ansT_64 ansT_ok⟩)) <| c_ mv_ <| c_ ext_ <| c_ ext_ <| c_ mv_ <| c_ mv_ <| e_) (k := fun E2 ac wd h_2 => ?_)
  clear h_1
  refine then_n (wp_seq ?_)
  replace h_2 := Cur.exInF h_2 1 rfl; generalize ptrB (tp (E2 4) 0) = g at h_2
  refine rf_ h_2 [[0],[1],[0,1,2]] [K_ (vL 41498 86400 5), KE_ fun env => vP (pb env 1) 0, none] (fun E3 => [(0, bF), (1, vP g 0), (2, vI 0), (3, vP (pb E3 1) 0)]) (W := [{ i := 1, T := 63, c0 := [vI 0, vI 0, vI 0], s := some 2, c1 := fun _ => [vI 41498, vI 86400, vI 5] }]) (M' := fun E3 => [((pb E3 1), 63, [vI 41498, vI 86400, vI 5])]) (hs := c_ (bd0 ([vI 41498, vI 86400, vI 5])) <| c_ (al_ 0) <| c_ (sw_ 0 1 (hst := by exact fun _ _ _ hc => st63 rfl rfl rfl rfl hc)) <| e_) (k := fun E3 ac wd h_3 => ?_)
  clear h_2
  refine then_n (wp_seq ?_)
  refine rf_ h_3 [[0],[1],[0,1,2],r_ 4,r_ 5,[0,1,2,3,5],[6],[0,1,2,3,4,6,7],r_ 9] [K_ (vP g 0), K_ (vL 41498 86400 5), K_ (vT2 (vW 3585513610000000000000000005) (vI 0)), K_ (vT2 (vW 3585513610000000000000000005) (vI 0)), K_ (vW 3585513610000000000000000005), K_ (vI 0), KE_ fun env => vP (pb env 6) 0, none, K_ (vI 0)] (fun E4 => [(0, bF), (1, vP g 0), (2, vI 0), (3, vP (pb E3 1) 0), (4, vP (pb E4 6) 0), (5, vI 0)]) (W := [{ i := 6, T := 66, c0 := [vI 0, .int .u64 0], s := some 7, c1 := fun _ => [vI (hi (3585513610000000000000000005)), .int .u64 (lo (3585513610000000000000000005))] }]) (M' := fun E4 => [((pb E3 1), 63, [vI 41498, vI 86400, vI 5]), ((pb E4 6), 66, [vI (hi (3585513610000000000000000005)), .int .u64 (lo (3585513610000000000000000005))])]) (hs := c_ mv_ <| c_ (ld_ 0 (hrd := by exact rd63 rfl rfl rfl)) <| c_ (s_leap (g := g) (u := 0) (x := 0) (es := ansT) Try.func52 (fun _ h => h) (fun _ h => h) (h := fun D env ac wd hA hL => ⟨_, LeapC.eq (utai_l _ g 0 0 ansT hL 41498 86400 5) ans_t, rfl⟩)) <| c_ mv_ <| c_ ext_ <| c_ ext_ <| c_ (al_ 1) <| c_ (sw_ 1 6 (hst := by exact fun _ _ _ hc => st66 rfl rfl rfl hc)) <| c_ mv_ <| e_) (k := fun E4 ac wd h_4 => ?_)
  clear h_3
  refine then_n (wp_seq ?_)
  refine rf_ h_4 [[0],[1],[0,1,2],r_ 4,r_ 5,[0,1,2,3,5],[6],[0,1,2,3,4,6,7],r_ 9] [K_ (vP g 0), K_ (vW 3585513610000000000000000005), K_ (vT2 (vL 41498 86400 5) (vI 0)), K_ (vT2 (vL 41498 86400 5) (vI 0)), K_ (vL 41498 86400 5), K_ (vI 0), KE_ fun env => vP (pb env 6) 0, none, K_ (vI 0)] (fun E5 => [(0, bF), (1, vP g 0), (2, vI 0), (3, vP (pb E3 1) 0), (5, vI 0), (6, vP (pb E5 6) 0), (7, vI 0)]) (W := [{ i := 6, T := 63, c0 := [vI 0, vI 0, vI 0], s := some 7, c1 := fun _ => [vI 41498, vI 86400, vI 5] }]) (M' := fun E5 => [((pb E3 1), 63, [vI 41498, vI 86400, vI 5]), ((pb E4 6), 66, [vI (hi (3585513610000000000000000005)), .int .u64 (lo (3585513610000000000000000005))]), ((pb E5 6), 63, [vI 41498, vI 86400, vI 5])]) (hs := c_ mv_ <| c_ (ld_ 1 (hrd := by exact rd66 rfl rfl)) <| c_ (s_leap (g := g) (u := 0) (x := 0) (es := ansT) Try.func53 (fun _ h => h) (fun _ h => h) (h := fun D env ac wd hA hL => ⟨_, LeapC.eq (ulabel_l _ g 0 0 ansT hL 3585513610000000000000000005 (by unfold InW; omega)) ans_l, rfl⟩)) <| c_ mv_ <| c_ ext_ <| c_ ext_ <| c_ (al_ 2) <| c_ (sw_ 2 6 (hst := by exact fun _ _ _ hc => st63 rfl rfl rfl rfl hc)) <| c_ mv_ <| e_) (k := fun E5 ac wd h_5 => ?_)
  clear h_4
  refine then_n (wp_seq ?_)
  refine rf_ h_5 [[0],[0,1],[0,1,2],r_ 4,r_ 5,r_ 6,r_ 7,r_ 8,r_ 9,r_ 10,r_ 11,r_ 12,[0,1,2,3,4,5,6,7,8,9,10,12],r_ 14,r_ 15,r_ 16,r_ 17,[0,1,2,3,4,5,6,7,8,9,10,11,12,13,14,15,17],r_ 19,r_ 20,r_ 21,r_ 22,[0,1,2,3,4,5,6,7,8,9,10,11,12,13,14,15,16,17,18,19,20,22],r_ 24,r_ 25,r_ 26,r_ 27] [K_ (vI 0), K_ bT, K_ bT, K_ (vI 0), K_ bT, K_ bT, K_ bT, K_ (vI 0), K_ bT, K_ bT, K_ bT, K_ (vL 41498 86400 5), K_ (vL 41498 86400 5), K_ bT, K_ bT, K_ bT, K_ (vP g 0), K_ (vL 41498 86400 5), K_ bT, K_ bT, K_ bT, K_ (vP g 0), K_ (vL 41497 86400 0), K_ bF, K_ bT, K_ bT, K_ bT] (fun E6 => [(0, bT)]) (hs := c_ mv_ <| c_ (bi0 (vI 0) (vI 0) (h := by intro env w; (first | (simp [go_sem]; done) | (simp [go_sem]; rfl)))) <| c_ mv_ <| c_ (gm0 (vI 0)) <| c_ (bi0 (vI 0) (vI 0) (h := by intro env w; (first | (simp [go_sem]; done) | (simp [go_sem]; rfl)))) <| c_ (pk0 bT bT bF (h := by intro env w; (first | (simp [go_sem]; done) | (simp [go_sem]; rfl)))) <| c_ mv_ <| c_ (gm0 (vI 0)) <| c_ (bi0 (vI 0) (vI 0) (h := by intro env w; (first | (simp [go_sem]; done) | (simp [go_sem]; rfl)))) <| c_ (pk0 bT bT bF (h := by intro env w; (first | (simp [go_sem]; done) | (simp [go_sem]; rfl)))) <| c_ mv_ <| c_ (ld_ 0 (hrd := by exact rd63 rfl rfl rfl)) <| c_ (ld_ 2 (hrd := by exact rd63 rfl rfl rfl)) <| c_ (bi0 (vL 41498 86400 5) (vL 41498 86400 5) (h := by intro env w; (first | (simp [go_sem]; done) | (simp [go_sem]; rfl)))) <| c_ (pk0 bT bT bF (h := by intro env w; (first | (simp [go_sem]; done) | (simp [go_sem]; rfl)))) <| c_ mv_ <| c_ (gm0 (vP g 0)) <| c_ (ld_ 0 (hrd := by exact rd63 rfl rfl rfl)) <| c_ (s_leap (g := g) (u := 0) (x := 0) (es := ansT) Try.func54 (fun _ h => h) (fun _ h => h) (h := fun D env ac wd hA hL => ⟨_, LeapC.eq (uexists_l _ g 0 0 ansT hL 41498 86400 5) ans_e1, rfl⟩)) <| c_ (pk0 bT bT bF) <| c_ mv_ <| c_ (gm0 (vP g 0)) <| c_ (bd0 ([vI 41497, vI 86400])) <| c_ (s_leap (g := g) (u := 0) (x := 0) (es := ansT) Try.func54 (fun _ h => h) (fun _ h => h) (h := fun D env ac wd hA hL => ⟨_, LeapC.eq (uexists_l _ g 0 0 ansT hL 41497 86400 0) ans_e2, rfl⟩)) <| c_ (un0 bF) <| c_ (pk0 bT bT bF) <| c_ mv_ <| e_) (k := fun E6 ac wd h_6 => ?_)
  clear h_5
  refine then_n (wp_ret ?_)
  have s0 := h_6.g (t := 0) rfl
  refine leave (v := .bool true) h_6.df (by simp [results, Try.results51, go_sem, Array.getD_eq_getD_getElem?, s0]) ?_
  exact ⟨rfl, h_6.st.below⟩
end Go.Proofs.Ytdbhgeihphjgeaa
/- the law UtcSeconds (printed by my walk.py) -/
namespace Go.Proofs.Ytdbhgeihphjgeaa
open Go.RowKit
set_option linter.unusedVariables false
set_option linter.unusedSimpArgs false
attribute [local go_sem] vN bT bF rS vW vM vL vT2 vT3 vP vI execOp Act.eval evC bigF vB hi_zero lo_zero Try.underlying24 Try.underlying63

theorem u_day0 (es : List (Int × Int)) : vI (dayOf ((es.getD 0 (0, 0)).1, (es.getD 0 (0, 0)).2)) = vI (day0 es) := rfl
theorem sec_ex {es : List (Int × Int)} (hp : okPre es es.length = true) {day sec a : Int} (hin : wthn day (-1099511627776) 1099511627776 = true) (hd : ¬ day < day0 es) (ha0 : 0 ≤ a) (ha1 : a < 1000000000000000000) {b : Bool} (hb : (0 ≤ sec ∧ sec < 86400 + chgV es day) ↔ b = true) : Value.bool (whyU es day sec a == 0) = .bool b := by
  obtain ⟨g0, g1⟩ := chgV_bd hp day
  congr 1
  unfold whyU
  rw [hin, if_neg (by simp : ¬ (true = false)), if_neg hd]
  by_cases hf : 0 ≤ sec ∧ sec ≤ 86400
  · have e : formB sec a = true := by simp [formB, wthn]; omega
    rw [e, if_neg (by simp)]
    by_cases hs : 86400 + chgV es day ≤ sec
    · rw [if_pos hs]
      cases b
      · rfl
      · have := hb.2 rfl; omega
    · rw [if_neg hs]
      have := hb.1 ⟨hf.1, by omega⟩
      rw [this]; rfl
  · have e : formB sec a = false := by simp [formB, wthn]; omega
    rw [e, if_pos rfl]
    cases b
    · rfl
    · have := hb.2 rfl; omega
/-- the cells of entries -/
def enC (es : List (Int × Int)) (p : Nat) : Value := if p % 2 = 0 then vI (es.getD (p / 2) (0, 0)).1 else vI (es.getD (p / 2) (0, 0)).2
theorem enC_0 (es : List (Int × Int)) (j : Nat) : enC es (j * 2) = vI (es.getD j (0, 0)).1 := by unfold enC; rw [if_pos (by omega), show j * 2 / 2 = j by omega]
theorem enC_1 (es : List (Int × Int)) (j : Nat) : enC es (j * 2 + 1) = vI (es.getD j (0, 0)).2 := by unfold enC; rw [if_neg (by omega), show (j * 2 + 1) / 2 = j by omega]
theorem Ents.els {w : World} {B : Nat} {v : Value} {es : List (Int × Int)} (h : Ents w B v es) : Els w v es.length 2 (enC es) := by
  obtain ⟨A, c, rfl, h1, h2, h3⟩ := h
  refine ⟨A, c, rfl, h1, ?_⟩
  rcases Nat.eq_zero_or_pos es.length with h0 | h0
  · exact .inl h0
  · obtain ⟨b, off, hA, hb, hc⟩ := h3 h0
    refine .inr ⟨b, off, hA, fun i hi => ?_⟩
    have h5 := hc (i / 2) (by omega)
    rcases Nat.mod_two_eq_zero_or_one i with h6 | h6
    · rw [show off + i = off + i / 2 * 2 by omega, h5.1]; unfold enC; rw [if_pos h6]
    · rw [show off + i = off + i / 2 * 2 + 1 by omega, h5.2]; unfold enC; rw [if_neg (by omega)]
set_option maxRecDepth 100000 in
set_option maxHeartbeats 8000000 in
theorem uin5_any (n : Int) : Ret 55 #[vI n] (.bool (wthn n (-1099511627776) 1099511627776)) := by
  intro w0
  have hst := St.start w0 (Θ := fun _ => True) (fun _ _ => trivial)
  refine enter Try.func55 rfl (n := 9) rfl (Nat.le_of_ble_eq_true rfl) hst (L := [(0, vI n)]) (lk_args rfl) (fun ac h => ?_)
  refine wp_seq ?_
  refine rg_ h [[0]] [K_ bF] (fun E1 => [(0, vI n), (2, bF)]) (hs := c_ mv_ <| e_) (k := fun E1 ac wd h_1 => ?_)
  clear h
  refine then_n (wp_seq ?_)
  by_cases h : -1099511627776 ≤ n
  refine rg_ h_1 (tri 7) [K_ (vI n), K_ bT, K_ bT, K_ (vI n), K_ (.bool (decide (n ≤ 1099511627776))), K_ (.bool (decide (n ≤ 1099511627776))), K_ (.bool (decide (n ≤ 1099511627776)))] (fun E2 => [(2, .bool (decide (n ≤ 1099511627776)))]) (hs := c_ mv_ <| c_ (bi0 (vI n) (vI (-1099511627776)) (h := by intro env w; simp [go_sem, h])) <| c_ mv_ <| c_ (gm0 (vI n)) <| c_ (bi0 (vI n) (vI 1099511627776)) <| c_ (pk0 bT (.bool (decide (n ≤ 1099511627776))) bF) <| c_ mv_ <| e_) (k := fun E2 ac wd h_2 => ?_)
  clear h_1
  refine then_n (wp_ret ?_)
  have s2 := h_2.g (t := 2) rfl
  refine leave (v := .bool (decide (n ≤ 1099511627776))) h_2.df (by simp [results, Try.results55, go_sem, Array.getD_eq_getD_getElem?, s2]) ?_
  exact ⟨by simp [wthn, h], h_2.st.below⟩
  refine rg_ h_1 (tri 7) [K_ (vI n), K_ bF, K_ bF, K_ undef, K_ undef, K_ bF, K_ bF] (fun E2 => [(2, bF)]) (hs := c_ mv_ <| c_ (bi0 (vI n) (vI (-1099511627776)) (h := by intro env w; simp [go_sem, h])) <| c_ mv_ <| c_ off_ <| c_ off_ <| c_ (pk0 bF undef bF) <| c_ mv_ <| e_) (k := fun E2 ac wd h_2 => ?_)
  clear h_1
  refine then_n (wp_ret ?_)
  have s2 := h_2.g (t := 2) rfl
  refine leave (v := .bool false) h_2.df (by simp [results, Try.results55, go_sem, Array.getD_eq_getD_getElem?, s2]) ?_
  exact ⟨by simp [wthn, h], h_2.st.below⟩
set_option maxRecDepth 100000 in
set_option maxHeartbeats 8000000 in
theorem utcSeconds_core (w0 : World) (A0 : Option Addr) (c0 : Nat) (es : List (Int × Int)) (u x : Int) (day sec : Int) (hv : Ents w0 w0.heap.size (.slice A0 es.length c0) es) (hu : I64 u) (hx : I64 x) (hes : ∀ i, I64 (es.getD i (0, 0)).1 ∧ I64 (es.getD i (0, 0)).2) : Calls Try.prog 18 #[.agg #[vI u, vI x, .slice A0 es.length c0], vI day, vI sec] w0 fun e w' => e = .returned (.bool true) ∧ Below w0.heap.size w0 w' := by
  have hst := St.start w0 (Θ := fun _ => True) (fun _ _ => trivial)
  refine enter Try.func18 rfl (n := 77) rfl (Nat.le_of_ble_eq_true rfl) hst (L := [(0, .agg #[vI u, vI x, .slice A0 es.length c0]), (1, vI day), (2, vI sec)]) (lk_args rfl) (fun ac h => ?_)
  replace h := h.facts
  refine wp_seq ?_
  refine rf_ h [[0],[1]] [KE_ fun env => vP (pb env 0) 0, K_ bF] (fun E1 => [(1, vI day), (2, vI sec), (3, vP (pb E1 0) 0), (6, bF)]) (W := [{ i := 0, T := 24, c0 := [vI u, vI x, .slice A0 es.length c0] }]) (M' := fun E1 => [((pb E1 0), 24, [vI u, vI x, .slice A0 es.length c0])]) (hs := c_ (bx0 0 (.agg #[vI u, vI x, .slice A0 es.length c0])) <| c_ mv_ <| e_) (k := fun E1 ac wd h_1 => ?_)
  clear h
  refine then_n (wp_seq ?_)
  cases hok : okT u x es
  refine rf_ h_1 [[0],[0,1],[0,1,2],r_ 4,[0,1,2,4],[0,1,2,3,5],r_ 7] [K_ (.agg #[vI u, vI x, .slice A0 es.length c0]), K_ (vT2 (.pointer none) (vI 10)), K_ (vT2 (.pointer none) (vI 10)), K_ (.pointer none), K_ (vI 10), K_ (.pointer none), K_ (vI 10)] (fun E2 => [(1, vI day), (2, vI sec), (3, vP (pb E1 0) 0), (6, bF), (7, .pointer none), (8, vI 10)]) (hs := c_ (ld_ 0 (hrd := by exact rd24 rfl rfl rfl)) <| c_ (cw_ Try.func20 (h := fun _ env _ wd hA => ⟨_, ((new_no _ es u x wd (hv.gn hA.j.st.gr) hu hx hes hok)), rfl⟩)) <| c_ mv_ <| c_ ext_ <| c_ ext_ <| c_ mv_ <| c_ mv_ <| e_) (k := fun E2 ac wd h_2 => ?_)
  clear h_1
  refine then_n (wp_seq (wp_seq ?_))
  refine rf_ h_2 [[0],[0,1],[0,1,2],r_ 4,r_ 5,r_ 6,r_ 7,r_ 8,r_ 9,[0,1,2,3,4,5,6,7,9],[0,1,2,3,4,5,6,7,9,10],[0,1,2,3,4,5,6,7,9,10,11],[0,1,2,3,4,5,6,7,9,10,11,12],[0,1,2,3,4,5,6,7,9,10,11,12,13],r_ 15,r_ 16] [K_ (vI 10), K_ bT, K_ bT, K_ undef, K_ undef, K_ undef, K_ bT, K_ bT, K_ undef, K_ undef, K_ undef, K_ undef, K_ undef, K_ undef, K_ undef, K_ bT] (fun E3 => [(1, vI day), (2, vI sec), (3, vP (pb E1 0) 0), (6, bF), (7, .pointer none), (30, bT)]) (hs := c_ mv_ <| c_ (bi0 (vI 10) (vI 0)) <| c_ mv_ <| c_ off_ <| c_ off_ <| c_ off_ <| c_ (pk0 bT bT undef) <| c_ mv_ <| c_ off_ <| c_ off_ <| c_ off_ <| c_ off_ <| c_ off_ <| c_ off_ <| c_ off_ <| c_ (pk0 bT bT undef) <| e_) (k := fun E3 ac wd h_3 => ?_)
  clear h_2
  refine then_n ?_
  refine wp_cond_true (eval_tmp (h_3.g (t := 30) rfl)) ?_
  refine wp_seq ?_
  refine rf_ h_3 [[0],[0,1]] [K_ bT, K_ bT] (fun E4 => [(1, vI day), (2, vI sec), (3, vP (pb E1 0) 0), (6, bT), (7, .pointer none)]) (hs := c_ (cl_ Try.func51 (h := fun env => ⟨_, answers13_any, rfl⟩)) <| c_ mv_ <| e_) (k := fun E4 ac wd h_4 => ?_)
  clear h_3
  refine then_n (wp_ret (then_ret ?_))
  have s6 := h_4.g (t := 6) rfl
  refine leave (v := .bool true) h_4.df (by simp [results, Try.results18, go_sem, Array.getD_eq_getD_getElem?, s6]) ?_
  exact ⟨rfl, h_4.st.below⟩
  obtain ⟨hp, hn0, _⟩ := okT_pre hok
  refine rf_ h_1 [[0],[0,1],[0,1,2],r_ 4,[0,1,2,4],[0,1,2,3,5],r_ 7] [K_ (.agg #[vI u, vI x, .slice A0 es.length c0]), KE_ fun env => vT2 (vP (ptrB (tp (env 1) 0)) 0) (vI 0), KE_ fun env => vT2 (vP (ptrB (tp (env 1) 0)) 0) (vI 0), KE_ fun env => vP (ptrB (tp (env 1) 0)) 0, K_ (vI 0), KE_ fun env => vP (ptrB (tp (env 1) 0)) 0, K_ (vI 0)] (fun E2 => [(1, vI day), (2, vI sec), (3, vP (pb E1 0) 0), (6, bF), (7, vP (ptrB (tp (E2 1) 0)) 0), (8, vI 0)]) (F := [(1, fun env w => NewL w (env 1) u x es w0.heap.size)]) (L1 := fun E2 => [fun w => NewL w (E2 1) u x es w0.heap.size]) (hs := c_ (ld_ 0 (hrd := by exact rd24 rfl rfl rfl)) <| c_ (s_factT rfl rfl rfl Try.func20 (by kernel_rfl) rfl (fun _ => wanted_none rfl _) (fun v w => NewL w v u x es w0.heap.size) newLF rfl rfl leT rfl (fun v w h => h.form) (fun v w w' hk h => h.keep hk) (fun {D env ac wd} hA => ⟨_, hA.args (vs := [.agg #[vI u, vI x, .slice A0 es.length c0]]) rfl, lnew_yes hA.j.st.gr.size (hv.gn hA.j.st.gr) hu hx hes hok⟩)) <| c_ mv_ <| c_ ext_ <| c_ ext_ <| c_ mv_ <| c_ mv_ <| e_) (k := fun E2 ac wd h_2 => ?_)
  clear h_1
  refine then_n (wp_seq (wp_seq ?_))
  replace h_2 := Cur.exInF h_2 0 rfl; generalize ptrB (tp (E2 1) 0) = g at h_2
  cases hin : wthn day (-1099511627776) 1099511627776
  refine rf_ h_2 [[0],[0,1],[0,1,2],r_ 4,r_ 5,r_ 6,r_ 7,r_ 8,r_ 9,[0,1,2,3,4,5,6,7,9],[0,1,2,3,4,5,6,7,9,10],[0,1,2,3,4,5,6,7,9,10,11],[0,1,2,3,4,5,6,7,9,10,11,12],[0,1,2,3,4,5,6,7,9,10,11,12,13],r_ 15,r_ 16] [K_ (vI 0), K_ bF, K_ bF, K_ (vI day), K_ bF, K_ bT, K_ bT, K_ bT, K_ undef, K_ undef, K_ undef, K_ undef, K_ undef, K_ undef, K_ undef, K_ bT] (fun E3 => [(1, vI day), (2, vI sec), (3, vP (pb E1 0) 0), (6, bF), (7, vP g 0), (30, bT)]) (hs := c_ mv_ <| c_ (bi0 (vI 0) (vI 0) (h := by intro env w; (first | (simp [go_sem]; done) | (simp [go_sem]; rfl)))) <| c_ mv_ <| c_ (gm0 (vI day)) <| c_ (cl_ Try.func55 (h := fun env => ⟨_, ((uin5_any day).eq (congrArg Value.bool hin)), rfl⟩)) <| c_ (un0 bF) <| c_ (pk0 bF bT bT) <| c_ mv_ <| c_ off_ <| c_ off_ <| c_ off_ <| c_ off_ <| c_ off_ <| c_ off_ <| c_ off_ <| c_ (pk0 bT bT undef) <| e_) (k := fun E3 ac wd h_3 => ?_)
  clear h_2
  refine then_n ?_
  refine wp_cond_true (eval_tmp (h_3.g (t := 30) rfl)) ?_
  refine wp_seq ?_
  refine rf_ h_3 [[0],[0,1]] [K_ bT, K_ bT] (fun E4 => [(1, vI day), (2, vI sec), (3, vP (pb E1 0) 0), (6, bT), (7, vP g 0)]) (hs := c_ (cl_ Try.func51 (h := fun env => ⟨_, answers13_any, rfl⟩)) <| c_ mv_ <| e_) (k := fun E4 ac wd h_4 => ?_)
  clear h_3
  refine then_n (wp_ret (then_ret ?_))
  have s6 := h_4.g (t := 6) rfl
  refine leave (v := .bool true) h_4.df (by simp [results, Try.results18, go_sem, Array.getD_eq_getD_getElem?, s6]) ?_
  exact ⟨rfl, h_4.st.below⟩
  by_cases hd : day < day0 es
  have hb0 := okPre_num hp (i := 0) hn0
  refine rf_ h_2 [[0],[0,1],[0,1,2],r_ 4,r_ 5,r_ 6,r_ 7,r_ 8,r_ 9,[0,1,2,3,4,5,6,7,9],[0,1,2,3,4,5,6,7,9,10],[0,1,2,3,4,5,6,7,9,10,11],[0,1,2,3,4,5,6,7,9,10,11,12],[0,1,2,3,4,5,6,7,9,10,11,12,13],r_ 15,r_ 16] [K_ (vI 0), K_ bF, K_ bF, K_ (vI day), K_ bT, K_ bF, K_ bF, K_ bF, K_ (vI day), K_ (vP (pb E1 0) 2), K_ (.slice A0 es.length c0), K_ (elt (.slice A0 es.length c0) (0 * 2)), K_ (.agg #[vI ((es.getD 0 (0, 0)).1), vI ((es.getD 0 (0, 0)).2)]), K_ (vI (day0 es)), K_ bT, K_ bT] (fun E3 => [(1, vI day), (2, vI sec), (3, vP (pb E1 0) 0), (6, bF), (7, vP g 0), (30, bT)]) (hs := c_ mv_ <| c_ (bi0 (vI 0) (vI 0) (h := by intro env w; (first | (simp [go_sem]; done) | (simp [go_sem]; rfl)))) <| c_ mv_ <| c_ (gm0 (vI day)) <| c_ (cl_ Try.func55 (h := fun env => ⟨_, ((uin5_any day).eq (congrArg Value.bool hin)), rfl⟩)) <| c_ (un0 bT) <| c_ (pk0 bF bT bF) <| c_ mv_ <| c_ (gm0 (vI day)) <| c_ (fa0 (vP (pb E1 0) 0)) <| c_ (ld_ 0 (hrd := by exact rd22 rfl)) <| c_ (ia_ Try.underlying22 sz43 0 (0 * 2) 0 (fun _ env _ wd hA => (hv.gn hA.j.st.gr).els) (rfl) (hn0) rfl) <| c_ (le_ (0 * 2) (fun _ env _ wd hA => (hv.gn hA.j.st.gr).els) (by omega) (le43 (by exact enC_0 es 0) (by exact enC_1 es 0))) <| c_ (cl_ Try.func31 (h := fun env => ⟨_, (Ret.eq (rday_any (es.getD 0 (0, 0)).1 (es.getD 0 (0, 0)).2 hb0.1 hb0.2.1) (u_day0 es)), rfl⟩)) <| c_ (bi0 (vI day) (vI (day0 es))) <| c_ (pk0 bF bT bT) <| e_) (k := fun E3 ac wd h_3 => ?_)
  clear h_2
  refine then_n ?_
  refine wp_cond_true (eval_tmp (h_3.g (t := 30) rfl)) ?_
  refine wp_seq ?_
  refine rf_ h_3 [[0],[0,1]] [K_ bT, K_ bT] (fun E4 => [(1, vI day), (2, vI sec), (3, vP (pb E1 0) 0), (6, bT), (7, vP g 0)]) (hs := c_ (cl_ Try.func51 (h := fun env => ⟨_, answers13_any, rfl⟩)) <| c_ mv_ <| e_) (k := fun E4 ac wd h_4 => ?_)
  clear h_3
  refine then_n (wp_ret (then_ret ?_))
  have s6 := h_4.g (t := 6) rfl
  refine leave (v := .bool true) h_4.df (by simp [results, Try.results18, go_sem, Array.getD_eq_getD_getElem?, s6]) ?_
  exact ⟨rfl, h_4.st.below⟩
  have hb0 := okPre_num hp (i := 0) hn0; obtain ⟨g0, g1⟩ := chgV_bd hp day
  refine rf_ h_2 [[0],[0,1],[0,1,2],r_ 4,r_ 5,r_ 6,r_ 7,r_ 8,r_ 9,[0,1,2,3,4,5,6,7,9],[0,1,2,3,4,5,6,7,9,10],[0,1,2,3,4,5,6,7,9,10,11],[0,1,2,3,4,5,6,7,9,10,11,12],[0,1,2,3,4,5,6,7,9,10,11,12,13],r_ 15,r_ 16] [K_ (vI 0), K_ bF, K_ bF, K_ (vI day), K_ bT, K_ bF, K_ bF, K_ bF, K_ (vI day), K_ (vP (pb E1 0) 2), K_ (.slice A0 es.length c0), K_ (elt (.slice A0 es.length c0) (0 * 2)), K_ (.agg #[vI ((es.getD 0 (0, 0)).1), vI ((es.getD 0 (0, 0)).2)]), K_ (vI (day0 es)), K_ bF, K_ bF] (fun E3 => [(1, vI day), (2, vI sec), (3, vP (pb E1 0) 0), (6, bF), (7, vP g 0), (30, bF)]) (hs := c_ mv_ <| c_ (bi0 (vI 0) (vI 0) (h := by intro env w; (first | (simp [go_sem]; done) | (simp [go_sem]; rfl)))) <| c_ mv_ <| c_ (gm0 (vI day)) <| c_ (cl_ Try.func55 (h := fun env => ⟨_, ((uin5_any day).eq (congrArg Value.bool hin)), rfl⟩)) <| c_ (un0 bT) <| c_ (pk0 bF bT bF) <| c_ mv_ <| c_ (gm0 (vI day)) <| c_ (fa0 (vP (pb E1 0) 0)) <| c_ (ld_ 0 (hrd := by exact rd22 rfl)) <| c_ (ia_ Try.underlying22 sz43 0 (0 * 2) 0 (fun _ env _ wd hA => (hv.gn hA.j.st.gr).els) (rfl) (hn0) rfl) <| c_ (le_ (0 * 2) (fun _ env _ wd hA => (hv.gn hA.j.st.gr).els) (by omega) (le43 (by exact enC_0 es 0) (by exact enC_1 es 0))) <| c_ (cl_ Try.func31 (h := fun env => ⟨_, (Ret.eq (rday_any (es.getD 0 (0, 0)).1 (es.getD 0 (0, 0)).2 hb0.1 hb0.2.1) (u_day0 es)), rfl⟩)) <| c_ (bi0 (vI day) (vI (day0 es))) <| c_ (pk0 bF bT bF) <| e_) (k := fun E3 ac wd h_3 => ?_)
  clear h_2
  refine then_n ?_
  refine wp_cond_false (eval_tmp (h_3.g (t := 30) rfl)) ?_
  refine wp_skip (then_n (wp_seq ?_))
  by_cases hs : sec < 0
  have e0 : Value.bool (whyU es day sec 0 == 0) = .bool false := sec_ex hp hin hd (by omega) (by omega) (by simp; try omega); have e9 : Value.bool (whyU es day sec 999999999999999999 == 0) = .bool false := sec_ex hp hin hd (by omega) (by omega) (by simp; try omega)
  refine rf_ h_3 [[0],[0,1],[0,1,2],r_ 4,r_ 5,r_ 6,r_ 7,r_ 8,r_ 9,r_ 10,r_ 11,[0,1,2,3,4,5,6,7,8,9,11],r_ 13,r_ 14,r_ 15,r_ 16,r_ 17,r_ 18,r_ 19,r_ 20,r_ 21,[0,1,2,3,4,5,6,7,8,9,10,11,12,13,14,15,16,17,18,19,21],r_ 23,r_ 24,r_ 25,r_ 26,r_ 27] [K_ (vI sec), K_ bF, K_ bF, K_ undef, K_ undef, K_ bF, K_ bF, K_ (vI sec), K_ bF, K_ bF, K_ undef, K_ undef, K_ undef, K_ undef, K_ bF, K_ bF, K_ bF, K_ (vI sec), K_ bF, K_ bF, K_ undef, K_ undef, K_ undef, K_ undef, K_ bF, K_ bF, K_ bF] (fun E4 => [(1, vI day), (2, vI sec), (6, bF), (7, vP g 0), (9, bF)]) (hs := c_ mv_ <| c_ (bi0 (vI sec) (vI 0)) <| c_ mv_ <| c_ off_ <| c_ off_ <| c_ (pk0 bF undef bF) <| c_ mv_ <| c_ (gm0 (vI sec)) <| c_ (bi0 (vI sec) (vI 86399)) <| c_ (gm0 bF) <| c_ off_ <| c_ off_ <| c_ off_ <| c_ off_ <| c_ (pk0 bF undef bF) <| c_ (pk0 bF bT bF) <| c_ mv_ <| c_ (gm0 (vI sec)) <| c_ (bi0 (vI sec) (vI 86400)) <| c_ (gm0 bF) <| c_ off_ <| c_ off_ <| c_ off_ <| c_ off_ <| c_ (pk0 bF undef bF) <| c_ (pk0 bF bT bF) <| c_ mv_ <| e_) (k := fun E4 ac wd h_4 => ?_)
  clear h_3
  refine then_n (wp_seq ?_)
  refine rf_ h_4 [[0],[0,1],[0,1,2],[0,1,3],[0,1,4],[0,1,3,4,5],r_ 7,[0,1,7],r_ 9,r_ 10,r_ 11,r_ 12,[0,1,2,3,4,5,6,7,8,9,10,12],[0,1,2,3,4,5,6,7,8,9,10,13],[0,1,2,3,4,5,6,7,8,9,10,12,13,14],r_ 16,[0,1,2,3,4,5,6,7,8,9,10,16],r_ 18,r_ 19,r_ 20] [K_ bT, K_ bT, K_ (vP g 0), K_ (vI day), K_ (vI sec), K_ (vL day sec 0), K_ bF, K_ bF, K_ bT, K_ bT, K_ bT, K_ (vP g 0), K_ (vI day), K_ (vI sec), K_ (vL day sec 999999999999999999), K_ bF, K_ bF, K_ bT, K_ bT, K_ bT] (fun E5 => [(6, bT)]) (hs := c_ (cl_ Try.func51 (h := fun env => ⟨_, answers13_any, rfl⟩)) <| c_ mv_ <| c_ (gm0 (vP g 0)) <| c_ (gm0 (vI day)) <| c_ (gm0 (vI sec)) <| c_ (bd0 ([vI day, vI sec])) <| c_ (s_leap (g := g) (u := u) (x := x) (es := es) Try.func54 (fun _ h => h) (fun _ h => h) (h := fun D env ac wd hA hL => ⟨_, LeapC.eq (uexists_l _ g u x es hL day sec 0) e0, rfl⟩)) <| c_ (gm0 bF) <| c_ (bi0 bF bF) <| c_ (pk0 bT bT bF) <| c_ mv_ <| c_ (gm0 (vP g 0)) <| c_ (gm0 (vI day)) <| c_ (gm0 (vI sec)) <| c_ (bd0 ([vI day, vI sec, vI 999999999999999999])) <| c_ (s_leap (g := g) (u := u) (x := x) (es := es) Try.func54 (fun _ h => h) (fun _ h => h) (h := fun D env ac wd hA hL => ⟨_, LeapC.eq (uexists_l _ g u x es hL day sec 999999999999999999) e9, rfl⟩)) <| c_ (gm0 bF) <| c_ (bi0 bF bF) <| c_ (pk0 bT bT bF) <| c_ mv_ <| e_) (k := fun E5 ac wd h_5 => ?_)
  clear h_4
  refine then_n (wp_ret ?_)
  have s6 := h_5.g (t := 6) rfl
  refine leave (v := .bool true) h_5.df (by simp [results, Try.results18, go_sem, Array.getD_eq_getD_getElem?, s6]) ?_
  exact ⟨rfl, h_5.st.below⟩
  by_cases hs1 : sec < 86399
  have e0 : Value.bool (whyU es day sec 0 == 0) = .bool true := sec_ex hp hin hd (by omega) (by omega) (by simp; try omega); have e9 : Value.bool (whyU es day sec 999999999999999999 == 0) = .bool true := sec_ex hp hin hd (by omega) (by omega) (by simp; try omega)
  refine rf_ h_3 [[0],[0,1],[0,1,2],r_ 4,r_ 5,r_ 6,r_ 7,r_ 8,r_ 9,r_ 10,r_ 11,[0,1,2,3,4,5,6,7,8,9,11],r_ 13,r_ 14,r_ 15,r_ 16,r_ 17,r_ 18,r_ 19,r_ 20,r_ 21,[0,1,2,3,4,5,6,7,8,9,10,11,12,13,14,15,16,17,18,19,21],r_ 23,r_ 24,r_ 25,r_ 26,r_ 27] [K_ (vI sec), K_ bT, K_ bT, K_ (vI sec), K_ bT, K_ bT, K_ bT, K_ undef, K_ undef, K_ undef, K_ undef, K_ undef, K_ undef, K_ undef, K_ undef, K_ bT, K_ bT, K_ undef, K_ undef, K_ undef, K_ undef, K_ undef, K_ undef, K_ undef, K_ undef, K_ bT, K_ bT] (fun E4 => [(1, vI day), (2, vI sec), (6, bF), (7, vP g 0), (9, bT)]) (hs := c_ mv_ <| c_ (bi0 (vI sec) (vI 0)) <| c_ mv_ <| c_ (gm0 (vI sec)) <| c_ (bi0 (vI sec) (vI 86399)) <| c_ (pk0 bT bT bF) <| c_ mv_ <| c_ off_ <| c_ off_ <| c_ off_ <| c_ off_ <| c_ off_ <| c_ off_ <| c_ off_ <| c_ off_ <| c_ (pk0 bT bT undef) <| c_ mv_ <| c_ off_ <| c_ off_ <| c_ off_ <| c_ off_ <| c_ off_ <| c_ off_ <| c_ off_ <| c_ off_ <| c_ (pk0 bT bT undef) <| c_ mv_ <| e_) (k := fun E4 ac wd h_4 => ?_)
  clear h_3
  refine then_n (wp_seq ?_)
  refine rf_ h_4 [[0],[0,1],[0,1,2],[0,1,3],[0,1,4],[0,1,3,4,5],r_ 7,[0,1,7],r_ 9,r_ 10,r_ 11,r_ 12,[0,1,2,3,4,5,6,7,8,9,10,12],[0,1,2,3,4,5,6,7,8,9,10,13],[0,1,2,3,4,5,6,7,8,9,10,12,13,14],r_ 16,[0,1,2,3,4,5,6,7,8,9,10,16],r_ 18,r_ 19,r_ 20] [K_ bT, K_ bT, K_ (vP g 0), K_ (vI day), K_ (vI sec), K_ (vL day sec 0), K_ bT, K_ bT, K_ bT, K_ bT, K_ bT, K_ (vP g 0), K_ (vI day), K_ (vI sec), K_ (vL day sec 999999999999999999), K_ bT, K_ bT, K_ bT, K_ bT, K_ bT] (fun E5 => [(6, bT)]) (hs := c_ (cl_ Try.func51 (h := fun env => ⟨_, answers13_any, rfl⟩)) <| c_ mv_ <| c_ (gm0 (vP g 0)) <| c_ (gm0 (vI day)) <| c_ (gm0 (vI sec)) <| c_ (bd0 ([vI day, vI sec])) <| c_ (s_leap (g := g) (u := u) (x := x) (es := es) Try.func54 (fun _ h => h) (fun _ h => h) (h := fun D env ac wd hA hL => ⟨_, LeapC.eq (uexists_l _ g u x es hL day sec 0) e0, rfl⟩)) <| c_ (gm0 bT) <| c_ (bi0 bT bT) <| c_ (pk0 bT bT bF) <| c_ mv_ <| c_ (gm0 (vP g 0)) <| c_ (gm0 (vI day)) <| c_ (gm0 (vI sec)) <| c_ (bd0 ([vI day, vI sec, vI 999999999999999999])) <| c_ (s_leap (g := g) (u := u) (x := x) (es := es) Try.func54 (fun _ h => h) (fun _ h => h) (h := fun D env ac wd hA hL => ⟨_, LeapC.eq (uexists_l _ g u x es hL day sec 999999999999999999) e9, rfl⟩)) <| c_ (gm0 bT) <| c_ (bi0 bT bT) <| c_ (pk0 bT bT bF) <| c_ mv_ <| e_) (k := fun E5 ac wd h_5 => ?_)
  clear h_4
  refine then_n (wp_ret ?_)
  have s6 := h_5.g (t := 6) rfl
  refine leave (v := .bool true) h_5.df (by simp [results, Try.results18, go_sem, Array.getD_eq_getD_getElem?, s6]) ?_
  exact ⟨rfl, h_5.st.below⟩
  by_cases hs2 : sec = 86399
  by_cases hg : 0 ≤ chgV es day
  have e0 : Value.bool (whyU es day sec 0 == 0) = .bool true := sec_ex hp hin hd (by omega) (by omega) (by simp; try omega); have e9 : Value.bool (whyU es day sec 999999999999999999 == 0) = .bool true := sec_ex hp hin hd (by omega) (by omega) (by simp; try omega)
  refine rf_ h_3 [[0],[0,1],[0,1,2],r_ 4,r_ 5,r_ 6,r_ 7,r_ 8,r_ 9,r_ 10,r_ 11,[0,1,2,3,4,5,6,7,8,9,11],r_ 13,r_ 14,r_ 15,r_ 16,r_ 17,r_ 18,r_ 19,r_ 20,r_ 21,[0,1,2,3,4,5,6,7,8,9,10,11,12,13,14,15,16,17,18,19,21],r_ 23,r_ 24,r_ 25,r_ 26,r_ 27] [K_ (vI sec), K_ bT, K_ bT, K_ (vI sec), K_ bF, K_ bF, K_ bF, K_ (vI sec), K_ bT, K_ bT, K_ (.agg #[vI u, vI x, .slice A0 es.length c0]), K_ (vI day), K_ (vI (chgV es day)), K_ bT, K_ bT, K_ bT, K_ bT, K_ undef, K_ undef, K_ undef, K_ undef, K_ undef, K_ undef, K_ undef, K_ undef, K_ bT, K_ bT] (fun E4 => [(1, vI day), (2, vI sec), (6, bF), (7, vP g 0), (9, bT)]) (hs := c_ mv_ <| c_ (bi0 (vI sec) (vI 0)) <| c_ mv_ <| c_ (gm0 (vI sec)) <| c_ (bi0 (vI sec) (vI 86399)) <| c_ (pk0 bT bF bF) <| c_ mv_ <| c_ (gm0 (vI sec)) <| c_ (bi0 (vI sec) (vI 86399)) <| c_ (gm0 bT) <| c_ (ld_ 0 (hrd := by exact rd24 rfl rfl rfl)) <| c_ (gm0 (vI day)) <| c_ (cw_ Try.func26 (h := fun _ env _ wd hA => ⟨_, (rchange_any _ es u x day wd (hv.gn hA.j.st.gr) hp), rfl⟩)) <| c_ (bi0 (vI (chgV es day)) (vI 0)) <| c_ (pk0 bT bT bF) <| c_ (pk0 bF bT bT) <| c_ mv_ <| c_ off_ <| c_ off_ <| c_ off_ <| c_ off_ <| c_ off_ <| c_ off_ <| c_ off_ <| c_ off_ <| c_ (pk0 bT bT undef) <| c_ mv_ <| e_) (k := fun E4 ac wd h_4 => ?_)
  clear h_3
  refine then_n (wp_seq ?_)
  refine rf_ h_4 [[0],[0,1],[0,1,2],[0,1,3],[0,1,4],[0,1,3,4,5],r_ 7,[0,1,7],r_ 9,r_ 10,r_ 11,r_ 12,[0,1,2,3,4,5,6,7,8,9,10,12],[0,1,2,3,4,5,6,7,8,9,10,13],[0,1,2,3,4,5,6,7,8,9,10,12,13,14],r_ 16,[0,1,2,3,4,5,6,7,8,9,10,16],r_ 18,r_ 19,r_ 20] [K_ bT, K_ bT, K_ (vP g 0), K_ (vI day), K_ (vI sec), K_ (vL day sec 0), K_ bT, K_ bT, K_ bT, K_ bT, K_ bT, K_ (vP g 0), K_ (vI day), K_ (vI sec), K_ (vL day sec 999999999999999999), K_ bT, K_ bT, K_ bT, K_ bT, K_ bT] (fun E5 => [(6, bT)]) (hs := c_ (cl_ Try.func51 (h := fun env => ⟨_, answers13_any, rfl⟩)) <| c_ mv_ <| c_ (gm0 (vP g 0)) <| c_ (gm0 (vI day)) <| c_ (gm0 (vI sec)) <| c_ (bd0 ([vI day, vI sec])) <| c_ (s_leap (g := g) (u := u) (x := x) (es := es) Try.func54 (fun _ h => h) (fun _ h => h) (h := fun D env ac wd hA hL => ⟨_, LeapC.eq (uexists_l _ g u x es hL day sec 0) e0, rfl⟩)) <| c_ (gm0 bT) <| c_ (bi0 bT bT) <| c_ (pk0 bT bT bF) <| c_ mv_ <| c_ (gm0 (vP g 0)) <| c_ (gm0 (vI day)) <| c_ (gm0 (vI sec)) <| c_ (bd0 ([vI day, vI sec, vI 999999999999999999])) <| c_ (s_leap (g := g) (u := u) (x := x) (es := es) Try.func54 (fun _ h => h) (fun _ h => h) (h := fun D env ac wd hA hL => ⟨_, LeapC.eq (uexists_l _ g u x es hL day sec 999999999999999999) e9, rfl⟩)) <| c_ (gm0 bT) <| c_ (bi0 bT bT) <| c_ (pk0 bT bT bF) <| c_ mv_ <| e_) (k := fun E5 ac wd h_5 => ?_)
  clear h_4
  refine then_n (wp_ret ?_)
  have s6 := h_5.g (t := 6) rfl
  refine leave (v := .bool true) h_5.df (by simp [results, Try.results18, go_sem, Array.getD_eq_getD_getElem?, s6]) ?_
  exact ⟨rfl, h_5.st.below⟩
  have e0 : Value.bool (whyU es day sec 0 == 0) = .bool false := sec_ex hp hin hd (by omega) (by omega) (by simp; try omega); have e9 : Value.bool (whyU es day sec 999999999999999999 == 0) = .bool false := sec_ex hp hin hd (by omega) (by omega) (by simp; try omega)
  refine rf_ h_3 [[0],[0,1],[0,1,2],r_ 4,r_ 5,r_ 6,r_ 7,r_ 8,r_ 9,r_ 10,r_ 11,[0,1,2,3,4,5,6,7,8,9,11],r_ 13,r_ 14,r_ 15,r_ 16,r_ 17,r_ 18,r_ 19,r_ 20,r_ 21,[0,1,2,3,4,5,6,7,8,9,10,11,12,13,14,15,16,17,18,19,21],r_ 23,r_ 24,r_ 25,r_ 26,r_ 27] [K_ (vI sec), K_ bT, K_ bT, K_ (vI sec), K_ bF, K_ bF, K_ bF, K_ (vI sec), K_ bT, K_ bT, K_ (.agg #[vI u, vI x, .slice A0 es.length c0]), K_ (vI day), K_ (vI (chgV es day)), K_ bF, K_ bF, K_ bF, K_ bF, K_ (vI sec), K_ bF, K_ bF, K_ undef, K_ undef, K_ undef, K_ undef, K_ bF, K_ bF, K_ bF] (fun E4 => [(1, vI day), (2, vI sec), (6, bF), (7, vP g 0), (9, bF)]) (hs := c_ mv_ <| c_ (bi0 (vI sec) (vI 0)) <| c_ mv_ <| c_ (gm0 (vI sec)) <| c_ (bi0 (vI sec) (vI 86399)) <| c_ (pk0 bT bF bF) <| c_ mv_ <| c_ (gm0 (vI sec)) <| c_ (bi0 (vI sec) (vI 86399)) <| c_ (gm0 bT) <| c_ (ld_ 0 (hrd := by exact rd24 rfl rfl rfl)) <| c_ (gm0 (vI day)) <| c_ (cw_ Try.func26 (h := fun _ env _ wd hA => ⟨_, (rchange_any _ es u x day wd (hv.gn hA.j.st.gr) hp), rfl⟩)) <| c_ (bi0 (vI (chgV es day)) (vI 0)) <| c_ (pk0 bT bF bF) <| c_ (pk0 bF bT bF) <| c_ mv_ <| c_ (gm0 (vI sec)) <| c_ (bi0 (vI sec) (vI 86400)) <| c_ (gm0 bF) <| c_ off_ <| c_ off_ <| c_ off_ <| c_ off_ <| c_ (pk0 bF undef bF) <| c_ (pk0 bF bT bF) <| c_ mv_ <| e_) (k := fun E4 ac wd h_4 => ?_)
  clear h_3
  refine then_n (wp_seq ?_)
  refine rf_ h_4 [[0],[0,1],[0,1,2],[0,1,3],[0,1,4],[0,1,3,4,5],r_ 7,[0,1,7],r_ 9,r_ 10,r_ 11,r_ 12,[0,1,2,3,4,5,6,7,8,9,10,12],[0,1,2,3,4,5,6,7,8,9,10,13],[0,1,2,3,4,5,6,7,8,9,10,12,13,14],r_ 16,[0,1,2,3,4,5,6,7,8,9,10,16],r_ 18,r_ 19,r_ 20] [K_ bT, K_ bT, K_ (vP g 0), K_ (vI day), K_ (vI sec), K_ (vL day sec 0), K_ bF, K_ bF, K_ bT, K_ bT, K_ bT, K_ (vP g 0), K_ (vI day), K_ (vI sec), K_ (vL day sec 999999999999999999), K_ bF, K_ bF, K_ bT, K_ bT, K_ bT] (fun E5 => [(6, bT)]) (hs := c_ (cl_ Try.func51 (h := fun env => ⟨_, answers13_any, rfl⟩)) <| c_ mv_ <| c_ (gm0 (vP g 0)) <| c_ (gm0 (vI day)) <| c_ (gm0 (vI sec)) <| c_ (bd0 ([vI day, vI sec])) <| c_ (s_leap (g := g) (u := u) (x := x) (es := es) Try.func54 (fun _ h => h) (fun _ h => h) (h := fun D env ac wd hA hL => ⟨_, LeapC.eq (uexists_l _ g u x es hL day sec 0) e0, rfl⟩)) <| c_ (gm0 bF) <| c_ (bi0 bF bF) <| c_ (pk0 bT bT bF) <| c_ mv_ <| c_ (gm0 (vP g 0)) <| c_ (gm0 (vI day)) <| c_ (gm0 (vI sec)) <| c_ (bd0 ([vI day, vI sec, vI 999999999999999999])) <| c_ (s_leap (g := g) (u := u) (x := x) (es := es) Try.func54 (fun _ h => h) (fun _ h => h) (h := fun D env ac wd hA hL => ⟨_, LeapC.eq (uexists_l _ g u x es hL day sec 999999999999999999) e9, rfl⟩)) <| c_ (gm0 bF) <| c_ (bi0 bF bF) <| c_ (pk0 bT bT bF) <| c_ mv_ <| e_) (k := fun E5 ac wd h_5 => ?_)
  clear h_4
  refine then_n (wp_ret ?_)
  have s6 := h_5.g (t := 6) rfl
  refine leave (v := .bool true) h_5.df (by simp [results, Try.results18, go_sem, Array.getD_eq_getD_getElem?, s6]) ?_
  exact ⟨rfl, h_5.st.below⟩
  by_cases hs3 : sec = 86400
  by_cases hg : 0 < chgV es day
  have e0 : Value.bool (whyU es day sec 0 == 0) = .bool true := sec_ex hp hin hd (by omega) (by omega) (by simp; try omega); have e9 : Value.bool (whyU es day sec 999999999999999999 == 0) = .bool true := sec_ex hp hin hd (by omega) (by omega) (by simp; try omega)
  refine rf_ h_3 [[0],[0,1],[0,1,2],r_ 4,r_ 5,r_ 6,r_ 7,r_ 8,r_ 9,r_ 10,r_ 11,[0,1,2,3,4,5,6,7,8,9,11],r_ 13,r_ 14,r_ 15,r_ 16,r_ 17,r_ 18,r_ 19,r_ 20,r_ 21,[0,1,2,3,4,5,6,7,8,9,10,11,12,13,14,15,16,17,18,19,21],r_ 23,r_ 24,r_ 25,r_ 26,r_ 27] [K_ (vI sec), K_ bT, K_ bT, K_ (vI sec), K_ bF, K_ bF, K_ bF, K_ (vI sec), K_ bF, K_ bF, K_ undef, K_ undef, K_ undef, K_ undef, K_ bF, K_ bF, K_ bF, K_ (vI sec), K_ bT, K_ bT, K_ (.agg #[vI u, vI x, .slice A0 es.length c0]), K_ (vI day), K_ (vI (chgV es day)), K_ bT, K_ bT, K_ bT, K_ bT] (fun E4 => [(1, vI day), (2, vI sec), (6, bF), (7, vP g 0), (9, bT)]) (hs := c_ mv_ <| c_ (bi0 (vI sec) (vI 0)) <| c_ mv_ <| c_ (gm0 (vI sec)) <| c_ (bi0 (vI sec) (vI 86399)) <| c_ (pk0 bT bF bF) <| c_ mv_ <| c_ (gm0 (vI sec)) <| c_ (bi0 (vI sec) (vI 86399)) <| c_ (gm0 bF) <| c_ off_ <| c_ off_ <| c_ off_ <| c_ off_ <| c_ (pk0 bF undef bF) <| c_ (pk0 bF bT bF) <| c_ mv_ <| c_ (gm0 (vI sec)) <| c_ (bi0 (vI sec) (vI 86400)) <| c_ (gm0 bT) <| c_ (ld_ 0 (hrd := by exact rd24 rfl rfl rfl)) <| c_ (gm0 (vI day)) <| c_ (cw_ Try.func26 (h := fun _ env _ wd hA => ⟨_, (rchange_any _ es u x day wd (hv.gn hA.j.st.gr) hp), rfl⟩)) <| c_ (bi0 (vI (chgV es day)) (vI 0)) <| c_ (pk0 bT bT bF) <| c_ (pk0 bF bT bT) <| c_ mv_ <| e_) (k := fun E4 ac wd h_4 => ?_)
  clear h_3
  refine then_n (wp_seq ?_)
  refine rf_ h_4 [[0],[0,1],[0,1,2],[0,1,3],[0,1,4],[0,1,3,4,5],r_ 7,[0,1,7],r_ 9,r_ 10,r_ 11,r_ 12,[0,1,2,3,4,5,6,7,8,9,10,12],[0,1,2,3,4,5,6,7,8,9,10,13],[0,1,2,3,4,5,6,7,8,9,10,12,13,14],r_ 16,[0,1,2,3,4,5,6,7,8,9,10,16],r_ 18,r_ 19,r_ 20] [K_ bT, K_ bT, K_ (vP g 0), K_ (vI day), K_ (vI sec), K_ (vL day sec 0), K_ bT, K_ bT, K_ bT, K_ bT, K_ bT, K_ (vP g 0), K_ (vI day), K_ (vI sec), K_ (vL day sec 999999999999999999), K_ bT, K_ bT, K_ bT, K_ bT, K_ bT] (fun E5 => [(6, bT)]) (hs := c_ (cl_ Try.func51 (h := fun env => ⟨_, answers13_any, rfl⟩)) <| c_ mv_ <| c_ (gm0 (vP g 0)) <| c_ (gm0 (vI day)) <| c_ (gm0 (vI sec)) <| c_ (bd0 ([vI day, vI sec])) <| c_ (s_leap (g := g) (u := u) (x := x) (es := es) Try.func54 (fun _ h => h) (fun _ h => h) (h := fun D env ac wd hA hL => ⟨_, LeapC.eq (uexists_l _ g u x es hL day sec 0) e0, rfl⟩)) <| c_ (gm0 bT) <| c_ (bi0 bT bT) <| c_ (pk0 bT bT bF) <| c_ mv_ <| c_ (gm0 (vP g 0)) <| c_ (gm0 (vI day)) <| c_ (gm0 (vI sec)) <| c_ (bd0 ([vI day, vI sec, vI 999999999999999999])) <| c_ (s_leap (g := g) (u := u) (x := x) (es := es) Try.func54 (fun _ h => h) (fun _ h => h) (h := fun D env ac wd hA hL => ⟨_, LeapC.eq (uexists_l _ g u x es hL day sec 999999999999999999) e9, rfl⟩)) <| c_ (gm0 bT) <| c_ (bi0 bT bT) <| c_ (pk0 bT bT bF) <| c_ mv_ <| e_) (k := fun E5 ac wd h_5 => ?_)
  clear h_4
  refine then_n (wp_ret ?_)
  have s6 := h_5.g (t := 6) rfl
  refine leave (v := .bool true) h_5.df (by simp [results, Try.results18, go_sem, Array.getD_eq_getD_getElem?, s6]) ?_
  exact ⟨rfl, h_5.st.below⟩
  have e0 : Value.bool (whyU es day sec 0 == 0) = .bool false := sec_ex hp hin hd (by omega) (by omega) (by simp; try omega); have e9 : Value.bool (whyU es day sec 999999999999999999 == 0) = .bool false := sec_ex hp hin hd (by omega) (by omega) (by simp; try omega)
  refine rf_ h_3 [[0],[0,1],[0,1,2],r_ 4,r_ 5,r_ 6,r_ 7,r_ 8,r_ 9,r_ 10,r_ 11,[0,1,2,3,4,5,6,7,8,9,11],r_ 13,r_ 14,r_ 15,r_ 16,r_ 17,r_ 18,r_ 19,r_ 20,r_ 21,[0,1,2,3,4,5,6,7,8,9,10,11,12,13,14,15,16,17,18,19,21],r_ 23,r_ 24,r_ 25,r_ 26,r_ 27] [K_ (vI sec), K_ bT, K_ bT, K_ (vI sec), K_ bF, K_ bF, K_ bF, K_ (vI sec), K_ bF, K_ bF, K_ undef, K_ undef, K_ undef, K_ undef, K_ bF, K_ bF, K_ bF, K_ (vI sec), K_ bT, K_ bT, K_ (.agg #[vI u, vI x, .slice A0 es.length c0]), K_ (vI day), K_ (vI (chgV es day)), K_ bF, K_ bF, K_ bF, K_ bF] (fun E4 => [(1, vI day), (2, vI sec), (6, bF), (7, vP g 0), (9, bF)]) (hs := c_ mv_ <| c_ (bi0 (vI sec) (vI 0)) <| c_ mv_ <| c_ (gm0 (vI sec)) <| c_ (bi0 (vI sec) (vI 86399)) <| c_ (pk0 bT bF bF) <| c_ mv_ <| c_ (gm0 (vI sec)) <| c_ (bi0 (vI sec) (vI 86399)) <| c_ (gm0 bF) <| c_ off_ <| c_ off_ <| c_ off_ <| c_ off_ <| c_ (pk0 bF undef bF) <| c_ (pk0 bF bT bF) <| c_ mv_ <| c_ (gm0 (vI sec)) <| c_ (bi0 (vI sec) (vI 86400)) <| c_ (gm0 bT) <| c_ (ld_ 0 (hrd := by exact rd24 rfl rfl rfl)) <| c_ (gm0 (vI day)) <| c_ (cw_ Try.func26 (h := fun _ env _ wd hA => ⟨_, (rchange_any _ es u x day wd (hv.gn hA.j.st.gr) hp), rfl⟩)) <| c_ (bi0 (vI (chgV es day)) (vI 0)) <| c_ (pk0 bT bF bF) <| c_ (pk0 bF bT bF) <| c_ mv_ <| e_) (k := fun E4 ac wd h_4 => ?_)
  clear h_3
  refine then_n (wp_seq ?_)
  refine rf_ h_4 [[0],[0,1],[0,1,2],[0,1,3],[0,1,4],[0,1,3,4,5],r_ 7,[0,1,7],r_ 9,r_ 10,r_ 11,r_ 12,[0,1,2,3,4,5,6,7,8,9,10,12],[0,1,2,3,4,5,6,7,8,9,10,13],[0,1,2,3,4,5,6,7,8,9,10,12,13,14],r_ 16,[0,1,2,3,4,5,6,7,8,9,10,16],r_ 18,r_ 19,r_ 20] [K_ bT, K_ bT, K_ (vP g 0), K_ (vI day), K_ (vI sec), K_ (vL day sec 0), K_ bF, K_ bF, K_ bT, K_ bT, K_ bT, K_ (vP g 0), K_ (vI day), K_ (vI sec), K_ (vL day sec 999999999999999999), K_ bF, K_ bF, K_ bT, K_ bT, K_ bT] (fun E5 => [(6, bT)]) (hs := c_ (cl_ Try.func51 (h := fun env => ⟨_, answers13_any, rfl⟩)) <| c_ mv_ <| c_ (gm0 (vP g 0)) <| c_ (gm0 (vI day)) <| c_ (gm0 (vI sec)) <| c_ (bd0 ([vI day, vI sec])) <| c_ (s_leap (g := g) (u := u) (x := x) (es := es) Try.func54 (fun _ h => h) (fun _ h => h) (h := fun D env ac wd hA hL => ⟨_, LeapC.eq (uexists_l _ g u x es hL day sec 0) e0, rfl⟩)) <| c_ (gm0 bF) <| c_ (bi0 bF bF) <| c_ (pk0 bT bT bF) <| c_ mv_ <| c_ (gm0 (vP g 0)) <| c_ (gm0 (vI day)) <| c_ (gm0 (vI sec)) <| c_ (bd0 ([vI day, vI sec, vI 999999999999999999])) <| c_ (s_leap (g := g) (u := u) (x := x) (es := es) Try.func54 (fun _ h => h) (fun _ h => h) (h := fun D env ac wd hA hL => ⟨_, LeapC.eq (uexists_l _ g u x es hL day sec 999999999999999999) e9, rfl⟩)) <| c_ (gm0 bF) <| c_ (bi0 bF bF) <| c_ (pk0 bT bT bF) <| c_ mv_ <| e_) (k := fun E5 ac wd h_5 => ?_)
  clear h_4
  refine then_n (wp_ret ?_)
  have s6 := h_5.g (t := 6) rfl
  refine leave (v := .bool true) h_5.df (by simp [results, Try.results18, go_sem, Array.getD_eq_getD_getElem?, s6]) ?_
  exact ⟨rfl, h_5.st.below⟩
  have e0 : Value.bool (whyU es day sec 0 == 0) = .bool false := sec_ex hp hin hd (by omega) (by omega) (by simp; try omega); have e9 : Value.bool (whyU es day sec 999999999999999999 == 0) = .bool false := sec_ex hp hin hd (by omega) (by omega) (by simp; try omega)
  refine rf_ h_3 [[0],[0,1],[0,1,2],r_ 4,r_ 5,r_ 6,r_ 7,r_ 8,r_ 9,r_ 10,r_ 11,[0,1,2,3,4,5,6,7,8,9,11],r_ 13,r_ 14,r_ 15,r_ 16,r_ 17,r_ 18,r_ 19,r_ 20,r_ 21,[0,1,2,3,4,5,6,7,8,9,10,11,12,13,14,15,16,17,18,19,21],r_ 23,r_ 24,r_ 25,r_ 26,r_ 27] [K_ (vI sec), K_ bT, K_ bT, K_ (vI sec), K_ bF, K_ bF, K_ bF, K_ (vI sec), K_ bF, K_ bF, K_ undef, K_ undef, K_ undef, K_ undef, K_ bF, K_ bF, K_ bF, K_ (vI sec), K_ bF, K_ bF, K_ undef, K_ undef, K_ undef, K_ undef, K_ bF, K_ bF, K_ bF] (fun E4 => [(1, vI day), (2, vI sec), (6, bF), (7, vP g 0), (9, bF)]) (hs := c_ mv_ <| c_ (bi0 (vI sec) (vI 0)) <| c_ mv_ <| c_ (gm0 (vI sec)) <| c_ (bi0 (vI sec) (vI 86399)) <| c_ (pk0 bT bF bF) <| c_ mv_ <| c_ (gm0 (vI sec)) <| c_ (bi0 (vI sec) (vI 86399)) <| c_ (gm0 bF) <| c_ off_ <| c_ off_ <| c_ off_ <| c_ off_ <| c_ (pk0 bF undef bF) <| c_ (pk0 bF bT bF) <| c_ mv_ <| c_ (gm0 (vI sec)) <| c_ (bi0 (vI sec) (vI 86400)) <| c_ (gm0 bF) <| c_ off_ <| c_ off_ <| c_ off_ <| c_ off_ <| c_ (pk0 bF undef bF) <| c_ (pk0 bF bT bF) <| c_ mv_ <| e_) (k := fun E4 ac wd h_4 => ?_)
  clear h_3
  refine then_n (wp_seq ?_)
  refine rf_ h_4 [[0],[0,1],[0,1,2],[0,1,3],[0,1,4],[0,1,3,4,5],r_ 7,[0,1,7],r_ 9,r_ 10,r_ 11,r_ 12,[0,1,2,3,4,5,6,7,8,9,10,12],[0,1,2,3,4,5,6,7,8,9,10,13],[0,1,2,3,4,5,6,7,8,9,10,12,13,14],r_ 16,[0,1,2,3,4,5,6,7,8,9,10,16],r_ 18,r_ 19,r_ 20] [K_ bT, K_ bT, K_ (vP g 0), K_ (vI day), K_ (vI sec), K_ (vL day sec 0), K_ bF, K_ bF, K_ bT, K_ bT, K_ bT, K_ (vP g 0), K_ (vI day), K_ (vI sec), K_ (vL day sec 999999999999999999), K_ bF, K_ bF, K_ bT, K_ bT, K_ bT] (fun E5 => [(6, bT)]) (hs := c_ (cl_ Try.func51 (h := fun env => ⟨_, answers13_any, rfl⟩)) <| c_ mv_ <| c_ (gm0 (vP g 0)) <| c_ (gm0 (vI day)) <| c_ (gm0 (vI sec)) <| c_ (bd0 ([vI day, vI sec])) <| c_ (s_leap (g := g) (u := u) (x := x) (es := es) Try.func54 (fun _ h => h) (fun _ h => h) (h := fun D env ac wd hA hL => ⟨_, LeapC.eq (uexists_l _ g u x es hL day sec 0) e0, rfl⟩)) <| c_ (gm0 bF) <| c_ (bi0 bF bF) <| c_ (pk0 bT bT bF) <| c_ mv_ <| c_ (gm0 (vP g 0)) <| c_ (gm0 (vI day)) <| c_ (gm0 (vI sec)) <| c_ (bd0 ([vI day, vI sec, vI 999999999999999999])) <| c_ (s_leap (g := g) (u := u) (x := x) (es := es) Try.func54 (fun _ h => h) (fun _ h => h) (h := fun D env ac wd hA hL => ⟨_, LeapC.eq (uexists_l _ g u x es hL day sec 999999999999999999) e9, rfl⟩)) <| c_ (gm0 bF) <| c_ (bi0 bF bF) <| c_ (pk0 bT bT bF) <| c_ mv_ <| e_) (k := fun E5 ac wd h_5 => ?_)
  clear h_4
  refine then_n (wp_ret ?_)
  have s6 := h_5.g (t := 6) rfl
  refine leave (v := .bool true) h_5.df (by simp [results, Try.results18, go_sem, Array.getD_eq_getD_getElem?, s6]) ?_
  exact ⟨rfl, h_5.st.below⟩
theorem utcSeconds_walk (v : Value) (es : List (Int × Int)) (u x : Int) (day sec : Int) (w0 : World) (hv : Ents w0 w0.heap.size v es) (hu : I64 u) (hx : I64 x) (hes : ∀ i, I64 (es.getD i (0, 0)).1 ∧ I64 (es.getD i (0, 0)).2) : Calls Try.prog 18 #[.agg #[vI u, vI x, v], vI day, vI sec] w0 fun e w' => e = .returned (.bool true) ∧ Below w0.heap.size w0 w' := by
  have hv0 := hv
  obtain ⟨A, c, rfl, _⟩ := hv
  exact utcSeconds_core w0 A c es u x day sec hv0 hu hx hes
end Go.Proofs.Ytdbhgeihphjgeaa
