/- Texts L16, U1, Q8, U2, E1, E2, E3, E4, F1, Q9, U3, P16, F9, U4, P17, U5, GUTais, GULabels, R5 of one proof, one behind the other. -/
import Derived.Test.YtibdhpffdkiggaaGreatL13
import Derived.Test.YtibdhpffdkiggaaGreatM3
import Derived.Test.YtibdhpffdkiggaaGreatD7
import Derived.Test.YtibdhpffdkiggaaGreatC14
import Derived.Test.YtibdhpffdkiggaaGreatC15
import Derived.IntWalk
import Derived.Test.YtibdhpffdkiggaaGreatF7
import Derived.Test.YtibdhpffdkiggaaGreatF8
import Derived.Test.YtibdhpffdkiggaaGreatL10
import Derived.Test.YtibdhpffdkiggaaGreatP14
import Derived.Test.YtibdhpffdkiggaaGreatR1
/- Leap seconds as the state of a walk: one block that calls may write. Own work. -/
namespace Go.Proofs.YtibdhpffdkiggaaGreat
open Go.RowKit
set_option linter.unusedVariables false
set_option linter.unusedSimpArgs false
/-- the types of the blocks of leap seconds -/
abbrev leT : List TypeId := [70, 72, 101]
/-- leap seconds, asked however often -/
def IsLx (w : World) (g : Nat) (u x : Int) (es : List (Int × Int)) : Prop := ∃ q, IsL w g u x es q
theorem ownsRow_keep {w w' : World} {B : Nat} {T : TypeId} {k n : Nat} {v : Value} {cs : List Value} (h : w.ownsRow B T k v n cs) (hk : ∀ (b : Nat) (cur : Array Value), w.heap[b]? = some (Obj.cells cur T (0, 0)) → w'.heap[b]? = w.heap[b]?) : w'.ownsRow B T k v n cs := by
  refine ⟨h.1, ?_⟩
  rcases h.2 with h2 | ⟨g, cap, cur, rfl, hB, hh, r⟩
  · exact .inl h2
  · exact .inr ⟨g, cap, cur, rfl, hB, by rw [hk g cur hh]; exact hh, r⟩
theorem IsL.keepT {w w' : World} {g : Nat} {u x q : Int} {es : List (Int × Int)} (h : IsL w g u x es q) (hg : w'.heap[g]? = w.heap[g]?) (hk : KeepT leT (some g) w w') : IsL w' g u x es q := by
  obtain ⟨hok, ge, d, mv, hne, hb, he, hm⟩ := h
  unfold Blk at hb he
  refine ⟨hok, ge, d, mv, hne, by unfold Blk; rw [hg]; exact hb, by unfold Blk; rw [hk ge _ _ _ he rfl (by simp; exact hne)]; exact he, ?_⟩
  rcases hm with hm | ⟨hd, hm⟩
  · exact .inl hm
  · refine .inr ⟨hd, ownsRow_keep hm (fun b cur hb' => hk b _ _ _ hb' rfl (fun e => ?_))⟩
    obtain rfl := Option.some.inj e
    rw [hb] at hb'
    simp at hb'
theorem IsLx.keepT {w w' : World} {g : Nat} {u x : Int} {es : List (Int × Int)} (h : IsLx w g u x es) (hg : w'.heap[g]? = w.heap[g]?) (hk : KeepT leT (some g) w w') : IsLx w' g u x es := by
  obtain ⟨q, h⟩ := h
  exact ⟨q, h.keepT hg hk⟩
theorem IsLx.lt {w : World} {g : Nat} {u x : Int} {es : List (Int × Int)} (h : IsLx w g u x es) : g < w.heap.size := by
  obtain ⟨q, _, _, _, _, _, hg, _⟩ := h; exact hg.lt
/-- a walk begins with leap seconds at g -/
theorem St.startL (w : World) {g : Nat} {u x : Int} {es : List (Int × Int)} (h : IsLx w g u x es) : St w (some g) (some g) w (mem []) (fun _ => True) (fun w => IsLx w g u x es) :=
  ⟨⟨rfl, rfl, rfl, Nat.le_refl _, fun _ _ _ => rfl⟩, fun m m' e e' h => (by simp [mem] at h), fun m e h => (by simp [mem] at h), fun k hk => (by obtain rfl := Option.some.inj hk; exact ⟨h.lt, fun m e hm => by simp [mem] at hm, .inr rfl⟩), fun _ _ => trivial, fun w' ha => h.keepT (ha.2 g h.lt (fun m e hm => by simp [mem] at hm) (by simp)) (fun b cur T fz hb _ _ => ha.2 b (lt_of_some hb) (fun m e hm => by simp [mem] at hm) (by simp))⟩
section
variable {R : Reg} {Q : Exit → Act → World → Prop} {i : Nat} {o : Oper} {P : Program}
/-- what a question to leap seconds gives: the answer; they are as they were -/
def LeapC (P : Program) (f : FuncId) (vs : List Value) (w : World) (g : Nat) (u x : Int) (es : List (Int × Int)) (v : Value) : Prop := Calls P f vs.toArray w fun e w' => e = .returned v ∧ IsLx w' g u x es ∧ w.grownBy w' (some g)
theorem s_leap {V : Env → Value} {f : FuncId} {fn : Func} {ps : Array Operand} {ts : Array TypeId} (hfn : P.funcs[f]? = some fn) {g : Nat} {u x : Int} {es : List (Int × Int)} (hΘ : ∀ w, R.Θ w → IsLx w g u x es) (hΘ' : ∀ w, IsLx w g u x es → R.Θ w) (ho : R.ops[i]? = some o := by rfl) (hf : free' R i = true := by rfl) (hop : o.op = .call { callee := .value (.func f), args := ps, argTypes := ts } := by rfl) (hname : (fn.name == "runtime.NumGoroutine") = false := by kernel_rfl) (hb : fn.body.isSome = true := by rfl) (hV : R.v? i = some V := by rfl)
    (hw : ∀ D env a w, At R i D env a w → Region.wanted o (yielded R.ops a.tmps) = true := by intro D env a w hA; first | exact wanted_none rfl _ | exact hA.gy rfl rfl rfl) (hx : R.ex = some g := by rfl) (hth : R.th = none := by rfl) (hT : tFree leT R = true := by rfl) (hn : noF R i = true := by rfl) (hr : ∀ env x, V (restr (R.cl.getD i []) (upd env i x)) = V env := by intros; rfl)
    (h : ∀ D env a w, At R i D env a w → IsLx w g u x es → ∃ vs : List Value, LeapC P f vs w g u x es (V env) ∧ ps.toList.map (opAt R i env) = vs.map some) : SR P Q R i :=
  s_callx ho hf hop hfn hname hb (fun {D env a w} hA => by
    have hL : IsLx w g u x es := hΘ w (by have := hA.j.st.nowT; unfold Reg.tht at this; rw [hth] at this; exact this)
    obtain ⟨vs, h1, h2⟩ := h D env a w hA hL
    refine ⟨hw _ _ _ _ hA, vs.toArray, hA.args h2, h1.mono ?_⟩
    rintro e w' ⟨rfl, hL', hg⟩
    refine ⟨_, rfl, ?_, fun w'' _ => f_val hA.ok ho hV hn hr _ w''⟩
    refine hA.j.st.callg hx hg (fun w'' ha => ?_)
    have hst' := hA.j.st.callg hx hg (Θ' := fun _ => True) (fun _ _ => trivial)
    unfold Reg.tht
    rw [hth]
    refine hΘ' w'' (hL'.keepT ?_ ?_)
    · obtain ⟨k1, k2, _⟩ := hst'.exb g hx
      exact ha.2 g k1 (fun m e hm => k2 m e hm) (by simp)
    · have := apart_keepT (Ts := leT) hT hst' (.inr rfl) ha
      rw [hx] at this
      exact this)
/-- a call that yields a number in new memory, beside a state's block -/
theorem cg_ {f : FuncId} {fn : Func} {ps : Array Operand} {ts : Array TypeId} (hfn : P.funcs[f]? = some fn) (z : Int) (ho : R.ops[i]? = some o := by rfl) (hf : free' R i = true := by rfl) (hop : o.op = .call { callee := .value (.func f), args := ps, argTypes := ts } := by rfl) (hname : (fn.name == "runtime.NumGoroutine") = false := by kernel_rfl) (hb : fn.body.isSome = true := by rfl)
    (hw : ∀ D env a w, At R i D env a w → Region.wanted o (yielded R.ops a.tmps) = true := by intro D env a w hA; first | exact wanted_none rfl _ | exact hA.gy rfl rfl rfl) {g : Nat} (hx : R.ex = some g := by rfl) (hV : R.v? i = some (fun env => bigF z (env i)) := by rfl) (hF : R.F.filter (fun p => Nat.beq p.1 i) = [(i, fun env w => BigX (some g) w (env i) z)] := by rfl) (hint : intFree R = true := by rfl)
    (h : ∀ D env a w, At R i D env a w → ∃ vs : List Value, (Calls P f vs.toArray w fun e w' => ∃ v, e = .returned v ∧ Below w.heap.size w w' ∧ BigN w.heap.size w' v z) ∧ ps.toList.map (opAt R i env) = vs.map some) : SR P Q R i :=
  cf_ hfn (fun v w => BigX (some g) w v z) (bigF z) ho hf hop hname hb hw hV hF hint (fun v w h => h.form) (fun v w w' hk h => by rw [hx] at hk; exact h.keep hk) (fun D env a w hA => by
    obtain ⟨vs, h1, h2⟩ := h D env a w hA
    exact ⟨vs, toG (hA.j.st.exb g hx).1 h1, h2⟩)
end
/-- a new table's leap seconds -/
def NewL (w : World) (v : Value) (u x : Int) (es : List (Int × Int)) (B : Nat) : Prop := v = .tuple #[vP (ptrB (tp v 0)) 0, vI 0] ∧ IsLx w (ptrB (tp v 0)) u x es ∧ B ≤ ptrB (tp v 0)
/-- from here on they are the state -/
theorem Cur.exInL {n : Nat} {w0 : World} {Θ : World → Prop} {L : Slots} {M : List Ent} {a : Act} {w : World} {v : Value} {u x : Int} {es : List (Int × Int)} (h : Cur n w0 none none (Facts [fun w => NewL w v u x es w0.heap.size]) Θ L M a w) : Cur n w0 none (some (ptrB (tp v 0))) (Facts []) (fun w => IsLx w (ptrB (tp v 0)) u x es) L M a w := by
  have hN := fun w' (ha : Apart (mem M) none w w') => (show NewL w' v u x es w0.heap.size from (h.st.psi w' ha).get 0 rfl)
  have h0 := hN w (Apart.refl _ _ _)
  refine ⟨h.sz, h.df, ⟨h.st.gr, h.st.nod, h.st.own, fun g' hg' => ?_, fun _ _ φ hφ => (by cases hφ), fun w' ha => (hN w' ha).2.1⟩, h.sl⟩
  obtain rfl := Option.some.inj hg'
  refine ⟨h0.2.1.lt, fun m e hm he => ?_, .inl h0.2.2⟩
  -- a variable of the call's own lies elsewhere: else turning it would turn the leap seconds
  have hlt := h0.2.1.lt
  have h3 := (hN { w with heap := w.heap.setIfInBounds (ptrB (tp v 0)) (.map #[] 0) } ⟨by simp, fun k hk hM _ => by
    show (w.heap.setIfInBounds _ _)[k]? = _
    rw [Array.getElem?_setIfInBounds_ne (fun e' => hM m e hm (by rw [he, e']))]⟩).2.1
  obtain ⟨q, _, ge, d, mv, _, hb, _⟩ := h3
  unfold Blk at hb
  rw [show ({ w with heap := w.heap.setIfInBounds (ptrB (tp v 0)) (.map #[] 0) } : World).heap = w.heap.setIfInBounds (ptrB (tp v 0)) (.map #[] 0) from rfl, Array.getElem?_setIfInBounds_self_of_lt hlt] at hb
  cases hb
end Go.Proofs.YtibdhpffdkiggaaGreat
/- utc: form, in, count, floor (printed by my walk.py) -/
namespace Go.Proofs.YtibdhpffdkiggaaGreat
open Go.RowKit
set_option linter.unusedVariables false
set_option linter.unusedSimpArgs false
attribute [local go_sem] vN bT bF rS vW vM vL vT2 vT3 vP vI execOp Act.eval evC bigF vB hi_zero lo_zero Tryz.underlying26 Tryz.underlying34

set_option maxRecDepth 100000 in
set_option maxHeartbeats 8000000 in
theorem uform_any (d s x : Int) : Ret 43 #[vL d s x] (.bool (formB s x)) := by
  intro w0
  have hst := St.start w0 (Θ := fun _ => True) (fun _ _ => trivial)
  refine enter Tryz.func43 rfl (n := 21) rfl (Nat.le_of_ble_eq_true rfl) hst (L := [(0, vL d s x)]) (lk_args rfl) (fun ac h => ?_)
  refine wp_seq ?_
  refine rg_ h [[0],[1]] [KE_ fun env => vP (pb env 0) 0, K_ bF] (fun E1 => [(1, vP (pb E1 0) 0), (2, bF)]) (W := [{ i := 0, T := 26, c0 := [vI d, vI s, vI x] }]) (M' := fun E1 => [((pb E1 0), 26, [vI d, vI s, vI x])]) (hs := c_ (bx0 0 (vL d s x)) <| c_ mv_ <| e_) (k := fun E1 ac wd h_1 => ?_)
  clear h
  refine then_n (wp_seq ?_)
  by_cases h0 : 0 ≤ s
  by_cases h1 : s ≤ 86400
  by_cases h2 : 0 ≤ x
  refine rg_ h_1 (tri 19) [K_ (vP (pb E1 0) 1), K_ (vI s), K_ bT, K_ bT, K_ (vP (pb E1 0) 1), K_ (vI s), K_ bT, K_ bT, K_ bT, K_ (vP (pb E1 0) 2), K_ (vI x), K_ bT, K_ bT, K_ bT, K_ (vP (pb E1 0) 2), K_ (vI x), K_ (.bool (decide (x < 1000000000000000000))), K_ (.bool (decide (x < 1000000000000000000))), K_ (.bool (decide (x < 1000000000000000000)))] (fun E2 => [(2, .bool (decide (x < 1000000000000000000)))]) (hs := c_ (fa0 (vP (pb E1 0) 0)) <| c_ (ld_ 0 (hrd := by exact rd3 rfl)) <| c_ (bi0 (vI s) (vI 0) (h := by intro env w; simp [go_sem, h0])) <| c_ mv_ <| c_ (fa0 (vP (pb E1 0) 0)) <| c_ (ld_ 0 (hrd := by exact rd3 rfl)) <| c_ (bi0 (vI s) (vI 86400) (h := by intro env w; simp [go_sem, h1])) <| c_ (pk0 bT bT bF (h := by intro env w; simp [go_sem, h1])) <| c_ mv_ <| c_ (fa0 (vP (pb E1 0) 0)) <| c_ (ld_ 0 (hrd := by exact rd3 rfl)) <| c_ (bi0 (vI x) (vI 0) (h := by intro env w; simp [go_sem, h2])) <| c_ (pk0 bT bT bF (h := by intro env w; simp [go_sem, h2])) <| c_ mv_ <| c_ (fa0 (vP (pb E1 0) 0)) <| c_ (ld_ 0 (hrd := by exact rd3 rfl)) <| c_ (bi0 (vI x) (vI 1000000000000000000)) <| c_ (pk0 bT (.bool (decide (x < 1000000000000000000))) bF) <| c_ mv_ <| e_) (k := fun E2 ac wd h_2 => ?_)
  clear h_1
  refine then_n (wp_ret ?_)
  have s2 := h_2.g (t := 2) rfl
  refine leave (v := .bool (decide (x < 1000000000000000000))) h_2.df (by simp [results, Tryz.results43, go_sem, Array.getD_eq_getD_getElem?, s2]) ?_
  have e : formB s x = decide (x < 1000000000000000000) := by have e0 := decide_eq_true h0; have e1 := decide_eq_true h1; have e2 := decide_eq_true h2; unfold formB wthn; rw [e0, e1, e2]; simp only [Bool.true_and]; exact decide_eq_decide.2 (by omega)
  exact ⟨by rw [e], h_2.st.below⟩
  refine rg_ h_1 (tri 19) [K_ (vP (pb E1 0) 1), K_ (vI s), K_ bT, K_ bT, K_ (vP (pb E1 0) 1), K_ (vI s), K_ bT, K_ bT, K_ bT, K_ (vP (pb E1 0) 2), K_ (vI x), K_ bF, K_ bF, K_ bF, K_ undef, K_ undef, K_ undef, K_ bF, K_ bF] (fun E2 => [(2, bF)]) (hs := c_ (fa0 (vP (pb E1 0) 0)) <| c_ (ld_ 0 (hrd := by exact rd3 rfl)) <| c_ (bi0 (vI s) (vI 0) (h := by intro env w; simp [go_sem, h0])) <| c_ mv_ <| c_ (fa0 (vP (pb E1 0) 0)) <| c_ (ld_ 0 (hrd := by exact rd3 rfl)) <| c_ (bi0 (vI s) (vI 86400) (h := by intro env w; simp [go_sem, h1])) <| c_ (pk0 bT bT bF (h := by intro env w; simp [go_sem, h1])) <| c_ mv_ <| c_ (fa0 (vP (pb E1 0) 0)) <| c_ (ld_ 0 (hrd := by exact rd3 rfl)) <| c_ (bi0 (vI x) (vI 0) (h := by intro env w; simp [go_sem, h2])) <| c_ (pk0 bT bF bF (h := by intro env w; simp [go_sem, h2])) <| c_ mv_ <| c_ off_ <| c_ off_ <| c_ off_ <| c_ (pk0 bF undef bF) <| c_ mv_ <| e_) (k := fun E2 ac wd h_2 => ?_)
  clear h_1
  refine then_n (wp_ret ?_)
  have s2 := h_2.g (t := 2) rfl
  refine leave (v := .bool false) h_2.df (by simp [results, Tryz.results43, go_sem, Array.getD_eq_getD_getElem?, s2]) ?_
  have e : formB s x = false := by simp [formB, wthn]; omega
  exact ⟨by rw [e], h_2.st.below⟩
  refine rg_ h_1 (tri 19) [K_ (vP (pb E1 0) 1), K_ (vI s), K_ bT, K_ bT, K_ (vP (pb E1 0) 1), K_ (vI s), K_ bF, K_ bF, K_ bF, K_ undef, K_ undef, K_ undef, K_ bF, K_ bF, K_ undef, K_ undef, K_ undef, K_ bF, K_ bF] (fun E2 => [(2, bF)]) (hs := c_ (fa0 (vP (pb E1 0) 0)) <| c_ (ld_ 0 (hrd := by exact rd3 rfl)) <| c_ (bi0 (vI s) (vI 0) (h := by intro env w; simp [go_sem, h0])) <| c_ mv_ <| c_ (fa0 (vP (pb E1 0) 0)) <| c_ (ld_ 0 (hrd := by exact rd3 rfl)) <| c_ (bi0 (vI s) (vI 86400) (h := by intro env w; simp [go_sem, h1])) <| c_ (pk0 bT bF bF (h := by intro env w; simp [go_sem, h1])) <| c_ mv_ <| c_ off_ <| c_ off_ <| c_ off_ <| c_ (pk0 bF undef bF) <| c_ mv_ <| c_ off_ <| c_ off_ <| c_ off_ <| c_ (pk0 bF undef bF) <| c_ mv_ <| e_) (k := fun E2 ac wd h_2 => ?_)
  clear h_1
  refine then_n (wp_ret ?_)
  have s2 := h_2.g (t := 2) rfl
  refine leave (v := .bool false) h_2.df (by simp [results, Tryz.results43, go_sem, Array.getD_eq_getD_getElem?, s2]) ?_
  have e : formB s x = false := by simp [formB, wthn]; omega
  exact ⟨by rw [e], h_2.st.below⟩
  refine rg_ h_1 (tri 19) [K_ (vP (pb E1 0) 1), K_ (vI s), K_ bF, K_ bF, K_ undef, K_ undef, K_ undef, K_ bF, K_ bF, K_ undef, K_ undef, K_ undef, K_ bF, K_ bF, K_ undef, K_ undef, K_ undef, K_ bF, K_ bF] (fun E2 => [(2, bF)]) (hs := c_ (fa0 (vP (pb E1 0) 0)) <| c_ (ld_ 0 (hrd := by exact rd3 rfl)) <| c_ (bi0 (vI s) (vI 0) (h := by intro env w; simp [go_sem, h0])) <| c_ mv_ <| c_ off_ <| c_ off_ <| c_ off_ <| c_ (pk0 bF undef bF) <| c_ mv_ <| c_ off_ <| c_ off_ <| c_ off_ <| c_ (pk0 bF undef bF) <| c_ mv_ <| c_ off_ <| c_ off_ <| c_ off_ <| c_ (pk0 bF undef bF) <| c_ mv_ <| e_) (k := fun E2 ac wd h_2 => ?_)
  clear h_1
  refine then_n (wp_ret ?_)
  have s2 := h_2.g (t := 2) rfl
  refine leave (v := .bool false) h_2.df (by simp [results, Tryz.results43, go_sem, Array.getD_eq_getD_getElem?, s2]) ?_
  have e : formB s x = false := by simp [formB, wthn]; omega
  exact ⟨by rw [e], h_2.st.below⟩
set_option maxRecDepth 100000 in
set_option maxHeartbeats 8000000 in
theorem uin_any (n : Int) : Ret 36 #[vI n] (.bool (wthn n (-1099511627776) 1099511627776)) := by
  intro w0
  have hst := St.start w0 (Θ := fun _ => True) (fun _ _ => trivial)
  refine enter Tryz.func36 rfl (n := 9) rfl (Nat.le_of_ble_eq_true rfl) hst (L := [(0, vI n)]) (lk_args rfl) (fun ac h => ?_)
  refine wp_seq ?_
  refine rg_ h [[0]] [K_ bF] (fun E1 => [(0, vI n), (2, bF)]) (hs := c_ mv_ <| e_) (k := fun E1 ac wd h_1 => ?_)
  clear h
  refine then_n (wp_seq ?_)
  by_cases h : -1099511627776 ≤ n
  refine rg_ h_1 (tri 7) [K_ (vI n), K_ bT, K_ bT, K_ (vI n), K_ (.bool (decide (n ≤ 1099511627776))), K_ (.bool (decide (n ≤ 1099511627776))), K_ (.bool (decide (n ≤ 1099511627776)))] (fun E2 => [(2, .bool (decide (n ≤ 1099511627776)))]) (hs := c_ mv_ <| c_ (bi0 (vI n) (vI (-1099511627776)) (h := by intro env w; simp [go_sem, h])) <| c_ mv_ <| c_ (gm0 (vI n)) <| c_ (bi0 (vI n) (vI 1099511627776)) <| c_ (pk0 bT (.bool (decide (n ≤ 1099511627776))) bF) <| c_ mv_ <| e_) (k := fun E2 ac wd h_2 => ?_)
  clear h_1
  refine then_n (wp_ret ?_)
  have s2 := h_2.g (t := 2) rfl
  refine leave (v := .bool (decide (n ≤ 1099511627776))) h_2.df (by simp [results, Tryz.results36, go_sem, Array.getD_eq_getD_getElem?, s2]) ?_
  exact ⟨by simp [wthn, h], h_2.st.below⟩
  refine rg_ h_1 (tri 7) [K_ (vI n), K_ bF, K_ bF, K_ undef, K_ undef, K_ bF, K_ bF] (fun E2 => [(2, bF)]) (hs := c_ mv_ <| c_ (bi0 (vI n) (vI (-1099511627776)) (h := by intro env w; simp [go_sem, h])) <| c_ mv_ <| c_ off_ <| c_ off_ <| c_ (pk0 bF undef bF) <| c_ mv_ <| e_) (k := fun E2 ac wd h_2 => ?_)
  clear h_1
  refine then_n (wp_ret ?_)
  have s2 := h_2.g (t := 2) rfl
  refine leave (v := .bool false) h_2.df (by simp [results, Tryz.results36, go_sem, Array.getD_eq_getD_getElem?, s2]) ?_
  exact ⟨by simp [wthn, h], h_2.st.below⟩
theorem fit_tup {z : Int} (h : InW z) : vT2 (vW (fitV z)) (vI (fitE z)) = vT2 (vW z) (vI 0) := by rw [(fit_yes h).1, (fit_yes h).2]
theorem ucount_w {s x : Int} (hs : -9223372036854775808 ≤ s) (hs1 : s < 9223372036854775808) (hx : 0 ≤ x) (hx1 : x < 1000000000000000000) : InW s ∧ InW x ∧ InW (1000000000000000000 : Int) ∧ InW (s * 1000000000000000000) ∧ InW (s * 1000000000000000000 + x) := by
  refine ⟨?_, ?_, ?_, ?_, ?_⟩ <;> unfold InW <;> omega
set_option maxRecDepth 100000 in
set_option maxHeartbeats 8000000 in
theorem ucount_any (s x : Int) (hs : -9223372036854775808 ≤ s) (hs1 : s < 9223372036854775808) (hx : 0 ≤ x) (hx1 : x < 1000000000000000000) : Ret 19 #[vI s, vI x] (vW (s * 1000000000000000000 + x)) := by
  obtain ⟨q0, q1, q2, q3, q4⟩ := ucount_w hs hs1 hx hx1
  intro w0
  have hst := St.start w0 (Θ := fun _ => True) (fun _ _ => trivial)
  refine enter Tryz.func19 rfl (n := 22) rfl (Nat.le_of_ble_eq_true rfl) hst (L := [(0, vI s), (1, vI x)]) (lk_args rfl) (fun ac h => ?_)
  refine wp_seq ?_
  refine rg_ h [[0]] [KE_ fun env => vP (pb env 0) 0] (fun E1 => [(0, vI s), (1, vI x), (4, vP (pb E1 0) 0)]) (W := [{ i := 0, T := 34, c0 := [vI 0, .int .u64 0] }]) (M' := fun E1 => [((pb E1 0), 34, [vI 0, .int .u64 0])]) (hs := c_ (al_ 0) <| e_) (k := fun E1 ac wd h_1 => ?_)
  clear h
  refine then_n (wp_seq ?_)
  refine rg_ h_1 [[0],[0,1],[0,1,2],r_ 4,r_ 5,r_ 6,[0,1,2,3,4,6],[7],[0,1,2,3,4,5,7,8],r_ 10] [K_ (vI s), K_ (vW s), K_ (vW 1000000000000000000), K_ (vT2 (vW (s * 1000000000000000000)) (vI 0)), K_ (vT2 (vW (s * 1000000000000000000)) (vI 0)), K_ (vW (s * 1000000000000000000)), K_ (vI 0), KE_ fun env => vP (pb env 7) 0, none, K_ (vI 0)] (fun E2 => [(1, vI x), (4, vP (pb E1 0) 0), (5, vP (pb E2 7) 0)]) (W := [{ i := 7, T := 34, c0 := [vI 0, .int .u64 0], s := some 8, c1 := fun _ => [vI (hi (s * 1000000000000000000)), .int .u64 (lo (s * 1000000000000000000))] }]) (M' := fun E2 => [((pb E1 0), 34, [vI 0, .int .u64 0]), ((pb E2 7), 34, [vI (hi (s * 1000000000000000000)), .int .u64 (lo (s * 1000000000000000000))])]) (hs := c_ mv_ <| c_ (cl_ Tryz.func32 (h := fun env => ⟨_, (of_any s (by omega) (by omega)), rfl⟩)) <| c_ (cl_ Tryz.func32 (h := fun env => ⟨_, (of_any 1000000000000000000 (by omega) (by omega)), rfl⟩)) <| c_ (cl_ Tryz.func49 (h := fun env => ⟨_, ((wmul_any s 1000000000000000000 q0 q2).eq (fit_tup q3)), rfl⟩)) <| c_ mv_ <| c_ ext_ <| c_ ext_ <| c_ (al_ 1) <| c_ (sw_ 1 7 (hst := by exact fun _ _ _ hc => st34 rfl rfl rfl hc)) <| c_ mv_ <| e_) (k := fun E2 ac wd h_2 => ?_)
  clear h_1
  refine then_n (wp_seq ?_)
  refine rg_ h_2 [[0],[1],[1,2],r_ 4,r_ 5,r_ 6,[0,1,2,3,4,6],[0,1,2,3,4,5,7]] [K_ (vW (s * 1000000000000000000)), K_ (vI x), K_ (vW x), K_ (vT2 (vW (s * 1000000000000000000 + x)) (vI 0)), K_ (vT2 (vW (s * 1000000000000000000 + x)) (vI 0)), K_ (vW (s * 1000000000000000000 + x)), K_ (vI 0), none] (fun E3 => [(4, vP (pb E1 0) 0), (5, vP (pb E2 7) 0)]) (S := [⟨1, 7, fun _ => [vI (hi (s * 1000000000000000000 + x)), .int .u64 (lo (s * 1000000000000000000 + x))]⟩]) (M' := fun E3 => [((pb E1 0), 34, [vI 0, .int .u64 0]), ((pb E2 7), 34, [vI (hi (s * 1000000000000000000 + x)), .int .u64 (lo (s * 1000000000000000000 + x))])]) (hs := c_ (ld_ 1 (hrd := by exact rd34 rfl rfl)) <| c_ mv_ <| c_ (cl_ Tryz.func32 (h := fun env => ⟨_, (of_any x (by omega) (by omega)), rfl⟩)) <| c_ (cl_ Tryz.func50 (h := fun env => ⟨_, (Ret.eq (wadd_any (s * 1000000000000000000) x q3 q1) (fit_tup q4)), rfl⟩)) <| c_ mv_ <| c_ ext_ <| c_ ext_ <| c_ (se_ 1 (hst := by exact fun _ _ _ hc => st34 rfl rfl rfl hc)) <| e_) (k := fun E3 ac wd h_3 => ?_)
  clear h_2
  refine then_n (wp_seq ?_)
  refine rg_ h_3 [[0],[0,1]] [K_ (vW (s * 1000000000000000000 + x)), none] (fun E4 => [(4, vP (pb E1 0) 0)]) (S := [⟨0, 1, fun _ => [vI (hi (s * 1000000000000000000 + x)), .int .u64 (lo (s * 1000000000000000000 + x))]⟩]) (M' := fun E4 => [((pb E1 0), 34, [vI (hi (s * 1000000000000000000 + x)), .int .u64 (lo (s * 1000000000000000000 + x))]), ((pb E2 7), 34, [vI (hi (s * 1000000000000000000 + x)), .int .u64 (lo (s * 1000000000000000000 + x))])]) (hs := c_ (ld_ 1 (hrd := by exact rd34 rfl rfl)) <| c_ (se_ 0 (hst := by exact fun _ _ _ hc => st34 rfl rfl rfl hc)) <| e_) (k := fun E4 ac wd h_4 => ?_)
  clear h_3
  refine then_n (wp_ret ?_)
  have s4 := h_4.g (t := 4) rfl
  have hc4 := (h_4.st.own 0 _ rfl).2
  have c4_0 := own_cell (o := 0) hc4 rfl
  have c4_1 := own_cell (o := 1) hc4 rfl
  refine leave (v := vW (s * 1000000000000000000 + x)) h_4.df (by simp [results, Tryz.results19, go_sem, Array.getD_eq_getD_getElem?, s4, c4_0, c4_1, Tryz.underlying34]) ?_
  exact ⟨rfl, h_4.st.below⟩
theorem floor_dm (n : Int) : ∃ q m, n.tdiv 86400 = q ∧ n.tmod 86400 = m ∧ -86400 < m ∧ m < 86400 ∧ n = 86400 * q + m ∧ (0 ≤ n → 0 ≤ m) ∧ (n ≤ 0 → m ≤ 0) := by
  refine ⟨_, _, rfl, rfl, ?_, ?_, (Int.mul_tdiv_add_tmod n 86400).symm, fun h => Int.tmod_nonneg 86400 h, fun h => ?_⟩
  · rcases Int.le_total 0 n with h | h
    · have := Int.tmod_nonneg 86400 h; omega
    · have h1 : n = -(-n) := by omega
      rw [h1, Int.neg_tmod]
      have := Int.tmod_lt_of_pos (-n) (b := 86400) (by omega)
      omega
  · exact Int.tmod_lt_of_pos n (by omega)
  · have h1 : n = -(-n) := by omega
    rw [h1, Int.neg_tmod]
    have := Int.tmod_nonneg 86400 (a := -n) (by omega)
    omega
set_option maxRecDepth 100000 in
set_option maxHeartbeats 8000000 in
theorem ufloor_any (n : Int) (h0 : -9223372036854775808 ≤ n) (h1 : n < 9223372036854775808) : Ret 35 #[vI n, vI 86400] (vI (n / 86400)) := by
  obtain ⟨q, m, hq, hm, m0, m1, e, m2, m3⟩ := floor_dm n
  intro w0
  have hst := St.start w0 (Θ := fun _ => True) (fun _ _ => trivial)
  refine enter Tryz.func35 rfl (n := 16) rfl (Nat.le_of_ble_eq_true rfl) hst (L := [(0, vI n), (1, vI 86400)]) (lk_args rfl) (fun ac h => ?_)
  refine wp_seq ?_
  refine rg_ h [[0]] [K_ (vI 0)] (fun E1 => [(0, vI n), (1, vI 86400), (4, vI 0)]) (hs := c_ mv_ <| e_) (k := fun E1 ac wd h_1 => ?_)
  clear h
  refine then_n (wp_seq ?_)
  refine rg_ h_1 [[0],[1],[0,1,2],r_ 4] [K_ (vI n), K_ (vI 86400), K_ (vI q), K_ (vI q)] (fun E2 => [(0, vI n), (1, vI 86400), (4, vI 0), (5, vI q)]) (hs := c_ mv_ <| c_ mv_ <| c_ (bi0 (vI n) (vI 86400) (h := by intro env w; (first | (simp [go_sem, hq]; done) | (simp [go_sem, hq]; exact IntWalk.i64_in _ (by omega))))) <| c_ mv_ <| e_) (k := fun E2 ac wd h_2 => ?_)
  clear h_1
  refine then_n (wp_seq (wp_seq ?_))
  by_cases hm0 : m < 0
  refine rg_ h_2 [[0],[1],[0,1,2],r_ 4] [K_ (vI n), K_ (vI 86400), K_ (vI m), K_ bT] (fun E3 => [(4, vI 0), (5, vI q), (12, bT)]) (hs := c_ mv_ <| c_ mv_ <| c_ (bi0 (vI n) (vI 86400) (h := by intro env w; (first | (simp [go_sem, hm]; done) | (simp [go_sem, hm]; exact IntWalk.i64_in _ (by omega))))) <| c_ (bi0 (vI m) (vI 0) (h := by intro env w; simp [go_sem, hm0]; first | done | omega)) <| e_) (k := fun E3 ac wd h_3 => ?_)
  clear h_2
  refine then_n ?_
  refine wp_cond_true (eval_tmp (h_3.g (t := 12) rfl)) ?_
  refine rg_ h_3 (tri 3) [K_ (vI q), K_ (vI (q - 1)), K_ (vI (q - 1))] (fun E4 => [(4, vI 0), (5, vI (q - 1))]) (hs := c_ mv_ <| c_ (bi0 (vI q) (vI 1)) <| c_ mv_ <| e_) (k := fun E4 ac wd h_4 => ?_)
  clear h_3
  refine then_n (wp_seq ?_)
  refine rg_ h_4 [[0],[0,1]] [K_ (vI (q - 1)), K_ (vI (q - 1))] (fun E5 => [(4, vI (q - 1))]) (hs := c_ mv_ <| c_ mv_ <| e_) (k := fun E5 ac wd h_5 => ?_)
  clear h_4
  refine then_n (wp_ret ?_)
  have s4 := h_5.g (t := 4) rfl
  refine leave (v := vI (q - 1)) h_5.df (by simp [results, Tryz.results35, go_sem, Array.getD_eq_getD_getElem?, s4]) ?_
  have e : n / 86400 = q - 1 := by omega
  exact ⟨by rw [e], h_5.st.below⟩
  refine rg_ h_2 [[0],[1],[0,1,2],r_ 4] [K_ (vI n), K_ (vI 86400), K_ (vI m), K_ bF] (fun E3 => [(4, vI 0), (5, vI q), (12, bF)]) (hs := c_ mv_ <| c_ mv_ <| c_ (bi0 (vI n) (vI 86400) (h := by intro env w; (first | (simp [go_sem, hm]; done) | (simp [go_sem, hm]; exact IntWalk.i64_in _ (by omega))))) <| c_ (bi0 (vI m) (vI 0) (h := by intro env w; simp [go_sem, hm0]; first | done | omega)) <| e_) (k := fun E3 ac wd h_3 => ?_)
  clear h_2
  refine then_n ?_
  refine wp_cond_false (eval_tmp (h_3.g (t := 12) rfl)) ?_
  refine wp_skip (then_n (wp_seq ?_))
  refine rg_ h_3 [[0],[0,1]] [K_ (vI q), K_ (vI q)] (fun E4 => [(4, vI q)]) (hs := c_ mv_ <| c_ mv_ <| e_) (k := fun E4 ac wd h_4 => ?_)
  clear h_3
  refine then_n (wp_ret ?_)
  have s4 := h_4.g (t := 4) rfl
  refine leave (v := vI q) h_4.df (by simp [results, Tryz.results35, go_sem, Array.getD_eq_getD_getElem?, s4]) ?_
  have e : n / 86400 = q := by omega
  exact ⟨by rw [e], h_4.st.below⟩
end Go.Proofs.YtibdhpffdkiggaaGreat
/- Utc in plain words: what check, Tai, Label answer by leap seconds. Own work. -/
namespace Go.Proofs.YtibdhpffdkiggaaGreat
open Go.RowKit
set_option linter.unusedVariables false
set_option linter.unusedSimpArgs false
theorem Fact.neg_dec {z : Int} (h : ¬ z < 0) : ¬ hi z < 0 := fun h' => h (hi_neg.1 h')
theorem IsLx.ok {w : World} {g : Nat} {u x : Int} {es : List (Int × Int)} (h : IsLx w g u x es) : okT u x es = true := by obtain ⟨q, hok, _⟩ := h; exact hok
theorem LeapC.eq {P : Program} {f : FuncId} {vs : List Value} {w : World} {g : Nat} {u x : Int} {es : List (Int × Int)} {v v' : Value} (h : LeapC P f vs w g u x es v) (e : v = v') : LeapC P f vs w g u x es v' := e ▸ h
section
variable {w : World} {g : Nat} {u x : Int} {es : List (Int × Int)}
theorem length_l (h : IsLx w g u x es) (day : Int) : LeapC Tryz.prog 44 [vP g 0, vI day] w g u x es (vT2 (vI (lenV es day)) (vI (lenE es day))) := by
  obtain ⟨q, h⟩ := h
  exact (length_any g u x q day es w h).mono (fun e w' h => ⟨h.1, ⟨_, h.2.1⟩, h.2.2⟩)
theorem offset_l (h : IsLx w g u x es) (day : Int) : LeapC Tryz.prog 18 [vP g 0, vI day] w g u x es (vT2 (vI (offV es day)) (vI (offE es day))) := by
  obtain ⟨q, h⟩ := h
  exact (offset_any g u x q day es w h).mono (fun e w' h => ⟨h.1, ⟨_, h.2.1⟩, h.2.2⟩)
theorem at_l (h : IsLx w g u x es) (s : Int) : LeapC Tryz.prog 34 [vP g 0, vI s] w g u x es (vT3 (vI (atV es s)) (vI (atU es s)) (vI (atE es s))) := by
  obtain ⟨q, h⟩ := h
  exact (at_any g u x q s es w h).mono (fun e w' h => ⟨h.1, ⟨_, h.2.1⟩, h.2.2⟩)
end
/-- which error a label has -/
def whyU (es : List (Int × Int)) (d s a : Int) : Int := if formB s a = false then 1 else if wthn d (-1099511627776) 1099511627776 = false then 2 else if d < day0 es then 8 else if 86400 + chgV es d ≤ s then 6 else 0
/-- its instant -/
def taiU (es : List (Int × Int)) (d s a : Int) : Int := if whyU es d s a = 0 then (d * 86400 + s + offV es d) * 1000000000000000000 + a else 0
/-- an instant's label: the error, the day, the second, the attosecond -/
def labR (es : List (Int × Int)) (z s r o U : Int) : Int × Int × Int × Int :=
  if s < -9223372036854775808 ∨ 9223372036854775808 ≤ s then (if z < 0 then (8, 0, 0, 0) else (2, 0, 0, 0))
  else if cnt startOf es s = 0 then (8, 0, 0, 0)
  else if U ≤ (s - o) / 86400 then (if wthn (U - 1) (-1099511627776) 1099511627776 = true then (0, U - 1, s - o - (s - o) / 86400 * 86400 + 86400, r) else (2, 0, 0, 0))
  else if wthn ((s - o) / 86400) (-1099511627776) 1099511627776 = true then (0, (s - o) / 86400, s - o - (s - o) / 86400 * 86400, r) else (2, 0, 0, 0)
def labUt (es : List (Int × Int)) (z : Int) : Int × Int × Int × Int := labR es z (z / 1000000000000000000) (z % 1000000000000000000) (atV es (z / 1000000000000000000)) (atU es (z / 1000000000000000000))
theorem len_early {es : List (Int × Int)} {d : Int} (h : d < day0 es) : vT2 (vI (lenV es d)) (vI (lenE es d)) = vT2 (vI 0) (vI 8) := by unfold lenV lenE; rw [if_pos h, if_pos h]
theorem len_ok {es : List (Int × Int)} {d : Int} (h : ¬ d < day0 es) : vT2 (vI (lenV es d)) (vI (lenE es d)) = vT2 (vI (86400 + chgV es d)) (vI 0) := by unfold lenV lenE; rw [if_neg h, if_neg h]
theorem at_no {es : List (Int × Int)} {s : Int} (h : cnt startOf es s = 0) : vT3 (vI (atV es s)) (vI (atU es s)) (vI (atE es s)) = vT3 (vI 0) (vI 0) (vI 8) := by unfold atV atU atE; rw [if_pos h, if_pos h, if_pos h]
theorem at_yes {es : List (Int × Int)} {s o U : Int} (h : ¬ cnt startOf es s = 0) (ho : atV es s = o) (hU : atU es s = U) : vT3 (vI (atV es s)) (vI (atU es s)) (vI (atE es s)) = vT3 (vI o) (vI U) (vI 0) := by rw [ho, hU]; unfold atE; rw [if_neg h]
theorem div_eq3 {a b c d : Int} (h1 : a = c) (h2 : b = d) : vT3 (vW a) (vW b) (vI 0) = vT3 (vW c) (vW d) (vI 0) := by rw [h1, h2]
theorem whyU_ok {es : List (Int × Int)} {d s a : Int} (h : whyU es d s a = 0) : 0 ≤ s ∧ s ≤ 86400 ∧ 0 ≤ a ∧ a < 1000000000000000000 ∧ -1099511627776 ≤ d ∧ d ≤ 1099511627776 ∧ day0 es ≤ d ∧ s < 86400 + chgV es d := by
  unfold whyU at h
  split at h
  · omega
  split at h
  · omega
  split at h
  · omega
  split at h
  · omega
  rename_i h1 h2 h3 h4
  simp [formB, wthn] at h1 h2
  omega
theorem u_off_bd {es : List (Int × Int)} (h : okPre es es.length = true) (d : Int) : 0 ≤ offV es d ∧ offV es d ≤ 1000 := by
  unfold offV
  split
  · omega
  · have h1 := cnt_le dayOf es d
    have := okPre_num h (i := cnt dayOf es d - 1) (by omega)
    omega
theorem at_bd {es : List (Int × Int)} (h : okPre es es.length = true) {s : Int} (hc : ¬ cnt startOf es s = 0) : 0 ≤ atV es s ∧ atV es s ≤ 1000 ∧ 15000 ≤ atU es s ∧ atU es s ≤ 4611686018427387904 := by
  have h1 := cnt_le startOf es s
  have h2 := okPre_num h (i := cnt startOf es s - 1) (by omega)
  unfold atV atU
  rw [if_neg hc, if_neg hc]
  refine ⟨by omega, by omega, ?_⟩
  split
  · omega
  · have h3 := okPre_num h (i := cnt startOf es s) (by omega)
    unfold dayOf
    omega
end Go.Proofs.YtibdhpffdkiggaaGreat
/- utc by leap seconds: check, Exists, Tai, Label (printed by my walk.py) -/
namespace Go.Proofs.YtibdhpffdkiggaaGreat
open Go.RowKit
set_option linter.unusedVariables false
set_option linter.unusedSimpArgs false
attribute [local go_sem] vN bT bF rS vW vM vL vT2 vT3 vP vI execOp Act.eval evC bigF vB hi_zero lo_zero Tryz.underlying26 Tryz.underlying34

set_option maxRecDepth 100000 in
set_option maxHeartbeats 8000000 in
theorem ucheck_l (w0 : World) (g : Nat) (u x : Int) (es : List (Int × Int)) (hL : IsLx w0 g u x es) (d s a : Int) : LeapC Tryz.prog 17 [vP g 0, vL d s a] w0 g u x es (vI (whyU es d s a)) := by
  unfold LeapC
  have hst := St.startL w0 hL
  refine enter Tryz.func17 rfl (n := 35) rfl (Nat.le_of_ble_eq_true rfl) hst (L := [(0, vP g 0), (1, vL d s a)]) (lk_args rfl) (fun ac h => ?_)
  refine wp_seq ?_
  refine rg_ h [[0],[1]] [KE_ fun env => vP (pb env 0) 0, K_ (vI 0)] (fun E1 => [(0, vP g 0), (3, vP (pb E1 0) 0), (4, vI 0)]) (W := [{ i := 0, T := 26, c0 := [vI d, vI s, vI a] }]) (M' := fun E1 => [((pb E1 0), 26, [vI d, vI s, vI a])]) (hs := c_ (bx0 0 (vL d s a)) <| c_ mv_ <| e_) (k := fun E1 ac wd h_1 => ?_)
  clear h
  refine then_n (wp_seq (wp_block (wp_seq ?_)))
  refine rg_ h_1 (tri 3) [K_ (vP g 0), K_ bF, K_ bF] (fun E2 => [(0, vP g 0), (3, vP (pb E1 0) 0), (4, vI 0), (7, bF)]) (hs := c_ mv_ <| c_ (bi0 (vP g 0) (.pointer none)) <| c_ mv_ <| e_) (k := fun E2 ac wd h_2 => ?_)
  clear h_1
  refine then_n ?_
  refine wp_cond_false (eval_tmp (h_2.g (t := 7) rfl)) ?_
  refine wp_seq ?_
  cases hf : formB s a
  refine rg_ h_2 (tri 4) [K_ (vL d s a), K_ bF, K_ bT, K_ bT] (fun E3 => [(0, vP g 0), (3, vP (pb E1 0) 0), (4, vI 0), (10, bT)]) (hs := c_ (ld_ 0 (hrd := by exact rd26 rfl rfl rfl)) <| c_ (cl_ Tryz.func43 (h := fun env => ⟨_, ((uform_any d s a).eq (congrArg Value.bool hf)), rfl⟩)) <| c_ (un0 bF) <| c_ mv_ <| e_) (k := fun E3 ac wd h_3 => ?_)
  clear h_2
  refine then_n ?_
  refine wp_cond_true (eval_tmp (h_3.g (t := 10) rfl)) ?_
  refine wp_seq ?_
  refine rg_ h_3 [[0]] [K_ (vI 1)] (fun E4 => [(0, vP g 0), (3, vP (pb E1 0) 0), (4, vI 1)]) (hs := c_ mv_ <| e_) (k := fun E4 ac wd h_4 => ?_)
  clear h_3
  refine then_n (wp_ret (blk_ret (then_ret ?_)))
  have s4 := h_4.g (t := 4) rfl
  refine leave (v := vI 1) h_4.df (by simp [results, Tryz.results17, go_sem, Array.getD_eq_getD_getElem?, s4]) ?_
  have e : whyU es d s a = 1 := by unfold whyU; simp [hf]
  exact ⟨by rw [e], h_4.st.nowT, h_4.st.gr⟩
  refine rg_ h_2 (tri 4) [K_ (vL d s a), K_ bT, K_ bF, K_ bF] (fun E3 => [(0, vP g 0), (3, vP (pb E1 0) 0), (4, vI 0), (10, bF)]) (hs := c_ (ld_ 0 (hrd := by exact rd26 rfl rfl rfl)) <| c_ (cl_ Tryz.func43 (h := fun env => ⟨_, ((uform_any d s a).eq (congrArg Value.bool hf)), rfl⟩)) <| c_ (un0 bT) <| c_ mv_ <| e_) (k := fun E3 ac wd h_3 => ?_)
  clear h_2
  refine then_n ?_
  refine wp_cond_false (eval_tmp (h_3.g (t := 10) rfl)) ?_
  refine wp_seq ?_
  cases hin : wthn d (-1099511627776) 1099511627776
  refine rg_ h_3 (tri 5) [K_ (vP (pb E1 0) 0), K_ (vI d), K_ bF, K_ bT, K_ bT] (fun E4 => [(0, vP g 0), (3, vP (pb E1 0) 0), (4, vI 0), (14, bT)]) (hs := c_ (fa0 (vP (pb E1 0) 0)) <| c_ (ld_ 0 (hrd := by exact rd3 rfl)) <| c_ (cl_ Tryz.func36 (h := fun env => ⟨_, ((uin_any d).eq (congrArg Value.bool hin)), rfl⟩)) <| c_ (un0 bF) <| c_ mv_ <| e_) (k := fun E4 ac wd h_4 => ?_)
  clear h_3
  refine then_n ?_
  refine wp_cond_true (eval_tmp (h_4.g (t := 14) rfl)) ?_
  refine wp_seq ?_
  refine rg_ h_4 [[0]] [K_ (vI 2)] (fun E5 => [(0, vP g 0), (3, vP (pb E1 0) 0), (4, vI 2)]) (hs := c_ mv_ <| e_) (k := fun E5 ac wd h_5 => ?_)
  clear h_4
  refine then_n (wp_ret (blk_ret (then_ret ?_)))
  have s4 := h_5.g (t := 4) rfl
  refine leave (v := vI 2) h_5.df (by simp [results, Tryz.results17, go_sem, Array.getD_eq_getD_getElem?, s4]) ?_
  have e : whyU es d s a = 2 := by unfold whyU; simp [hf, hin]
  exact ⟨by rw [e], h_5.st.nowT, h_5.st.gr⟩
  refine rg_ h_3 (tri 5) [K_ (vP (pb E1 0) 0), K_ (vI d), K_ bT, K_ bF, K_ bF] (fun E4 => [(0, vP g 0), (3, vP (pb E1 0) 0), (4, vI 0), (14, bF)]) (hs := c_ (fa0 (vP (pb E1 0) 0)) <| c_ (ld_ 0 (hrd := by exact rd3 rfl)) <| c_ (cl_ Tryz.func36 (h := fun env => ⟨_, ((uin_any d).eq (congrArg Value.bool hin)), rfl⟩)) <| c_ (un0 bT) <| c_ mv_ <| e_) (k := fun E4 ac wd h_4 => ?_)
  clear h_3
  refine then_n ?_
  refine wp_cond_false (eval_tmp (h_4.g (t := 14) rfl)) ?_
  refine wp_skip (blk_n (then_n (wp_seq ?_)))
  by_cases hd : d < day0 es
  refine rg_ h_4 [[0],[1],[1,2],r_ 4,r_ 5,r_ 6,[0,1,2,3,4,6],[0,1,2,3,4,5,7],r_ 9] [K_ (vP g 0), K_ (vP (pb E1 0) 0), K_ (vI d), K_ (vT2 (vI 0) (vI 8)), K_ (vT2 (vI 0) (vI 8)), K_ (vI 0), K_ (vI 8), K_ (vI 0), K_ (vI 8)] (fun E5 => [(3, vP (pb E1 0) 0), (4, vI 0), (5, vI 0), (6, vI 8)]) (hs := c_ mv_ <| c_ (fa0 (vP (pb E1 0) 0)) <| c_ (ld_ 0 (hrd := by exact rd3 rfl)) <| c_ (s_leap (g := g) (u := u) (x := x) (es := es) Tryz.func44 (fun _ h => h) (fun _ h => h) (h := fun D env ac wd hA hL => ⟨_, LeapC.eq (length_l hL d) (len_early hd), rfl⟩)) <| c_ mv_ <| c_ ext_ <| c_ ext_ <| c_ mv_ <| c_ mv_ <| e_) (k := fun E5 ac wd h_5 => ?_)
  clear h_4
  refine then_n (wp_seq (wp_block (wp_seq ?_)))
  refine rg_ h_5 (tri 3) [K_ (vI 8), K_ bT, K_ bT] (fun E6 => [(3, vP (pb E1 0) 0), (4, vI 0), (5, vI 0), (6, vI 8), (26, bT)]) (hs := c_ mv_ <| c_ (bi0 (vI 8) (vI 0)) <| c_ mv_ <| e_) (k := fun E6 ac wd h_6 => ?_)
  clear h_5
  refine then_n ?_
  refine wp_cond_true (eval_tmp (h_6.g (t := 26) rfl)) ?_
  refine wp_seq ?_
  refine rg_ h_6 [[0],[0,1]] [K_ (vI 8), K_ (vI 8)] (fun E7 => [(4, vI 8)]) (hs := c_ mv_ <| c_ mv_ <| e_) (k := fun E7 ac wd h_7 => ?_)
  clear h_6
  refine then_n (wp_ret (blk_ret (then_ret ?_)))
  have s4 := h_7.g (t := 4) rfl
  refine leave (v := vI 8) h_7.df (by simp [results, Tryz.results17, go_sem, Array.getD_eq_getD_getElem?, s4]) ?_
  have e : whyU es d s a = 8 := by unfold whyU; simp [hf, hin, hd]
  exact ⟨by rw [e], h_7.st.nowT, h_7.st.gr⟩
  refine rg_ h_4 [[0],[1],[1,2],r_ 4,r_ 5,r_ 6,[0,1,2,3,4,6],[0,1,2,3,4,5,7],r_ 9] [K_ (vP g 0), K_ (vP (pb E1 0) 0), K_ (vI d), K_ (vT2 (vI (86400 + chgV es d)) (vI 0)), K_ (vT2 (vI (86400 + chgV es d)) (vI 0)), K_ (vI (86400 + chgV es d)), K_ (vI 0), K_ (vI (86400 + chgV es d)), K_ (vI 0)] (fun E5 => [(3, vP (pb E1 0) 0), (4, vI 0), (5, vI (86400 + chgV es d)), (6, vI 0)]) (hs := c_ mv_ <| c_ (fa0 (vP (pb E1 0) 0)) <| c_ (ld_ 0 (hrd := by exact rd3 rfl)) <| c_ (s_leap (g := g) (u := u) (x := x) (es := es) Tryz.func44 (fun _ h => h) (fun _ h => h) (h := fun D env ac wd hA hL => ⟨_, LeapC.eq (length_l hL d) (len_ok hd), rfl⟩)) <| c_ mv_ <| c_ ext_ <| c_ ext_ <| c_ mv_ <| c_ mv_ <| e_) (k := fun E5 ac wd h_5 => ?_)
  clear h_4
  refine then_n (wp_seq (wp_block (wp_seq ?_)))
  refine rg_ h_5 (tri 3) [K_ (vI 0), K_ bF, K_ bF] (fun E6 => [(3, vP (pb E1 0) 0), (4, vI 0), (5, vI (86400 + chgV es d)), (6, vI 0), (26, bF)]) (hs := c_ mv_ <| c_ (bi0 (vI 0) (vI 0)) <| c_ mv_ <| e_) (k := fun E6 ac wd h_6 => ?_)
  clear h_5
  refine then_n ?_
  refine wp_cond_false (eval_tmp (h_6.g (t := 26) rfl)) ?_
  refine wp_seq ?_
  by_cases hs : 86400 + chgV es d ≤ s
  refine rg_ h_6 [[0],[0,1],[2],r_ 4,r_ 5] [K_ (vP (pb E1 0) 1), K_ (vI s), K_ (vI (86400 + chgV es d)), K_ bT, K_ bT] (fun E7 => [(4, vI 0), (30, bT)]) (hs := c_ (fa0 (vP (pb E1 0) 0)) <| c_ (ld_ 0 (hrd := by exact rd3 rfl)) <| c_ mv_ <| c_ (bi0 (vI s) (vI (86400 + chgV es d)) (h := by intro env w; simp [go_sem, hs])) <| c_ mv_ <| e_) (k := fun E7 ac wd h_7 => ?_)
  clear h_6
  refine then_n ?_
  refine wp_cond_true (eval_tmp (h_7.g (t := 30) rfl)) ?_
  refine wp_seq ?_
  refine rg_ h_7 [[0]] [K_ (vI 6)] (fun E8 => [(4, vI 6)]) (hs := c_ mv_ <| e_) (k := fun E8 ac wd h_8 => ?_)
  clear h_7
  refine then_n (wp_ret (blk_ret (then_ret ?_)))
  have s4 := h_8.g (t := 4) rfl
  refine leave (v := vI 6) h_8.df (by simp [results, Tryz.results17, go_sem, Array.getD_eq_getD_getElem?, s4]) ?_
  have e : whyU es d s a = 6 := by unfold whyU; simp [hf, hin, hd, hs]
  exact ⟨by rw [e], h_8.st.nowT, h_8.st.gr⟩
  refine rg_ h_6 [[0],[0,1],[2],r_ 4,r_ 5] [K_ (vP (pb E1 0) 1), K_ (vI s), K_ (vI (86400 + chgV es d)), K_ bF, K_ bF] (fun E7 => [(4, vI 0), (30, bF)]) (hs := c_ (fa0 (vP (pb E1 0) 0)) <| c_ (ld_ 0 (hrd := by exact rd3 rfl)) <| c_ mv_ <| c_ (bi0 (vI s) (vI (86400 + chgV es d)) (h := by intro env w; simp [go_sem, hs])) <| c_ mv_ <| e_) (k := fun E7 ac wd h_7 => ?_)
  clear h_6
  refine then_n ?_
  refine wp_cond_false (eval_tmp (h_7.g (t := 30) rfl)) ?_
  refine wp_skip (blk_n (then_n (wp_seq ?_)))
  refine rg_ h_7 [[0]] [K_ (vI 0)] (fun E8 => [(4, vI 0)]) (hs := c_ mv_ <| e_) (k := fun E8 ac wd h_8 => ?_)
  clear h_7
  refine then_n (wp_ret ?_)
  have s4 := h_8.g (t := 4) rfl
  refine leave (v := vI 0) h_8.df (by simp [results, Tryz.results17, go_sem, Array.getD_eq_getD_getElem?, s4]) ?_
  have e : whyU es d s a = 0 := by unfold whyU; simp [hf, hin, hd, hs]
  exact ⟨by rw [e], h_8.st.nowT, h_8.st.gr⟩
set_option maxRecDepth 100000 in
set_option maxHeartbeats 8000000 in
theorem uexists_l (w0 : World) (g : Nat) (u x : Int) (es : List (Int × Int)) (hL : IsLx w0 g u x es) (d s a : Int) : LeapC Tryz.prog 9 [vP g 0, vL d s a] w0 g u x es (.bool (whyU es d s a == 0)) := by
  unfold LeapC
  have hst := St.startL w0 hL
  refine enter Tryz.func9 rfl (n := 9) rfl (Nat.le_of_ble_eq_true rfl) hst (L := [(0, vP g 0), (1, vL d s a)]) (lk_args rfl) (fun ac h => ?_)
  refine wp_seq ?_
  refine rg_ h [[0],[1]] [KE_ fun env => vP (pb env 0) 0, K_ bF] (fun E1 => [(0, vP g 0), (3, vP (pb E1 0) 0), (4, bF)]) (W := [{ i := 0, T := 26, c0 := [vI d, vI s, vI a] }]) (M' := fun E1 => [((pb E1 0), 26, [vI d, vI s, vI a])]) (hs := c_ (bx0 0 (vL d s a)) <| c_ mv_ <| e_) (k := fun E1 ac wd h_1 => ?_)
  clear h
  refine then_n (wp_seq ?_)
  refine rg_ h_1 [[0],[1],[0,1,2],r_ 4,r_ 5] [K_ (vP g 0), K_ (vL d s a), K_ (vI (whyU es d s a)), K_ (.bool ((whyU es d s a) == 0)), K_ (.bool ((whyU es d s a) == 0))] (fun E2 => [(4, .bool ((whyU es d s a) == 0))]) (hs := c_ mv_ <| c_ (ld_ 0 (hrd := by exact rd26 rfl rfl rfl)) <| c_ (s_leap (g := g) (u := u) (x := x) (es := es) Tryz.func17 (fun _ h => h) (fun _ h => h) (h := fun D env ac wd hA hL => ⟨_, ucheck_l _ g u x es hL d s a, rfl⟩)) <| c_ (bi0 (vI (whyU es d s a)) (vI 0)) <| c_ mv_ <| e_) (k := fun E2 ac wd h_2 => ?_)
  clear h_1
  refine then_n (wp_ret ?_)
  have s4 := h_2.g (t := 4) rfl
  refine leave (v := .bool ((whyU es d s a) == 0)) h_2.df (by simp [results, Tryz.results9, go_sem, Array.getD_eq_getD_getElem?, s4]) ?_
  exact ⟨rfl, h_2.st.nowT, h_2.st.gr⟩
set_option maxRecDepth 100000 in
set_option maxHeartbeats 8000000 in
theorem utai_l (w0 : World) (g : Nat) (u x : Int) (es : List (Int × Int)) (hL : IsLx w0 g u x es) (d s a : Int) : LeapC Tryz.prog 7 [vP g 0, vL d s a] w0 g u x es (vT2 (vW (taiU es d s a)) (vI (whyU es d s a))) := by
  unfold LeapC
  have hst := St.startL w0 hL
  refine enter Tryz.func7 rfl (n := 34) rfl (Nat.le_of_ble_eq_true rfl) hst (L := [(0, vP g 0), (1, vL d s a)]) (lk_args rfl) (fun ac h => ?_)
  refine wp_seq ?_
  refine rg_ h [[0],[1],[2]] [KE_ fun env => vP (pb env 0) 0, KE_ fun env => vP (pb env 1) 0, K_ (vI 0)] (fun E1 => [(0, vP g 0), (3, vP (pb E1 0) 0), (4, vP (pb E1 1) 0), (5, vI 0)]) (W := [{ i := 0, T := 26, c0 := [vI d, vI s, vI a] }, { i := 1, T := 34, c0 := [vI 0, .int .u64 0] }]) (M' := fun E1 => [((pb E1 0), 26, [vI d, vI s, vI a]), ((pb E1 1), 34, [vI 0, .int .u64 0])]) (hs := c_ (bx0 0 (vL d s a)) <| c_ (al_ 1) <| c_ mv_ <| e_) (k := fun E1 ac wd h_1 => ?_)
  clear h
  refine then_n (wp_seq (wp_seq ?_))
  refine rg_ h_1 [[0],[1],[0,1,2],r_ 4] [K_ (vP g 0), K_ (vL d s a), K_ (vI (whyU es d s a)), K_ (vI (whyU es d s a))] (fun E2 => [(0, vP g 0), (3, vP (pb E1 0) 0), (4, vP (pb E1 1) 0), (5, vI 0), (6, vI (whyU es d s a))]) (hs := c_ mv_ <| c_ (ld_ 0 (hrd := by exact rd26 rfl rfl rfl)) <| c_ (s_leap (g := g) (u := u) (x := x) (es := es) Tryz.func17 (fun _ h => h) (fun _ h => h) (h := fun D env ac wd hA hL => ⟨_, ucheck_l _ g u x es hL d s a, rfl⟩)) <| c_ mv_ <| e_) (k := fun E2 ac wd h_2 => ?_)
  clear h_1
  refine then_n (wp_seq ?_)
  by_cases he : whyU es d s a = 0
  obtain ⟨q0, q1, q2, q3, q4, q5, q6, q7⟩ := whyU_ok he; obtain ⟨o0, o1⟩ := u_off_bd (okT_pre hL.ok).1 d
  refine rg_ h_2 [[0],[0,1]] [K_ (vI (whyU es d s a)), K_ bF] (fun E3 => [(0, vP g 0), (3, vP (pb E1 0) 0), (4, vP (pb E1 1) 0), (5, vI 0), (6, vI (whyU es d s a)), (13, bF)]) (hs := c_ mv_ <| c_ (bi0 (vI (whyU es d s a)) (vI 0) (h := by intro env w; simp [go_sem, he])) <| e_) (k := fun E3 ac wd h_3 => ?_)
  clear h_2
  refine then_n ?_
  refine wp_cond_false (eval_tmp (h_3.g (t := 13) rfl)) ?_
  refine wp_skip (then_n (wp_seq ?_))
  refine rg_ h_3 [[0],[1],[1,2],r_ 4,r_ 5,r_ 6,[0,1,2,3,4,6],[0,1,2,3,4,5,7],r_ 9] [K_ (vP g 0), K_ (vP (pb E1 0) 0), K_ (vI d), K_ (vT2 (vI (offV es d)) (vI (offE es d))), K_ (vT2 (vI (offV es d)) (vI (offE es d))), K_ (vI (offV es d)), K_ (vI (offE es d)), K_ (vI (offV es d)), K_ (vI (offE es d))] (fun E4 => [(3, vP (pb E1 0) 0), (4, vP (pb E1 1) 0), (5, vI 0), (7, vI (offV es d))]) (hs := c_ mv_ <| c_ (fa0 (vP (pb E1 0) 0)) <| c_ (ld_ 0 (hrd := by exact rd3 rfl)) <| c_ (s_leap (g := g) (u := u) (x := x) (es := es) Tryz.func18 (fun _ h => h) (fun _ h => h) (h := fun D env ac wd hA hL => ⟨_, offset_l hL d, rfl⟩)) <| c_ mv_ <| c_ ext_ <| c_ ext_ <| c_ mv_ <| c_ mv_ <| e_) (k := fun E4 ac wd h_4 => ?_)
  clear h_3
  refine then_n (wp_seq ?_)
  refine rg_ h_4 [[0],[0,1],[0,1,2],[3],[3,4],r_ 6,[6],r_ 8,[8],[8,9],r_ 11,r_ 12,r_ 13] [K_ (vP (pb E1 0) 0), K_ (vI d), K_ (vI (d * 86400)), K_ (vP (pb E1 0) 1), K_ (vI s), K_ (vI ((d * 86400) + s)), K_ (vI (offV es d)), K_ (vI (((d * 86400) + s) + (offV es d))), K_ (vP (pb E1 0) 2), K_ (vI a), K_ (vW ((d * 86400 + s + offV es d) * 1000000000000000000 + a)), none, K_ (vI 0)] (fun E5 => [(4, vP (pb E1 1) 0), (5, vI 0)]) (S := [⟨1, 11, fun _ => [vI (hi ((d * 86400 + s + offV es d) * 1000000000000000000 + a)), .int .u64 (lo ((d * 86400 + s + offV es d) * 1000000000000000000 + a))]⟩]) (M' := fun E5 => [((pb E1 0), 26, [vI d, vI s, vI a]), ((pb E1 1), 34, [vI (hi ((d * 86400 + s + offV es d) * 1000000000000000000 + a)), .int .u64 (lo ((d * 86400 + s + offV es d) * 1000000000000000000 + a))])]) (hs := c_ (fa0 (vP (pb E1 0) 0)) <| c_ (ld_ 0 (hrd := by exact rd3 rfl)) <| c_ (bi0 (vI d) (vI 86400)) <| c_ (fa0 (vP (pb E1 0) 0)) <| c_ (ld_ 0 (hrd := by exact rd3 rfl)) <| c_ (bi0 (vI (d * 86400)) (vI s)) <| c_ mv_ <| c_ (bi0 (vI ((d * 86400) + s)) (vI (offV es d))) <| c_ (fa0 (vP (pb E1 0) 0)) <| c_ (ld_ 0 (hrd := by exact rd3 rfl)) <| c_ (cl_ Tryz.func19 (h := fun env => ⟨_, (ucount_any (((d * 86400) + s) + (offV es d)) a (by omega) (by omega) q2 q3), rfl⟩)) <| c_ (se_ 1 (hst := by exact fun _ _ _ hc => st34 rfl rfl rfl hc)) <| c_ mv_ <| e_) (k := fun E5 ac wd h_5 => ?_)
  clear h_4
  refine then_n (wp_ret ?_)
  have s4 := h_5.g (t := 4) rfl
  have hc4 := (h_5.st.own 1 _ rfl).2
  have c4_0 := own_cell (o := 0) hc4 rfl
  have c4_1 := own_cell (o := 1) hc4 rfl
  have s5 := h_5.g (t := 5) rfl
  refine leave (v := vT2 (vW ((d * 86400 + s + offV es d) * 1000000000000000000 + a)) (vI 0)) h_5.df (by simp [results, Tryz.results7, go_sem, Array.getD_eq_getD_getElem?, s4, c4_0, c4_1, Tryz.underlying34, s5]) ?_
  have e : taiU es d s a = (d * 86400 + s + offV es d) * 1000000000000000000 + a := by unfold taiU; rw [if_pos he]
  exact ⟨by rw [e, he], h_5.st.nowT, h_5.st.gr⟩
  refine rg_ h_2 [[0],[0,1]] [K_ (vI (whyU es d s a)), K_ bT] (fun E3 => [(0, vP g 0), (3, vP (pb E1 0) 0), (4, vP (pb E1 1) 0), (5, vI 0), (6, vI (whyU es d s a)), (13, bT)]) (hs := c_ mv_ <| c_ (bi0 (vI (whyU es d s a)) (vI 0) (h := by intro env w; simp [go_sem, he])) <| e_) (k := fun E3 ac wd h_3 => ?_)
  clear h_2
  refine then_n ?_
  refine wp_cond_true (eval_tmp (h_3.g (t := 13) rfl)) ?_
  refine wp_seq ?_
  refine rg_ h_3 [[0],[1],[0,2],r_ 4] [K_ (.agg #[vI 0, .int .u64 0]), K_ (vI (whyU es d s a)), none, K_ (vI (whyU es d s a))] (fun E4 => [(0, vP g 0), (3, vP (pb E1 0) 0), (4, vP (pb E1 1) 0), (5, vI (whyU es d s a))]) (S := [⟨1, 2, fun _ => [vI 0, .int .u64 0]⟩]) (M' := fun E4 => [((pb E1 0), 26, [vI d, vI s, vI a]), ((pb E1 1), 34, [vI 0, .int .u64 0])]) (hs := c_ (bd0 ([])) <| c_ mv_ <| c_ (se_ 1 (hst := by exact fun _ _ _ hc => st34 rfl rfl rfl hc)) <| c_ mv_ <| e_) (k := fun E4 ac wd h_4 => ?_)
  clear h_3
  refine then_n (wp_ret (then_ret ?_))
  have s4 := h_4.g (t := 4) rfl
  have hc4 := (h_4.st.own 1 _ rfl).2
  have c4_0 := own_cell (o := 0) hc4 rfl
  have c4_1 := own_cell (o := 1) hc4 rfl
  have s5 := h_4.g (t := 5) rfl
  refine leave (v := vT2 (.agg #[vI 0, .int .u64 0]) (vI (whyU es d s a))) h_4.df (by simp [results, Tryz.results7, go_sem, Array.getD_eq_getD_getElem?, s4, c4_0, c4_1, Tryz.underlying34, s5]) ?_
  have e : taiU es d s a = 0 := by unfold taiU; rw [if_neg he]
  exact ⟨by rw [e, vW, hi_zero, lo_zero], h_4.st.nowT, h_4.st.gr⟩
theorem at_ge {es : List (Int × Int)} (h : okPre es es.length = true) {s : Int} (hc : ¬ cnt startOf es s = 0) : 1000000000 ≤ s := by
  have h1 := cnt_le startOf es s
  have h2 := okPre_num h (i := 0) (by omega)
  have h3 : startOf (es.getD 0 (0, 0)) ≤ s := by
    refine Int.not_lt.1 fun hlt => hc ?_
    unfold cnt
    rw [List.countP_eq_zero]
    intro i hi
    have hi' := List.mem_range.1 hi
    have := (day_le h (a := 0) (b := i) (by omega) hi').2
    simp only [Bool.not_eq_true', decide_eq_true_eq, Bool.not_eq_true, Bool.not_eq_false']
    simp
    simp only [List.getD_eq_getElem?_getD] at *
    omega
  unfold startOf dayOf at h3
  omega
set_option maxRecDepth 100000 in
set_option maxHeartbeats 8000000 in
theorem ulabel_core (w0 : World) (g : Nat) (u x : Int) (es : List (Int × Int)) (hL : IsLx w0 g u x es) (z : Int) (hz : InW z) (s r o U : Int) (hs : z / 1000000000000000000 = s) (hr : z % 1000000000000000000 = r) (ho : atV es s = o) (hU : atU es s = U) : LeapC Tryz.prog 13 [vP g 0, vW z] w0 g u x es (vT2 (vL ((labR es z s r o U).2.1) ((labR es z s r o U).2.2.1) ((labR es z s r o U).2.2.2)) (vI ((labR es z s r o U).1))) := by
  unfold LeapC
  have hsw : InW s := by unfold InW at *; omega
  have hr0 : 0 ≤ r := by omega
  have hr1 : r < 1000000000000000000 := by omega
  have hst := St.startL w0 hL
  refine enter Tryz.func13 rfl (n := 85) rfl (Nat.le_of_ble_eq_true rfl) hst (L := [(0, vP g 0), (1, vW z)]) (lk_args rfl) (fun ac h => ?_)
  refine wp_seq ?_
  refine rg_ h [[0],[1],[2]] [KE_ fun env => vP (pb env 0) 0, KE_ fun env => vP (pb env 1) 0, K_ (vI 0)] (fun E1 => [(0, vP g 0), (3, vP (pb E1 0) 0), (4, vP (pb E1 1) 0), (5, vI 0)]) (W := [{ i := 0, T := 34, c0 := [vI (hi (z)), .int .u64 (lo (z))] }, { i := 1, T := 26, c0 := [vI 0, vI 0, vI 0] }]) (M' := fun E1 => [((pb E1 0), 34, [vI (hi (z)), .int .u64 (lo (z))]), ((pb E1 1), 26, [vI 0, vI 0, vI 0])]) (hs := c_ (bx0 0 (vW z)) <| c_ (al_ 1) <| c_ mv_ <| e_) (k := fun E1 ac wd h_1 => ?_)
  clear h
  refine then_n (wp_seq (wp_seq ?_))
  refine rg_ h_1 [[0],[0,1]] [K_ (vP g 0), K_ bF] (fun E2 => [(0, vP g 0), (3, vP (pb E1 0) 0), (4, vP (pb E1 1) 0), (5, vI 0), (18, bF)]) (hs := c_ mv_ <| c_ (bi0 (vP g 0) (.pointer none)) <| e_) (k := fun E2 ac wd h_2 => ?_)
  clear h_1
  refine then_n ?_
  refine wp_cond_false (eval_tmp (h_2.g (t := 18) rfl)) ?_
  refine wp_skip (then_n (wp_seq ?_))
  refine rg_ h_2 [[0],[1],[0,1,2],r_ 4,r_ 5,[0,1,2,3,5],[0,1,2,3,6],[7],[8],[0,1,2,3,4,7,8,9],[0,1,2,3,4,5,7,8,9,10],r_ 12] [K_ (vW z), K_ (vW 1000000000000000000), K_ (vT3 (vW s) (vW r) (vI 0)), K_ (vT3 (vW s) (vW r) (vI 0)), K_ (vW s), K_ (vW r), K_ (vI 0), KE_ fun env => vP (pb env 7) 0, KE_ fun env => vP (pb env 8) 0, none, none, K_ (vI 0)] (fun E3 => [(0, vP g 0), (3, vP (pb E1 0) 0), (4, vP (pb E1 1) 0), (5, vI 0), (6, vP (pb E3 7) 0), (7, vP (pb E3 8) 0)]) (W := [{ i := 7, T := 34, c0 := [vI 0, .int .u64 0], s := some 9, c1 := fun _ => [vI (hi (s)), .int .u64 (lo (s))] }, { i := 8, T := 34, c0 := [vI 0, .int .u64 0], s := some 10, c1 := fun _ => [vI (hi (r)), .int .u64 (lo (r))] }]) (M' := fun E3 => [((pb E1 0), 34, [vI (hi (z)), .int .u64 (lo (z))]), ((pb E1 1), 26, [vI 0, vI 0, vI 0]), ((pb E3 7), 34, [vI (hi (s)), .int .u64 (lo (s))]), ((pb E3 8), 34, [vI (hi (r)), .int .u64 (lo (r))])]) (hs := c_ (ld_ 0 (hrd := by exact rd34 rfl rfl)) <| c_ (cl_ Tryz.func32 (h := fun env => ⟨_, (of_any 1000000000000000000 (by omega) (by omega)), rfl⟩)) <| c_ (cl_ Tryz.func31 (h := fun env => ⟨_, (Ret.eq (wdiv_any z 1000000000000000000 hz (by unfold InW; omega) (by omega)) (div_eq3 hs hr)), rfl⟩)) <| c_ mv_ <| c_ ext_ <| c_ ext_ <| c_ ext_ <| c_ (al_ 2) <| c_ (al_ 3) <| c_ (sw_ 2 7 (hst := by exact fun _ _ _ hc => st34 rfl rfl rfl hc)) <| c_ (sw_ 3 8 (hst := by exact fun _ _ _ hc => st34 rfl rfl rfl hc)) <| c_ mv_ <| e_) (k := fun E3 ac wd h_3 => ?_)
  clear h_2
  refine then_n (wp_seq ?_)
  by_cases h64 : s < -9223372036854775808 ∨ 9223372036854775808 ≤ s
  refine rg_ h_3 [[0],[0,1],[0,1,2],r_ 4,[0,1,2,4],[0,1,2,3,5],r_ 7] [K_ (vW s), K_ (vT2 (vI 0) (vI 2)), K_ (vT2 (vI 0) (vI 2)), K_ (vI 0), K_ (vI 2), K_ (vI 0), K_ (vI 2)] (fun E4 => [(0, vP g 0), (3, vP (pb E1 0) 0), (4, vP (pb E1 1) 0), (5, vI 0), (7, vP (pb E3 8) 0), (9, vI 0), (10, vI 2)]) (hs := c_ (ld_ 2 (hrd := by exact rd34 rfl rfl)) <| c_ (cl_ Tryz.func33 (h := fun env => ⟨_, (wint_no s hsw h64), rfl⟩)) <| c_ mv_ <| c_ ext_ <| c_ ext_ <| c_ mv_ <| c_ mv_ <| e_) (k := fun E4 ac wd h_4 => ?_)
  clear h_3
  refine then_n (wp_seq (wp_block (wp_seq ?_)))
  by_cases hz0 : z < 0
  refine rg_ h_4 (tri 8) [K_ (vI 2), K_ bT, K_ bT, K_ (vP (pb E1 0) 0), K_ (vI (hi (z))), K_ bT, K_ bT, K_ bT] (fun E5 => [(0, vP g 0), (4, vP (pb E1 1) 0), (5, vI 0), (7, vP (pb E3 8) 0), (9, vI 0), (10, vI 2), (32, bT)]) (hs := c_ mv_ <| c_ (bi0 (vI 2) (vI 0)) <| c_ mv_ <| c_ (fa0 (vP (pb E1 0) 0)) <| c_ (ld_ 0 (hrd := by exact rd2 rfl)) <| c_ (bi0 (vI (hi (z))) (vI 0) (h := by intro env w; simp [go_sem, hi_neg, hz0])) <| c_ (pk0 bT bT bF (h := by intro env w; simp [go_sem, hi_neg, hz0])) <| c_ mv_ <| e_) (k := fun E5 ac wd h_5 => ?_)
  clear h_4
  refine then_n ?_
  refine wp_cond_true (eval_tmp (h_5.g (t := 32) rfl)) ?_
  refine wp_seq ?_
  refine rg_ h_5 (tri 3) [K_ (vL 0 0 0), none, K_ (vI 8)] (fun E6 => [(0, vP g 0), (4, vP (pb E1 1) 0), (5, vI 8), (7, vP (pb E3 8) 0), (9, vI 0), (10, vI 2)]) (S := [⟨1, 1, fun _ => [vI 0, vI 0, vI 0]⟩]) (M' := fun E6 => [((pb E1 0), 34, [vI (hi (z)), .int .u64 (lo (z))]), ((pb E1 1), 26, [vI 0, vI 0, vI 0]), ((pb E3 7), 34, [vI (hi (s)), .int .u64 (lo (s))]), ((pb E3 8), 34, [vI (hi (r)), .int .u64 (lo (r))])]) (hs := c_ (bd0 ([])) <| c_ (se_ 1 (hst := by exact fun _ _ _ hc => st26 rfl rfl rfl rfl hc)) <| c_ mv_ <| e_) (k := fun E6 ac wd h_6 => ?_)
  clear h_5
  refine then_n (wp_ret (blk_ret (then_ret ?_)))
  have s4 := h_6.g (t := 4) rfl
  have hc4 := (h_6.st.own 1 _ rfl).2
  have c4_0 := own_cell (o := 0) hc4 rfl
  have c4_1 := own_cell (o := 1) hc4 rfl
  have c4_2 := own_cell (o := 2) hc4 rfl
  have s5 := h_6.g (t := 5) rfl
  refine leave (v := vT2 (vL 0 0 0) (vI 8)) h_6.df (by simp [results, Tryz.results13, go_sem, Array.getD_eq_getD_getElem?, s4, c4_0, c4_1, c4_2, Tryz.underlying26, s5]) ?_
  have e : labR es z s r o U = (8, 0, 0, 0) := by unfold labR; rw [if_pos h64, if_pos hz0]
  exact ⟨by rw [e], h_6.st.nowT, h_6.st.gr⟩
  refine rg_ h_4 (tri 8) [K_ (vI 2), K_ bT, K_ bT, K_ (vP (pb E1 0) 0), K_ (vI (hi (z))), K_ bF, K_ bF, K_ bF] (fun E5 => [(0, vP g 0), (4, vP (pb E1 1) 0), (5, vI 0), (7, vP (pb E3 8) 0), (9, vI 0), (10, vI 2), (32, bF)]) (hs := c_ mv_ <| c_ (bi0 (vI 2) (vI 0)) <| c_ mv_ <| c_ (fa0 (vP (pb E1 0) 0)) <| c_ (ld_ 0 (hrd := by exact rd2 rfl)) <| c_ (bi0 (vI (hi (z))) (vI 0) (h := by intro env w; simp [go_sem, hi_neg, hz0])) <| c_ (pk0 bT bF bF (h := by intro env w; simp [go_sem, hi_neg, hz0])) <| c_ mv_ <| e_) (k := fun E5 ac wd h_5 => ?_)
  clear h_4
  refine then_n ?_
  refine wp_cond_false (eval_tmp (h_5.g (t := 32) rfl)) ?_
  refine wp_seq ?_
  refine rg_ h_5 (tri 3) [K_ (vI 2), K_ bT, K_ bT] (fun E6 => [(0, vP g 0), (4, vP (pb E1 1) 0), (5, vI 0), (7, vP (pb E3 8) 0), (9, vI 0), (10, vI 2), (41, bT)]) (hs := c_ mv_ <| c_ (bi0 (vI 2) (vI 0)) <| c_ mv_ <| e_) (k := fun E6 ac wd h_6 => ?_)
  clear h_5
  refine then_n ?_
  refine wp_cond_true (eval_tmp (h_6.g (t := 41) rfl)) ?_
  refine wp_seq ?_
  refine rg_ h_6 (tri 3) [K_ (vL 0 0 0), none, K_ (vI 2)] (fun E7 => [(0, vP g 0), (4, vP (pb E1 1) 0), (5, vI 2), (7, vP (pb E3 8) 0), (9, vI 0), (10, vI 2)]) (S := [⟨1, 1, fun _ => [vI 0, vI 0, vI 0]⟩]) (M' := fun E7 => [((pb E1 0), 34, [vI (hi (z)), .int .u64 (lo (z))]), ((pb E1 1), 26, [vI 0, vI 0, vI 0]), ((pb E3 7), 34, [vI (hi (s)), .int .u64 (lo (s))]), ((pb E3 8), 34, [vI (hi (r)), .int .u64 (lo (r))])]) (hs := c_ (bd0 ([])) <| c_ (se_ 1 (hst := by exact fun _ _ _ hc => st26 rfl rfl rfl rfl hc)) <| c_ mv_ <| e_) (k := fun E7 ac wd h_7 => ?_)
  clear h_6
  refine then_n (wp_ret (blk_ret (then_ret ?_)))
  have s4 := h_7.g (t := 4) rfl
  have hc4 := (h_7.st.own 1 _ rfl).2
  have c4_0 := own_cell (o := 0) hc4 rfl
  have c4_1 := own_cell (o := 1) hc4 rfl
  have c4_2 := own_cell (o := 2) hc4 rfl
  have s5 := h_7.g (t := 5) rfl
  refine leave (v := vT2 (vL 0 0 0) (vI 2)) h_7.df (by simp [results, Tryz.results13, go_sem, Array.getD_eq_getD_getElem?, s4, c4_0, c4_1, c4_2, Tryz.underlying26, s5]) ?_
  have e : labR es z s r o U = (2, 0, 0, 0) := by unfold labR; rw [if_pos h64, if_neg hz0]
  exact ⟨by rw [e], h_7.st.nowT, h_7.st.gr⟩
  refine rg_ h_3 [[0],[0,1],[0,1,2],r_ 4,[0,1,2,4],[0,1,2,3,5],r_ 7] [K_ (vW s), K_ (vT2 (vI s) (vI 0)), K_ (vT2 (vI s) (vI 0)), K_ (vI s), K_ (vI 0), K_ (vI s), K_ (vI 0)] (fun E4 => [(0, vP g 0), (3, vP (pb E1 0) 0), (4, vP (pb E1 1) 0), (5, vI 0), (7, vP (pb E3 8) 0), (9, vI s), (10, vI 0)]) (hs := c_ (ld_ 2 (hrd := by exact rd34 rfl rfl)) <| c_ (cl_ Tryz.func33 (h := fun env => ⟨_, (wint_yes s (by omega) (by omega)), rfl⟩)) <| c_ mv_ <| c_ ext_ <| c_ ext_ <| c_ mv_ <| c_ mv_ <| e_) (k := fun E4 ac wd h_4 => ?_)
  clear h_3
  refine then_n (wp_seq (wp_block (wp_seq ?_)))
  refine rg_ h_4 (tri 8) [K_ (vI 0), K_ bF, K_ bF, K_ undef, K_ undef, K_ undef, K_ bF, K_ bF] (fun E5 => [(0, vP g 0), (4, vP (pb E1 1) 0), (5, vI 0), (7, vP (pb E3 8) 0), (9, vI s), (10, vI 0), (32, bF)]) (hs := c_ mv_ <| c_ (bi0 (vI 0) (vI 0)) <| c_ mv_ <| c_ off_ <| c_ off_ <| c_ off_ <| c_ (pk0 bF undef bF) <| c_ mv_ <| e_) (k := fun E5 ac wd h_5 => ?_)
  clear h_4
  refine then_n ?_
  refine wp_cond_false (eval_tmp (h_5.g (t := 32) rfl)) ?_
  refine wp_seq ?_
  refine rg_ h_5 (tri 3) [K_ (vI 0), K_ bF, K_ bF] (fun E6 => [(0, vP g 0), (4, vP (pb E1 1) 0), (5, vI 0), (7, vP (pb E3 8) 0), (9, vI s), (10, vI 0), (41, bF)]) (hs := c_ mv_ <| c_ (bi0 (vI 0) (vI 0)) <| c_ mv_ <| e_) (k := fun E6 ac wd h_6 => ?_)
  clear h_5
  refine then_n ?_
  refine wp_cond_false (eval_tmp (h_6.g (t := 41) rfl)) ?_
  refine wp_skip (blk_n (then_n (wp_seq ?_)))
  by_cases hc : cnt startOf es s = 0
  refine rg_ h_6 [[0],[1],[0,1,2],r_ 4,r_ 5,[0,1,2,3,5],[0,1,2,3,6],[0,1,2,3,4,7],[0,1,2,3,4,5,7,8],r_ 10] [K_ (vP g 0), K_ (vI s), K_ (vT3 (vI 0) (vI 0) (vI 8)), K_ (vT3 (vI 0) (vI 0) (vI 8)), K_ (vI 0), K_ (vI 0), K_ (vI 8), K_ (vI 0), K_ (vI 0), K_ (vI 8)] (fun E7 => [(4, vP (pb E1 1) 0), (5, vI 0), (7, vP (pb E3 8) 0), (9, vI s), (10, vI 8), (11, vI 0), (12, vI 0)]) (hs := c_ mv_ <| c_ mv_ <| c_ (s_leap (g := g) (u := u) (x := x) (es := es) Tryz.func34 (fun _ h => h) (fun _ h => h) (h := fun D env ac wd hA hL => ⟨_, LeapC.eq (at_l hL s) (at_no hc), rfl⟩)) <| c_ mv_ <| c_ ext_ <| c_ ext_ <| c_ ext_ <| c_ mv_ <| c_ mv_ <| c_ mv_ <| e_) (k := fun E7 ac wd h_7 => ?_)
  clear h_6
  refine then_n (wp_seq (wp_seq ?_))
  refine rg_ h_7 [[0],[0,1]] [K_ (vI 8), K_ bT] (fun E8 => [(4, vP (pb E1 1) 0), (5, vI 0), (7, vP (pb E3 8) 0), (9, vI s), (10, vI 8), (11, vI 0), (12, vI 0), (53, bT)]) (hs := c_ mv_ <| c_ (bi0 (vI 8) (vI 0)) <| e_) (k := fun E8 ac wd h_8 => ?_)
  clear h_7
  refine then_n ?_
  refine wp_cond_true (eval_tmp (h_8.g (t := 53) rfl)) ?_
  refine wp_seq ?_
  refine rg_ h_8 [[0],[1],[0,2],r_ 4] [K_ (vL 0 0 0), K_ (vI 8), none, K_ (vI 8)] (fun E9 => [(4, vP (pb E1 1) 0), (5, vI 8), (7, vP (pb E3 8) 0), (9, vI s), (11, vI 0), (12, vI 0)]) (S := [⟨1, 2, fun _ => [vI 0, vI 0, vI 0]⟩]) (M' := fun E9 => [((pb E1 0), 34, [vI (hi (z)), .int .u64 (lo (z))]), ((pb E1 1), 26, [vI 0, vI 0, vI 0]), ((pb E3 7), 34, [vI (hi (s)), .int .u64 (lo (s))]), ((pb E3 8), 34, [vI (hi (r)), .int .u64 (lo (r))])]) (hs := c_ (bd0 ([])) <| c_ mv_ <| c_ (se_ 1 (hst := by exact fun _ _ _ hc => st26 rfl rfl rfl rfl hc)) <| c_ mv_ <| e_) (k := fun E9 ac wd h_9 => ?_)
  clear h_8
  refine then_n (wp_ret (then_ret ?_))
  have s4 := h_9.g (t := 4) rfl
  have hc4 := (h_9.st.own 1 _ rfl).2
  have c4_0 := own_cell (o := 0) hc4 rfl
  have c4_1 := own_cell (o := 1) hc4 rfl
  have c4_2 := own_cell (o := 2) hc4 rfl
  have s5 := h_9.g (t := 5) rfl
  refine leave (v := vT2 (vL 0 0 0) (vI 8)) h_9.df (by simp [results, Tryz.results13, go_sem, Array.getD_eq_getD_getElem?, s4, c4_0, c4_1, c4_2, Tryz.underlying26, s5]) ?_
  have e : labR es z s r o U = (8, 0, 0, 0) := by unfold labR; rw [if_neg h64, if_pos hc]
  exact ⟨by rw [e], h_9.st.nowT, h_9.st.gr⟩
  have hb := at_bd (okT_pre hL.ok).1 hc; rw [ho, hU] at hb; obtain ⟨b0, b1, b2, b3⟩ := hb; have hs0 := at_ge (okT_pre hL.ok).1 hc
  refine rg_ h_6 [[0],[1],[0,1,2],r_ 4,r_ 5,[0,1,2,3,5],[0,1,2,3,6],[0,1,2,3,4,7],[0,1,2,3,4,5,7,8],r_ 10] [K_ (vP g 0), K_ (vI s), K_ (vT3 (vI o) (vI U) (vI 0)), K_ (vT3 (vI o) (vI U) (vI 0)), K_ (vI o), K_ (vI U), K_ (vI 0), K_ (vI o), K_ (vI U), K_ (vI 0)] (fun E7 => [(4, vP (pb E1 1) 0), (5, vI 0), (7, vP (pb E3 8) 0), (9, vI s), (10, vI 0), (11, vI o), (12, vI U)]) (hs := c_ mv_ <| c_ mv_ <| c_ (s_leap (g := g) (u := u) (x := x) (es := es) Tryz.func34 (fun _ h => h) (fun _ h => h) (h := fun D env ac wd hA hL => ⟨_, LeapC.eq (at_l hL s) (at_yes hc ho hU), rfl⟩)) <| c_ mv_ <| c_ ext_ <| c_ ext_ <| c_ ext_ <| c_ mv_ <| c_ mv_ <| c_ mv_ <| e_) (k := fun E7 ac wd h_7 => ?_)
  clear h_6
  refine then_n (wp_seq (wp_seq ?_))
  refine rg_ h_7 [[0],[0,1]] [K_ (vI 0), K_ bF] (fun E8 => [(4, vP (pb E1 1) 0), (5, vI 0), (7, vP (pb E3 8) 0), (9, vI s), (10, vI 0), (11, vI o), (12, vI U), (53, bF)]) (hs := c_ mv_ <| c_ (bi0 (vI 0) (vI 0)) <| e_) (k := fun E8 ac wd h_8 => ?_)
  clear h_7
  refine then_n ?_
  refine wp_cond_false (eval_tmp (h_8.g (t := 53) rfl)) ?_
  refine wp_skip (then_n (wp_seq ?_))
  refine rg_ h_8 [[0],[1],[0,1,2],r_ 4] [K_ (vI s), K_ (vI o), K_ (vI (s - o)), K_ (vI (s - o))] (fun E9 => [(4, vP (pb E1 1) 0), (5, vI 0), (7, vP (pb E3 8) 0), (9, vI (s - o)), (12, vI U)]) (hs := c_ mv_ <| c_ mv_ <| c_ (bi0 (vI s) (vI o)) <| c_ mv_ <| e_) (k := fun E9 ac wd h_9 => ?_)
  clear h_8
  refine then_n (wp_seq ?_)
  refine rg_ h_9 (tri 3) [K_ (vI (s - o)), K_ (vI ((s - o) / 86400)), K_ (vI ((s - o) / 86400))] (fun E10 => [(4, vP (pb E1 1) 0), (5, vI 0), (7, vP (pb E3 8) 0), (9, vI (s - o)), (12, vI U), (13, vI ((s - o) / 86400))]) (hs := c_ mv_ <| c_ (cl_ Tryz.func35 (h := fun env => ⟨_, (ufloor_any (s - o) (by omega) (by omega)), rfl⟩)) <| c_ mv_ <| e_) (k := fun E10 ac wd h_10 => ?_)
  clear h_9
  refine then_n (wp_seq ?_)
  refine rg_ h_10 [[0],[1],[1,2],r_ 4,r_ 5] [K_ (vI (s - o)), K_ (vI ((s - o) / 86400)), K_ (vI (((s - o) / 86400) * 86400)), K_ (vI ((s - o) - (((s - o) / 86400) * 86400))), K_ (vI ((s - o) - (((s - o) / 86400) * 86400)))] (fun E11 => [(4, vP (pb E1 1) 0), (5, vI 0), (7, vP (pb E3 8) 0), (12, vI U), (13, vI ((s - o) / 86400)), (14, vI ((s - o) - (((s - o) / 86400) * 86400)))]) (hs := c_ mv_ <| c_ mv_ <| c_ (bi0 (vI ((s - o) / 86400)) (vI 86400)) <| c_ (bi0 (vI (s - o)) (vI (((s - o) / 86400) * 86400))) <| c_ mv_ <| e_) (k := fun E11 ac wd h_11 => ?_)
  clear h_10
  refine then_n (wp_seq (wp_seq ?_))
  by_cases hq : U ≤ (s - o) / 86400
  refine rg_ h_11 [[0],[1],[0,1,2]] [K_ (vI ((s - o) / 86400)), K_ (vI U), K_ bT] (fun E12 => [(4, vP (pb E1 1) 0), (5, vI 0), (7, vP (pb E3 8) 0), (12, vI U), (13, vI ((s - o) / 86400)), (14, vI ((s - o) - (((s - o) / 86400) * 86400))), (67, bT)]) (hs := c_ mv_ <| c_ mv_ <| c_ (bi0 (vI ((s - o) / 86400)) (vI U) (h := by intro env w; simp [go_sem, hq])) <| e_) (k := fun E12 ac wd h_12 => ?_)
  clear h_11
  refine then_n ?_
  refine wp_cond_true (eval_tmp (h_12.g (t := 67) rfl)) ?_
  refine rg_ h_12 [[0],[0,1],[2],[2,3],[0,1,4],r_ 6] [K_ (vI U), K_ (vI (U - 1)), K_ (vI ((s - o) - (((s - o) / 86400) * 86400))), K_ (vI (((s - o) - (((s - o) / 86400) * 86400)) + 86400)), K_ (vI (U - 1)), K_ (vI (((s - o) - (((s - o) / 86400) * 86400)) + 86400))] (fun E13 => [(4, vP (pb E1 1) 0), (5, vI 0), (7, vP (pb E3 8) 0), (13, vI (U - 1)), (14, vI (((s - o) - (((s - o) / 86400) * 86400)) + 86400))]) (hs := c_ mv_ <| c_ (bi0 (vI U) (vI 1)) <| c_ mv_ <| c_ (bi0 (vI ((s - o) - (((s - o) / 86400) * 86400))) (vI 86400)) <| c_ mv_ <| c_ mv_ <| e_) (k := fun E13 ac wd h_13 => ?_)
  clear h_12
  refine then_n (wp_seq (wp_seq ?_))
  cases hin : wthn (U - 1) (-1099511627776) 1099511627776
  refine rg_ h_13 (tri 3) [K_ (vI (U - 1)), K_ bF, K_ bT] (fun E14 => [(4, vP (pb E1 1) 0), (5, vI 0), (7, vP (pb E3 8) 0), (13, vI (U - 1)), (14, vI (((s - o) - (((s - o) / 86400) * 86400)) + 86400)), (74, bT)]) (hs := c_ mv_ <| c_ (cl_ Tryz.func36 (h := fun env => ⟨_, ((uin_any (U - 1)).eq (congrArg Value.bool hin)), rfl⟩)) <| c_ (un0 bF) <| e_) (k := fun E14 ac wd h_14 => ?_)
  clear h_13
  refine then_n ?_
  refine wp_cond_true (eval_tmp (h_14.g (t := 74) rfl)) ?_
  refine wp_seq ?_
  refine rg_ h_14 (tri 3) [K_ (vL 0 0 0), none, K_ (vI 2)] (fun E15 => [(4, vP (pb E1 1) 0), (5, vI 2), (7, vP (pb E3 8) 0), (13, vI (U - 1)), (14, vI (((s - o) - (((s - o) / 86400) * 86400)) + 86400))]) (S := [⟨1, 1, fun _ => [vI 0, vI 0, vI 0]⟩]) (M' := fun E15 => [((pb E1 0), 34, [vI (hi (z)), .int .u64 (lo (z))]), ((pb E1 1), 26, [vI 0, vI 0, vI 0]), ((pb E3 7), 34, [vI (hi (s)), .int .u64 (lo (s))]), ((pb E3 8), 34, [vI (hi (r)), .int .u64 (lo (r))])]) (hs := c_ (bd0 ([])) <| c_ (se_ 1 (hst := by exact fun _ _ _ hc => st26 rfl rfl rfl rfl hc)) <| c_ mv_ <| e_) (k := fun E15 ac wd h_15 => ?_)
  clear h_14
  refine then_n (wp_ret (then_ret ?_))
  have s4 := h_15.g (t := 4) rfl
  have hc4 := (h_15.st.own 1 _ rfl).2
  have c4_0 := own_cell (o := 0) hc4 rfl
  have c4_1 := own_cell (o := 1) hc4 rfl
  have c4_2 := own_cell (o := 2) hc4 rfl
  have s5 := h_15.g (t := 5) rfl
  refine leave (v := vT2 (vL 0 0 0) (vI 2)) h_15.df (by simp [results, Tryz.results13, go_sem, Array.getD_eq_getD_getElem?, s4, c4_0, c4_1, c4_2, Tryz.underlying26, s5]) ?_
  have e : labR es z s r o U = (2, 0, 0, 0) := by unfold labR; rw [if_neg h64, if_neg hc, if_pos hq, if_neg (by rw [hin]; exact Bool.false_ne_true)]
  exact ⟨by rw [e], h_15.st.nowT, h_15.st.gr⟩
  refine rg_ h_13 (tri 3) [K_ (vI (U - 1)), K_ bT, K_ bF] (fun E14 => [(4, vP (pb E1 1) 0), (5, vI 0), (7, vP (pb E3 8) 0), (13, vI (U - 1)), (14, vI (((s - o) - (((s - o) / 86400) * 86400)) + 86400)), (74, bF)]) (hs := c_ mv_ <| c_ (cl_ Tryz.func36 (h := fun env => ⟨_, ((uin_any (U - 1)).eq (congrArg Value.bool hin)), rfl⟩)) <| c_ (un0 bT) <| e_) (k := fun E14 ac wd h_14 => ?_)
  clear h_13
  refine then_n ?_
  refine wp_cond_false (eval_tmp (h_14.g (t := 74) rfl)) ?_
  refine wp_skip (then_n (wp_seq ?_))
  refine rg_ h_14 [[0],[0,1],[0,1,2],r_ 4,[0,1,2,4],[0,1,2,3,5],r_ 7] [K_ (vW r), K_ (vT2 (vI r) (vI 0)), K_ (vT2 (vI r) (vI 0)), K_ (vI r), K_ (vI 0), K_ (vI r), K_ (vI 0)] (fun E15 => [(4, vP (pb E1 1) 0), (5, vI 0), (13, vI (U - 1)), (14, vI (((s - o) - (((s - o) / 86400) * 86400)) + 86400)), (15, vI r)]) (hs := c_ (ld_ 3 (hrd := by exact rd34 rfl rfl)) <| c_ (cl_ Tryz.func33 (h := fun env => ⟨_, (wint_yes r (by omega) (by omega)), rfl⟩)) <| c_ mv_ <| c_ ext_ <| c_ ext_ <| c_ mv_ <| c_ mv_ <| e_) (k := fun E15 ac wd h_15 => ?_)
  clear h_14
  refine then_n (wp_seq ?_)
  refine rg_ h_15 [[0],[1],[2],r_ 4,r_ 5,r_ 6] [K_ (vI (U - 1)), K_ (vI (((s - o) - (((s - o) / 86400) * 86400)) + 86400)), K_ (vI r), K_ (vL (U - 1) (((s - o) - (((s - o) / 86400) * 86400)) + 86400) r), none, K_ (vI 0)] (fun E16 => [(4, vP (pb E1 1) 0), (5, vI 0)]) (S := [⟨1, 4, fun _ => [vI (U - 1), vI (((s - o) - (((s - o) / 86400) * 86400)) + 86400), vI r]⟩]) (M' := fun E16 => [((pb E1 0), 34, [vI (hi (z)), .int .u64 (lo (z))]), ((pb E1 1), 26, [vI (U - 1), vI (((s - o) - (((s - o) / 86400) * 86400)) + 86400), vI r]), ((pb E3 7), 34, [vI (hi (s)), .int .u64 (lo (s))]), ((pb E3 8), 34, [vI (hi (r)), .int .u64 (lo (r))])]) (hs := c_ mv_ <| c_ mv_ <| c_ mv_ <| c_ (bd0 ([vI (U - 1), vI (((s - o) - (((s - o) / 86400) * 86400)) + 86400), vI r])) <| c_ (se_ 1 (hst := by exact fun _ _ _ hc => st26 rfl rfl rfl rfl hc)) <| c_ mv_ <| e_) (k := fun E16 ac wd h_16 => ?_)
  clear h_15
  refine then_n (wp_ret ?_)
  have s4 := h_16.g (t := 4) rfl
  have hc4 := (h_16.st.own 1 _ rfl).2
  have c4_0 := own_cell (o := 0) hc4 rfl
  have c4_1 := own_cell (o := 1) hc4 rfl
  have c4_2 := own_cell (o := 2) hc4 rfl
  have s5 := h_16.g (t := 5) rfl
  refine leave (v := vT2 (vL (U - 1) (((s - o) - (((s - o) / 86400) * 86400)) + 86400) r) (vI 0)) h_16.df (by simp [results, Tryz.results13, go_sem, Array.getD_eq_getD_getElem?, s4, c4_0, c4_1, c4_2, Tryz.underlying26, s5]) ?_
  have e : labR es z s r o U = (0, U - 1, ((s - o) - (((s - o) / 86400) * 86400)) + 86400, r) := by unfold labR; rw [if_neg h64, if_neg hc, if_pos hq, if_pos hin]
  exact ⟨by rw [e], h_16.st.nowT, h_16.st.gr⟩
  refine rg_ h_11 [[0],[1],[0,1,2]] [K_ (vI ((s - o) / 86400)), K_ (vI U), K_ bF] (fun E12 => [(4, vP (pb E1 1) 0), (5, vI 0), (7, vP (pb E3 8) 0), (12, vI U), (13, vI ((s - o) / 86400)), (14, vI ((s - o) - (((s - o) / 86400) * 86400))), (67, bF)]) (hs := c_ mv_ <| c_ mv_ <| c_ (bi0 (vI ((s - o) / 86400)) (vI U) (h := by intro env w; simp [go_sem, hq])) <| e_) (k := fun E12 ac wd h_12 => ?_)
  clear h_11
  refine then_n ?_
  refine wp_cond_false (eval_tmp (h_12.g (t := 67) rfl)) ?_
  refine wp_skip (then_n (wp_seq (wp_seq ?_)))
  cases hin : wthn ((s - o) / 86400) (-1099511627776) 1099511627776
  refine rg_ h_12 (tri 3) [K_ (vI ((s - o) / 86400)), K_ bF, K_ bT] (fun E13 => [(4, vP (pb E1 1) 0), (5, vI 0), (7, vP (pb E3 8) 0), (13, vI ((s - o) / 86400)), (14, vI ((s - o) - (((s - o) / 86400) * 86400))), (74, bT)]) (hs := c_ mv_ <| c_ (cl_ Tryz.func36 (h := fun env => ⟨_, ((uin_any ((s - o) / 86400)).eq (congrArg Value.bool hin)), rfl⟩)) <| c_ (un0 bF) <| e_) (k := fun E13 ac wd h_13 => ?_)
  clear h_12
  refine then_n ?_
  refine wp_cond_true (eval_tmp (h_13.g (t := 74) rfl)) ?_
  refine wp_seq ?_
  refine rg_ h_13 (tri 3) [K_ (vL 0 0 0), none, K_ (vI 2)] (fun E14 => [(4, vP (pb E1 1) 0), (5, vI 2), (7, vP (pb E3 8) 0), (13, vI ((s - o) / 86400)), (14, vI ((s - o) - (((s - o) / 86400) * 86400)))]) (S := [⟨1, 1, fun _ => [vI 0, vI 0, vI 0]⟩]) (M' := fun E14 => [((pb E1 0), 34, [vI (hi (z)), .int .u64 (lo (z))]), ((pb E1 1), 26, [vI 0, vI 0, vI 0]), ((pb E3 7), 34, [vI (hi (s)), .int .u64 (lo (s))]), ((pb E3 8), 34, [vI (hi (r)), .int .u64 (lo (r))])]) (hs := c_ (bd0 ([])) <| c_ (se_ 1 (hst := by exact fun _ _ _ hc => st26 rfl rfl rfl rfl hc)) <| c_ mv_ <| e_) (k := fun E14 ac wd h_14 => ?_)
  clear h_13
  refine then_n (wp_ret (then_ret ?_))
  have s4 := h_14.g (t := 4) rfl
  have hc4 := (h_14.st.own 1 _ rfl).2
  have c4_0 := own_cell (o := 0) hc4 rfl
  have c4_1 := own_cell (o := 1) hc4 rfl
  have c4_2 := own_cell (o := 2) hc4 rfl
  have s5 := h_14.g (t := 5) rfl
  refine leave (v := vT2 (vL 0 0 0) (vI 2)) h_14.df (by simp [results, Tryz.results13, go_sem, Array.getD_eq_getD_getElem?, s4, c4_0, c4_1, c4_2, Tryz.underlying26, s5]) ?_
  have e : labR es z s r o U = (2, 0, 0, 0) := by unfold labR; rw [if_neg h64, if_neg hc, if_neg hq, if_neg (by rw [hin]; exact Bool.false_ne_true)]
  exact ⟨by rw [e], h_14.st.nowT, h_14.st.gr⟩
  refine rg_ h_12 (tri 3) [K_ (vI ((s - o) / 86400)), K_ bT, K_ bF] (fun E13 => [(4, vP (pb E1 1) 0), (5, vI 0), (7, vP (pb E3 8) 0), (13, vI ((s - o) / 86400)), (14, vI ((s - o) - (((s - o) / 86400) * 86400))), (74, bF)]) (hs := c_ mv_ <| c_ (cl_ Tryz.func36 (h := fun env => ⟨_, ((uin_any ((s - o) / 86400)).eq (congrArg Value.bool hin)), rfl⟩)) <| c_ (un0 bT) <| e_) (k := fun E13 ac wd h_13 => ?_)
  clear h_12
  refine then_n ?_
  refine wp_cond_false (eval_tmp (h_13.g (t := 74) rfl)) ?_
  refine wp_skip (then_n (wp_seq ?_))
  refine rg_ h_13 [[0],[0,1],[0,1,2],r_ 4,[0,1,2,4],[0,1,2,3,5],r_ 7] [K_ (vW r), K_ (vT2 (vI r) (vI 0)), K_ (vT2 (vI r) (vI 0)), K_ (vI r), K_ (vI 0), K_ (vI r), K_ (vI 0)] (fun E14 => [(4, vP (pb E1 1) 0), (5, vI 0), (13, vI ((s - o) / 86400)), (14, vI ((s - o) - (((s - o) / 86400) * 86400))), (15, vI r)]) (hs := c_ (ld_ 3 (hrd := by exact rd34 rfl rfl)) <| c_ (cl_ Tryz.func33 (h := fun env => ⟨_, (wint_yes r (by omega) (by omega)), rfl⟩)) <| c_ mv_ <| c_ ext_ <| c_ ext_ <| c_ mv_ <| c_ mv_ <| e_) (k := fun E14 ac wd h_14 => ?_)
  clear h_13
  refine then_n (wp_seq ?_)
  refine rg_ h_14 [[0],[1],[2],r_ 4,r_ 5,r_ 6] [K_ (vI ((s - o) / 86400)), K_ (vI ((s - o) - (((s - o) / 86400) * 86400))), K_ (vI r), K_ (vL ((s - o) / 86400) ((s - o) - (((s - o) / 86400) * 86400)) r), none, K_ (vI 0)] (fun E15 => [(4, vP (pb E1 1) 0), (5, vI 0)]) (S := [⟨1, 4, fun _ => [vI ((s - o) / 86400), vI ((s - o) - (((s - o) / 86400) * 86400)), vI r]⟩]) (M' := fun E15 => [((pb E1 0), 34, [vI (hi (z)), .int .u64 (lo (z))]), ((pb E1 1), 26, [vI ((s - o) / 86400), vI ((s - o) - (((s - o) / 86400) * 86400)), vI r]), ((pb E3 7), 34, [vI (hi (s)), .int .u64 (lo (s))]), ((pb E3 8), 34, [vI (hi (r)), .int .u64 (lo (r))])]) (hs := c_ mv_ <| c_ mv_ <| c_ mv_ <| c_ (bd0 ([vI ((s - o) / 86400), vI ((s - o) - (((s - o) / 86400) * 86400)), vI r])) <| c_ (se_ 1 (hst := by exact fun _ _ _ hc => st26 rfl rfl rfl rfl hc)) <| c_ mv_ <| e_) (k := fun E15 ac wd h_15 => ?_)
  clear h_14
  refine then_n (wp_ret ?_)
  have s4 := h_15.g (t := 4) rfl
  have hc4 := (h_15.st.own 1 _ rfl).2
  have c4_0 := own_cell (o := 0) hc4 rfl
  have c4_1 := own_cell (o := 1) hc4 rfl
  have c4_2 := own_cell (o := 2) hc4 rfl
  have s5 := h_15.g (t := 5) rfl
  refine leave (v := vT2 (vL ((s - o) / 86400) ((s - o) - (((s - o) / 86400) * 86400)) r) (vI 0)) h_15.df (by simp [results, Tryz.results13, go_sem, Array.getD_eq_getD_getElem?, s4, c4_0, c4_1, c4_2, Tryz.underlying26, s5]) ?_
  have e : labR es z s r o U = (0, (s - o) / 86400, (s - o) - (((s - o) / 86400) * 86400), r) := by unfold labR; rw [if_neg h64, if_neg hc, if_neg hq, if_pos hin]
  exact ⟨by rw [e], h_15.st.nowT, h_15.st.gr⟩
theorem ulabel_l (w0 : World) (g : Nat) (u x : Int) (es : List (Int × Int)) (hL : IsLx w0 g u x es) (z : Int) (hz : InW z) : LeapC Tryz.prog 13 [vP g 0, vW z] w0 g u x es (vT2 (vL (labUt es z).2.1 (labUt es z).2.2.1 (labUt es z).2.2.2) (vI (labUt es z).1)) := ulabel_core w0 g u x es hL z hz _ _ _ _ rfl rfl rfl rfl
end Go.Proofs.YtibdhpffdkiggaaGreat
/- Walks of the reference of layer 12 (ref12): Day, Offset, Change, Start, At, of a table that may be. -/
namespace Go.Proofs.YtibdhpffdkiggaaGreat
open Go.RowKit
set_option linter.unusedVariables false
set_option linter.unusedSimpArgs false

/-! ### plain: where a rising test turns -/
theorem mono_cnt (p : Nat → Bool) : ∀ n : Nat, (∀ a b, a ≤ b → b < n → p a = true → p b = true) → ∀ i, i < n → (p i = false ↔ i < (List.range n).countP (fun i => !p i))
  | 0, _, i, hi => absurd hi (Nat.not_lt_zero _)
  | n + 1, hm, i, hi => by
    have hle : (List.range n).countP (fun i => !p i) ≤ n := by have := List.countP_le_length (l := List.range n) (p := fun i => !p i); simpa using this
    rw [List.range_succ, List.countP_append, List.countP_singleton]
    have ih := mono_cnt p n (fun a b h1 h2 h3 => hm a b h1 (by omega) h3)
    cases hn : p n with
    | true =>
      simp only [Bool.not_true, Bool.false_eq_true, if_false, Nat.add_zero]
      by_cases h : i < n
      · exact ih i h
      · obtain rfl : i = n := by omega
        rw [hn]; simp; omega
    | false =>
      simp only [Bool.not_false, if_true]
      have hall : ∀ j, j < n → p j = false := fun j hj => by
        cases h : p j with
        | false => rfl
        | true => have := hm j n (by omega) (by omega) h; rw [hn] at this; cases this
      have hc : (List.range n).countP (fun i => !p i) = n := by
        rw [List.countP_eq_length.2 (fun a ha => by rw [hall a (by simpa using ha)]; rfl)]; simp
      rw [hc]
      by_cases h : i < n
      · rw [hall i h]; simp; omega
      · obtain rfl : i = n := by omega
        rw [hn]; simp
theorem cnt_day {es : List (Int × Int)} (h : okPre es es.length = true) (d : Int) {i : Nat} (hi : i < es.length) : dayOf (es.getD i (0, 0)) ≤ d ↔ i < cnt dayOf es d := by
  have := mono_cnt (fun i => decide (d < dayOf (es.getD i (0, 0)))) es.length (fun a b hab hb hh => by have := (day_le h hab hb).1; simp only [decide_eq_true_eq] at hh ⊢; omega) i hi
  simp only [decide_eq_false_iff_not] at this
  unfold cnt; rw [← this]; omega
theorem cnt_start {es : List (Int × Int)} (h : okPre es es.length = true) (d : Int) {i : Nat} (hi : i < es.length) : startOf (es.getD i (0, 0)) ≤ d ↔ i < cnt startOf es d := by
  have := mono_cnt (fun i => decide (d < startOf (es.getD i (0, 0)))) es.length (fun a b hab hb hh => by have := (day_le h hab hb).2; simp only [decide_eq_true_eq] at hh ⊢; omega) i hi
  simp only [decide_eq_false_iff_not] at this
  unfold cnt; rw [← this]; omega
theorem cnt_chg {es : List (Int × Int)} (h : okPre es es.length = true) (d : Int) {i : Nat} (hi : i < es.length) : dayOf (es.getD i (0, 0)) - 1 < d ↔ i < cntC es d := by
  have := mono_cnt (fun i => decide (d ≤ dayOf (es.getD i (0, 0)) - 1)) es.length (fun a b hab hb hh => by have := (day_le h hab hb).1; simp only [decide_eq_true_eq] at hh ⊢; omega) i hi
  simp only [decide_eq_false_iff_not] at this
  unfold cntC; rw [← this]; omega
/-- what the reference's loops hold behind k rounds: the last entry among the first k that has begun: how many they are -/
def upto (f : Int × Int → Int) (es : List (Int × Int)) (d : Int) : Nat → Nat
  | 0 => 0
  | k + 1 => if f (es.getD k (0, 0)) ≤ d then k + 1 else upto f es d k
theorem upto_le (f : Int × Int → Int) (es : List (Int × Int)) (d : Int) : ∀ k, upto f es d k ≤ k
  | 0 => Nat.le_refl _
  | k + 1 => by have := upto_le f es d k; unfold upto; split <;> omega
theorem upto_day {es : List (Int × Int)} (h : okPre es es.length = true) (d : Int) : ∀ k, k ≤ es.length → upto dayOf es d k = min k (cnt dayOf es d)
  | 0, _ => by simp [upto]
  | k + 1, hk => by
    have h1 := upto_day h d k (by omega)
    have h2 := cnt_day h d (i := k) (by omega)
    unfold upto
    split <;> omega
theorem upto_start {es : List (Int × Int)} (h : okPre es es.length = true) (d : Int) : ∀ k, k ≤ es.length → upto startOf es d k = min k (cnt startOf es d)
  | 0, _ => by simp [upto]
  | k + 1, hk => by
    have h1 := upto_start h d k (by omega)
    have h2 := cnt_start h d (i := k) (by omega)
    unfold upto
    split <;> omega
theorem upto_day_all {es : List (Int × Int)} (h : okPre es es.length = true) (d : Int) : upto dayOf es d es.length = cnt dayOf es d := by
  have := upto_day h d es.length (Nat.le_refl _); have := cnt_le dayOf es d; omega
theorem upto_start_all {es : List (Int × Int)} (h : okPre es es.length = true) (d : Int) : upto startOf es d es.length = cnt startOf es d := by
  have := upto_start h d es.length (Nat.le_refl _); have := cnt_le startOf es d; omega
theorem chg_found {es : List (Int × Int)} (h : okPre es es.length = true) (d : Int) {k : Nat} (hk : 0 < k) (hn : k < es.length) (he : dayOf (es.getD k (0, 0)) - 1 = d) : chgV es d = (es.getD k (0, 0)).2 - (es.getD (k - 1) (0, 0)).2 := by
  have h1 := cnt_chg h d hn
  have h2 := cnt_chg h d (i := k - 1) (by omega)
  have h3 := (day_step h (k := k - 1) (by omega)).1
  rw [show k - 1 + 1 = k by omega] at h3
  have hc : cntC es d = k := by omega
  simp only [chgV]
  rw [if_neg (by omega), if_neg (by omega), hc, if_pos he]
theorem chg_none {es : List (Int × Int)} (d : Int) (hne : ∀ j, 0 < j → j < es.length → dayOf (es.getD j (0, 0)) - 1 ≠ d) : chgV es d = 0 := by
  have hc := cntC_le es d
  simp only [chgV]
  split
  · rfl
  · split
    · rfl
    · rw [if_neg (hne _ (by omega) (by omega))]

/-! ### a table as an argument -/
theorem Ents.get {w : World} {B : Nat} {b off n c : Nat} {es : List (Int × Int)} (h : Ents w B (.slice (some ⟨b, off, none⟩) n c) es) (hn : n = es.length) (i : Nat) (hi : i < n) :
    w.cell? ⟨b, off + i * 2, none⟩ = some (.int .i64 (es.getD i (0, 0)).1) ∧ w.cell? ⟨b, off + i * 2 + 1, none⟩ = some (.int .i64 (es.getD i (0, 0)).2) := by
  obtain ⟨A', c', e', h1', h2', h3'⟩ := h
  simp only [Value.slice.injEq] at e'
  obtain ⟨rfl, hx, rfl⟩ := e'
  obtain ⟨b', off', hA', hb', hcell'⟩ := h3' (by omega)
  simp only [Option.some.injEq, Addr.mk.injEq] at hA'
  obtain ⟨rfl, rfl, hx2⟩ := hA'
  exact hcell' i (by omega)
theorem tbox (w : World) (u x : Int) (v : Value) (es : List (Int × Int)) (hv : Ents w w.heap.size v es) :
    ∃ w1, w1 = w.alloc (.cells #[.int .i64 u, .int .i64 x, v] 24) ∧ w1.cell? ⟨w.heap.size, 0, none⟩ = some (.int .i64 u) ∧ w1.cell? ⟨w.heap.size, 1, none⟩ = some (.int .i64 x) ∧ w1.cell? ⟨w.heap.size, 2, none⟩ = some v ∧
      Ents w1 w1.heap.size v es ∧ Below w.heap.size w w1 ∧ w1.heap.size = w.heap.size + 1 :=
  ⟨_, rfl, by simp, by simp, by simp, (hv.below (below_al (Below.refl _ _) _)).mono (by simp), below_al (Below.refl _ _) _, by simp⟩

set_option maxHeartbeats 400000 in
theorem rday_any (a o : Int) (h0 : 0 ≤ a) (h1 : a ≤ 1125899906842624) (w : World) :
    Calls Tryz.prog 40 #[.agg #[.int .i64 a, .int .i64 o]] w fun e w' => e = .returned (.int .i64 (dayOf (a, o))) ∧ Below w.heap.size w w' := by
  go_enter Tryz.func40, Tryz.ntmps40
  go_wp2
  go_ret
  exact ⟨rfl, (by repeat (first | exact Below.refl _ _ | assumption | refine below_al ?_ _ | refine below_dr ?_ | refine below_drN ?_ _ | refine below_set ?_ (by simp; try omega) _ | (refine below_to ?_ (by assumption))))⟩
set_option maxHeartbeats 400000 in
theorem rstart_any (a o : Int) (h0 : 0 ≤ a) (h1 : a ≤ 1125899906842624) (o0 : 0 ≤ o) (o1 : o ≤ 1000) (w : World) :
    Calls Tryz.prog 37 #[.agg #[.int .i64 a, .int .i64 o]] w fun e w' => e = .returned (.int .i64 (startOf (a, o))) ∧ Below w.heap.size w w' := by
  have hd : 0 ≤ dayOf (a, o) ∧ dayOf (a, o) ≤ 20000000000 := by unfold dayOf; omega
  have hs : startOf (a, o) = dayOf (a, o) * 86400 + o := rfl
  have HS := Lib.hid hs
  have HD := Lib.hid (fun W => rday_any a o h0 h1 W)
  obtain ⟨D, hD⟩ : ∃ D, D = dayOf (a, o) := ⟨_, rfl⟩
  rw [← hD] at hd
  obtain ⟨d0, d1⟩ := hd
  have hw1 : IntKind.i64.wrap (D * 86400) = D * 86400 := IntWalk.i64_in _ (by omega)
  have hw2 : IntKind.i64.wrap (D * 86400 + o) = D * 86400 + o := IntWalk.i64_in _ (by omega)
  have HDD := Lib.hid hD
  clear hs hD
  go_enter Tryz.func37, Tryz.ntmps37
  go_wp2
  go_region_held3 (fun w' => w'.cell? ⟨w.heap.size, 0, none⟩ = some (.int .i64 a) ∧ w'.cell? ⟨w.heap.size, 1, none⟩ = some (.int .i64 o)) (go_keep)
    (first | (go_at_call 40; refine (HD.out _).mono ?_; rintro e w' ⟨rfl, hb1⟩; rw [← HDD.out]; obtain ⟨hcl, hfr⟩ := bcell hb1))
  go_wp2
  go_ret
  exact ⟨by rw [HS.out, ← HDD.out]; rfl, (by repeat (first | exact Below.refl _ _ | assumption | refine below_al ?_ _ | refine below_dr ?_ | refine below_drN ?_ _ | refine below_set ?_ (by simp; try omega) _ | (refine below_to ?_ (by assumption))))⟩

def rOff (es : List (Int × Int)) (k : Nat) : Int := if k = 0 then 0 else (es.getD (k - 1) (0, 0)).2
def rOk (k : Nat) : Bool := !(k == 0)

set_option maxRecDepth 100000 in
set_option maxHeartbeats 1000000 in
theorem roffset_any (v : Value) (es : List (Int × Int)) (u x d : Int) (w : World) (hv : Ents w w.heap.size v es) (hp : okPre es es.length = true) :
    Calls Tryz.prog 22 #[.agg #[.int .i64 u, .int .i64 x, v], .int .i64 d] w fun e w' => e = .returned (.tuple #[.int .i64 (rOff es (cnt dayOf es d)), .bool (rOk (cnt dayOf es d))]) ∧ Below w.heap.size w w' := by
  have hlen := okPre_len hp
  have HP := Lib.hid hp
  have hvv := hv
  obtain ⟨A, c, rfl, hc, hc2, hcells⟩ := hvv
  obtain ⟨w1, hw1, q0, q1, q2, hE1, hB1, s1⟩ := tbox w u x _ es hv
  have HU := Lib.hid (upto_day_all hp d)
  obtain ⟨n, hn⟩ : ∃ n, n = es.length := ⟨_, rfl⟩
  rw [← hn] at hc hcells hw1 q2 hE1 hlen HU ⊢
  have HN := Lib.hid hn
  have HE1 := Lib.hid hE1
  have HB1 := Lib.hid hB1
  clear hn hp hv hE1 hB1 hc2
  go_enter Tryz.func22, Tryz.ntmps22
  go_wp2
  rw [← hw1]
  clear hw1
  go_loopw [6, 7, 8] (fun a b i wr => ∃ k : Nat, k ≤ n ∧ a = .int .i64 (rOff es (upto dayOf es d k)) ∧ b = .bool (rOk (upto dayOf es d k)) ∧ i = .int .i64 k ∧ Below w1.heap.size w1 wr) (fun _ _ i _ => n - (intOf i).toNat)
  case atStart => exact ⟨0, Nat.zero_le _, rfl, rfl, rfl, Below.refl _ _⟩
  case round =>
    obtain ⟨k, hk, rfl, rfl, rfl, hbw⟩ := hrel
    have hsz := hbw.size
    have r2 : wr.cell? ⟨w.heap.size, 2, none⟩ = some (.slice A n c) := (hbw.cell (p := ⟨_, 2, none⟩) (by simp; omega)).trans q2
    by_cases hlt : k < n
    · obtain ⟨b, off, rfl, hb, hcell⟩ := hcells (by omega)
      obtain ⟨c0, c1⟩ := (HE1.out.below hbw).get HN.out k hlt
      have hnum := okPre_num HP.out (i := k) (by rw [← HN.out]; exact hlt)
      have hup : upto dayOf es d (k + 1) = if dayOf (es.getD k (0, 0)) ≤ d then k + 1 else upto dayOf es d k := rfl
      obtain ⟨⟨a, o⟩, he⟩ : ∃ e, e = es.getD k (0, 0) := ⟨_, rfl⟩
      rw [← he] at c0 c1 hnum hup
      obtain ⟨n0, n1, n2, n3, n4⟩ := hnum
      simp only at n0 n1 n2 n3 n4
      have HD := Lib.hid (fun W => rday_any a o n0 n1 W)
      have HE := Lib.hid he
      have HUP := Lib.hid hup
      clear he hcell hcells n4 hup
      go_wp2_with fail
      refine (HD.out _).mono ?_
      rintro e w' ⟨rfl, hb1⟩
      obtain ⟨hcl, hfr⟩ := bcell hb1
      have r2' : w'.cell? ⟨w.heap.size, 2, none⟩ = some (.slice (some ⟨b, off, none⟩) n c) := (hcl _ _ (by omega)).trans r2
      have c1' : w'.cell? ⟨b, off + k * 2 + 1, none⟩ = some (.int .i64 o) := (hcl _ _ (by omega)).trans c1
      have HB := Lib.hid (hbw.trans (hb1.mono hsz))
      clear hcl hfr hb1 r2 c1 c0 hbw
      by_cases hd : dayOf (a, o) ≤ d
      · have hu2 : upto dayOf es d (k + 1) = k + 1 := by rw [HUP.out, if_pos hd]
        have HU2 := Lib.hid hu2
        clear hu2
        go_wp2
        go_roundw
        case rel => exact ⟨k + 1, by omega, by rw [HU2.out]; simp only [rOff]; rw [if_neg (by omega), Nat.add_sub_cancel, ← HE.out], by rw [HU2.out]; rfl, by go_num, HB.out⟩
        case measure => simp [intOf]; omega
      · have hu2 : upto dayOf es d (k + 1) = upto dayOf es d k := by rw [HUP.out, if_neg hd]
        have HU2 := Lib.hid hu2
        clear hu2
        go_wp2
        go_roundw
        case rel => exact ⟨k + 1, by omega, by rw [HU2.out], by rw [HU2.out], by go_num, HB.out⟩
        case measure => simp [intOf]; omega
    · obtain rfl : k = n := by omega
      have HB := Lib.hid (below_to HB1.out hbw)
      clear hbw
      go_wp2
      go_ret2
      exact ⟨by rw [← HU.out]; rfl, HB.out⟩
end Go.Proofs.YtibdhpffdkiggaaGreat
/- Walks of the references of layers 11 and 12: Change, At; Entry, Table, Same. -/
namespace Go.Proofs.YtibdhpffdkiggaaGreat
open Go.RowKit
set_option linter.unusedVariables false
set_option linter.unusedSimpArgs false

set_option maxRecDepth 100000 in
set_option maxHeartbeats 2000000 in
theorem rchange_any (v : Value) (es : List (Int × Int)) (u x d : Int) (w : World) (hv : Ents w w.heap.size v es) (hp : okPre es es.length = true) :
    Calls Tryz.prog 23 #[.agg #[.int .i64 u, .int .i64 x, v], .int .i64 d] w fun e w' => e = .returned (.int .i64 (chgV es d)) ∧ Below w.heap.size w w' := by
  have hlen := okPre_len hp
  have HP := Lib.hid hp
  have hvv := hv
  obtain ⟨A, c, rfl, hc, hc2, hcells⟩ := hvv
  obtain ⟨w1, hw1, q0, q1, q2, hE1, hB1, s1⟩ := tbox w u x _ es hv
  have HCN := Lib.hid (chg_none (es := es) d)
  have HCF := Lib.hid (fun k => chg_found (k := k) hp d)
  obtain ⟨n, hn⟩ : ∃ n, n = es.length := ⟨_, rfl⟩
  rw [← hn] at hc hcells hw1 q2 hE1 hlen HCN HCF ⊢
  have HN := Lib.hid hn
  have HE1 := Lib.hid hE1
  have HB1 := Lib.hid hB1
  clear hn hp hv hE1 hB1 hc2
  go_enter Tryz.func23, Tryz.ntmps23
  go_wp2
  rw [← hw1]
  clear hw1
  go_loopw [5] (fun i wr => ∃ k : Nat, 1 ≤ k ∧ k ≤ n + 1 ∧ i = .int .i64 k ∧ Hid (∀ j, 0 < j → j < k → j < n → dayOf (es.getD j (0, 0)) - 1 ≠ d) ∧ Below w1.heap.size w1 wr) (fun i _ => n + 1 - (intOf i).toNat)
  case atStart => exact ⟨1, by omega, by omega, rfl, fun j h1 h2 => by omega, Below.refl _ _⟩
  case round =>
    obtain ⟨k, hk1, hk, rfl, hno, hbw⟩ := hrel
    have hsz := hbw.size
    have r2 : wr.cell? ⟨w.heap.size, 2, none⟩ = some (.slice A n c) := (hbw.cell (p := ⟨_, 2, none⟩) (by simp; omega)).trans q2
    by_cases hlt : k < n
    · obtain ⟨b, off, rfl, hb, hcell⟩ := hcells (by omega)
      obtain ⟨m, rfl⟩ : ∃ m, k = m + 1 := ⟨k - 1, by omega⟩
      obtain ⟨c0, c1⟩ := (HE1.out.below hbw).get HN.out (m + 1) hlt
      obtain ⟨b0, b1⟩ := (HE1.out.below hbw).get HN.out m (by omega)
      have hnum := okPre_num HP.out (i := m + 1) (by rw [← HN.out]; exact hlt)
      have hnum2 := okPre_num HP.out (i := m) (by rw [← HN.out]; omega)
      obtain ⟨⟨a, o⟩, he⟩ : ∃ e, e = es.getD (m + 1) (0, 0) := ⟨_, rfl⟩
      obtain ⟨ob, hob⟩ : ∃ e, e = (es.getD m (0, 0)).2 := ⟨_, rfl⟩
      rw [← he] at c0 c1 hnum
      rw [← hob] at b1 hnum2
      obtain ⟨n0, n1, n2, n3, n4⟩ := hnum
      obtain ⟨_, _, m2, m3, _⟩ := hnum2
      simp only at n0 n1 n2 n3 n4
      have hD : 0 ≤ dayOf (a, o) ∧ dayOf (a, o) ≤ 20000000000 := by unfold dayOf; simp only; omega
      obtain ⟨d0, d1⟩ := hD
      have HD := Lib.hid (fun W => rday_any a o n0 n1 W)
      have HE := Lib.hid he
      have HOB := Lib.hid hob
      have hw : IntKind.i64.wrap (dayOf (a, o) - 1) = dayOf (a, o) - 1 := IntWalk.i64_in _ (by omega)
      have hw2 : IntKind.i64.wrap (o - ob) = o - ob := IntWalk.i64_in _ (by omega)
      have hw3 : IntKind.i64.wrap ((m : Int) + 1 - 1) = (m : Int) := by rw [show (m : Int) + 1 - 1 = m by omega]; exact IntWalk.i64_in _ (by omega)
      have i1 : (0 : Int) ≤ (m : Int) + 1 := by omega
      have i2 : (m : Int) + 1 < (n : Int) := by omega
      have i0 : (0 : Int) ≤ (m : Int) := by omega
      have i3 : (m : Int) < (n : Int) := by omega
      clear he hob hcell hcells n4 b0
      rw [show ((m + 1 : Nat) : Int) = (m : Int) + 1 by omega]
      go_wp2_with fail
      refine (HD.out _).mono ?_
      rintro e w' ⟨rfl, hb1⟩
      obtain ⟨hcl, hfr⟩ := bcell hb1
      have r2' : w'.cell? ⟨w.heap.size, 2, none⟩ = some (.slice (some ⟨b, off, none⟩) n c) := (hcl _ _ (by omega)).trans r2
      have c1' : w'.cell? ⟨b, off + (m + 1) * 2 + 1, none⟩ = some (.int .i64 o) := (hcl _ _ (by omega)).trans c1
      have b1' : w'.cell? ⟨b, off + m * 2 + 1, none⟩ = some (.int .i64 ob) := (hcl _ _ (by omega)).trans b1
      have HB := Lib.hid (hbw.trans (hb1.mono hsz))
      clear hcl hfr hb1 r2 c1 c0 b1 hbw
      obtain ⟨D, hDe⟩ : ∃ D, D = dayOf (a, o) := ⟨_, rfl⟩
      rw [← hDe] at d0 d1 hw ⊢
      have HDE := Lib.hid hDe
      clear hDe
      by_cases hd : D - 1 = d
      · have g3 : (D - 1 == d) = true := by simp [hd]
        have hv2 : chgV es d = o - ob := by rw [HCF.out (m + 1) (by omega) hlt (by rw [← HE.out, ← HDE.out]; exact hd), ← HE.out, Nat.add_sub_cancel, ← HOB.out]
        have HV2 := Lib.hid hv2
        have HBW := Lib.hid (below_to HB1.out HB.out)
        clear hd hv2
        go_wp2
        go_quiet (fail)
        go_wp2
        go_ret
        exact ⟨by rw [HV2.out]; rfl, below_drN HBW.out _⟩
      · have g3 : (D - 1 == d) = false := by simp [hd]
        have HDN := Lib.hid hd
        clear hd
        go_wp2
        go_roundw
        case rel =>
          refine ⟨m + 1 + 1, by omega, by omega, by go_num, fun j h1 h2 h3 => ?_, HB.out⟩
          by_cases hj : j = m + 1
          · subst hj; rw [← HE.out, ← HDE.out]; exact HDN.out
          · exact hno.out j h1 (by omega) h3
        case measure => simp [intOf]; omega
    · have HB := Lib.hid (below_to HB1.out hbw)
      have hv2 := HCN.out (fun j h1 h2 => hno.out j h1 (by omega) h2)
      have HV2 := Lib.hid hv2
      clear hbw hv2
      go_wp2
      go_ret
      exact ⟨by rw [HV2.out]; rfl, HB.out⟩

end Go.Proofs.YtibdhpffdkiggaaGreat
/- Walks of the reference of layer 11 (ref10): Entry, Table, Same. -/
namespace Go.Proofs.YtibdhpffdkiggaaGreat
open Go.RowKit
set_option linter.unusedVariables false
set_option linter.unusedSimpArgs false

set_option maxRecDepth 100000 in
set_option maxHeartbeats 2000000 in
/-- what the reference's Table answers -/
def RTabPost (b : Bool) (w : World) (e : Ending) (w' : World) : Prop := ∃ m : Int, e = .returned (.tuple #[.int .i64 m, .bool b]) ∧ Below w.heap.size w w'

end Go.Proofs.YtibdhpffdkiggaaGreat
/- Walk of the reference of layer 11: Same, of two tables that read alike. -/
namespace Go.Proofs.YtibdhpffdkiggaaGreat
open Go.RowKit
set_option linter.unusedVariables false
set_option linter.unusedSimpArgs false

end Go.Proofs.YtibdhpffdkiggaaGreat
/- Walks of the laws of layer 12: what each law's Go text answers. -/
namespace Go.Proofs.YtibdhpffdkiggaaGreat
open Go.RowKit
set_option linter.unusedVariables false
set_option linter.unusedSimpArgs false

theorem below_gr {w W W' : World} {g : Nat} (h : Below w.heap.size w W) (hg : W.grownBy W' (some g)) (hge : w.heap.size ≤ g) : Below w.heap.size w W' :=
  h.grown hg h.size (fun k hk => by simp only [Option.some.injEq] at hk; omega)

/-- the table of 'answers' -/
def ansT : List (Int × Int) := [(2272060800, 10), (2287785600, 11)]
theorem ansT_ok : okT 0 0 ansT = true := by decide +kernel
theorem ansT_64 : ∀ i, I64 (ansT.getD i (0, 0)).1 ∧ I64 (ansT.getD i (0, 0)).2 := by
  intro i
  match i with
  | 0 => simp [ansT, I64]
  | 1 => simp [ansT, I64]
  | i + 2 => simp [ansT, I64]
theorem ansT_row : (ansT.flatMap entC).toArray = #[.int .i64 2272060800, .int .i64 10, .int .i64 2287785600, .int .i64 11] := rfl

end Go.Proofs.YtibdhpffdkiggaaGreat
/- leaps.New in a walk: entries written out, the leap seconds that it yields. Own work. -/
namespace Go.Proofs.YtibdhpffdkiggaaGreat
open Go.RowKit
set_option linter.unusedVariables false
set_option linter.unusedSimpArgs false
def newLF (v : Value) : Value := .tuple #[vP (ptrB (tp v 0)) 0, vI 0]
theorem NewL.form {w : World} {v : Value} {u x : Int} {es : List (Int × Int)} {B : Nat} (h : NewL w v u x es B) : v = newLF v := h.1
theorem NewL.keep {w w' : World} {v : Value} {u x : Int} {es : List (Int × Int)} {B : Nat} (h : NewL w v u x es B) (hk : KeepT leT none w w') : NewL w' v u x es B := by
  refine ⟨h.1, h.2.1.keepT ?_ (fun b cur T fz hb hT _ => hk b cur T fz hb hT (by simp)), h.2.2⟩
  obtain ⟨q, _, ge, d, mv, _, hb, _⟩ := h.2.1
  unfold Blk at hb
  exact hk _ _ _ _ hb rfl (by simp)
theorem lnew_yes {B : Nat} {w : World} (hB : B ≤ w.heap.size) {v : Value} {es : List (Int × Int)} (hv : Ents w w.heap.size v es) {u x : Int} (hu : I64 u) (hx : I64 x) (hes : ∀ i, I64 (es.getD i (0, 0)).1 ∧ I64 (es.getD i (0, 0)).2) (hok : okT u x es = true) :
    Calls Tryz.prog 5 #[.agg #[vI u, vI x, v]] w fun e w' => ∃ v', e = .returned v' ∧ Below w.heap.size w w' ∧ NewL w' v' u x es B := by
  refine (new_yes v es u x w hv hu hx hes hok).mono ?_
  rintro e w' ⟨g, rfl, hL, hg, hb⟩
  exact ⟨_, rfl, hb, rfl, ⟨_, hL⟩, Nat.le_trans hB hg⟩
/-- entries in a block of their own -/
def EntL (w : World) (v : Value) (es : List (Int × Int)) : Prop := ∃ b, v = .slice (some ⟨b, 0, none⟩) es.length es.length ∧ w.heap[b]? = some (Obj.cells (es.flatMap entC).toArray 72 (0, 0))
def entF (n : Nat) (v : Value) : Value := .slice (sA v) n n
theorem EntL.form {w : World} {v : Value} {es : List (Int × Int)} (h : EntL w v es) : v = entF es.length v := by obtain ⟨b, rfl, _⟩ := h; rfl
theorem EntL.keep {w w' : World} {v : Value} {es : List (Int × Int)} (h : EntL w v es) (hk : KeepT [72] none w w') : EntL w' v es := by
  obtain ⟨b, rfl, hb⟩ := h
  exact ⟨b, rfl, (hk _ _ _ _ hb rfl (by simp)).trans hb⟩
theorem EntL.ents {w : World} {v : Value} {es : List (Int × Int)} (h : EntL w v es) (hl : es.length ≤ 9223372036854775807) : Ents w w.heap.size v es := by
  obtain ⟨b, rfl, hb⟩ := h
  exact Blk.ents (g := b) (t := 72) hb (Nat.le_refl _) hl (lt_of_some hb)
theorem At.ent {R : Reg} {i : Nat} {D : Nat → Bool} {env : Env} {a : Act} {w : World} (h : At R i D env a w) (j : Nat) {n : Nat} {es : List (Int × Int)} (hn : es.length = n) (hl : n ≤ 9223372036854775807) (hj : ((R.cl.getD i []).contains j && !(j == i)) = true) (hs : ((R.cl.getD j []).contains j) = true) (hF : R.F.filter (fun p => Nat.beq p.1 j) = [(j, fun env w => EntL w (env j) es)]) : Ents w w.heap.size (.slice (sA (env j)) n n) es := by
  subst hn
  have h1 : EntL w (env j) es := h.fact j (φ := fun v w => EntL w v es) hj hs hF
  have h2 := h1.ents hl
  rw [h1.form] at h2
  exact h2
section
variable {P : Program} {R : Reg} {Q : Exit → Act → World → Prop} {i : Nat} {o : Oper}
theorem s_bsE (ho : R.ops[i]? = some o) (hf : free' R i = true) (hw : ∀ {D env a w}, At R i D env a w → Region.wanted o (yielded R.ops a.tmps) = true) (es : List (Int × Int)) (n : Nat) (hn : es.length = n) (cs : Array Value) (hcs : (es.flatMap entC).toArray = cs) (hV : R.v? i = some fun env => entF n (env i)) (hF : R.F.filter (fun p => Nat.beq p.1 i) = [(i, fun env w => EntL w (env i) es)]) (hint : tFree [72] R = true) (hx : R.ex = none)
    (hrun : ∀ {D env a w}, At R i D env a w → (execOp a.eval o).run P w = .ok (.value (.slice (some ⟨w.heap.size, 0, none⟩) n n)) (w.alloc (.cells cs 72 (0, 0)))) : SR P Q R i :=
  s_gen ho hf (fun {D env a w} hA K hK => by
    subst hn
    subst hcs
    rw [if_pos (hw hA)]
    unfold Oper.wp
    rw [hrun hA]
    have hs' := hA.j.st.call (w' := w.alloc (.cells (es.flatMap entC).toArray 72 (0, 0))) ⟨rfl, rfl, rfl, by simp, fun k hk => Below.heap_alloc _ _ _ hk⟩
    have hkt := fun w'' (ha : Apart (R.mem _ _) none _ w'') => apart_keepT (w' := w'') hint hs' (.inl hx.symm) ha
    rw [hx] at hkt
    refine hK _ _ hs' (fun w'' ha => f_fact (φ := fun v w => EntL w v es) (form := entF es.length) hV (fun v w h => h.form) hF hA.ok ho (EntL.keep ⟨w.heap.size, rfl, heap_alloc_new w _⟩ (hkt w'' (by rw [hx] at ha; exact ha)))))
end
/-- from here on they are the state, whatever else was told -/
theorem Cur.exInF {n : Nat} {w0 : World} {Θ : World → Prop} {L : Slots} {M : List Ent} {a : Act} {w : World} {v : Value} {u x : Int} {es : List (Int × Int)} {Fs : List (World → Prop)} (h : Cur n w0 none none (Facts Fs) Θ L M a w) (k : Nat) (hk : Fs[k]? = some (fun w => NewL w v u x es w0.heap.size)) : Cur n w0 none (some (ptrB (tp v 0))) (Facts []) (fun w => IsLx w (ptrB (tp v 0)) u x es) L M a w :=
  Cur.exInL (v := v) ⟨h.sz, h.df, h.st.mono (fun _ hF φ hφ => by
    obtain rfl := List.mem_singleton.1 hφ
    exact hF.get k hk) (fun _ h => h), h.sl⟩
theorem Ents.gn {w w' : World} {v : Value} {es : List (Int × Int)} (h : Ents w w.heap.size v es) (hg : w.grownBy w' none) : Ents w' w'.heap.size v es :=
  (h.below ⟨hg.os, hg.tape, hg.output, hg.size, fun i hi => hg.block i hi (by simp)⟩).mono hg.size
theorem ans_cs : (ansT.flatMap entC).toArray = #[vI 2272060800, vI 10, vI 2287785600, vI 11] := rfl
end Go.Proofs.YtibdhpffdkiggaaGreat
/- utc without leap seconds; layer 13's answers (printed by my walk.py) -/
namespace Go.Proofs.YtibdhpffdkiggaaGreat
open Go.RowKit
set_option linter.unusedVariables false
set_option linter.unusedSimpArgs false
attribute [local go_sem] vN bT bF rS vW vM vL vT2 vT3 vP vI execOp Act.eval evC bigF vB hi_zero lo_zero Tryz.underlying24 Tryz.underlying26 Tryz.underlying34 Tryz.underlying72

set_option maxRecDepth 100000 in
set_option maxHeartbeats 8000000 in
theorem ucheck_nil (d s a : Int) : Ret 17 #[.pointer none, vL d s a] (vI 12) := by
  intro w0
  have hst := St.start w0 (Θ := fun _ => True) (fun _ _ => trivial)
  refine enter Tryz.func17 rfl (n := 35) rfl (Nat.le_of_ble_eq_true rfl) hst (L := [(0, .pointer none), (1, vL d s a)]) (lk_args rfl) (fun ac h => ?_)
  refine wp_seq ?_
  refine rg_ h [[0],[1]] [KE_ fun env => vP (pb env 0) 0, K_ (vI 0)] (fun E1 => [(0, .pointer none), (3, vP (pb E1 0) 0), (4, vI 0)]) (W := [{ i := 0, T := 26, c0 := [vI d, vI s, vI a] }]) (M' := fun E1 => [((pb E1 0), 26, [vI d, vI s, vI a])]) (hs := c_ (bx0 0 (vL d s a)) <| c_ mv_ <| e_) (k := fun E1 ac wd h_1 => ?_)
  clear h
  refine then_n (wp_seq (wp_block (wp_seq ?_)))
  refine rg_ h_1 (tri 3) [K_ (.pointer none), K_ bT, K_ bT] (fun E2 => [(0, .pointer none), (3, vP (pb E1 0) 0), (4, vI 0), (7, bT)]) (hs := c_ mv_ <| c_ (bi0 (.pointer none) (.pointer none)) <| c_ mv_ <| e_) (k := fun E2 ac wd h_2 => ?_)
  clear h_1
  refine then_n ?_
  refine wp_cond_true (eval_tmp (h_2.g (t := 7) rfl)) ?_
  refine wp_seq ?_
  refine rg_ h_2 [[0]] [K_ (vI 12)] (fun E3 => [(0, .pointer none), (3, vP (pb E1 0) 0), (4, vI 12)]) (hs := c_ mv_ <| e_) (k := fun E3 ac wd h_3 => ?_)
  clear h_2
  refine then_n (wp_ret (blk_ret (then_ret ?_)))
  have s4 := h_3.g (t := 4) rfl
  refine leave (v := vI 12) h_3.df (by simp [results, Tryz.results17, go_sem, Array.getD_eq_getD_getElem?, s4]) ?_
  exact ⟨rfl, h_3.st.below⟩
set_option maxRecDepth 100000 in
set_option maxHeartbeats 8000000 in
theorem uexists_nil (d s a : Int) : Ret 9 #[.pointer none, vL d s a] (.bool false) := by
  intro w0
  have hst := St.start w0 (Θ := fun _ => True) (fun _ _ => trivial)
  refine enter Tryz.func9 rfl (n := 9) rfl (Nat.le_of_ble_eq_true rfl) hst (L := [(0, .pointer none), (1, vL d s a)]) (lk_args rfl) (fun ac h => ?_)
  refine wp_seq ?_
  refine rg_ h [[0],[1]] [KE_ fun env => vP (pb env 0) 0, K_ bF] (fun E1 => [(0, .pointer none), (3, vP (pb E1 0) 0), (4, bF)]) (W := [{ i := 0, T := 26, c0 := [vI d, vI s, vI a] }]) (M' := fun E1 => [((pb E1 0), 26, [vI d, vI s, vI a])]) (hs := c_ (bx0 0 (vL d s a)) <| c_ mv_ <| e_) (k := fun E1 ac wd h_1 => ?_)
  clear h
  refine then_n (wp_seq ?_)
  refine rg_ h_1 [[0],[1],[0,1,2],r_ 4,r_ 5] [K_ (.pointer none), K_ (vL d s a), K_ (vI 12), K_ bF, K_ bF] (fun E2 => [(4, bF)]) (hs := c_ mv_ <| c_ (ld_ 0 (hrd := by exact rd26 rfl rfl rfl)) <| c_ (cl_ Tryz.func17 (h := fun env => ⟨_, (ucheck_nil d s a), rfl⟩)) <| c_ (bi0 (vI 12) (vI 0)) <| c_ mv_ <| e_) (k := fun E2 ac wd h_2 => ?_)
  clear h_1
  refine then_n (wp_ret ?_)
  have s4 := h_2.g (t := 4) rfl
  refine leave (v := .bool false) h_2.df (by simp [results, Tryz.results9, go_sem, Array.getD_eq_getD_getElem?, s4]) ?_
  exact ⟨rfl, h_2.st.below⟩
set_option maxRecDepth 100000 in
set_option maxHeartbeats 8000000 in
theorem utai_nil (d s a : Int) : Ret 7 #[.pointer none, vL d s a] (vT2 (vW 0) (vI 12)) := by
  intro w0
  have hst := St.start w0 (Θ := fun _ => True) (fun _ _ => trivial)
  refine enter Tryz.func7 rfl (n := 34) rfl (Nat.le_of_ble_eq_true rfl) hst (L := [(0, .pointer none), (1, vL d s a)]) (lk_args rfl) (fun ac h => ?_)
  refine wp_seq ?_
  refine rg_ h [[0],[1],[2]] [KE_ fun env => vP (pb env 0) 0, KE_ fun env => vP (pb env 1) 0, K_ (vI 0)] (fun E1 => [(0, .pointer none), (3, vP (pb E1 0) 0), (4, vP (pb E1 1) 0), (5, vI 0)]) (W := [{ i := 0, T := 26, c0 := [vI d, vI s, vI a] }, { i := 1, T := 34, c0 := [vI 0, .int .u64 0] }]) (M' := fun E1 => [((pb E1 0), 26, [vI d, vI s, vI a]), ((pb E1 1), 34, [vI 0, .int .u64 0])]) (hs := c_ (bx0 0 (vL d s a)) <| c_ (al_ 1) <| c_ mv_ <| e_) (k := fun E1 ac wd h_1 => ?_)
  clear h
  refine then_n (wp_seq (wp_seq ?_))
  refine rg_ h_1 [[0],[1],[0,1,2],r_ 4] [K_ (.pointer none), K_ (vL d s a), K_ (vI 12), K_ (vI 12)] (fun E2 => [(0, .pointer none), (3, vP (pb E1 0) 0), (4, vP (pb E1 1) 0), (5, vI 0), (6, vI 12)]) (hs := c_ mv_ <| c_ (ld_ 0 (hrd := by exact rd26 rfl rfl rfl)) <| c_ (cl_ Tryz.func17 (h := fun env => ⟨_, (ucheck_nil d s a), rfl⟩)) <| c_ mv_ <| e_) (k := fun E2 ac wd h_2 => ?_)
  clear h_1
  refine then_n (wp_seq ?_)
  refine rg_ h_2 [[0],[0,1]] [K_ (vI 12), K_ bT] (fun E3 => [(0, .pointer none), (3, vP (pb E1 0) 0), (4, vP (pb E1 1) 0), (5, vI 0), (6, vI 12), (13, bT)]) (hs := c_ mv_ <| c_ (bi0 (vI 12) (vI 0)) <| e_) (k := fun E3 ac wd h_3 => ?_)
  clear h_2
  refine then_n ?_
  refine wp_cond_true (eval_tmp (h_3.g (t := 13) rfl)) ?_
  refine wp_seq ?_
  refine rg_ h_3 [[0],[1],[0,2],r_ 4] [K_ (.agg #[vI 0, .int .u64 0]), K_ (vI 12), none, K_ (vI 12)] (fun E4 => [(0, .pointer none), (3, vP (pb E1 0) 0), (4, vP (pb E1 1) 0), (5, vI 12)]) (S := [⟨1, 2, fun _ => [vI 0, .int .u64 0]⟩]) (M' := fun E4 => [((pb E1 0), 26, [vI d, vI s, vI a]), ((pb E1 1), 34, [vI 0, .int .u64 0])]) (hs := c_ (bd0 ([])) <| c_ mv_ <| c_ (se_ 1 (hst := by exact fun _ _ _ hc => st34 rfl rfl rfl hc)) <| c_ mv_ <| e_) (k := fun E4 ac wd h_4 => ?_)
  clear h_3
  refine then_n (wp_ret (then_ret ?_))
  have s4 := h_4.g (t := 4) rfl
  have hc4 := (h_4.st.own 1 _ rfl).2
  have c4_0 := own_cell (o := 0) hc4 rfl
  have c4_1 := own_cell (o := 1) hc4 rfl
  have s5 := h_4.g (t := 5) rfl
  refine leave (v := vT2 (.agg #[vI 0, .int .u64 0]) (vI 12)) h_4.df (by simp [results, Tryz.results7, go_sem, Array.getD_eq_getD_getElem?, s4, c4_0, c4_1, Tryz.underlying34, s5]) ?_
  exact ⟨rfl, h_4.st.below⟩
set_option maxRecDepth 100000 in
set_option maxHeartbeats 8000000 in
theorem ulabel_nil (z : Int) : Ret 13 #[.pointer none, vW z] (vT2 (vL 0 0 0) (vI 12)) := by
  intro w0
  have hst := St.start w0 (Θ := fun _ => True) (fun _ _ => trivial)
  refine enter Tryz.func13 rfl (n := 85) rfl (Nat.le_of_ble_eq_true rfl) hst (L := [(0, .pointer none), (1, vW z)]) (lk_args rfl) (fun ac h => ?_)
  refine wp_seq ?_
  refine rg_ h [[0],[1],[2]] [KE_ fun env => vP (pb env 0) 0, KE_ fun env => vP (pb env 1) 0, K_ (vI 0)] (fun E1 => [(0, .pointer none), (3, vP (pb E1 0) 0), (4, vP (pb E1 1) 0), (5, vI 0)]) (W := [{ i := 0, T := 34, c0 := [vI (hi (z)), .int .u64 (lo (z))] }, { i := 1, T := 26, c0 := [vI 0, vI 0, vI 0] }]) (M' := fun E1 => [((pb E1 0), 34, [vI (hi (z)), .int .u64 (lo (z))]), ((pb E1 1), 26, [vI 0, vI 0, vI 0])]) (hs := c_ (bx0 0 (vW z)) <| c_ (al_ 1) <| c_ mv_ <| e_) (k := fun E1 ac wd h_1 => ?_)
  clear h
  refine then_n (wp_seq (wp_seq ?_))
  refine rg_ h_1 [[0],[0,1]] [K_ (.pointer none), K_ bT] (fun E2 => [(0, .pointer none), (3, vP (pb E1 0) 0), (4, vP (pb E1 1) 0), (5, vI 0), (18, bT)]) (hs := c_ mv_ <| c_ (bi0 (.pointer none) (.pointer none)) <| e_) (k := fun E2 ac wd h_2 => ?_)
  clear h_1
  refine then_n ?_
  refine wp_cond_true (eval_tmp (h_2.g (t := 18) rfl)) ?_
  refine wp_seq ?_
  refine rg_ h_2 (tri 3) [K_ (vL 0 0 0), none, K_ (vI 12)] (fun E3 => [(0, .pointer none), (3, vP (pb E1 0) 0), (4, vP (pb E1 1) 0), (5, vI 12)]) (S := [⟨1, 1, fun _ => [vI 0, vI 0, vI 0]⟩]) (M' := fun E3 => [((pb E1 0), 34, [vI (hi (z)), .int .u64 (lo (z))]), ((pb E1 1), 26, [vI 0, vI 0, vI 0])]) (hs := c_ (bd0 ([])) <| c_ (se_ 1 (hst := by exact fun _ _ _ hc => st26 rfl rfl rfl rfl hc)) <| c_ mv_ <| e_) (k := fun E3 ac wd h_3 => ?_)
  clear h_2
  refine then_n (wp_ret (then_ret ?_))
  have s4 := h_3.g (t := 4) rfl
  have hc4 := (h_3.st.own 1 _ rfl).2
  have c4_0 := own_cell (o := 0) hc4 rfl
  have c4_1 := own_cell (o := 1) hc4 rfl
  have c4_2 := own_cell (o := 2) hc4 rfl
  have s5 := h_3.g (t := 5) rfl
  refine leave (v := vT2 (vL 0 0 0) (vI 12)) h_3.df (by simp [results, Tryz.results13, go_sem, Array.getD_eq_getD_getElem?, s4, c4_0, c4_1, c4_2, Tryz.underlying26, s5]) ?_
  exact ⟨rfl, h_3.st.below⟩
theorem ans_t : vT2 (vW (taiU ansT 41498 86400 5)) (vI (whyU ansT 41498 86400 5)) = vT2 (vW 3585513610000000000000000005) (vI 0) := by
  rw [show taiU ansT 41498 86400 5 = 3585513610000000000000000005 by decide +kernel, show whyU ansT 41498 86400 5 = 0 by decide +kernel]
theorem ans_l : vT2 (vL (labUt ansT 3585513610000000000000000005).2.1 (labUt ansT 3585513610000000000000000005).2.2.1 (labUt ansT 3585513610000000000000000005).2.2.2) (vI (labUt ansT 3585513610000000000000000005).1) = vT2 (vL 41498 86400 5) (vI 0) := by
  rw [show labUt ansT 3585513610000000000000000005 = (0, 41498, 86400, 5) by decide +kernel]
theorem ans_e1 : Value.bool (whyU ansT 41498 86400 5 == 0) = .bool true := by rw [show whyU ansT 41498 86400 5 = 0 by decide +kernel]; rfl
theorem ans_e2 : Value.bool (whyU ansT 41497 86400 0 == 0) = .bool false := by rw [show whyU ansT 41497 86400 0 = 6 by decide +kernel]; rfl
set_option maxRecDepth 100000 in
set_option maxHeartbeats 8000000 in
theorem answers13_any  : Ret 6 #[] (.bool true) := by
  intro w0
  have hst := St.start w0 (Θ := fun _ => True) (fun _ _ => trivial)
  refine enter Tryz.func6 rfl (n := 55) rfl (Nat.le_of_ble_eq_true rfl) hst (L := []) (lk_args rfl) (fun ac h => ?_)
  replace h := h.facts
  refine wp_seq ?_
  refine rf_ h [[0]] [K_ bF] (fun E1 => [(0, bF)]) (hs := c_ mv_ <| e_) (k := fun E1 ac wd h_1 => ?_)
  clear h
  refine then_n (wp_seq ?_)
  refine rf_ h_1 [[0],[1],[0,1,2],r_ 4,r_ 5,r_ 6,r_ 7,[0,1,2,3,4,5,7],[0,1,2,3,4,5,6,8],r_ 10] [K_ (.agg #[vI 2272060800, vI 10]), K_ (.agg #[vI 2287785600, vI 11]), KE_ fun env => .slice ((sA (env 2))) 2 2, KE_ fun env => .agg #[vI 0, vI 0, .slice ((sA (env 2))) 2 2], KE_ fun env => vT2 (vP (ptrB (tp (env 4) 0)) 0) (vI 0), KE_ fun env => vT2 (vP (ptrB (tp (env 4) 0)) 0) (vI 0), KE_ fun env => vP (ptrB (tp (env 4) 0)) 0, K_ (vI 0), KE_ fun env => vP (ptrB (tp (env 4) 0)) 0, K_ (vI 0)] (fun E2 => [(0, bF), (1, vP (ptrB (tp (E2 4) 0)) 0), (2, vI 0)]) (F := [(2, fun env w => EntL w (env 2) ansT), (4, fun env w => NewL w (env 4) 0 0 ansT w0.heap.size)]) (L1 := fun E2 => [fun w => EntL w (E2 2) ansT, fun w => NewL w (E2 4) 0 0 ansT w0.heap.size]) (hs := c_ (bd0 ([vI 2272060800, vI 10])) <| c_ (bd0 ([vI 2287785600, vI 11])) <| c_ (s_bsE rfl rfl (fun _ => wanted_none rfl _) ansT 2 rfl #[vI 2272060800, vI 10, vI 2287785600, vI 11] ans_cs rfl rfl rfl rfl (fun {D env ac wd} hA => by have e9 : ac.tmps[9]? = some (.agg #[vI 2272060800, vI 10]) := hA.g rfl; have e10 : ac.tmps[10]? = some (.agg #[vI 2287785600, vI 11]) := hA.g rfl; simp [go_sem, e9, e10, Tryz.underlying22])) <| c_ (bd_ (fun env => [.slice ((sA (env 2))) 2 2])) <| c_ (s_factT rfl rfl rfl Tryz.func5 (by kernel_rfl) rfl (fun _ => wanted_none rfl _) (fun v w => NewL w v 0 0 ansT w0.heap.size) newLF rfl rfl leT rfl (fun v w h => h.form) (fun v w w' hk h => h.keep hk) (fun {D env ac wd} hA => ⟨_, hA.args (vs := [.agg #[vI 0, vI 0, .slice ((sA (env 2))) 2 2]]) rfl, lnew_yes hA.j.st.gr.size (At.ent hA 2 rfl (by decide) rfl rfl rfl) (by simp [I64]) (by simp [I64]) ansT_64 ansT_ok⟩)) <| c_ mv_ <| c_ ext_ <| c_ ext_ <| c_ mv_ <| c_ mv_ <| e_) (k := fun E2 ac wd h_2 => ?_)
  clear h_1
  refine then_n (wp_seq ?_)
  replace h_2 := Cur.exInF h_2 1 rfl; generalize ptrB (tp (E2 4) 0) = g at h_2
  refine rf_ h_2 [[0],[1],[0,1,2]] [K_ (vL 41498 86400 5), KE_ fun env => vP (pb env 1) 0, none] (fun E3 => [(0, bF), (1, vP g 0), (2, vI 0), (3, vP (pb E3 1) 0)]) (W := [{ i := 1, T := 26, c0 := [vI 0, vI 0, vI 0], s := some 2, c1 := fun _ => [vI 41498, vI 86400, vI 5] }]) (M' := fun E3 => [((pb E3 1), 26, [vI 41498, vI 86400, vI 5])]) (hs := c_ (bd0 ([vI 41498, vI 86400, vI 5])) <| c_ (al_ 0) <| c_ (sw_ 0 1 (hst := by exact fun _ _ _ hc => st26 rfl rfl rfl rfl hc)) <| e_) (k := fun E3 ac wd h_3 => ?_)
  clear h_2
  refine then_n (wp_seq ?_)
  refine rf_ h_3 [[0],[1],[0,1,2],r_ 4,r_ 5,[0,1,2,3,5],[6],[0,1,2,3,4,6,7],r_ 9] [K_ (vP g 0), K_ (vL 41498 86400 5), K_ (vT2 (vW 3585513610000000000000000005) (vI 0)), K_ (vT2 (vW 3585513610000000000000000005) (vI 0)), K_ (vW 3585513610000000000000000005), K_ (vI 0), KE_ fun env => vP (pb env 6) 0, none, K_ (vI 0)] (fun E4 => [(0, bF), (1, vP g 0), (2, vI 0), (3, vP (pb E3 1) 0), (4, vP (pb E4 6) 0), (5, vI 0)]) (W := [{ i := 6, T := 34, c0 := [vI 0, .int .u64 0], s := some 7, c1 := fun _ => [vI (hi (3585513610000000000000000005)), .int .u64 (lo (3585513610000000000000000005))] }]) (M' := fun E4 => [((pb E3 1), 26, [vI 41498, vI 86400, vI 5]), ((pb E4 6), 34, [vI (hi (3585513610000000000000000005)), .int .u64 (lo (3585513610000000000000000005))])]) (hs := c_ mv_ <| c_ (ld_ 0 (hrd := by exact rd26 rfl rfl rfl)) <| c_ (s_leap (g := g) (u := 0) (x := 0) (es := ansT) Tryz.func7 (fun _ h => h) (fun _ h => h) (h := fun D env ac wd hA hL => ⟨_, LeapC.eq (utai_l _ g 0 0 ansT hL 41498 86400 5) ans_t, rfl⟩)) <| c_ mv_ <| c_ ext_ <| c_ ext_ <| c_ (al_ 1) <| c_ (sw_ 1 6 (hst := by exact fun _ _ _ hc => st34 rfl rfl rfl hc)) <| c_ mv_ <| e_) (k := fun E4 ac wd h_4 => ?_)
  clear h_3
  refine then_n (wp_seq ?_)
  refine rf_ h_4 [[0],[1],[0,1,2],r_ 4,r_ 5,[0,1,2,3,5],[6],[0,1,2,3,4,6,7],r_ 9] [K_ (vP g 0), K_ (vW 3585513610000000000000000005), K_ (vT2 (vL 41498 86400 5) (vI 0)), K_ (vT2 (vL 41498 86400 5) (vI 0)), K_ (vL 41498 86400 5), K_ (vI 0), KE_ fun env => vP (pb env 6) 0, none, K_ (vI 0)] (fun E5 => [(0, bF), (1, vP g 0), (2, vI 0), (3, vP (pb E3 1) 0), (5, vI 0), (6, vP (pb E5 6) 0), (7, vI 0)]) (W := [{ i := 6, T := 26, c0 := [vI 0, vI 0, vI 0], s := some 7, c1 := fun _ => [vI 41498, vI 86400, vI 5] }]) (M' := fun E5 => [((pb E3 1), 26, [vI 41498, vI 86400, vI 5]), ((pb E4 6), 34, [vI (hi (3585513610000000000000000005)), .int .u64 (lo (3585513610000000000000000005))]), ((pb E5 6), 26, [vI 41498, vI 86400, vI 5])]) (hs := c_ mv_ <| c_ (ld_ 1 (hrd := by exact rd34 rfl rfl)) <| c_ (s_leap (g := g) (u := 0) (x := 0) (es := ansT) Tryz.func13 (fun _ h => h) (fun _ h => h) (h := fun D env ac wd hA hL => ⟨_, LeapC.eq (ulabel_l _ g 0 0 ansT hL 3585513610000000000000000005 (by unfold InW; omega)) ans_l, rfl⟩)) <| c_ mv_ <| c_ ext_ <| c_ ext_ <| c_ (al_ 2) <| c_ (sw_ 2 6 (hst := by exact fun _ _ _ hc => st26 rfl rfl rfl rfl hc)) <| c_ mv_ <| e_) (k := fun E5 ac wd h_5 => ?_)
  clear h_4
  refine then_n (wp_seq ?_)
  refine rf_ h_5 [[0],[0,1],[0,1,2],r_ 4,r_ 5,r_ 6,r_ 7,r_ 8,r_ 9,r_ 10,r_ 11,r_ 12,[0,1,2,3,4,5,6,7,8,9,10,12],r_ 14,r_ 15,r_ 16,r_ 17,[0,1,2,3,4,5,6,7,8,9,10,11,12,13,14,15,17],r_ 19,r_ 20,r_ 21,r_ 22,[0,1,2,3,4,5,6,7,8,9,10,11,12,13,14,15,16,17,18,19,20,22],r_ 24,r_ 25,r_ 26,r_ 27] [K_ (vI 0), K_ bT, K_ bT, K_ (vI 0), K_ bT, K_ bT, K_ bT, K_ (vI 0), K_ bT, K_ bT, K_ bT, K_ (vL 41498 86400 5), K_ (vL 41498 86400 5), K_ bT, K_ bT, K_ bT, K_ (vP g 0), K_ (vL 41498 86400 5), K_ bT, K_ bT, K_ bT, K_ (vP g 0), K_ (vL 41497 86400 0), K_ bF, K_ bT, K_ bT, K_ bT] (fun E6 => [(0, bT)]) (hs := c_ mv_ <| c_ (bi0 (vI 0) (vI 0) (h := by intro env w; (first | (simp [go_sem]; done) | (simp [go_sem]; rfl)))) <| c_ mv_ <| c_ (gm0 (vI 0)) <| c_ (bi0 (vI 0) (vI 0) (h := by intro env w; (first | (simp [go_sem]; done) | (simp [go_sem]; rfl)))) <| c_ (pk0 bT bT bF (h := by intro env w; (first | (simp [go_sem]; done) | (simp [go_sem]; rfl)))) <| c_ mv_ <| c_ (gm0 (vI 0)) <| c_ (bi0 (vI 0) (vI 0) (h := by intro env w; (first | (simp [go_sem]; done) | (simp [go_sem]; rfl)))) <| c_ (pk0 bT bT bF (h := by intro env w; (first | (simp [go_sem]; done) | (simp [go_sem]; rfl)))) <| c_ mv_ <| c_ (ld_ 0 (hrd := by exact rd26 rfl rfl rfl)) <| c_ (ld_ 2 (hrd := by exact rd26 rfl rfl rfl)) <| c_ (bi0 (vL 41498 86400 5) (vL 41498 86400 5) (h := by intro env w; (first | (simp [go_sem]; done) | (simp [go_sem]; rfl)))) <| c_ (pk0 bT bT bF (h := by intro env w; (first | (simp [go_sem]; done) | (simp [go_sem]; rfl)))) <| c_ mv_ <| c_ (gm0 (vP g 0)) <| c_ (ld_ 0 (hrd := by exact rd26 rfl rfl rfl)) <| c_ (s_leap (g := g) (u := 0) (x := 0) (es := ansT) Tryz.func9 (fun _ h => h) (fun _ h => h) (h := fun D env ac wd hA hL => ⟨_, LeapC.eq (uexists_l _ g 0 0 ansT hL 41498 86400 5) ans_e1, rfl⟩)) <| c_ (pk0 bT bT bF) <| c_ mv_ <| c_ (gm0 (vP g 0)) <| c_ (bd0 ([vI 41497, vI 86400])) <| c_ (s_leap (g := g) (u := 0) (x := 0) (es := ansT) Tryz.func9 (fun _ h => h) (fun _ h => h) (h := fun D env ac wd hA hL => ⟨_, LeapC.eq (uexists_l _ g 0 0 ansT hL 41497 86400 0) ans_e2, rfl⟩)) <| c_ (un0 bF) <| c_ (pk0 bT bT bF) <| c_ mv_ <| e_) (k := fun E6 ac wd h_6 => ?_)
  clear h_5
  refine then_n (wp_ret ?_)
  have s0 := h_6.g (t := 0) rfl
  refine leave (v := .bool true) h_6.df (by simp [results, Tryz.results6, go_sem, Array.getD_eq_getD_getElem?, s0]) ?_
  exact ⟨rfl, h_6.st.below⟩
end Go.Proofs.YtibdhpffdkiggaaGreat
/- The plain law of utc: a label comes again out of its instant, an instant out of its label. Own work. -/
namespace Go.Proofs.YtibdhpffdkiggaaGreat
open Go.RowKit
set_option linter.unusedVariables false
set_option linter.unusedSimpArgs false
theorem tup4 {a b c d a' b' c' d' : Int} (h1 : a = a') (h2 : b = b') (h3 : c = c') (h4 : d = d') : (a, b, c, d) = (a', b', c', d') := by subst h1; subst h2; subst h3; subst h4; rfl
section
variable {es : List (Int × Int)} (h : okPre es es.length = true) (hn : 0 < es.length)
include h
theorem off_step {k : Nat} (hk : k + 1 < es.length) : (es.getD (k + 1) (0, 0)).2 = (es.getD k (0, 0)).2 + 1 ∨ (es.getD (k + 1) (0, 0)).2 = (es.getD k (0, 0)).2 - 1 := (okE_step hk (okPre_at h hk)).2
/-- which entry holds, by its bounds -/
theorem cnt_is (d : Int) {k : Nat} (hk : k ≤ es.length) (h1 : 0 < k → dayOf (es.getD (k - 1) (0, 0)) ≤ d) (h2 : k < es.length → d < dayOf (es.getD k (0, 0))) : cnt dayOf es d = k := by
  have hle := cnt_le dayOf es d
  rcases Nat.lt_trichotomy (cnt dayOf es d) k with hl | he | hg
  · have e1 := (cnt_day h d (i := k - 1) (by omega)).1 (h1 (by omega)); omega
  · exact he
  · have e1 := (cnt_day h d (i := k) (by omega)).2 hg; have := h2 (by omega); omega
theorem cnt_isS (s : Int) {k : Nat} (hk : k ≤ es.length) (h1 : 0 < k → startOf (es.getD (k - 1) (0, 0)) ≤ s) (h2 : k < es.length → s < startOf (es.getD k (0, 0))) : cnt startOf es s = k := by
  have hle := cnt_le startOf es s
  rcases Nat.lt_trichotomy (cnt startOf es s) k with hl | he | hg
  · have e1 := (cnt_start h s (i := k - 1) (by omega)).1 (h1 (by omega)); omega
  · exact he
  · have e1 := (cnt_start h s (i := k) (by omega)).2 hg; have := h2 (by omega); omega
/-- the change of a day by which entry holds -/
theorem chg_at (d : Int) {k : Nat} (hc : cnt dayOf es d = k) (hk0 : 0 < k) : (k < es.length → dayOf (es.getD k (0, 0)) - 1 = d → chgV es d = (es.getD k (0, 0)).2 - (es.getD (k - 1) (0, 0)).2) ∧ ((k < es.length → dayOf (es.getD k (0, 0)) - 1 ≠ d) → chgV es d = 0) := by
  refine ⟨fun hk he => chg_found h d hk0 hk he, fun hne => chg_none d fun j hj hjn he => ?_⟩
  have e1 := cnt_day h d hjn
  rcases Nat.lt_trichotomy j k with hl | he' | hg
  · have := e1.2 (by omega); omega
  · subst he'; exact hne hjn he
  · have e2 := cnt_day h d (i := j - 1) (by omega)
    have e3 := (day_step h (k := j - 1) (by omega)).1
    rw [show j - 1 + 1 = j by omega] at e3
    have : ¬ dayOf (es.getD (j - 1) (0, 0)) ≤ d := fun hh => by have := e2.1 hh; omega
    omega
include hn
theorem day0_le (d : Int) (hd : day0 es ≤ d) : 0 < cnt dayOf es d := (cnt_day h d hn).1 hd
theorem utc_back {d s a : Int} (hw : whyU es d s a = 0) : InW (taiU es d s a) ∧ labUt es (taiU es d s a) = (0, d, s, a) := by
  obtain ⟨q0, q1, q2, q3, q4, q5, q6, q7⟩ := whyU_ok hw
  have hk0 := day0_le h hn d q6
  obtain ⟨k, hc⟩ : ∃ k, cnt dayOf es d = k := ⟨_, rfl⟩
  have hkn := cnt_le dayOf es d
  rw [hc] at hk0 hkn
  have d1 := (cnt_day h d (i := k - 1) (by omega)).2 (by omega)
  obtain ⟨c1, c2⟩ := chg_at h d hc hk0
  have ho : offV es d = (es.getD (k - 1) (0, 0)).2 := by unfold offV; rw [if_neg (by omega), hc]
  have hb := okPre_num h (i := k - 1) (by omega)
  obtain ⟨o, eo⟩ : ∃ o, (es.getD (k - 1) (0, 0)).2 = o := ⟨_, rfl⟩
  obtain ⟨D1, eD1⟩ : ∃ D1, dayOf (es.getD (k - 1) (0, 0)) = D1 := ⟨_, rfl⟩
  obtain ⟨a1, ea1⟩ : ∃ a1, (es.getD (k - 1) (0, 0)).1 = a1 := ⟨_, rfl⟩
  have hS1 : startOf (es.getD (k - 1) (0, 0)) = D1 * 86400 + o := by unfold startOf; rw [eD1, eo]
  have ht : taiU es d s a = (d * 86400 + s + o) * 1000000000000000000 + a := by unfold taiU; rw [if_pos hw, ho, eo]
  simp only [List.getD_eq_getElem?_getD] at *
  rw [eo, ea1] at hb
  rw [eD1] at d1
  rw [eo] at c1
  have e1 : ((d * 86400 + s + o) * 1000000000000000000 + a) / 1000000000000000000 = d * 86400 + s + o := by omega
  have e2 : ((d * 86400 + s + o) * 1000000000000000000 + a) % 1000000000000000000 = a := by omega
  -- what the next entry says
  have hnext : k < es.length → ∃ D2 o2, dayOf (es[k]?.getD (0, 0)) = D2 ∧ (es[k]?.getD (0, 0)).2 = o2 ∧ d < D2 ∧ (o2 = o + 1 ∨ o2 = o - 1) ∧ (D2 - 1 = d → chgV es d = o2 - o) := by
    intro hk
    have e3 := fun hh => (cnt_day h d hk).1 hh
    have e4 := off_step h (k := k - 1) (by omega)
    rw [show k - 1 + 1 = k by omega] at e4
    simp only [List.getD_eq_getElem?_getD] at e3 e4
    rw [eo] at e4
    refine ⟨_, _, rfl, rfl, ?_, e4, fun hh => c1 hk hh⟩
    refine Int.not_le.1 fun hh => ?_
    have := e3 hh
    omega
  have hcs : cnt startOf es (d * 86400 + s + o) = k := by
    refine cnt_isS h _ hkn (fun _ => ?_) (fun hk => ?_)
    · simp only [List.getD_eq_getElem?_getD]; rw [hS1]; omega
    · obtain ⟨D2, o2, e3, e4, e5, e6, e7⟩ := hnext hk
      simp only [List.getD_eq_getElem?_getD]
      unfold startOf
      rw [e3, e4]
      by_cases hD : D2 - 1 = d
      · have := e7 hD; omega
      · omega
  have hz : cnt startOf es (d * 86400 + s + o) ≠ 0 := by omega
  have hV : atV es (d * 86400 + s + o) = o := by
    unfold atV
    rw [if_neg hz, hcs]
    simp only [List.getD_eq_getElem?_getD]
    exact eo
  refine ⟨by rw [ht]; unfold InW; omega, ?_⟩
  rw [ht]
  unfold labUt
  rw [e1, e2, hV]
  have hin : wthn d (-1099511627776) 1099511627776 = true := by simp [wthn]; omega
  unfold labR
  rw [if_neg (by omega), if_neg hz]
  by_cases hk : k < es.length
  · obtain ⟨D2, o2, e3, e4, e5, e6, e7⟩ := hnext hk
    have hU : atU es (d * 86400 + s + o) = D2 := by
      unfold atU
      rw [if_neg hz, if_neg (by omega), hcs]
      simp only [List.getD_eq_getElem?_getD]
      exact e3
    rw [hU]
    by_cases hs : s = 86400
    · have hD : D2 - 1 = d := by
        refine Decidable.byContradiction fun hh => ?_
        have := c2 (fun _ => by rw [e3]; exact hh)
        omega
      have q : (d * 86400 + s + o - o) / 86400 = D2 := by omega
      rw [q, if_pos (Int.le_refl _), hD, if_pos hin]
      exact tup4 rfl (by omega) (by omega) rfl
    · have q : (d * 86400 + s + o - o) / 86400 = d := by omega
      rw [q, if_neg (by omega), if_pos hin]
      exact tup4 rfl (by omega) (by omega) rfl
  · have hU : atU es (d * 86400 + s + o) = 4611686018427387904 := by
      unfold atU
      rw [if_neg hz, if_pos (by omega)]
    have h0 := c2 (fun hh => absurd hh hk)
    have q : (d * 86400 + s + o - o) / 86400 = d := by omega
    rw [hU, q, if_neg (by omega), if_pos hin]
    exact tup4 rfl (by omega) (by omega) rfl
omit hn in
theorem utc_forth {z : Int} (hz : (labUt es z).1 = 0) : whyU es (labUt es z).2.1 (labUt es z).2.2.1 (labUt es z).2.2.2 = 0 ∧ taiU es (labUt es z).2.1 (labUt es z).2.2.1 (labUt es z).2.2.2 = z := by
  obtain ⟨s, hs⟩ : ∃ s, z / 1000000000000000000 = s := ⟨_, rfl⟩
  obtain ⟨r, hr⟩ : ∃ r, z % 1000000000000000000 = r := ⟨_, rfl⟩
  obtain ⟨k, hc⟩ : ∃ k, cnt startOf es s = k := ⟨_, rfl⟩
  have hkn := cnt_le startOf es s
  unfold labUt at hz ⊢
  rw [hs, hr] at hz ⊢
  obtain ⟨R, hR⟩ : ∃ R, labR es z s r (atV es s) (atU es s) = R := ⟨_, rfl⟩
  rw [hR] at hz ⊢
  unfold labR at hR
  split at hR
  · split at hR <;> (subst hR; simp at hz)
  rename_i h64
  split at hR
  · subst hR; simp at hz
  rename_i hcz
  have hk0 : 0 < k := by omega
  rw [hc] at hkn
  have d1 := (cnt_start h s (i := k - 1) (by omega)).2 (by omega)
  have hb := okPre_num h (i := k - 1) (by omega)
  have hV : atV es s = (es.getD (k - 1) (0, 0)).2 := by unfold atV; rw [if_neg hcz, hc]
  obtain ⟨o, eo⟩ : ∃ o, (es.getD (k - 1) (0, 0)).2 = o := ⟨_, rfl⟩
  obtain ⟨D1, eD1⟩ : ∃ D1, dayOf (es.getD (k - 1) (0, 0)) = D1 := ⟨_, rfl⟩
  have hD0 : day0 es ≤ D1 := by rw [← eD1]; exact (day_le h (Nat.zero_le _) (by omega)).1
  have hS1 : startOf (es.getD (k - 1) (0, 0)) = D1 * 86400 + o := by unfold startOf; rw [eD1, eo]
  rw [hV, eo] at hR
  rw [hS1] at d1
  rw [eo] at hb
  have hnext : k < es.length → ∃ D2 o2, dayOf (es.getD k (0, 0)) = D2 ∧ (es.getD k (0, 0)).2 = o2 ∧ D1 < D2 ∧ s < D2 * 86400 + o2 ∧ (o2 = o + 1 ∨ o2 = o - 1) := by
    intro hk
    have e3 := fun hh => (cnt_start h s hk).1 hh
    have e4 := off_step h (k := k - 1) (by omega)
    have e5 := (day_step h (k := k - 1) (by omega)).1
    rw [show k - 1 + 1 = k by omega] at e4 e5
    rw [eo] at e4
    rw [eD1] at e5
    refine ⟨_, _, rfl, rfl, e5, ?_, e4⟩
    refine Int.not_le.1 fun hh => ?_
    have := e3 hh
    omega
  -- a label of day d by entry k
  have main : ∀ d c : Int, D1 ≤ d → (k < es.length → d < dayOf (es.getD k (0, 0))) → wthn d (-1099511627776) 1099511627776 = true → 0 ≤ c → c ≤ 86400 → (d * 86400 + c + o = s) → c < 86400 + chgV es d → whyU es d c r = 0 ∧ taiU es d c r = z := by
    intro d c hd hd2 hin hc0 hc1 he hlen
    have hcd : cnt dayOf es d = k := cnt_is h d hkn (fun _ => by rw [eD1]; exact hd) hd2
    have hf : formB c r = true := by simp [formB, wthn]; omega
    have hw : whyU es d c r = 0 := by
      unfold whyU
      rw [hf, hin, if_neg (by simp), if_neg (by simp), if_neg (by omega), if_neg (by omega)]
    have ho : offV es d = o := by unfold offV; rw [if_neg (by omega), hcd, eo]
    refine ⟨hw, ?_⟩
    unfold taiU
    rw [if_pos hw, ho]
    omega
  by_cases hk : k < es.length
  · obtain ⟨D2, o2, e3, e4, e5, e6, e7⟩ := hnext hk
    have hU : atU es s = D2 := by unfold atU; rw [if_neg hcz, if_neg (by omega), hc]; exact e3
    rw [hU] at hR
    rw [e3] at main
    split at hR
    · rename_i hq
      split at hR
      · rename_i hin
        subst hR
        have hcd : cnt dayOf es (D2 - 1) = k := cnt_is h _ hkn (fun _ => by rw [eD1]; omega) (fun _ => by rw [e3]; omega)
        have hch := (chg_at h _ hcd hk0).1 hk (by rw [e3])
        rw [e4, eo] at hch
        exact main (D2 - 1) (s - o - (s - o) / 86400 * 86400 + 86400) (by omega) (fun _ => by omega) hin (by omega) (by omega) (by omega) (by omega)
      · subst hR; simp at hz
    · rename_i hq
      split at hR
      · rename_i hin
        subst hR
        have hcd : cnt dayOf es ((s - o) / 86400) = k := cnt_is h _ hkn (fun _ => by rw [eD1]; omega) (fun _ => by rw [e3]; omega)
        obtain ⟨c1, c2⟩ := chg_at h _ hcd hk0
        refine main ((s - o) / 86400) (s - o - (s - o) / 86400 * 86400) (by omega) (fun _ => by omega) hin (by omega) (by omega) (by omega) ?_
        by_cases hD : D2 - 1 = (s - o) / 86400
        · have := c1 hk (by rw [e3]; exact hD)
          rw [e4, eo] at this
          omega
        · have := c2 (fun _ => by rw [e3]; exact hD)
          omega
      · subst hR; simp at hz
  · have hU : atU es s = 4611686018427387904 := by unfold atU; rw [if_neg hcz, if_pos (by omega)]
    rw [hU, if_neg (by omega)] at hR
    split at hR
    · rename_i hin
      subst hR
      have hcd : cnt dayOf es ((s - o) / 86400) = k := cnt_is h _ hkn (fun _ => by rw [eD1]; omega) (fun hh => absurd hh hk)
      have := (chg_at h _ hcd hk0).2 (fun hh => absurd hh hk)
      exact main ((s - o) / 86400) (s - o - (s - o) / 86400 * 86400) (by omega) (fun hh => absurd hh hk) hin (by omega) (by omega) (by omega) (by omega)
    · subst hR; simp at hz
end
theorem labU_no6 (es : List (Int × Int)) (z : Int) : (labUt es z).1 ≠ 6 := by
  unfold labUt labR
  repeat' split
  all_goals simp
end Go.Proofs.YtibdhpffdkiggaaGreat
/- epactref05: Join, In, Small, Split (printed by my walk.py) -/
namespace Go.Proofs.YtibdhpffdkiggaaGreat
open Go.RowKit
set_option linter.unusedVariables false
set_option linter.unusedSimpArgs false
attribute [local go_sem] vN bT bF rS vW vM vL vT2 vT3 vP vI execOp Act.eval evC bigF vB hi_zero lo_zero Tryz.underlying26 Tryz.underlying3 Tryz.underlying32 Tryz.underlying34 Tryz.underlying42

set_option maxRecDepth 100000 in
set_option maxHeartbeats 8000000 in
theorem Join_core (w0 : World) (d s x : Int) (hd0 : -9223372036854775808 ≤ d) (hd1 : d < 9223372036854775808) (hs0 : -9223372036854775808 ≤ s) (hs1 : s < 9223372036854775808) (hx0 : -9223372036854775808 ≤ x) (hx1 : x < 9223372036854775808) : Calls Tryz.prog 30 #[vL d s x] w0 fun e w' => ∃ v, e = .returned v ∧ Below w0.heap.size w0 w' ∧ BigN w0.heap.size w' v ((d * 86400 + s) * 1000000000000000000 + x) := by
  have hst := St.start w0 (Θ := fun _ => True) (fun _ _ => trivial)
  refine enter Tryz.func30 rfl (n := 20) rfl (Nat.le_of_ble_eq_true rfl) hst (L := [(0, vL d s x)]) (lk_args rfl) (fun ac h => ?_)
  replace h := h.facts
  refine wp_seq ?_
  refine rf_ h [[0],[1]] [KE_ fun env => vP (pb env 0) 0, KE_ fun env => vP (pb env 1) 0] (fun E1 => [(1, vP (pb E1 0) 0), (2, vP (pb E1 1) 0)]) (W := [{ i := 0, T := 26, c0 := [vI d, vI s, vI x] }, { i := 1, T := 42, c0 := [bF, .slice none 0 0] }]) (M' := fun E1 => [((pb E1 0), 26, [vI d, vI s, vI x]), ((pb E1 1), 42, [bF, .slice none 0 0])]) (hs := c_ (bx0 0 (vL d s x)) <| c_ (al_ 1) <| e_) (k := fun E1 ac wd h_1 => ?_)
  clear h
  refine then_n (wp_seq ?_)
  refine rf_ h_1 [[0],[0,1],[0,1,2],r_ 4,r_ 5,[5],[5,6],r_ 8,r_ 9,[9],r_ 11] [K_ (vP (pb E1 0) 0), K_ (vI d), KE_ fun env => bigF d (env 2), KE_ fun env => bigF 86400 (env 3), KE_ fun env => bigF (d * 86400) (env 4), K_ (vP (pb E1 0) 1), K_ (vI s), KE_ fun env => bigF s (env 7), KE_ fun env => bigF (d * 86400 + s) (env 8), KE_ fun env => vP (pb env 9) 0, none] (fun E2 => [(1, vP (pb E1 0) 0), (2, vP (pb E1 1) 0), (3, vP (pb E2 9) 0)]) (W := [{ i := 9, T := 42, c0 := [bF, .slice none 0 0], s := some 10, c1 := fun env => [.bool (decide (d * 86400 + s < 0)), rS (d * 86400 + s) ((bA (env 8))) ((bC (env 8)))] }]) (F := [(2, fun env w => BigN w0.heap.size w (env 2) d), (3, fun env w => BigN w0.heap.size w (env 3) 86400), (4, fun env w => BigN w0.heap.size w (env 4) (d * 86400)), (7, fun env w => BigN w0.heap.size w (env 7) s), (8, fun env w => BigN w0.heap.size w (env 8) (d * 86400 + s))]) (L1 := fun E2 => [fun w => BigN w0.heap.size w (E2 2) d, fun w => BigN w0.heap.size w (E2 3) 86400, fun w => BigN w0.heap.size w (E2 4) (d * 86400), fun w => BigN w0.heap.size w (E2 7) s, fun w => BigN w0.heap.size w (E2 8) (d * 86400 + s)]) (M' := fun E2 => [((pb E1 0), 26, [vI d, vI s, vI x]), ((pb E1 1), 42, [bF, .slice none 0 0]), ((pb E2 9), 42, [.bool (decide (d * 86400 + s < 0)), rS (d * 86400 + s) ((bA (E2 8))) ((bC (E2 8)))])]) (hs := c_ (fa0 (vP (pb E1 0) 0)) <| c_ (ld_ 0 (hrd := by exact rd3 rfl)) <| c_ (cb_ Tryz.func25 d (h := fun _ env _ wd hA => ⟨_, Int_any wd d (by omega) (by omega), rfl⟩)) <| c_ (cb_ Tryz.func25 86400 (h := fun _ env _ wd hA => ⟨_, Int_any wd 86400 (by omega) (by omega), rfl⟩)) <| c_ (cb_ Tryz.func27 (d * 86400) (h := fun _ env _ wd hA => ⟨_, Mul_any wd (decide (d < 0)) (bA (env 2)) (bC (env 2)) d rfl (At.bigN hA 2 rfl rfl rfl) (by unfold Sm; omega) (decide (86400 < 0)) (bA (env 3)) (bC (env 3)) 86400 rfl (At.bigN hA 3 rfl rfl rfl) (by unfold Sm; omega), rfl⟩)) <| c_ (fa0 (vP (pb E1 0) 0)) <| c_ (ld_ 0 (hrd := by exact rd3 rfl)) <| c_ (cb_ Tryz.func25 s (h := fun _ env _ wd hA => ⟨_, Int_any wd s (by omega) (by omega), rfl⟩)) <| c_ (cb_ Tryz.func26 (d * 86400 + s) (h := fun _ env _ wd hA => ⟨_, Add_any wd (decide (d * 86400 < 0)) (bA (env 4)) (bC (env 4)) (d * 86400) rfl (At.bigN hA 4 rfl rfl rfl) (by unfold Sm; omega) (decide (s < 0)) (bA (env 7)) (bC (env 7)) s rfl (At.bigN hA 7 rfl rfl rfl) (by unfold Sm; omega), rfl⟩)) <| c_ (al_ 2) <| c_ (sw_ 2 9 (hst := by exact fun _ _ _ hc => st42 rfl rfl rfl hc)) <| e_) (k := fun E2 ac wd h_2 => ?_)
  clear h_1
  refine then_n (wp_seq ?_)
  refine rf_ h_2 [[0],[1],[0,1,2],[3],[3,4],r_ 6,r_ 7,r_ 8] [K_ (bigF (d * 86400 + s) (E2 8)), KE_ fun env => bigF 1000000000000000000 (env 1), KE_ fun env => bigF ((d * 86400 + s) * 1000000000000000000) (env 2), K_ (vP (pb E1 0) 2), K_ (vI x), KE_ fun env => bigF x (env 5), KE_ fun env => bigF ((d * 86400 + s) * 1000000000000000000 + x) (env 6), none] (fun E3 => [(2, vP (pb E1 1) 0)]) (S := [⟨1, 7, fun env => [.bool (decide ((d * 86400 + s) * 1000000000000000000 + x < 0)), rS ((d * 86400 + s) * 1000000000000000000 + x) ((bA (env 6))) ((bC (env 6)))]⟩]) (F := [(1, fun env w => BigN w0.heap.size w (env 1) 1000000000000000000), (2, fun env w => BigN w0.heap.size w (env 2) ((d * 86400 + s) * 1000000000000000000)), (5, fun env w => BigN w0.heap.size w (env 5) x), (6, fun env w => BigN w0.heap.size w (env 6) ((d * 86400 + s) * 1000000000000000000 + x))]) (L1 := fun E3 => [fun w => BigN w0.heap.size w (E2 2) d, fun w => BigN w0.heap.size w (E2 3) 86400, fun w => BigN w0.heap.size w (E2 4) (d * 86400), fun w => BigN w0.heap.size w (E2 7) s, fun w => BigN w0.heap.size w (E2 8) (d * 86400 + s), fun w => BigN w0.heap.size w (E3 1) 1000000000000000000, fun w => BigN w0.heap.size w (E3 2) ((d * 86400 + s) * 1000000000000000000), fun w => BigN w0.heap.size w (E3 5) x, fun w => BigN w0.heap.size w (E3 6) ((d * 86400 + s) * 1000000000000000000 + x)]) (M' := fun E3 => [((pb E1 0), 26, [vI d, vI s, vI x]), ((pb E1 1), 42, [.bool (decide ((d * 86400 + s) * 1000000000000000000 + x < 0)), rS ((d * 86400 + s) * 1000000000000000000 + x) ((bA (E3 6))) ((bC (E3 6)))]), ((pb E2 9), 42, [.bool (decide (d * 86400 + s < 0)), rS (d * 86400 + s) ((bA (E2 8))) ((bC (E2 8)))])]) (hs := c_ (ld_ 2 (hrd := by exact rd42 rfl rfl)) <| c_ (cb_ Tryz.func25 1000000000000000000 (h := fun _ env _ wd hA => ⟨_, Int_any wd 1000000000000000000 (by omega) (by omega), rfl⟩)) <| c_ (cb_ Tryz.func27 ((d * 86400 + s) * 1000000000000000000) (h := fun _ env _ wd hA => ⟨_, Mul_any wd (decide (d * 86400 + s < 0)) (bA (E2 8)) (bC (E2 8)) (d * 86400 + s) rfl (Facts.bigN (hA.j.st.now).1 4 rfl) (by unfold Sm; omega) (decide (1000000000000000000 < 0)) (bA (env 1)) (bC (env 1)) 1000000000000000000 rfl (At.bigN hA 1 rfl rfl rfl) (by unfold Sm; omega), rfl⟩)) <| c_ (fa0 (vP (pb E1 0) 0)) <| c_ (ld_ 0 (hrd := by exact rd3 rfl)) <| c_ (cb_ Tryz.func25 x (h := fun _ env _ wd hA => ⟨_, Int_any wd x (by omega) (by omega), rfl⟩)) <| c_ (cb_ Tryz.func26 ((d * 86400 + s) * 1000000000000000000 + x) (h := fun _ env _ wd hA => ⟨_, Add_any wd (decide ((d * 86400 + s) * 1000000000000000000 < 0)) (bA (env 2)) (bC (env 2)) ((d * 86400 + s) * 1000000000000000000) rfl (At.bigN hA 2 rfl rfl rfl) (by unfold Sm; omega) (decide (x < 0)) (bA (env 5)) (bC (env 5)) x rfl (At.bigN hA 5 rfl rfl rfl) (by unfold Sm; omega), rfl⟩)) <| c_ (se_ 1 (hst := by exact fun _ _ _ hc => st42 rfl rfl rfl hc)) <| e_) (k := fun E3 ac wd h_3 => ?_)
  clear h_2
  refine then_n (wp_ret ?_)
  have s2 := h_3.g (t := 2) rfl
  have hc2 := (h_3.st.own 1 _ rfl).2
  have c2_0 := own_cell (o := 0) hc2 rfl
  have c2_1 := own_cell (o := 1) hc2 rfl
  refine leave (v := bigF ((d * 86400 + s) * 1000000000000000000 + x) (E3 6)) h_3.df (by simp [results, Tryz.results30, go_sem, Array.getD_eq_getD_getElem?, s2, c2_0, c2_1, Tryz.underlying42]) ?_
  exact ⟨_, rfl, h_3.st.below, BigN.mk rfl rfl (Facts.bN h_3.st.now 8 rfl)⟩
theorem Join_any (w0 : World) (d s x : Int) (hd0 : -9223372036854775808 ≤ d) (hd1 : d < 9223372036854775808) (hs0 : -9223372036854775808 ≤ s) (hs1 : s < 9223372036854775808) (hx0 : -9223372036854775808 ≤ x) (hx1 : x < 9223372036854775808) : Calls Tryz.prog 30 #[vL d s x] w0 fun e w' => ∃ v, e = .returned v ∧ Below w0.heap.size w0 w' ∧ BigN w0.heap.size w' v (jn d s x) := Join_core w0 d s x hd0 hd1 hs0 hs1 hx0 hx1
set_option maxRecDepth 100000 in
set_option maxHeartbeats 8000000 in
theorem In_any (n : Int) : Ret 21 #[vI n] (.bool (decide (-1099511627776 ≤ n) && decide (n ≤ 1099511627776))) := by
  intro w0
  have hst := St.start w0 (Θ := fun _ => True) (fun _ _ => trivial)
  refine enter Tryz.func21 rfl (n := 9) rfl (Nat.le_of_ble_eq_true rfl) hst (L := [(0, vI n)]) (lk_args rfl) (fun ac h => ?_)
  refine wp_seq ?_
  refine rg_ h [[0]] [K_ bF] (fun E1 => [(0, vI n), (2, bF)]) (hs := c_ mv_ <| e_) (k := fun E1 ac wd h_1 => ?_)
  clear h
  refine then_n (wp_seq ?_)
  by_cases h : -1099511627776 ≤ n
  refine rg_ h_1 (tri 7) [K_ (vI n), K_ bT, K_ bT, K_ (vI n), K_ (.bool (decide (n ≤ 1099511627776))), K_ (.bool (decide (n ≤ 1099511627776))), K_ (.bool (decide (n ≤ 1099511627776)))] (fun E2 => [(2, .bool (decide (n ≤ 1099511627776)))]) (hs := c_ mv_ <| c_ (bi0 (vI n) (vI (-1099511627776)) (h := by intro env w; simp [go_sem, h])) <| c_ mv_ <| c_ (gm0 (vI n)) <| c_ (bi0 (vI n) (vI 1099511627776)) <| c_ (pk0 bT (.bool (decide (n ≤ 1099511627776))) bF) <| c_ mv_ <| e_) (k := fun E2 ac wd h_2 => ?_)
  clear h_1
  refine then_n (wp_ret ?_)
  have s2 := h_2.g (t := 2) rfl
  refine leave (v := .bool (decide (n ≤ 1099511627776))) h_2.df (by simp [results, Tryz.results21, go_sem, Array.getD_eq_getD_getElem?, s2]) ?_
  exact ⟨by simp [h], h_2.st.below⟩
  refine rg_ h_1 (tri 7) [K_ (vI n), K_ bF, K_ bF, K_ undef, K_ undef, K_ bF, K_ bF] (fun E2 => [(2, bF)]) (hs := c_ mv_ <| c_ (bi0 (vI n) (vI (-1099511627776)) (h := by intro env w; simp [go_sem, h])) <| c_ mv_ <| c_ off_ <| c_ off_ <| c_ (pk0 bF undef bF) <| c_ mv_ <| e_) (k := fun E2 ac wd h_2 => ?_)
  clear h_1
  refine then_n (wp_ret ?_)
  have s2 := h_2.g (t := 2) rfl
  refine leave (v := .bool false) h_2.df (by simp [results, Tryz.results21, go_sem, Array.getD_eq_getD_getElem?, s2]) ?_
  exact ⟨by simp [h], h_2.st.below⟩
theorem bsame_yes (w0 : World) (p : Bool) (A0 : Option Addr) (c0 : Nat) (x : Int) (hp : p = decide (x < 0)) (hr : Row w0 (.slice A0 (digs x).length c0) (digs x)) (q : Bool) (B0 : Option Addr) (k0 : Nat) (y : Int) (hq : q = decide (y < 0)) (hr2 : Row w0 (.slice B0 (digs y).length k0) (digs y)) (e : x = y := by rfl) : Calls Tryz.prog 10 #[.agg #[.bool (p), .slice A0 ((digs x).length) c0], .agg #[.bool (q), .slice B0 ((digs y).length) k0]] w0 fun e w' => e = .returned (.bool true) ∧ Below w0.heap.size w0 w' := by
  have := Same_any w0 p A0 c0 x hp hr q B0 k0 y hq hr2
  rw [decide_eq_true e] at this
  exact this
set_option maxRecDepth 100000 in
set_option maxHeartbeats 8000000 in
theorem Small_yes (w0 : World) (p : Bool) (A0 : Option Addr) (c0 : Nat) (x : Int) (hp : p = decide (x < 0)) (hr : Row w0 (.slice A0 (digs x).length c0) (digs x)) (h0 : -9223372036854775808 ≤ x) (h1 : x < 9223372036854775808) : Calls Tryz.prog 59 #[.agg #[.bool (p), .slice A0 ((digs x).length) c0]] w0 fun e w' => e = .returned (vT2 (vI x) (.bool true)) ∧ Below w0.heap.size w0 w' := by
  have hst := St.start w0 (Θ := fun _ => True) (fun _ _ => trivial)
  refine enter Tryz.func59 rfl (n := 25) rfl (Nat.le_of_ble_eq_true rfl) hst (L := [(0, .agg #[.bool (p), .slice A0 ((digs x).length) c0])]) (lk_args rfl) (fun ac h => ?_)
  replace h := h.facts
  refine wp_seq ?_
  refine rf_ h [[0],[1],[1,2]] [KE_ fun env => vP (pb env 0) 0, K_ (vI 0), K_ bF] (fun E1 => [(1, vP (pb E1 0) 0), (2, vI 0), (3, bF)]) (W := [{ i := 0, T := 42, c0 := [.bool (p), rS x A0 c0] }]) (M' := fun E1 => [((pb E1 0), 42, [.bool (p), rS x A0 c0])]) (hs := c_ (bx0 0 (.agg #[.bool (p), rS x A0 c0])) <| c_ mv_ <| c_ mv_ <| e_) (k := fun E1 ac wd h_1 => ?_)
  clear h
  refine then_n (wp_seq ?_)
  refine rf_ h_1 [[0],[0,1],[0,1,2],r_ 4,[0,1,2,4],[5],[0,1,2,3,5,6],r_ 8] [K_ (.agg #[.bool (p), rS x A0 c0]), K_ (vT2 (vW x) bT), K_ (vT2 (vW x) bT), K_ (vW x), K_ bT, KE_ fun env => vP (pb env 5) 0, none, K_ bT] (fun E2 => [(1, vP (pb E1 0) 0), (2, vI 0), (3, bF), (4, vP (pb E2 5) 0), (5, bT)]) (W := [{ i := 5, T := 34, c0 := [vI 0, .int .u64 0], s := some 6, c1 := fun _ => [vI (hi (x)), .int .u64 (lo (x))] }]) (M' := fun E2 => [((pb E1 0), 42, [.bool (p), rS x A0 c0]), ((pb E2 5), 34, [vI (hi (x)), .int .u64 (lo (x))])]) (hs := c_ (ld_ 0 (hrd := by exact rd42 rfl rfl)) <| c_ (cw_ Tryz.func77 (h := fun _ env _ wd hA => ⟨_, Wide_yes wd p A0 c0 x hp (hr.grown hA.j.st.gr) (by omega) (by omega), rfl⟩)) <| c_ mv_ <| c_ ext_ <| c_ ext_ <| c_ (al_ 1) <| c_ (sw_ 1 5 (hst := by exact fun _ _ _ hc => st34 rfl rfl rfl hc)) <| c_ mv_ <| e_) (k := fun E2 ac wd h_2 => ?_)
  clear h_1
  refine then_n (wp_seq (wp_seq ?_))
  refine rf_ h_2 [[0],[0,1],[0,1,2],r_ 4,[0,1,2,4],[0,1,2,4,5],[0,1,2,4,5,6],[0,1,2,4,5,6,7],r_ 9,r_ 10,r_ 11] [K_ bT, K_ bF, K_ bF, K_ (.agg #[.bool (p), rS x A0 c0]), K_ (vP (pb E2 5) 1), K_ (.int .u64 (lo (x))), K_ (vI x), KE_ fun env => bigF x (env 7), K_ bT, K_ bF, K_ bF] (fun E3 => [(2, vI 0), (3, bF), (4, vP (pb E2 5) 0), (21, bF)]) (F := [(7, fun env w => BigN w0.heap.size w (env 7) x)]) (L1 := fun E3 => [fun w => BigN w0.heap.size w (E3 7) x]) (hs := c_ mv_ <| c_ (un0 bT) <| c_ mv_ <| c_ (ld_ 0 (hrd := by exact rd42 rfl rfl)) <| c_ (fa0 (vP (pb E2 5) 0)) <| c_ (ld_ 1 (hrd := by exact rd32 rfl)) <| c_ (cv0 (.int .u64 (lo (x))) (h := by intro env w; simp [go_sem]; rw [i64_of _ (by unfold lo; omega) (by unfold lo; omega)]; unfold lo; split <;> omega)) <| c_ (cb_ Tryz.func25 x (h := fun _ env _ wd hA => ⟨_, Int_any wd x h0 h1, rfl⟩)) <| c_ (cw_ Tryz.func10 (h := fun _ env _ wd hA => ⟨_, bsame_yes wd p A0 c0 x hp (hr.grown hA.j.st.gr)  (decide (x < 0)) (bA (env 7)) (bC (env 7)) x rfl (At.bigN hA 7 rfl rfl rfl) , rfl⟩)) <| c_ (un0 bT) <| c_ (pk0 bF bT bF) <| e_) (k := fun E3 ac wd h_3 => ?_)
  clear h_2
  refine then_n ?_
  refine wp_cond_false (eval_tmp (h_3.g (t := 21) rfl)) ?_
  refine wp_skip (then_n (wp_seq ?_))
  refine rf_ h_3 (tri 5) [K_ (vP (pb E2 5) 1), K_ (.int .u64 (lo (x))), K_ (vI x), K_ (vI x), K_ bT] (fun E4 => [(2, vI x), (3, bT)]) (hs := c_ (fa0 (vP (pb E2 5) 0)) <| c_ (ld_ 1 (hrd := by exact rd32 rfl)) <| c_ (cv0 (.int .u64 (lo (x))) (h := by intro env w; simp [go_sem]; rw [i64_of _ (by unfold lo; omega) (by unfold lo; omega)]; unfold lo; split <;> omega)) <| c_ mv_ <| c_ mv_ <| e_) (k := fun E4 ac wd h_4 => ?_)
  clear h_3
  refine then_n (wp_ret ?_)
  have s2 := h_4.g (t := 2) rfl
  have s3 := h_4.g (t := 3) rfl
  refine leave (v := vT2 (vI x) (.bool true)) h_4.df (by simp [results, Tryz.results59, go_sem, Array.getD_eq_getD_getElem?, s2, s3]) ?_
  exact ⟨rfl, h_4.st.below⟩
set_option maxRecDepth 100000 in
set_option maxHeartbeats 8000000 in
theorem Split_yes (w0 : World) (p : Bool) (A0 : Option Addr) (c0 : Nat) (x : Int) (hp : p = decide (x < 0)) (hr : Row w0 (.slice A0 (digs x).length c0) (digs x)) (hx : Sm x) (h0 : -1099511627776 ≤ x / 1000000000000000000 / 86400) (h1 : x / 1000000000000000000 / 86400 ≤ 1099511627776) : Calls Tryz.prog 39 #[.agg #[.bool (p), .slice A0 ((digs x).length) c0]] w0 fun e w' => e = .returned (vT2 (vL (x / 1000000000000000000 / 86400) (x / 1000000000000000000 % 86400) (x % 1000000000000000000)) (.bool true)) ∧ Below w0.heap.size w0 w' := by
  have hin : (decide (-1099511627776 ≤ x / 1000000000000000000 / 86400) && decide (x / 1000000000000000000 / 86400 ≤ 1099511627776)) = true := by simp [h0, h1]
  have hst := St.start w0 (Θ := fun _ => True) (fun _ _ => trivial)
  refine enter Tryz.func39 rfl (n := 53) rfl (Nat.le_of_ble_eq_true rfl) hst (L := [(0, .agg #[.bool (p), .slice A0 ((digs x).length) c0])]) (lk_args rfl) (fun ac h => ?_)
  replace h := h.facts
  refine wp_seq ?_
  refine rf_ h [[0],[1],[2]] [KE_ fun env => vP (pb env 0) 0, KE_ fun env => vP (pb env 1) 0, K_ bF] (fun E1 => [(1, vP (pb E1 0) 0), (2, vP (pb E1 1) 0), (3, bF)]) (W := [{ i := 0, T := 42, c0 := [.bool (p), rS x A0 c0] }, { i := 1, T := 26, c0 := [vI 0, vI 0, vI 0] }]) (M' := fun E1 => [((pb E1 0), 42, [.bool (p), rS x A0 c0]), ((pb E1 1), 26, [vI 0, vI 0, vI 0])]) (hs := c_ (bx0 0 (.agg #[.bool (p), rS x A0 c0])) <| c_ (al_ 1) <| c_ mv_ <| e_) (k := fun E1 ac wd h_1 => ?_)
  clear h
  refine then_n (wp_seq ?_)
  refine rf_ h_1 [[0],[1],[0,1,2],r_ 4,r_ 5,[0,1,2,3,5],[6],[7],[0,1,2,3,4,6,7,8],r_ 10] [K_ (.agg #[.bool (p), rS x A0 c0]), KE_ fun env => bigF 1000000000000000000 (env 1), KE_ fun env => vT2 (bigF (x / 1000000000000000000) (tp (env 2) 0)) (bigF (x % 1000000000000000000) (tp (env 2) 1)), KE_ fun env => vT2 (bigF (x / 1000000000000000000) (tp (env 2) 0)) (bigF (x % 1000000000000000000) (tp (env 2) 1)), KE_ fun env => bigF (x / 1000000000000000000) (tp (env 2) 0), KE_ fun env => bigF (x % 1000000000000000000) (tp (env 2) 1), KE_ fun env => vP (pb env 6) 0, KE_ fun env => vP (pb env 7) 0, none, none] (fun E2 => [(2, vP (pb E1 1) 0), (3, bF), (4, vP (pb E2 6) 0), (5, vP (pb E2 7) 0)]) (W := [{ i := 6, T := 42, c0 := [bF, .slice none 0 0], s := some 8, c1 := fun env => [.bool (decide (x / 1000000000000000000 < 0)), rS (x / 1000000000000000000) ((bA (tp (env 2) 0))) ((bC (tp (env 2) 0)))] }, { i := 7, T := 42, c0 := [bF, .slice none 0 0], s := some 9, c1 := fun env => [.bool (decide (x % 1000000000000000000 < 0)), rS (x % 1000000000000000000) ((bA (tp (env 2) 1))) ((bC (tp (env 2) 1)))] }]) (F := [(1, fun env w => BigN w0.heap.size w (env 1) 1000000000000000000), (2, fun env w => DivX w (env 2) (x / 1000000000000000000) (x % 1000000000000000000))]) (L1 := fun E2 => [fun w => BigN w0.heap.size w (E2 1) 1000000000000000000, fun w => DivX w (E2 2) (x / 1000000000000000000) (x % 1000000000000000000)]) (M' := fun E2 => [((pb E1 0), 42, [.bool (p), rS x A0 c0]), ((pb E1 1), 26, [vI 0, vI 0, vI 0]), ((pb E2 6), 42, [.bool (decide (x / 1000000000000000000 < 0)), rS (x / 1000000000000000000) ((bA (tp (E2 2) 0))) ((bC (tp (E2 2) 0)))]), ((pb E2 7), 42, [.bool (decide (x % 1000000000000000000 < 0)), rS (x % 1000000000000000000) ((bA (tp (E2 2) 1))) ((bC (tp (E2 2) 1)))])]) (hs := c_ (ld_ 0 (hrd := by exact rd42 rfl rfl)) <| c_ (cb_ Tryz.func25 1000000000000000000 (h := fun _ env _ wd hA => ⟨_, Int_any wd 1000000000000000000 (by omega) (by omega), rfl⟩)) <| c_ (cf_ Tryz.func58 (fun v w => DivX w v (x / 1000000000000000000) (x % 1000000000000000000)) (divF (x / 1000000000000000000) (x % 1000000000000000000)) (h := fun _ env _ wd hA => ⟨_, toD (Div_any wd p A0 c0 x hp (hr.grown hA.j.st.gr) hx (decide (1000000000000000000 < 0)) (bA (env 1)) (bC (env 1)) 1000000000000000000 rfl (At.bigN hA 1 rfl rfl rfl) (by unfold Sm; omega) (by omega)), rfl⟩)) <| c_ mv_ <| c_ ext_ <| c_ ext_ <| c_ (al_ 2) <| c_ (al_ 3) <| c_ (sw_ 2 6 (hst := by exact fun _ _ _ hc => st42 rfl rfl rfl hc)) <| c_ (sw_ 3 7 (hst := by exact fun _ _ _ hc => st42 rfl rfl rfl hc)) <| e_) (k := fun E2 ac wd h_2 => ?_)
  clear h_1
  refine then_n (wp_seq ?_)
  refine rf_ h_2 [[0],[1],[0,1,2],r_ 4,r_ 5,[0,1,2,3,5],[6],[7],[0,1,2,3,4,6,7,8],r_ 10] [K_ (bigF (x / 1000000000000000000) (tp (E2 2) 0)), KE_ fun env => bigF 86400 (env 1), KE_ fun env => vT2 (bigF ((x / 1000000000000000000) / 86400) (tp (env 2) 0)) (bigF ((x / 1000000000000000000) % 86400) (tp (env 2) 1)), KE_ fun env => vT2 (bigF ((x / 1000000000000000000) / 86400) (tp (env 2) 0)) (bigF ((x / 1000000000000000000) % 86400) (tp (env 2) 1)), KE_ fun env => bigF ((x / 1000000000000000000) / 86400) (tp (env 2) 0), KE_ fun env => bigF ((x / 1000000000000000000) % 86400) (tp (env 2) 1), KE_ fun env => vP (pb env 6) 0, KE_ fun env => vP (pb env 7) 0, none, none] (fun E3 => [(2, vP (pb E1 1) 0), (3, bF), (5, vP (pb E2 7) 0), (6, vP (pb E3 6) 0), (7, vP (pb E3 7) 0)]) (W := [{ i := 6, T := 42, c0 := [bF, .slice none 0 0], s := some 8, c1 := fun env => [.bool (decide ((x / 1000000000000000000) / 86400 < 0)), rS ((x / 1000000000000000000) / 86400) ((bA (tp (env 2) 0))) ((bC (tp (env 2) 0)))] }, { i := 7, T := 42, c0 := [bF, .slice none 0 0], s := some 9, c1 := fun env => [.bool (decide ((x / 1000000000000000000) % 86400 < 0)), rS ((x / 1000000000000000000) % 86400) ((bA (tp (env 2) 1))) ((bC (tp (env 2) 1)))] }]) (F := [(1, fun env w => BigN w0.heap.size w (env 1) 86400), (2, fun env w => DivX w (env 2) ((x / 1000000000000000000) / 86400) ((x / 1000000000000000000) % 86400))]) (L1 := fun E3 => [fun w => BigN w0.heap.size w (E2 1) 1000000000000000000, fun w => DivX w (E2 2) (x / 1000000000000000000) (x % 1000000000000000000), fun w => BigN w0.heap.size w (E3 1) 86400, fun w => DivX w (E3 2) ((x / 1000000000000000000) / 86400) ((x / 1000000000000000000) % 86400)]) (M' := fun E3 => [((pb E1 0), 42, [.bool (p), rS x A0 c0]), ((pb E1 1), 26, [vI 0, vI 0, vI 0]), ((pb E2 6), 42, [.bool (decide (x / 1000000000000000000 < 0)), rS (x / 1000000000000000000) ((bA (tp (E2 2) 0))) ((bC (tp (E2 2) 0)))]), ((pb E2 7), 42, [.bool (decide (x % 1000000000000000000 < 0)), rS (x % 1000000000000000000) ((bA (tp (E2 2) 1))) ((bC (tp (E2 2) 1)))]), ((pb E3 6), 42, [.bool (decide ((x / 1000000000000000000) / 86400 < 0)), rS ((x / 1000000000000000000) / 86400) ((bA (tp (E3 2) 0))) ((bC (tp (E3 2) 0)))]), ((pb E3 7), 42, [.bool (decide ((x / 1000000000000000000) % 86400 < 0)), rS ((x / 1000000000000000000) % 86400) ((bA (tp (E3 2) 1))) ((bC (tp (E3 2) 1)))])]) (hs := c_ (ld_ 2 (hrd := by exact rd42 rfl rfl)) <| c_ (cb_ Tryz.func25 86400 (h := fun _ env _ wd hA => ⟨_, Int_any wd 86400 (by omega) (by omega), rfl⟩)) <| c_ (cf_ Tryz.func58 (fun v w => DivX w v ((x / 1000000000000000000) / 86400) ((x / 1000000000000000000) % 86400)) (divF ((x / 1000000000000000000) / 86400) ((x / 1000000000000000000) % 86400)) (h := fun _ env _ wd hA => ⟨_, toD (Div_any wd (decide (x / 1000000000000000000 < 0)) (bA (tp (E2 2) 0)) (bC (tp (E2 2) 0)) (x / 1000000000000000000) rfl (Facts.div1 (hA.j.st.now).1 1 rfl) (by unfold Sm at *; omega) (decide (86400 < 0)) (bA (env 1)) (bC (env 1)) 86400 rfl (At.bigN hA 1 rfl rfl rfl) (by unfold Sm; omega) (by omega)), rfl⟩)) <| c_ mv_ <| c_ ext_ <| c_ ext_ <| c_ (al_ 4) <| c_ (al_ 5) <| c_ (sw_ 4 6 (hst := by exact fun _ _ _ hc => st42 rfl rfl rfl hc)) <| c_ (sw_ 5 7 (hst := by exact fun _ _ _ hc => st42 rfl rfl rfl hc)) <| e_) (k := fun E3 ac wd h_3 => ?_)
  clear h_2
  refine then_n (wp_seq ?_)
  refine rf_ h_3 [[0],[0,1],[0,1,2],r_ 4,[0,1,2,4],[0,1,2,3,5],r_ 7] [K_ (bigF ((x / 1000000000000000000) / 86400) (tp (E3 2) 0)), K_ (vT2 (vI ((x / 1000000000000000000 / 86400))) bT), K_ (vT2 (vI ((x / 1000000000000000000 / 86400))) bT), K_ (vI ((x / 1000000000000000000 / 86400))), K_ bT, K_ (vI ((x / 1000000000000000000 / 86400))), K_ bT] (fun E4 => [(2, vP (pb E1 1) 0), (3, bF), (5, vP (pb E2 7) 0), (7, vP (pb E3 7) 0), (8, vI ((x / 1000000000000000000 / 86400))), (9, bT)]) (hs := c_ (ld_ 4 (hrd := by exact rd42 rfl rfl)) <| c_ (cw_ Tryz.func59 (h := fun _ env _ wd hA => ⟨_, Small_yes wd (decide ((x / 1000000000000000000) / 86400 < 0)) (bA (tp (E3 2) 0)) (bC (tp (E3 2) 0)) (x / 1000000000000000000 / 86400) rfl (Facts.div1 (hA.j.st.now).1 3 rfl)  (by omega) (by omega), rfl⟩)) <| c_ mv_ <| c_ ext_ <| c_ ext_ <| c_ mv_ <| c_ mv_ <| e_) (k := fun E4 ac wd h_4 => ?_)
  clear h_3
  refine then_n (wp_seq (wp_seq ?_))
  refine rf_ h_4 (tri 7) [K_ bT, K_ bF, K_ bF, K_ (vI ((x / 1000000000000000000 / 86400))), K_ bT, K_ bF, K_ bF] (fun E5 => [(2, vP (pb E1 1) 0), (3, bF), (5, vP (pb E2 7) 0), (7, vP (pb E3 7) 0), (8, vI ((x / 1000000000000000000 / 86400))), (37, bF)]) (hs := c_ mv_ <| c_ (un0 bT) <| c_ mv_ <| c_ (gm0 (vI ((x / 1000000000000000000 / 86400)))) <| c_ (cl_ Tryz.func21 (h := fun env => ⟨_, ((In_any (x / 1000000000000000000 / 86400)).eq (congrArg Value.bool hin)), rfl⟩)) <| c_ (un0 bT) <| c_ (pk0 bF bT bF) <| e_) (k := fun E5 ac wd h_5 => ?_)
  clear h_4
  refine then_n ?_
  refine wp_cond_false (eval_tmp (h_5.g (t := 37) rfl)) ?_
  refine wp_skip (then_n (wp_seq ?_))
  refine rf_ h_5 [[0],[0,1],[0,1,2],r_ 4,[0,1,2,4],[0,1,2,3,5],r_ 7] [K_ (bigF ((x / 1000000000000000000) % 86400) (tp (E3 2) 1)), K_ (vT2 (vI ((x / 1000000000000000000 % 86400))) bT), K_ (vT2 (vI ((x / 1000000000000000000 % 86400))) bT), K_ (vI ((x / 1000000000000000000 % 86400))), K_ bT, K_ (vI ((x / 1000000000000000000 % 86400))), K_ bT] (fun E6 => [(2, vP (pb E1 1) 0), (3, bF), (5, vP (pb E2 7) 0), (8, vI ((x / 1000000000000000000 / 86400))), (10, vI ((x / 1000000000000000000 % 86400)))]) (hs := c_ (ld_ 5 (hrd := by exact rd42 rfl rfl)) <| c_ (cw_ Tryz.func59 (h := fun _ env _ wd hA => ⟨_, Small_yes wd (decide ((x / 1000000000000000000) % 86400 < 0)) (bA (tp (E3 2) 1)) (bC (tp (E3 2) 1)) (x / 1000000000000000000 % 86400) rfl (Facts.div2 (hA.j.st.now).1 3 rfl)  (by omega) (by omega), rfl⟩)) <| c_ mv_ <| c_ ext_ <| c_ ext_ <| c_ mv_ <| c_ mv_ <| e_) (k := fun E6 ac wd h_6 => ?_)
  clear h_5
  refine then_n (wp_seq ?_)
  refine rf_ h_6 [[0],[0,1],[0,1,2],r_ 4,[0,1,2,4],[0,1,2,3,5],r_ 7] [K_ (bigF (x % 1000000000000000000) (tp (E2 2) 1)), K_ (vT2 (vI ((x % 1000000000000000000))) bT), K_ (vT2 (vI ((x % 1000000000000000000))) bT), K_ (vI ((x % 1000000000000000000))), K_ bT, K_ (vI ((x % 1000000000000000000))), K_ bT] (fun E7 => [(2, vP (pb E1 1) 0), (3, bF), (8, vI ((x / 1000000000000000000 / 86400))), (10, vI ((x / 1000000000000000000 % 86400))), (12, vI ((x % 1000000000000000000)))]) (hs := c_ (ld_ 3 (hrd := by exact rd42 rfl rfl)) <| c_ (cw_ Tryz.func59 (h := fun _ env _ wd hA => ⟨_, Small_yes wd (decide (x % 1000000000000000000 < 0)) (bA (tp (E2 2) 1)) (bC (tp (E2 2) 1)) (x % 1000000000000000000) rfl (Facts.div2 (hA.j.st.now).1 1 rfl)  (by omega) (by omega), rfl⟩)) <| c_ mv_ <| c_ ext_ <| c_ ext_ <| c_ mv_ <| c_ mv_ <| e_) (k := fun E7 ac wd h_7 => ?_)
  clear h_6
  refine then_n (wp_seq ?_)
  refine rf_ h_7 [[0],[1],[2],r_ 4,r_ 5,r_ 6] [K_ (vI ((x / 1000000000000000000 / 86400))), K_ (vI ((x / 1000000000000000000 % 86400))), K_ (vI ((x % 1000000000000000000))), K_ (vL (x / 1000000000000000000 / 86400) (x / 1000000000000000000 % 86400) (x % 1000000000000000000)), none, K_ bT] (fun E8 => [(2, vP (pb E1 1) 0), (3, bT)]) (S := [⟨1, 4, fun _ => [vI ((x / 1000000000000000000 / 86400)), vI ((x / 1000000000000000000 % 86400)), vI ((x % 1000000000000000000))]⟩]) (M' := fun E8 => [((pb E1 0), 42, [.bool (p), rS x A0 c0]), ((pb E1 1), 26, [vI ((x / 1000000000000000000 / 86400)), vI ((x / 1000000000000000000 % 86400)), vI ((x % 1000000000000000000))]), ((pb E2 6), 42, [.bool (decide (x / 1000000000000000000 < 0)), rS (x / 1000000000000000000) ((bA (tp (E2 2) 0))) ((bC (tp (E2 2) 0)))]), ((pb E2 7), 42, [.bool (decide (x % 1000000000000000000 < 0)), rS (x % 1000000000000000000) ((bA (tp (E2 2) 1))) ((bC (tp (E2 2) 1)))]), ((pb E3 6), 42, [.bool (decide ((x / 1000000000000000000) / 86400 < 0)), rS ((x / 1000000000000000000) / 86400) ((bA (tp (E3 2) 0))) ((bC (tp (E3 2) 0)))]), ((pb E3 7), 42, [.bool (decide ((x / 1000000000000000000) % 86400 < 0)), rS ((x / 1000000000000000000) % 86400) ((bA (tp (E3 2) 1))) ((bC (tp (E3 2) 1)))])]) (hs := c_ mv_ <| c_ mv_ <| c_ mv_ <| c_ (bd0 ([vI ((x / 1000000000000000000 / 86400)), vI ((x / 1000000000000000000 % 86400)), vI ((x % 1000000000000000000))])) <| c_ (se_ 1 (hst := by exact fun _ _ _ hc => st26 rfl rfl rfl rfl hc)) <| c_ mv_ <| e_) (k := fun E8 ac wd h_8 => ?_)
  clear h_7
  refine then_n (wp_ret ?_)
  have s2 := h_8.g (t := 2) rfl
  have hc2 := (h_8.st.own 1 _ rfl).2
  have c2_0 := own_cell (o := 0) hc2 rfl
  have c2_1 := own_cell (o := 1) hc2 rfl
  have c2_2 := own_cell (o := 2) hc2 rfl
  have s3 := h_8.g (t := 3) rfl
  refine leave (v := vT2 (vL (x / 1000000000000000000 / 86400) (x / 1000000000000000000 % 86400) (x % 1000000000000000000)) (.bool true)) h_8.df (by simp [results, Tryz.results39, go_sem, Array.getD_eq_getD_getElem?, s2, c2_0, c2_1, c2_2, Tryz.underlying26, s3]) ?_
  exact ⟨rfl, h_8.st.below⟩
end Go.Proofs.YtibdhpffdkiggaaGreat
/- epactref12: Form, Why, Tai (printed by my walk.py) -/
namespace Go.Proofs.YtibdhpffdkiggaaGreat
open Go.RowKit
set_option linter.unusedVariables false
set_option linter.unusedSimpArgs false
attribute [local go_sem] vN bT bF rS vW vM vL vT2 vT3 vP vI execOp Act.eval evC bigF vB hi_zero lo_zero Tryz.underlying24 Tryz.underlying26 Tryz.underlying42

set_option maxRecDepth 100000 in
set_option maxHeartbeats 8000000 in
theorem rform12_any (d s x : Int) : Ret 20 #[vL d s x] (.bool (formB s x)) := by
  intro w0
  have hst := St.start w0 (Θ := fun _ => True) (fun _ _ => trivial)
  refine enter Tryz.func20 rfl (n := 21) rfl (Nat.le_of_ble_eq_true rfl) hst (L := [(0, vL d s x)]) (lk_args rfl) (fun ac h => ?_)
  refine wp_seq ?_
  refine rg_ h [[0],[1]] [KE_ fun env => vP (pb env 0) 0, K_ bF] (fun E1 => [(1, vP (pb E1 0) 0), (2, bF)]) (W := [{ i := 0, T := 26, c0 := [vI d, vI s, vI x] }]) (M' := fun E1 => [((pb E1 0), 26, [vI d, vI s, vI x])]) (hs := c_ (bx0 0 (vL d s x)) <| c_ mv_ <| e_) (k := fun E1 ac wd h_1 => ?_)
  clear h
  refine then_n (wp_seq ?_)
  by_cases h0 : 0 ≤ s
  by_cases h1 : s ≤ 86400
  by_cases h2 : 0 ≤ x
  refine rg_ h_1 (tri 19) [K_ (vP (pb E1 0) 1), K_ (vI s), K_ bT, K_ bT, K_ (vP (pb E1 0) 1), K_ (vI s), K_ bT, K_ bT, K_ bT, K_ (vP (pb E1 0) 2), K_ (vI x), K_ bT, K_ bT, K_ bT, K_ (vP (pb E1 0) 2), K_ (vI x), K_ (.bool (decide (x < 1000000000000000000))), K_ (.bool (decide (x < 1000000000000000000))), K_ (.bool (decide (x < 1000000000000000000)))] (fun E2 => [(2, .bool (decide (x < 1000000000000000000)))]) (hs := c_ (fa0 (vP (pb E1 0) 0)) <| c_ (ld_ 0 (hrd := by exact rd3 rfl)) <| c_ (bi0 (vI s) (vI 0) (h := by intro env w; simp [go_sem, h0])) <| c_ mv_ <| c_ (fa0 (vP (pb E1 0) 0)) <| c_ (ld_ 0 (hrd := by exact rd3 rfl)) <| c_ (bi0 (vI s) (vI 86400) (h := by intro env w; simp [go_sem, h1])) <| c_ (pk0 bT bT bF (h := by intro env w; simp [go_sem, h1])) <| c_ mv_ <| c_ (fa0 (vP (pb E1 0) 0)) <| c_ (ld_ 0 (hrd := by exact rd3 rfl)) <| c_ (bi0 (vI x) (vI 0) (h := by intro env w; simp [go_sem, h2])) <| c_ (pk0 bT bT bF (h := by intro env w; simp [go_sem, h2])) <| c_ mv_ <| c_ (fa0 (vP (pb E1 0) 0)) <| c_ (ld_ 0 (hrd := by exact rd3 rfl)) <| c_ (bi0 (vI x) (vI 1000000000000000000)) <| c_ (pk0 bT (.bool (decide (x < 1000000000000000000))) bF) <| c_ mv_ <| e_) (k := fun E2 ac wd h_2 => ?_)
  clear h_1
  refine then_n (wp_ret ?_)
  have s2 := h_2.g (t := 2) rfl
  refine leave (v := .bool (decide (x < 1000000000000000000))) h_2.df (by simp [results, Tryz.results20, go_sem, Array.getD_eq_getD_getElem?, s2]) ?_
  have e : formB s x = decide (x < 1000000000000000000) := by have e0 := decide_eq_true h0; have e1 := decide_eq_true h1; have e2 := decide_eq_true h2; unfold formB wthn; rw [e0, e1, e2]; simp only [Bool.true_and]; exact decide_eq_decide.2 (by omega)
  exact ⟨by rw [e], h_2.st.below⟩
  refine rg_ h_1 (tri 19) [K_ (vP (pb E1 0) 1), K_ (vI s), K_ bT, K_ bT, K_ (vP (pb E1 0) 1), K_ (vI s), K_ bT, K_ bT, K_ bT, K_ (vP (pb E1 0) 2), K_ (vI x), K_ bF, K_ bF, K_ bF, K_ undef, K_ undef, K_ undef, K_ bF, K_ bF] (fun E2 => [(2, bF)]) (hs := c_ (fa0 (vP (pb E1 0) 0)) <| c_ (ld_ 0 (hrd := by exact rd3 rfl)) <| c_ (bi0 (vI s) (vI 0) (h := by intro env w; simp [go_sem, h0])) <| c_ mv_ <| c_ (fa0 (vP (pb E1 0) 0)) <| c_ (ld_ 0 (hrd := by exact rd3 rfl)) <| c_ (bi0 (vI s) (vI 86400) (h := by intro env w; simp [go_sem, h1])) <| c_ (pk0 bT bT bF (h := by intro env w; simp [go_sem, h1])) <| c_ mv_ <| c_ (fa0 (vP (pb E1 0) 0)) <| c_ (ld_ 0 (hrd := by exact rd3 rfl)) <| c_ (bi0 (vI x) (vI 0) (h := by intro env w; simp [go_sem, h2])) <| c_ (pk0 bT bF bF (h := by intro env w; simp [go_sem, h2])) <| c_ mv_ <| c_ off_ <| c_ off_ <| c_ off_ <| c_ (pk0 bF undef bF) <| c_ mv_ <| e_) (k := fun E2 ac wd h_2 => ?_)
  clear h_1
  refine then_n (wp_ret ?_)
  have s2 := h_2.g (t := 2) rfl
  refine leave (v := .bool false) h_2.df (by simp [results, Tryz.results20, go_sem, Array.getD_eq_getD_getElem?, s2]) ?_
  have e : formB s x = false := by simp [formB, wthn]; omega
  exact ⟨by rw [e], h_2.st.below⟩
  refine rg_ h_1 (tri 19) [K_ (vP (pb E1 0) 1), K_ (vI s), K_ bT, K_ bT, K_ (vP (pb E1 0) 1), K_ (vI s), K_ bF, K_ bF, K_ bF, K_ undef, K_ undef, K_ undef, K_ bF, K_ bF, K_ undef, K_ undef, K_ undef, K_ bF, K_ bF] (fun E2 => [(2, bF)]) (hs := c_ (fa0 (vP (pb E1 0) 0)) <| c_ (ld_ 0 (hrd := by exact rd3 rfl)) <| c_ (bi0 (vI s) (vI 0) (h := by intro env w; simp [go_sem, h0])) <| c_ mv_ <| c_ (fa0 (vP (pb E1 0) 0)) <| c_ (ld_ 0 (hrd := by exact rd3 rfl)) <| c_ (bi0 (vI s) (vI 86400) (h := by intro env w; simp [go_sem, h1])) <| c_ (pk0 bT bF bF (h := by intro env w; simp [go_sem, h1])) <| c_ mv_ <| c_ off_ <| c_ off_ <| c_ off_ <| c_ (pk0 bF undef bF) <| c_ mv_ <| c_ off_ <| c_ off_ <| c_ off_ <| c_ (pk0 bF undef bF) <| c_ mv_ <| e_) (k := fun E2 ac wd h_2 => ?_)
  clear h_1
  refine then_n (wp_ret ?_)
  have s2 := h_2.g (t := 2) rfl
  refine leave (v := .bool false) h_2.df (by simp [results, Tryz.results20, go_sem, Array.getD_eq_getD_getElem?, s2]) ?_
  have e : formB s x = false := by simp [formB, wthn]; omega
  exact ⟨by rw [e], h_2.st.below⟩
  refine rg_ h_1 (tri 19) [K_ (vP (pb E1 0) 1), K_ (vI s), K_ bF, K_ bF, K_ undef, K_ undef, K_ undef, K_ bF, K_ bF, K_ undef, K_ undef, K_ undef, K_ bF, K_ bF, K_ undef, K_ undef, K_ undef, K_ bF, K_ bF] (fun E2 => [(2, bF)]) (hs := c_ (fa0 (vP (pb E1 0) 0)) <| c_ (ld_ 0 (hrd := by exact rd3 rfl)) <| c_ (bi0 (vI s) (vI 0) (h := by intro env w; simp [go_sem, h0])) <| c_ mv_ <| c_ off_ <| c_ off_ <| c_ off_ <| c_ (pk0 bF undef bF) <| c_ mv_ <| c_ off_ <| c_ off_ <| c_ off_ <| c_ (pk0 bF undef bF) <| c_ mv_ <| c_ off_ <| c_ off_ <| c_ off_ <| c_ (pk0 bF undef bF) <| c_ mv_ <| e_) (k := fun E2 ac wd h_2 => ?_)
  clear h_1
  refine then_n (wp_ret ?_)
  have s2 := h_2.g (t := 2) rfl
  refine leave (v := .bool false) h_2.df (by simp [results, Tryz.results20, go_sem, Array.getD_eq_getD_getElem?, s2]) ?_
  have e : formB s x = false := by simp [formB, wthn]; omega
  exact ⟨by rw [e], h_2.st.below⟩
theorem cnt0_iff {es : List (Int × Int)} (h : okPre es es.length = true) (hn : 0 < es.length) (d : Int) : cnt dayOf es d = 0 ↔ d < day0 es := by
  have := cnt_day h d hn
  unfold day0; omega
theorem u_res_eq {P : Program} {f : FuncId} {args : Array Value} {w0 : World} {v v' : Value} (h : Calls P f args w0 fun e w' => e = .returned v ∧ Below w0.heap.size w0 w') (e : v = v') : Calls P f args w0 fun e w' => e = .returned v' ∧ Below w0.heap.size w0 w' := by subst e; exact h
theorem off_no {es : List (Int × Int)} (h : okPre es es.length = true) (hn : 0 < es.length) {d : Int} (hd : d < day0 es) : Value.tuple #[.int .i64 (rOff es (cnt dayOf es d)), .bool (rOk (cnt dayOf es d))] = vT2 (vI (offV es d)) (.bool false) := by
  rw [(cnt0_iff h hn d).2 hd, show offV es d = rOff es (cnt dayOf es d) from rfl, (cnt0_iff h hn d).2 hd]; rfl
theorem off_yes {es : List (Int × Int)} (h : okPre es es.length = true) (hn : 0 < es.length) {d : Int} (hd : ¬ d < day0 es) : Value.tuple #[.int .i64 (rOff es (cnt dayOf es d)), .bool (rOk (cnt dayOf es d))] = vT2 (vI (offV es d)) (.bool true) := by
  have h1 : cnt dayOf es d ≠ 0 := fun hc => hd ((cnt0_iff h hn d).1 hc)
  obtain ⟨k, hk⟩ : ∃ k, cnt dayOf es d = k + 1 := ⟨cnt dayOf es d - 1, by omega⟩
  rw [show offV es d = rOff es (cnt dayOf es d) from rfl, hk]; rfl
set_option maxRecDepth 100000 in
set_option maxHeartbeats 8000000 in
theorem rWhy_any (w0 : World) (A0 : Option Addr) (c0 : Nat) (es : List (Int × Int)) (u x : Int) (hv : Ents w0 w0.heap.size (.slice A0 es.length c0) es) (hp : okPre es es.length = true) (hn0 : 0 < es.length) (d s a : Int) : Calls Tryz.prog 8 #[.agg #[vI u, vI x, .slice A0 es.length c0], vL d s a] w0 fun e w' => e = .returned (vI (whyU es d s a)) ∧ Below w0.heap.size w0 w' := by
  have hst := St.start w0 (Θ := fun _ => True) (fun _ _ => trivial)
  refine enter Tryz.func8 rfl (n := 31) rfl (Nat.le_of_ble_eq_true rfl) hst (L := [(0, .agg #[vI u, vI x, .slice A0 es.length c0]), (1, vL d s a)]) (lk_args rfl) (fun ac h => ?_)
  refine wp_seq ?_
  refine rg_ h [[0],[1],[2]] [KE_ fun env => vP (pb env 0) 0, KE_ fun env => vP (pb env 1) 0, K_ (vI 0)] (fun E1 => [(2, vP (pb E1 0) 0), (3, vP (pb E1 1) 0), (4, vI 0)]) (W := [{ i := 0, T := 24, c0 := [vI u, vI x, .slice A0 es.length c0] }, { i := 1, T := 26, c0 := [vI d, vI s, vI a] }]) (M' := fun E1 => [((pb E1 0), 24, [vI u, vI x, .slice A0 es.length c0]), ((pb E1 1), 26, [vI d, vI s, vI a])]) (hs := c_ (bx0 0 (.agg #[vI u, vI x, .slice A0 es.length c0])) <| c_ (bx0 1 (vL d s a)) <| c_ mv_ <| e_) (k := fun E1 ac wd h_1 => ?_)
  clear h
  refine then_n (wp_seq (wp_seq ?_))
  cases hf : formB s a
  refine rg_ h_1 (tri 3) [K_ (vL d s a), K_ bF, K_ bT] (fun E2 => [(2, vP (pb E1 0) 0), (3, vP (pb E1 1) 0), (4, vI 0), (9, bT)]) (hs := c_ (ld_ 1 (hrd := by exact rd26 rfl rfl rfl)) <| c_ (cl_ Tryz.func20 (h := fun env => ⟨_, ((rform12_any d s a).eq (congrArg Value.bool hf)), rfl⟩)) <| c_ (un0 bF) <| e_) (k := fun E2 ac wd h_2 => ?_)
  clear h_1
  refine then_n ?_
  refine wp_cond_true (eval_tmp (h_2.g (t := 9) rfl)) ?_
  refine wp_seq ?_
  refine rg_ h_2 [[0]] [K_ (vI 1)] (fun E3 => [(2, vP (pb E1 0) 0), (3, vP (pb E1 1) 0), (4, vI 1)]) (hs := c_ mv_ <| e_) (k := fun E3 ac wd h_3 => ?_)
  clear h_2
  refine then_n (wp_ret (then_ret ?_))
  have s4 := h_3.g (t := 4) rfl
  refine leave (v := vI 1) h_3.df (by simp [results, Tryz.results8, go_sem, Array.getD_eq_getD_getElem?, s4]) ?_
  have e : whyU es d s a = 1 := by unfold whyU; simp [hf]
  exact ⟨by rw [e], h_3.st.below⟩
  refine rg_ h_1 (tri 3) [K_ (vL d s a), K_ bT, K_ bF] (fun E2 => [(2, vP (pb E1 0) 0), (3, vP (pb E1 1) 0), (4, vI 0), (9, bF)]) (hs := c_ (ld_ 1 (hrd := by exact rd26 rfl rfl rfl)) <| c_ (cl_ Tryz.func20 (h := fun env => ⟨_, ((rform12_any d s a).eq (congrArg Value.bool hf)), rfl⟩)) <| c_ (un0 bT) <| e_) (k := fun E2 ac wd h_2 => ?_)
  clear h_1
  refine then_n ?_
  refine wp_cond_false (eval_tmp (h_2.g (t := 9) rfl)) ?_
  refine wp_skip (then_n (wp_seq (wp_seq ?_)))
  cases hin : wthn d (-1099511627776) 1099511627776
  refine rg_ h_2 (tri 4) [K_ (vP (pb E1 1) 0), K_ (vI d), K_ bF, K_ bT] (fun E3 => [(2, vP (pb E1 0) 0), (3, vP (pb E1 1) 0), (4, vI 0), (13, bT)]) (hs := c_ (fa0 (vP (pb E1 1) 0)) <| c_ (ld_ 1 (hrd := by exact rd3 rfl)) <| c_ (cl_ Tryz.func21 (h := fun env => ⟨_, ((In_any d).eq (congrArg Value.bool hin)), rfl⟩)) <| c_ (un0 bF) <| e_) (k := fun E3 ac wd h_3 => ?_)
  clear h_2
  refine then_n ?_
  refine wp_cond_true (eval_tmp (h_3.g (t := 13) rfl)) ?_
  refine wp_seq ?_
  refine rg_ h_3 [[0]] [K_ (vI 2)] (fun E4 => [(2, vP (pb E1 0) 0), (3, vP (pb E1 1) 0), (4, vI 2)]) (hs := c_ mv_ <| e_) (k := fun E4 ac wd h_4 => ?_)
  clear h_3
  refine then_n (wp_ret (then_ret ?_))
  have s4 := h_4.g (t := 4) rfl
  refine leave (v := vI 2) h_4.df (by simp [results, Tryz.results8, go_sem, Array.getD_eq_getD_getElem?, s4]) ?_
  have e : whyU es d s a = 2 := by unfold whyU; simp [hf, hin]
  exact ⟨by rw [e], h_4.st.below⟩
  refine rg_ h_2 (tri 4) [K_ (vP (pb E1 1) 0), K_ (vI d), K_ bT, K_ bF] (fun E3 => [(2, vP (pb E1 0) 0), (3, vP (pb E1 1) 0), (4, vI 0), (13, bF)]) (hs := c_ (fa0 (vP (pb E1 1) 0)) <| c_ (ld_ 1 (hrd := by exact rd3 rfl)) <| c_ (cl_ Tryz.func21 (h := fun env => ⟨_, ((In_any d).eq (congrArg Value.bool hin)), rfl⟩)) <| c_ (un0 bT) <| e_) (k := fun E3 ac wd h_3 => ?_)
  clear h_2
  refine then_n ?_
  refine wp_cond_false (eval_tmp (h_3.g (t := 13) rfl)) ?_
  refine wp_skip (then_n (wp_seq (wp_seq ?_)))
  by_cases hd : d < day0 es
  refine rg_ h_3 [[0],[1],[1,2],r_ 4,r_ 5,r_ 6,[0,1,2,3,4,6],[0,1,2,3,4,5,7],r_ 9] [K_ (.agg #[vI u, vI x, .slice A0 es.length c0]), K_ (vP (pb E1 1) 0), K_ (vI d), K_ (vT2 (vI (offV es d)) bF), K_ (vT2 (vI (offV es d)) bF), K_ (vI (offV es d)), K_ bF, K_ (vI (offV es d)), K_ bF] (fun E4 => [(2, vP (pb E1 0) 0), (3, vP (pb E1 1) 0), (4, vI 0), (6, bF)]) (hs := c_ (ld_ 0 (hrd := by exact rd24 rfl rfl rfl)) <| c_ (fa0 (vP (pb E1 1) 0)) <| c_ (ld_ 1 (hrd := by exact rd3 rfl)) <| c_ (cw_ Tryz.func22 (h := fun _ env _ wd hA => ⟨_, (u_res_eq (roffset_any _ es u x d wd (hv.gn hA.j.st.gr) hp) (off_no hp hn0 hd)), rfl⟩)) <| c_ mv_ <| c_ ext_ <| c_ ext_ <| c_ mv_ <| c_ mv_ <| e_) (k := fun E4 ac wd h_4 => ?_)
  clear h_3
  refine then_n (wp_seq ?_)
  refine rg_ h_4 [[0],[0,1]] [K_ bF, K_ bT] (fun E5 => [(2, vP (pb E1 0) 0), (3, vP (pb E1 1) 0), (4, vI 0), (22, bT)]) (hs := c_ mv_ <| c_ (un0 bF) <| e_) (k := fun E5 ac wd h_5 => ?_)
  clear h_4
  refine then_n ?_
  refine wp_cond_true (eval_tmp (h_5.g (t := 22) rfl)) ?_
  refine wp_seq ?_
  refine rg_ h_5 [[0]] [K_ (vI 8)] (fun E6 => [(2, vP (pb E1 0) 0), (3, vP (pb E1 1) 0), (4, vI 8)]) (hs := c_ mv_ <| e_) (k := fun E6 ac wd h_6 => ?_)
  clear h_5
  refine then_n (wp_ret (then_ret ?_))
  have s4 := h_6.g (t := 4) rfl
  refine leave (v := vI 8) h_6.df (by simp [results, Tryz.results8, go_sem, Array.getD_eq_getD_getElem?, s4]) ?_
  have e : whyU es d s a = 8 := by unfold whyU; simp [hf, hin, hd]
  exact ⟨by rw [e], h_6.st.below⟩
  obtain ⟨g0, g1⟩ := chgV_bd hp d
  refine rg_ h_3 [[0],[1],[1,2],r_ 4,r_ 5,r_ 6,[0,1,2,3,4,6],[0,1,2,3,4,5,7],r_ 9] [K_ (.agg #[vI u, vI x, .slice A0 es.length c0]), K_ (vP (pb E1 1) 0), K_ (vI d), K_ (vT2 (vI (offV es d)) bT), K_ (vT2 (vI (offV es d)) bT), K_ (vI (offV es d)), K_ bT, K_ (vI (offV es d)), K_ bT] (fun E4 => [(2, vP (pb E1 0) 0), (3, vP (pb E1 1) 0), (4, vI 0), (6, bT)]) (hs := c_ (ld_ 0 (hrd := by exact rd24 rfl rfl rfl)) <| c_ (fa0 (vP (pb E1 1) 0)) <| c_ (ld_ 1 (hrd := by exact rd3 rfl)) <| c_ (cw_ Tryz.func22 (h := fun _ env _ wd hA => ⟨_, (u_res_eq (roffset_any _ es u x d wd (hv.gn hA.j.st.gr) hp) (off_yes hp hn0 hd)), rfl⟩)) <| c_ mv_ <| c_ ext_ <| c_ ext_ <| c_ mv_ <| c_ mv_ <| e_) (k := fun E4 ac wd h_4 => ?_)
  clear h_3
  refine then_n (wp_seq ?_)
  refine rg_ h_4 [[0],[0,1]] [K_ bT, K_ bF] (fun E5 => [(2, vP (pb E1 0) 0), (3, vP (pb E1 1) 0), (4, vI 0), (22, bF)]) (hs := c_ mv_ <| c_ (un0 bT) <| e_) (k := fun E5 ac wd h_5 => ?_)
  clear h_4
  refine then_n ?_
  refine wp_cond_false (eval_tmp (h_5.g (t := 22) rfl)) ?_
  refine wp_skip (then_n (wp_seq (wp_seq ?_)))
  by_cases hs : 86400 + chgV es d ≤ s
  refine rg_ h_5 [[0],[0,1],[2],[3],[3,4],[2,3,4,5],[2,3,4,5,6],r_ 8] [K_ (vP (pb E1 1) 1), K_ (vI s), K_ (.agg #[vI u, vI x, .slice A0 es.length c0]), K_ (vP (pb E1 1) 0), K_ (vI d), K_ (vI (chgV es d)), K_ (vI (86400 + (chgV es d))), K_ bT] (fun E6 => [(4, vI 0), (30, bT)]) (hs := c_ (fa0 (vP (pb E1 1) 0)) <| c_ (ld_ 1 (hrd := by exact rd3 rfl)) <| c_ (ld_ 0 (hrd := by exact rd24 rfl rfl rfl)) <| c_ (fa0 (vP (pb E1 1) 0)) <| c_ (ld_ 1 (hrd := by exact rd3 rfl)) <| c_ (cw_ Tryz.func23 (h := fun _ env _ wd hA => ⟨_, (rchange_any _ es u x d wd (hv.gn hA.j.st.gr) hp), rfl⟩)) <| c_ (bi0 (vI 86400) (vI (chgV es d))) <| c_ (bi0 (vI s) (vI (86400 + (chgV es d))) (h := by intro env w; simp [go_sem, hs])) <| e_) (k := fun E6 ac wd h_6 => ?_)
  clear h_5
  refine then_n ?_
  refine wp_cond_true (eval_tmp (h_6.g (t := 30) rfl)) ?_
  refine wp_seq ?_
  refine rg_ h_6 [[0]] [K_ (vI 6)] (fun E7 => [(4, vI 6)]) (hs := c_ mv_ <| e_) (k := fun E7 ac wd h_7 => ?_)
  clear h_6
  refine then_n (wp_ret (then_ret ?_))
  have s4 := h_7.g (t := 4) rfl
  refine leave (v := vI 6) h_7.df (by simp [results, Tryz.results8, go_sem, Array.getD_eq_getD_getElem?, s4]) ?_
  have e : whyU es d s a = 6 := by unfold whyU; simp [hf, hin, hd, hs]
  exact ⟨by rw [e], h_7.st.below⟩
  refine rg_ h_5 [[0],[0,1],[2],[3],[3,4],[2,3,4,5],[2,3,4,5,6],r_ 8] [K_ (vP (pb E1 1) 1), K_ (vI s), K_ (.agg #[vI u, vI x, .slice A0 es.length c0]), K_ (vP (pb E1 1) 0), K_ (vI d), K_ (vI (chgV es d)), K_ (vI (86400 + (chgV es d))), K_ bF] (fun E6 => [(4, vI 0), (30, bF)]) (hs := c_ (fa0 (vP (pb E1 1) 0)) <| c_ (ld_ 1 (hrd := by exact rd3 rfl)) <| c_ (ld_ 0 (hrd := by exact rd24 rfl rfl rfl)) <| c_ (fa0 (vP (pb E1 1) 0)) <| c_ (ld_ 1 (hrd := by exact rd3 rfl)) <| c_ (cw_ Tryz.func23 (h := fun _ env _ wd hA => ⟨_, (rchange_any _ es u x d wd (hv.gn hA.j.st.gr) hp), rfl⟩)) <| c_ (bi0 (vI 86400) (vI (chgV es d))) <| c_ (bi0 (vI s) (vI (86400 + (chgV es d))) (h := by intro env w; simp [go_sem, hs])) <| e_) (k := fun E6 ac wd h_6 => ?_)
  clear h_5
  refine then_n ?_
  refine wp_cond_false (eval_tmp (h_6.g (t := 30) rfl)) ?_
  refine wp_skip (then_n (wp_seq ?_))
  refine rg_ h_6 [[0]] [K_ (vI 0)] (fun E7 => [(4, vI 0)]) (hs := c_ mv_ <| e_) (k := fun E7 ac wd h_7 => ?_)
  clear h_6
  refine then_n (wp_ret ?_)
  have s4 := h_7.g (t := 4) rfl
  refine leave (v := vI 0) h_7.df (by simp [results, Tryz.results8, go_sem, Array.getD_eq_getD_getElem?, s4]) ?_
  have e : whyU es d s a = 0 := by unfold whyU; simp [hf, hin, hd, hs]
  exact ⟨by rw [e], h_7.st.below⟩
set_option maxRecDepth 100000 in
set_option maxHeartbeats 8000000 in
theorem rTai12_any (w0 : World) (A0 : Option Addr) (c0 : Nat) (es : List (Int × Int)) (u x : Int) (hv : Ents w0 w0.heap.size (.slice A0 es.length c0) es) (hp : okPre es es.length = true) (d s a : Int) (q0 : 0 ≤ s) (q1 : s ≤ 86400) (q2 : 0 ≤ a) (q3 : a < 1000000000000000000) (q4 : -1099511627776 ≤ d) (q5 : d ≤ 1099511627776) : Calls Tryz.prog 12 #[.agg #[vI u, vI x, .slice A0 es.length c0], vL d s a] w0 fun e w' => ∃ v, e = .returned v ∧ Below w0.heap.size w0 w' ∧ BigN w0.heap.size w' v (jn d (s + offV es d) a) := by
  obtain ⟨g0, g1⟩ := u_off_bd hp d
  have hst := St.start w0 (Θ := fun _ => True) (fun _ _ => trivial)
  refine enter Tryz.func12 rfl (n := 21) rfl (Nat.le_of_ble_eq_true rfl) hst (L := [(0, .agg #[vI u, vI x, .slice A0 es.length c0]), (1, vL d s a)]) (lk_args rfl) (fun ac h => ?_)
  replace h := h.facts
  refine wp_seq ?_
  refine rf_ h [[0],[1],[2]] [KE_ fun env => vP (pb env 0) 0, KE_ fun env => vP (pb env 1) 0, KE_ fun env => vP (pb env 2) 0] (fun E1 => [(2, vP (pb E1 0) 0), (3, vP (pb E1 1) 0), (4, vP (pb E1 2) 0)]) (W := [{ i := 0, T := 24, c0 := [vI u, vI x, .slice A0 es.length c0] }, { i := 1, T := 26, c0 := [vI d, vI s, vI a] }, { i := 2, T := 42, c0 := [bF, .slice none 0 0] }]) (M' := fun E1 => [((pb E1 0), 24, [vI u, vI x, .slice A0 es.length c0]), ((pb E1 1), 26, [vI d, vI s, vI a]), ((pb E1 2), 42, [bF, .slice none 0 0])]) (hs := c_ (bx0 0 (.agg #[vI u, vI x, .slice A0 es.length c0])) <| c_ (bx0 1 (vL d s a)) <| c_ (al_ 2) <| e_) (k := fun E1 ac wd h_1 => ?_)
  clear h
  refine then_n (wp_seq ?_)
  refine rf_ h_1 [[0],[1],[1,2],r_ 4,r_ 5,r_ 6,[0,1,2,3,4,6],[0,1,2,3,4,5,7],r_ 9] [K_ (.agg #[vI u, vI x, .slice A0 es.length c0]), K_ (vP (pb E1 1) 0), K_ (vI d), K_ (vT2 (vI (offV es d)) (.bool (rOk (cnt dayOf es d)))), K_ (vT2 (vI (offV es d)) (.bool (rOk (cnt dayOf es d)))), K_ (vI (offV es d)), K_ (.bool (rOk (cnt dayOf es d))), K_ (vI (offV es d)), K_ (.bool (rOk (cnt dayOf es d)))] (fun E2 => [(3, vP (pb E1 1) 0), (4, vP (pb E1 2) 0), (5, vI (offV es d))]) (hs := c_ (ld_ 0 (hrd := by exact rd24 rfl rfl rfl)) <| c_ (fa0 (vP (pb E1 1) 0)) <| c_ (ld_ 1 (hrd := by exact rd3 rfl)) <| c_ (cw_ Tryz.func22 (h := fun _ env _ wd hA => ⟨_, (u_res_eq (roffset_any _ es u x d wd (hv.gn hA.j.st.gr) hp) rfl), rfl⟩)) <| c_ mv_ <| c_ ext_ <| c_ ext_ <| c_ mv_ <| c_ mv_ <| e_) (k := fun E2 ac wd h_2 => ?_)
  clear h_1
  refine then_n (wp_seq ?_)
  refine rf_ h_2 [[0],[0,1],[2],r_ 4,r_ 5,r_ 6] [K_ (vP (pb E1 1) 1), K_ (vI s), K_ (vI (offV es d)), K_ (vI (s + (offV es d))), K_ (vP (pb E1 1) 1), none] (fun E3 => [(3, vP (pb E1 1) 0), (4, vP (pb E1 2) 0)]) (S := [⟨1, 5, fun _ => [vI d, vI (s + (offV es d)), vI a]⟩]) (M' := fun E3 => [((pb E1 0), 24, [vI u, vI x, .slice A0 es.length c0]), ((pb E1 1), 26, [vI d, vI (s + (offV es d)), vI a]), ((pb E1 2), 42, [bF, .slice none 0 0])]) (hs := c_ (fa0 (vP (pb E1 1) 0)) <| c_ (ld_ 1 (hrd := by exact rd3 rfl)) <| c_ mv_ <| c_ (bi0 (vI s) (vI (offV es d))) <| c_ (fa0 (vP (pb E1 1) 0)) <| c_ (se_ 1 (hst := by exact fun _ _ _ hc => st3 rfl rfl hc)) <| e_) (k := fun E3 ac wd h_3 => ?_)
  clear h_2
  refine then_n (wp_seq ?_)
  refine rf_ h_3 (tri 3) [K_ (vL d (s + (offV es d)) a), KE_ fun env => bigF (jn d (s + (offV es d)) a) (env 1), none] (fun E4 => [(4, vP (pb E1 2) 0)]) (S := [⟨2, 2, fun env => [.bool (decide (jn d (s + (offV es d)) a < 0)), rS (jn d (s + (offV es d)) a) ((bA (env 1))) ((bC (env 1)))]⟩]) (F := [(1, fun env w => BigN w0.heap.size w (env 1) (jn d (s + (offV es d)) a))]) (L1 := fun E4 => [fun w => BigN w0.heap.size w (E4 1) (jn d (s + (offV es d)) a)]) (M' := fun E4 => [((pb E1 0), 24, [vI u, vI x, .slice A0 es.length c0]), ((pb E1 1), 26, [vI d, vI (s + (offV es d)), vI a]), ((pb E1 2), 42, [.bool (decide (jn d (s + (offV es d)) a < 0)), rS (jn d (s + (offV es d)) a) ((bA (E4 1))) ((bC (E4 1)))])]) (hs := c_ (ld_ 1 (hrd := by exact rd26 rfl rfl rfl)) <| c_ (cb_ Tryz.func30 (jn d (s + (offV es d)) a) (h := fun _ env _ wd hA => ⟨_, Join_any wd d (s + (offV es d)) a (by omega) (by omega) (by omega) (by omega) (by omega) (by omega), rfl⟩)) <| c_ (se_ 2 (hst := by exact fun _ _ _ hc => st42 rfl rfl rfl hc)) <| e_) (k := fun E4 ac wd h_4 => ?_)
  clear h_3
  refine then_n (wp_ret ?_)
  have s4 := h_4.g (t := 4) rfl
  have hc4 := (h_4.st.own 2 _ rfl).2
  have c4_0 := own_cell (o := 0) hc4 rfl
  have c4_1 := own_cell (o := 1) hc4 rfl
  refine leave (v := bigF (jn d (s + (offV es d)) a) (E4 1)) h_4.df (by simp [results, Tryz.results12, go_sem, Array.getD_eq_getD_getElem?, s4, c4_0, c4_1, Tryz.underlying42]) ?_
  exact ⟨_, rfl, h_4.st.below, BigN.mk rfl rfl (Facts.bN h_4.st.now 0 rfl)⟩
end Go.Proofs.YtibdhpffdkiggaaGreat
/- The reference's label by leap seconds is the program's: plain law. Own work. -/
namespace Go.Proofs.YtibdhpffdkiggaaGreat
open Go.RowKit
set_option linter.unusedVariables false
set_option linter.unusedSimpArgs false
/-- the entry that the reference's loop holds behind i rounds -/
def kL (es : List (Int × Int)) (z : Int) : Nat → Nat
  | 0 => 0
  | i + 1 => if jn 0 (startOf (es.getD i (0, 0))) 0 ≤ z then i else kL es z i
theorem jn_start (S z : Int) : jn 0 S 0 ≤ z ↔ S ≤ z / 1000000000000000000 := by unfold jn; omega
section
variable {es : List (Int × Int)} (h : okPre es es.length = true)
include h
theorem st_bd {i : Nat} (hi : i < es.length) : 1000000000 ≤ startOf (es.getD i (0, 0)) ∧ startOf (es.getD i (0, 0)) ≤ 2000000000000000 := by
  have := okPre_num h hi
  unfold startOf dayOf
  omega
theorem kL_eq (z : Int) : ∀ i, i ≤ es.length → kL es z i = min i (cnt startOf es (z / 1000000000000000000)) - 1
  | 0, _ => by simp [kL]
  | i + 1, hi => by
    have e := cnt_start h (z / 1000000000000000000) (i := i) (by omega)
    have h2 := kL_eq z i (by omega)
    unfold kL
    by_cases hc : startOf (es.getD i (0, 0)) ≤ z / 1000000000000000000
    · rw [if_pos ((jn_start _ _).2 hc)]
      have := e.1 hc
      omega
    · rw [if_neg (fun hh => hc ((jn_start _ _).1 hh)), h2]
      have : ¬ i < cnt startOf es (z / 1000000000000000000) := fun hh => hc (e.2 hh)
      omega
theorem kL_end (hn : 0 < es.length) {z : Int} (h0 : ¬ z < jn 0 (startOf (es.getD 0 (0, 0))) 0) : kL es z es.length < es.length ∧ cnt startOf es (z / 1000000000000000000) = kL es z es.length + 1 := by
  have e := kL_eq h z es.length (Nat.le_refl _)
  have hle := cnt_le startOf es (z / 1000000000000000000)
  have h1 := (cnt_start h (z / 1000000000000000000) hn).1 ((jn_start _ _).1 (by omega))
  omega
theorem rl_early (hn : 0 < es.length) {z : Int} (h0 : z < jn 0 (startOf (es.getD 0 (0, 0))) 0) : labUt es z = (8, 0, 0, 0) := by
  have hb := st_bd h hn
  have hs : z / 1000000000000000000 < startOf (es.getD 0 (0, 0)) := Int.not_le.1 fun hh => by have := (jn_start _ _).2 hh; omega
  have hc : cnt startOf es (z / 1000000000000000000) = 0 := by
    rcases Nat.eq_zero_or_pos (cnt startOf es (z / 1000000000000000000)) with h1 | h1
    · exact h1
    · have := (cnt_start h (z / 1000000000000000000) hn).2 h1; omega
  unfold labUt labR
  by_cases h64 : z / 1000000000000000000 < -9223372036854775808 ∨ 9223372036854775808 ≤ z / 1000000000000000000
  · rw [if_pos h64, if_pos (by omega)]
  · rw [if_neg h64, if_pos hc]
theorem rl_k {z : Int} (hz : InW z) {k : Nat} (hk : k < es.length) (hc : cnt startOf es (z / 1000000000000000000) = k + 1) {o q c r : Int} (ho : (es.getD k (0, 0)).2 = o)
    (hq : (z - jn 0 o 0) / 1000000000000000000 / 86400 = q) (hcc : (z - jn 0 o 0) / 1000000000000000000 % 86400 = c) (hr : (z - jn 0 o 0) % 1000000000000000000 = r) :
    (¬ (-1099511627776 ≤ q ∧ q ≤ 1099511627776) → labUt es z = (2, 0, 0, 0)) ∧ ((-1099511627776 ≤ q ∧ q ≤ 1099511627776) → ((k + 1 < es.length ∧ dayOf (es.getD (k + 1) (0, 0)) ≤ q → labUt es z = (0, q - 1, c + 86400, r)) ∧ (¬ (k + 1 < es.length ∧ dayOf (es.getD (k + 1) (0, 0)) ≤ q) → labUt es z = (0, q, c, r)))) := by
  have hb := okPre_num h hk
  rw [ho] at hb
  have hs1 := (cnt_start h (z / 1000000000000000000) hk).2 (by omega)
  have hsb := st_bd h hk
  obtain ⟨s, es_⟩ : ∃ s, z / 1000000000000000000 = s := ⟨_, rfl⟩
  have hN : (z - jn 0 o 0) / 1000000000000000000 = s - o := by unfold jn; omega
  have hR : (z - jn 0 o 0) % 1000000000000000000 = z % 1000000000000000000 := by unfold jn; omega
  rw [hN] at hq hcc
  rw [hR] at hr
  rw [es_] at hc hs1
  unfold labUt
  rw [es_, hr]
  have hz0 : cnt startOf es s ≠ 0 := by omega
  have hV : atV es s = o := by unfold atV; rw [if_neg hz0, hc, Nat.add_sub_cancel]; exact ho
  unfold labR
  rw [hV]
  unfold InW at hz
  by_cases h64 : s < -9223372036854775808 ∨ 9223372036854775808 ≤ s
  · rw [if_pos h64, if_neg (by omega)]
    exact ⟨fun _ => rfl, fun hh => by omega⟩
  rw [if_neg h64, if_neg hz0, hq]
  by_cases hk1 : k + 1 < es.length
  · have hU : atU es s = dayOf (es.getD (k + 1) (0, 0)) := by unfold atU; rw [if_neg hz0, if_neg (by omega), hc]
    have hb2 := okPre_num h hk1
    have hnx : s < startOf (es.getD (k + 1) (0, 0)) := Int.not_le.1 fun hh => by have := (cnt_start h s hk1).1 hh; omega
    have hof := off_step h hk1
    rw [ho] at hof
    have hDb : 15000 ≤ dayOf (es.getD (k + 1) (0, 0)) ∧ dayOf (es.getD (k + 1) (0, 0)) ≤ 20000000000 := by unfold dayOf; omega
    unfold startOf at hnx
    rw [hU]
    by_cases hle : dayOf (es.getD (k + 1) (0, 0)) ≤ q
    · have hqU : q = dayOf (es.getD (k + 1) (0, 0)) := by omega
      have hin : wthn (dayOf (es.getD (k + 1) (0, 0)) - 1) (-1099511627776) 1099511627776 = true := by unfold wthn; rw [decide_eq_true (by omega), decide_eq_true (by omega)]; rfl
      rw [if_pos hle, if_pos hin]
      exact ⟨fun hh => by omega, fun _ => ⟨fun _ => tup4 rfl (by omega) (by omega) rfl, fun hh => absurd ⟨hk1, hle⟩ hh⟩⟩
    · rw [if_neg hle]
      refine ⟨fun hh => ?_, fun hh => ⟨fun h2 => absurd h2.2 hle, fun _ => ?_⟩⟩
      · have hin : wthn q (-1099511627776) 1099511627776 = false := by unfold wthn; simp; omega
        rw [if_neg (by rw [hin]; exact Bool.false_ne_true)]
      · have hin : wthn q (-1099511627776) 1099511627776 = true := by unfold wthn; rw [decide_eq_true hh.1, decide_eq_true hh.2]; rfl
        rw [if_pos hin]
        exact tup4 rfl rfl (by omega) rfl
  · have hU : atU es s = 4611686018427387904 := by unfold atU; rw [if_neg hz0, if_pos (by omega)]
    rw [hU, if_neg (by omega)]
    refine ⟨fun hh => ?_, fun hh => ⟨fun h2 => absurd h2.1 hk1, fun _ => ?_⟩⟩
    · have hin : wthn q (-1099511627776) 1099511627776 = false := by unfold wthn; simp; omega
      rw [if_neg (by rw [hin]; exact Bool.false_ne_true)]
    · have hin : wthn q (-1099511627776) 1099511627776 = true := by unfold wthn; rw [decide_eq_true hh.1, decide_eq_true hh.2]; rfl
      rw [if_pos hin]
      exact tup4 rfl rfl (by omega) rfl
end
end Go.Proofs.YtibdhpffdkiggaaGreat
/- epactref12: Label (printed by my walk.py) -/
namespace Go.Proofs.YtibdhpffdkiggaaGreat
open Go.RowKit
set_option linter.unusedVariables false
set_option linter.unusedSimpArgs false
attribute [local go_sem] vN bT bF rS vW vM vL vT2 vT3 vP vI execOp Act.eval evC bigF vB hi_zero lo_zero Tryz.underlying24 Tryz.underlying26 Tryz.underlying42

set_option maxRecDepth 100000 in
set_option maxHeartbeats 8000000 in
theorem Split_no (w0 : World) (p : Bool) (A0 : Option Addr) (c0 : Nat) (x : Int) (hp : p = decide (x < 0)) (hr : Row w0 (.slice A0 (digs x).length c0) (digs x)) (hx : Sm x) (h0 : -9223372036854775808 ≤ x / 1000000000000000000 / 86400) (h1 : x / 1000000000000000000 / 86400 < 9223372036854775808) (hno : ¬ (-1099511627776 ≤ x / 1000000000000000000 / 86400 ∧ x / 1000000000000000000 / 86400 ≤ 1099511627776)) : Calls Tryz.prog 39 #[.agg #[.bool (p), .slice A0 ((digs x).length) c0]] w0 fun e w' => e = .returned (vT2 (vL 0 0 0) (.bool false)) ∧ Below w0.heap.size w0 w' := by
  have hin : (decide (-1099511627776 ≤ x / 1000000000000000000 / 86400) && decide (x / 1000000000000000000 / 86400 ≤ 1099511627776)) = false := by simp; omega
  have hst := St.start w0 (Θ := fun _ => True) (fun _ _ => trivial)
  refine enter Tryz.func39 rfl (n := 53) rfl (Nat.le_of_ble_eq_true rfl) hst (L := [(0, .agg #[.bool (p), .slice A0 ((digs x).length) c0])]) (lk_args rfl) (fun ac h => ?_)
  replace h := h.facts
  refine wp_seq ?_
  refine rf_ h [[0],[1],[2]] [KE_ fun env => vP (pb env 0) 0, KE_ fun env => vP (pb env 1) 0, K_ bF] (fun E1 => [(1, vP (pb E1 0) 0), (2, vP (pb E1 1) 0), (3, bF)]) (W := [{ i := 0, T := 42, c0 := [.bool (p), rS x A0 c0] }, { i := 1, T := 26, c0 := [vI 0, vI 0, vI 0] }]) (M' := fun E1 => [((pb E1 0), 42, [.bool (p), rS x A0 c0]), ((pb E1 1), 26, [vI 0, vI 0, vI 0])]) (hs := c_ (bx0 0 (.agg #[.bool (p), rS x A0 c0])) <| c_ (al_ 1) <| c_ mv_ <| e_) (k := fun E1 ac wd h_1 => ?_)
  clear h
  refine then_n (wp_seq ?_)
  refine rf_ h_1 [[0],[1],[0,1,2],r_ 4,r_ 5,[0,1,2,3,5],[6],[7],[0,1,2,3,4,6,7,8],r_ 10] [K_ (.agg #[.bool (p), rS x A0 c0]), KE_ fun env => bigF 1000000000000000000 (env 1), KE_ fun env => vT2 (bigF (x / 1000000000000000000) (tp (env 2) 0)) (bigF (x % 1000000000000000000) (tp (env 2) 1)), KE_ fun env => vT2 (bigF (x / 1000000000000000000) (tp (env 2) 0)) (bigF (x % 1000000000000000000) (tp (env 2) 1)), KE_ fun env => bigF (x / 1000000000000000000) (tp (env 2) 0), KE_ fun env => bigF (x % 1000000000000000000) (tp (env 2) 1), KE_ fun env => vP (pb env 6) 0, KE_ fun env => vP (pb env 7) 0, none, none] (fun E2 => [(2, vP (pb E1 1) 0), (3, bF), (4, vP (pb E2 6) 0), (5, vP (pb E2 7) 0)]) (W := [{ i := 6, T := 42, c0 := [bF, .slice none 0 0], s := some 8, c1 := fun env => [.bool (decide (x / 1000000000000000000 < 0)), rS (x / 1000000000000000000) ((bA (tp (env 2) 0))) ((bC (tp (env 2) 0)))] }, { i := 7, T := 42, c0 := [bF, .slice none 0 0], s := some 9, c1 := fun env => [.bool (decide (x % 1000000000000000000 < 0)), rS (x % 1000000000000000000) ((bA (tp (env 2) 1))) ((bC (tp (env 2) 1)))] }]) (F := [(1, fun env w => BigN w0.heap.size w (env 1) 1000000000000000000), (2, fun env w => DivX w (env 2) (x / 1000000000000000000) (x % 1000000000000000000))]) (L1 := fun E2 => [fun w => BigN w0.heap.size w (E2 1) 1000000000000000000, fun w => DivX w (E2 2) (x / 1000000000000000000) (x % 1000000000000000000)]) (M' := fun E2 => [((pb E1 0), 42, [.bool (p), rS x A0 c0]), ((pb E1 1), 26, [vI 0, vI 0, vI 0]), ((pb E2 6), 42, [.bool (decide (x / 1000000000000000000 < 0)), rS (x / 1000000000000000000) ((bA (tp (E2 2) 0))) ((bC (tp (E2 2) 0)))]), ((pb E2 7), 42, [.bool (decide (x % 1000000000000000000 < 0)), rS (x % 1000000000000000000) ((bA (tp (E2 2) 1))) ((bC (tp (E2 2) 1)))])]) (hs := c_ (ld_ 0 (hrd := by exact rd42 rfl rfl)) <| c_ (cb_ Tryz.func25 1000000000000000000 (h := fun _ env _ wd hA => ⟨_, Int_any wd 1000000000000000000 (by omega) (by omega), rfl⟩)) <| c_ (cf_ Tryz.func58 (fun v w => DivX w v (x / 1000000000000000000) (x % 1000000000000000000)) (divF (x / 1000000000000000000) (x % 1000000000000000000)) (h := fun _ env _ wd hA => ⟨_, toD (Div_any wd p A0 c0 x hp (hr.grown hA.j.st.gr) hx (decide (1000000000000000000 < 0)) (bA (env 1)) (bC (env 1)) 1000000000000000000 rfl (At.bigN hA 1 rfl rfl rfl) (by unfold Sm; omega) (by omega)), rfl⟩)) <| c_ mv_ <| c_ ext_ <| c_ ext_ <| c_ (al_ 2) <| c_ (al_ 3) <| c_ (sw_ 2 6 (hst := by exact fun _ _ _ hc => st42 rfl rfl rfl hc)) <| c_ (sw_ 3 7 (hst := by exact fun _ _ _ hc => st42 rfl rfl rfl hc)) <| e_) (k := fun E2 ac wd h_2 => ?_)
  clear h_1
  refine then_n (wp_seq ?_)
  refine rf_ h_2 [[0],[1],[0,1,2],r_ 4,r_ 5,[0,1,2,3,5],[6],[7],[0,1,2,3,4,6,7,8],r_ 10] [K_ (bigF (x / 1000000000000000000) (tp (E2 2) 0)), KE_ fun env => bigF 86400 (env 1), KE_ fun env => vT2 (bigF ((x / 1000000000000000000) / 86400) (tp (env 2) 0)) (bigF ((x / 1000000000000000000) % 86400) (tp (env 2) 1)), KE_ fun env => vT2 (bigF ((x / 1000000000000000000) / 86400) (tp (env 2) 0)) (bigF ((x / 1000000000000000000) % 86400) (tp (env 2) 1)), KE_ fun env => bigF ((x / 1000000000000000000) / 86400) (tp (env 2) 0), KE_ fun env => bigF ((x / 1000000000000000000) % 86400) (tp (env 2) 1), KE_ fun env => vP (pb env 6) 0, KE_ fun env => vP (pb env 7) 0, none, none] (fun E3 => [(2, vP (pb E1 1) 0), (3, bF), (5, vP (pb E2 7) 0), (6, vP (pb E3 6) 0), (7, vP (pb E3 7) 0)]) (W := [{ i := 6, T := 42, c0 := [bF, .slice none 0 0], s := some 8, c1 := fun env => [.bool (decide ((x / 1000000000000000000) / 86400 < 0)), rS ((x / 1000000000000000000) / 86400) ((bA (tp (env 2) 0))) ((bC (tp (env 2) 0)))] }, { i := 7, T := 42, c0 := [bF, .slice none 0 0], s := some 9, c1 := fun env => [.bool (decide ((x / 1000000000000000000) % 86400 < 0)), rS ((x / 1000000000000000000) % 86400) ((bA (tp (env 2) 1))) ((bC (tp (env 2) 1)))] }]) (F := [(1, fun env w => BigN w0.heap.size w (env 1) 86400), (2, fun env w => DivX w (env 2) ((x / 1000000000000000000) / 86400) ((x / 1000000000000000000) % 86400))]) (L1 := fun E3 => [fun w => BigN w0.heap.size w (E2 1) 1000000000000000000, fun w => DivX w (E2 2) (x / 1000000000000000000) (x % 1000000000000000000), fun w => BigN w0.heap.size w (E3 1) 86400, fun w => DivX w (E3 2) ((x / 1000000000000000000) / 86400) ((x / 1000000000000000000) % 86400)]) (M' := fun E3 => [((pb E1 0), 42, [.bool (p), rS x A0 c0]), ((pb E1 1), 26, [vI 0, vI 0, vI 0]), ((pb E2 6), 42, [.bool (decide (x / 1000000000000000000 < 0)), rS (x / 1000000000000000000) ((bA (tp (E2 2) 0))) ((bC (tp (E2 2) 0)))]), ((pb E2 7), 42, [.bool (decide (x % 1000000000000000000 < 0)), rS (x % 1000000000000000000) ((bA (tp (E2 2) 1))) ((bC (tp (E2 2) 1)))]), ((pb E3 6), 42, [.bool (decide ((x / 1000000000000000000) / 86400 < 0)), rS ((x / 1000000000000000000) / 86400) ((bA (tp (E3 2) 0))) ((bC (tp (E3 2) 0)))]), ((pb E3 7), 42, [.bool (decide ((x / 1000000000000000000) % 86400 < 0)), rS ((x / 1000000000000000000) % 86400) ((bA (tp (E3 2) 1))) ((bC (tp (E3 2) 1)))])]) (hs := c_ (ld_ 2 (hrd := by exact rd42 rfl rfl)) <| c_ (cb_ Tryz.func25 86400 (h := fun _ env _ wd hA => ⟨_, Int_any wd 86400 (by omega) (by omega), rfl⟩)) <| c_ (cf_ Tryz.func58 (fun v w => DivX w v ((x / 1000000000000000000) / 86400) ((x / 1000000000000000000) % 86400)) (divF ((x / 1000000000000000000) / 86400) ((x / 1000000000000000000) % 86400)) (h := fun _ env _ wd hA => ⟨_, toD (Div_any wd (decide (x / 1000000000000000000 < 0)) (bA (tp (E2 2) 0)) (bC (tp (E2 2) 0)) (x / 1000000000000000000) rfl (Facts.div1 (hA.j.st.now).1 1 rfl) (by unfold Sm at *; omega) (decide (86400 < 0)) (bA (env 1)) (bC (env 1)) 86400 rfl (At.bigN hA 1 rfl rfl rfl) (by unfold Sm; omega) (by omega)), rfl⟩)) <| c_ mv_ <| c_ ext_ <| c_ ext_ <| c_ (al_ 4) <| c_ (al_ 5) <| c_ (sw_ 4 6 (hst := by exact fun _ _ _ hc => st42 rfl rfl rfl hc)) <| c_ (sw_ 5 7 (hst := by exact fun _ _ _ hc => st42 rfl rfl rfl hc)) <| e_) (k := fun E3 ac wd h_3 => ?_)
  clear h_2
  refine then_n (wp_seq ?_)
  refine rf_ h_3 [[0],[0,1],[0,1,2],r_ 4,[0,1,2,4],[0,1,2,3,5],r_ 7] [K_ (bigF ((x / 1000000000000000000) / 86400) (tp (E3 2) 0)), K_ (vT2 (vI ((x / 1000000000000000000 / 86400))) bT), K_ (vT2 (vI ((x / 1000000000000000000 / 86400))) bT), K_ (vI ((x / 1000000000000000000 / 86400))), K_ bT, K_ (vI ((x / 1000000000000000000 / 86400))), K_ bT] (fun E4 => [(2, vP (pb E1 1) 0), (3, bF), (5, vP (pb E2 7) 0), (7, vP (pb E3 7) 0), (8, vI ((x / 1000000000000000000 / 86400))), (9, bT)]) (hs := c_ (ld_ 4 (hrd := by exact rd42 rfl rfl)) <| c_ (cw_ Tryz.func59 (h := fun _ env _ wd hA => ⟨_, Small_yes wd (decide ((x / 1000000000000000000) / 86400 < 0)) (bA (tp (E3 2) 0)) (bC (tp (E3 2) 0)) (x / 1000000000000000000 / 86400) rfl (Facts.div1 (hA.j.st.now).1 3 rfl)  (by omega) (by omega), rfl⟩)) <| c_ mv_ <| c_ ext_ <| c_ ext_ <| c_ mv_ <| c_ mv_ <| e_) (k := fun E4 ac wd h_4 => ?_)
  clear h_3
  refine then_n (wp_seq (wp_seq ?_))
  refine rf_ h_4 (tri 7) [K_ bT, K_ bF, K_ bF, K_ (vI ((x / 1000000000000000000 / 86400))), K_ bF, K_ bT, K_ bT] (fun E5 => [(2, vP (pb E1 1) 0), (3, bF), (5, vP (pb E2 7) 0), (7, vP (pb E3 7) 0), (8, vI ((x / 1000000000000000000 / 86400))), (37, bT)]) (hs := c_ mv_ <| c_ (un0 bT) <| c_ mv_ <| c_ (gm0 (vI ((x / 1000000000000000000 / 86400)))) <| c_ (cl_ Tryz.func21 (h := fun env => ⟨_, ((In_any (x / 1000000000000000000 / 86400)).eq (congrArg Value.bool hin)), rfl⟩)) <| c_ (un0 bF) <| c_ (pk0 bF bT bT) <| e_) (k := fun E5 ac wd h_5 => ?_)
  clear h_4
  refine then_n ?_
  refine wp_cond_true (eval_tmp (h_5.g (t := 37) rfl)) ?_
  refine wp_seq ?_
  refine rf_ h_5 (tri 3) [K_ (vL 0 0 0), none, K_ bF] (fun E6 => [(2, vP (pb E1 1) 0), (3, bF), (5, vP (pb E2 7) 0), (7, vP (pb E3 7) 0), (8, vI ((x / 1000000000000000000 / 86400)))]) (S := [⟨1, 1, fun _ => [vI 0, vI 0, vI 0]⟩]) (M' := fun E6 => [((pb E1 0), 42, [.bool (p), rS x A0 c0]), ((pb E1 1), 26, [vI 0, vI 0, vI 0]), ((pb E2 6), 42, [.bool (decide (x / 1000000000000000000 < 0)), rS (x / 1000000000000000000) ((bA (tp (E2 2) 0))) ((bC (tp (E2 2) 0)))]), ((pb E2 7), 42, [.bool (decide (x % 1000000000000000000 < 0)), rS (x % 1000000000000000000) ((bA (tp (E2 2) 1))) ((bC (tp (E2 2) 1)))]), ((pb E3 6), 42, [.bool (decide ((x / 1000000000000000000) / 86400 < 0)), rS ((x / 1000000000000000000) / 86400) ((bA (tp (E3 2) 0))) ((bC (tp (E3 2) 0)))]), ((pb E3 7), 42, [.bool (decide ((x / 1000000000000000000) % 86400 < 0)), rS ((x / 1000000000000000000) % 86400) ((bA (tp (E3 2) 1))) ((bC (tp (E3 2) 1)))])]) (hs := c_ (bd0 ([])) <| c_ (se_ 1 (hst := by exact fun _ _ _ hc => st26 rfl rfl rfl rfl hc)) <| c_ mv_ <| e_) (k := fun E6 ac wd h_6 => ?_)
  clear h_5
  refine then_n (wp_ret (then_ret ?_))
  have s2 := h_6.g (t := 2) rfl
  have hc2 := (h_6.st.own 1 _ rfl).2
  have c2_0 := own_cell (o := 0) hc2 rfl
  have c2_1 := own_cell (o := 1) hc2 rfl
  have c2_2 := own_cell (o := 2) hc2 rfl
  have s3 := h_6.g (t := 3) rfl
  refine leave (v := vT2 (vL 0 0 0) (.bool false)) h_6.df (by simp [results, Tryz.results39, go_sem, Array.getD_eq_getD_getElem?, s2, c2_0, c2_1, c2_2, Tryz.underlying26, s3]) ?_
  exact ⟨rfl, h_6.st.below⟩
/-- the cells of entries -/
def enC (es : List (Int × Int)) (p : Nat) : Value := if p % 2 = 0 then vI (es.getD (p / 2) (0, 0)).1 else vI (es.getD (p / 2) (0, 0)).2
theorem enC_0 (es : List (Int × Int)) (j : Nat) : enC es (j * 2) = vI (es.getD j (0, 0)).1 := by unfold enC; rw [if_pos (by omega), show j * 2 / 2 = j by omega]
theorem enC_1 (es : List (Int × Int)) (j : Nat) : enC es (j * 2 + 1) = vI (es.getD j (0, 0)).2 := by unfold enC; rw [if_neg (by omega), show (j * 2 + 1) / 2 = j by omega]
theorem Ents.els {w : World} {B : Nat} {v : Value} {es : List (Int × Int)} (h : Ents w B v es) : Els w v es.length 2 (enC es) := by
  obtain ⟨A, c, rfl, h1, h2, h3⟩ := h
  refine ⟨A, c, rfl, h1, ?_⟩
  rcases Nat.eq_zero_or_pos es.length with h0 | h0
  · exact .inl h0
  · obtain ⟨b, off, hA, hb, hc⟩ := h3 h0
    refine .inr ⟨b, off, hA, fun i hi => ?_⟩
    have h5 := hc (i / 2) (by omega)
    rcases Nat.mod_two_eq_zero_or_one i with h6 | h6
    · rw [show off + i = off + i / 2 * 2 by omega, h5.1]; unfold enC; rw [if_pos h6]
    · rw [show off + i = off + i / 2 * 2 + 1 by omega, h5.2]; unfold enC; rw [if_neg (by omega)]
theorem u_start (es : List (Int × Int)) (i : Nat) : vI (startOf ((es.getD i (0, 0)).1, (es.getD i (0, 0)).2)) = vI (startOf (es.getD i (0, 0))) := rfl
theorem u_day (es : List (Int × Int)) (i : Nat) : vI (dayOf ((es.getD i (0, 0)).1, (es.getD i (0, 0)).2)) = vI (dayOf (es.getD i (0, 0))) := rfl
theorem u_cmp_le {x y : Int} : cmpZ x y ≤ 0 ↔ x ≤ y := by unfold cmpZ; split <;> (try split) <;> omega
theorem u_cmp_lt {x y : Int} : cmpZ x y < 0 ↔ x < y := by unfold cmpZ; split <;> (try split) <;> omega
theorem u_cmp_ge {x y : Int} : 0 ≤ cmpZ x y ↔ y ≤ x := by unfold cmpZ; split <;> (try split) <;> omega
theorem u_cmp_gt {x y : Int} : 0 < cmpZ x y ↔ y < x := by unfold cmpZ; split <;> (try split) <;> omega
theorem sm_w {z : Int} (h : InW z) : Sm z := by unfold InW at h; unfold Sm; omega
theorem lab4 {es : List (Int × Int)} {z e d c r : Int} (h : labUt es z = (e, d, c, r)) : vT2 (vL d c r) (vI e) = vT2 (vL (labUt es z).2.1 (labUt es z).2.2.1 (labUt es z).2.2.2) (vI (labUt es z).1) := by rw [h]
set_option maxRecDepth 100000 in
set_option maxHeartbeats 8000000 in
theorem rLabel12_any (w0 : World) (A0 : Option Addr) (c0 : Nat) (es : List (Int × Int)) (u x : Int) (hv : Ents w0 w0.heap.size (.slice A0 es.length c0) es) (hk : okPre es es.length = true) (hn0 : 0 < es.length) (p : Bool) (A1 : Option Addr) (k1_ : Nat) (z : Int) (hp : p = decide (z < 0)) (hr : Row w0 (.slice A1 (digs z).length k1_) (digs z)) (hz : InW z) : Calls Tryz.prog 14 #[.agg #[vI u, vI x, .slice A0 es.length c0], .agg #[.bool (p), .slice A1 ((digs z).length) k1_]] w0 fun e w' => e = .returned (vT2 (vL ((labUt es z).2.1) ((labUt es z).2.2.1) ((labUt es z).2.2.2)) (vI ((labUt es z).1))) ∧ Below w0.heap.size w0 w' := by
  have hlen := okPre_len hk
  have hst := St.start w0 (Θ := fun _ => True) (fun _ _ => trivial)
  refine enter Tryz.func14 rfl (n := 87) rfl (Nat.le_of_ble_eq_true rfl) hst (L := [(0, .agg #[vI u, vI x, .slice A0 es.length c0]), (1, .agg #[.bool (p), .slice A1 ((digs z).length) k1_])]) (lk_args rfl) (fun ac h => ?_)
  replace h := h.facts
  refine wp_seq ?_
  refine rf_ h [[0],[1],[2],[3]] [KE_ fun env => vP (pb env 0) 0, KE_ fun env => vP (pb env 1) 0, KE_ fun env => vP (pb env 2) 0, K_ (vI 0)] (fun E1 => [(2, vP (pb E1 0) 0), (3, vP (pb E1 1) 0), (4, vP (pb E1 2) 0), (5, vI 0)]) (W := [{ i := 0, T := 24, c0 := [vI u, vI x, .slice A0 es.length c0] }, { i := 1, T := 42, c0 := [.bool (p), rS z A1 k1_] }, { i := 2, T := 26, c0 := [vI 0, vI 0, vI 0] }]) (M' := fun E1 => [((pb E1 0), 24, [vI u, vI x, .slice A0 es.length c0]), ((pb E1 1), 42, [.bool (p), rS z A1 k1_]), ((pb E1 2), 26, [vI 0, vI 0, vI 0])]) (hs := c_ (bx0 0 (.agg #[vI u, vI x, .slice A0 es.length c0])) <| c_ (bx0 1 (.agg #[.bool (p), rS z A1 k1_])) <| c_ (al_ 2) <| c_ mv_ <| e_) (k := fun E1 ac wd h_1 => ?_)
  clear h
  refine then_n (wp_seq ?_)
  have hb0 := okPre_num hk (i := 0) (by omega); have hst0 := st_bd hk (i := 0) (by omega)
  refine rf_ h_1 [[0],[0,1],[0,1,2],r_ 4,r_ 5,r_ 6,r_ 7,[7],r_ 9] [K_ (vP (pb E1 0) 2), K_ (.slice A0 es.length c0), K_ (elt (.slice A0 es.length c0) (0 * 2)), K_ (.agg #[vI ((es.getD 0 (0, 0)).1), vI ((es.getD 0 (0, 0)).2)]), K_ (vI (startOf (es.getD 0 (0, 0)))), K_ (vL 0 (startOf (es.getD 0 (0, 0))) 0), KE_ fun env => bigF (jn 0 (startOf (es.getD 0 (0, 0))) 0) (env 6), KE_ fun env => vP (pb env 7) 0, none] (fun E2 => [(2, vP (pb E1 0) 0), (3, vP (pb E1 1) 0), (4, vP (pb E1 2) 0), (5, vI 0), (6, vP (pb E2 7) 0)]) (W := [{ i := 7, T := 42, c0 := [bF, .slice none 0 0], s := some 8, c1 := fun env => [.bool (decide (jn 0 (startOf (es.getD 0 (0, 0))) 0 < 0)), rS (jn 0 (startOf (es.getD 0 (0, 0))) 0) ((bA (env 6))) ((bC (env 6)))] }]) (F := [(6, fun env w => BigN w0.heap.size w (env 6) (jn 0 (startOf (es.getD 0 (0, 0))) 0))]) (L1 := fun E2 => [fun w => BigN w0.heap.size w (E2 6) (jn 0 (startOf (es.getD 0 (0, 0))) 0)]) (M' := fun E2 => [((pb E1 0), 24, [vI u, vI x, .slice A0 es.length c0]), ((pb E1 1), 42, [.bool (p), rS z A1 k1_]), ((pb E1 2), 26, [vI 0, vI 0, vI 0]), ((pb E2 7), 42, [.bool (decide (jn 0 (startOf (es.getD 0 (0, 0))) 0 < 0)), rS (jn 0 (startOf (es.getD 0 (0, 0))) 0) ((bA (E2 6))) ((bC (E2 6)))])]) (hs := c_ (fa0 (vP (pb E1 0) 0)) <| c_ (ld_ 0 (hrd := by exact rd22 rfl)) <| c_ (ia_ Tryz.underlying22 sz72 0 (0 * 2) 0 (fun _ env _ wd hA => (hv.gn hA.j.st.gr).els) (rfl) (by omega) rfl) <| c_ (le_ (0 * 2) (fun _ env _ wd hA => (hv.gn hA.j.st.gr).els) (by omega) (le72 (by exact enC_0 es 0) (by exact enC_1 es 0))) <| c_ (cl_ Tryz.func37 (h := fun env => ⟨_, (Ret.eq (rstart_any ((es.getD 0 (0, 0)).1) ((es.getD 0 (0, 0)).2) hb0.1 hb0.2.1 hb0.2.2.1 hb0.2.2.2.1) (u_start es 0)), rfl⟩)) <| c_ (bd0 ([vI (startOf (es.getD 0 (0, 0)))])) <| c_ (cb_ Tryz.func30 (jn 0 (startOf (es.getD 0 (0, 0))) 0) (h := fun _ env _ wd hA => ⟨_, Join_any wd 0 (startOf (es.getD 0 (0, 0))) 0 (by omega) (by omega) (by omega) (by omega) (by omega) (by omega), rfl⟩)) <| c_ (al_ 3) <| c_ (sw_ 3 7 (hst := by exact fun _ _ _ hc => st42 rfl rfl rfl hc)) <| e_) (k := fun E2 ac wd h_2 => ?_)
  clear h_1
  refine then_n (wp_seq (wp_seq ?_))
  by_cases hE : z < jn 0 (startOf (es.getD 0 (0, 0))) 0
  refine rf_ h_2 [[0],[1],[0,1,2],r_ 4] [K_ (.agg #[.bool (p), rS z A1 k1_]), K_ (bigF (jn 0 (startOf (es.getD 0 (0, 0))) 0) (E2 6)), K_ (vI (cmpZ z (jn 0 (startOf (es.getD 0 (0, 0))) 0))), K_ bT] (fun E3 => [(2, vP (pb E1 0) 0), (3, vP (pb E1 1) 0), (4, vP (pb E1 2) 0), (5, vI 0), (21, bT)]) (hs := c_ (ld_ 1 (hrd := by exact rd42 rfl rfl)) <| c_ (ld_ 3 (hrd := by exact rd42 rfl rfl)) <| c_ (cw_ Tryz.func24 (h := fun _ env _ wd hA => ⟨_, Cmp_any wd p A1 k1_ z hp (hr.grown hA.j.st.gr)  (decide (jn 0 (startOf (es.getD 0 (0, 0))) 0 < 0)) (bA (E2 6)) (bC (E2 6)) (jn 0 (startOf (es.getD 0 (0, 0))) 0) rfl (Facts.bigN (hA.j.st.now).1 0 rfl) , rfl⟩)) <| c_ (bi0 (vI (cmpZ z (jn 0 (startOf (es.getD 0 (0, 0))) 0))) (vI 0) (h := by intro env w; (first | (simp [go_sem, u_cmp_le, u_cmp_lt, u_cmp_ge, u_cmp_gt, hE]; done) | (simp [go_sem, u_cmp_le, u_cmp_lt, u_cmp_ge, u_cmp_gt]; simp only [List.getD_eq_getElem?_getD] at *; omega)))) <| e_) (k := fun E3 ac wd h_3 => ?_)
  clear h_2
  refine then_n ?_
  refine wp_cond_true (eval_tmp (h_3.g (t := 21) rfl)) ?_
  refine wp_seq ?_
  refine rf_ h_3 (tri 3) [K_ (vL 0 0 0), none, K_ (vI 8)] (fun E4 => [(2, vP (pb E1 0) 0), (3, vP (pb E1 1) 0), (4, vP (pb E1 2) 0), (5, vI 8)]) (S := [⟨2, 1, fun _ => [vI 0, vI 0, vI 0]⟩]) (M' := fun E4 => [((pb E1 0), 24, [vI u, vI x, .slice A0 es.length c0]), ((pb E1 1), 42, [.bool (p), rS z A1 k1_]), ((pb E1 2), 26, [vI 0, vI 0, vI 0]), ((pb E2 7), 42, [.bool (decide (jn 0 (startOf (es.getD 0 (0, 0))) 0 < 0)), rS (jn 0 (startOf (es.getD 0 (0, 0))) 0) ((bA (E2 6))) ((bC (E2 6)))])]) (hs := c_ (bd0 ([])) <| c_ (se_ 2 (hst := by exact fun _ _ _ hc => st26 rfl rfl rfl rfl hc)) <| c_ mv_ <| e_) (k := fun E4 ac wd h_4 => ?_)
  clear h_3
  refine then_n (wp_ret (then_ret ?_))
  have s4 := h_4.g (t := 4) rfl
  have hc4 := (h_4.st.own 2 _ rfl).2
  have c4_0 := own_cell (o := 0) hc4 rfl
  have c4_1 := own_cell (o := 1) hc4 rfl
  have c4_2 := own_cell (o := 2) hc4 rfl
  have s5 := h_4.g (t := 5) rfl
  refine leave (v := vT2 (vL 0 0 0) (vI 8)) h_4.df (by simp [results, Tryz.results14, go_sem, Array.getD_eq_getD_getElem?, s4, c4_0, c4_1, c4_2, Tryz.underlying26, s5]) ?_
  have e4 := lab4 (rl_early hk hn0 hE)
  exact ⟨by rw [e4], h_4.st.below⟩
  refine rf_ h_2 [[0],[1],[0,1,2],r_ 4] [K_ (.agg #[.bool (p), rS z A1 k1_]), K_ (bigF (jn 0 (startOf (es.getD 0 (0, 0))) 0) (E2 6)), K_ (vI (cmpZ z (jn 0 (startOf (es.getD 0 (0, 0))) 0))), K_ bF] (fun E3 => [(2, vP (pb E1 0) 0), (3, vP (pb E1 1) 0), (4, vP (pb E1 2) 0), (5, vI 0), (21, bF)]) (hs := c_ (ld_ 1 (hrd := by exact rd42 rfl rfl)) <| c_ (ld_ 3 (hrd := by exact rd42 rfl rfl)) <| c_ (cw_ Tryz.func24 (h := fun _ env _ wd hA => ⟨_, Cmp_any wd p A1 k1_ z hp (hr.grown hA.j.st.gr)  (decide (jn 0 (startOf (es.getD 0 (0, 0))) 0 < 0)) (bA (E2 6)) (bC (E2 6)) (jn 0 (startOf (es.getD 0 (0, 0))) 0) rfl (Facts.bigN (hA.j.st.now).1 0 rfl) , rfl⟩)) <| c_ (bi0 (vI (cmpZ z (jn 0 (startOf (es.getD 0 (0, 0))) 0))) (vI 0) (h := by intro env w; (first | (simp [go_sem, u_cmp_le, u_cmp_lt, u_cmp_ge, u_cmp_gt, hE]; done) | (simp [go_sem, u_cmp_le, u_cmp_lt, u_cmp_ge, u_cmp_gt]; simp only [List.getD_eq_getElem?_getD] at *; omega)))) <| e_) (k := fun E3 ac wd h_3 => ?_)
  clear h_2
  refine then_n ?_
  refine wp_cond_false (eval_tmp (h_3.g (t := 21) rfl)) ?_
  refine wp_skip (then_n (wp_seq ?_))
  refine rf_ h_3 [[0]] [K_ (vI 0)] (fun E4 => [(2, vP (pb E1 0) 0), (3, vP (pb E1 1) 0), (4, vP (pb E1 2) 0), (5, vI 0), (7, vI 0)]) (hs := c_ mv_ <| e_) (k := fun E4 ac wd h_4 => ?_)
  clear h_3
  refine then_n (wp_seq (wp_seq ?_))
  refine rf_ h_4 [[0]] [K_ (vI 0)] (fun E5 => [(2, vP (pb E1 0) 0), (3, vP (pb E1 1) 0), (4, vP (pb E1 2) 0), (5, vI 0), (7, vI 0), (8, vI 0)]) (hs := c_ mv_ <| e_) (k := fun E5 ac wd h_5 => ?_)
  clear h_4
  refine then_n (wp_block ?_)
  refine wp_loop (fun ac wd => ∃ i : Nat, i ≤ es.length ∧ Cur 87 w0 none none (Facts []) (fun _ => True) [(2, vP (pb E1 0) 0), (3, vP (pb E1 1) 0), (4, vP (pb E1 2) 0), (5, vI 0), (7, vN (kL es z i)), (8, vN i)] [((pb E1 0), 24, [vI u, vI x, .slice A0 es.length c0]), ((pb E1 1), 42, [.bool (p), rS z A1 k1_]), ((pb E1 2), 26, [vI 0, vI 0, vI 0]), ((pb E2 7), 42, [.bool (decide (jn 0 (startOf (es.getD 0 (0, 0))) 0 < 0)), rS (jn 0 (startOf (es.getD 0 (0, 0))) 0) ((bA (E2 6))) ((bC (E2 6)))])] ac wd) (fun ac _ => ((es.length : Int) - sI ac 8).toNat) ⟨0, by omega, (h_5.sel [] rfl).re rfl⟩ ?_
  rintro ac wd ⟨i, hi1, h_6⟩
  clear h_5
  have hmu : sI ac 8 = ((i : Nat) : Int) := sI_eq (h_6.g (t := 8) rfl)
  refine wp_seq (wp_seq ?_)
  by_cases h1 : i < es.length
  have hb := okPre_num hk (i := i) (by omega); have hst := st_bd hk (i := i) (by omega)
  refine rf_ h_6 [[0],[1],[1,2],[1,2,3],r_ 5] [K_ (vN i), K_ (vP (pb E1 0) 2), K_ (.slice A0 es.length c0), K_ (vN es.length), K_ bT] (fun E7 => [(2, vP (pb E1 0) 0), (3, vP (pb E1 1) 0), (4, vP (pb E1 2) 0), (5, vI 0), (7, vN (kL es z i)), (8, vN i), (23, vN i), (24, vP (pb E1 0) 2), (25, .slice A0 es.length c0), (26, vN es.length), (27, bT)]) (hs := c_ mv_ <| c_ (fa0 (vP (pb E1 0) 0)) <| c_ (ld_ 0 (hrd := by exact rd22 rfl)) <| c_ (ln_ Tryz.underlying22 fun _ env _ wd hA => (hv.gn hA.j.st.gr).els) <| c_ (bi0 (vN i) (vN es.length)) <| e_) (k := fun E7 ac wd h_7 => ?_)
  clear h_6
  refine then_n ?_
  refine wp_cond_true (eval_tmp (h_7.g (t := 27) rfl)) ?_
  refine wp_skip (then_n (wp_seq (wp_block (wp_seq ?_))))
  by_cases hc : jn 0 (startOf (es.getD i (0, 0))) 0 ≤ z
  refine rf_ h_7 [[0],[0,1],[2],r_ 4,r_ 5,r_ 6,r_ 7,r_ 8,[8],r_ 10,r_ 11] [K_ (vP (pb E1 0) 2), K_ (.slice A0 es.length c0), K_ (vN i), K_ (elt (.slice A0 es.length c0) (i * 2)), K_ (.agg #[vI ((es.getD i (0, 0)).1), vI ((es.getD i (0, 0)).2)]), K_ (vI (startOf (es.getD i (0, 0)))), K_ (vL 0 (startOf (es.getD i (0, 0))) 0), KE_ fun env => bigF (jn 0 (startOf (es.getD i (0, 0))) 0) (env 7), K_ (.agg #[.bool (p), rS z A1 k1_]), K_ (vI (cmpZ (jn 0 (startOf (es.getD i (0, 0))) 0) z)), K_ bT] (fun E8 => [(2, vP (pb E1 0) 0), (3, vP (pb E1 1) 0), (4, vP (pb E1 2) 0), (5, vI 0), (7, vN (kL es z i)), (8, vN i), (23, vN i), (24, vP (pb E1 0) 2), (25, .slice A0 es.length c0), (26, vN es.length), (27, bT), (30, vP (pb E1 0) 2), (31, .slice A0 es.length c0), (32, vN i), (33, elt (.slice A0 es.length c0) (i * 2)), (34, .agg #[vI ((es.getD i (0, 0)).1), vI ((es.getD i (0, 0)).2)]), (35, vI (startOf (es.getD i (0, 0)))), (36, vL 0 (startOf (es.getD i (0, 0))) 0), (37, bigF (jn 0 (startOf (es.getD i (0, 0))) 0) (E8 7)), (38, .agg #[.bool (p), rS z A1 k1_]), (39, vI (cmpZ (jn 0 (startOf (es.getD i (0, 0))) 0) z)), (40, bT)]) (F := [(7, fun env w => BigN w0.heap.size w (env 7) (jn 0 (startOf (es.getD i (0, 0))) 0))]) (L1 := fun E8 => [fun w => BigN w0.heap.size w (E8 7) (jn 0 (startOf (es.getD i (0, 0))) 0)]) (hs := c_ (fa0 (vP (pb E1 0) 0)) <| c_ (ld_ 0 (hrd := by exact rd22 rfl)) <| c_ mv_ <| c_ (ia_ Tryz.underlying22 sz72 i (i * 2) ((i : Nat) : Int) (fun _ env _ wd hA => (hv.gn hA.j.st.gr).els) (rfl) (by omega) rfl) <| c_ (le_ (i * 2) (fun _ env _ wd hA => (hv.gn hA.j.st.gr).els) (by omega) (le72 (by exact enC_0 es i) (by exact enC_1 es i))) <| c_ (cl_ Tryz.func37 (h := fun env => ⟨_, (Ret.eq (rstart_any ((es.getD i (0, 0)).1) ((es.getD i (0, 0)).2) hb.1 hb.2.1 hb.2.2.1 hb.2.2.2.1) (u_start es i)), rfl⟩)) <| c_ (bd0 ([vI (startOf (es.getD i (0, 0)))])) <| c_ (cb_ Tryz.func30 (jn 0 (startOf (es.getD i (0, 0))) 0) (h := fun _ env _ wd hA => ⟨_, Join_any wd 0 (startOf (es.getD i (0, 0))) 0 (by omega) (by omega) (by omega) (by omega) (by omega) (by omega), rfl⟩)) <| c_ (ld_ 1 (hrd := by exact rd42 rfl rfl)) <| c_ (cw_ Tryz.func24 (h := fun _ env _ wd hA => ⟨_, Cmp_any wd (decide (jn 0 (startOf (es.getD i (0, 0))) 0 < 0)) (bA (env 7)) (bC (env 7)) (jn 0 (startOf (es.getD i (0, 0))) 0) rfl (At.bigN hA 7 rfl rfl rfl)  p A1 k1_ z hp (hr.grown hA.j.st.gr) , rfl⟩)) <| c_ (bi0 (vI (cmpZ (jn 0 (startOf (es.getD i (0, 0))) 0) z)) (vI 0) (h := by intro env w; (first | (simp [go_sem, u_cmp_le, u_cmp_lt, u_cmp_ge, u_cmp_gt, hc]; done) | (simp [go_sem, u_cmp_le, u_cmp_lt, u_cmp_ge, u_cmp_gt]; simp only [List.getD_eq_getElem?_getD] at *; omega)))) <| e_) (k := fun E8 ac wd h_8 => ?_)
  clear h_7
  refine then_n ?_
  refine wp_cond_true (eval_tmp (h_8.g (t := 40) rfl)) ?_
  refine rf_ h_8 [[0],[0,1]] [K_ (vN i), K_ (vN i)] (fun E9 => [(2, vP (pb E1 0) 0), (3, vP (pb E1 1) 0), (4, vP (pb E1 2) 0), (5, vI 0), (7, vN i), (8, vN i), (23, vN i), (24, vP (pb E1 0) 2), (25, .slice A0 es.length c0), (26, vN es.length), (27, bT), (30, vP (pb E1 0) 2), (31, .slice A0 es.length c0), (32, vN i), (33, elt (.slice A0 es.length c0) (i * 2)), (34, .agg #[vI ((es.getD i (0, 0)).1), vI ((es.getD i (0, 0)).2)]), (35, vI (startOf (es.getD i (0, 0)))), (36, vL 0 (startOf (es.getD i (0, 0))) 0), (37, bigF (jn 0 (startOf (es.getD i (0, 0))) 0) (E8 7)), (38, .agg #[.bool (p), rS z A1 k1_]), (39, vI (cmpZ (jn 0 (startOf (es.getD i (0, 0))) 0) z)), (40, bT), (41, vN i)]) (hs := c_ mv_ <| c_ mv_ <| e_) (k := fun E9 ac wd h_9 => ?_)
  clear h_8
  refine blk_n (then_n ?_)
  refine rf_ h_9 (tri 3) [K_ (vN i), K_ (vI (((i : Nat) : Int) + 1)), K_ (vI (((i : Nat) : Int) + 1))] (fun E10 => [(2, vP (pb E1 0) 0), (3, vP (pb E1 1) 0), (4, vP (pb E1 2) 0), (5, vI 0), (7, vN i), (8, vI (((i : Nat) : Int) + 1)), (23, vN i), (24, vP (pb E1 0) 2), (25, .slice A0 es.length c0), (26, vN es.length), (27, bT), (28, vN i), (29, vI (((i : Nat) : Int) + 1)), (30, vP (pb E1 0) 2), (31, .slice A0 es.length c0), (32, vN i), (33, elt (.slice A0 es.length c0) (i * 2)), (34, .agg #[vI ((es.getD i (0, 0)).1), vI ((es.getD i (0, 0)).2)]), (35, vI (startOf (es.getD i (0, 0)))), (36, vL 0 (startOf (es.getD i (0, 0))) 0), (37, bigF (jn 0 (startOf (es.getD i (0, 0))) 0) (E8 7)), (38, .agg #[.bool (p), rS z A1 k1_]), (39, vI (cmpZ (jn 0 (startOf (es.getD i (0, 0))) 0) z)), (40, bT), (41, vN i)]) (hs := c_ mv_ <| c_ (bi0 (vN i) (vI 1)) <| c_ mv_ <| e_) (k := fun E10 ac wd h_10 => ?_)
  clear h_9
  refine then_n ?_
  have hk2 : kL es z (i + 1) = i := by simp only [kL]; rw [if_pos hc]
  refine ⟨⟨i + 1, by omega, ?_⟩, by rw [sI_eq (h_10.g (t := 8) rfl), hmu]; omega⟩
  rw [hk2]; exact (h_10.sel [] rfl).re rfl
  refine rf_ h_7 [[0],[0,1],[2],r_ 4,r_ 5,r_ 6,r_ 7,r_ 8,[8],r_ 10,r_ 11] [K_ (vP (pb E1 0) 2), K_ (.slice A0 es.length c0), K_ (vN i), K_ (elt (.slice A0 es.length c0) (i * 2)), K_ (.agg #[vI ((es.getD i (0, 0)).1), vI ((es.getD i (0, 0)).2)]), K_ (vI (startOf (es.getD i (0, 0)))), K_ (vL 0 (startOf (es.getD i (0, 0))) 0), KE_ fun env => bigF (jn 0 (startOf (es.getD i (0, 0))) 0) (env 7), K_ (.agg #[.bool (p), rS z A1 k1_]), K_ (vI (cmpZ (jn 0 (startOf (es.getD i (0, 0))) 0) z)), K_ bF] (fun E8 => [(2, vP (pb E1 0) 0), (3, vP (pb E1 1) 0), (4, vP (pb E1 2) 0), (5, vI 0), (7, vN (kL es z i)), (8, vN i), (23, vN i), (24, vP (pb E1 0) 2), (25, .slice A0 es.length c0), (26, vN es.length), (27, bT), (30, vP (pb E1 0) 2), (31, .slice A0 es.length c0), (32, vN i), (33, elt (.slice A0 es.length c0) (i * 2)), (34, .agg #[vI ((es.getD i (0, 0)).1), vI ((es.getD i (0, 0)).2)]), (35, vI (startOf (es.getD i (0, 0)))), (36, vL 0 (startOf (es.getD i (0, 0))) 0), (37, bigF (jn 0 (startOf (es.getD i (0, 0))) 0) (E8 7)), (38, .agg #[.bool (p), rS z A1 k1_]), (39, vI (cmpZ (jn 0 (startOf (es.getD i (0, 0))) 0) z)), (40, bF)]) (F := [(7, fun env w => BigN w0.heap.size w (env 7) (jn 0 (startOf (es.getD i (0, 0))) 0))]) (L1 := fun E8 => [fun w => BigN w0.heap.size w (E8 7) (jn 0 (startOf (es.getD i (0, 0))) 0)]) (hs := c_ (fa0 (vP (pb E1 0) 0)) <| c_ (ld_ 0 (hrd := by exact rd22 rfl)) <| c_ mv_ <| c_ (ia_ Tryz.underlying22 sz72 i (i * 2) ((i : Nat) : Int) (fun _ env _ wd hA => (hv.gn hA.j.st.gr).els) (rfl) (by omega) rfl) <| c_ (le_ (i * 2) (fun _ env _ wd hA => (hv.gn hA.j.st.gr).els) (by omega) (le72 (by exact enC_0 es i) (by exact enC_1 es i))) <| c_ (cl_ Tryz.func37 (h := fun env => ⟨_, (Ret.eq (rstart_any ((es.getD i (0, 0)).1) ((es.getD i (0, 0)).2) hb.1 hb.2.1 hb.2.2.1 hb.2.2.2.1) (u_start es i)), rfl⟩)) <| c_ (bd0 ([vI (startOf (es.getD i (0, 0)))])) <| c_ (cb_ Tryz.func30 (jn 0 (startOf (es.getD i (0, 0))) 0) (h := fun _ env _ wd hA => ⟨_, Join_any wd 0 (startOf (es.getD i (0, 0))) 0 (by omega) (by omega) (by omega) (by omega) (by omega) (by omega), rfl⟩)) <| c_ (ld_ 1 (hrd := by exact rd42 rfl rfl)) <| c_ (cw_ Tryz.func24 (h := fun _ env _ wd hA => ⟨_, Cmp_any wd (decide (jn 0 (startOf (es.getD i (0, 0))) 0 < 0)) (bA (env 7)) (bC (env 7)) (jn 0 (startOf (es.getD i (0, 0))) 0) rfl (At.bigN hA 7 rfl rfl rfl)  p A1 k1_ z hp (hr.grown hA.j.st.gr) , rfl⟩)) <| c_ (bi0 (vI (cmpZ (jn 0 (startOf (es.getD i (0, 0))) 0) z)) (vI 0) (h := by intro env w; (first | (simp [go_sem, u_cmp_le, u_cmp_lt, u_cmp_ge, u_cmp_gt, hc]; done) | (simp [go_sem, u_cmp_le, u_cmp_lt, u_cmp_ge, u_cmp_gt]; simp only [List.getD_eq_getElem?_getD] at *; omega)))) <| e_) (k := fun E8 ac wd h_8 => ?_)
  clear h_7
  refine then_n ?_
  refine wp_cond_false (eval_tmp (h_8.g (t := 40) rfl)) ?_
  refine wp_skip (blk_n (then_n ?_))
  refine rf_ h_8 (tri 3) [K_ (vN i), K_ (vI (((i : Nat) : Int) + 1)), K_ (vI (((i : Nat) : Int) + 1))] (fun E9 => [(2, vP (pb E1 0) 0), (3, vP (pb E1 1) 0), (4, vP (pb E1 2) 0), (5, vI 0), (7, vN (kL es z i)), (8, vI (((i : Nat) : Int) + 1)), (23, vN i), (24, vP (pb E1 0) 2), (25, .slice A0 es.length c0), (26, vN es.length), (27, bT), (28, vN i), (29, vI (((i : Nat) : Int) + 1)), (30, vP (pb E1 0) 2), (31, .slice A0 es.length c0), (32, vN i), (33, elt (.slice A0 es.length c0) (i * 2)), (34, .agg #[vI ((es.getD i (0, 0)).1), vI ((es.getD i (0, 0)).2)]), (35, vI (startOf (es.getD i (0, 0)))), (36, vL 0 (startOf (es.getD i (0, 0))) 0), (37, bigF (jn 0 (startOf (es.getD i (0, 0))) 0) (E8 7)), (38, .agg #[.bool (p), rS z A1 k1_]), (39, vI (cmpZ (jn 0 (startOf (es.getD i (0, 0))) 0) z)), (40, bF)]) (hs := c_ mv_ <| c_ (bi0 (vN i) (vI 1)) <| c_ mv_ <| e_) (k := fun E9 ac wd h_9 => ?_)
  clear h_8
  refine then_n ?_
  have hk2 : kL es z (i + 1) = kL es z i := by simp only [kL]; rw [if_neg hc]
  refine ⟨⟨i + 1, by omega, ?_⟩, by rw [sI_eq (h_9.g (t := 8) rfl), hmu]; omega⟩
  rw [hk2]; exact (h_9.sel [] rfl).re rfl
  obtain rfl : i = es.length := by omega
  refine rf_ h_6 [[0],[1],[1,2],[1,2,3],r_ 5] [K_ (vN es.length), K_ (vP (pb E1 0) 2), K_ (.slice A0 es.length c0), K_ (vN es.length), K_ bF] (fun E7 => [(2, vP (pb E1 0) 0), (3, vP (pb E1 1) 0), (4, vP (pb E1 2) 0), (5, vI 0), (7, vN (kL es z es.length)), (8, vN es.length), (23, vN es.length), (24, vP (pb E1 0) 2), (25, .slice A0 es.length c0), (26, vN es.length), (27, bF)]) (hs := c_ mv_ <| c_ (fa0 (vP (pb E1 0) 0)) <| c_ (ld_ 0 (hrd := by exact rd22 rfl)) <| c_ (ln_ Tryz.underlying22 fun _ env _ wd hA => (hv.gn hA.j.st.gr).els) <| c_ (bi0 (vN es.length) (vN es.length)) <| e_) (k := fun E7 ac wd h_7 => ?_)
  clear h_6
  refine then_n ?_
  refine wp_cond_false (eval_tmp (h_7.g (t := 27) rfl)) ?_
  refine wp_exit (then_e (then_e (blk_x (then_n (wp_seq ?_)))))
  obtain ⟨k1, k2⟩ := kL_end hk hn0 hE
  obtain ⟨k, hkk⟩ : ∃ k, k = kL es z es.length := ⟨_, rfl⟩
  rw [← hkk] at k1 k2 h_7
  have hbk := okPre_num hk (i := k) k1
  obtain ⟨o, ho⟩ : ∃ o, (es.getD k (0, 0)).2 = o := ⟨_, rfl⟩
  rw [ho] at hbk
  have hsz := sm_w hz
  have hsj : Sm (jn 0 o 0) := by unfold jn Sm; omega
  have hsn : Sm (z - jn 0 o 0) := by unfold jn; unfold InW at hz; unfold Sm; omega
  have hrk := rl_k hk hz k1 k2 ho rfl rfl rfl
  have hq0 : -9223372036854775808 ≤ (z - jn 0 o 0) / 1000000000000000000 / 86400 := by unfold jn; unfold InW at hz; omega
  have hq1 : (z - jn 0 o 0) / 1000000000000000000 / 86400 < 9223372036854775808 := by unfold jn; unfold InW at hz; omega
  have hc0 : 0 ≤ (z - jn 0 o 0) / 1000000000000000000 % 86400 := by omega
  have hc1 : (z - jn 0 o 0) / 1000000000000000000 % 86400 < 86400 := by omega
  refine rf_ h_7 [[0],[1],[1,2],[3],[1,2,3,4],[1,2,3,4,5],[1,2,3,4,5,6],[1,2,3,4,5,6,7],[1,2,3,4,5,6,7,8],r_ 10,r_ 11] [K_ (.agg #[.bool (p), rS z A1 k1_]), K_ (vP (pb E1 0) 2), K_ (.slice A0 es.length c0), K_ (vN k), K_ (elt (.slice A0 es.length c0) (k * 2)), K_ (elt (.slice A0 es.length c0) (k * 2 + 1)), K_ (vI o), K_ (vL 0 o 0), KE_ fun env => bigF (jn 0 o 0) (env 8), KE_ fun env => bigF (z - jn 0 o 0) (env 9), none] (fun E8 => [(2, vP (pb E1 0) 0), (3, vP (pb E1 1) 0), (4, vP (pb E1 2) 0), (5, vI 0), (7, vN k)]) (S := [⟨1, 10, fun env => [.bool (decide (z - jn 0 o 0 < 0)), rS (z - jn 0 o 0) ((bA (env 9))) ((bC (env 9)))]⟩]) (F := [(8, fun env w => BigN w0.heap.size w (env 8) (jn 0 o 0)), (9, fun env w => BigN w0.heap.size w (env 9) (z - jn 0 o 0))]) (L1 := fun E8 => [fun w => BigN w0.heap.size w (E8 8) (jn 0 o 0), fun w => BigN w0.heap.size w (E8 9) (z - jn 0 o 0)]) (M' := fun E8 => [((pb E1 0), 24, [vI u, vI x, .slice A0 es.length c0]), ((pb E1 1), 42, [.bool (decide (z - jn 0 o 0 < 0)), rS (z - jn 0 o 0) ((bA (E8 9))) ((bC (E8 9)))]), ((pb E1 2), 26, [vI 0, vI 0, vI 0]), ((pb E2 7), 42, [.bool (decide (jn 0 (startOf (es.getD 0 (0, 0))) 0 < 0)), rS (jn 0 (startOf (es.getD 0 (0, 0))) 0) ((bA (E2 6))) ((bC (E2 6)))])]) (hs := c_ (ld_ 1 (hrd := by exact rd42 rfl rfl)) <| c_ (fa0 (vP (pb E1 0) 0)) <| c_ (ld_ 0 (hrd := by exact rd22 rfl)) <| c_ mv_ <| c_ (ia_ Tryz.underlying22 sz72 k (k * 2) ((k : Nat) : Int) (fun _ env _ wd hA => (hv.gn hA.j.st.gr).els) (rfl) (by omega) rfl) <| c_ (s_fa rfl rfl rfl (fun _ => wanted_none rfl _) (k * 2) 1 (k * 2 + 1) rfl (s := fun _ => .slice A0 es.length c0) rfl (fun _ => rfl) (fun {D env ac wd} hA => (hv.gn hA.j.st.gr).els) (by omega) (fun b q w => by simp [go_sem, Tryz.underlying72])) <| c_ (le_ (k * 2 + 1) (fun _ env _ wd hA => (hv.gn hA.j.st.gr).els) (by omega) (le3 ((enC_1 es k).trans (congrArg vI ho)))) <| c_ (bd0 ([vI o])) <| c_ (cb_ Tryz.func30 (jn 0 o 0) (h := fun _ env _ wd hA => ⟨_, Join_any wd 0 o 0 (by omega) (by omega) (by omega) (by omega) (by omega) (by omega), rfl⟩)) <| c_ (cb_ Tryz.func38 (z - jn 0 o 0) (h := fun _ env _ wd hA => ⟨_, Sub_any wd p A1 k1_ z hp (hr.grown hA.j.st.gr) hsz (decide (jn 0 o 0 < 0)) (bA (env 8)) (bC (env 8)) (jn 0 o 0) rfl (At.bigN hA 8 rfl rfl rfl) hsj, rfl⟩)) <| c_ (se_ 1 (hst := by exact fun _ _ _ hc => st42 rfl rfl rfl hc)) <| e_) (k := fun E8 ac wd h_8 => ?_)
  clear h_7
  refine then_n (wp_seq ?_)
  by_cases hno : -1099511627776 ≤ (z - jn 0 o 0) / 1000000000000000000 / 86400 ∧ (z - jn 0 o 0) / 1000000000000000000 / 86400 ≤ 1099511627776
  obtain ⟨p0, p1⟩ := hno
  refine rf_ h_8 [[0],[0,1],[0,1,2],r_ 4,[0,1,2,4],[5],[0,1,2,3,5,6],r_ 8] [K_ (bigF (z - jn 0 o 0) (E8 9)), K_ (vT2 (vL ((z - jn 0 o 0) / 1000000000000000000 / 86400) ((z - jn 0 o 0) / 1000000000000000000 % 86400) ((z - jn 0 o 0) % 1000000000000000000)) bT), K_ (vT2 (vL ((z - jn 0 o 0) / 1000000000000000000 / 86400) ((z - jn 0 o 0) / 1000000000000000000 % 86400) ((z - jn 0 o 0) % 1000000000000000000)) bT), K_ (vL ((z - jn 0 o 0) / 1000000000000000000 / 86400) ((z - jn 0 o 0) / 1000000000000000000 % 86400) ((z - jn 0 o 0) % 1000000000000000000)), K_ bT, KE_ fun env => vP (pb env 5) 0, none, K_ bT] (fun E9 => [(2, vP (pb E1 0) 0), (4, vP (pb E1 2) 0), (5, vI 0), (7, vN k), (9, vP (pb E9 5) 0), (10, bT)]) (W := [{ i := 5, T := 26, c0 := [vI 0, vI 0, vI 0], s := some 6, c1 := fun _ => [vI ((z - jn 0 o 0) / 1000000000000000000 / 86400), vI ((z - jn 0 o 0) / 1000000000000000000 % 86400), vI ((z - jn 0 o 0) % 1000000000000000000)] }]) (M' := fun E9 => [((pb E1 0), 24, [vI u, vI x, .slice A0 es.length c0]), ((pb E1 1), 42, [.bool (decide (z - jn 0 o 0 < 0)), rS (z - jn 0 o 0) ((bA (E8 9))) ((bC (E8 9)))]), ((pb E1 2), 26, [vI 0, vI 0, vI 0]), ((pb E2 7), 42, [.bool (decide (jn 0 (startOf (es.getD 0 (0, 0))) 0 < 0)), rS (jn 0 (startOf (es.getD 0 (0, 0))) 0) ((bA (E2 6))) ((bC (E2 6)))]), ((pb E9 5), 26, [vI ((z - jn 0 o 0) / 1000000000000000000 / 86400), vI ((z - jn 0 o 0) / 1000000000000000000 % 86400), vI ((z - jn 0 o 0) % 1000000000000000000)])]) (hs := c_ (ld_ 1 (hrd := by exact rd42 rfl rfl)) <| c_ (cw_ Tryz.func39 (h := fun _ env _ wd hA => ⟨_, Split_yes wd (decide (z - jn 0 o 0 < 0)) (bA (E8 9)) (bC (E8 9)) (z - jn 0 o 0) rfl (Facts.bigN (hA.j.st.now).1 1 rfl) hsn p0 p1, rfl⟩)) <| c_ mv_ <| c_ ext_ <| c_ ext_ <| c_ (al_ 4) <| c_ (sw_ 4 5 (hst := by exact fun _ _ _ hc => st26 rfl rfl rfl rfl hc)) <| c_ mv_ <| e_) (k := fun E9 ac wd h_9 => ?_)
  clear h_8
  refine then_n (wp_seq (wp_seq ?_))
  refine rf_ h_9 [[0],[0,1]] [K_ bT, K_ bF] (fun E10 => [(2, vP (pb E1 0) 0), (4, vP (pb E1 2) 0), (5, vI 0), (7, vN k), (9, vP (pb E9 5) 0), (58, bF)]) (hs := c_ mv_ <| c_ (un0 bT) <| e_) (k := fun E10 ac wd h_10 => ?_)
  clear h_9
  refine then_n ?_
  refine wp_cond_false (eval_tmp (h_10.g (t := 58) rfl)) ?_
  refine wp_skip (then_n (wp_seq (wp_seq ?_)))
  by_cases g1 : k + 1 < es.length
  have hb2 := okPre_num hk (i := k + 1) g1
  by_cases g2 : dayOf (es.getD (k + 1) (0, 0)) ≤ (z - jn 0 o 0) / 1000000000000000000 / 86400
  refine rf_ h_10 [[0],[0,1],[2],[2,3],[2,3,4],r_ 6,r_ 7,r_ 8,r_ 9,[0,1,2,3,4,5,6,9],[0,1,2,3,4,5,6,9,10],[0,1,2,3,4,5,6,11],[0,1,2,3,4,5,6,11,12],[0,1,2,3,4,5,6,9,10,11,12,13],[0,1,2,3,4,5,6,9,10,11,12,13,14],[0,1,2,3,4,5,6,9,10,11,12,13,14,15],r_ 17,r_ 18] [K_ (vN k), K_ (vI (((k : Nat) : Int) + 1)), K_ (vP (pb E1 0) 2), K_ (.slice A0 es.length c0), K_ (vN es.length), K_ bT, K_ bT, K_ (vP (pb E9 5) 0), K_ (vI ((z - jn 0 o 0) / 1000000000000000000 / 86400)), K_ (vP (pb E1 0) 2), K_ (.slice A0 es.length c0), K_ (vN k), K_ (vI (((k : Nat) : Int) + 1)), K_ (elt (.slice A0 es.length c0) ((k + 1) * 2)), K_ (.agg #[vI ((es.getD (k + 1) (0, 0)).1), vI ((es.getD (k + 1) (0, 0)).2)]), K_ (vI (dayOf (es.getD (k + 1) (0, 0)))), K_ bT, K_ bT] (fun E11 => [(4, vP (pb E1 2) 0), (5, vI 0), (9, vP (pb E9 5) 0), (77, bT)]) (hs := c_ mv_ <| c_ (bi0 (vN k) (vI 1)) <| c_ (fa0 (vP (pb E1 0) 0)) <| c_ (ld_ 0 (hrd := by exact rd22 rfl)) <| c_ (ln_ Tryz.underlying22 fun _ env _ wd hA => (hv.gn hA.j.st.gr).els) <| c_ (bi0 (vI (((k : Nat) : Int) + 1)) (vN es.length)) <| c_ mv_ <| c_ (fa0 (vP (pb E9 5) 0)) <| c_ (ld_ 4 (hrd := by exact rd3 rfl)) <| c_ (fa0 (vP (pb E1 0) 0)) <| c_ (ld_ 0 (hrd := by exact rd22 rfl)) <| c_ (gm0 (vN k)) <| c_ (bi0 (vN k) (vI 1)) <| c_ (ia_ Tryz.underlying22 sz72 (k + 1) ((k + 1) * 2) (((k : Nat) : Int) + 1) (fun _ env _ wd hA => (hv.gn hA.j.st.gr).els) (by omega) (by omega) rfl) <| c_ (le_ ((k + 1) * 2) (fun _ env _ wd hA => (hv.gn hA.j.st.gr).els) (by omega) (le72 (by exact enC_0 es (k + 1)) (by exact enC_1 es (k + 1)))) <| c_ (cl_ Tryz.func40 (h := fun env => ⟨_, (Ret.eq (rday_any ((es.getD (k + 1) (0, 0)).1) ((es.getD (k + 1) (0, 0)).2) hb2.1 hb2.2.1) (u_day es (k + 1))), rfl⟩)) <| c_ (bi0 (vI ((z - jn 0 o 0) / 1000000000000000000 / 86400)) (vI (dayOf (es.getD (k + 1) (0, 0)))) (h := by intro env w; (first | (simp [go_sem, g2]; done) | (simp [go_sem]; simp only [List.getD_eq_getElem?_getD] at *; omega)))) <| c_ (pk0 bT bT bF (h := by intro env w; (first | (simp [go_sem, g2]; done) | (simp [go_sem]; simp only [List.getD_eq_getElem?_getD] at *; omega)))) <| e_) (k := fun E11 ac wd h_11 => ?_)
  clear h_10
  refine then_n ?_
  refine wp_cond_true (eval_tmp (h_11.g (t := 77) rfl)) ?_
  refine reg_cut mixed 8 [[0], [0, 1], [0, 1, 2], [3], [3, 4], [3, 4, 5], [0, 1, 2, 3, 4, 6], [0, 1, 2, 3, 4, 6, 7], [0, 1, 2, 3, 4, 5, 6, 7, 8], [0, 1, 2, 3, 4, 5, 6, 7, 8, 9]] (by kernel_rfl) h_11 [some 78, some 79, some 80, some 81, some 82, some 83, some 84, none] [[0], [0, 1], [0, 1, 2], [3], [3, 4], [3, 4, 5], [0, 1, 2, 3, 4, 6], [0, 1, 2, 3, 4, 6, 7]] [⟨4, 7, fun _ => [vI (((z - jn 0 o 0) / 1000000000000000000 / 86400) - 1), vI ((z - jn 0 o 0) / 1000000000000000000 % 86400), vI ((z - jn 0 o 0) % 1000000000000000000)]⟩] [] [some fun _ => vP (pb E9 5) 0, some fun _ => vI ((z - jn 0 o 0) / 1000000000000000000 / 86400), some fun _ => vI (((z - jn 0 o 0) / 1000000000000000000 / 86400) - 1), some fun _ => vP (pb E9 5) 1, some fun _ => vI ((z - jn 0 o 0) / 1000000000000000000 % 86400), some fun _ => vI (((z - jn 0 o 0) / 1000000000000000000 % 86400) + 86400), some fun _ => vP (pb E9 5) 0, none] [] none rfl (by kernel_rfl) (by kernel_rfl) (sn (sn (sn (sn (sn (sn (sn (sn s0 ?_) ?_) ?_) ?_) ?_) ?_) ?_) ?_) ?_
  · exact (fa0 (vP (pb E9 5) 0))
  · exact (ld_ 4 (hrd := by exact rd3 rfl))
  · exact (bi0 (vI ((z - jn 0 o 0) / 1000000000000000000 / 86400)) (vI 1))
  · exact (fa0 (vP (pb E9 5) 0))
  · exact (ld_ 4 (hrd := by exact rd3 rfl))
  · exact (bi0 (vI ((z - jn 0 o 0) / 1000000000000000000 % 86400)) (vI 86400))
  · exact (fa0 (vP (pb E9 5) 0))
  · exact (se_ 4 (hst := by exact fun _ _ _ hc => st3 rfl rfl hc))
  intro E12 ac wd hJ
  have h_12 : Cur 87 w0 none none (Facts [fun w => BigN w0.heap.size w (E8 8) (jn 0 o 0), fun w => BigN w0.heap.size w (E8 9) (z - jn 0 o 0)]) (fun _ => True) [(4, vP (pb E1 2) 0), (5, vI 0), (9, vP (pb E9 5) 0), (83, vI (((z - jn 0 o 0) / 1000000000000000000 % 86400) + 86400))] [((pb E1 0), 24, [vI u, vI x, .slice A0 es.length c0]), ((pb E1 1), 42, [.bool (decide (z - jn 0 o 0 < 0)), .slice ((bA (E8 9))) ((digs (z - jn 0 o 0)).length) ((bC (E8 9)))]), ((pb E1 2), 26, [vI 0, vI 0, vI 0]), ((pb E2 7), 42, [.bool (decide (jn 0 (startOf (es.getD 0 (0, 0))) 0 < 0)), .slice ((bA (E2 6))) ((digs (jn 0 (startOf (es.getD 0 (0, 0))) 0)).length) ((bC (E2 6)))]), ((pb E9 5), 26, [vI (((z - jn 0 o 0) / 1000000000000000000 / 86400) - 1), vI ((z - jn 0 o 0) / 1000000000000000000 % 86400), vI ((z - jn 0 o 0) % 1000000000000000000)])] ac wd := hJ.curF rfl rfl rfl (fun _ h => h) rfl rfl rfl
  clear hJ h_11
  refine reg_rest h_12 [some 85, none] [[0], [0, 1]] [⟨4, 1, fun _ => [vI (((z - jn 0 o 0) / 1000000000000000000 / 86400) - 1), vI (((z - jn 0 o 0) / 1000000000000000000 % 86400) + 86400), vI ((z - jn 0 o 0) % 1000000000000000000)]⟩] [] [some fun _ => vP (pb E9 5) 1, none] [] none rfl (by kernel_rfl) (by kernel_rfl) (by kernel_rfl) (sn (sn s0 ?_) ?_) ?_
  · exact (fa0 (vP (pb E9 5) 0))
  · exact (se_ 4 (hst := by exact fun _ _ _ hc => st3 rfl rfl hc))
  intro E13 ac wd hJ
  have h_13 : Cur 87 w0 none none (Facts [fun w => BigN w0.heap.size w (E8 8) (jn 0 o 0), fun w => BigN w0.heap.size w (E8 9) (z - jn 0 o 0)]) (fun _ => True) [(4, vP (pb E1 2) 0), (5, vI 0), (9, vP (pb E9 5) 0)] [((pb E1 0), 24, [vI u, vI x, .slice A0 es.length c0]), ((pb E1 1), 42, [.bool (decide (z - jn 0 o 0 < 0)), .slice ((bA (E8 9))) ((digs (z - jn 0 o 0)).length) ((bC (E8 9)))]), ((pb E1 2), 26, [vI 0, vI 0, vI 0]), ((pb E2 7), 42, [.bool (decide (jn 0 (startOf (es.getD 0 (0, 0))) 0 < 0)), .slice ((bA (E2 6))) ((digs (jn 0 (startOf (es.getD 0 (0, 0))) 0)).length) ((bC (E2 6)))]), ((pb E9 5), 26, [vI (((z - jn 0 o 0) / 1000000000000000000 / 86400) - 1), vI (((z - jn 0 o 0) / 1000000000000000000 % 86400) + 86400), vI ((z - jn 0 o 0) % 1000000000000000000)])] ac wd := hJ.curF rfl rfl rfl (fun _ h => h) rfl rfl rfl
  clear hJ h_12
  refine then_n (wp_seq ?_)
  refine rf_ h_13 (tri 3) [K_ (vL (((z - jn 0 o 0) / 1000000000000000000 / 86400) - 1) (((z - jn 0 o 0) / 1000000000000000000 % 86400) + 86400) ((z - jn 0 o 0) % 1000000000000000000)), none, K_ (vI 0)] (fun E14 => [(4, vP (pb E1 2) 0), (5, vI 0)]) (S := [⟨2, 1, fun _ => [vI (((z - jn 0 o 0) / 1000000000000000000 / 86400) - 1), vI (((z - jn 0 o 0) / 1000000000000000000 % 86400) + 86400), vI ((z - jn 0 o 0) % 1000000000000000000)]⟩]) (M' := fun E14 => [((pb E1 0), 24, [vI u, vI x, .slice A0 es.length c0]), ((pb E1 1), 42, [.bool (decide (z - jn 0 o 0 < 0)), rS (z - jn 0 o 0) ((bA (E8 9))) ((bC (E8 9)))]), ((pb E1 2), 26, [vI (((z - jn 0 o 0) / 1000000000000000000 / 86400) - 1), vI (((z - jn 0 o 0) / 1000000000000000000 % 86400) + 86400), vI ((z - jn 0 o 0) % 1000000000000000000)]), ((pb E2 7), 42, [.bool (decide (jn 0 (startOf (es.getD 0 (0, 0))) 0 < 0)), rS (jn 0 (startOf (es.getD 0 (0, 0))) 0) ((bA (E2 6))) ((bC (E2 6)))]), ((pb E9 5), 26, [vI (((z - jn 0 o 0) / 1000000000000000000 / 86400) - 1), vI (((z - jn 0 o 0) / 1000000000000000000 % 86400) + 86400), vI ((z - jn 0 o 0) % 1000000000000000000)])]) (hs := c_ (ld_ 4 (hrd := by exact rd26 rfl rfl rfl)) <| c_ (se_ 2 (hst := by exact fun _ _ _ hc => st26 rfl rfl rfl rfl hc)) <| c_ mv_ <| e_) (k := fun E14 ac wd h_14 => ?_)
  clear h_13
  refine then_n (wp_ret ?_)
  have s4 := h_14.g (t := 4) rfl
  have hc4 := (h_14.st.own 2 _ rfl).2
  have c4_0 := own_cell (o := 0) hc4 rfl
  have c4_1 := own_cell (o := 1) hc4 rfl
  have c4_2 := own_cell (o := 2) hc4 rfl
  have s5 := h_14.g (t := 5) rfl
  refine leave (v := vT2 (vL (((z - jn 0 o 0) / 1000000000000000000 / 86400) - 1) (((z - jn 0 o 0) / 1000000000000000000 % 86400) + 86400) ((z - jn 0 o 0) % 1000000000000000000)) (vI 0)) h_14.df (by simp [results, Tryz.results14, go_sem, Array.getD_eq_getD_getElem?, s4, c4_0, c4_1, c4_2, Tryz.underlying26, s5]) ?_
  have e4 := lab4 ((hrk.2 ⟨p0, p1⟩).1 ⟨g1, g2⟩)
  exact ⟨by rw [e4], h_14.st.below⟩
  refine rf_ h_10 [[0],[0,1],[2],[2,3],[2,3,4],r_ 6,r_ 7,r_ 8,r_ 9,[0,1,2,3,4,5,6,9],[0,1,2,3,4,5,6,9,10],[0,1,2,3,4,5,6,11],[0,1,2,3,4,5,6,11,12],[0,1,2,3,4,5,6,9,10,11,12,13],[0,1,2,3,4,5,6,9,10,11,12,13,14],[0,1,2,3,4,5,6,9,10,11,12,13,14,15],r_ 17,r_ 18] [K_ (vN k), K_ (vI (((k : Nat) : Int) + 1)), K_ (vP (pb E1 0) 2), K_ (.slice A0 es.length c0), K_ (vN es.length), K_ bT, K_ bT, K_ (vP (pb E9 5) 0), K_ (vI ((z - jn 0 o 0) / 1000000000000000000 / 86400)), K_ (vP (pb E1 0) 2), K_ (.slice A0 es.length c0), K_ (vN k), K_ (vI (((k : Nat) : Int) + 1)), K_ (elt (.slice A0 es.length c0) ((k + 1) * 2)), K_ (.agg #[vI ((es.getD (k + 1) (0, 0)).1), vI ((es.getD (k + 1) (0, 0)).2)]), K_ (vI (dayOf (es.getD (k + 1) (0, 0)))), K_ bF, K_ bF] (fun E11 => [(4, vP (pb E1 2) 0), (5, vI 0), (9, vP (pb E9 5) 0), (77, bF)]) (hs := c_ mv_ <| c_ (bi0 (vN k) (vI 1)) <| c_ (fa0 (vP (pb E1 0) 0)) <| c_ (ld_ 0 (hrd := by exact rd22 rfl)) <| c_ (ln_ Tryz.underlying22 fun _ env _ wd hA => (hv.gn hA.j.st.gr).els) <| c_ (bi0 (vI (((k : Nat) : Int) + 1)) (vN es.length)) <| c_ mv_ <| c_ (fa0 (vP (pb E9 5) 0)) <| c_ (ld_ 4 (hrd := by exact rd3 rfl)) <| c_ (fa0 (vP (pb E1 0) 0)) <| c_ (ld_ 0 (hrd := by exact rd22 rfl)) <| c_ (gm0 (vN k)) <| c_ (bi0 (vN k) (vI 1)) <| c_ (ia_ Tryz.underlying22 sz72 (k + 1) ((k + 1) * 2) (((k : Nat) : Int) + 1) (fun _ env _ wd hA => (hv.gn hA.j.st.gr).els) (by omega) (by omega) rfl) <| c_ (le_ ((k + 1) * 2) (fun _ env _ wd hA => (hv.gn hA.j.st.gr).els) (by omega) (le72 (by exact enC_0 es (k + 1)) (by exact enC_1 es (k + 1)))) <| c_ (cl_ Tryz.func40 (h := fun env => ⟨_, (Ret.eq (rday_any ((es.getD (k + 1) (0, 0)).1) ((es.getD (k + 1) (0, 0)).2) hb2.1 hb2.2.1) (u_day es (k + 1))), rfl⟩)) <| c_ (bi0 (vI ((z - jn 0 o 0) / 1000000000000000000 / 86400)) (vI (dayOf (es.getD (k + 1) (0, 0)))) (h := by intro env w; (first | (simp [go_sem, g2]; done) | (simp [go_sem]; simp only [List.getD_eq_getElem?_getD] at *; omega)))) <| c_ (pk0 bT bF bF (h := by intro env w; (first | (simp [go_sem, g2]; done) | (simp [go_sem]; simp only [List.getD_eq_getElem?_getD] at *; omega)))) <| e_) (k := fun E11 ac wd h_11 => ?_)
  clear h_10
  refine then_n ?_
  refine wp_cond_false (eval_tmp (h_11.g (t := 77) rfl)) ?_
  refine wp_skip (then_n (wp_seq ?_))
  refine rf_ h_11 (tri 3) [K_ (vL ((z - jn 0 o 0) / 1000000000000000000 / 86400) ((z - jn 0 o 0) / 1000000000000000000 % 86400) ((z - jn 0 o 0) % 1000000000000000000)), none, K_ (vI 0)] (fun E12 => [(4, vP (pb E1 2) 0), (5, vI 0)]) (S := [⟨2, 1, fun _ => [vI ((z - jn 0 o 0) / 1000000000000000000 / 86400), vI ((z - jn 0 o 0) / 1000000000000000000 % 86400), vI ((z - jn 0 o 0) % 1000000000000000000)]⟩]) (M' := fun E12 => [((pb E1 0), 24, [vI u, vI x, .slice A0 es.length c0]), ((pb E1 1), 42, [.bool (decide (z - jn 0 o 0 < 0)), rS (z - jn 0 o 0) ((bA (E8 9))) ((bC (E8 9)))]), ((pb E1 2), 26, [vI ((z - jn 0 o 0) / 1000000000000000000 / 86400), vI ((z - jn 0 o 0) / 1000000000000000000 % 86400), vI ((z - jn 0 o 0) % 1000000000000000000)]), ((pb E2 7), 42, [.bool (decide (jn 0 (startOf (es.getD 0 (0, 0))) 0 < 0)), rS (jn 0 (startOf (es.getD 0 (0, 0))) 0) ((bA (E2 6))) ((bC (E2 6)))]), ((pb E9 5), 26, [vI ((z - jn 0 o 0) / 1000000000000000000 / 86400), vI ((z - jn 0 o 0) / 1000000000000000000 % 86400), vI ((z - jn 0 o 0) % 1000000000000000000)])]) (hs := c_ (ld_ 4 (hrd := by exact rd26 rfl rfl rfl)) <| c_ (se_ 2 (hst := by exact fun _ _ _ hc => st26 rfl rfl rfl rfl hc)) <| c_ mv_ <| e_) (k := fun E12 ac wd h_12 => ?_)
  clear h_11
  refine then_n (wp_ret ?_)
  have s4 := h_12.g (t := 4) rfl
  have hc4 := (h_12.st.own 2 _ rfl).2
  have c4_0 := own_cell (o := 0) hc4 rfl
  have c4_1 := own_cell (o := 1) hc4 rfl
  have c4_2 := own_cell (o := 2) hc4 rfl
  have s5 := h_12.g (t := 5) rfl
  refine leave (v := vT2 (vL ((z - jn 0 o 0) / 1000000000000000000 / 86400) ((z - jn 0 o 0) / 1000000000000000000 % 86400) ((z - jn 0 o 0) % 1000000000000000000)) (vI 0)) h_12.df (by simp [results, Tryz.results14, go_sem, Array.getD_eq_getD_getElem?, s4, c4_0, c4_1, c4_2, Tryz.underlying26, s5]) ?_
  have e4 := lab4 ((hrk.2 ⟨p0, p1⟩).2 (fun hh => g2 hh.2))
  exact ⟨by rw [e4], h_12.st.below⟩
  refine rf_ h_10 [[0],[0,1],[2],[2,3],[2,3,4],r_ 6,r_ 7,r_ 8,r_ 9,[0,1,2,3,4,5,6,9],[0,1,2,3,4,5,6,9,10],[0,1,2,3,4,5,6,11],[0,1,2,3,4,5,6,11,12],[0,1,2,3,4,5,6,9,10,11,12,13],[0,1,2,3,4,5,6,9,10,11,12,13,14],[0,1,2,3,4,5,6,9,10,11,12,13,14,15],r_ 17,r_ 18] [K_ (vN k), K_ (vI (((k : Nat) : Int) + 1)), K_ (vP (pb E1 0) 2), K_ (.slice A0 es.length c0), K_ (vN es.length), K_ bF, K_ bF, K_ undef, K_ undef, K_ undef, K_ undef, K_ undef, K_ undef, K_ undef, K_ undef, K_ undef, K_ undef, K_ bF] (fun E11 => [(4, vP (pb E1 2) 0), (5, vI 0), (9, vP (pb E9 5) 0), (77, bF)]) (hs := c_ mv_ <| c_ (bi0 (vN k) (vI 1)) <| c_ (fa0 (vP (pb E1 0) 0)) <| c_ (ld_ 0 (hrd := by exact rd22 rfl)) <| c_ (ln_ Tryz.underlying22 fun _ env _ wd hA => (hv.gn hA.j.st.gr).els) <| c_ (bi0 (vI (((k : Nat) : Int) + 1)) (vN es.length)) <| c_ mv_ <| c_ off_ <| c_ off_ <| c_ off_ <| c_ off_ <| c_ off_ <| c_ off_ <| c_ off_ <| c_ off_ <| c_ off_ <| c_ off_ <| c_ (pk0 bF undef bF) <| e_) (k := fun E11 ac wd h_11 => ?_)
  clear h_10
  refine then_n ?_
  refine wp_cond_false (eval_tmp (h_11.g (t := 77) rfl)) ?_
  refine wp_skip (then_n (wp_seq ?_))
  refine rf_ h_11 (tri 3) [K_ (vL ((z - jn 0 o 0) / 1000000000000000000 / 86400) ((z - jn 0 o 0) / 1000000000000000000 % 86400) ((z - jn 0 o 0) % 1000000000000000000)), none, K_ (vI 0)] (fun E12 => [(4, vP (pb E1 2) 0), (5, vI 0)]) (S := [⟨2, 1, fun _ => [vI ((z - jn 0 o 0) / 1000000000000000000 / 86400), vI ((z - jn 0 o 0) / 1000000000000000000 % 86400), vI ((z - jn 0 o 0) % 1000000000000000000)]⟩]) (M' := fun E12 => [((pb E1 0), 24, [vI u, vI x, .slice A0 es.length c0]), ((pb E1 1), 42, [.bool (decide (z - jn 0 o 0 < 0)), rS (z - jn 0 o 0) ((bA (E8 9))) ((bC (E8 9)))]), ((pb E1 2), 26, [vI ((z - jn 0 o 0) / 1000000000000000000 / 86400), vI ((z - jn 0 o 0) / 1000000000000000000 % 86400), vI ((z - jn 0 o 0) % 1000000000000000000)]), ((pb E2 7), 42, [.bool (decide (jn 0 (startOf (es.getD 0 (0, 0))) 0 < 0)), rS (jn 0 (startOf (es.getD 0 (0, 0))) 0) ((bA (E2 6))) ((bC (E2 6)))]), ((pb E9 5), 26, [vI ((z - jn 0 o 0) / 1000000000000000000 / 86400), vI ((z - jn 0 o 0) / 1000000000000000000 % 86400), vI ((z - jn 0 o 0) % 1000000000000000000)])]) (hs := c_ (ld_ 4 (hrd := by exact rd26 rfl rfl rfl)) <| c_ (se_ 2 (hst := by exact fun _ _ _ hc => st26 rfl rfl rfl rfl hc)) <| c_ mv_ <| e_) (k := fun E12 ac wd h_12 => ?_)
  clear h_11
  refine then_n (wp_ret ?_)
  have s4 := h_12.g (t := 4) rfl
  have hc4 := (h_12.st.own 2 _ rfl).2
  have c4_0 := own_cell (o := 0) hc4 rfl
  have c4_1 := own_cell (o := 1) hc4 rfl
  have c4_2 := own_cell (o := 2) hc4 rfl
  have s5 := h_12.g (t := 5) rfl
  refine leave (v := vT2 (vL ((z - jn 0 o 0) / 1000000000000000000 / 86400) ((z - jn 0 o 0) / 1000000000000000000 % 86400) ((z - jn 0 o 0) % 1000000000000000000)) (vI 0)) h_12.df (by simp [results, Tryz.results14, go_sem, Array.getD_eq_getD_getElem?, s4, c4_0, c4_1, c4_2, Tryz.underlying26, s5]) ?_
  have e4 := lab4 ((hrk.2 ⟨p0, p1⟩).2 (fun hh => g1 hh.1))
  exact ⟨by rw [e4], h_12.st.below⟩
  refine rf_ h_8 [[0],[0,1],[0,1,2],r_ 4,[0,1,2,4],[5],[0,1,2,3,5,6],r_ 8] [K_ (bigF (z - jn 0 o 0) (E8 9)), K_ (vT2 (vL 0 0 0) bF), K_ (vT2 (vL 0 0 0) bF), K_ (vL 0 0 0), K_ bF, KE_ fun env => vP (pb env 5) 0, none, K_ bF] (fun E9 => [(2, vP (pb E1 0) 0), (4, vP (pb E1 2) 0), (5, vI 0), (7, vN k), (9, vP (pb E9 5) 0), (10, bF)]) (W := [{ i := 5, T := 26, c0 := [vI 0, vI 0, vI 0], s := some 6, c1 := fun _ => [vI 0, vI 0, vI 0] }]) (M' := fun E9 => [((pb E1 0), 24, [vI u, vI x, .slice A0 es.length c0]), ((pb E1 1), 42, [.bool (decide (z - jn 0 o 0 < 0)), rS (z - jn 0 o 0) ((bA (E8 9))) ((bC (E8 9)))]), ((pb E1 2), 26, [vI 0, vI 0, vI 0]), ((pb E2 7), 42, [.bool (decide (jn 0 (startOf (es.getD 0 (0, 0))) 0 < 0)), rS (jn 0 (startOf (es.getD 0 (0, 0))) 0) ((bA (E2 6))) ((bC (E2 6)))]), ((pb E9 5), 26, [vI 0, vI 0, vI 0])]) (hs := c_ (ld_ 1 (hrd := by exact rd42 rfl rfl)) <| c_ (cw_ Tryz.func39 (h := fun _ env _ wd hA => ⟨_, Split_no wd (decide (z - jn 0 o 0 < 0)) (bA (E8 9)) (bC (E8 9)) (z - jn 0 o 0) rfl (Facts.bigN (hA.j.st.now).1 1 rfl) hsn hq0 hq1 hno, rfl⟩)) <| c_ mv_ <| c_ ext_ <| c_ ext_ <| c_ (al_ 4) <| c_ (sw_ 4 5 (hst := by exact fun _ _ _ hc => st26 rfl rfl rfl rfl hc)) <| c_ mv_ <| e_) (k := fun E9 ac wd h_9 => ?_)
  clear h_8
  refine then_n (wp_seq (wp_seq ?_))
  refine rf_ h_9 [[0],[0,1]] [K_ bF, K_ bT] (fun E10 => [(2, vP (pb E1 0) 0), (4, vP (pb E1 2) 0), (5, vI 0), (7, vN k), (9, vP (pb E9 5) 0), (58, bT)]) (hs := c_ mv_ <| c_ (un0 bF) <| e_) (k := fun E10 ac wd h_10 => ?_)
  clear h_9
  refine then_n ?_
  refine wp_cond_true (eval_tmp (h_10.g (t := 58) rfl)) ?_
  refine wp_seq ?_
  refine rf_ h_10 (tri 3) [K_ (vL 0 0 0), none, K_ (vI 2)] (fun E11 => [(2, vP (pb E1 0) 0), (4, vP (pb E1 2) 0), (5, vI 2), (7, vN k), (9, vP (pb E9 5) 0)]) (S := [⟨2, 1, fun _ => [vI 0, vI 0, vI 0]⟩]) (M' := fun E11 => [((pb E1 0), 24, [vI u, vI x, .slice A0 es.length c0]), ((pb E1 1), 42, [.bool (decide (z - jn 0 o 0 < 0)), rS (z - jn 0 o 0) ((bA (E8 9))) ((bC (E8 9)))]), ((pb E1 2), 26, [vI 0, vI 0, vI 0]), ((pb E2 7), 42, [.bool (decide (jn 0 (startOf (es.getD 0 (0, 0))) 0 < 0)), rS (jn 0 (startOf (es.getD 0 (0, 0))) 0) ((bA (E2 6))) ((bC (E2 6)))]), ((pb E9 5), 26, [vI 0, vI 0, vI 0])]) (hs := c_ (bd0 ([])) <| c_ (se_ 2 (hst := by exact fun _ _ _ hc => st26 rfl rfl rfl rfl hc)) <| c_ mv_ <| e_) (k := fun E11 ac wd h_11 => ?_)
  clear h_10
  refine then_n (wp_ret (then_ret ?_))
  have s4 := h_11.g (t := 4) rfl
  have hc4 := (h_11.st.own 2 _ rfl).2
  have c4_0 := own_cell (o := 0) hc4 rfl
  have c4_1 := own_cell (o := 1) hc4 rfl
  have c4_2 := own_cell (o := 2) hc4 rfl
  have s5 := h_11.g (t := 5) rfl
  refine leave (v := vT2 (vL 0 0 0) (vI 2)) h_11.df (by simp [results, Tryz.results14, go_sem, Array.getD_eq_getD_getElem?, s4, c4_0, c4_1, c4_2, Tryz.underlying26, s5]) ?_
  have e4 := lab4 (hrk.1 hno)
  exact ⟨by rw [e4], h_11.st.below⟩
end Go.Proofs.YtibdhpffdkiggaaGreat
/- the law UtcTais (printed by my walk.py) -/
namespace Go.Proofs.YtibdhpffdkiggaaGreat
open Go.RowKit
set_option linter.unusedVariables false
set_option linter.unusedSimpArgs false
attribute [local go_sem] vN bT bF rS vW vM vL vT2 vT3 vP vI execOp Act.eval evC bigF vB hi_zero lo_zero Tryz.underlying24 Tryz.underlying26 Tryz.underlying34

theorem u_ex_yes {es : List (Int × Int)} {d s a : Int} (h : whyU es d s a = 0) : Value.bool (whyU es d s a == 0) = .bool true := by rw [h]; rfl
theorem u_ex_no {es : List (Int × Int)} {d s a : Int} (h : ¬ whyU es d s a = 0) : Value.bool (whyU es d s a == 0) = .bool false := by rw [show (whyU es d s a == 0) = false from by simp [h]]
theorem tai_jn {es : List (Int × Int)} {d s a : Int} (h : whyU es d s a = 0) : taiU es d s a = jn d (s + offV es d) a := by unfold taiU jn; rw [if_pos h]; omega
/-- the leap seconds are asked no more -/
theorem Cur.offL {n : Nat} {w0 : World} {row ex : Option Nat} {Θ : World → Prop} {L : Slots} {M : List Ent} {a : Act} {w : World} (h : Cur n w0 row ex (Facts []) Θ L M a w) : Cur n w0 row none (Facts []) (fun _ => True) L M a w :=
  ⟨h.sz, h.df, ⟨h.st.gr, h.st.nod, h.st.own, fun _ hg => (by cases hg), fun _ _ φ hφ => (by cases hφ), fun _ _ => trivial⟩, h.sl⟩
set_option maxRecDepth 100000 in
set_option maxHeartbeats 8000000 in
theorem utcTais_core (w0 : World) (A0 : Option Addr) (c0 : Nat) (es : List (Int × Int)) (u x : Int) (d s a : Int) (hx0 : -9223372036854775808 ≤ d) (hx1 : d < 9223372036854775808) (hx2 : -9223372036854775808 ≤ s) (hx3 : s < 9223372036854775808) (hx4 : -9223372036854775808 ≤ a) (hx5 : a < 9223372036854775808) (hv : Ents w0 w0.heap.size (.slice A0 es.length c0) es) (hu : I64 u) (hx : I64 x) (hes : ∀ i, I64 (es.getD i (0, 0)).1 ∧ I64 (es.getD i (0, 0)).2) : Calls Tryz.prog 3 #[.agg #[vI u, vI x, .slice A0 es.length c0], vL d s a] w0 fun e w' => e = .returned (.bool true) ∧ Below w0.heap.size w0 w' := by
  have hst := St.start w0 (Θ := fun _ => True) (fun _ _ => trivial)
  refine enter Tryz.func3 rfl (n := 55) rfl (Nat.le_of_ble_eq_true rfl) hst (L := [(0, .agg #[vI u, vI x, .slice A0 es.length c0]), (1, vL d s a)]) (lk_args rfl) (fun ac h => ?_)
  replace h := h.facts
  refine wp_seq ?_
  refine rf_ h [[0],[1],[2]] [KE_ fun env => vP (pb env 0) 0, KE_ fun env => vP (pb env 1) 0, K_ bF] (fun E1 => [(2, vP (pb E1 0) 0), (3, vP (pb E1 1) 0), (4, bF)]) (W := [{ i := 0, T := 24, c0 := [vI u, vI x, .slice A0 es.length c0] }, { i := 1, T := 26, c0 := [vI d, vI s, vI a] }]) (M' := fun E1 => [((pb E1 0), 24, [vI u, vI x, .slice A0 es.length c0]), ((pb E1 1), 26, [vI d, vI s, vI a])]) (hs := c_ (bx0 0 (.agg #[vI u, vI x, .slice A0 es.length c0])) <| c_ (bx0 1 (vL d s a)) <| c_ mv_ <| e_) (k := fun E1 ac wd h_1 => ?_)
  clear h
  refine then_n (wp_seq ?_)
  cases hok : okT u x es
  refine rf_ h_1 [[0],[0,1],[0,1,2],r_ 4,[0,1,2,4],[0,1,2,3,5],r_ 7] [K_ (.agg #[vI u, vI x, .slice A0 es.length c0]), K_ (vT2 (.pointer none) (vI 10)), K_ (vT2 (.pointer none) (vI 10)), K_ (.pointer none), K_ (vI 10), K_ (.pointer none), K_ (vI 10)] (fun E2 => [(2, vP (pb E1 0) 0), (3, vP (pb E1 1) 0), (4, bF), (5, .pointer none), (6, vI 10)]) (hs := c_ (ld_ 0 (hrd := by exact rd24 rfl rfl rfl)) <| c_ (cw_ Tryz.func5 (h := fun _ env _ wd hA => ⟨_, ((new_no _ es u x wd (hv.gn hA.j.st.gr) hu hx hes hok)), rfl⟩)) <| c_ mv_ <| c_ ext_ <| c_ ext_ <| c_ mv_ <| c_ mv_ <| e_) (k := fun E2 ac wd h_2 => ?_)
  clear h_1
  refine then_n (wp_seq (wp_seq ?_))
  refine rf_ h_2 [[0],[0,1]] [K_ (vI 10), K_ bT] (fun E3 => [(2, vP (pb E1 0) 0), (3, vP (pb E1 1) 0), (4, bF), (5, .pointer none), (16, bT)]) (hs := c_ mv_ <| c_ (bi0 (vI 10) (vI 0)) <| e_) (k := fun E3 ac wd h_3 => ?_)
  clear h_2
  refine then_n ?_
  refine wp_cond_true (eval_tmp (h_3.g (t := 16) rfl)) ?_
  refine wp_seq ?_
  refine rf_ h_3 [[0],[0,1]] [K_ bT, K_ bT] (fun E4 => [(2, vP (pb E1 0) 0), (3, vP (pb E1 1) 0), (4, bT), (5, .pointer none)]) (hs := c_ (cl_ Tryz.func6 (h := fun env => ⟨_, answers13_any, rfl⟩)) <| c_ mv_ <| e_) (k := fun E4 ac wd h_4 => ?_)
  clear h_3
  refine then_n (wp_ret (then_ret ?_))
  have s4 := h_4.g (t := 4) rfl
  refine leave (v := .bool true) h_4.df (by simp [results, Tryz.results3, go_sem, Array.getD_eq_getD_getElem?, s4]) ?_
  exact ⟨rfl, h_4.st.below⟩
  obtain ⟨hp, hn0, _⟩ := okT_pre hok
  refine rf_ h_1 [[0],[0,1],[0,1,2],r_ 4,[0,1,2,4],[0,1,2,3,5],r_ 7] [K_ (.agg #[vI u, vI x, .slice A0 es.length c0]), KE_ fun env => vT2 (vP (ptrB (tp (env 1) 0)) 0) (vI 0), KE_ fun env => vT2 (vP (ptrB (tp (env 1) 0)) 0) (vI 0), KE_ fun env => vP (ptrB (tp (env 1) 0)) 0, K_ (vI 0), KE_ fun env => vP (ptrB (tp (env 1) 0)) 0, K_ (vI 0)] (fun E2 => [(2, vP (pb E1 0) 0), (3, vP (pb E1 1) 0), (4, bF), (5, vP (ptrB (tp (E2 1) 0)) 0), (6, vI 0)]) (F := [(1, fun env w => NewL w (env 1) u x es w0.heap.size)]) (L1 := fun E2 => [fun w => NewL w (E2 1) u x es w0.heap.size]) (hs := c_ (ld_ 0 (hrd := by exact rd24 rfl rfl rfl)) <| c_ (s_factT rfl rfl rfl Tryz.func5 (by kernel_rfl) rfl (fun _ => wanted_none rfl _) (fun v w => NewL w v u x es w0.heap.size) newLF rfl rfl leT rfl (fun v w h => h.form) (fun v w w' hk h => h.keep hk) (fun {D env ac wd} hA => ⟨_, hA.args (vs := [.agg #[vI u, vI x, .slice A0 es.length c0]]) rfl, lnew_yes hA.j.st.gr.size (hv.gn hA.j.st.gr) hu hx hes hok⟩)) <| c_ mv_ <| c_ ext_ <| c_ ext_ <| c_ mv_ <| c_ mv_ <| e_) (k := fun E2 ac wd h_2 => ?_)
  clear h_1
  refine then_n (wp_seq (wp_seq ?_))
  replace h_2 := Cur.exInF h_2 0 rfl; generalize ptrB (tp (E2 1) 0) = g at h_2
  refine rf_ h_2 [[0],[0,1]] [K_ (vI 0), K_ bF] (fun E3 => [(2, vP (pb E1 0) 0), (3, vP (pb E1 1) 0), (4, bF), (5, vP g 0), (16, bF)]) (hs := c_ mv_ <| c_ (bi0 (vI 0) (vI 0) (h := by intro env w; (first | (simp [go_sem]; done) | (simp [go_sem]; rfl)))) <| e_) (k := fun E3 ac wd h_3 => ?_)
  clear h_2
  refine then_n ?_
  refine wp_cond_false (eval_tmp (h_3.g (t := 16) rfl)) ?_
  refine wp_skip (then_n (wp_seq ?_))
  refine rf_ h_3 [[0],[1],[0,1,2],r_ 4,r_ 5,[0,1,2,3,5],[6],[0,1,2,3,4,6,7],r_ 9] [K_ (vP g 0), K_ (vL d s a), K_ (vT2 (vW (taiU es d s a)) (vI (whyU es d s a))), K_ (vT2 (vW (taiU es d s a)) (vI (whyU es d s a))), K_ (vW (taiU es d s a)), K_ (vI (whyU es d s a)), KE_ fun env => vP (pb env 6) 0, none, K_ (vI (whyU es d s a))] (fun E4 => [(2, vP (pb E1 0) 0), (3, vP (pb E1 1) 0), (4, bF), (5, vP g 0), (7, vP (pb E4 6) 0), (8, vI (whyU es d s a))]) (W := [{ i := 6, T := 34, c0 := [vI 0, .int .u64 0], s := some 7, c1 := fun _ => [vI (hi (taiU es d s a)), .int .u64 (lo (taiU es d s a))] }]) (M' := fun E4 => [((pb E1 0), 24, [vI u, vI x, .slice A0 es.length c0]), ((pb E1 1), 26, [vI d, vI s, vI a]), ((pb E4 6), 34, [vI (hi (taiU es d s a)), .int .u64 (lo (taiU es d s a))])]) (hs := c_ mv_ <| c_ (ld_ 1 (hrd := by exact rd26 rfl rfl rfl)) <| c_ (s_leap (g := g) (u := u) (x := x) (es := es) Tryz.func7 (fun _ h => h) (fun _ h => h) (h := fun D env ac wd hA hL => ⟨_, utai_l _ g u x es hL d s a, rfl⟩)) <| c_ mv_ <| c_ ext_ <| c_ ext_ <| c_ (al_ 2) <| c_ (sw_ 2 6 (hst := by exact fun _ _ _ hc => st34 rfl rfl rfl hc)) <| c_ mv_ <| e_) (k := fun E4 ac wd h_4 => ?_)
  clear h_3
  refine then_n (wp_seq ?_)
  refine rf_ h_4 [[0],[1],[0,1,2],r_ 4] [K_ (.agg #[vI u, vI x, .slice A0 es.length c0]), K_ (vL d s a), K_ (vI (whyU es d s a)), K_ (vI (whyU es d s a))] (fun E5 => [(2, vP (pb E1 0) 0), (3, vP (pb E1 1) 0), (4, bF), (5, vP g 0), (7, vP (pb E4 6) 0), (8, vI (whyU es d s a)), (9, vI (whyU es d s a))]) (hs := c_ (ld_ 0 (hrd := by exact rd24 rfl rfl rfl)) <| c_ (ld_ 1 (hrd := by exact rd26 rfl rfl rfl)) <| c_ (cw_ Tryz.func8 (h := fun _ env _ wd hA => ⟨_, (rWhy_any wd A0 c0 es u x (hv.gn hA.j.st.gr) hp hn0 d s a), rfl⟩)) <| c_ mv_ <| e_) (k := fun E5 ac wd h_5 => ?_)
  clear h_4
  refine then_n (wp_seq (wp_seq ?_))
  by_cases he : whyU es d s a = 0
  obtain ⟨hiw, _⟩ := utc_back hp hn0 he; obtain ⟨q0, q1, q2, q3, q4, q5, _, _⟩ := whyU_ok he; have hsame := tai_jn he
  refine rf_ h_5 [[0],[1],[0,1,2],r_ 4,r_ 5,[0,1,2,3,5],r_ 7,[0,1,2,3,7],[0,1,2,3,7,8],r_ 10,r_ 11] [K_ (vI (whyU es d s a)), K_ (vI (whyU es d s a)), K_ bF, K_ bF, K_ (vP g 0), K_ (vL d s a), K_ bT, K_ (vI (whyU es d s a)), K_ bT, K_ bF, K_ bF] (fun E6 => [(2, vP (pb E1 0) 0), (3, vP (pb E1 1) 0), (4, bF), (7, vP (pb E4 6) 0), (9, vI (whyU es d s a)), (37, bF)]) (hs := c_ mv_ <| c_ mv_ <| c_ (bi0 (vI (whyU es d s a)) (vI (whyU es d s a)) (h := by intro env w; (first | (simp [go_sem]; done) | (simp [go_sem]; rfl)))) <| c_ mv_ <| c_ (gm0 (vP g 0)) <| c_ (ld_ 1 (hrd := by exact rd26 rfl rfl rfl)) <| c_ (s_leap (g := g) (u := u) (x := x) (es := es) Tryz.func9 (fun _ h => h) (fun _ h => h) (h := fun D env ac wd hA hL => ⟨_, LeapC.eq (uexists_l _ g u x es hL d s a) (u_ex_yes he), rfl⟩)) <| c_ (gm0 (vI (whyU es d s a))) <| c_ (bi0 (vI (whyU es d s a)) (vI 0) (h := by intro env w; simp [go_sem, he])) <| c_ (bi0 bT bT (h := by intro env w; (first | (simp [go_sem]; done) | (simp [go_sem]; rfl)))) <| c_ (pk0 bF bT bF (h := by intro env w; (first | (simp [go_sem]; done) | (simp [go_sem]; rfl)))) <| e_) (k := fun E6 ac wd h_6 => ?_)
  clear h_5
  refine then_n ?_
  refine wp_cond_false (eval_tmp (h_6.g (t := 37) rfl)) ?_
  refine wp_skip (then_n (wp_seq (wp_seq ?_)))
  refine rf_ h_6 [[0],[0,1]] [K_ (vI (whyU es d s a)), K_ bF] (fun E7 => [(2, vP (pb E1 0) 0), (3, vP (pb E1 1) 0), (4, bF), (7, vP (pb E4 6) 0), (39, bF)]) (hs := c_ mv_ <| c_ (bi0 (vI (whyU es d s a)) (vI 0) (h := by intro env w; simp [go_sem, he])) <| e_) (k := fun E7 ac wd h_7 => ?_)
  clear h_6
  refine then_n ?_
  refine wp_cond_false (eval_tmp (h_7.g (t := 39) rfl)) ?_
  refine wp_skip (then_n (wp_seq ?_))
  replace h_7 := Cur.offL h_7
  refine rf_ h_7 [[0],[0,1],[0,1,2],r_ 4,[0,1,4],[0,1,5],r_ 7,r_ 8,r_ 9,r_ 10] [K_ bT, K_ bT, K_ (vW (taiU es d s a)), KE_ fun env => bigF (taiU es d s a) (env 3), K_ (.agg #[vI u, vI x, .slice A0 es.length c0]), K_ (vL d s a), KE_ fun env => bigF (jn d (s + offV es d) a) (env 6), K_ bT, K_ bT, K_ bT] (fun E8 => [(4, bT)]) (F := [(3, fun env w => BigN w0.heap.size w (env 3) (taiU es d s a)), (6, fun env w => BigN w0.heap.size w (env 6) (jn d (s + offV es d) a))]) (L1 := fun E8 => [fun w => BigN w0.heap.size w (E8 3) (taiU es d s a), fun w => BigN w0.heap.size w (E8 6) (jn d (s + offV es d) a)]) (hs := c_ (cl_ Tryz.func6 (h := fun env => ⟨_, answers13_any, rfl⟩)) <| c_ mv_ <| c_ (ld_ 2 (hrd := by exact rd34 rfl rfl)) <| c_ (cb_ Tryz.func11 (taiU es d s a) (h := fun _ env _ wd hA => ⟨_, Of_any wd (taiU es d s a) hiw, rfl⟩)) <| c_ (ld_ 0 (hrd := by exact rd24 rfl rfl rfl)) <| c_ (ld_ 1 (hrd := by exact rd26 rfl rfl rfl)) <| c_ (cb_ Tryz.func12 (jn d (s + offV es d) a) (h := fun _ env _ wd hA => ⟨_, rTai12_any wd A0 c0 es u x (hv.gn hA.j.st.gr) hp d s a q0 q1 q2 q3 q4 q5, rfl⟩)) <| c_ (cw_ Tryz.func10 (h := fun _ env _ wd hA => ⟨_, (u_res_eq (Same_any wd (decide (taiU es d s a < 0)) (bA (env 3)) (bC (env 3)) (taiU es d s a) rfl (At.bigN hA 3 rfl rfl rfl)  (decide (jn d (s + offV es d) a < 0)) (bA (env 6)) (bC (env 6)) (jn d (s + offV es d) a) rfl (At.bigN hA 6 rfl rfl rfl) ) (congrArg Value.bool (decide_eq_true hsame))), rfl⟩)) <| c_ (pk0 bT bT bF) <| c_ mv_ <| e_) (k := fun E8 ac wd h_8 => ?_)
  clear h_7
  refine then_n (wp_ret ?_)
  have s4 := h_8.g (t := 4) rfl
  refine leave (v := .bool true) h_8.df (by simp [results, Tryz.results3, go_sem, Array.getD_eq_getD_getElem?, s4]) ?_
  exact ⟨rfl, h_8.st.below⟩
  have hv0 : taiU es d s a = 0 := if_neg he
  refine rf_ h_5 [[0],[1],[0,1,2],r_ 4,r_ 5,[0,1,2,3,5],r_ 7,[0,1,2,3,7],[0,1,2,3,7,8],r_ 10,r_ 11] [K_ (vI (whyU es d s a)), K_ (vI (whyU es d s a)), K_ bF, K_ bF, K_ (vP g 0), K_ (vL d s a), K_ bF, K_ (vI (whyU es d s a)), K_ bF, K_ bF, K_ bF] (fun E6 => [(2, vP (pb E1 0) 0), (3, vP (pb E1 1) 0), (4, bF), (7, vP (pb E4 6) 0), (9, vI (whyU es d s a)), (37, bF)]) (hs := c_ mv_ <| c_ mv_ <| c_ (bi0 (vI (whyU es d s a)) (vI (whyU es d s a)) (h := by intro env w; (first | (simp [go_sem]; done) | (simp [go_sem]; rfl)))) <| c_ mv_ <| c_ (gm0 (vP g 0)) <| c_ (ld_ 1 (hrd := by exact rd26 rfl rfl rfl)) <| c_ (s_leap (g := g) (u := u) (x := x) (es := es) Tryz.func9 (fun _ h => h) (fun _ h => h) (h := fun D env ac wd hA hL => ⟨_, LeapC.eq (uexists_l _ g u x es hL d s a) (u_ex_no he), rfl⟩)) <| c_ (gm0 (vI (whyU es d s a))) <| c_ (bi0 (vI (whyU es d s a)) (vI 0) (h := by intro env w; simp [go_sem, he])) <| c_ (bi0 bF bF (h := by intro env w; (first | (simp [go_sem]; done) | (simp [go_sem]; rfl)))) <| c_ (pk0 bF bT bF (h := by intro env w; (first | (simp [go_sem]; done) | (simp [go_sem]; rfl)))) <| e_) (k := fun E6 ac wd h_6 => ?_)
  clear h_5
  refine then_n ?_
  refine wp_cond_false (eval_tmp (h_6.g (t := 37) rfl)) ?_
  refine wp_skip (then_n (wp_seq (wp_seq ?_)))
  refine rf_ h_6 [[0],[0,1]] [K_ (vI (whyU es d s a)), K_ bT] (fun E7 => [(2, vP (pb E1 0) 0), (3, vP (pb E1 1) 0), (4, bF), (7, vP (pb E4 6) 0), (39, bT)]) (hs := c_ mv_ <| c_ (bi0 (vI (whyU es d s a)) (vI 0) (h := by intro env w; simp [go_sem, he])) <| e_) (k := fun E7 ac wd h_7 => ?_)
  clear h_6
  refine then_n ?_
  refine wp_cond_true (eval_tmp (h_7.g (t := 39) rfl)) ?_
  refine wp_seq ?_
  refine rf_ h_7 [[0],[0,1],[0,1,2],[0,1,3],r_ 5,r_ 6,r_ 7] [K_ bT, K_ bT, K_ (vW (taiU es d s a)), K_ (.agg #[vI 0, .int .u64 0]), K_ bT, K_ bT, K_ bT] (fun E8 => [(2, vP (pb E1 0) 0), (3, vP (pb E1 1) 0), (4, bT), (7, vP (pb E4 6) 0)]) (hs := c_ (cl_ Tryz.func6 (h := fun env => ⟨_, answers13_any, rfl⟩)) <| c_ mv_ <| c_ (ld_ 2 (hrd := by exact rd34 rfl rfl)) <| c_ (bd0 ([])) <| c_ (bi0 (vW (taiU es d s a)) (.agg #[vI 0, .int .u64 0]) (h := by intro env w; simp [go_sem, hv0, hi_zero, lo_zero])) <| c_ (pk0 bT bT bF (h := by intro env w; simp [go_sem, hv0, hi_zero, lo_zero])) <| c_ mv_ <| e_) (k := fun E8 ac wd h_8 => ?_)
  clear h_7
  refine then_n (wp_ret (then_ret ?_))
  have s4 := h_8.g (t := 4) rfl
  refine leave (v := .bool true) h_8.df (by simp [results, Tryz.results3, go_sem, Array.getD_eq_getD_getElem?, s4]) ?_
  exact ⟨rfl, h_8.st.below⟩
theorem utcTais_walk (w0 : World) (v : Value) (es : List (Int × Int)) (u x : Int) (d s a : Int) (hx0 : -9223372036854775808 ≤ d) (hx1 : d < 9223372036854775808) (hx2 : -9223372036854775808 ≤ s) (hx3 : s < 9223372036854775808) (hx4 : -9223372036854775808 ≤ a) (hx5 : a < 9223372036854775808) (hv : Ents w0 w0.heap.size v es) (hu : I64 u) (hx : I64 x) (hes : ∀ i, I64 (es.getD i (0, 0)).1 ∧ I64 (es.getD i (0, 0)).2) : Calls Tryz.prog 3 #[.agg #[vI u, vI x, v], vL d s a] w0 fun e w' => e = .returned (.bool true) ∧ Below w0.heap.size w0 w' := by
  have hv0 := hv
  obtain ⟨A, c, rfl, _⟩ := hv
  exact utcTais_core w0 A c es u x d s a hx0 hx1 hx2 hx3 hx4 hx5 hv0 hu hx hes
end Go.Proofs.YtibdhpffdkiggaaGreat
/- the law UtcLabels (printed by my walk.py) -/
namespace Go.Proofs.YtibdhpffdkiggaaGreat
open Go.RowKit
set_option linter.unusedVariables false
set_option linter.unusedSimpArgs false
attribute [local go_sem] vN bT bF rS vW vM vL vT2 vT3 vP vI execOp Act.eval evC bigF vB hi_zero lo_zero Tryz.underlying24 Tryz.underlying26 Tryz.underlying34

set_option maxRecDepth 100000 in
set_option maxHeartbeats 8000000 in
theorem utcLabels_core (w0 : World) (A0 : Option Addr) (c0 : Nat) (es : List (Int × Int)) (u x : Int) (z : Int) (hz : InW z) (hv : Ents w0 w0.heap.size (.slice A0 es.length c0) es) (hu : I64 u) (hx : I64 x) (hes : ∀ i, I64 (es.getD i (0, 0)).1 ∧ I64 (es.getD i (0, 0)).2) : Calls Tryz.prog 4 #[.agg #[vI u, vI x, .slice A0 es.length c0], vW z] w0 fun e w' => e = .returned (.bool true) ∧ Below w0.heap.size w0 w' := by
  have hst := St.start w0 (Θ := fun _ => True) (fun _ _ => trivial)
  refine enter Tryz.func4 rfl (n := 43) rfl (Nat.le_of_ble_eq_true rfl) hst (L := [(0, .agg #[vI u, vI x, .slice A0 es.length c0]), (1, vW z)]) (lk_args rfl) (fun ac h => ?_)
  replace h := h.facts
  refine wp_seq ?_
  refine rf_ h [[0],[1],[2]] [KE_ fun env => vP (pb env 0) 0, KE_ fun env => vP (pb env 1) 0, K_ bF] (fun E1 => [(2, vP (pb E1 0) 0), (3, vP (pb E1 1) 0), (4, bF)]) (W := [{ i := 0, T := 24, c0 := [vI u, vI x, .slice A0 es.length c0] }, { i := 1, T := 34, c0 := [vI (hi (z)), .int .u64 (lo (z))] }]) (M' := fun E1 => [((pb E1 0), 24, [vI u, vI x, .slice A0 es.length c0]), ((pb E1 1), 34, [vI (hi (z)), .int .u64 (lo (z))])]) (hs := c_ (bx0 0 (.agg #[vI u, vI x, .slice A0 es.length c0])) <| c_ (bx0 1 (vW z)) <| c_ mv_ <| e_) (k := fun E1 ac wd h_1 => ?_)
  clear h
  refine then_n (wp_seq ?_)
  cases hok : okT u x es
  refine rf_ h_1 [[0],[0,1],[0,1,2],r_ 4,[0,1,2,4],[0,1,2,3,5],r_ 7] [K_ (.agg #[vI u, vI x, .slice A0 es.length c0]), K_ (vT2 (.pointer none) (vI 10)), K_ (vT2 (.pointer none) (vI 10)), K_ (.pointer none), K_ (vI 10), K_ (.pointer none), K_ (vI 10)] (fun E2 => [(2, vP (pb E1 0) 0), (3, vP (pb E1 1) 0), (4, bF), (5, .pointer none), (6, vI 10)]) (hs := c_ (ld_ 0 (hrd := by exact rd24 rfl rfl rfl)) <| c_ (cw_ Tryz.func5 (h := fun _ env _ wd hA => ⟨_, ((new_no _ es u x wd (hv.gn hA.j.st.gr) hu hx hes hok)), rfl⟩)) <| c_ mv_ <| c_ ext_ <| c_ ext_ <| c_ mv_ <| c_ mv_ <| e_) (k := fun E2 ac wd h_2 => ?_)
  clear h_1
  refine then_n (wp_seq (wp_seq ?_))
  refine rf_ h_2 [[0],[0,1]] [K_ (vI 10), K_ bT] (fun E3 => [(2, vP (pb E1 0) 0), (3, vP (pb E1 1) 0), (4, bF), (5, .pointer none), (17, bT)]) (hs := c_ mv_ <| c_ (bi0 (vI 10) (vI 0)) <| e_) (k := fun E3 ac wd h_3 => ?_)
  clear h_2
  refine then_n ?_
  refine wp_cond_true (eval_tmp (h_3.g (t := 17) rfl)) ?_
  refine wp_seq ?_
  refine rf_ h_3 [[0],[0,1]] [K_ bT, K_ bT] (fun E4 => [(2, vP (pb E1 0) 0), (3, vP (pb E1 1) 0), (4, bT), (5, .pointer none)]) (hs := c_ (cl_ Tryz.func6 (h := fun env => ⟨_, answers13_any, rfl⟩)) <| c_ mv_ <| e_) (k := fun E4 ac wd h_4 => ?_)
  clear h_3
  refine then_n (wp_ret (then_ret ?_))
  have s4 := h_4.g (t := 4) rfl
  refine leave (v := .bool true) h_4.df (by simp [results, Tryz.results4, go_sem, Array.getD_eq_getD_getElem?, s4]) ?_
  exact ⟨rfl, h_4.st.below⟩
  obtain ⟨hp, hn0, _⟩ := okT_pre hok
  refine rf_ h_1 [[0],[0,1],[0,1,2],r_ 4,[0,1,2,4],[0,1,2,3,5],r_ 7] [K_ (.agg #[vI u, vI x, .slice A0 es.length c0]), KE_ fun env => vT2 (vP (ptrB (tp (env 1) 0)) 0) (vI 0), KE_ fun env => vT2 (vP (ptrB (tp (env 1) 0)) 0) (vI 0), KE_ fun env => vP (ptrB (tp (env 1) 0)) 0, K_ (vI 0), KE_ fun env => vP (ptrB (tp (env 1) 0)) 0, K_ (vI 0)] (fun E2 => [(2, vP (pb E1 0) 0), (3, vP (pb E1 1) 0), (4, bF), (5, vP (ptrB (tp (E2 1) 0)) 0), (6, vI 0)]) (F := [(1, fun env w => NewL w (env 1) u x es w0.heap.size)]) (L1 := fun E2 => [fun w => NewL w (E2 1) u x es w0.heap.size]) (hs := c_ (ld_ 0 (hrd := by exact rd24 rfl rfl rfl)) <| c_ (s_factT rfl rfl rfl Tryz.func5 (by kernel_rfl) rfl (fun _ => wanted_none rfl _) (fun v w => NewL w v u x es w0.heap.size) newLF rfl rfl leT rfl (fun v w h => h.form) (fun v w w' hk h => h.keep hk) (fun {D env ac wd} hA => ⟨_, hA.args (vs := [.agg #[vI u, vI x, .slice A0 es.length c0]]) rfl, lnew_yes hA.j.st.gr.size (hv.gn hA.j.st.gr) hu hx hes hok⟩)) <| c_ mv_ <| c_ ext_ <| c_ ext_ <| c_ mv_ <| c_ mv_ <| e_) (k := fun E2 ac wd h_2 => ?_)
  clear h_1
  refine then_n (wp_seq (wp_seq ?_))
  replace h_2 := Cur.exInF h_2 0 rfl; generalize ptrB (tp (E2 1) 0) = g at h_2
  refine rf_ h_2 [[0],[0,1]] [K_ (vI 0), K_ bF] (fun E3 => [(2, vP (pb E1 0) 0), (3, vP (pb E1 1) 0), (4, bF), (5, vP g 0), (17, bF)]) (hs := c_ mv_ <| c_ (bi0 (vI 0) (vI 0) (h := by intro env w; (first | (simp [go_sem]; done) | (simp [go_sem]; rfl)))) <| e_) (k := fun E3 ac wd h_3 => ?_)
  clear h_2
  refine then_n ?_
  refine wp_cond_false (eval_tmp (h_3.g (t := 17) rfl)) ?_
  refine wp_skip (then_n (wp_seq ?_))
  refine rf_ h_3 [[0],[1],[0,1,2],r_ 4,r_ 5,[0,1,2,3,5],[6],[0,1,2,3,4,6,7],r_ 9] [K_ (vP g 0), K_ (vW z), K_ (vT2 (vL ((labUt es z).2.1) ((labUt es z).2.2.1) ((labUt es z).2.2.2)) (vI ((labUt es z).1))), K_ (vT2 (vL ((labUt es z).2.1) ((labUt es z).2.2.1) ((labUt es z).2.2.2)) (vI ((labUt es z).1))), K_ (vL ((labUt es z).2.1) ((labUt es z).2.2.1) ((labUt es z).2.2.2)), K_ (vI ((labUt es z).1)), KE_ fun env => vP (pb env 6) 0, none, K_ (vI ((labUt es z).1))] (fun E4 => [(2, vP (pb E1 0) 0), (3, vP (pb E1 1) 0), (4, bF), (7, vP (pb E4 6) 0), (8, vI ((labUt es z).1))]) (W := [{ i := 6, T := 26, c0 := [vI 0, vI 0, vI 0], s := some 7, c1 := fun _ => [vI ((labUt es z).2.1), vI ((labUt es z).2.2.1), vI ((labUt es z).2.2.2)] }]) (M' := fun E4 => [((pb E1 0), 24, [vI u, vI x, .slice A0 es.length c0]), ((pb E1 1), 34, [vI (hi (z)), .int .u64 (lo (z))]), ((pb E4 6), 26, [vI ((labUt es z).2.1), vI ((labUt es z).2.2.1), vI ((labUt es z).2.2.2)])]) (hs := c_ mv_ <| c_ (ld_ 1 (hrd := by exact rd34 rfl rfl)) <| c_ (s_leap (g := g) (u := u) (x := x) (es := es) Tryz.func13 (fun _ h => h) (fun _ h => h) (h := fun D env ac wd hA hL => ⟨_, ulabel_l _ g u x es hL z hz, rfl⟩)) <| c_ mv_ <| c_ ext_ <| c_ ext_ <| c_ (al_ 2) <| c_ (sw_ 2 6 (hst := by exact fun _ _ _ hc => st26 rfl rfl rfl rfl hc)) <| c_ mv_ <| e_) (k := fun E4 ac wd h_4 => ?_)
  clear h_3
  refine then_n (wp_seq ?_)
  replace h_4 := Cur.offL h_4
  refine rf_ h_4 [[0],[1],[1,2],r_ 4,r_ 5,r_ 6,[0,1,2,3,4,6],[7],[0,1,2,3,4,5,7,8],r_ 10] [K_ (.agg #[vI u, vI x, .slice A0 es.length c0]), K_ (vW z), KE_ fun env => bigF z (env 2), K_ (vT2 (vL ((labUt es z).2.1) ((labUt es z).2.2.1) ((labUt es z).2.2.2)) (vI ((labUt es z).1))), K_ (vT2 (vL ((labUt es z).2.1) ((labUt es z).2.2.1) ((labUt es z).2.2.2)) (vI ((labUt es z).1))), K_ (vL ((labUt es z).2.1) ((labUt es z).2.2.1) ((labUt es z).2.2.2)), K_ (vI ((labUt es z).1)), KE_ fun env => vP (pb env 7) 0, none, K_ (vI ((labUt es z).1))] (fun E5 => [(4, bF), (7, vP (pb E4 6) 0), (8, vI ((labUt es z).1)), (9, vP (pb E5 7) 0), (10, vI ((labUt es z).1))]) (W := [{ i := 7, T := 26, c0 := [vI 0, vI 0, vI 0], s := some 8, c1 := fun _ => [vI ((labUt es z).2.1), vI ((labUt es z).2.2.1), vI ((labUt es z).2.2.2)] }]) (F := [(2, fun env w => BigN w0.heap.size w (env 2) z)]) (L1 := fun E5 => [fun w => BigN w0.heap.size w (E5 2) z]) (M' := fun E5 => [((pb E1 0), 24, [vI u, vI x, .slice A0 es.length c0]), ((pb E1 1), 34, [vI (hi (z)), .int .u64 (lo (z))]), ((pb E4 6), 26, [vI ((labUt es z).2.1), vI ((labUt es z).2.2.1), vI ((labUt es z).2.2.2)]), ((pb E5 7), 26, [vI ((labUt es z).2.1), vI ((labUt es z).2.2.1), vI ((labUt es z).2.2.2)])]) (hs := c_ (ld_ 0 (hrd := by exact rd24 rfl rfl rfl)) <| c_ (ld_ 1 (hrd := by exact rd34 rfl rfl)) <| c_ (cb_ Tryz.func11 z (h := fun _ env _ wd hA => ⟨_, Of_any wd z hz, rfl⟩)) <| c_ (cw_ Tryz.func14 (h := fun _ env _ wd hA => ⟨_, (rLabel12_any wd A0 c0 es u x (hv.gn hA.j.st.gr) hp hn0 _ (bA (env 2)) (bC (env 2)) z rfl (At.bigN hA 2 rfl rfl rfl) hz), rfl⟩)) <| c_ mv_ <| c_ ext_ <| c_ ext_ <| c_ (al_ 3) <| c_ (sw_ 3 7 (hst := by exact fun _ _ _ hc => st26 rfl rfl rfl rfl hc)) <| c_ mv_ <| e_) (k := fun E5 ac wd h_5 => ?_)
  clear h_4
  refine then_n (wp_seq ?_)
  refine rf_ h_5 [[0],[0,1],[0,1,2],[0,1,3],r_ 5,r_ 6,r_ 7,r_ 8,[0,1,2,3,4,5,6,8],r_ 10,r_ 11,r_ 12] [K_ bT, K_ bT, K_ (vL ((labUt es z).2.1) ((labUt es z).2.2.1) ((labUt es z).2.2.2)), K_ (vL ((labUt es z).2.1) ((labUt es z).2.2.1) ((labUt es z).2.2.2)), K_ bT, K_ bT, K_ bT, K_ (vI ((labUt es z).1)), K_ (vI ((labUt es z).1)), K_ bT, K_ bT, K_ bT] (fun E6 => [(4, bT)]) (hs := c_ (cl_ Tryz.func6 (h := fun env => ⟨_, answers13_any, rfl⟩)) <| c_ mv_ <| c_ (ld_ 2 (hrd := by exact rd26 rfl rfl rfl)) <| c_ (ld_ 3 (hrd := by exact rd26 rfl rfl rfl)) <| c_ (bi0 (vL ((labUt es z).2.1) ((labUt es z).2.2.1) ((labUt es z).2.2.2)) (vL ((labUt es z).2.1) ((labUt es z).2.2.1) ((labUt es z).2.2.2)) (h := by intro env w; (first | (simp [go_sem]; done) | (simp [go_sem]; rfl)))) <| c_ (pk0 bT bT bF (h := by intro env w; (first | (simp [go_sem]; done) | (simp [go_sem]; rfl)))) <| c_ mv_ <| c_ (gm0 (vI ((labUt es z).1))) <| c_ (gm0 (vI ((labUt es z).1))) <| c_ (bi0 (vI ((labUt es z).1)) (vI ((labUt es z).1)) (h := by intro env w; (first | (simp [go_sem]; done) | (simp [go_sem]; rfl)))) <| c_ (pk0 bT bT bF (h := by intro env w; (first | (simp [go_sem]; done) | (simp [go_sem]; rfl)))) <| c_ mv_ <| e_) (k := fun E6 ac wd h_6 => ?_)
  clear h_5
  refine then_n (wp_ret ?_)
  have s4 := h_6.g (t := 4) rfl
  refine leave (v := .bool true) h_6.df (by simp [results, Tryz.results4, go_sem, Array.getD_eq_getD_getElem?, s4]) ?_
  exact ⟨rfl, h_6.st.below⟩
theorem utcLabels_walk (w0 : World) (v : Value) (es : List (Int × Int)) (u x : Int) (z : Int) (hz : InW z) (hv : Ents w0 w0.heap.size v es) (hu : I64 u) (hx : I64 x) (hes : ∀ i, I64 (es.getD i (0, 0)).1 ∧ I64 (es.getD i (0, 0)).2) : Calls Tryz.prog 4 #[.agg #[vI u, vI x, v], vW z] w0 fun e w' => e = .returned (.bool true) ∧ Below w0.heap.size w0 w' := by
  have hv0 := hv
  obtain ⟨A, c, rfl, _⟩ := hv
  exact utcLabels_core w0 A c es u x z hz hv0 hu hx hes
end Go.Proofs.YtibdhpffdkiggaaGreat
/- The arguments of a law opened: a label, a wide number (for seats without rates; else R4). Own work. -/
namespace Go.Proofs.YtibdhpffdkiggaaGreat
open Go.RowKit Go.ChangeShapes Go.WideShapes Go.ChangeAt Go.Deep Go.Joins
set_option linter.unusedVariables false
set_option linter.unusedSimpArgs false
theorem labelCells : Tryz.prog.cellsOf 26 = 3 := by kernel_rfl
theorem wideCells : Tryz.prog.cellsOf 34 = 2 := by kernel_rfl
section
variable {H : Type} {enc : TypeId × Value → H} {w : World}
set_option maxRecDepth 100000 in
theorem open_label {r : Reach} {b0 : Nat} {v : Value} {d : DataW H} {p : List MemPlace} (hv : Value.okWide Tryz.prog w r b0 26 v) (h : DataW.Trod enc Tryz.prog w 0 (fun _ => true) true 26 v d p) :
    ∃ a b c, v = vL a b c ∧ I64 a ∧ I64 b ∧ I64 c := by
  obtain ⟨v0, v1, v2, y0, y1, y2, n, rfl, _, hp, h0, h1, h2⟩ := open_agg3 Tryz.underlying26 (by kernel_rfl) labelCells hv h
  obtain ⟨u, e0, _, w0⟩ := DataW.trod_int Tryz.underlying3 h0
  obtain ⟨x, e1, _, w1⟩ := DataW.trod_int Tryz.underlying3 h1
  obtain ⟨y, e2, _, w2⟩ := DataW.trod_int Tryz.underlying3 h2
  simp only [List.cons.injEq, and_true] at e0 e1 e2
  subst e0 e1 e2
  exact ⟨u, x, y, rfl, wf_I64 w0, wf_I64 w1, wf_I64 w2⟩
set_option maxRecDepth 100000 in
theorem open_wide {r : Reach} {b0 : Nat} {v : Value} {d : DataW H} {p : List MemPlace} (hv : Value.okWide Tryz.prog w r b0 34 v) (h : DataW.Trod enc Tryz.prog w 0 (fun _ => true) true 34 v d p) :
    ∃ z, v = vW z ∧ InW z := by
  obtain ⟨v0, v1, y0, y1, n, rfl, _, hp, h0, h1⟩ := open_agg2 Tryz.underlying34 (by kernel_rfl) wideCells hv h
  obtain ⟨u, e0, _, w0⟩ := DataW.trod_int Tryz.underlying2 h0
  obtain ⟨x, e1, _, w1⟩ := DataW.trod_int Tryz.underlying32 h1
  simp only [List.cons.injEq, and_true] at e0 e1
  subst e0 e1
  have h2 := bounds_i64 w0
  have h3 := bounds_u64 w1
  refine ⟨u * 18446744073709551616 + x, ?_, by unfold InW; omega⟩
  rw [show vW (u * 18446744073709551616 + x) = .agg #[.int .i64 u, .int .u64 x] by
    unfold vW hi lo
    rw [show (u * 18446744073709551616 + x) / 18446744073709551616 = u by omega, show (u * 18446744073709551616 + x) % 18446744073709551616 = x by omega]]
end
end Go.Proofs.YtibdhpffdkiggaaGreat
