/- Facts that stand by the types of their blocks; slices of elements of k cells; rows of such that the call grows and writes. Own work. -/
import Derived.Test.YtdfkghpgekmmlaaL10
namespace Go.Proofs.Ytdfkghpgekmmlaa
open Go.RowKit
set_option linter.unusedVariables false
set_option linter.unusedSimpArgs false

/-! ### standing by types -/
/-- blocks of these types are as they were, off ex -/
def KeepT (Ts : List TypeId) (ex : Option Nat) (w w' : World) : Prop := ∀ (b : Nat) (cur : Array Value) (T : TypeId) (fz : Nat × Nat), w.heap[b]? = some (Obj.cells cur T fz) → Ts.contains T = true → ex ≠ some b → w'.heap[b]? = w.heap[b]?
def tFree (Ts : List TypeId) (R : Reg) : Bool := R.O.all fun o => !(Ts.contains o.T)
theorem apart_keepT {Ts : List TypeId} {R : Reg} {D : Nat → Bool} {env : Env} {w w' : World} {Ψ Θ : World → Prop} (hi : tFree Ts R = true) (hst : St R.w0 R.row R.ex w (R.mem D env) Ψ Θ) {ex : Option Nat} (hex : ex = R.ex ∨ ex = none) (h : Apart (R.mem D env) ex w w') : KeepT Ts R.ex w w' := by
  intro b cur T fz hb hT hx
  refine h.2 b (lt_of_some hb) (fun m e hm he => ?_) (by rcases hex with h | h; rw [h]; exact hx; rw [h]; simp)
  have h1 := (hst.own m e hm).2
  rw [he, hb] at h1
  simp only [Option.some.injEq, Obj.cells.injEq] at h1
  unfold Reg.mem at hm
  cases ho : R.O[m]? with
  | none => simp only [ho] at hm; cases hm
  | some o =>
    simp only [ho] at hm
    split at hm
    · have h2 := List.all_eq_true.1 hi o (List.mem_of_getElem? ho)
      rw [← Option.some.inj hm] at h1
      simp only at h1
      rw [← h1.2.1, hT] at h2
      cases h2
    · cases hm
section
variable {P : Program} {R : Reg} {Q : Exit → Act → World → Prop} {i : Nat} {o : Oper}
/-- a call of whose value a fact is told that stands by types -/
theorem s_factT (ho : R.ops[i]? = some o) (hf : free' R i = true) {f : FuncId} {fn : Func} {ps : Array Operand} {ts : Array TypeId} (hop : o.op = .call { callee := .value (.func f), args := ps, argTypes := ts })
    (hfn : P.funcs[f]? = some fn) (hname : (fn.name == "runtime.NumGoroutine") = false) (hb : fn.body.isSome = true) (hw : ∀ {D env a w}, At R i D env a w → Region.wanted o (yielded R.ops a.tmps) = true) (φ : Value → World → Prop) (form : Value → Value) (hV : R.v? i = some fun env => form (env i)) (hF : R.F.filter (fun p => Nat.beq p.1 i) = [(i, fun env w => φ (env i) w)])
    (Ts : List TypeId) (hint : tFree Ts R = true) (hφ : ∀ v w, φ v w → v = form v) (hst : ∀ v w w', KeepT Ts R.ex w w' → φ v w → φ v w')
    (h : ∀ {D env a w}, At R i D env a w → ∃ args, ps.map a.eval = args ∧ Calls P f args w fun e w' => ∃ v, e = .returned v ∧ Below w.heap.size w w' ∧ φ v w') : SR P Q R i :=
  s_callx ho hf hop hfn hname hb (fun hA => by
    obtain ⟨args, ha, hc⟩ := h hA
    refine ⟨hw hA, args, ha, hc.mono ?_⟩
    rintro e w' ⟨v, rfl, hb, h3⟩
    have hs' := hA.j.st.call hb
    exact ⟨v, rfl, hs', fun w'' ha => f_fact hV hφ hF hA.ok ho (hst v _ _ (apart_keepT hint hs' (.inl rfl) ha) h3)⟩)
end

/-! ### slices of elements of k cells -/
/-- n elements of k cells in a block whose cells are those of f -/
def RowU (w : World) (v : Value) (n k : Nat) (f : Nat → Value) : Prop :=
  ∃ A c, v = .slice A n c ∧ n ≤ c ∧ n ≤ 9223372036854775807 ∧ (n = 0 ∨ ∃ (b off : Nat) (T : TypeId) (cur : Array Value) (fz : Nat × Nat), A = some ⟨b, off, none⟩ ∧ w.heap[b]? = some (Obj.cells cur T fz) ∧ ∀ i, i < n * k → cur[off + i]? = some (f i))
/-- .. of type T -/
def RowT (T : TypeId) (w : World) (v : Value) (n k : Nat) (f : Nat → Value) : Prop :=
  ∃ A c, v = .slice A n c ∧ n ≤ c ∧ n ≤ 9223372036854775807 ∧ (n = 0 ∨ ∃ (b off : Nat) (cur : Array Value) (fz : Nat × Nat), A = some ⟨b, off, none⟩ ∧ w.heap[b]? = some (Obj.cells cur T fz) ∧ ∀ i, i < n * k → cur[off + i]? = some (f i))
section
variable {w w' : World} {v : Value} {n k : Nat} {f : Nat → Value} {T : TypeId}
theorem RowU.els (h : RowU w v n k f) : Els w v n k f := by
  obtain ⟨A, c, rfl, h1, h2, h3⟩ := h
  refine ⟨A, c, rfl, h1, ?_⟩
  rcases h3 with h3 | ⟨b, off, T, cur, fz, hA, hb, hc⟩
  · exact .inl h3
  · exact .inr ⟨b, off, hA, fun i hi => by simp [World.cell?, hb, hc i hi]⟩
theorem RowT.u (h : RowT T w v n k f) : RowU w v n k f := by
  obtain ⟨A, c, rfl, h1, h2, h3⟩ := h
  refine ⟨A, c, rfl, h1, h2, ?_⟩
  rcases h3 with h3 | ⟨b, off, cur, fz, hA, hb, hc⟩
  · exact .inl h3
  · exact .inr ⟨b, off, T, cur, fz, hA, hb, hc⟩
theorem RowT.els (h : RowT T w v n k f) : Els w v n k f := h.u.els
theorem RowU.keep (h : RowU w v n k f) (hk : ∀ b, b < w.heap.size → w'.heap[b]? = w.heap[b]?) : RowU w' v n k f := by
  obtain ⟨A, c, e, h1, h2, h3⟩ := h
  refine ⟨A, c, e, h1, h2, ?_⟩
  rcases h3 with h3 | ⟨b, off, T, cur, fz, hA, hb, hc⟩
  · exact .inl h3
  · exact .inr ⟨b, off, T, cur, fz, hA, by rw [hk b (lt_of_some hb)]; exact hb, hc⟩
theorem RowU.grown (h : RowU w v n k f) (hg : w.grownBy w' none) : RowU w' v n k f := h.keep (fun b hb => hg.block b hb (by simp))
theorem RowU.below (h : RowU w v n k f) (hg : Below w.heap.size w w') : RowU w' v n k f := h.keep (fun b hb => hg.block b hb)
theorem RowT.keep (h : RowT T w v n k f) {Ts : List TypeId} (hT : Ts.contains T = true) {ex : Option Nat} (hk : KeepT Ts ex w w') (hx : ∀ b, ex = some b → v.ownBlock ≠ some b) : RowT T w' v n k f := by
  obtain ⟨A, c, rfl, h1, h2, h3⟩ := h
  refine ⟨A, c, rfl, h1, h2, ?_⟩
  rcases h3 with h3 | ⟨b, off, cur, fz, rfl, hb, hc⟩
  · exact .inl h3
  · exact .inr ⟨b, off, cur, fz, rfl, by rw [hk b cur T fz hb hT (fun e => hx b e rfl)]; exact hb, hc⟩
theorem RowT.grown (h : RowT T w v n k f) (hg : w.grownBy w' none) : RowT T w' v n k f := by
  obtain ⟨A, c, rfl, h1, h2, h3⟩ := h
  refine ⟨A, c, rfl, h1, h2, ?_⟩
  rcases h3 with h3 | ⟨b, off, cur, fz, rfl, hb, hc⟩
  · exact .inl h3
  · exact .inr ⟨b, off, cur, fz, rfl, by rw [hg.block b (lt_of_some hb) (by simp)]; exact hb, hc⟩
theorem RowU.form (h : RowU w v n k f) : v = .slice (sA v) n (sC v) := by obtain ⟨A, c, rfl, _⟩ := h; rfl
theorem RowT.form (h : RowT T w v n k f) : v = .slice (sA v) n (sC v) := h.u.form
theorem RowU.re (h : RowU w v n k f) : RowU w (.slice (sA v) n (sC v)) n k f := by rw [← h.form]; exact h
theorem RowT.re (h : RowT T w v n k f) : RowT T w (.slice (sA v) n (sC v)) n k f := by rw [← h.form]; exact h
end

/-! ### a row of the call's own, of elements of k cells of type T -/
def OwnK (T : TypeId) (k : Nat) (w : World) (B : Nat) (v : Value) (n : Nat) (cs : List Value) : Prop := w.ownsRow B T k v n cs
section
variable {T : TypeId} {k : Nat} {w w' : World} {B : Nat} {v : Value} {n : Nat} {cs : List Value}
theorem OwnK.nil (w : World) (B : Nat) : OwnK T k w B (.slice none 0 0) 0 [] := ⟨by simp, .inl ⟨rfl, rfl⟩⟩
theorem own_offK {M : Mem} (h : ∀ w', Apart M none w w' → OwnK T k w' B v n cs) {m : Nat} {e : Ent} (hm : M m = some e) : v.ownBlock ≠ some e.1 := by
  intro hv
  have h1 := h w (Apart.refl _ _ _)
  obtain ⟨_, h2⟩ := h1
  rcases h2 with ⟨rfl, _⟩ | ⟨g, cap, cur, rfl, hg, hh, _⟩
  · cases hv
  · simp only [Value.ownBlock, Option.some.injEq] at hv
    have hlt := lt_of_some hh
    have h3 := h { w with heap := w.heap.setIfInBounds g (.map #[] 0) } ⟨by simp, fun k hk hM _ => by
      show (w.heap.setIfInBounds g _)[k]? = _
      rw [Array.getElem?_setIfInBounds_ne (fun e' => hM m e hm (by rw [← hv, e']))]⟩
    obtain ⟨_, h4⟩ := h3
    rcases h4 with ⟨h4, _⟩ | ⟨g', cap', cur', h4, _, h5, _⟩
    · cases h4
    · simp only [Value.slice.injEq, Option.some.injEq, Addr.mk.injEq] at h4
      obtain ⟨⟨rfl, _⟩, _⟩ := h4
      have : (w.heap.setIfInBounds g (.map #[] 0))[g]? = some (.map #[] 0) := by rw [Array.getElem?_setIfInBounds_self_of_lt hlt]
      rw [show ({ w with heap := w.heap.setIfInBounds g (.map #[] 0) } : World).heap = w.heap.setIfInBounds g (.map #[] 0) from rfl, this] at h5
      cases h5
theorem OwnK.stab {M : Mem} (h : OwnK T k w B v n cs) (hM : ∀ m e, M m = some e → v.ownBlock ≠ some e.1) (ha : Apart M none w w') : OwnK T k w' B v n cs := by
  obtain ⟨h1, h2⟩ := h
  refine ⟨h1, ?_⟩
  rcases h2 with h2 | ⟨g, cap, cur, rfl, hg, hh, r⟩
  · exact .inl h2
  · refine .inr ⟨g, cap, cur, rfl, hg, ?_, r⟩
    rw [ha.2 g (lt_of_some hh) (fun m e hm e' => hM m e hm (by simp [Value.ownBlock, e'])) (by simp)]
    exact hh
theorem OwnK.rowT (h : OwnK T k w B v n cs) (hn : n ≤ 140737488351232) {f : Nat → Value} (hf : ∀ i, i < n * k → cs[i]? = some (f i)) : RowT T w v n k f := by
  obtain ⟨h1, h2⟩ := h
  rcases h2 with ⟨rfl, rfl⟩ | ⟨g, cap, cur, rfl, hg, hh, hnc, hcm, hcs, ht⟩
  · exact ⟨none, 0, rfl, Nat.le_refl _, by omega, .inl rfl⟩
  · refine ⟨_, cap, rfl, hnc, by omega, .inr ⟨g, 0, cur, _, rfl, hh, fun i hi => ?_⟩⟩
    have := hf i hi
    rw [← ht, List.getElem?_take, if_pos hi] at this
    simpa using this
theorem St.rowedK {w0 w w' : World} {row ex : Option Nat} {M : Mem} {Ψ Θ : World → Prop} (h : St w0 row ex w M Ψ Θ) (hΨ : ∀ w, Ψ w) {v : Value} {n : Nat} {cs : List Value} (hΘ : ∀ w', Apart M none w w' → OwnK T k w' w0.heap.size v n cs) (hg : w.grownBy w' v.ownBlock) {v' : Value} {n' : Nat} {cs' : List Value} (ho : OwnK T k w' w0.heap.size v' n' cs') (hv : v'.ownBlock = v.ownBlock ∨ v'.ownBlock = some w.heap.size ∨ v'.ownBlock = none) (hex : ex = none) :
    St w0 row ex w' M Ψ (fun w => OwnK T k w w0.heap.size v' n' cs') := by
  have hM : ∀ m e, M m = some e → v.ownBlock ≠ some e.1 := fun m e hm => own_offK hΘ hm
  have hM' : ∀ m e, M m = some e → v'.ownBlock ≠ some e.1 := fun m e hm => by
    rcases hv with hv | hv | hv
    · rw [hv]; exact hM m e hm
    · rw [hv]; have := h.lt hm; exact fun e' => by simp at e'; omega
    · rw [hv]; simp
  have hB : ∀ g, v.ownBlock = some g → w0.heap.size ≤ g := fun g hg' => by
    obtain ⟨_, h2⟩ := hΘ w (Apart.refl _ _ _)
    rcases h2 with ⟨rfl, _⟩ | ⟨g', _, _, rfl, hB, _⟩
    · cases hg'
    · simp only [Value.ownBlock, Option.some.injEq] at hg'; omega
  have h00 := h.gr.size
  refine ⟨grown_of h.gr hg.os hg.tape hg.output hg.size (fun k hk _ => hg.block k (by omega) (fun e => by have := hB k e.symm; omega)), h.nod, fun m e hm => ?_, fun g hg' => (by rw [hex] at hg'; cases hg'), fun w'' _ => hΨ w'', fun w'' hw => ho.stab hM' hw⟩
  rw [hg.block _ (h.lt hm) (fun e' => hM m e hm e'.symm)]
  exact h.own m e hm
end
section
variable {R : Reg} {Q : Exit → Act → World → Prop} {i : Nat} {o : Oper}
/-- an append of one element of k cells -/
theorem s_appK (ho : R.ops[i]? = some o) (hf : free R i = true) (hg : o.guard = none) {s x : Operand} {TS T : TypeId} (hop : o.op = .call { callee := .builtin .append, args := #[s, x], argTypes := #[TS, TS] }) (hTS : Try.prog.underlying TS = some (.slice T)) {k by' : Nat} {z : Value} (hinfo : (Try.prog.info? T).map (fun i => (i.zero, i.size, i.bytes)) = some (some z, k, by')) (hzk : z.cells.size = k) (hk0 : 0 < k) (hby : by' ≤ 1000)
    (hV : R.v? i = some fun env => env i) (hF : R.F = []) (hΨ : ∀ w, R.Ψ w) (hex : R.ex = none) {v : Value} {n : Nat} {ds : List Value} (hΘ : ∀ w, R.Θ w → OwnK T k w R.w0.heap.size v n ds) (zs : List Value) (hzs : zs.length = k) (h1c : ∀ u ∈ zs, u.oneCell' = true) (hth : R.th = some (i, fun env w => OwnK T k w R.w0.heap.size (env i) (n + 1) (ds ++ zs))) (hlen : n ≤ 1000000)
    (j m : Nat) {ow : Own} (hm : R.O[m]? = some ow) (hal : ow.al = some j) (hst : ow.st = none) (hc : ow.c0 = zs) (hj : ((R.cl.getD i []).contains j && !(j == i)) = true)
    (hs : ∀ env, opAt R i env s = some v) (hx : ∀ {D env a w}, At R i D env a w → a.eval x = .slice (some ⟨pb env j, 0, none⟩) 1 1) : SR Try.prog Q R i :=
  s_th ho hf (fun {D env a w} hA K hK => by
    rw [if_pos (wanted_none hg _)]
    have hnD : D i = false := hA.i
    have ht0 : R.tht D env = R.Θ := by unfold Reg.tht; rw [hth]; simp [hnD]
    have hst0 := hA.j.st
    rw [ht0] at hst0
    have hT : ∀ w', Apart (R.mem D env) none w w' → OwnK T k w' R.w0.heap.size v n ds := fun w' hw => hΘ w' (hst0.the w' hw)
    obtain ⟨i0, hi, hz0, hz1, hz2⟩ := info_parts hinfo
    have hcell := hA.cells m hm (by rw [hal]; exact hj) (by rw [hst]; trivial)
    have hb : ow.blk env = pb env j := by unfold Own.blk; rw [hal]
    rw [hb, hc] at hcell
    obtain ⟨v', w', hr, h2, h3, _, h5⟩ := run_append_own_at (P := Try.prog) w R.w0.heap.size TS o.type T i0 z k by' hTS hi hz0 hz1 hz2 hzk hk0 v n ds (hT w (Apart.refl _ _ _)) ⟨pb env j, 0, none⟩ 1 1 zs (by rw [hzs, Nat.one_mul])
      (fun q u hq => by
        have h9 := own_cell hcell hq
        have e9 : ((⟨pb env j, 0, none⟩ : Addr).add q) = ⟨pb env j, q, none⟩ := by unfold Addr.add; split <;> simp_all
        rw [e9]; exact h9) h1c (by unfold maxLen; omega) (by
          have : (n + 1) * by' ≤ 1000001 * 1000 := Nat.mul_le_mul (by omega) hby
          omega) hst0.gr.size
    have hrun : (execOp a.eval o).run Try.prog w = .ok (.value v') w' := by
      have e1 := hA.e (hs env)
      have e2 := hx hA
      unfold execOp
      simp [hop, resolve, Deferred.ofValue, invoke, builtin, e1, e2, hr]
    unfold Oper.wp
    rw [hrun]
    have hown : OwnK T k w' R.w0.heap.size v' (n + 1) (ds ++ zs) := h2
    have hself := cl_self hA.ok ho
    have key := hst0.rowedK (fun w'' => ⟨hΨ w'', fun j hj => ⟨fun V hV => ((hA.j.fact hj).1 V hV), fun p hp => (by rw [hF] at hp; cases hp)⟩⟩) hT h3 hown (by rcases h5 with h | h; exact .inl h; exact .inr (.inl h)) hex
    refine hK v' w' ?_ (fun w'' _ => ⟨fun V' hV' => (by rw [hV] at hV'; obtain rfl := Option.some.inj hV'; rfl), fun p hp => (by rw [hF] at hp; cases hp)⟩)
    have ht1 : R.tht (upB D i) (upd env i v') = fun w => OwnK T k w R.w0.heap.size v' (n + 1) (ds ++ zs) := by
      unfold Reg.tht
      rw [hth]
      simp only [upB_self, if_true]
      funext w''
      have : restr (R.cl.getD i []) (upd env i v') i = v' := by unfold restr upd; rw [if_pos (List.contains_iff_mem.2 hself), if_pos rfl]
      rw [this]
    rw [ht1]
    exact key)
/-- cells are stored into the call's row -/
theorem s_srK (ho : R.ops[i]? = some o) (hf : free R i = true) (hg : o.guard = none) {T' : TypeId} {x y : Operand} (hop : o.op = .store T' x y) (hV : R.v? i = none) (hF : noF R i = true) {g n c : Nat} {T : TypeId} {k : Nat} {ds ds' : List Value} (hex : R.ex = some g) (hΘ : ∀ w, R.Θ w → OwnK T k w R.w0.heap.size (.slice (some ⟨g, 0, none⟩) n c) n ds)
    (q : Nat) (hth : R.th = some (i, fun _ w => OwnK T k w R.w0.heap.size (.slice (some ⟨g, 0, none⟩) n c) n ds')) {v : Value} (hx : ∀ env, opAt R i env x = some (vP g q)) (hy : ∀ env, opAt R i env y = some v) (hl : ds'.length = ds.length)
    (hst : ∀ (cs : List Value) (w : World), (∀ (p : Nat) (u : Value), ds[p]? = some u → cs[p]? = some u) → w.heap[g]? = some (.cells cs.toArray T (0, 0)) → ∃ (cs' : List Value) (w' : World), (Instr.storeAt T' (vP g q) v).run Try.prog w = .ok () w' ∧ Put w w' g (.cells cs'.toArray T (0, 0)) ∧ cs'.length = cs.length ∧ cs'.take (n * k) = ds') : SR Try.prog Q R i :=
  s_th ho hf (fun {D env a w} hA K hK => by
    rw [if_pos (wanted_none hg _)]
    have hnD : D i = false := hA.i
    have ht0 : R.tht D env = R.Θ := by unfold Reg.tht; rw [hth]; simp [hnD]
    have hst0 := hA.j.st
    rw [ht0] at hst0
    have hO := hΘ w hst0.nowT
    obtain ⟨hO1, hO2⟩ := hO
    rcases hO2 with ⟨hO2, _⟩ | ⟨g', cap, cur, hv, hB, hh, hn, hc, hs, ht⟩
    · cases hO2
    simp only [Value.slice.injEq, Option.some.injEq, Addr.mk.injEq, and_true, true_and] at hv
    obtain ⟨rfl, rfl⟩ := hv
    obtain ⟨cs', w', hr, hp, hcl, hct⟩ := hst cur.toList w (fun p u hu => by
      rw [← ht, List.getElem?_take] at hu
      split at hu
      · exact hu
      · cases hu) (by rw [Array.toArray_toList]; exact hh)
    have hrun : (execOp a.eval o).run Try.prog w = .ok .skip w' := by
      have e1 := hA.e (hx env)
      have e2 := hA.e (hy env)
      unfold execOp
      simp only [vP] at e1 hr
      simp [hop, e1, e2, hr]
    unfold Oper.wp
    rw [hrun]
    have hown : OwnK T k w' R.w0.heap.size (.slice (some ⟨g, 0, none⟩) n c) n ds' :=
      ⟨by rw [hl]; exact hO1, .inr ⟨g, c, _, rfl, hB, hp.here, hn, hc, by simpa [hcl] using hs, by simpa using hct⟩⟩
    have hgb : w.grownBy w' (some g) := ⟨hp.os, hp.tape, hp.output, by rw [hp.size]; exact Nat.le_refl _, fun k _ hk => hp.off k (fun e => hk (by rw [e]))⟩
    have hM : ∀ m e, R.mem D env m = some e → (Value.slice (some ⟨g, 0, none⟩) n c).ownBlock ≠ some e.1 := fun m e hm e' => by
      simp only [Value.ownBlock, Option.some.injEq] at e'
      exact (hst0.exb g hex).2.1 m e hm e'.symm
    refine hK undef w' ?_ (fun w'' _ => f_none hV hF _ w'')
    have ht1 : R.tht (upB D i) (upd env i undef) = fun w'' => OwnK T k w'' R.w0.heap.size (.slice (some ⟨g, 0, none⟩) n c) n ds' := by
      unfold Reg.tht
      rw [hth]
      simp only [upB_self, if_true]
    rw [ht1]
    exact hst0.callg hex hgb (fun w'' ha => hown.stab hM ha))
end
theorem Cur.exInK {n : Nat} {w0 : World} {Θ : World → Prop} {L : Slots} {M : List Ent} {a : Act} {w : World} {T : TypeId} {k g m c : Nat} {ds : List Value} (h : Cur n w0 none none (Facts []) Θ L M a w) (hΘ : ∀ w, Θ w → OwnK T k w w0.heap.size (.slice (some ⟨g, 0, none⟩) m c) m ds) : Cur n w0 none (some g) (Facts []) Θ L M a w := by
  refine ⟨h.sz, h.df, ⟨h.st.gr, h.st.nod, h.st.own, fun g' hg' => ?_, fun _ _ φ hφ => (by cases hφ), h.st.the⟩, h.sl⟩
  obtain rfl := Option.some.inj hg'
  have h1 := hΘ w h.st.nowT
  have h2 := h1.lt g rfl
  exact ⟨h2.2, fun m e hm he => own_offK (fun w' ha => hΘ w' (h.st.the w' ha)) hm (by rw [he]; rfl), .inl h2.1⟩
end Go.Proofs.Ytdfkghpgekmmlaa
