/- Slices of whole numbers: one that came in, one of the call's own that grows; loops and blocks. Own work. -/
import Derived.Test.YtdfkghpgekmmlaaL4
import Derived.Maps.AppendAt
import Derived.Laws.MakeOwn
namespace Go.Proofs.Ytdfkghpgekmmlaa
open Go.RowKit
set_option linter.unusedVariables false
set_option linter.unusedSimpArgs false

/-! ### code around -/
section
variable {P : Program} {Q : Exit → Act → World → Prop} {a : Act} {w : World}
theorem then_e {K : Act → World → Prop} {id : Nat} (h : Q (.exit id) a w) : Exit.then K Q (.exit id) a w := h
theorem blk_n {id : Nat} (h : Q .normal a w) : Exit.inBlock id Q .normal a w := h
theorem blk_ret {id : Nat} (h : Q .ret a w) : Exit.inBlock id Q .ret a w := h
theorem blk_x {id : Nat} (h : Q .normal a w) : Exit.inBlock id Q (.exit id) a w := by simp only [Exit.inBlock, if_true]; exact h
theorem blk_e {id id' : Nat} (hne : Nat.beq id' id = false) (h : Q (.exit id') a w) : Exit.inBlock id Q (.exit id') a w := by
  simp only [Exit.inBlock]
  rw [if_neg (fun e => by subst e; simp at hne)]
  exact h
variable {n : Nat} {w0 : World} {row ex : Option Nat} {Ψ Θ : World → Prop} {L : Slots} {M : List Ent}
theorem lk_map {L L' : Slots} (hL : L'.map (fun e => lk L e.1) = L'.map (fun e => some e.2)) {t : Nat} {v : Value} (h : lk L' t = some v) : lk L t = some v := by
  induction L' with
  | nil => cases h
  | cons e r ih =>
    simp only [List.map_cons, List.cons.injEq] at hL
    unfold lk at h
    by_cases he : Nat.beq e.1 t = true
    · rw [if_pos he] at h
      rw [← Nat.eq_of_beq_eq_true he, hL.1, h]
    · rw [if_neg he] at h
      exact ih hL.2 h
/-- the same slots, told otherwise -/
theorem Cur.re (h : Cur n w0 row ex Ψ Θ L M a w) {L' : Slots} (hL : L'.map (fun e => lk L e.1) = L'.map (fun e => some e.2)) : Cur n w0 row ex Ψ Θ L' M a w := ⟨h.sz, h.df, h.st, fun t v ht => h.sl t v (lk_map hL ht)⟩
theorem Cur.th (h : Cur n w0 row ex Ψ Θ L M a w) {Θ' : World → Prop} (hΘ : ∀ w, Θ w → Θ' w) : Cur n w0 row ex Ψ Θ' L M a w := ⟨h.sz, h.df, h.st.mono (fun _ h => h) hΘ, h.sl⟩
/-- the number in a slot -/
def sI (a : Act) (t : Tmp) : Int := intOf ((a.tmps[t]?).getD undef)
theorem sI_eq {t : Tmp} {k : IntKind} {z : Int} (h : a.tmps[t]? = some (.int k z)) : sI a t = z := by unfold sI; rw [h]; rfl
end

/-! ### a slice of numbers -/
abbrev vi (z : Int) : Value := .int .i64 z
/-- a slice that reads as ds -/
def Row (w : World) (v : Value) (ds : List Int) : Prop :=
  ∃ A c, v = .slice A ds.length c ∧ ds.length ≤ c ∧ ds.length ≤ 140737488351232 ∧ (ds.length = 0 ∨ ∃ (b off : Nat) (cur : Array Value) (fz : Nat × Nat), A = some ⟨b, off, none⟩ ∧ w.heap[b]? = some (Obj.cells cur 3 fz) ∧ ∀ i, i < ds.length → cur[off + i]? = some (vi (ds.getD i 0)))
theorem Row.keep {w w' : World} {v : Value} {ds : List Int} (h : Row w v ds) (hk : ∀ (b : Nat) (cur : Array Value) (fz : Nat × Nat), w.heap[b]? = some (Obj.cells cur 3 fz) → w'.heap[b]? = w.heap[b]?) : Row w' v ds := by
  obtain ⟨A, c, e, h1, h2, h3⟩ := h
  refine ⟨A, c, e, h1, h2, ?_⟩
  rcases h3 with h3 | ⟨b, off, cur, fz, hA, hb, hc⟩
  · exact .inl h3
  · exact .inr ⟨b, off, cur, fz, hA, by rw [hk b cur fz hb]; exact hb, hc⟩
theorem Row.grown {w w' : World} {v : Value} {ds : List Int} (h : Row w v ds) (hg : w.grownBy w' none) : Row w' v ds := h.keep (fun b cur fz hb => hg.block b (lt_of_some hb) (by simp))
theorem Row.below {w w' : World} {v : Value} {ds : List Int} (h : Row w v ds) (hg : Below w.heap.size w w') : Row w' v ds := h.keep (fun b cur fz hb => hg.block b (lt_of_some hb))
/-- what an element's cell holds -/
theorem Row.at {w : World} {A : Option Addr} {c : Nat} {ds : List Int} {l : Nat} (h : Row w (.slice A l c) ds) {i : Nat} (hi : i < ds.length) : ∃ b off, A = some ⟨b, off, none⟩ ∧ b < w.heap.size ∧ ∀ j, j < ds.length → w.cell? ⟨b, off + j, none⟩ = some (vi (ds.getD j 0)) := by
  obtain ⟨A', c', e, h1, h2, h3⟩ := h
  simp only [Value.slice.injEq] at e
  obtain ⟨rfl, rfl, rfl⟩ := e
  rcases h3 with h3 | ⟨b, off, cur, fz, hA, hb, hc⟩
  · omega
  · exact ⟨b, off, hA, lt_of_some hb, fun j hj => by simp [World.cell?, hb, hc j hj]⟩

/-! ### one of the call's own -/
def OwnR (w : World) (B : Nat) (v : Value) (ds : List Int) : Prop := w.ownsRow B 3 1 v ds.length (ds.map vi)
theorem OwnR.nil (w : World) (B : Nat) : OwnR w B (.slice none 0 0) [] := ⟨rfl, .inl ⟨rfl, rfl⟩⟩
theorem own_off {w : World} {M : Mem} {B : Nat} {v : Value} {ds : List Int} (h : ∀ w', Apart M none w w' → OwnR w' B v ds) {m : Nat} {e : Ent} (hm : M m = some e) : v.ownBlock ≠ some e.1 := by
  intro hv
  have h1 := h w (Apart.refl _ _ _)
  obtain ⟨_, h2⟩ := h1
  rcases h2 with ⟨rfl, _⟩ | ⟨g, cap, cur, rfl, hg, hh, _⟩
  · cases hv
  · simp only [Value.ownBlock, Option.some.injEq] at hv
    have hlt := lt_of_some hh
    have h3 := h { w with heap := w.heap.setIfInBounds g (.map #[] 0) } ⟨by simp, fun k hk hM _ => by
      show (w.heap.setIfInBounds g _)[k]? = _
      rw [Array.getElem?_setIfInBounds_ne (fun e' => hM m e hm (by rw [← hv, e']))]⟩
    obtain ⟨_, h4⟩ := h3
    rcases h4 with ⟨h4, _⟩ | ⟨g', cap', cur', h4, _, h5, _⟩
    · cases h4
    · simp only [Value.slice.injEq, Option.some.injEq, Addr.mk.injEq] at h4
      obtain ⟨⟨rfl, _⟩, _⟩ := h4
      have : (w.heap.setIfInBounds g (.map #[] 0))[g]? = some (.map #[] 0) := by rw [Array.getElem?_setIfInBounds_self_of_lt hlt]
      rw [show ({ w with heap := w.heap.setIfInBounds g (.map #[] 0) } : World).heap = w.heap.setIfInBounds g (.map #[] 0) from rfl, this] at h5
      cases h5
theorem OwnR.stab {w w' : World} {M : Mem} {B : Nat} {v : Value} {ds : List Int} (h : OwnR w B v ds) (hM : ∀ m e, M m = some e → v.ownBlock ≠ some e.1) (ha : Apart M none w w') : OwnR w' B v ds := by
  obtain ⟨h1, h2⟩ := h
  refine ⟨h1, ?_⟩
  rcases h2 with h2 | ⟨g, cap, cur, rfl, hg, hh, r⟩
  · exact .inl h2
  · refine .inr ⟨g, cap, cur, rfl, hg, ?_, r⟩
    rw [ha.2 g (lt_of_some hh) (fun m e hm e' => hM m e hm (by simp [Value.ownBlock, e'])) (by simp)]
    exact hh
/-- a block of the call's own row is turned, no other -/
theorem St.rowed {w0 w w' : World} {row ex : Option Nat} {M : Mem} {Ψ Θ : World → Prop} (h : St w0 row ex w M Ψ Θ) (hΨ : ∀ w, Ψ w) {v : Value} {ds : List Int} (hΘ : ∀ w', Apart M none w w' → OwnR w' w0.heap.size v ds) (hg : w.grownBy w' v.ownBlock) {v' : Value} {ds' : List Int} (ho : OwnR w' w0.heap.size v' ds') (hv : v'.ownBlock = v.ownBlock ∨ v'.ownBlock = some w.heap.size ∨ v'.ownBlock = none) (hex : ex = none) :
    St w0 row ex w' M Ψ (fun w => OwnR w w0.heap.size v' ds') := by
  have hM : ∀ m e, M m = some e → v.ownBlock ≠ some e.1 := fun m e hm => own_off hΘ hm
  have hM' : ∀ m e, M m = some e → v'.ownBlock ≠ some e.1 := fun m e hm => by
    rcases hv with hv | hv | hv
    · rw [hv]; exact hM m e hm
    · rw [hv]; have := h.lt hm; exact fun e' => by simp at e'; omega
    · rw [hv]; simp
  have hB : ∀ g, v.ownBlock = some g → w0.heap.size ≤ g := fun g hg' => by
    obtain ⟨_, h2⟩ := hΘ w (Apart.refl _ _ _)
    rcases h2 with ⟨rfl, _⟩ | ⟨g', _, _, rfl, hB, _⟩
    · cases hg'
    · simp only [Value.ownBlock, Option.some.injEq] at hg'; omega
  have h00 := h.gr.size
  refine ⟨grown_of h.gr hg.os hg.tape hg.output hg.size (fun k hk _ => hg.block k (by omega) (fun e => by have := hB k e.symm; omega)), h.nod, fun m e hm => ?_, fun g hg' => (by rw [hex] at hg'; cases hg'), fun w'' _ => hΨ w'', fun w'' hw => ho.stab hM' hw⟩
  rw [hg.block _ (h.lt hm) (fun e' => hM m e hm e'.symm)]
  exact h.own m e hm
/-- an append of one number -/
theorem s_app {Q : Exit → Act → World → Prop} {R : Reg} {i : Nat} {o : Oper} (ho : R.ops[i]? = some o) (hf : free R i = true) (hg : o.guard = none) {s x : Operand} (hop : o.op = .call { callee := .builtin .append, args := #[s, x], argTypes := #[44, 44] })
    (hV : R.v? i = some fun env => env i) (hF : R.F = []) (hΨ : ∀ w, R.Ψ w) (hex : R.ex = none) {v : Value} {ds : List Int} (hΘ : ∀ w, R.Θ w → OwnR w R.w0.heap.size v ds) (z : Int) (hth : R.th = some (i, fun env w => OwnR w R.w0.heap.size (env i) (ds ++ [z]))) (hlen : ds.length ≤ 1000000)
    (j m : Nat) {ow : Own} (hm : R.O[m]? = some ow) (hal : ow.al = some j) (hst : ow.st = none) (hc : ow.c0 = [vi z]) (hj : ((R.cl.getD i []).contains j && !(j == i)) = true)
    (hs : ∀ env, opAt R i env s = some v) (hx : ∀ {D env a w}, At R i D env a w → a.eval x = .slice (some ⟨pb env j, 0, none⟩) 1 1) : SR Try.prog Q R i :=
  s_th ho hf (fun {D env a w} hA K hK => by
    rw [if_pos (wanted_none hg _)]
    have hnD : D i = false := hA.i
    have ht0 : R.tht D env = R.Θ := by unfold Reg.tht; rw [hth]; simp [hnD]
    have hst0 := hA.j.st
    rw [ht0] at hst0
    have hT : ∀ w', Apart (R.mem D env) none w w' → OwnR w' R.w0.heap.size v ds := fun w' hw => hΘ w' (hst0.the w' hw)
    obtain ⟨i0, hi, hz0, hz1, hz2⟩ := info_parts (show (Try.prog.info? 3).map (fun i => (i.zero, i.size, i.bytes)) = some (some (.int .i64 0), 1, 8) by kernel_rfl)
    have hcell := hA.cells m hm (by rw [hal]; exact hj) (by rw [hst]; trivial)
    have hb : ow.blk env = pb env j := by unfold Own.blk; rw [hal]
    rw [hb, hc] at hcell
    obtain ⟨v', w', hr, h2, h3, _, h5⟩ := run_append_own_at (P := Try.prog) w R.w0.heap.size 44 o.type 3 i0 (.int .i64 0) 1 8 Try.underlying44 hi hz0 hz1 hz2 rfl (by decide) v ds.length (ds.map vi) (hT w (Apart.refl _ _ _)) ⟨pb env j, 0, none⟩ 1 1 [vi z] rfl
      (fun q u hq => by
        cases q with
        | zero => simp only [List.getElem?_cons_zero, Option.some.injEq] at hq; subst hq; exact own_cell hcell rfl
        | succ q => simp at hq) (fun u hu => by simp at hu; subst hu; rfl) (by unfold maxLen; omega) (by omega) hst0.gr.size
    have hrun : (execOp a.eval o).run Try.prog w = .ok (.value v') w' := by
      have e1 := hA.e (hs env)
      have e2 := hx hA
      unfold execOp
      simp [hop, resolve, Deferred.ofValue, invoke, builtin, e1, e2, hr]
    unfold Oper.wp
    rw [hrun]
    have hown : OwnR w' R.w0.heap.size v' (ds ++ [z]) := by unfold OwnR; rw [List.length_append, List.map_append]; exact h2
    have hself := cl_self hA.ok ho
    have key := hst0.rowed (fun w'' => ⟨hΨ w'', fun j hj => ⟨fun V hV => ((hA.j.fact hj).1 V hV), fun p hp => (by rw [hF] at hp; cases hp)⟩⟩) hT h3 hown (by rcases h5 with h | h; exact .inl h; exact .inr (.inl h)) hex
    refine hK v' w' ?_ (fun w'' _ => ⟨fun V' hV' => (by rw [hV] at hV'; obtain rfl := Option.some.inj hV'; rfl), fun p hp => (by rw [hF] at hp; cases hp)⟩)
    have ht1 : R.tht (upB D i) (upd env i v') = fun w => OwnR w R.w0.heap.size v' (ds ++ [z]) := by
      unfold Reg.tht
      rw [hth]
      simp only [upB_self, if_true]
      funext w''
      have : restr (R.cl.getD i []) (upd env i v') i = v' := by unfold restr upd; rw [if_pos (List.contains_iff_mem.2 hself), if_pos rfl]
      rw [this]
    rw [ht1]
    exact key)
end Go.Proofs.Ytdfkghpgekmmlaa
