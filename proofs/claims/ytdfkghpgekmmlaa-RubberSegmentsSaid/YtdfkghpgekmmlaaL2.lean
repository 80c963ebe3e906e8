/- The call's own variables in memory; the standing relation of a region; a step lemma for each kind of operation. Own work: it serves all walks that gen.py prints. -/
import Derived.Test.YtdfkghpgekmmlaaL1
namespace Go.Proofs.Ytdfkghpgekmmlaa
open Go.RowKit
set_option linter.unusedVariables false
set_option linter.unusedSimpArgs false

abbrev Env := Nat → Value
abbrev Ent := Nat × TypeId × List Value
def upd (env : Env) (i : Nat) (v : Value) : Env := fun j => if j = i then v else env j
def restr (d : List Nat) (env : Env) : Env := fun j => if d.contains j then env j else undef
theorem restr_upd {d : List Nat} {env : Env} {i : Nat} {v : Value} (h : i ∉ d) : restr d (upd env i v) = restr d env := by
  funext j
  unfold restr upd
  split
  · rename_i hj
    rw [if_neg (fun e => h (by rw [← e]; exact List.contains_iff_mem.1 hj))]
  · rfl

/-! ### variables in memory -/
/-- one block is written, nothing else -/
structure Put (w w' : World) (b : Nat) (o : Obj) : Prop where
  os : w'.os = w.os
  tape : w'.tape = w.tape
  output : w'.output = w.output
  size : w'.heap.size = w.heap.size
  here : w'.heap[b]? = some o
  off : ∀ k, k ≠ b → w'.heap[k]? = w.heap[k]?
theorem Put.refl {w : World} {b : Nat} {o : Obj} (h : w.heap[b]? = some o) : Put w w b o := ⟨rfl, rfl, rfl, rfl, h, fun _ _ => rfl⟩
theorem Put.set {w w' : World} {b : Nat} {T : TypeId} {cs cs' : List Value} (h : Put w w' b (.cells cs.toArray T (0, 0))) (o : Nat) (v : Value) (e : cs.set o v = cs') : Put w (w'.setCell ⟨b, o, none⟩ v) b (.cells cs'.toArray T (0, 0)) := by
  refine ⟨h.os, h.tape, h.output, by simp [World.setCell, h.size], ?_, fun k hk => ?_⟩
  · have := h.here
    simp only [World.setCell, Array.getElem?_modify, if_true, this, Option.map_some]
    rw [← e]
    simp
  · rw [Below.heap_setCell _ _ _ _ hk]; exact h.off k hk
theorem own_cell {w : World} {b o : Nat} {T : TypeId} {cs : List Value} {v : Value} (h : w.heap[b]? = some (.cells cs.toArray T (0, 0))) (e : cs[o]? = some v) : w.cell? ⟨b, o, none⟩ = some v := by
  simp [World.cell?, h, e]
theorem own_frozen {w : World} {b o : Nat} {T : TypeId} {cs : List Value} (h : w.heap[b]? = some (.cells cs.toArray T (0, 0))) : w.frozen? ⟨b, o, none⟩ = false := by
  simp [World.frozen?, h]

abbrev Mem := Nat → Option Ent
def mem (L : List Ent) : Mem := fun m => L[m]?
/-- what was there is as it was, off M's blocks (and off ex) -/
def Apart (M : Mem) (ex : Option Nat) (w w' : World) : Prop := w.heap.size ≤ w'.heap.size ∧ ∀ k, k < w.heap.size → (∀ m e, M m = some e → e.1 ≠ k) → ex ≠ some k → w'.heap[k]? = w.heap[k]?
structure St (w0 : World) (row ex : Option Nat) (w : World) (M : Mem) (Ψ Θ : World → Prop) : Prop where
  gr : w0.grownBy w row
  nod : ∀ m m' e e', M m = some e → M m' = some e' → m ≠ m' → e.1 ≠ e'.1
  own : ∀ m e, M m = some e → w0.heap.size ≤ e.1 ∧ w.heap[e.1]? = some (.cells e.2.2.toArray e.2.1 (0, 0))
  exb : ∀ g, ex = some g → g < w.heap.size ∧ (∀ m e, M m = some e → e.1 ≠ g) ∧ (w0.heap.size ≤ g ∨ row = some g)
  psi : ∀ w', Apart M ex w w' → Ψ w'
  the : ∀ w', Apart M none w w' → Θ w'
theorem lt_of_some {w : World} {b : Nat} {o : Obj} (h : w.heap[b]? = some o) : b < w.heap.size := (Array.getElem?_eq_some_iff.1 h).1
section
variable {w0 w w' : World} {row ex : Option Nat} {M M' : Mem} {Ψ Θ : World → Prop}
theorem Apart.refl (M : Mem) (ex : Option Nat) (w : World) : Apart M ex w w := ⟨Nat.le_refl _, fun _ _ _ _ => rfl⟩
theorem St.now (h : St w0 row ex w M Ψ Θ) : Ψ w := h.psi w (Apart.refl _ _ _)
theorem St.nowT (h : St w0 row ex w M Ψ Θ) : Θ w := h.the w (Apart.refl _ _ _)
theorem St.lt (h : St w0 row ex w M Ψ Θ) {m : Nat} {e : Ent} (hm : M m = some e) : e.1 < w.heap.size := lt_of_some (h.own m e hm).2
theorem grown_trans {a b c : World} {row : Option Nat} (h : a.grownBy b row) (k : b.grownBy c row) : a.grownBy c row :=
  ⟨k.os.trans h.os, k.tape.trans h.tape, k.output.trans h.output, Nat.le_trans h.size k.size, fun i hi hr => (k.block i (Nat.lt_of_lt_of_le hi h.size) hr).trans (h.block i hi hr)⟩
theorem grown_of {a b c : World} {row : Option Nat} (h : a.grownBy b row) (hos : c.os = b.os) (ht : c.tape = b.tape) (ho : c.output = b.output) (hs : b.heap.size ≤ c.heap.size) (hb : ∀ k, k < a.heap.size → some k ≠ row → c.heap[k]? = b.heap[k]?) : a.grownBy c row :=
  ⟨hos.trans h.os, ht.trans h.tape, ho.trans h.output, Nat.le_trans h.size hs, fun i hi hr => (hb i hi hr).trans (h.block i hi hr)⟩
theorem St.mono (h : St w0 row ex w M Ψ Θ) {Ψ' Θ' : World → Prop} (h1 : ∀ w', Ψ w' → Ψ' w') (h2 : ∀ w', Θ w' → Θ' w') : St w0 row ex w M Ψ' Θ' := ⟨h.gr, h.nod, h.own, h.exb, fun w' hw => h1 w' (h.psi w' hw), fun w' hw => h2 w' (h.the w' hw)⟩
theorem St.ext (h : St w0 row ex w M Ψ Θ) (e : ∀ m, M' m = M m) : St w0 row ex w M' Ψ Θ := by rw [funext e]; exact h
/-- one fact more -/
theorem St.add (h : St w0 row ex w M Ψ Θ) {φ : World → Prop} (hφ : ∀ w', Apart M ex w w' → φ w') : St w0 row ex w M (fun w => Ψ w ∧ φ w) Θ := ⟨h.gr, h.nod, h.own, h.exb, fun w' hw => ⟨h.psi w' hw, hφ w' hw⟩, h.the⟩
theorem St.same (h : St w0 row ex w M Ψ Θ) (hh : w'.heap = w.heap) (h1 : w'.os = w.os) (h2 : w'.tape = w.tape) (h3 : w'.output = w.output) : St w0 row ex w' M Ψ Θ :=
  ⟨grown_of h.gr h1 h2 h3 (by rw [hh]; exact Nat.le_refl _) (fun k _ _ => by rw [hh]), h.nod, fun m e hm => by rw [hh]; exact h.own m e hm, fun g hg => by rw [hh]; exact h.exb g hg,
    fun w'' hw => h.psi w'' (by unfold Apart at *; rw [hh] at hw; exact hw), fun w'' hw => h.the w'' (by unfold Apart at *; rw [hh] at hw; exact hw)⟩
theorem St.drew (h : St w0 row ex w M Ψ Θ) : St w0 row ex w.drew M Ψ Θ := h.same rfl rfl rfl rfl
theorem St.alloc (h : St w0 row ex w M Ψ Θ) {m0 : Nat} {T : TypeId} {cs : List Value} (hn : M m0 = none) (h0 : M' m0 = some (w.heap.size, T, cs)) (hM : ∀ m, m ≠ m0 → M' m = M m) :
    St w0 row ex (w.alloc (.cells cs.toArray T (0, 0))) M' Ψ Θ := by
  have hs : (w.alloc (.cells cs.toArray T (0, 0))).heap.size = w.heap.size + 1 := by simp
  have hk : ∀ k, k < w.heap.size → (w.alloc (.cells cs.toArray T (0, 0))).heap[k]? = w.heap[k]? := fun k hk => Below.heap_alloc _ _ _ hk
  have h00 := h.gr.size
  have look : ∀ m e, M' m = some e → (m = m0 ∧ e = (w.heap.size, T, cs)) ∨ (m ≠ m0 ∧ M m = some e) := fun m e hm => by
    by_cases hmm : m = m0
    · subst hmm; rw [h0] at hm; exact .inl ⟨rfl, (Option.some.inj hm).symm⟩
    · rw [hM m hmm] at hm; exact .inr ⟨hmm, hm⟩
  have ap : ∀ {ex' : Option Nat} {w' : World}, Apart M' ex' (w.alloc (.cells cs.toArray T (0, 0))) w' → Apart M ex' w w' := fun {ex' w'} ⟨hw1, hw2⟩ => ⟨by omega, fun k hkl hM2 hx => by
    refine (hw2 k (by omega) (fun m e hm => ?_) hx).trans (hk k hkl)
    rcases look m e hm with ⟨_, rfl⟩ | ⟨_, h1⟩
    · exact fun h => by simp at h; omega
    · exact hM2 m e h1⟩
  refine ⟨grown_of h.gr rfl rfl rfl (by omega) (fun k hk1 _ => hk k (by omega)), fun m m' e e' hm hm' hne => ?_, fun m e hm => ?_, fun g hg => ?_, fun w' hw => h.psi w' (ap hw), fun w' hw => h.the w' (ap hw)⟩
  · rcases look m e hm with ⟨rfl, rfl⟩ | ⟨h1, h2⟩ <;> rcases look m' e' hm' with ⟨rfl, rfl⟩ | ⟨h3, h4⟩
    · exact absurd rfl hne
    · have := h.lt h4; exact fun h => by simp at h; omega
    · have := h.lt h2; exact fun h => by simp at h; omega
    · exact h.nod m m' e e' h2 h4 hne
  · rcases look m e hm with ⟨rfl, rfl⟩ | ⟨h1, h2⟩
    · exact ⟨by simp; omega, by show (w.heap.push _)[w.heap.size]? = some _; simp⟩
    · rw [hk _ (h.lt h2)]; exact h.own m e h2
  · obtain ⟨h1, h2, h3⟩ := h.exb g hg
    refine ⟨by omega, fun m e hm => ?_, h3⟩
    rcases look m e hm with ⟨rfl, rfl⟩ | ⟨_, h5⟩
    · exact fun h => by simp at h; omega
    · exact h2 m e h5
theorem St.store (h : St w0 row ex w M Ψ Θ) {m0 b : Nat} {T : TypeId} {cs cs' : List Value} (h1 : M m0 = some (b, T, cs)) (h2 : M' m0 = some (b, T, cs')) (hM : ∀ m, m ≠ m0 → M' m = M m) (hp : Put w w' b (.cells cs'.toArray T (0, 0))) :
    St w0 row ex w' M' Ψ Θ := by
  have look : ∀ m e, M' m = some e → (m = m0 ∧ e = (b, T, cs')) ∨ (m ≠ m0 ∧ M m = some e) := fun m e hm => by
    by_cases hmm : m = m0
    · subst hmm; rw [h2] at hm; exact .inl ⟨rfl, (Option.some.inj hm).symm⟩
    · rw [hM m hmm] at hm; exact .inr ⟨hmm, hm⟩
  have blk : ∀ m e, M m = some e → ∃ e', M' m = some e' ∧ e'.1 = e.1 := fun m e hm => by
    by_cases hmm : m = m0
    · subst hmm; rw [h1] at hm; obtain rfl := Option.some.inj hm; exact ⟨_, h2, rfl⟩
    · exact ⟨e, by rw [hM m hmm]; exact hm, rfl⟩
  have hb := h.own m0 _ h1
  have ap : ∀ {ex' : Option Nat} {w'' : World}, Apart M' ex' w' w'' → Apart M ex' w w'' := fun {ex' w''} ⟨hw1, hw2⟩ => ⟨by rw [← hp.size]; exact hw1, fun k hkl hM2 hx => by
    have hkb : k ≠ b := fun e => hM2 m0 _ h1 e.symm
    refine (hw2 k (by rw [hp.size]; exact hkl) (fun m e hm => ?_) hx).trans (hp.off k hkb)
    rcases look m e hm with ⟨_, rfl⟩ | ⟨_, h3⟩
    · exact Ne.symm hkb
    · exact hM2 m e h3⟩
  refine ⟨grown_of h.gr hp.os hp.tape hp.output (by rw [hp.size]; exact Nat.le_refl _) (fun k hk _ => hp.off k (fun e => by have := hb.1; simp at this; omega)), fun m m' e e' hm hm' hne => ?_, fun m e hm => ?_, fun g hg => ?_, fun w'' hw => h.psi w'' (ap hw), fun w'' hw => h.the w'' (ap hw)⟩
  · rcases look m e hm with ⟨rfl, rfl⟩ | ⟨h3, h4⟩ <;> rcases look m' e' hm' with ⟨rfl, rfl⟩ | ⟨h5, h6⟩
    · exact absurd rfl hne
    · exact h.nod m m' (b, T, cs) e' h1 h6 hne
    · exact h.nod m m' e (b, T, cs) h4 h1 hne
    · exact h.nod m m' e e' h4 h6 hne
  · rcases look m e hm with ⟨rfl, rfl⟩ | ⟨h3, h4⟩
    · exact ⟨hb.1, hp.here⟩
    · rw [hp.off _ (h.nod m m0 e _ h4 h1 h3)]; exact h.own m e h4
  · obtain ⟨h3, h4, h5⟩ := h.exb g hg
    refine ⟨by rw [hp.size]; exact h3, fun m e hm => ?_, h5⟩
    rcases look m e hm with ⟨rfl, rfl⟩ | ⟨_, h6⟩
    · exact h4 m (b, T, cs) h1
    · exact h4 m e h6
theorem St.call (h : St w0 row ex w M Ψ Θ) (hb : Below w.heap.size w w') : St w0 row ex w' M Ψ Θ := by
  have ap : ∀ {ex' : Option Nat} {w'' : World}, Apart M ex' w' w'' → Apart M ex' w w'' := fun {ex' w''} ⟨hw1, hw2⟩ => ⟨Nat.le_trans hb.size hw1, fun k hkl hM2 hx => (hw2 k (Nat.lt_of_lt_of_le hkl hb.size) hM2 hx).trans (hb.block k hkl)⟩
  have h00 := h.gr.size
  exact ⟨grown_of h.gr hb.os hb.tape hb.output hb.size (fun k hk _ => hb.block k (by omega)), h.nod, fun m e hm => by rw [hb.block _ (h.lt hm)]; exact h.own m e hm,
    fun g hg => ⟨Nat.lt_of_lt_of_le (h.exb g hg).1 hb.size, (h.exb g hg).2⟩, fun w'' hw => h.psi w'' (ap hw), fun w'' hw => h.the w'' (ap hw)⟩
/-- a call that may write the state's block -/
theorem St.callg (h : St w0 row ex w M Ψ Θ) {g : Nat} (hx : ex = some g) (hb : w.grownBy w' (some g)) {Θ' : World → Prop} (hT : ∀ w'', Apart M none w' w'' → Θ' w'') : St w0 row ex w' M Ψ Θ' := by
  obtain ⟨h1, h2, h3⟩ := h.exb g hx
  have h00 := h.gr.size
  have ap : ∀ {w'' : World}, Apart M ex w' w'' → Apart M ex w w'' := fun {w''} ⟨hw1, hw2⟩ => ⟨Nat.le_trans hb.size hw1, fun k hkl hM2 hx2 => (hw2 k (Nat.lt_of_lt_of_le hkl hb.size) hM2 hx2).trans (hb.block k hkl (fun e => hx2 (by rw [hx, e])))⟩
  refine ⟨grown_of h.gr hb.os hb.tape hb.output hb.size (fun k hk hr => hb.block k (by omega) (fun e => ?_)), h.nod, fun m e hm => ?_, fun g' hg' => ⟨Nat.lt_of_lt_of_le (h.exb g' hg').1 hb.size, (h.exb g' hg').2⟩, fun w'' hw => h.psi w'' (ap hw), hT⟩
  · have e' := Option.some.inj e
    rcases h3 with h3 | h3
    · omega
    · exact hr (by rw [h3, e])
  · rw [hb.block _ (h.lt hm) (fun e2 => h2 m e hm (Option.some.inj e2))]
    exact h.own m e hm
end

/-! ### a region -/
/-- a variable in memory, in a region: al: the operation that makes it (none: it was there, in block b0); st: the operation that stores into it; c0, c1: its cells ahead of the store and behind it -/
structure Own where
  al : Option Nat := none
  st : Option Nat := none
  b0 : Nat := 0
  T : TypeId
  c0 : List Value
  c1 : Env → List Value := fun _ => []
def ptrB : Value → Nat
  | .pointer (some a) => a.block
  | .slice (some a) _ _ => a.block
  | _ => 0
/-- the block that operation i makes -/
def pb (env : Env) (i : Nat) : Nat := ptrB (env i)
def Own.blk (o : Own) (env : Env) : Nat := match o.al with
  | none => o.b0
  | some i => pb env i
def Own.on (o : Own) (D : Nat → Bool) : Bool := match o.al with
  | none => true
  | some i => D i
def Own.cs (o : Own) (cl : List (List Nat)) (D : Nat → Bool) (env : Env) : List Value := match o.st with
  | none => o.c0
  | some s => if D s = true then o.c1 (restr (cl.getD s []) env) else o.c0
/-- a store into what was there: which, by which operation, the cells behind it -/
structure Sto where
  m : Nat
  s : Nat
  c1 : Env → List Value
/-- a new variable: made by operation i; stored into by operation s; its cells -/
structure New where
  i : Nat
  T : TypeId
  c0 : List Value
  s : Option Nat := none
  c1 : Env → List Value := fun _ => []
def stAt (S : List Sto) (m : Nat) : Option Sto := S.find? fun s => Nat.beq s.m m
def elders (S : List Sto) : List Ent → Nat → List Own
  | [], _ => []
  | e :: L, m => (match stAt S m with
    | none => { b0 := e.1, T := e.2.1, c0 := e.2.2 }
    | some s => { b0 := e.1, T := e.2.1, c0 := e.2.2, st := some s.s, c1 := s.c1 }) :: elders S L (m + 1)
def news (W : List New) : List Own := W.map fun n => { al := some n.i, st := n.s, T := n.T, c0 := n.c0, c1 := n.c1 }
abbrev Slots := List (Nat × Value)
def lk (L : Slots) (t : Nat) : Option Value := match L with
  | [] => none
  | e :: r => if Nat.beq e.1 t then some e.2 else lk r t
structure Reg where
  ops : Array Oper
  ds : List (Option Tmp)
  cl : List (List Nat)
  S : List Sto
  W : List New
  /-- the values: of each operation, where it is told -/
  V : List (Option (Env → Value))
  /-- what else is told -/
  F : List (Nat × (Env → World → Prop))
  n : Nat
  a0 : Act
  L : Slots
  M : List Ent
  w0 : World
  row : Option Nat
  ex : Option Nat
  Ψ : World → Prop
  Θ : World → Prop
  /-- behind which operation something else holds of the state -/
  th : Option (Nat × (Env → World → Prop)) := none
def Reg.tht (R : Reg) (D : Nat → Bool) (env : Env) : World → Prop := match R.th with
  | none => R.Θ
  | some (k, T) => if D k = true then T (restr (R.cl.getD k []) env) else R.Θ
/-- the state is not turned by operation i -/
def noTh (R : Reg) (i : Nat) : Bool := match R.th with
  | none => true
  | some (k, _) => !(Nat.beq k i)
def Reg.O (R : Reg) : List Own := elders R.S R.M 0 ++ news R.W
def Reg.mem (R : Reg) (D : Nat → Bool) (env : Env) : Mem := fun m => match R.O[m]? with
  | none => none
  | some o => if o.on D = true then some (o.blk env, o.T, o.cs R.cl D env) else none
def Reg.v? (R : Reg) (i : Nat) : Option (Env → Value) := (R.V[i]?).join
def Reg.f (R : Reg) (i : Nat) (env : Env) (w : World) : Prop := (∀ V, R.v? i = some V → restr (R.cl.getD i []) env i = V (restr (R.cl.getD i []) env)) ∧ ∀ p ∈ R.F, p.1 = i → p.2 (restr (R.cl.getD i []) env) w
def dstO (ops : Array Oper) (i : Nat) : Option Tmp := (ops[i]?).bind (·.dst)
structure J (R : Reg) (D : Nat → Bool) (env : Env) (a : Act) (w : World) : Prop where
  sz : a.tmps.size = R.n
  df : a.defers = []
  old : ∀ t, (∀ j, D j = true → dstO R.ops j ≠ some t) → a.tmps[t]? = R.a0.tmps[t]?
  new : ∀ j t, D j = true → dstO R.ops j = some t → a.tmps[t]? = some (env j)
  st : St R.w0 R.row R.ex w (R.mem D env) (fun w' => R.Ψ w' ∧ ∀ i, D i = true → R.f i env w') (R.tht D env)
  sl : ∀ t v, lk R.L t = some v → R.a0.tmps[t]? = some v
/-- each slot is one operation's at most; owners' operations are all different, and a store waits for the making -/
def regOk (R : Reg) : Bool :=
  clOk R.ops R.cl &&
  ((List.range R.ops.size).all fun i => match dstO R.ops i with
    | none => true
    | some t => decide (t < R.n) && (List.range R.ops.size).all fun j => j == i || !(dstO R.ops j == some t)) &&
  (R.O.all fun o => match o.al, o.st with
    | some i, some s => (R.cl.getD s []).contains i && !(i == s)
    | _, _ => true) &&
  ((List.range R.O.length).all fun m => (List.range R.O.length).all fun m' => m == m' || match R.O[m]?, R.O[m']? with
    | some o, some o' => (o.al == none || !(o.al == o'.al)) && (o.st == none || !(o.st == o'.st)) && (o.al == none || !(o.al == o'.st))
    | _, _ => true)
theorem regOk_cl {R : Reg} (h : regOk R = true) : clOk R.ops R.cl = true := by unfold regOk at h; simp only [Bool.and_eq_true] at h; exact h.1.1.1
theorem regOk_dst {R : Reg} (h : regOk R = true) {i j : Nat} {t : Tmp} (hi : dstO R.ops i = some t) (hj : dstO R.ops j = some t) : i = j ∧ t < R.n := by
  unfold regOk at h; simp only [Bool.and_eq_true] at h
  have lt : ∀ {i : Nat} {t : Tmp}, dstO R.ops i = some t → i < R.ops.size := fun {i t} h => by
    unfold dstO at h
    cases ho : R.ops[i]? with
    | none => rw [ho] at h; cases h
    | some o => exact (Array.getElem?_eq_some_iff.1 ho).1
  have h1 := List.all_eq_true.1 h.1.1.2 i (List.mem_range.2 (lt hi))
  rw [hi] at h1
  simp only [Bool.and_eq_true, decide_eq_true_eq] at h1
  refine ⟨?_, h1.1⟩
  have h2 := List.all_eq_true.1 h1.2 j (List.mem_range.2 (lt hj))
  rw [hj] at h2
  simp at h2
  exact h2.symm
theorem regOk_own {R : Reg} (h : regOk R = true) {m : Nat} {o : Own} (ho : R.O[m]? = some o) : (∀ i s, o.al = some i → o.st = some s → i ∈ R.cl.getD s [] ∧ i ≠ s) ∧
    ∀ m' o', R.O[m']? = some o' → m' ≠ m → (∀ i, o.al = some i → o'.al ≠ some i ∧ o'.st ≠ some i) ∧ (∀ s, o.st = some s → o'.st ≠ some s ∧ o'.al ≠ some s) := by
  unfold regOk at h; simp only [Bool.and_eq_true] at h
  have hlt : m < R.O.length := (List.getElem?_eq_some_iff.1 ho).1
  refine ⟨fun i s hi hs => ?_, fun m' o' ho' hne => ?_⟩
  · have h1 := List.all_eq_true.1 h.1.2 o (List.mem_of_getElem? ho)
    rw [hi, hs] at h1
    simp at h1
    exact ⟨by simpa using h1.1, h1.2⟩
  · have hlt' : m' < R.O.length := (List.getElem?_eq_some_iff.1 ho').1
    have h1 := List.all_eq_true.1 (List.all_eq_true.1 h.2 m (List.mem_range.2 hlt)) m' (List.mem_range.2 hlt')
    have h2 := List.all_eq_true.1 (List.all_eq_true.1 h.2 m' (List.mem_range.2 hlt')) m (List.mem_range.2 hlt)
    rw [ho, ho'] at h1
    rw [ho, ho'] at h2
    simp only [Bool.or_eq_true, Bool.and_eq_true, beq_iff_eq, Bool.not_eq_true', beq_eq_false_iff_ne, ne_eq] at h1 h2
    have h1 := h1.resolve_left (fun e => hne e.symm)
    have h2 := h2.resolve_left (fun e => hne e)
    refine ⟨fun i hi => ⟨fun e => ?_, fun e => ?_⟩, fun s hs => ⟨fun e => ?_, fun e => ?_⟩⟩
    · rcases h1.1.1 with h | h
      · rw [hi] at h; cases h
      · exact h (by rw [hi, e])
    · rcases h1.2 with h | h
      · rw [hi] at h; cases h
      · exact h (by rw [hi, e])
    · rcases h1.1.2 with h | h
      · rw [hs] at h; cases h
      · exact h (by rw [hs, e])
    · rcases h2.2 with h | h
      · rw [e] at h; cases h
      · exact h (by rw [hs, e])
section
variable {R : Reg} {D : Nat → Bool} {env : Env} {a : Act} {w w' : World} {i : Nat} {o : Oper} {v : Value}
theorem J.fact (h : J R D env a w) {j : Nat} (hj : D j = true) : R.f j env w := (h.st.now).2 j hj
/-- what stands in a slot that operation j fills -/
theorem J.slot (h : J R D env a w) (hp : ∀ j ∈ R.cl.getD i [], j ≠ i → D j = true) (j : Nat) (t : Tmp) (hj : ((R.cl.getD i []).contains j && !(j == i)) = true) (ht : dstO R.ops j = some t) : a.tmps[t]? = some (env j) := by
  simp only [Bool.and_eq_true, List.contains_iff_mem, Bool.not_eq_true', beq_eq_false_iff_ne] at hj
  exact h.new j t (hp j hj.1 hj.2) ht
theorem J.tell (h : J R D env a w) (hp : ∀ j ∈ R.cl.getD i [], j ≠ i → D j = true) (j : Nat) (hj : ((R.cl.getD i []).contains j && !(j == i)) = true) : R.f j env w := by
  simp only [Bool.and_eq_true, List.contains_iff_mem, Bool.not_eq_true', beq_eq_false_iff_ne] at hj
  exact h.fact (hp j hj.1 hj.2)
/-- a slot that no operation fills ahead of operation i -/
def elder (R : Reg) (i : Nat) (t : Tmp) : Bool := (List.range R.ops.size).all fun j => !(dstO R.ops j == some t) || (R.cl.getD j []).contains i
theorem J.elder (h : J R D env a w) (hq : ∀ j, D j = true → i ∉ R.cl.getD j []) (t : Tmp) (ht : elder R i t = true) : a.tmps[t]? = R.a0.tmps[t]? := by
  refine h.old t (fun j hj e => ?_)
  have hlt : j < R.ops.size := by
    unfold dstO at e
    cases ho : R.ops[j]? with
    | none => rw [ho] at e; cases e
    | some o => exact (Array.getElem?_eq_some_iff.1 ho).1
  have h1 := List.all_eq_true.1 ht j (List.mem_range.2 hlt)
  rw [e] at h1
  simp at h1
  exact hq j hj (by simpa using h1)
theorem J.put (hR : regOk R = true) (h : J R D env a w) (ho : R.ops[i]? = some o) (hi : D i = false)
    (hst : St R.w0 R.row R.ex w' (R.mem (upB D i) (upd env i v)) (fun w'' => R.Ψ w'' ∧ ∀ j, upB D i j = true → R.f j (upd env i v) w'') (R.tht (upB D i) (upd env i v))) : J R (upB D i) (upd env i v) (a.put o.dst v) w' := by
  have hd : dstO R.ops i = o.dst := by simp [dstO, ho]
  refine ⟨?_, ?_, fun t ht => ?_, fun j t hj ht => ?_, hst, h.sl⟩
  · rw [← h.sz]; unfold Act.put; split <;> simp
  · rw [← h.df]; unfold Act.put; split <;> rfl
  · have h1 := h.old t (fun j hj => ht j (upB_mono hj))
    rw [← h1]
    have h2 := ht i (upB_self _ _)
    rw [hd] at h2
    unfold Act.put
    split
    · rename_i d hd'
      rw [hd'] at h2
      simp only
      rw [Array.getElem?_setIfInBounds_ne (fun e => h2 (by rw [e]))]
    · rfl
  · by_cases hji : j = i
    · subst hji
      rw [hd] at ht
      have := (regOk_dst hR (i := j) (j := j) (t := t) (by rw [hd]; exact ht) (by rw [hd]; exact ht)).2
      have hsz := h.sz
      unfold Act.put upd
      rw [ht]
      simp only [if_true]
      rw [Array.getElem?_setIfInBounds_self_of_lt (by rw [hsz]; exact this)]
    · rw [upB_ne hji] at hj
      have h1 := h.new j t hj ht
      have hne : o.dst ≠ some t := fun e => hji (regOk_dst hR ht (by rw [hd]; exact e)).1
      unfold upd
      rw [if_neg hji, ← h1]
      unfold Act.put
      split
      · rename_i d hd'
        rw [hd'] at hne
        simp only
        rw [Array.getElem?_setIfInBounds_ne (fun e => hne (by rw [e]))]
      · rfl
theorem f_upd (hq : ∀ j, D j = true → i ∉ R.cl.getD j []) {j : Nat} (hj : D j = true) {w : World} : R.f j (upd env i v) w ↔ R.f j env w := by
  unfold Reg.f; rw [restr_upd (hq j hj)]
theorem tht_off (hq : ∀ j, D j = true → i ∉ R.cl.getD j []) (hn : noTh R i = true) : R.tht (upB D i) (upd env i v) = R.tht D env := by
  unfold Reg.tht noTh at *
  cases ht : R.th with
  | none => rfl
  | some p =>
    obtain ⟨k, T⟩ := p
    rw [ht] at hn
    have hne : k ≠ i := fun e => by subst e; simp at hn
    simp only
    rw [upB_ne hne]
    by_cases hD : D k = true
    · rw [if_pos hD, if_pos hD, restr_upd (hq k hD)]
    · rw [if_neg hD, if_neg hD]
/-- an owner that operation i has nothing to do with -/
theorem mem_off (hq : ∀ j, D j = true → i ∉ R.cl.getD j []) {m : Nat} {ow : Own} (hm : R.O[m]? = some ow) (h1 : ow.al ≠ some i) (h2 : ow.st ≠ some i) : R.mem (upB D i) (upd env i v) m = R.mem D env m := by
  unfold Reg.mem
  simp only [hm]
  have e1 : ow.on (upB D i) = ow.on D := by
    unfold Own.on
    cases ha : ow.al with
    | none => rfl
    | some k => exact upB_ne (fun e => h1 (by rw [ha, e]))
  have e2 : ow.blk (upd env i v) = ow.blk env := by
    unfold Own.blk
    cases ha : ow.al with
    | none => rfl
    | some k => simp only [pb, upd]; rw [if_neg (fun e => h1 (by rw [ha, e]))]
  have e3 : ow.cs R.cl (upB D i) (upd env i v) = ow.cs R.cl D env := by
    unfold Own.cs
    cases hs : ow.st with
    | none => rfl
    | some s =>
      simp only
      rw [upB_ne (fun e => h2 (by rw [hs, e]))]
      by_cases hD : D s = true
      · rw [if_pos hD, if_pos hD, restr_upd (hq s hD)]
      · rw [if_neg hD, if_neg hD]
  rw [e1, e2, e3]
theorem mem_none {m : Nat} (hm : R.O[m]? = none) (D : Nat → Bool) (env : Env) : R.mem D env m = none := by unfold Reg.mem; simp only [hm]
/-- no owner's operation -/
def free (R : Reg) (i : Nat) : Bool := R.O.all fun o => !(o.al == some i) && !(o.st == some i)
theorem mem_free (hq : ∀ j, D j = true → i ∉ R.cl.getD j []) (hf : free R i = true) (m : Nat) : R.mem (upB D i) (upd env i v) m = R.mem D env m := by
  cases hm : R.O[m]? with
  | none => rw [mem_none hm, mem_none hm]
  | some ow =>
    have h1 := List.all_eq_true.1 hf ow (List.mem_of_getElem? hm)
    simp only [Bool.and_eq_true, Bool.not_eq_true', beq_eq_false_iff_ne] at h1
    exact mem_off hq hm h1.1 h1.2
/-- the step of an operation that yields v and leaves the call's own memory alone -/
theorem J.val (hR : regOk R = true) (h : J R D env a w) (ho : R.ops[i]? = some o) (hi : D i = false) (hq : ∀ j, D j = true → i ∉ R.cl.getD j []) (hf : free R i = true)
    (hst : St R.w0 R.row R.ex w' (R.mem D env) (fun w'' => R.Ψ w'' ∧ ∀ j, D j = true → R.f j env w'') (R.tht (upB D i) (upd env i v))) (hF : ∀ w'', Apart (R.mem D env) R.ex w' w'' → R.f i (upd env i v) w'') : J R (upB D i) (upd env i v) (a.put o.dst v) w' := by
  refine J.put hR h ho hi (((hst.add hF).ext (fun m => mem_free hq hf m)).mono (fun w'' hw => ⟨hw.1.1, fun j hj => ?_⟩) (fun _ h => h))
  by_cases hji : j = i
  · subst hji; exact hw.2
  · rw [upB_ne hji] at hj
    exact (f_upd hq hj).2 (hw.1.2 j hj)
/-- a making -/
theorem J.mk_ (hR : regOk R = true) (h : J R D env a w) (ho : R.ops[i]? = some o) (hi : D i = false) (hq : ∀ j, D j = true → i ∉ R.cl.getD j []) (m : Nat) {ow : Own} (hm : R.O[m]? = some ow) (hal : ow.al = some i)
    (hnt : noTh R i = true) {v : Value} (hv : ptrB v = w.heap.size) (hF : ∀ w'', R.f i (upd env i v) w'') : J R (upB D i) (upd env i v) (a.put o.dst v) (w.alloc (.cells ow.c0.toArray ow.T (0, 0))) := by
  have hown := regOk_own hR hm
  have hst0 := h.st
  rw [← tht_off (env := env) hq hnt (v := v)] at hst0
  refine J.put hR h ho hi ((hst0.alloc (M' := R.mem (upB D i) (upd env i v)) (m0 := m) (T := ow.T) (cs := ow.c0) ?_ ?_ (fun m' hne => ?_)).mono (fun w'' hw => ⟨hw.1, fun j hj => ?_⟩) (fun _ h => h))
  · unfold Reg.mem; simp only [hm]; unfold Own.on; simp only [hal, hi]; rfl
  · unfold Reg.mem; simp only [hm]
    have e1 : ow.on (upB D i) = true := by unfold Own.on; simp only [hal, upB_self]
    have e2 : ow.cs R.cl (upB D i) (upd env i v) = ow.c0 := by
      unfold Own.cs
      cases hs : ow.st with
      | none => rfl
      | some s =>
        have h1 := (hown.1 i s hal hs)
        simp only
        have : D s = false := by
          cases hD : D s with
          | false => rfl
          | true => exact absurd h1.1 (hq s hD)
        rw [upB_ne (Ne.symm h1.2), this]; simp
    rw [if_pos e1, e2]
    unfold Own.blk; simp only [hal, pb, upd, if_true, hv]
  · cases hm' : R.O[m']? with
    | none => rw [mem_none hm', mem_none hm']
    | some ow' =>
      have h2 := (hown.2 m' ow' hm' hne).1 i hal
      exact mem_off hq hm' h2.1 h2.2
  · by_cases hji : j = i
    · subst hji; exact hF _
    · rw [upB_ne hji] at hj
      exact (f_upd hq hj).2 (hw.2 j hj)
/-- a store -/
theorem J.store (hR : regOk R = true) (h : J R D env a w) (ho : R.ops[i]? = some o) (hi : D i = false) (hp : ∀ j ∈ R.cl.getD i [], j ≠ i → D j = true) (hq : ∀ j, D j = true → i ∉ R.cl.getD j []) (m : Nat) {ow : Own} (hm : R.O[m]? = some ow) (hs : ow.st = some i) {v : Value}
    (hp' : Put w w' (ow.blk env) (.cells (ow.c1 (restr (R.cl.getD i []) (upd env i v))).toArray ow.T (0, 0)))
    (hnt : noTh R i = true) (hF : ∀ w'', R.f i (upd env i v) w'') : J R (upB D i) (upd env i v) (a.put o.dst v) w' := by
  have hown := regOk_own hR hm
  have hst0 := h.st
  rw [← tht_off (env := env) hq hnt (v := v)] at hst0
  have hal : ∀ k, ow.al = some k → D k = true ∧ k ≠ i := fun k hk => by
    have h1 := hown.1 k i hk hs
    exact ⟨hp k h1.1 h1.2, h1.2⟩
  refine J.put hR h ho hi ((hst0.store (M' := R.mem (upB D i) (upd env i v)) (m0 := m) (b := ow.blk env) (T := ow.T) (cs := ow.c0) (cs' := ow.c1 (restr (R.cl.getD i []) (upd env i v))) ?_ ?_ (fun m' hne => ?_) hp').mono (fun w'' hw => ⟨hw.1, fun j hj => ?_⟩) (fun _ h => h))
  · unfold Reg.mem; simp only [hm]
    have e1 : ow.on D = true := by
      unfold Own.on
      cases ha : ow.al with
      | none => rfl
      | some k => exact (hal k ha).1
    have e2 : ow.cs R.cl D env = ow.c0 := by unfold Own.cs; simp only [hs, hi]; simp
    rw [if_pos e1, e2]
  · unfold Reg.mem; simp only [hm]
    have e1 : ow.on (upB D i) = true := by
      unfold Own.on
      cases ha : ow.al with
      | none => rfl
      | some k => exact upB_mono (hal k ha).1
    have e2 : ow.cs R.cl (upB D i) (upd env i v) = ow.c1 (restr (R.cl.getD i []) (upd env i v)) := by unfold Own.cs; simp only [hs, upB_self, if_true]
    have e3 : ow.blk (upd env i v) = ow.blk env := by
      unfold Own.blk
      cases ha : ow.al with
      | none => rfl
      | some k => simp only [pb, upd]; rw [if_neg (hal k ha).2]
    rw [if_pos e1, e2, e3]
  · cases hm' : R.O[m']? with
    | none => rw [mem_none hm', mem_none hm']
    | some ow' =>
      have h2 := (hown.2 m' ow' hm' hne).2 i hs
      exact mem_off hq hm' h2.2 h2.1
  · by_cases hji : j = i
    · subst hji; exact hF _
    · rw [upB_ne hji] at hj
      exact (f_upd hq hj).2 (hw.2 j hj)
/-- the cells of an owner, ahead of its store -/
theorem J.cells0 (h : J R D env a w) (m : Nat) {ow : Own} (hm : R.O[m]? = some ow) (hon : ow.on D = true) (hs : ∀ s, ow.st = some s → D s = false) : w.heap[ow.blk env]? = some (.cells ow.c0.toArray ow.T (0, 0)) := by
  have := (h.st.own m (ow.blk env, ow.T, ow.cs R.cl D env) (by unfold Reg.mem; simp only [hm, hon, if_true])).2
  have e2 : ow.cs R.cl D env = ow.c0 := by
    unfold Own.cs
    cases hs' : ow.st with
    | none => rfl
    | some s => simp only [hs s hs']; simp
  rw [e2] at this
  exact this
end
end Go.Proofs.Ytdfkghpgekmmlaa
