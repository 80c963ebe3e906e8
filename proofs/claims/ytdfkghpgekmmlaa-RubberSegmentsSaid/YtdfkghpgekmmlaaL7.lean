/- Whole numbers without a bound as the program holds them. Own work. -/
import Derived.Test.YtdfkghpgekmmlaaL6
import Derived.Test.YtdfkghpgekmmlaaP1
import Derived.Test.YtdfkghpgekmmlaaE6
namespace Go.Proofs.Ytdfkghpgekmmlaa
open Go.RowKit
set_option linter.unusedVariables false
set_option linter.unusedSimpArgs false

/-- far from too great -/
def Sm (z : Int) : Prop := -10000000000000000000000000000000000000000000000000000000000000000000000000000000000000000000000000000 ≤ z ∧ z ≤ 10000000000000000000000000000000000000000000000000000000000000000000000000000000000000000000000000000
theorem Sm.len {z : Int} (h : Sm z) : (digs z).length ≤ 21 := by
  refine digs_len_le ?_
  have e : (65536 : Int) ^ 21 = 139984046386112763159840142535527767382602843577165595931249318810236991948760059086304843329475444736 := by rfl
  rw [e]
  unfold Sm at h
  omega
/-- a number's value: its sign, its digits -/
abbrev vB (z : Int) (A : Option Addr) (c : Nat) : Value := .agg #[.bool (decide (z < 0)), .slice A (digs z).length c]
def bA : Value → Option Addr
  | .agg #[_, s] => sA s
  | _ => none
def bC : Value → Nat
  | .agg #[_, s] => sC s
  | _ => 0
def bigF (z : Int) (v : Value) : Value := vB z (bA v) (bC v)
def BigX (ex : Option Nat) (w : World) (v : Value) (z : Int) : Prop := ∃ A c, v = vB z A c ∧ RowX ex w (.slice A (digs z).length c) (digs z)
theorem BigX.form {ex : Option Nat} {w : World} {v : Value} {z : Int} (h : BigX ex w v z) : v = bigF z v := by
  obtain ⟨A, c, rfl, _⟩ := h; rfl
theorem BigX.keep {ex : Option Nat} {w w' : World} {v : Value} {z : Int} (h : BigX ex w v z) (hk : Keep ex w w') : BigX ex w' v z := by
  obtain ⟨A, c, rfl, h⟩ := h; exact ⟨A, c, rfl, h.keep hk⟩
theorem BigX.row {ex : Option Nat} {w : World} {v : Value} {z : Int} (h : BigX ex w v z) : Row w (.slice (bA v) (digs z).length (bC v)) (digs z) := by
  obtain ⟨A, c, rfl, h⟩ := h; exact h.1
theorem Facts.big {L : List (World → Prop)} {w : World} {ex : Option Nat} {v : Value} {z : Int} (h : Facts L w) (k : Nat) (hk : L[k]? = some (fun w => BigX ex w v z)) : Row w (.slice (bA v) (digs z).length (bC v)) (digs z) :=
  BigX.row (ex := ex) (h.get k hk)
theorem At.big {R : Reg} {i : Nat} {D : Nat → Bool} {env : Env} {a : Act} {w : World} (h : At R i D env a w) (j : Nat) {ex : Option Nat} {z : Int} (hj : ((R.cl.getD i []).contains j && !(j == i)) = true) (hs : ((R.cl.getD j []).contains j) = true) (hF : R.F.filter (fun p => Nat.beq p.1 j) = [(j, fun env w => BigX ex w (env j) z)]) : Row w (.slice (bA (env j)) (digs z).length (bC (env j))) (digs z) :=
  BigX.row (h.fact j (φ := fun v w => BigX ex w v z) hj hs hF)
/-- .. in memory that is new -/
def BigN (B : Nat) (w : World) (v : Value) (z : Int) : Prop := ∃ A c, v = vB z A c ∧ RowN B w (.slice A (digs z).length c) (digs z)
theorem toX {P : Program} {f : FuncId} {args : Array Value} {w : World} {z : Int} (h : Calls P f args w fun e w' => ∃ v, e = .returned v ∧ Below w.heap.size w w' ∧ BigN w.heap.size w' v z) : Calls P f args w fun e w' => ∃ v, e = .returned v ∧ Below w.heap.size w w' ∧ BigX none w' v z := by
  refine h.mono ?_
  rintro e w' ⟨v, h1, h2, A, c, h3, h4⟩
  exact ⟨v, h1, h2, A, c, h3, h4.1, Off.none _⟩
theorem toG {P : Program} {f : FuncId} {args : Array Value} {w : World} {z : Int} {g : Nat} (hg : g < w.heap.size) (h : Calls P f args w fun e w' => ∃ v, e = .returned v ∧ Below w.heap.size w w' ∧ BigN w.heap.size w' v z) : Calls P f args w fun e w' => ∃ v, e = .returned v ∧ Below w.heap.size w w' ∧ BigX (some g) w' v z := by
  refine h.mono ?_
  rintro e w' ⟨v, h1, h2, A, c, h3, h4⟩
  refine ⟨v, h1, h2, A, c, h3, h4.1, fun g' hg' hb => ?_⟩
  obtain rfl := Option.some.inj hg'
  have := h4.2 _ hb
  omega
theorem rowX {P : Program} {f : FuncId} {args : Array Value} {w : World} {ds : List Int} (h : Calls P f args w fun e w' => ∃ v, e = .returned v ∧ Below w.heap.size w w' ∧ RowN w.heap.size w' v ds) : Calls P f args w fun e w' => ∃ v, e = .returned v ∧ Below w.heap.size w w' ∧ RowX none w' v ds := by
  refine h.mono ?_
  rintro e w' ⟨v, h1, h2, h4⟩
  exact ⟨v, h1, h2, h4.1, Off.none _⟩
theorem rowG {P : Program} {f : FuncId} {args : Array Value} {w : World} {ds : List Int} {g : Nat} (hg : g < w.heap.size) (h : Calls P f args w fun e w' => ∃ v, e = .returned v ∧ Below w.heap.size w w' ∧ RowN w.heap.size w' v ds) : Calls P f args w fun e w' => ∃ v, e = .returned v ∧ Below w.heap.size w w' ∧ RowX (some g) w' v ds := by
  refine h.mono ?_
  rintro e w' ⟨v, h1, h2, h4⟩
  refine ⟨v, h1, h2, h4.1, fun g' hg' hb => ?_⟩
  obtain rfl := Option.some.inj hg'
  have := h4.2 _ hb
  omega
theorem RowN.keep {B : Nat} {w w' : World} {v : Value} {ds : List Int} (h : RowN B w v ds) (hk : Keep none w w') : RowN B w' v ds := ⟨(RowX.keep ⟨h.1, Off.none _⟩ hk).1, h.2⟩
theorem RowN.form {B : Nat} {w : World} {v : Value} {ds : List Int} (h : RowN B w v ds) : v = slF ds v := RowX.form (ex := none) ⟨h.1, Off.none _⟩
theorem RowN.row {B : Nat} {w : World} {v : Value} {ds : List Int} (h : RowN B w v ds) : RowN B w (.slice (sA v) ds.length (sC v)) ds := by
  have e := h.form
  unfold slF at e
  rw [← e]; exact h
theorem BigN.keep {B : Nat} {w w' : World} {v : Value} {z : Int} (h : BigN B w v z) (hk : Keep none w w') : BigN B w' v z := by
  obtain ⟨A, c, rfl, h⟩ := h; exact ⟨A, c, rfl, h.keep hk⟩
theorem BigN.form {B : Nat} {w : World} {v : Value} {z : Int} (h : BigN B w v z) : v = bigF z v := by
  obtain ⟨A, c, rfl, _⟩ := h; rfl
theorem BigN.row {B : Nat} {w : World} {v : Value} {z : Int} (h : BigN B w v z) : RowN B w (.slice (bA v) (digs z).length (bC v)) (digs z) := by
  obtain ⟨A, c, rfl, h⟩ := h; exact h
theorem Facts.rowN {L : List (World → Prop)} {w : World} {B : Nat} {v : Value} {ds : List Int} (h : Facts L w) (k : Nat) (hk : L[k]? = some (fun w => RowN B w v ds)) : Row w (.slice (sA v) ds.length (sC v)) ds := (RowN.row (B := B) (h.get k hk)).1
theorem Facts.bigN {L : List (World → Prop)} {w : World} {B : Nat} {v : Value} {z : Int} (h : Facts L w) (k : Nat) (hk : L[k]? = some (fun w => BigN B w v z)) : Row w (.slice (bA v) (digs z).length (bC v)) (digs z) := (BigN.row (B := B) (h.get k hk)).1
theorem At.rowN {R : Reg} {i : Nat} {D : Nat → Bool} {env : Env} {a : Act} {w : World} (h : At R i D env a w) (j : Nat) {B : Nat} {ds : List Int} (hj : ((R.cl.getD i []).contains j && !(j == i)) = true) (hs : ((R.cl.getD j []).contains j) = true) (hF : R.F.filter (fun p => Nat.beq p.1 j) = [(j, fun env w => RowN B w (env j) ds)]) : Row w (.slice (sA (env j)) ds.length (sC (env j))) ds := (RowN.row (B := B) (h.fact j (φ := fun v w => RowN B w v ds) hj hs hF)).1
theorem At.bigN {R : Reg} {i : Nat} {D : Nat → Bool} {env : Env} {a : Act} {w : World} (h : At R i D env a w) (j : Nat) {B : Nat} {z : Int} (hj : ((R.cl.getD i []).contains j && !(j == i)) = true) (hs : ((R.cl.getD j []).contains j) = true) (hF : R.F.filter (fun p => Nat.beq p.1 j) = [(j, fun env w => BigN B w (env j) z)]) : Row w (.slice (bA (env j)) (digs z).length (bC (env j))) (digs z) := (BigN.row (B := B) (h.fact j (φ := fun v w => BigN B w v z) hj hs hF)).1
theorem upN {P : Program} {f : FuncId} {args : Array Value} {w : World} {z : Int} {B : Nat} (hB : B ≤ w.heap.size) (h : Calls P f args w fun e w' => ∃ v, e = .returned v ∧ Below w.heap.size w w' ∧ BigN w.heap.size w' v z) : Calls P f args w fun e w' => ∃ v, e = .returned v ∧ Below w.heap.size w w' ∧ BigN B w' v z := by
  refine h.mono ?_
  rintro e w' ⟨v, h1, h2, A, c, h3, h4, h5⟩
  exact ⟨v, h1, h2, A, c, h3, h4, fun b hb => Nat.le_trans hB (h5 b hb)⟩
theorem upR {P : Program} {f : FuncId} {args : Array Value} {w : World} {ds : List Int} {B : Nat} (hB : B ≤ w.heap.size) (h : Calls P f args w fun e w' => ∃ v, e = .returned v ∧ Below w.heap.size w w' ∧ RowN w.heap.size w' v ds) : Calls P f args w fun e w' => ∃ v, e = .returned v ∧ Below w.heap.size w w' ∧ RowN B w' v ds := by
  refine h.mono ?_
  rintro e w' ⟨v, h1, h2, h4, h5⟩
  exact ⟨v, h1, h2, h4, fun b hb => Nat.le_trans hB (h5 b hb)⟩
theorem BigN.mk {B : Nat} {w : World} {b : Bool} {A : Option Addr} {c : Nat} {z z' : Int} (hb : b = decide (z' < 0)) (hd : digs z = digs z') (h : RowN B w (.slice A (digs z).length c) (digs z)) : BigN B w (.agg #[.bool b, .slice A (digs z).length c]) z' := by
  subst hb
  rw [hd] at h ⊢
  exact ⟨A, c, rfl, h⟩
theorem Facts.rN {L : List (World → Prop)} {w : World} {B : Nat} {v : Value} {ds : List Int} (h : Facts L w) (k : Nat) (hk : L[k]? = some (fun w => RowN B w v ds)) : RowN B w (.slice (sA v) ds.length (sC v)) ds := RowN.row (h.get k hk)
theorem Facts.bN {L : List (World → Prop)} {w : World} {B : Nat} {v : Value} {z : Int} (h : Facts L w) (k : Nat) (hk : L[k]? = some (fun w => BigN B w v z)) : RowN B w (.slice (bA v) (digs z).length (bC v)) (digs z) := BigN.row (h.get k hk)
theorem RowN.trim {B : Nat} {w : World} {A : Option Addr} {c : Nat} {ds : List Int} (hg : Rg ds) (h : RowN B w (.slice A ds.length c) ds) : RowN B w (.slice A (digs (nat ds)).length c) (digs (nat ds)) := ⟨Row.trim hg h.1, fun b hb => h.2 b (by cases A <;> exact hb)⟩
theorem RowN.neg {B : Nat} {w : World} {A : Option Addr} {c : Nat} {z : Int} (h : RowN B w (.slice A (digs z).length c) (digs z)) : RowN B w (.slice A (digs (-z)).length c) (digs (-z)) := by rw [digs_neg]; exact h
/-- a slice of numbers out of its elements, in new memory -/
theorem s_bsN {P : Program} {R : Reg} {Q : Exit → Act → World → Prop} {i : Nat} {o : Oper} (ho : R.ops[i]? = some o) (hf : free' R i = true) (hw : ∀ {D env a w}, At R i D env a w → Region.wanted o (yielded R.ops a.tmps) = true) (zs : List Int) (hlen : 0 < zs.length ∧ zs.length ≤ 64) (hV : R.v? i = some fun env => slF zs (env i)) (hF : R.F.filter (fun p => Nat.beq p.1 i) = [(i, fun env w => RowN R.w0.heap.size w (env i) zs)]) (hint : intFree R = true) (hex : R.ex = none)
    (hrun : ∀ {D env a w}, At R i D env a w → (execOp a.eval o).run P w = .ok (.value (.slice (some ⟨w.heap.size, 0, none⟩) zs.length zs.length)) (w.alloc (.cells (zs.map vi).toArray 3 (0, 0)))) : SR P Q R i :=
  s_gen ho hf (fun {D env a w} hA K hK => by
    rw [if_pos (hw hA)]
    unfold Oper.wp
    rw [hrun hA]
    have hs' := hA.j.st.call (w' := w.alloc (.cells (zs.map vi).toArray 3 (0, 0))) ⟨rfl, rfl, rfl, by simp, fun k hk => Below.heap_alloc _ _ _ hk⟩
    have h0 := hA.j.st.gr.size
    refine hK _ _ hs' (fun w'' ha => f_fact (φ := fun v w => RowN R.w0.heap.size w v zs) (form := slF zs) hV (fun v w h => h.form) hF hA.ok ho (RowN.keep ?_ (by have := apart_keep hint hs' ha; rwa [hex] at this)))
    refine ⟨⟨_, _, rfl, Nat.le_refl _, by omega, .inr ⟨w.heap.size, 0, _, _, rfl, heap_alloc_new w _, fun j hj => ?_⟩⟩, fun b hb => ?_⟩
    · simp only [Nat.zero_add, List.getElem?_toArray, List.getElem?_map, List.getD_eq_getElem?_getD]
      rw [List.getElem?_eq_getElem hj]
      rfl
    · simp only [Value.ownBlock, Option.some.injEq] at hb
      omega)
theorem Row.neg {w : World} {A : Option Addr} {c : Nat} {z : Int} (h : Row w (.slice A (digs z).length c) (digs z)) : Row w (.slice A (digs (-z)).length c) (digs (-z)) := by rw [digs_neg]; exact h
theorem Row.eqz {w : World} {A : Option Addr} {c : Nat} {z z' : Int} (e : digs z = digs z') (h : Row w (.slice A (digs z).length c) (digs z)) : Row w (.slice A (digs z').length c) (digs z') := by rw [← e]; exact h
end Go.Proofs.Ytdfkghpgekmmlaa
