/- Walks of package leaps: the closures that are searched with; First, count, Asked, Offset, change. -/
import Derived.Test.YtibdhpffdkiggaaGreatD5
namespace Go.Proofs.YtibdhpffdkiggaaGreat
open Go.RowKit
set_option linter.unusedVariables false
set_option linter.unusedSimpArgs false

/-- where the marks lie -/
def MarksAt (w : World) (gm : Nat) (es : List (Int × Int)) : Prop :=
  ∀ i, i < es.length → w.cell? ⟨gm, i * 3, none⟩ = some (.int .i64 (dayOf (es.getD i (0, 0)))) ∧ w.cell? ⟨gm, i * 3 + 1, none⟩ = some (.int .i64 (es.getD i (0, 0)).2) ∧ w.cell? ⟨gm, i * 3 + 2, none⟩ = some (.int .i64 (startOf (es.getD i (0, 0))))
theorem MarksAt.below {w w' : World} {B gm : Nat} {es : List (Int × Int)} (h : MarksAt w gm es) (hb : Below B w w') (hg : gm < B) : MarksAt w' gm es := by
  intro i hi
  rw [hb.cell (p := ⟨gm, _, none⟩) hg, hb.cell (p := ⟨gm, _, none⟩) hg, hb.cell (p := ⟨gm, _, none⟩) hg]
  exact h i hi
theorem IsLM.marks {w : World} {g : Nat} {u x q : Int} {es : List (Int × Int)} {mv : Value} (h : IsLM w g u x es q mv) :
    ∃ gm cap, mv = .slice (some ⟨gm, 0, none⟩) es.length cap ∧ gm < w.heap.size ∧ es.length ≤ cap ∧ MarksAt w gm es := by
  obtain ⟨hok, ge, hlt, hg, he, ho⟩ := h
  have hp := okT_pre hok
  have hcap : ∀ cap g', mv = .slice (some ⟨g', 0, none⟩) es.length cap → es.length ≤ cap := by
    intro cap g' e
    rcases ho.2 with ⟨rfl, h0⟩ | ⟨g2, cap2, cur, e2, _, _, h3, _⟩
    · cases e
    · rw [e2] at e; simp only [Value.slice.injEq] at e; omega
  obtain ⟨gm, cap, rfl, _, hlm⟩ := ho.form hp.2.1
  refine ⟨gm, cap, rfl, hlm, hcap cap gm rfl, fun i hi => ?_⟩
  have h1 : es[i]? = some (es.getD i (0, 0)) := by simp [List.getD_eq_getElem?_getD, List.getElem?_eq_getElem hi]
  have hc := fun j (v : Value) hj => ho.cells (g := gm) rfl (i * 3 + j) v hj
  simp only [ad_add, Nat.zero_add] at hc
  exact ⟨hc 0 _ (by rw [flat_get markC 3 markC_len es i 0 _ h1 (by omega)]; rfl), hc 1 _ (by rw [flat_get markC 3 markC_len es i 1 _ h1 (by omega)]; rfl), hc 2 _ (by rw [flat_get markC 3 markC_len es i 2 _ h1 (by omega)]; rfl)⟩
theorem IsLM.below {w w' : World} {g : Nat} {u x q : Int} {es : List (Int × Int)} {mv : Value} (h : IsLM w g u x es q mv) (hb : Below w.heap.size w w') : IsLM w' g u x es q mv := by
  obtain ⟨hok, ge, hlt, hg, he, ho⟩ := h
  exact ⟨hok, ge, hlt, hg.below hb hg.lt, he.below hb he.lt, ho.kept (row := none) ⟨hb.os, hb.tape, hb.output, hb.size, fun i hi _ => hb.block i hi⟩ (by cases mv.ownBlock <;> simp)⟩
theorem IsL.below {w w' : World} {g : Nat} {u x q : Int} {es : List (Int × Int)} (h : IsL w g u x es q) (hb : Below w.heap.size w w') : IsL w' g u x es q := by
  obtain ⟨hok, ge, d, mv, hlt, hg, he, hm⟩ := h
  refine ⟨hok, ge, d, mv, hlt, hg.below hb hg.lt, he.below hb he.lt, ?_⟩
  rcases hm with ⟨h1, h2⟩ | ⟨h1, ho⟩
  · exact .inl ⟨h1, h2⟩
  · exact .inr ⟨h1, ho.kept (row := none) ⟨hb.os, hb.tape, hb.output, hb.size, fun i hi _ => hb.block i hi⟩ (by cases mv.ownBlock <;> simp)⟩


set_option maxRecDepth 100000 in
set_option maxHeartbeats 1000000 in
theorem off1_any (day : Int) (i n cap gm bm bd : Nat) (es : List (Int × Int)) (W : World) (hn : n = es.length) (hi : i < n) (hc : n ≤ cap)
    (hm : W.cell? ⟨bm, 0, none⟩ = some (.slice (some ⟨gm, 0, none⟩) n cap)) (hd : W.cell? ⟨bd, 0, none⟩ = some (.int .i64 day)) (hM : MarksAt W gm es) :
    Calls Tryz.prog 48 (#[.int .i64 i] ++ #[.pointer (some ⟨bm, 0, none⟩), .pointer (some ⟨bd, 0, none⟩)]) W fun e w' => e = .returned (.bool (decide (day < dayOf (es.getD i (0, 0))))) ∧ ∃ q, w' = W.drewN q := by
  have c := (hM i (by omega)).1
  generalize dayOf (es.getD i (0, 0)) = D at *
  have i1 : (0 : Int) ≤ (i : Int) := by omega
  have i2 : (i : Int) < (n : Int) := by omega
  clear hM hn
  go_enter Tryz.func48, Tryz.ntmps48
  go_wp2
  go_quiet (fail)
  go_wp2
  go_ret
  exact ⟨rfl, _, rfl⟩

set_option maxRecDepth 100000 in
set_option maxHeartbeats 1000000 in
theorem at1_any (s : Int) (i n cap gm bm bd : Nat) (es : List (Int × Int)) (W : World) (hn : n = es.length) (hi : i < n) (hc : n ≤ cap)
    (hm : W.cell? ⟨bm, 0, none⟩ = some (.slice (some ⟨gm, 0, none⟩) n cap)) (hd : W.cell? ⟨bd, 0, none⟩ = some (.int .i64 s)) (hM : MarksAt W gm es) :
    Calls Tryz.prog 57 (#[.int .i64 i] ++ #[.pointer (some ⟨bm, 0, none⟩), .pointer (some ⟨bd, 0, none⟩)]) W fun e w' => e = .returned (.bool (decide (s < startOf (es.getD i (0, 0))))) ∧ ∃ q, w' = W.drewN q := by
  have c := (hM i (by omega)).2.2
  generalize startOf (es.getD i (0, 0)) = D at *
  have i1 : (0 : Int) ≤ (i : Int) := by omega
  have i2 : (i : Int) < (n : Int) := by omega
  clear hM hn
  go_enter Tryz.func57, Tryz.ntmps57
  go_wp2
  go_quiet (fail)
  go_wp2
  go_ret
  exact ⟨rfl, _, rfl⟩

set_option maxRecDepth 100000 in
set_option maxHeartbeats 1000000 in
theorem chg1_any (day : Int) (i n cap gm bm bd : Nat) (es : List (Int × Int)) (W : World) (hn : n = es.length) (hi : i < n) (hc : n ≤ cap) (hok : okPre es es.length = true)
    (hm : W.cell? ⟨bm, 0, none⟩ = some (.slice (some ⟨gm, 0, none⟩) n cap)) (hd : W.cell? ⟨bd, 0, none⟩ = some (.int .i64 day)) (hM : MarksAt W gm es) :
    Calls Tryz.prog 78 (#[.int .i64 i] ++ #[.pointer (some ⟨bm, 0, none⟩), .pointer (some ⟨bd, 0, none⟩)]) W fun e w' => e = .returned (.bool (decide (day ≤ dayOf (es.getD i (0, 0)) - 1))) ∧ ∃ q, w' = W.drewN q := by
  have c := (hM i (by omega)).1
  have hb := okPre_num hok (i := i) (by omega)
  have hD : 0 ≤ dayOf (es.getD i (0, 0)) ∧ dayOf (es.getD i (0, 0)) ≤ 1125899906842624 := by unfold dayOf; omega
  generalize dayOf (es.getD i (0, 0)) = D at *
  obtain ⟨d0, d1⟩ := hD
  have i1 : (0 : Int) ≤ (i : Int) := by omega
  have i2 : (i : Int) < (n : Int) := by omega
  have hw : IntKind.i64.wrap (D - 1) = D - 1 := IntWalk.i64_in _ (by omega)
  clear hM hn hb hok
  go_enter Tryz.func78, Tryz.ntmps78
  go_wp2
  go_quiet (fail)
  go_wp2
  go_ret
  exact ⟨rfl, _, rfl⟩

set_option maxRecDepth 100000 in
set_option maxHeartbeats 1000000 in
theorem count_any (g : Nat) (u x q : Int) (es : List (Int × Int)) (w : World) (h : IsL w g u x es q) :
    Calls Tryz.prog 45 #[.pointer (some ⟨g, 0, none⟩)] w fun e w' => e = .returned (.bool true) ∧ IsL w' g u x es (wrap64 (q + 1)) ∧ w.grownBy w' (some g) := by
  obtain ⟨hok, ge, d, mv, hlt, hg, he, hm⟩ := h
  have h7 := hg.cell 7
  have z7 := hg.frozen 7
  simp at h7
  have hadd := run_call_add (P := Tryz.prog) Tryz.func79 (by kernel_rfl) (by kernel_rfl) (by kernel_rfl) .i64 (by kernel_rfl) (y := 1) (s := wrap64 (q + 1)) h7 z7 (by simp [go_sem, IntKind.wrap_i64, wrap64])
  have hg2 := hg.set_ 7 (.int .i64 (wrap64 (q + 1)))
  have he2 := he.far (p := ⟨g, 7, none⟩) (by simp; omega) (.int .i64 (wrap64 (q + 1)))
  have hgr : w.grownBy (w.setCell ⟨g, 7, none⟩ (.int .i64 (wrap64 (q + 1)))) (some g) := gr_set (World.grownBy.refl w _) (.inl rfl) _
  have hL : IsL (w.setCell ⟨g, 7, none⟩ (.int .i64 (wrap64 (q + 1)))) g u x es (wrap64 (q + 1)) := by
    refine ⟨hok, ge, d, mv, hlt, by simpa using hg2, he2, ?_⟩
    rcases hm with ⟨h1, h2⟩ | ⟨h1, ho⟩
    · exact .inl ⟨h1, h2⟩
    · refine .inr ⟨h1, ho.kept hgr ?_⟩
      rcases ho.2 with ⟨rfl, h0⟩ | ⟨gm, cap, cur, rfl, _, hh, _⟩
      · exact .inl rfl
      · refine .inr fun e => ?_
        simp only [Value.ownBlock, Option.some.injEq] at e
        subst e
        unfold Blk at hg
        rw [hg] at hh
        simp at hh
  have HL := Lib.hid hL
  have HGR := Lib.hid hgr
  clear hL hgr hg hg2 he he2 hm hok
  go_enter Tryz.func45, Tryz.ntmps45
  go_wp2
  go_ret
  exact ⟨rfl, HL.out, HGR.out⟩

/-- how many entries have begun by d -/
def cnt (f : Int × Int → Int) (es : List (Int × Int)) (d : Int) : Nat := (List.range es.length).countP fun i => !decide (d < f (es.getD i (0, 0)))
/-- for how many entries the day ahead is before d -/
def cntC (es : List (Int × Int)) (d : Int) : Nat := (List.range es.length).countP fun i => !decide (d ≤ dayOf (es.getD i (0, 0)) - 1)
theorem cnt_le (f : Int × Int → Int) (es : List (Int × Int)) (d : Int) : cnt f es d ≤ es.length := by
  have := List.countP_le_length (l := List.range es.length) (p := fun i => !decide (d < f (es.getD i (0, 0)))); simpa [cnt] using this
theorem cntC_le (es : List (Int × Int)) (d : Int) : cntC es d ≤ es.length := by
  have := List.countP_le_length (l := List.range es.length) (p := fun i => !decide (d ≤ dayOf (es.getD i (0, 0)) - 1)); simpa [cntC] using this

theorem okE_step {es : List (Int × Int)} {k : Nat} (hk : k + 1 < es.length) (h : okE (es.take (k + 1)) (es.getD (k + 1) (0, 0)) = true) : (es.getD k (0, 0)).1 < (es.getD (k + 1) (0, 0)).1 ∧ ((es.getD (k + 1) (0, 0)).2 = (es.getD k (0, 0)).2 + 1 ∨ (es.getD (k + 1) (0, 0)).2 = (es.getD k (0, 0)).2 - 1) := by
  rw [take_snoc' es k (0, 0) (by omega), okE_last] at h
  simp at h
  obtain ⟨_, h2⟩ := h
  simp only [List.getD_eq_getElem?_getD] at *
  omega
theorem day_step {es : List (Int × Int)} (h : okPre es es.length = true) {k : Nat} (hk : k + 1 < es.length) : dayOf (es.getD k (0, 0)) < dayOf (es.getD (k + 1) (0, 0)) ∧ startOf (es.getD k (0, 0)) < startOf (es.getD (k + 1) (0, 0)) := by
  have h1 := okE_step hk (okPre_at h hk)
  have h2 := okPre_num h (i := k) (by omega)
  have h3 := okPre_num h (i := k + 1) (by omega)
  unfold startOf dayOf
  omega
theorem day_mono {es : List (Int × Int)} (h : okPre es es.length = true) : ∀ (a d : Nat), a + d < es.length → dayOf (es.getD a (0, 0)) + d ≤ dayOf (es.getD (a + d) (0, 0)) ∧ startOf (es.getD a (0, 0)) + d ≤ startOf (es.getD (a + d) (0, 0))
  | a, 0, _ => by simp
  | a, d + 1, hd => by
    have h1 := day_mono h a d (by omega)
    have h2 := day_step h (k := a + d) (by omega)
    rw [show a + (d + 1) = a + d + 1 by omega]
    omega
theorem day_le {es : List (Int × Int)} (h : okPre es es.length = true) {a b : Nat} (hab : a ≤ b) (hb : b < es.length) : dayOf (es.getD a (0, 0)) ≤ dayOf (es.getD b (0, 0)) ∧ startOf (es.getD a (0, 0)) ≤ startOf (es.getD b (0, 0)) := by
  have := day_mono h a (b - a) (by omega)
  rw [show a + (b - a) = b by omega] at this
  omega

theorem gcell {W w1 : World} {g : Nat} (h : W.grownBy w1 (some g)) : ∀ b o, b < W.heap.size → b ≠ g → w1.cell? ⟨b, o, none⟩ = W.cell? ⟨b, o, none⟩ := fun b o hb hne => World.cell?_of_block (h.block b hb (by simpa using hne))

def offV (es : List (Int × Int)) (day : Int) : Int := if cnt dayOf es day = 0 then 0 else (es.getD (cnt dayOf es day - 1) (0, 0)).2
def offE (es : List (Int × Int)) (day : Int) : Int := if cnt dayOf es day = 0 then 8 else 0

set_option maxRecDepth 100000 in
set_option maxHeartbeats 2000000 in
theorem offset_any (g : Nat) (u x q day : Int) (es : List (Int × Int)) (w : World) (h : IsL w g u x es q) :
    Calls Tryz.prog 18 #[.pointer (some ⟨g, 0, none⟩), .int .i64 day] w fun e w' => e = .returned (.tuple #[.int .i64 (offV es day), .int .i64 (offE es day)]) ∧ IsL w' g u x es (wrap64 (q + 1)) ∧ w.grownBy w' (some g) := by
  have hok := okT_pre h.1
  obtain ⟨hp, hn0, hn64⟩ := hok
  have hgl : g < w.heap.size := by obtain ⟨_, _, _, _, _, hg, _⟩ := h; exact hg.lt
  have hL0 := h.below (w' := w.alloc (.cells #[.int .i64 day] 3)) (below_al (Below.refl _ _) _)
  have hcount := count_any g u x q es _ hL0
  have HC := Lib.hid hcount
  have HP := Lib.hid hp
  have hnot : ∀ (x : Bool) (w : World), (Op.unary .not (.bool x)).run Tryz.prog w = .ok (.bool (!x)) w := fun _ _ => rfl
  have hfn : ∀ (fn : Fn) (first cap : Array Value) (w : World), (Instr.makeFunc fn first cap).run Tryz.prog w = .ok (.func fn first cap) w := fun _ _ _ _ => rfl
  clear hcount hp h hL0
  go_enter Tryz.func18, Tryz.ntmps18
  go_wp2_with fail
  refine HC.out.mono ?_
  rintro e w1 ⟨rfl, hL1, hg1⟩
  have k1 : w1.cell? ⟨w.heap.size, 0, none⟩ = some (.int .i64 day) := (gcell hg1 w.heap.size 0 (by simp) (by omega)).trans (by simp)
  have s1 := hg1.size
  have l1 : w.heap.size < w1.heap.size := by simp at s1; omega
  have hall := all_any g u x (wrap64 (q + 1)) es w1 hL1
  have HA := Lib.hid hall
  have HG1 := Lib.hid hg1
  clear hL1 hg1 hall s1
  go_wp2_with fail
  refine HA.out.mono ?_
  rintro e w2 ⟨mv, rfl, hM2, hg2⟩
  obtain ⟨gm, cap, rfl, hgm, hcap, hMA⟩ := hM2.marks
  have k2 : w2.cell? ⟨w.heap.size, 0, none⟩ = some (.int .i64 day) := (gcell hg2 w.heap.size 0 l1 (by omega)).trans k1
  have s2 := hg2.size
  have l2 : w.heap.size < w2.heap.size := by omega
  have l2' : ¬ w.heap.size = w2.heap.size := by omega
  have HG2 := Lib.hid hg2
  have HM2 := Lib.hid hM2
  have HMA := Lib.hid hMA
  have k3 : (w2.alloc (.cells #[.slice (some ⟨gm, 0, none⟩) es.length cap] 65)).cell? ⟨w2.heap.size, 0, none⟩ = some (.slice (some ⟨gm, 0, none⟩) es.length cap) := by simp
  have k4 : (w2.alloc (.cells #[.slice (some ⟨gm, 0, none⟩) es.length cap] 65)).cell? ⟨w.heap.size, 0, none⟩ = some (.int .i64 day) := by rw [World.cell?_alloc_lt _ _ _ l2]; exact k2
  have hsr := search_any 48 #[.pointer (some ⟨w2.heap.size, 0, none⟩), .pointer (some ⟨w.heap.size, 0, none⟩)] es.length (fun i => decide (day < dayOf (es.getD i (0, 0)))) (w2.alloc (.cells #[.slice (some ⟨gm, 0, none⟩) es.length cap] 65)) Tryz.call48 (by omega)
    (fun W hW i hi => off1_any day i es.length cap gm w2.heap.size w.heap.size es W rfl hi hcap ((hW.cell (by simp)).trans k3) ((hW.cell (by simp; omega)).trans k4) (HMA.out.below (below_to (below_al (Below.refl _ _) _) hW) hgm))
    (fun a b hab hb h => by have := (day_le HP.out hab hb).1; simp only [decide_eq_true_eq] at h ⊢; omega)
  change Calls _ _ _ _ (fun e w' => e = .returned (.int .i64 ((cnt dayOf es day : Nat) : Int)) ∧ _) at hsr
  have HSR := Lib.hid hsr
  clear hsr hg2 hM2 hMA s2
  go_wp2_with fail
  refine HSR.out.mono ?_
  rintro e w3 ⟨rfl, hb3⟩
  have k5 : w3.cell? ⟨w2.heap.size, 0, none⟩ = some (.slice (some ⟨gm, 0, none⟩) es.length cap) := (hb3.cell (by simp)).trans k3
  have hMA3 := HMA.out.below (below_to (below_al (Below.refl _ _) _) hb3) hgm
  have hLM3 := HM2.out.below (below_to (below_al (Below.refl _ _) _) hb3)
  have hgr : w.grownBy w3 (some g) := gr_bel (gr_al (gr_tr (gr_tr (gr_al (World.grownBy.refl w _) _) HG1.out (.inl rfl)) HG2.out (.inl rfl)) _) hb3
  have hL3 : IsL w3 g u x es (wrap64 (q + 1)) := hLM3.isL
  have HGR := Lib.hid hgr
  have HL3 := Lib.hid hL3
  have hcl := cnt_le dayOf es day
  by_cases h0 : cnt dayOf es day = 0
  · have hv : offV es day = 0 := by simp [offV, h0]
    have he : offE es day = 8 := by simp [offE, h0]
    rw [h0]
    have HV := Lib.hid hv
    have HE := Lib.hid he
    clear hgr hL3 hMA3 hLM3 hb3 hv he k1 k2 k4
    go_wp2
    go_ret2
    exact ⟨by rw [HV.out, HE.out]; (try rw [List.getD_eq_getElem?_getD]); rfl, HL3.out, HGR.out⟩
  · have hv : offV es day = (es.getD (cnt dayOf es day - 1) (0, 0)).2 := by simp [offV, h0]
    have he : offE es day = 0 := by simp [offE, h0]
    obtain ⟨m, hm⟩ : ∃ m, cnt dayOf es day = m + 1 := ⟨cnt dayOf es day - 1, by omega⟩
    rw [hm] at hcl hv ⊢
    rw [show m + 1 - 1 = m by omega] at hv
    have HV := Lib.hid hv
    have HE := Lib.hid he
    have c0 := (hMA3 m (by omega)).2.1
    have hmi : (m : Int) < (es.length : Int) := by omega
    clear hgr hL3 hMA3 hLM3 hb3 hv he k1 k2 k4 hm h0
    go_wp2
    go_ret2
    exact ⟨by rw [HV.out, HE.out]; (try rw [List.getD_eq_getElem?_getD]); rfl, HL3.out, HGR.out⟩

/-! ### First, Asked, Change, Length -/
/-- the day with which a table begins -/
def day0 (es : List (Int × Int)) : Int := dayOf (es.getD 0 (0, 0))
set_option maxRecDepth 100000 in
set_option maxHeartbeats 1000000 in
theorem first_any (g : Nat) (u x q : Int) (es : List (Int × Int)) (w : World) (h : IsL w g u x es q) :
    Calls Tryz.prog 60 #[.pointer (some ⟨g, 0, none⟩)] w fun e w' => e = .returned (.int .i64 (day0 es)) ∧ IsL w' g u x es q ∧ w.grownBy w' (some g) := by
  have hok := okT_pre h.1
  obtain ⟨hp, hn0, hn64⟩ := hok
  have hall := all_any g u x q es w h
  have HA := Lib.hid hall
  clear hall h hp
  go_enter Tryz.func60, Tryz.ntmps60
  go_wp2_with fail
  refine HA.out.mono ?_
  rintro e w2 ⟨mv, rfl, hM2, hg2⟩
  obtain ⟨gm, cap, rfl, hgm, hcap, hMA⟩ := hM2.marks
  have c0 := (hMA 0 hn0).1
  rw [Nat.zero_mul] at c0
  have HL2 := Lib.hid hM2.isL
  have HG2 := Lib.hid hg2
  have i1 : (0 : Int) < (es.length : Int) := by omega
  clear hM2 hMA hg2
  obtain ⟨D, hD⟩ : ∃ D, D = day0 es := ⟨_, rfl⟩
  rw [← show D = dayOf (es.getD 0 (0, 0)) from hD] at c0
  have HD := Lib.hid hD
  clear hD
  go_wp2
  go_ret
  exact ⟨by rw [← HD.out]; rfl, HL2.out, HG2.out⟩

theorem gr_dr_isL {w : World} {g : Nat} {u x q : Int} {es : List (Int × Int)} (h : IsL w g u x es q) (n : Nat) : IsL (w.drewN n) g u x es q := h.below (below_drN (Below.refl _ _) n)

def chgV (es : List (Int × Int)) (day : Int) : Int :=
  if cntC es day = 0 then 0 else if cntC es day = es.length then 0 else if dayOf (es.getD (cntC es day) (0, 0)) - 1 = day then (es.getD (cntC es day) (0, 0)).2 - (es.getD (cntC es day - 1) (0, 0)).2 else 0

set_option maxRecDepth 100000 in
set_option maxHeartbeats 4000000 in
theorem change_any (g : Nat) (u x q day : Int) (es : List (Int × Int)) (w : World) (h : IsL w g u x es q) :
    Calls Tryz.prog 61 #[.pointer (some ⟨g, 0, none⟩), .int .i64 day] w fun e w' => e = .returned (.int .i64 (chgV es day)) ∧ IsL w' g u x es q ∧ w.grownBy w' (some g) := by
  have hok := okT_pre h.1
  obtain ⟨hp, hn0, hn64⟩ := hok
  have hgl : g < w.heap.size := by obtain ⟨_, _, _, _, _, hg, _⟩ := h; exact hg.lt
  have hL0 := h.below (w' := w.alloc (.cells #[.int .i64 day] 3)) (below_al (Below.refl _ _) _)
  have hall := all_any g u x q es _ hL0
  have HA := Lib.hid hall
  have HP := Lib.hid hp
  have hfn : ∀ (fn : Fn) (first cap : Array Value) (w : World), (Instr.makeFunc fn first cap).run Tryz.prog w = .ok (.func fn first cap) w := fun _ _ _ _ => rfl
  clear hall hp h hL0
  go_enter Tryz.func61, Tryz.ntmps61
  go_wp2_with fail
  refine HA.out.mono ?_
  rintro e w2 ⟨mv, rfl, hM2, hg2⟩
  obtain ⟨gm, cap, rfl, hgm, hcap, hMA⟩ := hM2.marks
  have k2 : w2.cell? ⟨w.heap.size, 0, none⟩ = some (.int .i64 day) := (gcell hg2 w.heap.size 0 (by simp) (by omega)).trans (by simp)
  have s2 := hg2.size
  have l2 : w.heap.size < w2.heap.size := by simp at s2; omega
  have l2' : ¬ w.heap.size = w2.heap.size := by omega
  have HG2 := Lib.hid hg2
  have HM2 := Lib.hid hM2
  have HMA := Lib.hid hMA
  have k3 : (w2.alloc (.cells #[.slice (some ⟨gm, 0, none⟩) es.length cap] 65)).cell? ⟨w2.heap.size, 0, none⟩ = some (.slice (some ⟨gm, 0, none⟩) es.length cap) := by simp
  have k4 : (w2.alloc (.cells #[.slice (some ⟨gm, 0, none⟩) es.length cap] 65)).cell? ⟨w.heap.size, 0, none⟩ = some (.int .i64 day) := by rw [World.cell?_alloc_lt _ _ _ l2]; exact k2
  have hsr := search_any 78 #[.pointer (some ⟨w2.heap.size, 0, none⟩), .pointer (some ⟨w.heap.size, 0, none⟩)] es.length (fun i => decide (day ≤ dayOf (es.getD i (0, 0)) - 1)) (w2.alloc (.cells #[.slice (some ⟨gm, 0, none⟩) es.length cap] 65)) Tryz.call78 (by omega)
    (fun W hW i hi => chg1_any day i es.length cap gm w2.heap.size w.heap.size es W rfl hi hcap HP.out ((hW.cell (by simp)).trans k3) ((hW.cell (by simp; omega)).trans k4) (HMA.out.below (below_to (below_al (Below.refl _ _) _) hW) hgm))
    (fun a b hab hb h => by have := (day_le HP.out hab hb).1; simp only [decide_eq_true_eq] at h ⊢; omega)
  change Calls _ _ _ _ (fun e w' => e = .returned (.int .i64 ((cntC es day : Nat) : Int)) ∧ _) at hsr
  have HSR := Lib.hid hsr
  clear hsr hg2 hM2 hMA s2
  go_wp2_with fail
  refine HSR.out.mono ?_
  rintro e w3 ⟨rfl, hb3⟩
  have k5 : w3.cell? ⟨w2.heap.size, 0, none⟩ = some (.slice (some ⟨gm, 0, none⟩) es.length cap) := (hb3.cell (by simp)).trans k3
  have k6 : w3.cell? ⟨w.heap.size, 0, none⟩ = some (.int .i64 day) := (hb3.cell (by simp; omega)).trans k4
  have hMA3 := HMA.out.below (below_to (below_al (Below.refl _ _) _) hb3) hgm
  have hLM3 := HM2.out.below (below_to (below_al (Below.refl _ _) _) hb3)
  have hgr : w.grownBy w3 (some g) := gr_bel (gr_al (gr_tr (gr_al (World.grownBy.refl w _) _) HG2.out (.inl rfl)) _) hb3
  have hL3 : IsL w3 g u x es q := hLM3.isL
  have HGR := Lib.hid hgr
  have HL3 := Lib.hid hL3
  have hcl := cntC_le es day
  by_cases h0 : cntC es day = 0
  · have hv : chgV es day = 0 := by simp [chgV, h0]
    rw [h0]
    have HV := Lib.hid hv
    have g1 : (((0 : Nat) : Int) == 0) = true := rfl
    clear hgr hL3 hMA3 hLM3 hb3 hv k2 k4
    go_wp2
    go_quiet (fail)
    go_wp2
    go_ret
    exact ⟨by rw [HV.out]; rfl, gr_dr_isL HL3.out _, gr_drN HGR.out _⟩
  by_cases h1 : cntC es day = es.length
  · have hv : chgV es day = 0 := by simp only [chgV]; rw [if_neg h0, if_pos h1]
    rw [h1]
    have HV := Lib.hid hv
    have g1 : (((es.length : Nat) : Int) == 0) = false := by rw [beq_eq_false_iff_ne]; omega
    have g2 : (((es.length : Nat) : Int) == (es.length : Int)) = true := by simp
    clear hgr hL3 hMA3 hLM3 hb3 hv k2 k4 h1 h0
    go_wp2
    go_quiet (fail)
    go_wp2
    go_ret
    exact ⟨by rw [HV.out]; rfl, gr_dr_isL HL3.out _, gr_drN HGR.out _⟩
  · obtain ⟨m, hm⟩ : ∃ m, cntC es day = m + 1 := ⟨cntC es day - 1, by omega⟩
    have hmi : m + 1 < es.length := by omega
    have c0 := hMA3 (m + 1) hmi
    have c1 := (hMA3 m (by omega)).2.1
    have nb := okPre_num HP.out hmi
    have nb1 := okPre_num HP.out (i := m) (by omega)
    have hD : 0 ≤ dayOf (es.getD (m + 1) (0, 0)) ∧ dayOf (es.getD (m + 1) (0, 0)) ≤ 1125899906842624 := by unfold dayOf; omega
    have hv : chgV es day = if dayOf (es.getD (m + 1) (0, 0)) - 1 = day then (es.getD (m + 1) (0, 0)).2 - (es.getD m (0, 0)).2 else 0 := by simp only [chgV]; rw [if_neg h0, if_neg h1, hm, show m + 1 - 1 = m by omega]
    have HV := Lib.hid hv
    rw [hm]
    obtain ⟨c00, c01, _⟩ := c0
    obtain ⟨D, hDe⟩ : ∃ D, D = dayOf (es.getD (m + 1) (0, 0)) := ⟨_, rfl⟩
    obtain ⟨oa, hoa⟩ : ∃ D, D = (es.getD (m + 1) (0, 0)).2 := ⟨_, rfl⟩
    obtain ⟨ob, hob⟩ : ∃ D, D = (es.getD m (0, 0)).2 := ⟨_, rfl⟩
    rw [← hDe] at c00 hD
    rw [← hoa] at c01 nb
    rw [← hob] at c1 nb1
    obtain ⟨d0, d1⟩ := hD
    obtain ⟨_, _, o0, o1, _⟩ := nb
    obtain ⟨_, _, o2, o3, _⟩ := nb1
    have HDE := Lib.hid hDe
    have HOA := Lib.hid hoa
    have HOB := Lib.hid hob
    have i1 : (0 : Int) ≤ (m : Int) + 1 := by omega
    have i2 : (m : Int) + 1 < (es.length : Int) := by omega
    have i0 : (0 : Int) ≤ (m : Int) := by omega
    have i3 : (m : Int) < (es.length : Int) := by omega
    have g1 : ((m : Int) + 1 == 0) = false := by rw [beq_eq_false_iff_ne]; omega
    have g2 : ((m : Int) + 1 == (es.length : Int)) = false := by rw [beq_eq_false_iff_ne]; omega
    rw [show ((m + 1 : Nat) : Int) = (m : Int) + 1 by omega]
    have hw : IntKind.i64.wrap (D - 1) = D - 1 := IntWalk.i64_in _ (by omega)
    clear hgr hL3 hMA3 hLM3 hb3 hv k2 k4 hm h0 h1 hDe hoa hob hcl
    by_cases h2 : D - 1 = day
    · have g3 : (D - 1 != day) = false := by simp [h2]
      have hv2 : chgV es day = oa - ob := by rw [HV.out, ← HDE.out, if_pos h2, ← HOA.out, ← HOB.out]
      have HV2 := Lib.hid hv2
      have hw2 : IntKind.i64.wrap (oa - ob) = oa - ob := IntWalk.i64_in _ (by omega)
      have hw3 : IntKind.i64.wrap ((m : Int) + 1 - 1) = (m : Int) := by rw [show (m : Int) + 1 - 1 = m by omega]; exact IntWalk.i64_in _ (by omega)
      clear h2 hv2
      go_wp2
      go_quiet (fail)
      go_wp2
      go_quiet (fail)
      go_wp2
      go_ret
      exact ⟨by rw [HV2.out]; rfl, gr_dr_isL (gr_dr_isL HL3.out _) _, gr_drN (gr_drN HGR.out _) _⟩
    · have g3 : (D - 1 != day) = true := by simp [h2]
      have hv2 : chgV es day = 0 := by rw [HV.out, ← HDE.out, if_neg h2]
      have HV2 := Lib.hid hv2
      clear h2 hv2
      go_wp2
      go_quiet (fail)
      go_wp2
      go_ret
      exact ⟨by rw [HV2.out]; rfl, gr_dr_isL HL3.out _, gr_drN HGR.out _⟩

def lenV (es : List (Int × Int)) (day : Int) : Int := if day < day0 es then 0 else 86400 + chgV es day
def lenE (es : List (Int × Int)) (day : Int) : Int := if day < day0 es then 8 else 0
theorem chgV_bd {es : List (Int × Int)} (h : okPre es es.length = true) (day : Int) : -1 ≤ chgV es day ∧ chgV es day ≤ 1 := by
  unfold chgV
  split
  · omega
  · split
    · omega
    · split
      · have hc := cntC_le es day
        rename_i h0 h1 _
        have hk : cntC es day - 1 + 1 = cntC es day := by omega
        have := okE_step (es := es) (k := cntC es day - 1) (by omega) (by rw [hk]; exact okPre_at h (by omega))
        rw [hk] at this
        omega
      · omega

set_option maxRecDepth 100000 in
set_option maxHeartbeats 1000000 in
theorem length_any (g : Nat) (u x q day : Int) (es : List (Int × Int)) (w : World) (h : IsL w g u x es q) :
    Calls Tryz.prog 44 #[.pointer (some ⟨g, 0, none⟩), .int .i64 day] w fun e w' => e = .returned (.tuple #[.int .i64 (lenV es day), .int .i64 (lenE es day)]) ∧ IsL w' g u x es (wrap64 (q + 1)) ∧ w.grownBy w' (some g) := by
  have hcb := chgV_bd (okT_pre h.1).1 day
  have HC := Lib.hid (count_any g u x q es _ h)
  have hnot : ∀ (x : Bool) (w : World), (Op.unary .not (.bool x)).run Tryz.prog w = .ok (.bool (!x)) w := fun _ _ => rfl
  obtain ⟨cb0, cb1⟩ := hcb
  clear h
  go_enter Tryz.func44, Tryz.ntmps44
  go_wp2_with fail
  refine HC.out.mono ?_
  rintro e w1 ⟨rfl, hL1, hg1⟩
  have HL := Lib.hid (first_any g u x (wrap64 (q + 1)) es _ hL1)
  have HG1 := Lib.hid hg1
  clear hL1 hg1
  go_wp2_with fail
  refine HL.out.mono ?_
  rintro e w2 ⟨rfl, hL2, hg2⟩
  have HL2 := Lib.hid hL2
  have HG2 := Lib.hid (gr_tr HG1.out hg2 (.inl rfl))
  have hcc := change_any g u x (wrap64 (q + 1)) day es _ hL2
  have HCC := Lib.hid hcc
  clear hL2 hg2 hcc
  by_cases hd : day < day0 es
  · have hv : lenV es day = 0 := by simp only [lenV]; rw [if_pos hd]
    have he : lenE es day = 8 := by simp only [lenE]; rw [if_pos hd]
    have HV := Lib.hid hv
    have HE := Lib.hid he
    clear hv he
    go_wp2
    go_ret2
    exact ⟨by rw [HV.out, HE.out]; rfl, HL2.out, HG2.out⟩
  · have hv : lenV es day = 86400 + chgV es day := by simp only [lenV]; rw [if_neg hd]
    have he : lenE es day = 0 := by simp only [lenE]; rw [if_neg hd]
    have HV := Lib.hid hv
    have HE := Lib.hid he
    clear hv he
    go_wp2_with fail
    refine HCC.out.mono ?_
    rintro e w3 ⟨rfl, hL3, hg3⟩
    have HL3 := Lib.hid hL3
    have HG3 := Lib.hid hg3
    clear hL3 hg3
    go_wp2
    go_ret2
    exact ⟨by rw [HV.out, HE.out]; rfl, HL3.out, gr_tr HG2.out HG3.out (.inl rfl)⟩
end Go.Proofs.YtibdhpffdkiggaaGreat
