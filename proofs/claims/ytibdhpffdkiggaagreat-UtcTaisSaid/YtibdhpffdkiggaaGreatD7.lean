/- Walks of package leaps: At, Table, New; and a table that is none. -/
import Derived.Test.YtibdhpffdkiggaaGreatD6
namespace Go.Proofs.YtibdhpffdkiggaaGreat
open Go.RowKit
set_option linter.unusedVariables false
set_option linter.unusedSimpArgs false

def atV (es : List (Int × Int)) (s : Int) : Int := if cnt startOf es s = 0 then 0 else (es.getD (cnt startOf es s - 1) (0, 0)).2
def atU (es : List (Int × Int)) (s : Int) : Int := if cnt startOf es s = 0 then 0 else if cnt startOf es s = es.length then 4611686018427387904 else dayOf (es.getD (cnt startOf es s) (0, 0))
def atE (es : List (Int × Int)) (s : Int) : Int := if cnt startOf es s = 0 then 8 else 0

set_option maxRecDepth 100000 in
set_option maxHeartbeats 2000000 in
theorem at_any (g : Nat) (u x q s : Int) (es : List (Int × Int)) (w : World) (h : IsL w g u x es q) :
    Calls Tryz.prog 34 #[.pointer (some ⟨g, 0, none⟩), .int .i64 s] w fun e w' => e = .returned (.tuple #[.int .i64 (atV es s), .int .i64 (atU es s), .int .i64 (atE es s)]) ∧ IsL w' g u x es (wrap64 (q + 1)) ∧ w.grownBy w' (some g) := by
  have hok := okT_pre h.1
  obtain ⟨hp, hn0, hn64⟩ := hok
  have hgl : g < w.heap.size := by obtain ⟨_, _, _, _, _, hg, _⟩ := h; exact hg.lt
  have hL0 := h.below (w' := w.alloc (.cells #[.int .i64 s] 3)) (below_al (Below.refl _ _) _)
  have hcount := count_any g u x q es _ hL0
  have HC := Lib.hid hcount
  have HP := Lib.hid hp
  have hnot : ∀ (x : Bool) (w : World), (Op.unary .not (.bool x)).run Tryz.prog w = .ok (.bool (!x)) w := fun _ _ => rfl
  have hfn : ∀ (fn : Fn) (first cap : Array Value) (w : World), (Instr.makeFunc fn first cap).run Tryz.prog w = .ok (.func fn first cap) w := fun _ _ _ _ => rfl
  clear hcount hp h hL0
  go_enter Tryz.func34, Tryz.ntmps34
  go_wp2_with fail
  refine HC.out.mono ?_
  rintro e w1 ⟨rfl, hL1, hg1⟩
  have k1 : w1.cell? ⟨w.heap.size, 0, none⟩ = some (.int .i64 s) := (gcell hg1 w.heap.size 0 (by simp) (by omega)).trans (by simp)
  have s1 := hg1.size
  have l1 : w.heap.size < w1.heap.size := by simp at s1; omega
  have hall := all_any g u x (wrap64 (q + 1)) es w1 hL1
  have HA := Lib.hid hall
  have HG1 := Lib.hid hg1
  clear hL1 hg1 hall s1
  go_wp2_with fail
  refine HA.out.mono ?_
  rintro e w2 ⟨mv, rfl, hM2, hg2⟩
  obtain ⟨gm, cap, rfl, hgm, hcap, hMA⟩ := hM2.marks
  have k2 : w2.cell? ⟨w.heap.size, 0, none⟩ = some (.int .i64 s) := (gcell hg2 w.heap.size 0 l1 (by omega)).trans k1
  have s2 := hg2.size
  have l2 : w.heap.size < w2.heap.size := by omega
  have l2' : ¬ w.heap.size = w2.heap.size := by omega
  have HG2 := Lib.hid hg2
  have HM2 := Lib.hid hM2
  have HMA := Lib.hid hMA
  have k3 : (w2.alloc (.cells #[.slice (some ⟨gm, 0, none⟩) es.length cap] 65)).cell? ⟨w2.heap.size, 0, none⟩ = some (.slice (some ⟨gm, 0, none⟩) es.length cap) := by simp
  have k4 : (w2.alloc (.cells #[.slice (some ⟨gm, 0, none⟩) es.length cap] 65)).cell? ⟨w.heap.size, 0, none⟩ = some (.int .i64 s) := by rw [World.cell?_alloc_lt _ _ _ l2]; exact k2
  have hsr := search_any 57 #[.pointer (some ⟨w2.heap.size, 0, none⟩), .pointer (some ⟨w.heap.size, 0, none⟩)] es.length (fun i => decide (s < startOf (es.getD i (0, 0)))) (w2.alloc (.cells #[.slice (some ⟨gm, 0, none⟩) es.length cap] 65)) Tryz.call57 (by omega)
    (fun W hW i hi => at1_any s i es.length cap gm w2.heap.size w.heap.size es W rfl hi hcap ((hW.cell (by simp)).trans k3) ((hW.cell (by simp; omega)).trans k4) (HMA.out.below (below_to (below_al (Below.refl _ _) _) hW) hgm))
    (fun a b hab hb h => by have := (day_le HP.out hab hb).2; simp only [decide_eq_true_eq] at h ⊢; omega)
  change Calls _ _ _ _ (fun e w' => e = .returned (.int .i64 ((cnt startOf es s : Nat) : Int)) ∧ _) at hsr
  have HSR := Lib.hid hsr
  clear hsr hg2 hM2 hMA s2
  go_wp2_with fail
  refine HSR.out.mono ?_
  rintro e w3 ⟨rfl, hb3⟩
  have k5 : w3.cell? ⟨w2.heap.size, 0, none⟩ = some (.slice (some ⟨gm, 0, none⟩) es.length cap) := (hb3.cell (by simp)).trans k3
  have hMA3 := HMA.out.below (below_to (below_al (Below.refl _ _) _) hb3) hgm
  have hLM3 := HM2.out.below (below_to (below_al (Below.refl _ _) _) hb3)
  have hgr : w.grownBy w3 (some g) := gr_bel (gr_al (gr_tr (gr_tr (gr_al (World.grownBy.refl w _) _) HG1.out (.inl rfl)) HG2.out (.inl rfl)) _) hb3
  have hL3 : IsL w3 g u x es (wrap64 (q + 1)) := hLM3.isL
  have HGR := Lib.hid hgr
  have HL3 := Lib.hid hL3
  have hcl := cnt_le startOf es s
  by_cases h0 : cnt startOf es s = 0
  · have hv : atV es s = 0 := by simp [atV, h0]
    have hu : atU es s = 0 := by simp [atU, h0]
    have he : atE es s = 8 := by simp [atE, h0]
    rw [h0]
    have HV := Lib.hid hv
    have HU := Lib.hid hu
    have HE := Lib.hid he
    clear hgr hL3 hMA3 hLM3 hb3 hv hu he k1 k2 k4
    go_wp2
    go_ret3
    exact ⟨by rw [HV.out, HU.out, HE.out]; rfl, HL3.out, HGR.out⟩
  have he : atE es s = 0 := by simp [atE, h0]
  have hv : atV es s = (es.getD (cnt startOf es s - 1) (0, 0)).2 := by simp [atV, h0]
  obtain ⟨m, hm⟩ : ∃ m, cnt startOf es s = m + 1 := ⟨cnt startOf es s - 1, by omega⟩
  have c0 := (hMA3 m (by omega)).2.1
  rw [hm, show m + 1 - 1 = m by omega] at hv
  obtain ⟨oa, hoa⟩ : ∃ D, D = (es.getD m (0, 0)).2 := ⟨_, rfl⟩
  rw [← hoa] at c0 hv
  have g1 : ((m : Int) + 1 == 0) = false := by rw [beq_eq_false_iff_ne]; omega
  have i0 : (0 : Int) ≤ (m : Int) := by omega
  have i3 : (m : Int) < (es.length : Int) := by omega
  have hw3 : IntKind.i64.wrap ((m : Int) + 1 - 1) = (m : Int) := by rw [show (m : Int) + 1 - 1 = m by omega]; exact IntWalk.i64_in _ (by omega)
  have HE := Lib.hid he
  have HV := Lib.hid hv
  by_cases h1 : cnt startOf es s = es.length
  · have hu : atU es s = 4611686018427387904 := by simp only [atU]; rw [if_neg h0, if_pos h1]
    have HU := Lib.hid hu
    have g2 : ((m : Int) + 1 == (es.length : Int)) = true := by rw [beq_iff_eq]; omega
    rw [hm, show ((m + 1 : Nat) : Int) = (m : Int) + 1 by omega]
    clear hgr hL3 hMA3 hLM3 hb3 hv hu he k1 k2 k4 hm h0 h1 hoa hcl
    go_wp2
    go_ret3
    exact ⟨by rw [HV.out, HU.out, HE.out]; rfl, HL3.out, HGR.out⟩
  · have hmi : m + 1 < es.length := by omega
    have c1 := (hMA3 (m + 1) hmi).1
    have hu : atU es s = dayOf (es.getD (m + 1) (0, 0)) := by simp only [atU]; rw [if_neg h0, if_neg h1, hm]
    obtain ⟨D, hD⟩ : ∃ D, D = dayOf (es.getD (m + 1) (0, 0)) := ⟨_, rfl⟩
    rw [← hD] at c1 hu
    have HU := Lib.hid hu
    have g2 : ((m : Int) + 1 == (es.length : Int)) = false := by rw [beq_eq_false_iff_ne]; omega
    have i1 : (0 : Int) ≤ (m : Int) + 1 := by omega
    have i2 : (m : Int) + 1 < (es.length : Int) := by omega
    rw [hm, show ((m + 1 : Nat) : Int) = (m : Int) + 1 by omega]
    clear hgr hL3 hMA3 hLM3 hb3 hv hu he k1 k2 k4 hm h0 h1 hoa hcl hD
    go_wp2
    go_quiet (fail)
    go_wp2
    go_ret3
    exact ⟨by rw [HV.out, HU.out, HE.out]; rfl, gr_dr_isL HL3.out _, gr_drN HGR.out _⟩

/-! ### New -/
def NewPost (u x : Int) (es : List (Int × Int)) (w : World) (e : Ending) (w' : World) : Prop :=
  ∃ g, e = .returned (.tuple #[.pointer (some ⟨g, 0, none⟩), .int .i64 0]) ∧ IsL w' g u x es 0 ∧ w.heap.size ≤ g ∧ Below w.heap.size w w'

set_option maxRecDepth 100000 in
set_option maxHeartbeats 2000000 in
theorem new_yes (v : Value) (es : List (Int × Int)) (u x : Int) (w : World) (hv : Ents w w.heap.size v es) (hu : I64 u) (hx : I64 x) (hes : ∀ i, I64 (es.getD i (0, 0)).1 ∧ I64 (es.getD i (0, 0)).2) (hok : okT u x es = true) :
    Calls Tryz.prog 5 #[.agg #[.int .i64 u, .int .i64 x, v]] w (NewPost u x es w) := by
  have hv0 : Ents (w.alloc (.cells #[.int .i64 u, .int .i64 x, v] 24)) (w.alloc (.cells #[.int .i64 u, .int .i64 x, v] 24)).heap.size v es := (hv.below (below_al (Below.refl _ _) _)).mono (by simp)
  have hch := check_any v es u x _ hv0 hu hx hes
  have HCH := Lib.hid hch
  have HV0 := Lib.hid hv0
  have HOK := Lib.hid hok
  obtain ⟨A, c, rfl, _⟩ := hv
  generalize es.length = n at *
  have HL64 := Lib.hid (okT_pre hok).2.2
  clear hch hv0 hok
  go_enter Tryz.func5, Tryz.ntmps5
  go_wp2_with fail
  refine HCH.out.mono ?_
  rintro e w1 ⟨m, rfl, hb1⟩
  obtain ⟨hcl, hfr⟩ := bcell hb1
  have hz := hb1.size
  rw [HOK.out]
  have k0 : w1.cell? ⟨w.heap.size, 0, none⟩ = some (.int .i64 u) := (hcl _ _ (by simp)).trans (by simp)
  have k1 : w1.cell? ⟨w.heap.size, 1, none⟩ = some (.int .i64 x) := (hcl _ _ (by simp)).trans (by simp)
  have k2 : w1.cell? ⟨w.heap.size, 2, none⟩ = some (.slice A n c) := (hcl _ _ (by simp)).trans (by simp)
  have hv1 : Ents w1 w1.heap.size (.slice A n c) es := (HV0.out.below hb1).mono hz
  have HOW := Lib.hid (own_any (.slice A n c) es u x w1 hv1 HL64.out)
  have HB1 := Lib.hid (below_to (below_al (Below.refl w.heap.size w) _) hb1)
  have he0 : errT true = 0 := rfl
  simp only [World.size_alloc] at hz
  clear hcl hfr hb1 hv1
  rw [he0]
  clear he0
  go_wp2_with fail
  refine HOW.out.mono ?_
  rintro e w2 ⟨ge, rfl, hBk, hge, hb2⟩
  have HBK := Lib.hid hBk
  have HB2 := Lib.hid hb2
  have hs2 := hb2.size
  clear hBk hb2
  go_wp2
  go_ret2
  have hbk : Blk (w2.alloc (.cells #[.int .i64 u, .int .i64 x, .slice (some ⟨ge, 0, none⟩) es.length es.length, .int .u32 0, .int .i32 0, .int .u32 0, .slice none 0 0, .int .i64 0] 70)) w2.heap.size 70 #[.int .i64 u, .int .i64 x, .slice (some ⟨ge, 0, none⟩) es.length es.length, .int .u32 0, .int .i32 0, .int .u32 0, .slice none 0 0, .int .i64 0] := Blk.new w2 _ _
  have hlt := HBK.out.lt
  have hl := HB1.out.size
  exact ⟨w2.heap.size, rfl, ⟨HOK.out, ge, 0, _, by omega, hbk, HBK.out.alloc _, .inl ⟨rfl, rfl⟩⟩, by omega, below_al (below_to HB1.out HB2.out) _⟩

set_option maxRecDepth 100000 in
set_option maxHeartbeats 2000000 in
theorem new_no (v : Value) (es : List (Int × Int)) (u x : Int) (w : World) (hv : Ents w w.heap.size v es) (hu : I64 u) (hx : I64 x) (hes : ∀ i, I64 (es.getD i (0, 0)).1 ∧ I64 (es.getD i (0, 0)).2) (hok : okT u x es = false) :
    Calls Tryz.prog 5 #[.agg #[.int .i64 u, .int .i64 x, v]] w fun e w' => e = .returned (.tuple #[.pointer none, .int .i64 10]) ∧ Below w.heap.size w w' := by
  have hv0 : Ents (w.alloc (.cells #[.int .i64 u, .int .i64 x, v] 24)) (w.alloc (.cells #[.int .i64 u, .int .i64 x, v] 24)).heap.size v es := (hv.below (below_al (Below.refl _ _) _)).mono (by simp)
  have hch := check_any v es u x _ hv0 hu hx hes
  have HCH := Lib.hid hch
  have HOK := Lib.hid hok
  obtain ⟨A, c, rfl, _⟩ := hv
  generalize es.length = n at *
  clear hch hv0 hok
  go_enter Tryz.func5, Tryz.ntmps5
  go_wp2_with fail
  refine HCH.out.mono ?_
  rintro e w1 ⟨m, rfl, hb1⟩
  rw [HOK.out]
  have HB1 := Lib.hid (below_to (below_al (Below.refl w.heap.size w) _) hb1)
  have he0 : errT false = 10 := rfl
  clear hb1
  rw [he0]
  clear he0
  go_wp2
  go_ret2
  exact ⟨rfl, HB1.out⟩

/-! ### Table -/
def TablePost (g : Nat) (u x q : Int) (es : List (Int × Int)) (w : World) (e : Ending) (w' : World) : Prop :=
  ∃ ge, e = .returned (.agg #[.int .i64 u, .int .i64 x, .slice (some ⟨ge, 0, none⟩) es.length es.length]) ∧ Blk w' ge 72 (es.flatMap entC).toArray ∧ w.heap.size ≤ ge ∧ Below w.heap.size w w'

/-! ### a table that is none -/
theorem count_nil (w : World) : Calls Tryz.prog 45 #[.pointer none] w fun e w' => e = .returned (.bool false) ∧ w = w' := by
  go_enter Tryz.func45, Tryz.ntmps45
  go_wp2
  go_ret
  exact ⟨rfl, rfl⟩
theorem offset_nil (day : Int) (w : World) : Calls Tryz.prog 18 #[.pointer none, .int .i64 day] w fun e w' => e = .returned (.tuple #[.int .i64 0, .int .i64 12]) ∧ Below w.heap.size w w' := by
  go_enter Tryz.func18, Tryz.ntmps18
  go_wp2
  go_ret2
  exact ⟨rfl, (by repeat (first | exact Below.refl _ _ | assumption | refine below_al ?_ _ | refine below_dr ?_ | refine below_drN ?_ _ | refine below_set ?_ (by simp; try omega) _ | (refine below_to ?_ (by assumption))))⟩
theorem length_nil (day : Int) (w : World) : Calls Tryz.prog 44 #[.pointer none, .int .i64 day] w fun e w' => e = .returned (.tuple #[.int .i64 0, .int .i64 12]) ∧ Below w.heap.size w w' := by
  go_enter Tryz.func44, Tryz.ntmps44
  go_wp2
  go_ret2
  exact ⟨rfl, (by repeat (first | exact Below.refl _ _ | assumption | refine below_al ?_ _ | refine below_dr ?_ | refine below_drN ?_ _ | refine below_set ?_ (by simp; try omega) _ | (refine below_to ?_ (by assumption))))⟩
theorem at_nil (s : Int) (w : World) : Calls Tryz.prog 34 #[.pointer none, .int .i64 s] w fun e w' => e = .returned (.tuple #[.int .i64 0, .int .i64 0, .int .i64 12]) ∧ Below w.heap.size w w' := by
  go_enter Tryz.func34, Tryz.ntmps34
  go_wp2
  go_ret3
  exact ⟨rfl, (by repeat (first | exact Below.refl _ _ | assumption | refine below_al ?_ _ | refine below_dr ?_ | refine below_drN ?_ _ | refine below_set ?_ (by simp; try omega) _ | (refine below_to ?_ (by assumption))))⟩
theorem first_nil (w : World) : Calls Tryz.prog 60 #[.pointer none] w fun e w' => e = .returned (.int .i64 0) ∧ Below w.heap.size w w' := by
  go_enter Tryz.func60, Tryz.ntmps60
  go_wp2
  go_ret
  exact ⟨rfl, (by repeat (first | exact Below.refl _ _ | assumption | refine below_al ?_ _ | refine below_dr ?_ | refine below_drN ?_ _ | refine below_set ?_ (by simp; try omega) _ | (refine below_to ?_ (by assumption))))⟩
end Go.Proofs.YtibdhpffdkiggaaGreat
