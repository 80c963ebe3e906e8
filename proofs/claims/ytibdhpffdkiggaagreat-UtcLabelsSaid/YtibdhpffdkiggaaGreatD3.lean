/- Walks of package leaps: make. -/
import Derived.Test.YtibdhpffdkiggaaGreatD2
import Derived.Deep.AppendLies
import Derived.Deep.RegionLaw
import Derived.StillTailTactics
namespace Go.Proofs.YtibdhpffdkiggaaGreat
open Go.RowKit
set_option linter.unusedVariables false
set_option linter.unusedSimpArgs false

/-- an entry's day -/
def dayOf (e : Int × Int) : Int := 15020 + e.1 / 86400
/-- the TAI second with which it begins -/
def startOf (e : Int × Int) : Int := dayOf e * 86400 + e.2
def markC (e : Int × Int) : List Value := [.int .i64 (dayOf e), .int .i64 e.2, .int .i64 (startOf e)]
theorem markC_len (e : Int × Int) : (markC e).length = 3 := rfl
theorem okPre_len {es : List (Int × Int)} (h : okPre es es.length = true) : es.length ≤ 64 := by
  rcases Nat.eq_zero_or_pos es.length with h0 | h0
  · omega
  · have := okE_off (okPre_at h (show es.length - 1 < es.length by omega))
    have h2 := this.2.2.2.2.2
    rw [List.length_take] at h2
    omega
theorem okPre_num {es : List (Int × Int)} (h : okPre es es.length = true) {i : Nat} (hi : i < es.length) : 0 ≤ (es.getD i (0, 0)).1 ∧ (es.getD i (0, 0)).1 ≤ 1125899906842624 ∧ 0 ≤ (es.getD i (0, 0)).2 ∧ (es.getD i (0, 0)).2 ≤ 1000 ∧ (es.getD i (0, 0)).1 % 86400 = 0 := by
  have := okE_off (okPre_at h hi)
  omega
theorem mark_info : ∃ i, Tryz.prog.info? 101 = some i ∧ i.zero = some (.agg #[.int .i64 0, .int .i64 0, .int .i64 0]) ∧ i.size = 3 ∧ i.bytes = 24 :=
  info_parts (show (Tryz.prog.info? 101).map (fun i => (i.zero, i.size, i.bytes)) = some (some (.agg #[.int .i64 0, .int .i64 0, .int .i64 0]), 3, 24) by kernel_rfl)
theorem take_snoc' {α : Type} (l : List α) (k : Nat) (d : α) (h : k < l.length) : l.take (k + 1) = l.take k ++ [l.getD k d] := by
  rw [List.take_succ_eq_append_getElem h, List.getD_eq_getElem?_getD, List.getElem?_eq_getElem h]; rfl

/-! ### only block g has turned, and what is new -/
theorem gr_al {w W : World} {r : Option Nat} (h : w.grownBy W r) (o : Obj) : w.grownBy (W.alloc o) r :=
  ⟨h.os, h.tape, h.output, Nat.le_trans h.size (by simp), fun i hi hne => (Below.heap_alloc W o i (Nat.lt_of_lt_of_le hi h.size)).trans (h.block i hi hne)⟩
theorem gr_dr {w W : World} {r : Option Nat} (h : w.grownBy W r) : w.grownBy W.drew r := ⟨h.os, h.tape, h.output, h.size, h.block⟩
theorem gr_drN {w W : World} {r : Option Nat} (h : w.grownBy W r) (n : Nat) : w.grownBy (W.drewN n) r := ⟨h.os, h.tape, h.output, h.size, h.block⟩
theorem gr_set {w W : World} {g : Nat} (h : w.grownBy W (some g)) {p : Addr} (hp : p.block = g ∨ w.heap.size ≤ p.block) (u : Value) : w.grownBy (W.setCell p u) (some g) :=
  ⟨h.os, h.tape, h.output, by simpa [World.setCell] using h.size, fun i hi hne => (Below.heap_setCell W p u i (by
    rintro rfl
    rcases hp with hp | hp
    · exact hne (by rw [hp])
    · omega)).trans (h.block i hi hne)⟩
theorem gr_bel {w W W' : World} {r : Option Nat} (h : w.grownBy W r) (k : Below W.heap.size W W') : w.grownBy W' r :=
  ⟨k.os.trans h.os, k.tape.trans h.tape, k.output.trans h.output, Nat.le_trans h.size k.size, fun i hi hne => (k.block i (Nat.lt_of_lt_of_le hi h.size)).trans (h.block i hi hne)⟩
theorem gr_of_bel {w W : World} (h : Below w.heap.size w W) (r : Option Nat) : w.grownBy W r := ⟨h.os, h.tape, h.output, h.size, fun i hi _ => h.block i hi⟩
theorem gr_tr {w W W' : World} {r r' : Option Nat} (h : w.grownBy W r) (k : W.grownBy W' r') (hr : r' = r ∨ r' = none ∨ ∀ i, r' = some i → w.heap.size ≤ i) : w.grownBy W' r :=
  ⟨k.os.trans h.os, k.tape.trans h.tape, k.output.trans h.output, Nat.le_trans h.size k.size, fun i hi hne => (k.block i (Nat.lt_of_lt_of_le hi h.size) (by
    rcases hr with rfl | rfl | hr
    · exact hne
    · simp
    · intro e; have := hr i e.symm; omega)).trans (h.block i hi hne)⟩

set_option maxRecDepth 100000 in
set_option maxHeartbeats 4000000 in
theorem make_any (g ge : Nat) (u x : Value) (a3 a4 a5 a7 : Value) (es : List (Int × Int)) (w : World) (hok : okPre es es.length = true)
    (hg : Blk w g 70 #[u, x, .slice (some ⟨ge, 0, none⟩) es.length es.length, a3, a4, a5, .slice none 0 0, a7]) (he : Blk w ge 72 (es.flatMap entC).toArray) :
    Calls Tryz.prog 64 #[.pointer (some ⟨g, 0, none⟩)] w fun e w' => e = .returned (.tuple #[]) ∧ ∃ mv, Blk w' g 70 #[u, x, .slice (some ⟨ge, 0, none⟩) es.length es.length, a3, a4, a5, mv, a7] ∧
      w'.ownsRow w.heap.size 101 3 mv es.length (es.flatMap markC) ∧ w.grownBy w' (some g) := by
  have hlen := okPre_len hok
  have hnum := fun i (hi : i < es.length) => okPre_num hok hi
  have hent := he.ents (c := es.length) (Nat.le_refl _) (by omega) he.lt
  obtain ⟨n, hn⟩ : ∃ n, n = es.length := ⟨_, rfl⟩
  rw [← hn] at hg hlen hnum hent ⊢
  have HN := Lib.hid hn
  have HNUM := Lib.hid hnum
  clear hn hok hnum
  have c2 := hg.cell 2
  simp at c2
  obtain ⟨i0, hi0, hz0, hz1, hz2⟩ := mark_info
  have HI0 := Lib.hid hi0
  have HZ0 := Lib.hid hz0
  have HZ1 := Lib.hid hz1
  have HZ2 := Lib.hid hz2
  have hgl := hg.lt
  have hel := he.lt
  clear hi0 hz0 hz1 hz2
  have HE := Lib.hid he
  have HG := Lib.hid hg
  have HT := Lib.hid hent
  clear he hg hent
  go_enter Tryz.func64, Tryz.ntmps64
  go_wp2
  go_loopw [11] (fun i wr => ∃ (k : Nat) (mv : Value), k ≤ n ∧ i = .int .i64 k ∧ Hid (Blk wr g 70 #[u, x, .slice (some ⟨ge, 0, none⟩) n n, a3, a4, a5, mv, a7]) ∧ Hid (wr.ownsRow w.heap.size 101 3 mv k ((es.take k).flatMap markC)) ∧ Hid (w.grownBy wr (some g))) (fun i _ => n - (intOf i).toNat)
  case atStart => exact ⟨0, _, Nat.zero_le _, rfl, HG.out, by rw [List.take_zero]; exact World.ownsRow_nil _ _ _ _, World.grownBy.refl w _⟩
  case round =>
    obtain ⟨k, mv, hk, rfl, hB, hO, hW⟩ := hrel
    by_cases hlt : k < n
    · have hN := HNUM.out k hlt
      obtain ⟨⟨a, o⟩, hE⟩ : ∃ e, e = es.getD k (0, 0) := ⟨_, rfl⟩
      rw [← hE] at hN
      obtain ⟨n0, n1, n2, n3, n4⟩ := hN
      simp only at n0 n1 n2 n3 n4
      obtain ⟨A', c', e', h1', h2', h3'⟩ := HT.out
      simp only [Value.slice.injEq] at e'
      obtain ⟨rfl, hx1, rfl⟩ := e'
      clear hx1 h1' h2'
      obtain ⟨b', off', hA', hb', hcell'⟩ := h3' (by rw [← HN.out]; omega)
      simp only [Option.some.injEq, Addr.mk.injEq] at hA'
      obtain ⟨rfl, rfl, hx2⟩ := hA'
      clear hx2 h3'
      have hc' := hcell' k (by rw [← HN.out]; omega)
      clear hcell'
      rw [← hE] at hc'
      obtain ⟨e0, e1⟩ := hc'
      have hge : g ≠ ge := by
        intro h; subst h
        have h1 := HE.out; have h2 := HG.out
        unfold Blk at h1 h2
        rw [h1] at h2
        simp at h2
      have f0 : wr.cell? ⟨ge, 0 + k * 2, none⟩ = some (.int .i64 a) := (World.cell?_of_block (hW.out.block ge hel (by simp; omega))).trans e0
      have f1 : wr.cell? ⟨ge, 0 + k * 2 + 1, none⟩ = some (.int .i64 o) := (World.cell?_of_block (hW.out.block ge hel (by simp; omega))).trans e1
      rw [Nat.zero_add] at f0 f1
      have c6 := hB.out.cell 6
      simp at c6
      have z6 := hB.out.frozen 6
      have hwsz := hW.out.size
      have hgr : g < wr.heap.size := by omega
      have HE' := Lib.hid hE
      have HN4 := Lib.hid n4
      clear hE e0 e1 n4
      go_wp2
      have hw1 : IntKind.i64.wrap ((15020 + a / 86400) * 86400) = (15020 + a / 86400) * 86400 := IntWalk.i64_in _ (by omega)
      have hw2 : IntKind.i64.wrap ((15020 + a / 86400) * 86400 + o) = (15020 + a / 86400) * 86400 + o := IntWalk.i64_in _ (by omega)
      have hnews : ∀ j u, ([.int .i64 (15020 + a / 86400), .int .i64 o, .int .i64 ((15020 + a / 86400) * 86400 + o)] : List Value)[j]? = some u → (((wr.alloc (.cells #[.int .i64 a, .int .i64 o] 72)).alloc (.cells #[.int .i64 (15020 + a / 86400), .int .i64 o, .int .i64 ((15020 + a / 86400) * 86400 + o)] 101)).drew).cell? ((⟨wr.heap.size + 1, 0, none⟩ : Addr).add j) = some u := by
        have := World.news_of_block (heap_alloc_new (wr.alloc (.cells #[.int .i64 a, .int .i64 o] 72)) (.cells #[.int .i64 (15020 + a / 86400), .int .i64 o, .int .i64 ((15020 + a / 86400) * 86400 + o)] 101))
        intro j u hj
        have h2 := this j u hj
        simpa using h2
      have hne : some g ≠ mv.ownBlock := fun e => by have := hO.out.lt g e.symm; omega
      have HNEWS := Lib.hid hnews
      clear hnews
      go_region_law
        (refine step_append_lies _ (by rfl) _ _ _ (by rfl) w.heap.size 101 i0 _ 3 24 Tryz.underlying65 HI0.out HZ0.out HZ1.out HZ2.out rfl (by omega) mv k ((es.take k).flatMap markC) (by rfl) (((hO.out.alloc _).alloc _).drew)
          (⟨wr.heap.size + 1, 0, none⟩ : Addr) 1 1 [.int .i64 (15020 + a / 86400), .int .i64 o, .int .i64 ((15020 + a / 86400) * 86400 + o)] (by rfl) (by rfl) HNEWS.out (by simp [Value.oneCell'])
          (by omega) (by unfold maxLen; omega) (by omega) (by simp; omega) (wr.heap.size + 1 + 1) (by simp) ?_; intro gg cap w1 hown1 hgrow hat hlt1; have hB1 := (((hB.out.alloc _).alloc _).drew).grown hgrow hne; have y6 := hB1.cell 6; have yz6 := hB1.frozen 6; simp at y6)
      all_goals
        have m1 := hB1.set_ 6 (.slice (some ⟨gg, 0, none⟩) (k + 1) cap)
        have m2 := ownsRow_setCell_below hown1 (a := ⟨g, 6, none⟩) hgl (.slice (some ⟨gg, 0, none⟩) (k + 1) cap)
        have m3 : w.grownBy (w1.setCell ⟨g, 6, none⟩ (.slice (some ⟨gg, 0, none⟩) (k + 1) cap)) (some g) :=
          gr_set (gr_tr (gr_dr (gr_al (gr_al hW.out _) _)) hgrow (.inr (.inr fun i hi => (hO.out.lt i hi).1))) (.inl rfl) _
        have M1 := Lib.hid m1
        have M2 := Lib.hid m2
        have M3 := Lib.hid m3
        clear m1 m2 m3 hown1 hgrow hat hlt1 hB1
        go_wp2
        go_roundw
        case rel =>
          refine ⟨k + 1, _, by omega, by go_num, M1.out, ?_, M3.out⟩
          have := M2.out
          rw [take_snoc' es k (0, 0) (by rw [← HN.out]; omega), List.flatMap_append, ← HE'.out]
          exact this
        case measure => simp [intOf]; omega
    · obtain rfl : k = n := by omega
      go_wp2
      go_end0
      refine ⟨rfl, mv, hB.out, ?_, hW.out⟩
      have := hO.out
      rw [HN.out, List.take_length] at this
      rw [HN.out]
      exact this
end Go.Proofs.YtibdhpffdkiggaaGreat
