/- LeapsOwn: the law returns true when the entries read weigh at most the reach. -/
import Derived.Test.YtdbhgeihphjgeaaF4
import Derived.Test.YtdbhgeihphjgeaaG1
namespace Go.Proofs.Ytdbhgeihphjgeaa
open Go.RowKit
set_option linter.unusedVariables false
set_option linter.unusedSimpArgs false

def NewPost2 (u x : Int) (es : List (Int × Int)) (w : World) (e : Ending) (w' : World) : Prop :=
  ∃ g ge, e = .returned (.tuple #[.pointer (some ⟨g, 0, none⟩), .int .i64 0]) ∧ g ≠ ge ∧ Blk w' g 111 #[.int .i64 u, .int .i64 x, .slice (some ⟨ge, 0, none⟩) es.length es.length, .int .u32 0, .int .i32 0, .int .u32 0, .slice none 0 0, .int .i64 0] ∧
    Blk w' ge 43 (es.flatMap entC).toArray ∧ w.heap.size ≤ g ∧ w.heap.size ≤ ge ∧ Below w.heap.size w w'

set_option maxRecDepth 100000 in
set_option maxHeartbeats 2000000 in
theorem new_yes2 (v : Value) (es : List (Int × Int)) (u x : Int) (w : World) (hv : Ents w w.heap.size v es) (hu : I64 u) (hx : I64 x) (hes : ∀ i, I64 (es.getD i (0, 0)).1 ∧ I64 (es.getD i (0, 0)).2) (hok : okT u x es = true) :
    Calls Try.prog 20 #[.agg #[.int .i64 u, .int .i64 x, v]] w (NewPost2 u x es w) := by
  have hv0 : Ents (w.alloc (.cells #[.int .i64 u, .int .i64 x, v] 24)) (w.alloc (.cells #[.int .i64 u, .int .i64 x, v] 24)).heap.size v es := (hv.below (below_al (Below.refl _ _) _)).mono (by simp)
  have hch := check_any v es u x _ hv0 hu hx hes
  have HCH := Lib.hid hch
  have HV0 := Lib.hid hv0
  have HOK := Lib.hid hok
  obtain ⟨A, c, rfl, _⟩ := hv
  generalize es.length = n at *
  have HL64 := Lib.hid (okT_pre hok).2.2
  clear hch hv0 hok
  go_enter Try.func20, Try.ntmps20
  go_wp2_with fail
  refine HCH.out.mono ?_
  rintro e w1 ⟨m, rfl, hb1⟩
  obtain ⟨hcl, hfr⟩ := bcell hb1
  have hz := hb1.size
  rw [HOK.out]
  have k0 : w1.cell? ⟨w.heap.size, 0, none⟩ = some (.int .i64 u) := (hcl _ _ (by simp)).trans (by simp)
  have k1 : w1.cell? ⟨w.heap.size, 1, none⟩ = some (.int .i64 x) := (hcl _ _ (by simp)).trans (by simp)
  have k2 : w1.cell? ⟨w.heap.size, 2, none⟩ = some (.slice A n c) := (hcl _ _ (by simp)).trans (by simp)
  have hv1 : Ents w1 w1.heap.size (.slice A n c) es := (HV0.out.below hb1).mono hz
  have HOW := Lib.hid (own_any (.slice A n c) es u x w1 hv1 HL64.out)
  have HB1 := Lib.hid (below_to (below_al (Below.refl w.heap.size w) _) hb1)
  have he0 : errT true = 0 := rfl
  simp only [World.size_alloc] at hz
  clear hcl hfr hb1 hv1
  rw [he0]
  clear he0
  go_wp2_with fail
  refine HOW.out.mono ?_
  rintro e w2 ⟨ge, rfl, hBk, hge, hb2⟩
  have HBK := Lib.hid hBk
  have HB2 := Lib.hid hb2
  have hs2 := hb2.size
  clear hBk hb2
  go_wp2
  go_ret2
  have hbk : Blk (w2.alloc (.cells #[.int .i64 u, .int .i64 x, .slice (some ⟨ge, 0, none⟩) es.length es.length, .int .u32 0, .int .i32 0, .int .u32 0, .slice none 0 0, .int .i64 0] 111)) w2.heap.size 111 #[.int .i64 u, .int .i64 x, .slice (some ⟨ge, 0, none⟩) es.length es.length, .int .u32 0, .int .i32 0, .int .u32 0, .slice none 0 0, .int .i64 0] := Blk.new w2 _ _
  have hlt := HBK.out.lt
  have hl := HB1.out.size
  exact ⟨w2.heap.size, ge, rfl, by omega, hbk, HBK.out.alloc _, by omega, by omega, below_al (below_to HB1.out HB2.out) _⟩

theorem ad_add2 (b o j : Nat) : (⟨b, o, none⟩ : Addr).add j = ⟨b, o + j, none⟩ := by unfold Addr.add; split <;> simp_all
theorem len_flat (es : List (Int × Int)) : (es.flatMap entC).length = es.length * 2 := by
  induction es with
  | nil => rfl
  | cons a l ih => simp only [List.flatMap_cons, List.length_append, ih, List.length_cons]; simp [entC]; omega

theorem Ents.reads {w : World} {B n c : Nat} {A : Option Addr} {es : List (Int × Int)} (h : Ents w B (.slice A n c) es) (hn : n = es.length) : Reads w B 2 A n (es.flatMap entC) := by
  obtain ⟨A', c', e, h1, h2, h3⟩ := h
  simp only [Value.slice.injEq] at e
  obtain ⟨rfl, _, rfl⟩ := e
  subst hn
  refine ⟨len_flat es, fun hp => ?_⟩
  obtain ⟨b, off, hA, hb, hc⟩ := h3 hp
  refine ⟨⟨b, off, none⟩, hA, hb, fun j v hj => ?_⟩
  have hjl : j < es.length * 2 := by rw [← len_flat]; exact (List.getElem?_eq_some_iff.1 hj).1
  have hk : j / 2 < es.length := by omega
  have h1 : es[j / 2]? = some (es.getD (j / 2) (0, 0)) := by simp [List.getD_eq_getElem?_getD, List.getElem?_eq_getElem hk]
  have a0 := flat_get entC 2 entC_len es (j / 2) 0 _ h1 (by omega)
  have a1 := flat_get entC 2 entC_len es (j / 2) 1 _ h1 (by omega)
  obtain ⟨c0, c1⟩ := hc (j / 2) hk
  rcases Nat.mod_two_eq_zero_or_one j with hm | hm
  · have e : j = j / 2 * 2 + 0 := by omega
    rw [e, a0] at hj
    rw [ad_add2, e]
    simp only [entC] at hj
    rw [show (off + (j / 2 * 2 + 0)) = off + j / 2 * 2 by omega, c0]
    simpa using hj
  · have e : j = j / 2 * 2 + 1 := by omega
    rw [e, a1] at hj
    rw [ad_add2, e]
    simp only [entC] at hj
    rw [show (off + (j / 2 * 2 + 1)) = off + j / 2 * 2 + 1 by omega, c1]
    simpa using hj

theorem ents_cur {w : World} {g B c : Nat} {t : TypeId} {cur : Array Value} {es : List (Int × Int)} (h : Blk w g t cur) (ht : cur.toList.take (es.length * 2) = es.flatMap entC) (hc : es.length ≤ c) (hc2 : c ≤ 9223372036854775807) (hB : g < B) : Ents w B (.slice (some ⟨g, 0, none⟩) es.length c) es := by
  refine ⟨_, _, rfl, hc, hc2, fun hp => ⟨g, 0, rfl, hB, fun i hi => ?_⟩⟩
  have h1 : es[i]? = some (es.getD i (0, 0)) := by simp [List.getD_eq_getElem?_getD, List.getElem?_eq_getElem hi]
  have a0 := flat_get entC 2 entC_len es i 0 _ h1 (by omega)
  have a1 := flat_get entC 2 entC_len es i 1 _ h1 (by omega)
  rw [← ht, List.getElem?_take, if_pos (by omega)] at a0 a1
  refine ⟨?_, ?_⟩
  · rw [h.cell]; simpa [entC, Array.getElem?_toList] using a0
  · rw [h.cell]; simpa [entC, Array.getElem?_toList, Nat.add_assoc] using a1

theorem own_form {w : World} {base n : Nat} {v : Value} {es : List (Int × Int)} (hn : n = es.length) (h : w.ownsRow base 43 2 v n (es.flatMap entC)) :
    ∃ A c, v = .slice A n c ∧ Ents w w.heap.size (.slice A n c) es ∧ (0 < n → ∃ g cur, A = some ⟨g, 0, none⟩ ∧ Blk w g 43 cur ∧ n ≤ c ∧ cur.size = c * 2 ∧ v.ownBlock = some g) := by
  rcases h.2 with ⟨rfl, h0⟩ | ⟨g, cap, cur, rfl, hb, hg, hnc, hcm, hcs, htake⟩
  · have he : es = [] := List.eq_nil_of_length_eq_zero (by omega)
    subst h0 he
    exact ⟨none, 0, rfl, ⟨none, 0, rfl, Nat.le_refl _, by omega, fun h => absurd h (by simp)⟩, fun h => by omega⟩
  · have hbk : Blk w g 43 cur := hg
    subst hn
    exact ⟨_, cap, rfl, ents_cur hbk htake hnc (by unfold maxLen at hcm; omega) hbk.lt, fun _ => ⟨g, cur, rfl, hbk, hnc, hcs, rfl⟩⟩

theorem own_first (w : World) (o1 o2 : Obj) : (((w.alloc o1).alloc o2).alloc (.cells #[] 43)).ownsRow w.heap.size 43 2 (.slice (some ⟨w.heap.size + 1 + 1, 0, none⟩) 0 0) 0 [] := by
  have h := World.ownsRow_made (base := w.heap.size) (e := 43) (size := 2) ((w.alloc o1).alloc o2) #[] 0 (by simp; omega) (by simp) rfl
  simpa using h

/-- the first loop's world -/
def Own1 (wr w : World) (gr g ge n c1 : Nat) (u x : Int) (A : Option Addr) (c : Nat) (es : List (Int × Int)) : Prop :=
  (∃ cur : Array Value, cur.size = c1 * 2 ∧ Blk wr gr 43 cur) ∧
  Blk wr g 111 #[.int .i64 u, .int .i64 x, .slice (some ⟨ge, 0, none⟩) es.length es.length, .int .u32 0, .int .i32 0, .int .u32 0, .slice none 0 0, .int .i64 0] ∧
  Blk wr ge 43 (es.flatMap entC).toArray ∧ Blk wr w.heap.size 24 #[.int .i64 u, .int .i64 x, .slice A n c] ∧
  Blk wr (w.heap.size + 1) 24 #[.int .i64 u, .int .i64 x, .slice (some ⟨gr, 0, none⟩) n c1] ∧ Below w.heap.size w wr
theorem Own1.u2 {wr w : World} {gr g ge n c1 : Nat} {u x : Int} {A : Option Addr} {c : Nat} {es : List (Int × Int)} (h : Own1 wr w gr g ge n c1 u x A c es) :
    wr.cell? ⟨w.heap.size + 1, 2, none⟩ = some (.slice (some ⟨gr, 0, none⟩) n c1) := by
  have := h.2.2.2.2.1.cell 2
  simpa using this
theorem Own1.st {wr w : World} {gr g ge n c1 : Nat} {u x : Int} {A : Option Addr} {c : Nat} {es : List (Int × Int)} (h : Own1 wr w gr g ge n c1 u x A c es) {j : Nat} (hj : j < c1 * 2) (h1 : w.heap.size + 1 < gr) (h2 : gr < g) (h3 : gr < ge) (v : Value) :
    (∃ a, wr.cell? ⟨gr, j, none⟩ = some a) ∧ wr.frozen? ⟨gr, j, none⟩ = false ∧ Own1 (wr.setCell ⟨gr, j, none⟩ v) w gr g ge n c1 u x A c es := by
  obtain ⟨⟨cur, hc, hR⟩, hg, he, hT, hU, hb⟩ := h
  exact ⟨⟨cur[j]'(by omega), by rw [hR.cell]; exact Array.getElem?_eq_getElem (by omega)⟩, hR.frozen j, ⟨⟨_, by simpa using hc, hR.set_ j v⟩, hg.far (by simp; omega) _, he.far (by simp; omega) _, hT.far (by simp; omega) _, hU.far (by simp; omega) _, below_set hb (by simp; omega) _⟩⟩

/-- the second loop's world -/
def Own2 (wq wr : World) (gt b n : Nat) (u x : Int) : Prop :=
  (∃ cur : Array Value, cur.size = n * 2 ∧ Blk wq gt 43 cur) ∧ Blk wq b 24 #[.int .i64 u, .int .i64 x, .slice (some ⟨gt, 0, none⟩) n n] ∧ Below wr.heap.size wr wq
theorem Own2.u2 {wq wr : World} {gt b n : Nat} {u x : Int} (h : Own2 wq wr gt b n u x) : wq.cell? ⟨b, 2, none⟩ = some (.slice (some ⟨gt, 0, none⟩) n n) := by
  have := h.2.1.cell 2
  simpa using this
theorem Own2.st {wq wr : World} {gt b n : Nat} {u x : Int} (h : Own2 wq wr gt b n u x) {j : Nat} (hj : j < n * 2) (h1 : gt < b) (h2 : wr.heap.size ≤ gt) (v : Value) :
    (∃ a, wq.cell? ⟨gt, j, none⟩ = some a) ∧ wq.frozen? ⟨gt, j, none⟩ = false ∧ Own2 (wq.setCell ⟨gt, j, none⟩ v) wr gt b n u x := by
  obtain ⟨⟨cur, hc, hR⟩, hB, hb⟩ := h
  exact ⟨⟨cur[j]'(by omega), by rw [hR.cell]; exact Array.getElem?_eq_getElem (by omega)⟩, hR.frozen j, ⟨⟨_, by simpa using hc, hR.set_ j v⟩, hB.far (by simp; omega) _, below_set hb (by simp; omega) _⟩⟩

set_option maxRecDepth 100000 in
set_option maxHeartbeats 4000000 in
theorem leapsOwn_walk (v : Value) (es : List (Int × Int)) (u x : Int) (w : World) (hv : Ents w w.heap.size v es) (hu : I64 u) (hx : I64 x) (hes : ∀ i, I64 (es.getD i (0, 0)).1 ∧ I64 (es.getD i (0, 0)).2) (hreach : es.length * 16 ≤ 140737488351232) :
    Calls Try.prog 6 #[.agg #[.int .i64 u, .int .i64 x, v]] w fun e w' => e = .returned (.bool true) ∧ Below w.heap.size w w' := by
  have hT := TB.mk w u x v es hv
  obtain ⟨i0, hi, hz0, hz1, hz2⟩ := entry_info
  have HI := Lib.hid hi
  have HZ0 := Lib.hid hz0
  have HZ1 := Lib.hid hz1
  have HZ2 := Lib.hid hz2
  have hvv := hv
  obtain ⟨A, c, rfl, _⟩ := hv
  have HRD := Lib.hid (hvv.reads rfl)
  have HA := Lib.hid answers12_any
  have HT := Lib.hid hT
  have HES := Lib.hid hes
  have H1 := Lib.hid (show ∀ u ∈ es.flatMap entC, u.oneCell' = true by intro u hu; simp only [List.mem_flatMap, entC] at hu; obtain ⟨a, _, ha⟩ := hu; simp at ha; rcases ha with rfl | rfl <;> rfl)
  have HE0 := Lib.hid hvv
  clear hi hz0 hz1 hz2 hvv hT hes
  obtain ⟨n, hn⟩ : ∃ n, n = es.length := ⟨_, rfl⟩
  rw [← hn] at hreach HRD HT HE0 ⊢
  have HN := Lib.hid hn
  clear hn
  go_enter Try.func6, Try.ntmps6
  have hown := Lib.hid (own_first w (.cells #[.int .i64 u, .int .i64 x, .slice A n c] 24) (.cells #[.int .i64 u, .int .i64 x, .slice A n c] 24))
  have hb63 : 0 + n ≤ maxLen := by unfold maxLen; omega
  have hrd := Lib.hid (HRD.out.below (below_al (below_al (below_al (Below.refl w.heap.size w) (.cells #[.int .i64 u, .int .i64 x, .slice A n c] 24)) (.cells #[.int .i64 u, .int .i64 x, .slice A n c] 24)) (.cells #[] 43)))
  go_wp2_with (at_builtin; refine wpList_append_any _ rfl _ _ _ rfl w.heap.size 43 i0 _ 2 16 Try.underlying22 HI.out HZ0.out HZ1.out HZ2.out rfl (by omega) (.slice (some ⟨w.heap.size + 1 + 1, 0, none⟩) 0 0) 0 [] rfl hown.out w.heap.size A n c (es.flatMap entC) rfl hrd.out H1.out hb63 (by omega) (by simp; omega) ?_)
  intro v1 w1 hown1 hgr1 hlies
  have HB := Lib.hid (below_gr (w := w) (g := w.heap.size + 1 + 1) (below_al (below_al (below_al (Below.refl w.heap.size w) (.cells #[.int .i64 u, .int .i64 x, .slice A n c] 24)) (.cells #[.int .i64 u, .int .i64 x, .slice A n c] 24)) (.cells #[] 43)) hgr1 (by omega))
  have hT1 : Blk w1 w.heap.size 24 #[.int .i64 u, .int .i64 x, .slice A n c] := (((Blk.new w _ _).alloc _).alloc _).grown hgr1 (by simp [Value.ownBlock]; omega)
  have hU1 : Blk w1 (w.heap.size + 1) 24 #[.int .i64 u, .int .i64 x, .slice A n c] := ((by simpa using Blk.new (w.alloc (.cells #[.int .i64 u, .int .i64 x, .slice A n c] 24)) 24 #[.int .i64 u, .int .i64 x, .slice A n c] : Blk _ (w.heap.size + 1) _ _).alloc _).grown hgr1 (by simp [Value.ownBlock])
  have hsz1 := hgr1.size
  simp only [World.size_alloc] at hsz1
  have hl1 : ∀ g, v1.ownBlock = some g → w.heap.size + 1 < g := by
    intro g hg
    rcases hlies with h | h
    · rw [h] at hg; simp [Value.ownBlock] at hg; omega
    · rw [h] at hg; simp at hg; omega
  try simp only [Nat.zero_add, List.nil_append] at hown1
  have q0 := hT1.cell 0
  have q1 := hT1.cell 1
  have q2 := hT1.cell 2
  have u0 := hU1.cell 0
  have u1 := hU1.cell 1
  have u2 := hU1.cell 2
  have uf0 := hU1.frozen 0
  have uf2 := hU1.frozen 2
  simp at q0 q1 q2 u0 u1 u2
  obtain ⟨A1, c1, rfl, hE1, hrow1⟩ := own_form HN.out hown1
  have gs1 : w1.grownBy (w1.setCell ⟨w.heap.size + 1, 2, none⟩ (.slice A1 n c1)) (some (w.heap.size + 1)) := gr_set (World.grownBy.refl w1 _) (.inl rfl) _
  have hE2 : Ents (w1.setCell ⟨w.heap.size + 1, 2, none⟩ (.slice A1 n c1)) (w1.setCell ⟨w.heap.size + 1, 2, none⟩ (.slice A1 n c1)).heap.size (.slice A1 n c1) es := by
    obtain ⟨A', c', e', hE', _⟩ := own_form HN.out (hown1.kept gs1 (.inr (fun h => by have := hl1 _ h; omega)))
    simp only [Value.slice.injEq] at e'
    obtain ⟨rfl, _, rfl⟩ := e'
    exact hE'
  have HB2 := Lib.hid (below_set HB.out (p := ⟨w.heap.size + 1, 2, none⟩) (by simp) (.slice A1 n c1))
  have HT2 := Lib.hid (hT1.far (p := ⟨w.heap.size + 1, 2, none⟩) (by simp) (.slice A1 n c1))
  have hU2 := hU1.set_ 2 (.slice A1 n c1)
  simp at hU2
  have HU2 := Lib.hid hU2
  have hsz2 : (w1.setCell ⟨w.heap.size + 1, 2, none⟩ (.slice A1 n c1)).heap.size = w1.heap.size := by simp
  cases hok : okT u x es
  · have HNO := Lib.hid (new_no _ es u x _ hE2 hu hx HES.out hok)
    clear hE2 hU2 hown1 hgr1 hlies hl1 hT1 hU1 hrow1 hE1 gs1 hok
    go_wp2_with fail
    refine HNO.out.mono ?_
    rintro e w3 ⟨rfl, hb3⟩
    have HB3 := Lib.hid (below_to HB2.out hb3)
    clear hb3
    go_wp2_with fail
    refine (HA.out _).mono ?_
    rintro e w4 ⟨rfl, hb4⟩
    have HB4 := Lib.hid (below_to HB3.out hb4)
    clear hb4
    go_wp2
    go_ret
    exact ⟨rfl, HB4.out⟩
  · have HYES := Lib.hid (new_yes2 _ es u x _ hE2 hu hx HES.out hok)
    have hpos : 0 < n := by have := (okT_pre hok).2.1; rw [HN.out]; exact this
    obtain ⟨gr, cur, rfl, hR1, hnc, hcs, hob⟩ := hrow1 hpos
    have hgr : w.heap.size + 1 < gr := hl1 _ hob
    have HR2 := Lib.hid (hR1.far (p := ⟨w.heap.size + 1, 2, none⟩) (by simp; omega) (.slice (some ⟨gr, 0, none⟩) n c1))
    have hgr2 := hR1.lt
    have HOK := Lib.hid hok
    clear hE2 hU2 hown1 hgr1 hlies hl1 hT1 hU1 hrow1 hE1 gs1 hok hob
    go_wp2_with fail
    refine HYES.out.mono ?_
    rintro e w3 ⟨g, ge, rfl, hne, hbg, hbe, hg3, hge3, hb3⟩
    rw [hsz2] at hg3 hge3
    have HB3 := Lib.hid (below_to HB2.out hb3)
    have hs3 := hb3.size
    rw [hsz2] at hs3
    have hT3 := HT2.out.below hb3 (by omega)
    have hU3 := HU2.out.below hb3 (by omega)
    have hR3 := HR2.out.below hb3 (by omega)
    have HO3 := Lib.hid (show Own1 w3 w gr g ge n c1 u x A c es from ⟨⟨cur, hcs, hR3⟩, hbg, hbe, hT3, hU3, HB3.out⟩)
    clear hbg hbe hT3 hU3 hR3 hb3 q0 q1 q2 u0 u1 u2 uf0 uf2 hR1
    go_wp2
    go_loopw [6] (fun i wr => ∃ k : Nat, k ≤ n ∧ i = .int .i64 k ∧ Hid (Own1 wr w gr g ge n c1 u x A c es)) (fun i _ => n - (intOf i).toNat)
    case atStart => exact ⟨0, Nat.zero_le _, rfl, HO3⟩
    case round =>
      obtain ⟨k, hk, rfl, HO⟩ := hrel
      have u2 := HO.out.u2
      by_cases hlt : k < n
      · have i1 : (0 : Int) ≤ (k : Int) := by omega
        have i2 : (k : Int) < (n : Int) := by omega
        have i3 : IntKind.i64.wrap ((k : Int) + 1) = (k : Int) + 1 := IntWalk.i64_in _ (by omega)
        obtain ⟨⟨a, ha⟩, hf, HO'⟩ := HO.out.st (j := k * 2 + 1) (by omega) (by omega) (by omega) (by omega) (.int .i64 (-9))
        go_wp2
        go_roundw
        case rel => exact ⟨k + 1, by omega, by rw [show ((k + 1 : Nat) : Int) = (k : Int) + 1 by omega], Lib.hid HO'⟩
        case measure => simp [intOf]; omega
      · go_wp2_with fail
        have hL4 : IsL wr g u x es 0 := ⟨HOK.out, ge, 0, .slice none 0 0, hne, HO.out.2.1, HO.out.2.2.1, .inl ⟨rfl, rfl⟩⟩
        refine (table_any g u x 0 es wr hL4).mono ?_
        rintro e w5 ⟨gt, rfl, hbt, hgt, hb5⟩
        rw [← HN.out]
        have HL5 := Lib.hid (hL4.below hb5)
        have hsr := HO.out.2.2.2.1.lt
        have HB5 := Lib.hid (below_to HO.out.2.2.2.2.2 hb5)
        have HT5 := Lib.hid (HO.out.2.2.2.1.below hb5 hsr)
        have hgtl := hbt.lt
        have h5s := hb5.size
        have HO5 := Lib.hid (show Own2 (w5.alloc (.cells #[.int .i64 u, .int .i64 x, .slice (some ⟨gt, 0, none⟩) n n] 24)) wr gt w5.heap.size n u x from
          ⟨⟨_, by rw [HN.out]; simp only [List.size_toArray, len_flat], hbt.alloc _⟩, Blk.new w5 _ _, below_al hb5 _⟩)
        clear hbt hb5 u2
        generalize wr = wp at *
        go_wp2
        go_loopw [8] (fun i wq => ∃ k : Nat, k ≤ n ∧ i = .int .i64 k ∧ Hid (Own2 wq wp gt w5.heap.size n u x)) (fun i _ => n - (intOf i).toNat)
        case atStart => exact ⟨0, Nat.zero_le _, rfl, HO5⟩
        case round =>
          obtain ⟨j, hj, rfl, HQ⟩ := hrel
          have u2 := HQ.out.u2
          by_cases hlt2 : j < n
          · have i1 : (0 : Int) ≤ (j : Int) := by omega
            have i2 : (j : Int) < (n : Int) := by omega
            have i3 : IntKind.i64.wrap ((j : Int) + 1) = (j : Int) + 1 := IntWalk.i64_in _ (by omega)
            obtain ⟨⟨a, ha⟩, hf, HQ'⟩ := HQ.out.st (j := j * 2) (by omega) (by omega) (by omega) (.int .i64 (-9))
            go_wp2
            go_roundw
            case rel => exact ⟨j + 1, by omega, by rw [show ((j + 1 : Nat) : Int) = (j : Int) + 1 by omega], Lib.hid HQ'⟩
            case measure => simp [intOf]; omega
          · have HQB := Lib.hid HQ.out.2.2
            have HLQ := Lib.hid (hL4.below HQB.out)
            have HBQ := Lib.hid (below_to HO.out.2.2.2.2.2 HQB.out)
            have hbT := HO.out.2.2.2.1.below HQB.out hsr
            have HTQ := Lib.hid (show TB w.heap.size wr u x (.slice A n c) es from ⟨by rw [hbT.cell]; rfl, by rw [hbT.cell]; rfl, by rw [hbT.cell]; rfl, HE0.out.below HBQ.out, hbT.lt⟩)
            clear hbT
            obtain ⟨k0, k1, k2, _, k4⟩ := HTQ.out
            go_wp2_with fail
            go_region_held3 (fun w' => w'.cell? ⟨w.heap.size, 0, none⟩ = some (.int .i64 u) ∧ w'.cell? ⟨w.heap.size, 1, none⟩ = some (.int .i64 x) ∧ w'.cell? ⟨w.heap.size, 2, none⟩ = some (.slice A n c)) (go_keep)
              (first
                | (go_at_call 21; refine (HA.out _).mono ?_; rintro e w7 ⟨rfl, hb7⟩; have T7 := Lib.hid (HTQ.out.dr.below hb7); obtain ⟨k70, k71, k72, _, k74⟩ := T7.out)
                | (go_at_call 30; refine (table_any g u x 0 es _ (HLQ.out.dr.below hb7)).mono ?_; rintro e w8 ⟨gz, rfl, hbk8, hge8, hb8⟩; rw [← HN.out]; have T8 := Lib.hid (T7.out.below hb8); obtain ⟨k80, k81, k82, _, k84⟩ := T8.out; have HBK8 := Lib.hid (show Ents w8 w8.heap.size (.slice (some ⟨gz, 0, none⟩) n n) es by rw [HN.out]; exact hbk8.ents (Nat.le_refl _) (by rw [← HN.out]; omega) hbk8.lt); clear hbk8)
                | (go_at_call 29; refine (same_yes _ _ es u x _ HBK8.out T8.out.ents).mono ?_; rintro e w9 ⟨rfl, hb9⟩; have T9 := Lib.hid (T8.out.below hb9); obtain ⟨k90, k91, k92, _, k94⟩ := T9.out))
            have HBF := Lib.hid (below_to (below_to (below_to (below_dr HBQ.out) hb7) hb8) hb9)
            clear hb7 hb8 hb9
            go_wp2
            go_ret
            exact ⟨rfl, HBF.out⟩
end Go.Proofs.Ytdbhgeihphjgeaa
