/- The law BookTexts of this seat answers true for every input, and its arguments read as they did. Conditions: none. This file holds a part of what the proof needs. -/
import Derived.Laws.BitsLemmas
import Derived.Test.YtkjibgfgbfacdaaKBookTexts0
import Derived.Test.YtkjibgfgbfacdaaKBookTexts1
import Derived.Test.YtkjibgfgbfacdaaKBookTexts2
import Derived.Test.YtkjibgfgbfacdaaKBookTexts3
/-! part: F46 -/
section
set_option linter.unusedVariables false
set_option linter.unusedSimpArgs false
namespace Go.Proofs.Ytkjibgfgbfacdaa.P
open Go.RowKit Go.Proofs.YtkjibgfgbfacdaaW.PrintWords Go.Proofs.YtkjibgfgbfacdaaW.PrintLast Go.Proofs.YtkjibgfgbfacdaaW.PrintMore
attribute [local go_sem] max2_int min2_int max_two min_two max_three min_three max_four min_four   -- for this text's walks alone
set_option linter.unusedVariables false
set_option linter.unusedSimpArgs false

/-! ### cuvetteref07_Same: function 46 -/
mutual
def cuvetteref07_Same.j0 : Nat → Bool → Int → List (List Int) → Int → List (List Int) → Option (Bool)
  | 0, _, _, _, _, _ => none
  | k + 1, x19, x637000, x637001, x638000, x638001 => if x19 = true then (some false) else (cuvetteref07_Same.l0 k (x637001.length : Int) 0 x637000 x637001 x638000 x638001)
def cuvetteref07_Same.l0 : Nat → Int → Int → Int → List (List Int) → Int → List (List Int) → Option (Bool)
  | 0, _, _, _, _, _, _ => none
  | k + 1, x22, x23, x637000, x637001, x638000, x638001 => if x23 < x22 then (if 0 ≤ x23 then (if x23 < (x637001.length : Int) then (if x23 < (x638001.length : Int) then ((cuvetteref06_Same.f k (rd_L3 x637001 x23) (rd_L3 x638001 x23)).bind fun t640 => (if t640 = true then (cuvetteref07_Same.l0 k x22 (wrap64 (x23 + 1)) x637000 x637001 x638000 x638001) else (some false))) else (none)) else (none)) else (none)) else (some true)
end
def cuvetteref07_Same.f (k : Nat) (a0_0 : Int) (l0_1 : List (List Int)) (a1_0 : Int) (l1_1 : List (List Int)) : Option (Bool) := if a0_0 = a1_0 then (cuvetteref07_Same.j0 k ((l0_1.length : Int) != (l1_1.length : Int)) a0_0 l0_1 a1_0 l1_1) else (cuvetteref07_Same.j0 k true a0_0 l0_1 a1_0 l1_1)
theorem cuvetteref07_Same.mono_l : ∀ k, (∀ y0 y1 y2 y3 y4, LeO (cuvetteref07_Same.j0 k y0 y1 y2 y3 y4) (cuvetteref07_Same.j0 (k + 1) y0 y1 y2 y3 y4)) ∧ (∀ y0 y1 y2 y3 y4 y5, LeO (cuvetteref07_Same.l0 k y0 y1 y2 y3 y4 y5) (cuvetteref07_Same.l0 (k + 1) y0 y1 y2 y3 y4 y5))
  | 0 => ⟨fun _ _ _ _ _ r h => by simp [cuvetteref07_Same.j0] at h, fun _ _ _ _ _ _ r h => by simp [cuvetteref07_Same.l0] at h⟩
  | k + 1 => by
    obtain ⟨ih0, ih1⟩ := cuvetteref07_Same.mono_l k
    refine ⟨?_, ?_⟩
    · intro y0 y1 y2 y3 y4
      unfold cuvetteref07_Same.j0
      repeat' first
      | (with_reducible exact ih0 _ _ _ _ _)
      | (with_reducible exact ih1 _ _ _ _ _ _)
      | (with_reducible exact cuvetteref06_Same.mono _ _ _)
      | (with_reducible exact LeO.refl _)
      | (with_reducible exact LeO.none _)
      | (with_reducible refine LeO.ite ?_ ?_)
      | (with_reducible refine LeO.bind ?_ (fun _ => ?_))
      | exact ih0 _ _ _ _ _
      | exact ih1 _ _ _ _ _ _
      | exact cuvetteref06_Same.mono _ _ _
      | exact LeO.none _
      | refine LeO.ite ?_ ?_
      | refine LeO.bind ?_ (fun _ => ?_)
    · intro y0 y1 y2 y3 y4 y5
      unfold cuvetteref07_Same.l0
      repeat' first
      | (with_reducible exact ih0 _ _ _ _ _)
      | (with_reducible exact ih1 _ _ _ _ _ _)
      | (with_reducible exact cuvetteref06_Same.mono _ _ _)
      | (with_reducible exact LeO.refl _)
      | (with_reducible exact LeO.none _)
      | (with_reducible refine LeO.ite ?_ ?_)
      | (with_reducible refine LeO.bind ?_ (fun _ => ?_))
      | exact ih0 _ _ _ _ _
      | exact ih1 _ _ _ _ _ _
      | exact cuvetteref06_Same.mono _ _ _
      | exact LeO.none _
      | refine LeO.ite ?_ ?_
      | refine LeO.bind ?_ (fun _ => ?_)
theorem cuvetteref07_Same.mono : ∀ a0 a1 a2 a3 k, LeO (cuvetteref07_Same.f k a0 a1 a2 a3) (cuvetteref07_Same.f (k + 1) a0 a1 a2 a3) := by
  intro a0 a1 a2 a3 k
  obtain ⟨ih0, ih1⟩ := cuvetteref07_Same.mono_l k
  unfold cuvetteref07_Same.f
  repeat' first
      | (with_reducible exact ih0 _ _ _ _ _)
      | (with_reducible exact ih1 _ _ _ _ _ _)
      | (with_reducible exact cuvetteref06_Same.mono _ _ _)
      | (with_reducible exact LeO.refl _)
      | (with_reducible exact LeO.none _)
      | (with_reducible refine LeO.ite ?_ ?_)
      | (with_reducible refine LeO.bind ?_ (fun _ => ?_))
      | exact ih0 _ _ _ _ _
      | exact ih1 _ _ _ _ _ _
      | exact cuvetteref06_Same.mono _ _ _
      | exact LeO.none _
      | refine LeO.ite ?_ ?_
      | refine LeO.bind ?_ (fun _ => ?_)
set_option maxHeartbeats 8000000 in
set_option maxRecDepth 100000 in
theorem cuvetteref07_Same.calls (k : Nat) (a0_0 : Int) (A0_1 : Option Addr) (c0_1 : Nat) (l0_1 : List (List Int)) (a1_0 : Int) (A1_1 : Option Addr) (c1_1 : Nat) (l1_1 : List (List Int)) (r : Bool) (w : World) (hr0_1 : Kd.C (Kd.slice 74 (Kd.int .i16)) w A0_1 l0_1.length l0_1) (hc0_1 : l0_1.length ≤ c0_1) (hr1_1 : Kd.C (Kd.slice 74 (Kd.int .i16)) w A1_1 l1_1.length l1_1) (hc1_1 : l1_1.length ≤ c1_1) (h : cuvetteref07_Same.f k a0_0 l0_1 a1_0 l1_1 = some r) :
    Calls Try.prog 46 #[.agg #[.int .i64 a0_0, .slice A0_1 l0_1.length c0_1], .agg #[.int .i64 a1_0, .slice A1_1 l1_1.length c1_1]] w fun e w' => e = .returned (.bool r) ∧ Below w.heap.size w w' := by
  have hu49 := Try.underlying49
  have HR0_1 := Aside0.mk hr0_1
  have HC0_1 := Aside0.mk hc0_1
  clear hr0_1 hc0_1
  have HR1_1 := Aside0.mk hr1_1
  have HC1_1 := Aside0.mk hc1_1
  clear hr1_1 hc1_1
  have HB := Aside0.mk (Below.refl w.heap.size w)
  have H : (if a0_0 = a1_0 then (cuvetteref07_Same.j0 k ((l0_1.length : Int) != (l1_1.length : Int)) a0_0 l0_1 a1_0 l1_1) else (cuvetteref07_Same.j0 k true a0_0 l0_1 a1_0 l1_1)) = some r := h
  clear h
  have HC3 := Aside0.mk H
  clear H
  go_enter Try.func46, Try.ntmps46
  go_upto_region 1 with (first | ((with_reducible refine gate_dst (N := 2) rfl ?_); (try (refine gate_guard (by rfl) ?_; dsimp only)); refine box_event ?hg (N := 2) ?hd (cs := #[.int .i64 a0_0, .slice A0_1 l0_1.length c0_1]) (t := 49) ?hr ?_; (case hd => rfl); (case hg => rfl); (case hr => first | (go_simp; done) | (go_simp; rfl)); intro gb636 hg w4 hbox hb; have n0_ := Aside0.mk (below_step (by repeat (first | (with_reducible first | exact HB.out | apply below_alloc | apply pw_below_drewN | apply below_drew1) | exact HB.out)) hb); have n1_ := Aside0.mk (hbox); have n2_ := Aside0.mk ((by rw [hg]; exact (below_size (by repeat (first | (with_reducible first | exact HB.out | apply below_alloc | apply pw_below_drewN | apply below_drew1) | exact HB.out))) : w.heap.size ≤ gb636)); have n3_ := Aside0.mk ((by rw [hg]; exact (below_size (by repeat (first | (with_reducible first | exact HB.out | apply below_alloc | apply pw_below_drewN | apply below_drew1) | exact HB.out))) : w.heap.size ≤ gb636)); clear HB; have HB := n0_; have BK636 := n1_; have GW636 := n2_; have GE636 := n3_; clear n0_ n1_ n2_ n3_; clear hb hbox hg) | ((with_reducible refine gate_dst (N := 3) rfl ?_); (try (refine gate_guard (by rfl) ?_; dsimp only)); refine box_event ?hg (N := 3) ?hd (cs := #[.int .i64 a1_0, .slice A1_1 l1_1.length c1_1]) (t := 49) ?hr ?_; (case hd => rfl); (case hg => rfl); (case hr => first | (go_simp; done) | (go_simp; rfl)); intro gb637 hg w5 hbox hb; have n0_ := Aside0.mk (blk_below (g := gb636) (o := .cells #[.int .i64 a0_0, .slice A0_1 l0_1.length c0_1] 49 (0, 0)) (by (with_reducible repeat (first | refine blk_drewN ?_ _ | refine blk_drew ?_ | refine blk_alloc ?_ _)); exact BK636.out) hb); have n1_ := Aside0.mk (below_step (by repeat (first | (with_reducible first | exact HB.out | apply below_alloc | apply pw_below_drewN | apply below_drew1 | refine below_set ?_ GE636.out) | exact HB.out)) hb); have n2_ := Aside0.mk (hbox); have n3_ := Aside0.mk ((by rw [hg]; exact (below_size (by repeat (first | (with_reducible first | exact HB.out | apply below_alloc | apply pw_below_drewN | apply below_drew1 | refine below_set ?_ GE636.out) | exact HB.out))) : w.heap.size ≤ gb637)); have n4_ := Aside0.mk ((by rw [hg]; exact (below_size (by repeat (first | (with_reducible first | exact HB.out | apply below_alloc | apply pw_below_drewN | apply below_drew1 | refine below_set ?_ GE636.out) | exact HB.out))) : w.heap.size ≤ gb637)); have n5_ := Aside0.mk ((by rw [hg]; exact Nat.ne_of_lt (blk_lt (g := gb636) (o := .cells #[.int .i64 a0_0, .slice A0_1 l0_1.length c0_1] 49 (0, 0)) (by (with_reducible repeat (first | refine blk_drewN ?_ _ | refine blk_drew ?_ | refine blk_alloc ?_ _)); exact BK636.out)) : gb636 ≠ gb637)); have n6_ := Aside0.mk ((by rw [hg]; exact Nat.ne_of_gt (blk_lt (g := gb636) (o := .cells #[.int .i64 a0_0, .slice A0_1 l0_1.length c0_1] 49 (0, 0)) (by (with_reducible repeat (first | refine blk_drewN ?_ _ | refine blk_drew ?_ | refine blk_alloc ?_ _)); exact BK636.out)) : gb637 ≠ gb636)); clear BK636; clear HB; have BK636 := n0_; have HB := n1_; have BK637 := n2_; have GW637 := n3_; have GE637 := n4_; have NB636_637 := n5_; have NB637_636 := n6_; clear n0_ n1_ n2_ n3_ n4_ n5_ n6_; clear hb hbox hg))
  repeat (go_quiet (first | ((with_reducible refine gate_dst (N := 2) rfl ?_); (try (refine gate_guard (by rfl) ?_; dsimp only)); refine box_event ?hg (N := 2) ?hd (cs := #[.int .i64 a0_0, .slice A0_1 l0_1.length c0_1]) (t := 49) ?hr ?_; (case hd => rfl); (case hg => rfl); (case hr => first | (go_simp; done) | (go_simp; rfl)); intro gb636 hg w4 hbox hb; have n0_ := Aside0.mk (below_step (by repeat (first | (with_reducible first | exact HB.out | apply below_alloc | apply pw_below_drewN | apply below_drew1) | exact HB.out)) hb); have n1_ := Aside0.mk (hbox); have n2_ := Aside0.mk ((by rw [hg]; exact (below_size (by repeat (first | (with_reducible first | exact HB.out | apply below_alloc | apply pw_below_drewN | apply below_drew1) | exact HB.out))) : w.heap.size ≤ gb636)); have n3_ := Aside0.mk ((by rw [hg]; exact (below_size (by repeat (first | (with_reducible first | exact HB.out | apply below_alloc | apply pw_below_drewN | apply below_drew1) | exact HB.out))) : w.heap.size ≤ gb636)); clear HB; have HB := n0_; have BK636 := n1_; have GW636 := n2_; have GE636 := n3_; clear n0_ n1_ n2_ n3_; clear hb hbox hg) | ((with_reducible refine gate_dst (N := 3) rfl ?_); (try (refine gate_guard (by rfl) ?_; dsimp only)); refine box_event ?hg (N := 3) ?hd (cs := #[.int .i64 a1_0, .slice A1_1 l1_1.length c1_1]) (t := 49) ?hr ?_; (case hd => rfl); (case hg => rfl); (case hr => first | (go_simp; done) | (go_simp; rfl)); intro gb637 hg w5 hbox hb; have n0_ := Aside0.mk (blk_below (g := gb636) (o := .cells #[.int .i64 a0_0, .slice A0_1 l0_1.length c0_1] 49 (0, 0)) (by (with_reducible repeat (first | refine blk_drewN ?_ _ | refine blk_drew ?_ | refine blk_alloc ?_ _)); exact BK636.out) hb); have n1_ := Aside0.mk (below_step (by repeat (first | (with_reducible first | exact HB.out | apply below_alloc | apply pw_below_drewN | apply below_drew1 | refine below_set ?_ GE636.out) | exact HB.out)) hb); have n2_ := Aside0.mk (hbox); have n3_ := Aside0.mk ((by rw [hg]; exact (below_size (by repeat (first | (with_reducible first | exact HB.out | apply below_alloc | apply pw_below_drewN | apply below_drew1 | refine below_set ?_ GE636.out) | exact HB.out))) : w.heap.size ≤ gb637)); have n4_ := Aside0.mk ((by rw [hg]; exact (below_size (by repeat (first | (with_reducible first | exact HB.out | apply below_alloc | apply pw_below_drewN | apply below_drew1 | refine below_set ?_ GE636.out) | exact HB.out))) : w.heap.size ≤ gb637)); have n5_ := Aside0.mk ((by rw [hg]; exact Nat.ne_of_lt (blk_lt (g := gb636) (o := .cells #[.int .i64 a0_0, .slice A0_1 l0_1.length c0_1] 49 (0, 0)) (by (with_reducible repeat (first | refine blk_drewN ?_ _ | refine blk_drew ?_ | refine blk_alloc ?_ _)); exact BK636.out)) : gb636 ≠ gb637)); have n6_ := Aside0.mk ((by rw [hg]; exact Nat.ne_of_gt (blk_lt (g := gb636) (o := .cells #[.int .i64 a0_0, .slice A0_1 l0_1.length c0_1] 49 (0, 0)) (by (with_reducible repeat (first | refine blk_drewN ?_ _ | refine blk_drew ?_ | refine blk_alloc ?_ _)); exact BK636.out)) : gb637 ≠ gb636)); clear BK636; clear HB; have BK636 := n0_; have HB := n1_; have BK637 := n2_; have GW637 := n3_; have GE637 := n4_; have NB636_637 := n5_; have NB637_636 := n6_; clear n0_ n1_ n2_ n3_ n4_ n5_ n6_; clear hb hbox hg)); go_upto_region 1 with (first | ((with_reducible refine gate_dst (N := 2) rfl ?_); (try (refine gate_guard (by rfl) ?_; dsimp only)); refine box_event ?hg (N := 2) ?hd (cs := #[.int .i64 a0_0, .slice A0_1 l0_1.length c0_1]) (t := 49) ?hr ?_; (case hd => rfl); (case hg => rfl); (case hr => first | (go_simp; done) | (go_simp; rfl)); intro gb636 hg w4 hbox hb; have n0_ := Aside0.mk (below_step (by repeat (first | (with_reducible first | exact HB.out | apply below_alloc | apply pw_below_drewN | apply below_drew1) | exact HB.out)) hb); have n1_ := Aside0.mk (hbox); have n2_ := Aside0.mk ((by rw [hg]; exact (below_size (by repeat (first | (with_reducible first | exact HB.out | apply below_alloc | apply pw_below_drewN | apply below_drew1) | exact HB.out))) : w.heap.size ≤ gb636)); have n3_ := Aside0.mk ((by rw [hg]; exact (below_size (by repeat (first | (with_reducible first | exact HB.out | apply below_alloc | apply pw_below_drewN | apply below_drew1) | exact HB.out))) : w.heap.size ≤ gb636)); clear HB; have HB := n0_; have BK636 := n1_; have GW636 := n2_; have GE636 := n3_; clear n0_ n1_ n2_ n3_; clear hb hbox hg) | ((with_reducible refine gate_dst (N := 3) rfl ?_); (try (refine gate_guard (by rfl) ?_; dsimp only)); refine box_event ?hg (N := 3) ?hd (cs := #[.int .i64 a1_0, .slice A1_1 l1_1.length c1_1]) (t := 49) ?hr ?_; (case hd => rfl); (case hg => rfl); (case hr => first | (go_simp; done) | (go_simp; rfl)); intro gb637 hg w5 hbox hb; have n0_ := Aside0.mk (blk_below (g := gb636) (o := .cells #[.int .i64 a0_0, .slice A0_1 l0_1.length c0_1] 49 (0, 0)) (by (with_reducible repeat (first | refine blk_drewN ?_ _ | refine blk_drew ?_ | refine blk_alloc ?_ _)); exact BK636.out) hb); have n1_ := Aside0.mk (below_step (by repeat (first | (with_reducible first | exact HB.out | apply below_alloc | apply pw_below_drewN | apply below_drew1 | refine below_set ?_ GE636.out) | exact HB.out)) hb); have n2_ := Aside0.mk (hbox); have n3_ := Aside0.mk ((by rw [hg]; exact (below_size (by repeat (first | (with_reducible first | exact HB.out | apply below_alloc | apply pw_below_drewN | apply below_drew1 | refine below_set ?_ GE636.out) | exact HB.out))) : w.heap.size ≤ gb637)); have n4_ := Aside0.mk ((by rw [hg]; exact (below_size (by repeat (first | (with_reducible first | exact HB.out | apply below_alloc | apply pw_below_drewN | apply below_drew1 | refine below_set ?_ GE636.out) | exact HB.out))) : w.heap.size ≤ gb637)); have n5_ := Aside0.mk ((by rw [hg]; exact Nat.ne_of_lt (blk_lt (g := gb636) (o := .cells #[.int .i64 a0_0, .slice A0_1 l0_1.length c0_1] 49 (0, 0)) (by (with_reducible repeat (first | refine blk_drewN ?_ _ | refine blk_drew ?_ | refine blk_alloc ?_ _)); exact BK636.out)) : gb636 ≠ gb637)); have n6_ := Aside0.mk ((by rw [hg]; exact Nat.ne_of_gt (blk_lt (g := gb636) (o := .cells #[.int .i64 a0_0, .slice A0_1 l0_1.length c0_1] 49 (0, 0)) (by (with_reducible repeat (first | refine blk_drewN ?_ _ | refine blk_drew ?_ | refine blk_alloc ?_ _)); exact BK636.out)) : gb637 ≠ gb636)); clear BK636; clear HB; have BK636 := n0_; have HB := n1_; have BK637 := n2_; have GW637 := n3_; have GE637 := n4_; have NB636_637 := n5_; have NB637_636 := n6_; clear n0_ n1_ n2_ n3_ n4_ n5_ n6_; clear hb hbox hg)))
  (try simp only [Act.put, List.setIfInBounds_toArray, List.set_cons_zero, List.set_cons_succ])
  go_cut [19] (fun v19 wc => ∃ (kq : Nat) (x19_2 : Bool), v19 = .bool x19_2 ∧ Aside0 (cuvetteref07_Same.j0 kq x19_2 a0_0 l0_1 a1_0 l1_1 = some r) ∧ Aside0 (kq ≤ k) ∧ Aside0 (wc.heap[gb636]? = some (.cells #[.int .i64 a0_0, (.slice A0_1 l0_1.length c0_1)] 49 (0, 0))) ∧ Aside0 (wc.heap[gb637]? = some (.cells #[.int .i64 a1_0, (.slice A1_1 l1_1.length c1_1)] 49 (0, 0))) ∧ Aside0 (Below w.heap.size w wc))
  case first =>
    have H := HC3.out
    clear HC3
    by_cases c6 : a0_0 = a1_0
    · rw [if_pos c6] at H
      have c6b0 : (a0_0 == a1_0) = true := beq_iff_eq.mpr c6
      have c6b1 : (a0_0 != a1_0) = false := bne_eq_false_iff_eq.mpr c6
      clear c6
      (first | rw [c6b0] | (simp only [i64_w, i32_w]; rw [c6b0]) | skip)
      have H' := Aside0.mk H
      clear H
      have hnb7 := NB636_637.out
      have hnc7 := NB637_636.out
      have hcz8_0 : w5.cell? ⟨gb636, 0, none⟩ = some (.int .i64 a0_0) := (blk_cell BK636.out 0).trans rfl
      have hcz8_1 : w5.cell? ⟨gb636, 1, none⟩ = some (.slice A0_1 l0_1.length c0_1) := (blk_cell BK636.out 1).trans rfl
      have hfz8_0 := blk_frozen BK636.out 0
      have hfz8_1 := blk_frozen BK636.out 1
      have hcz9_0 : w5.cell? ⟨gb637, 0, none⟩ = some (.int .i64 a1_0) := (blk_cell BK637.out 0).trans rfl
      have hcz9_1 : w5.cell? ⟨gb637, 1, none⟩ = some (.slice A1_1 l1_1.length c1_1) := (blk_cell BK637.out 1).trans rfl
      have hfz9_0 := blk_frozen BK637.out 0
      have hfz9_1 := blk_frozen BK637.out 1
      go_wp2
      repeat (go_quiet (fail); try go_wp2)
      go_meet
      case rel => exact ⟨_, (((l0_1.length : Int) != (l1_1.length : Int))), (by first | rfl | (simp; done) | (simp [*]; done)), H', ⟨by first | omega | exact Nat.le_refl _⟩, ⟨by (with_reducible repeat (first | refine blk_drewN ?_ _ | refine blk_drew ?_ | refine blk_alloc ?_ _)); exact BK636.out⟩, ⟨by (with_reducible repeat (first | refine blk_drewN ?_ _ | refine blk_drew ?_ | refine blk_alloc ?_ _)); exact BK637.out⟩, ⟨by repeat (first | (with_reducible first | exact HB.out | apply below_alloc | apply pw_below_drewN | apply below_drew1 | refine below_set ?_ GE636.out | refine below_set ?_ GE637.out) | exact HB.out)⟩⟩
    · rw [if_neg c6] at H
      have c6b0 : (a0_0 == a1_0) = false := beq_eq_false_iff_ne.mpr c6
      have c6b1 : (a0_0 != a1_0) = true := bne_iff_ne.mpr c6
      (first | rw [c6b0] | (simp only [i64_w, i32_w]; rw [c6b0]) | skip)
      have H' := Aside0.mk H
      clear H
      have hnb10 := NB636_637.out
      have hnc10 := NB637_636.out
      have hcz11_0 : w5.cell? ⟨gb636, 0, none⟩ = some (.int .i64 a0_0) := (blk_cell BK636.out 0).trans rfl
      have hcz11_1 : w5.cell? ⟨gb636, 1, none⟩ = some (.slice A0_1 l0_1.length c0_1) := (blk_cell BK636.out 1).trans rfl
      have hfz11_0 := blk_frozen BK636.out 0
      have hfz11_1 := blk_frozen BK636.out 1
      have hcz12_0 : w5.cell? ⟨gb637, 0, none⟩ = some (.int .i64 a1_0) := (blk_cell BK637.out 0).trans rfl
      have hcz12_1 : w5.cell? ⟨gb637, 1, none⟩ = some (.slice A1_1 l1_1.length c1_1) := (blk_cell BK637.out 1).trans rfl
      have hfz12_0 := blk_frozen BK637.out 0
      have hfz12_1 := blk_frozen BK637.out 1
      go_wp2
      repeat (go_quiet (fail); try go_wp2)
      go_meet
      case rel => exact ⟨_, (true), (by first | rfl | (simp; done) | (simp [*]; done)), H', ⟨by first | omega | exact Nat.le_refl _⟩, ⟨by (with_reducible repeat (first | refine blk_drewN ?_ _ | refine blk_drew ?_ | refine blk_alloc ?_ _)); exact BK636.out⟩, ⟨by (with_reducible repeat (first | refine blk_drewN ?_ _ | refine blk_drew ?_ | refine blk_alloc ?_ _)); exact BK637.out⟩, ⟨by repeat (first | (with_reducible first | exact HB.out | apply below_alloc | apply pw_below_drewN | apply below_drew1 | refine below_set ?_ GE636.out | refine below_set ?_ GE637.out) | exact HB.out)⟩⟩
  case rest =>
    clear HC3
    try clear c1
    try clear p2
    try clear c4
    try clear c6
    try clear c6b0
    try clear c6b1
    try clear c7
    try clear c10
    try clear hcz11_0
    try clear hcz11_1
    try clear hcz12_0
    try clear hcz12_1
    try clear hcz8_0
    try clear hcz8_1
    try clear hcz9_0
    try clear hcz9_1
    try clear hfz11_0
    try clear hfz11_1
    try clear hfz12_0
    try clear hfz12_1
    try clear hfz8_0
    try clear hfz8_1
    try clear hfz9_0
    try clear hfz9_1
    obtain ⟨kq, x19_2, rfl, HA, HJ2, BK636, BK637, HB⟩ := hcut
    cases kq with
    | zero => exact absurd HA.out (by simp [cuvetteref07_Same.j0])
    | succ kj2 =>
      have H := HA.out
      clear HA
      simp only [cuvetteref07_Same.j0] at H
      by_cases c13 : x19_2 = true
      · subst c13
        have H1 : (some false) = some r := by rw [if_pos rfl] at H; exact H
        clear H
        have H := H1
        clear H1
        obtain rfl := Option.some.inj H
        go_wp2
        repeat (go_quiet (fail); try go_wp2)
        go_ret
        exact ⟨by first | rfl | (simp [errW_none, errW_some] <;> rfl) | (simp [*, errW_none, errW_some] <;> rfl), by repeat (first | (with_reducible first | exact HB.out | apply below_alloc | apply pw_below_drewN | apply below_drew1 | refine below_set ?_ GE636.out | refine below_set ?_ GE637.out) | exact HB.out)⟩
      · replace c13 := Bool.eq_false_iff.mpr c13
        subst c13
        have H1 : (cuvetteref07_Same.l0 kj2 (l0_1.length : Int) 0 a0_0 l0_1 a1_0 l1_1) = some r := by rw [if_neg (show ¬ (false = true) by decide)] at H; exact H
        clear H
        have H := H1
        clear H1
        have H' := Aside0.mk H
        clear H
        have hnb14 := NB636_637.out
        have hnc14 := NB637_636.out
        have hcz15_0 : wc.cell? ⟨gb636, 0, none⟩ = some (.int .i64 a0_0) := (blk_cell BK636.out 0).trans rfl
        have hcz15_1 : wc.cell? ⟨gb636, 1, none⟩ = some (.slice A0_1 l0_1.length c0_1) := (blk_cell BK636.out 1).trans rfl
        have hfz15_0 := blk_frozen BK636.out 0
        have hfz15_1 := blk_frozen BK636.out 1
        go_wp2
        repeat (go_quiet (fail); try go_wp2)
        go_loopg [23] kj2 (fun kq v23 w' => ∃ (x23_2 : Int), v23 = .int .i64 x23_2 ∧ Aside0 (cuvetteref07_Same.l0 kq (l0_1.length : Int) x23_2 a0_0 l0_1 a1_0 l1_1 = some r) ∧ Aside0 (kq ≤ kj2) ∧ Aside0 (w'.heap[gb636]? = some (.cells #[.int .i64 a0_0, (.slice A0_1 l0_1.length c0_1)] 49 (0, 0))) ∧ Aside0 (w'.heap[gb637]? = some (.cells #[.int .i64 a1_0, (.slice A1_1 l1_1.length c1_1)] 49 (0, 0))) ∧ Aside0 (Below w.heap.size w w'))
        case atStart => exact ⟨(0), (by first | rfl | (simp; done) | (simp [*]; done)), H', ⟨Nat.le_refl _⟩, ⟨by (with_reducible repeat (first | refine blk_drewN ?_ _ | refine blk_drew ?_ | refine blk_alloc ?_ _)); exact BK636.out⟩, ⟨by (with_reducible repeat (first | refine blk_drewN ?_ _ | refine blk_drew ?_ | refine blk_alloc ?_ _)); exact BK637.out⟩, ⟨by repeat (first | (with_reducible first | exact HB.out | apply below_alloc | apply pw_below_drewN | apply below_drew1 | refine below_set ?_ GE636.out | refine below_set ?_ GE637.out) | exact HB.out)⟩⟩
        case round =>
          clear H'
          try clear c1
          try clear p2
          try clear c4
          try clear c6
          try clear c6b0
          try clear c6b1
          try clear c7
          try clear c10
          try clear c13
          try clear c14
          try clear hcz11_0
          try clear hcz11_1
          try clear hcz12_0
          try clear hcz12_1
          try clear hcz15_0
          try clear hcz15_1
          try clear hcz8_0
          try clear hcz8_1
          try clear hcz9_0
          try clear hcz9_1
          try clear hfz11_0
          try clear hfz11_1
          try clear hfz12_0
          try clear hfz12_1
          try clear hfz15_0
          try clear hfz15_1
          try clear hfz8_0
          try clear hfz8_1
          try clear hfz9_0
          try clear hfz9_1
          try clear p2
          obtain ⟨x23_2, rfl, HA, HK2, BK636, BK637, HB⟩ := hrel
          cases gk with
          | zero => exact absurd HA.out (by simp [cuvetteref07_Same.l0])
          | succ k2 =>
            have H := HA.out
            clear HA
            simp only [cuvetteref07_Same.l0] at H
            by_cases c16 : x23_2 < (l0_1.length : Int)
            · rw [if_pos c16] at H
              have c16b0 : decide (x23_2 < (l0_1.length : Int)) = true := decide_eq_true c16
              clear c16
              by_cases c17 : 0 ≤ x23_2
              · rw [if_pos c17] at H
                have c17b0 : decide (0 ≤ x23_2) = true := decide_eq_true c17
                clear c17
                by_cases c18 : x23_2 < (l0_1.length : Int)
                · rw [if_pos c18] at H
                  have c18b0 : decide (x23_2 < (l0_1.length : Int)) = true := decide_eq_true c18
                  clear c18
                  by_cases c19 : x23_2 < (l1_1.length : Int)
                  · rw [if_pos c19] at H
                    have c19b0 : decide (x23_2 < (l1_1.length : Int)) = true := decide_eq_true c19
                    clear c19
                    replace H := Option.bind_eq_some_iff.mp H
                    obtain ⟨t640, A200, H⟩ := H
                    replace H : (if t640 = true then (cuvetteref07_Same.l0 k2 (l0_1.length : Int) (wrap64 (x23_2 + 1)) a0_0 l0_1 a1_0 l1_1) else (some false)) = some r := H
                    have A20 := Aside0.mk A200
                    clear A200
                    by_cases c21 : t640 = true
                    · subst c21
                      have H1 : (cuvetteref07_Same.l0 k2 (l0_1.length : Int) (wrap64 (x23_2 + 1)) a0_0 l0_1 a1_0 l1_1) = some r := by rw [if_pos rfl] at H; exact H
                      clear H
                      have H := H1
                      clear H1
                      have H' := Aside0.mk H
                      clear H
                      have hnb22 := NB636_637.out
                      have hnc22 := NB637_636.out
                      have hcz23_0 : wr.cell? ⟨gb636, 0, none⟩ = some (.int .i64 a0_0) := (blk_cell BK636.out 0).trans rfl
                      have hcz23_1 : wr.cell? ⟨gb636, 1, none⟩ = some (.slice A0_1 l0_1.length c0_1) := (blk_cell BK636.out 1).trans rfl
                      have hfz23_0 := blk_frozen BK636.out 0
                      have hfz23_1 := blk_frozen BK636.out 1
                      have p638 : 0 ≤ (x23_2 : Int) := of_decide_eq_true (by first | (with_reducible assumption) | assumption)
                      have q638 : x23_2 < (l0_1.length : Int) := of_decide_eq_true (by first | (with_reducible assumption) | assumption)
                      obtain ⟨ad638, A638_0, c638_0, e638, hx638_0, hl638_0, hi638_0⟩ := at_L3 HR0_1.out x23_2 p638 q638
                      cases e638
                      (try replace hx638_0 := (HB.out.cell (World.block_lt_of_cell? w _ hx638_0)).trans hx638_0)
                      have HR638_0 := Aside0.mk hi638_0
                      have HC638_0 := Aside0.mk hl638_0
                      clear hi638_0 hl638_0
                      replace p638 := eq_true p638
                      replace q638 := eq_true q638
                      have hcz24_0 : wr.cell? ⟨gb637, 0, none⟩ = some (.int .i64 a1_0) := (blk_cell BK637.out 0).trans rfl
                      have hcz24_1 : wr.cell? ⟨gb637, 1, none⟩ = some (.slice A1_1 l1_1.length c1_1) := (blk_cell BK637.out 1).trans rfl
                      have hfz24_0 := blk_frozen BK637.out 0
                      have hfz24_1 := blk_frozen BK637.out 1
                      have p639 : 0 ≤ (x23_2 : Int) := of_decide_eq_true (by first | (with_reducible assumption) | assumption)
                      have q639 : x23_2 < (l1_1.length : Int) := of_decide_eq_true (by first | (with_reducible assumption) | assumption)
                      obtain ⟨ad639, A639_0, c639_0, e639, hx639_0, hl639_0, hi639_0⟩ := at_L3 HR1_1.out x23_2 p639 q639
                      cases e639
                      (try replace hx639_0 := (HB.out.cell (World.block_lt_of_cell? w _ hx639_0)).trans hx639_0)
                      have HR639_0 := Aside0.mk hi639_0
                      have HC639_0 := Aside0.mk hl639_0
                      clear hi639_0 hl639_0
                      replace p639 := eq_true p639
                      replace q639 := eq_true q639
                      go_wp2_with (first | (go_at_call 57; (with_reducible refine (cuvetteref06_Same.calls k2 _ _ (rd_L3 l0_1 x23_2) _ _ (rd_L3 l1_1 x23_2) true _ ?side1 ?side2 ?side3 ?side4 A20.out).mono ?_); (case side1 => repeat (first | exact (Kd.C_below HR638_0.out HB.out) | (with_reducible refine Kd.C_alloc ?_ _) | (with_reducible refine Kd.C_drewN ?_ _) | (with_reducible refine Kd.C_drew ?_))); (case side2 => exact HC638_0.out); (case side3 => repeat (first | exact (Kd.C_below HR639_0.out HB.out) | (with_reducible refine Kd.C_alloc ?_ _) | (with_reducible refine Kd.C_drewN ?_ _) | (with_reducible refine Kd.C_drew ?_))); (case side4 => exact HC639_0.out); rintro e w' ⟨rfl, ⟨nd, rfl⟩⟩; (try first | exact ⟨rfl, _, World.drewN_drewN _ _ _⟩ | exact ⟨rfl, _, Eq.trans (World.drewN_drewN _ _ _) (congrArg (World.drewN _) (Nat.add_assoc _ _ _))⟩)))
                      repeat (go_quiet (first | (go_at_call 57; (with_reducible refine (cuvetteref06_Same.calls k2 _ _ (rd_L3 l0_1 x23_2) _ _ (rd_L3 l1_1 x23_2) true _ ?side1 ?side2 ?side3 ?side4 A20.out).mono ?_); (case side1 => repeat (first | exact (Kd.C_below HR638_0.out HB.out) | (with_reducible refine Kd.C_alloc ?_ _) | (with_reducible refine Kd.C_drewN ?_ _) | (with_reducible refine Kd.C_drew ?_))); (case side2 => exact HC638_0.out); (case side3 => repeat (first | exact (Kd.C_below HR639_0.out HB.out) | (with_reducible refine Kd.C_alloc ?_ _) | (with_reducible refine Kd.C_drewN ?_ _) | (with_reducible refine Kd.C_drew ?_))); (case side4 => exact HC639_0.out); rintro e w' ⟨rfl, ⟨nd, rfl⟩⟩; (try first | exact ⟨rfl, _, World.drewN_drewN _ _ _⟩ | exact ⟨rfl, _, Eq.trans (World.drewN_drewN _ _ _) (congrArg (World.drewN _) (Nat.add_assoc _ _ _))⟩))); try go_wp2_with (first | (go_at_call 57; (with_reducible refine (cuvetteref06_Same.calls k2 _ _ (rd_L3 l0_1 x23_2) _ _ (rd_L3 l1_1 x23_2) true _ ?side1 ?side2 ?side3 ?side4 A20.out).mono ?_); (case side1 => repeat (first | exact (Kd.C_below HR638_0.out HB.out) | (with_reducible refine Kd.C_alloc ?_ _) | (with_reducible refine Kd.C_drewN ?_ _) | (with_reducible refine Kd.C_drew ?_))); (case side2 => exact HC638_0.out); (case side3 => repeat (first | exact (Kd.C_below HR639_0.out HB.out) | (with_reducible refine Kd.C_alloc ?_ _) | (with_reducible refine Kd.C_drewN ?_ _) | (with_reducible refine Kd.C_drew ?_))); (case side4 => exact HC639_0.out); rintro e w' ⟨rfl, ⟨nd, rfl⟩⟩; (try first | exact ⟨rfl, _, World.drewN_drewN _ _ _⟩ | exact ⟨rfl, _, Eq.trans (World.drewN_drewN _ _ _) (congrArg (World.drewN _) (Nat.add_assoc _ _ _))⟩))))
                      go_roundg k2
                      case measure => have := HJ2.out; have := HK2.out; omega
                      case rel => exact ⟨(wrap64 (x23_2 + 1)), (by first | rfl | (simp; done) | (simp [*]; done)), H', ⟨by have := HJ2.out; have := HK2.out; omega⟩, ⟨by (with_reducible repeat (first | refine blk_drewN ?_ _ | refine blk_drew ?_ | refine blk_alloc ?_ _)); exact BK636.out⟩, ⟨by (with_reducible repeat (first | refine blk_drewN ?_ _ | refine blk_drew ?_ | refine blk_alloc ?_ _)); exact BK637.out⟩, ⟨by repeat (first | (with_reducible first | exact HB.out | apply below_alloc | apply pw_below_drewN | apply below_drew1 | refine below_set ?_ GE636.out | refine below_set ?_ GE637.out) | exact HB.out)⟩⟩
                    · replace c21 := Bool.eq_false_iff.mpr c21
                      subst c21
                      have H1 : (some false) = some r := by rw [if_neg (show ¬ (false = true) by decide)] at H; exact H
                      clear H
                      have H := H1
                      clear H1
                      obtain rfl := Option.some.inj H
                      have hnb25 := NB636_637.out
                      have hnc25 := NB637_636.out
                      have hcz26_0 : wr.cell? ⟨gb636, 0, none⟩ = some (.int .i64 a0_0) := (blk_cell BK636.out 0).trans rfl
                      have hcz26_1 : wr.cell? ⟨gb636, 1, none⟩ = some (.slice A0_1 l0_1.length c0_1) := (blk_cell BK636.out 1).trans rfl
                      have hfz26_0 := blk_frozen BK636.out 0
                      have hfz26_1 := blk_frozen BK636.out 1
                      have p638 : 0 ≤ (x23_2 : Int) := of_decide_eq_true (by first | (with_reducible assumption) | assumption)
                      have q638 : x23_2 < (l0_1.length : Int) := of_decide_eq_true (by first | (with_reducible assumption) | assumption)
                      obtain ⟨ad638, A638_0, c638_0, e638, hx638_0, hl638_0, hi638_0⟩ := at_L3 HR0_1.out x23_2 p638 q638
                      cases e638
                      (try replace hx638_0 := (HB.out.cell (World.block_lt_of_cell? w _ hx638_0)).trans hx638_0)
                      have HR638_0 := Aside0.mk hi638_0
                      have HC638_0 := Aside0.mk hl638_0
                      clear hi638_0 hl638_0
                      replace p638 := eq_true p638
                      replace q638 := eq_true q638
                      have hcz27_0 : wr.cell? ⟨gb637, 0, none⟩ = some (.int .i64 a1_0) := (blk_cell BK637.out 0).trans rfl
                      have hcz27_1 : wr.cell? ⟨gb637, 1, none⟩ = some (.slice A1_1 l1_1.length c1_1) := (blk_cell BK637.out 1).trans rfl
                      have hfz27_0 := blk_frozen BK637.out 0
                      have hfz27_1 := blk_frozen BK637.out 1
                      have p639 : 0 ≤ (x23_2 : Int) := of_decide_eq_true (by first | (with_reducible assumption) | assumption)
                      have q639 : x23_2 < (l1_1.length : Int) := of_decide_eq_true (by first | (with_reducible assumption) | assumption)
                      obtain ⟨ad639, A639_0, c639_0, e639, hx639_0, hl639_0, hi639_0⟩ := at_L3 HR1_1.out x23_2 p639 q639
                      cases e639
                      (try replace hx639_0 := (HB.out.cell (World.block_lt_of_cell? w _ hx639_0)).trans hx639_0)
                      have HR639_0 := Aside0.mk hi639_0
                      have HC639_0 := Aside0.mk hl639_0
                      clear hi639_0 hl639_0
                      replace p639 := eq_true p639
                      replace q639 := eq_true q639
                      go_wp2_with (first | (go_at_call 57; (with_reducible refine (cuvetteref06_Same.calls k2 _ _ (rd_L3 l0_1 x23_2) _ _ (rd_L3 l1_1 x23_2) false _ ?side1 ?side2 ?side3 ?side4 A20.out).mono ?_); (case side1 => repeat (first | exact (Kd.C_below HR638_0.out HB.out) | (with_reducible refine Kd.C_alloc ?_ _) | (with_reducible refine Kd.C_drewN ?_ _) | (with_reducible refine Kd.C_drew ?_))); (case side2 => exact HC638_0.out); (case side3 => repeat (first | exact (Kd.C_below HR639_0.out HB.out) | (with_reducible refine Kd.C_alloc ?_ _) | (with_reducible refine Kd.C_drewN ?_ _) | (with_reducible refine Kd.C_drew ?_))); (case side4 => exact HC639_0.out); rintro e w' ⟨rfl, ⟨nd, rfl⟩⟩; (try first | exact ⟨rfl, _, World.drewN_drewN _ _ _⟩ | exact ⟨rfl, _, Eq.trans (World.drewN_drewN _ _ _) (congrArg (World.drewN _) (Nat.add_assoc _ _ _))⟩)))
                      repeat (go_quiet (first | (go_at_call 57; (with_reducible refine (cuvetteref06_Same.calls k2 _ _ (rd_L3 l0_1 x23_2) _ _ (rd_L3 l1_1 x23_2) false _ ?side1 ?side2 ?side3 ?side4 A20.out).mono ?_); (case side1 => repeat (first | exact (Kd.C_below HR638_0.out HB.out) | (with_reducible refine Kd.C_alloc ?_ _) | (with_reducible refine Kd.C_drewN ?_ _) | (with_reducible refine Kd.C_drew ?_))); (case side2 => exact HC638_0.out); (case side3 => repeat (first | exact (Kd.C_below HR639_0.out HB.out) | (with_reducible refine Kd.C_alloc ?_ _) | (with_reducible refine Kd.C_drewN ?_ _) | (with_reducible refine Kd.C_drew ?_))); (case side4 => exact HC639_0.out); rintro e w' ⟨rfl, ⟨nd, rfl⟩⟩; (try first | exact ⟨rfl, _, World.drewN_drewN _ _ _⟩ | exact ⟨rfl, _, Eq.trans (World.drewN_drewN _ _ _) (congrArg (World.drewN _) (Nat.add_assoc _ _ _))⟩))); try go_wp2_with (first | (go_at_call 57; (with_reducible refine (cuvetteref06_Same.calls k2 _ _ (rd_L3 l0_1 x23_2) _ _ (rd_L3 l1_1 x23_2) false _ ?side1 ?side2 ?side3 ?side4 A20.out).mono ?_); (case side1 => repeat (first | exact (Kd.C_below HR638_0.out HB.out) | (with_reducible refine Kd.C_alloc ?_ _) | (with_reducible refine Kd.C_drewN ?_ _) | (with_reducible refine Kd.C_drew ?_))); (case side2 => exact HC638_0.out); (case side3 => repeat (first | exact (Kd.C_below HR639_0.out HB.out) | (with_reducible refine Kd.C_alloc ?_ _) | (with_reducible refine Kd.C_drewN ?_ _) | (with_reducible refine Kd.C_drew ?_))); (case side4 => exact HC639_0.out); rintro e w' ⟨rfl, ⟨nd, rfl⟩⟩; (try first | exact ⟨rfl, _, World.drewN_drewN _ _ _⟩ | exact ⟨rfl, _, Eq.trans (World.drewN_drewN _ _ _) (congrArg (World.drewN _) (Nat.add_assoc _ _ _))⟩))))
                      go_ret
                      exact ⟨by first | rfl | (simp [errW_none, errW_some] <;> rfl) | (simp [*, errW_none, errW_some] <;> rfl), by repeat (first | (with_reducible first | exact HB.out | apply below_alloc | apply pw_below_drewN | apply below_drew1 | refine below_set ?_ GE636.out | refine below_set ?_ GE637.out) | exact HB.out)⟩
                  · rw [if_neg c19] at H
                    exact absurd H (by simp)
                · rw [if_neg c18] at H
                  exact absurd H (by simp)
              · rw [if_neg c17] at H
                exact absurd H (by simp)
            · rw [if_neg c16] at H
              have c16b0 : decide (x23_2 < (l0_1.length : Int)) = false := decide_eq_false c16
              clear c16
              obtain rfl := Option.some.inj H
              go_wp2
              repeat (go_quiet (fail); try go_wp2)
              go_ret
              exact ⟨by first | rfl | (simp [errW_none, errW_some] <;> rfl) | (simp [*, errW_none, errW_some] <;> rfl), by repeat (first | (with_reducible first | exact HB.out | apply below_alloc | apply pw_below_drewN | apply below_drew1 | refine below_set ?_ GE636.out | refine below_set ?_ GE637.out) | exact HB.out)⟩

end Go.Proofs.Ytkjibgfgbfacdaa.P
end
/-! part: F6 -/
section
set_option linter.unusedVariables false
set_option linter.unusedSimpArgs false
namespace Go.Proofs.Ytkjibgfgbfacdaa.P
open Go.RowKit Go.Proofs.YtkjibgfgbfacdaaW.PrintWords Go.Proofs.YtkjibgfgbfacdaaW.PrintLast Go.Proofs.YtkjibgfgbfacdaaW.PrintMore
attribute [local go_sem] max2_int min2_int max_two min_two max_three min_three max_four min_four   -- for this text's walks alone
set_option linter.unusedVariables false
set_option linter.unusedSimpArgs false

/-! ### cuvettelaw08_BookTexts: function 6 -/
def cuvettelaw08_BookTexts.j0 : Nat → List Int → Int → Int → Bool → Bool → Int → List (List Int) → Int → List (List Int) → Option (Bool)
  | 0, _, _, _, _, _, _, _, _, _ => none
  | k + 1, x2, x3, x4, x11, x43, x642000, x642001, x643000, x643001 => if x43 = true then (some x11) else ((book_Bytes.f k x642000 x642001).bind fun bt646 => ((cuvetteref08_Bytes.f k x642000 x642001).bind fun bt650 => ((book_From.f k x2).bind fun bt654 => ((cuvetteref08_From.f k x2).bind fun bt660 => ((book_Plain.f k x3 x4).bind fun bt666 => ((cuvetteref08_Plain.f k x3 x4).bind fun bt672 => ((book_Size.f x3 x4).bind fun bt678 => ((cuvetteref08_Size.f x3 x4).bind fun bt680 => (if x11 = true then ((cuvetteref01_SameBytes.f bt646.1 bt650.1).bind fun t682 => (if t682 = true then (if bt646.2 = bt650.2 then ((cuvetteref07_Same.f k bt654.1 bt654.2.1 bt660.1 bt660.2.1).bind fun t683 => (if t683 = true then (if bt654.2.2 = bt660.2.2 then ((cuvetteref07_Same.f k bt666.1 bt666.2.1 bt672.1 bt672.2.1).bind fun t684 => (if t684 = true then (if bt666.2.2 = bt672.2.2 then (if bt678.1 = bt680.1 then (if bt678.2 = bt680.2 then ((book_Same.f x642000 x642001 x643000 x643001).bind fun t685 => ((cuvetteref07_Same.f k x642000 x642001 x643000 x643001).bind fun t686 => (some (t685 == t686)))) else (some false)) else (some false)) else (some false)) else (some false))) else (some false)) else (some false))) else (some false)) else (some false))) else (some false))))))))))
def cuvettelaw08_BookTexts.f (k : Nat) (a0_0 : Int) (l0_1 : List (List Int)) (a1_0 : Int) (l1_1 : List (List Int)) (l2 : List Int) (a3 : Int) (a4 : Int) : Option (Bool) := (cuvettelaw08_live.f k).bind fun t643 => (if t643 = true then ((cuvetteref07_Few.f k a0_0 l0_1).bind fun t644 => (if t644 = true then ((cuvetteref07_Few.f k a1_0 l1_1).bind fun t645 => (if t645 = true then (cuvettelaw08_BookTexts.j0 k l2 a3 a4 t643 (decide ((l2.length : Int) > 3000)) a0_0 l0_1 a1_0 l1_1) else (cuvettelaw08_BookTexts.j0 k l2 a3 a4 t643 true a0_0 l0_1 a1_0 l1_1))) else (cuvettelaw08_BookTexts.j0 k l2 a3 a4 t643 true a0_0 l0_1 a1_0 l1_1))) else (some false))
theorem cuvettelaw08_BookTexts.mono_l : ∀ k, (∀ y0 y1 y2 y3 y4 y5 y6 y7 y8, LeO (cuvettelaw08_BookTexts.j0 k y0 y1 y2 y3 y4 y5 y6 y7 y8) (cuvettelaw08_BookTexts.j0 (k + 1) y0 y1 y2 y3 y4 y5 y6 y7 y8))
  | 0 => fun _ _ _ _ _ _ _ _ _ r h => by simp [cuvettelaw08_BookTexts.j0] at h
  | k + 1 => by
    have ih0 := cuvettelaw08_BookTexts.mono_l k
    · intro y0 y1 y2 y3 y4 y5 y6 y7 y8
      unfold cuvettelaw08_BookTexts.j0
      repeat' first
      | (with_reducible exact ih0 _ _ _ _ _ _ _ _ _)
      | (with_reducible exact book_Bytes.mono _ _ _)
      | (with_reducible exact book_From.mono _ _)
      | (with_reducible exact book_Plain.mono _ _ _)
      | (with_reducible exact cuvettelaw08_live.mono _)
      | (with_reducible exact cuvetteref07_Few.mono _ _ _)
      | (with_reducible exact cuvetteref07_Same.mono _ _ _ _ _)
      | (with_reducible exact cuvetteref08_Bytes.mono _ _ _)
      | (with_reducible exact cuvetteref08_From.mono _ _)
      | (with_reducible exact cuvetteref08_Plain.mono _ _ _)
      | (with_reducible exact LeO.refl _)
      | (with_reducible exact LeO.none _)
      | (with_reducible refine LeO.ite ?_ ?_)
      | (with_reducible refine LeO.bind ?_ (fun _ => ?_))
      | exact ih0 _ _ _ _ _ _ _ _ _
      | exact book_Bytes.mono _ _ _
      | exact book_From.mono _ _
      | exact book_Plain.mono _ _ _
      | exact cuvettelaw08_live.mono _
      | exact cuvetteref07_Few.mono _ _ _
      | exact cuvetteref07_Same.mono _ _ _ _ _
      | exact cuvetteref08_Bytes.mono _ _ _
      | exact cuvetteref08_From.mono _ _
      | exact cuvetteref08_Plain.mono _ _ _
      | exact LeO.none _
      | refine LeO.ite ?_ ?_
      | refine LeO.bind ?_ (fun _ => ?_)
theorem cuvettelaw08_BookTexts.mono : ∀ a0 a1 a2 a3 a4 a5 a6 k, LeO (cuvettelaw08_BookTexts.f k a0 a1 a2 a3 a4 a5 a6) (cuvettelaw08_BookTexts.f (k + 1) a0 a1 a2 a3 a4 a5 a6) := by
  intro a0 a1 a2 a3 a4 a5 a6 k
  have ih0 := cuvettelaw08_BookTexts.mono_l k
  unfold cuvettelaw08_BookTexts.f
  repeat' first
      | (with_reducible exact ih0 _ _ _ _ _ _ _ _ _)
      | (with_reducible exact book_Bytes.mono _ _ _)
      | (with_reducible exact book_From.mono _ _)
      | (with_reducible exact book_Plain.mono _ _ _)
      | (with_reducible exact cuvettelaw08_live.mono _)
      | (with_reducible exact cuvetteref07_Few.mono _ _ _)
      | (with_reducible exact cuvetteref07_Same.mono _ _ _ _ _)
      | (with_reducible exact cuvetteref08_Bytes.mono _ _ _)
      | (with_reducible exact cuvetteref08_From.mono _ _)
      | (with_reducible exact cuvetteref08_Plain.mono _ _ _)
      | (with_reducible exact LeO.refl _)
      | (with_reducible exact LeO.none _)
      | (with_reducible refine LeO.ite ?_ ?_)
      | (with_reducible refine LeO.bind ?_ (fun _ => ?_))
      | exact ih0 _ _ _ _ _ _ _ _ _
      | exact book_Bytes.mono _ _ _
      | exact book_From.mono _ _
      | exact book_Plain.mono _ _ _
      | exact cuvettelaw08_live.mono _
      | exact cuvetteref07_Few.mono _ _ _
      | exact cuvetteref07_Same.mono _ _ _ _ _
      | exact cuvetteref08_Bytes.mono _ _ _
      | exact cuvetteref08_From.mono _ _
      | exact cuvetteref08_Plain.mono _ _ _
      | exact LeO.none _
      | refine LeO.ite ?_ ?_
      | refine LeO.bind ?_ (fun _ => ?_)
def cuvettelaw08_BookTexts.T14 : Bool × List (List Nat × List Nat) := (true, [([], []), ([0], [0]), ([1], [1]), ([1], [1]), ([2, 3, 1, 1], [1, 2, 3]), ([1, 4], [1, 4]), ([5, 4], [5]), ([6], [6]), ([6], [6]), ([7, 8, 6], [6, 7, 8]), ([6, 9], [6, 9]), ([10, 6], [10]), ([11], [11]), ([11], [11]), ([12, 13, 11, 11], [11, 12, 13]), ([11, 14], [11, 14]), ([15, 14], [15]), ([16], [16]), ([16], [16]), ([17, 18, 16], [16, 17, 18]), ([16, 19], [16, 19]), ([20, 16], [20]), ([21], [21]), ([21], [21]), ([22, 23, 21, 21], [21, 22, 23]), ([21, 24], [21, 24]), ([25, 24], [25]), ([26], [26]), ([26], [26]), ([27, 28, 26], [26, 27, 28]), ([26, 29], [26, 29]), ([30, 26], [30]), ([31], [31]), ([31], [31]), ([32, 33, 31], [31, 32, 33]), ([31, 34], [31, 34]), ([35, 31], [35]), ([36], [36]), ([36], [36]), ([37, 38, 36], [36, 37, 38]), ([36, 39], [36, 39]), ([40, 36], [40]), ([41], [41]), ([41], [41]), ([42, 43, 41, 41], [41, 42, 43]), ([41], [41]), ([41], [41]), ([45, 46, 44, 41], [41, 45, 46]), ([44, 47, 41], [41, 44, 47]), ([41, 48], [41, 48]), ([49, 47, 0, 1, 2, 3, 4, 5, 6, 7, 8, 9, 10, 11, 12, 13, 14, 15, 16, 17, 18, 19, 20, 21, 22, 23, 24, 25, 26, 27, 28, 29, 30, 31, 32, 33, 34, 35, 36, 37, 38, 39, 40, 41, 42, 43, 44, 45, 46, 47, 48, 49], [49])])
def cuvettelaw08_BookTexts.B14 : List Nat := [0, 1, 3, 3, 15, 31, 63, 127, 127, 511, 1023, 2047, 4095, 4095, 16383, 32767, 65535, 131071, 131071, 524287, 1048575, 2097151, 4194303, 4194303, 16777215, 33554431, 67108863, 134217727, 134217727, 536870911, 1073741823, 2147483647, 4294967295, 4294967295, 17179869183, 34359738367, 68719476735, 137438953471, 137438953471, 549755813887, 1099511627775, 2199023255551, 4398046511103, 4398046511103, 17592186044415, 4398046511103, 4398046511103, 140737488355327, 281474976710655, 562949953421311, 1125899906842623]
theorem cuvettelaw08_BookTexts.tab14 : rtab .any (opsOf Try.f6 14) = cuvettelaw08_BookTexts.T14 := by kernel_rfl
theorem cuvettelaw08_BookTexts.bits14 : waitsOk cuvettelaw08_BookTexts.T14.2 cuvettelaw08_BookTexts.B14 = true := by kernel_rfl
set_option maxHeartbeats 8000000 in
set_option maxRecDepth 100000 in
theorem cuvettelaw08_BookTexts.calls (k : Nat) (a0_0 : Int) (A0_1 : Option Addr) (c0_1 : Nat) (l0_1 : List (List Int)) (a1_0 : Int) (A1_1 : Option Addr) (c1_1 : Nat) (l1_1 : List (List Int)) (A2 : Option Addr) (c2 : Nat) (l2 : List Int) (a3 : Int) (a4 : Int) (r : Bool) (w : World) (hr0_1 : Kd.C (Kd.slice 74 (Kd.int .i16)) w A0_1 l0_1.length l0_1) (hc0_1 : l0_1.length ≤ c0_1) (hr1_1 : Kd.C (Kd.slice 74 (Kd.int .i16)) w A1_1 l1_1.length l1_1) (hc1_1 : l1_1.length ≤ c1_1) (hr2 : Kd.C (Kd.int .u8) w A2 l2.length l2) (hc2 : l2.length ≤ c2) (h : cuvettelaw08_BookTexts.f k a0_0 l0_1 a1_0 l1_1 l2 a3 a4 = some r) (hT_ : r = true) :
    Calls Try.prog 6 #[.agg #[.int .i64 a0_0, .slice A0_1 l0_1.length c0_1], .agg #[.int .i64 a1_0, .slice A1_1 l1_1.length c1_1], .slice A2 l2.length c2, .int .i64 a3, .int .i64 a4] w fun e w' => e = .returned (.bool r) ∧ Below w.heap.size w w' := by
  have hu49 := Try.underlying49
  have HR0_1 := Aside0.mk hr0_1
  have HC0_1 := Aside0.mk hc0_1
  clear hr0_1 hc0_1
  have HR1_1 := Aside0.mk hr1_1
  have HC1_1 := Aside0.mk hc1_1
  clear hr1_1 hc1_1
  have HR2 := Aside0.mk hr2
  have HC2 := Aside0.mk hc2
  clear hr2 hc2
  have HB := Aside0.mk (Below.refl w.heap.size w)
  have H : ((cuvettelaw08_live.f k).bind fun t643 => (if t643 = true then ((cuvetteref07_Few.f k a0_0 l0_1).bind fun t644 => (if t644 = true then ((cuvetteref07_Few.f k a1_0 l1_1).bind fun t645 => (if t645 = true then (cuvettelaw08_BookTexts.j0 k l2 a3 a4 t643 (decide ((l2.length : Int) > 3000)) a0_0 l0_1 a1_0 l1_1) else (cuvettelaw08_BookTexts.j0 k l2 a3 a4 t643 true a0_0 l0_1 a1_0 l1_1))) else (cuvettelaw08_BookTexts.j0 k l2 a3 a4 t643 true a0_0 l0_1 a1_0 l1_1))) else (some false))) = some r := h
  clear h
  replace H := Option.bind_eq_some_iff.mp H
  obtain ⟨t643, A60, H⟩ := H
  replace H : (if t643 = true then ((cuvetteref07_Few.f k a0_0 l0_1).bind fun t644 => (if t644 = true then ((cuvetteref07_Few.f k a1_0 l1_1).bind fun t645 => (if t645 = true then (cuvettelaw08_BookTexts.j0 k l2 a3 a4 t643 (decide ((l2.length : Int) > 3000)) a0_0 l0_1 a1_0 l1_1) else (cuvettelaw08_BookTexts.j0 k l2 a3 a4 t643 true a0_0 l0_1 a1_0 l1_1))) else (cuvettelaw08_BookTexts.j0 k l2 a3 a4 t643 true a0_0 l0_1 a1_0 l1_1))) else (some false)) = some r := H
  have A6 := Aside0.mk A60
  clear A60
  by_cases c7 : t643 = true
  · subst c7
    have H1 : ((cuvetteref07_Few.f k a0_0 l0_1).bind fun t644 => (if t644 = true then ((cuvetteref07_Few.f k a1_0 l1_1).bind fun t645 => (if t645 = true then (cuvettelaw08_BookTexts.j0 k l2 a3 a4 true (decide ((l2.length : Int) > 3000)) a0_0 l0_1 a1_0 l1_1) else (cuvettelaw08_BookTexts.j0 k l2 a3 a4 true true a0_0 l0_1 a1_0 l1_1))) else (cuvettelaw08_BookTexts.j0 k l2 a3 a4 true true a0_0 l0_1 a1_0 l1_1))) = some r := by rw [if_pos rfl] at H; exact H
    clear H
    have H := H1
    clear H1
    have HC8 := Aside0.mk H
    clear H
    go_enter Try.func6, Try.ntmps6
    go_upto_region 4 with (first | ((with_reducible refine gate_dst (N := 5) rfl ?_); (try (refine gate_guard (by rfl) ?_; dsimp only)); refine box_event ?hg (N := 5) ?hd (cs := #[.int .i64 a0_0, .slice A0_1 l0_1.length c0_1]) (t := 49) ?hr ?_; (case hd => rfl); (case hg => rfl); (case hr => first | (go_simp; done) | (go_simp; rfl)); intro gb641 hg w9 hbox hb; have n0_ := Aside0.mk (below_step (by repeat (first | (with_reducible first | exact HB.out | apply below_alloc | apply pw_below_drewN | apply below_drew1) | exact HB.out)) hb); have n1_ := Aside0.mk (hbox); have n2_ := Aside0.mk ((by rw [hg]; exact (below_size (by repeat (first | (with_reducible first | exact HB.out | apply below_alloc | apply pw_below_drewN | apply below_drew1) | exact HB.out))) : w.heap.size ≤ gb641)); have n3_ := Aside0.mk ((by rw [hg]; exact (below_size (by repeat (first | (with_reducible first | exact HB.out | apply below_alloc | apply pw_below_drewN | apply below_drew1) | exact HB.out))) : w.heap.size ≤ gb641)); clear HB; have HB := n0_; have BK641 := n1_; have GW641 := n2_; have GE641 := n3_; clear n0_ n1_ n2_ n3_; clear hb hbox hg) | ((with_reducible refine gate_dst (N := 6) rfl ?_); (try (refine gate_guard (by rfl) ?_; dsimp only)); refine box_event ?hg (N := 6) ?hd (cs := #[.int .i64 a1_0, .slice A1_1 l1_1.length c1_1]) (t := 49) ?hr ?_; (case hd => rfl); (case hg => rfl); (case hr => first | (go_simp; done) | (go_simp; rfl)); intro gb642 hg w10 hbox hb; have n0_ := Aside0.mk (blk_below (g := gb641) (o := .cells #[.int .i64 a0_0, .slice A0_1 l0_1.length c0_1] 49 (0, 0)) (by (with_reducible repeat (first | refine blk_drewN ?_ _ | refine blk_drew ?_ | refine blk_alloc ?_ _)); exact BK641.out) hb); have n1_ := Aside0.mk (below_step (by repeat (first | (with_reducible first | exact HB.out | apply below_alloc | apply pw_below_drewN | apply below_drew1 | refine below_set ?_ GE641.out) | exact HB.out)) hb); have n2_ := Aside0.mk (hbox); have n3_ := Aside0.mk ((by rw [hg]; exact (below_size (by repeat (first | (with_reducible first | exact HB.out | apply below_alloc | apply pw_below_drewN | apply below_drew1 | refine below_set ?_ GE641.out) | exact HB.out))) : w.heap.size ≤ gb642)); have n4_ := Aside0.mk ((by rw [hg]; exact (below_size (by repeat (first | (with_reducible first | exact HB.out | apply below_alloc | apply pw_below_drewN | apply below_drew1 | refine below_set ?_ GE641.out) | exact HB.out))) : w.heap.size ≤ gb642)); have n5_ := Aside0.mk ((by rw [hg]; exact Nat.ne_of_lt (blk_lt (g := gb641) (o := .cells #[.int .i64 a0_0, .slice A0_1 l0_1.length c0_1] 49 (0, 0)) (by (with_reducible repeat (first | refine blk_drewN ?_ _ | refine blk_drew ?_ | refine blk_alloc ?_ _)); exact BK641.out)) : gb641 ≠ gb642)); have n6_ := Aside0.mk ((by rw [hg]; exact Nat.ne_of_gt (blk_lt (g := gb641) (o := .cells #[.int .i64 a0_0, .slice A0_1 l0_1.length c0_1] 49 (0, 0)) (by (with_reducible repeat (first | refine blk_drewN ?_ _ | refine blk_drew ?_ | refine blk_alloc ?_ _)); exact BK641.out)) : gb642 ≠ gb641)); clear BK641; clear HB; have BK641 := n0_; have HB := n1_; have BK642 := n2_; have GW642 := n3_; have GE642 := n4_; have NB641_642 := n5_; have NB642_641 := n6_; clear n0_ n1_ n2_ n3_ n4_ n5_ n6_; clear hb hbox hg) | ((with_reducible refine gate_callee (f := 35) rfl ?_); refine goesL_ (some 28) rfl rfl Try.func35 (by kernel_rfl) rfl #[] rfl (by (try simp only [List.map_toArray, List.map_cons, List.map_nil]); first | done | rfl | (simp only [List.length_drop, List.length_take]; rfl)) ?_; (with_reducible refine (cuvettelaw08_live.calls k  true _ A6.out).mono ?_); rintro e w11 ⟨rfl, hb⟩; refine ⟨_, rfl, ?_⟩; have n0_ := Aside0.mk (blk_below (g := gb641) (o := .cells #[.int .i64 a0_0, .slice A0_1 l0_1.length c0_1] 49 (0, 0)) (by (with_reducible repeat (first | refine blk_drewN ?_ _ | refine blk_drew ?_ | refine blk_alloc ?_ _)); exact BK641.out) hb); have n1_ := Aside0.mk (blk_below (g := gb642) (o := .cells #[.int .i64 a1_0, .slice A1_1 l1_1.length c1_1] 49 (0, 0)) (by (with_reducible repeat (first | refine blk_drewN ?_ _ | refine blk_drew ?_ | refine blk_alloc ?_ _)); exact BK642.out) hb); have n2_ := Aside0.mk (below_step (by repeat (first | (with_reducible first | exact HB.out | apply below_alloc | apply pw_below_drewN | apply below_drew1 | refine below_set ?_ GE641.out | refine below_set ?_ GE642.out) | exact HB.out)) hb); clear BK641; clear BK642; clear HB; have BK641 := n0_; have BK642 := n1_; have HB := n2_; clear n0_ n1_ n2_; (try clear hb); (try clear hb2); (try clear hk); (try clear hi)))
    (try simp only [Act.put, List.setIfInBounds_toArray, List.set_cons_zero, List.set_cons_succ])
    go_cut [43] (fun v43 wc => ∃ (kq : Nat) (x43_7 : Bool), v43 = .bool x43_7 ∧ Aside0 (cuvettelaw08_BookTexts.j0 kq l2 a3 a4 true x43_7 a0_0 l0_1 a1_0 l1_1 = some r) ∧ Aside0 (kq ≤ k) ∧ Aside0 (wc.heap[gb641]? = some (.cells #[.int .i64 a0_0, (.slice A0_1 l0_1.length c0_1)] 49 (0, 0))) ∧ Aside0 (wc.heap[gb642]? = some (.cells #[.int .i64 a1_0, (.slice A1_1 l1_1.length c1_1)] 49 (0, 0))) ∧ Aside0 (Below w.heap.size w wc))
    case first =>
      have H := HC8.out
      clear HC8
      replace H := Option.bind_eq_some_iff.mp H
      obtain ⟨t644, A120, H⟩ := H
      replace H : (if t644 = true then ((cuvetteref07_Few.f k a1_0 l1_1).bind fun t645 => (if t645 = true then (cuvettelaw08_BookTexts.j0 k l2 a3 a4 true (decide ((l2.length : Int) > 3000)) a0_0 l0_1 a1_0 l1_1) else (cuvettelaw08_BookTexts.j0 k l2 a3 a4 true true a0_0 l0_1 a1_0 l1_1))) else (cuvettelaw08_BookTexts.j0 k l2 a3 a4 true true a0_0 l0_1 a1_0 l1_1)) = some r := H
      have A12 := Aside0.mk A120
      clear A120
      by_cases c13 : t644 = true
      · subst c13
        have H1 : ((cuvetteref07_Few.f k a1_0 l1_1).bind fun t645 => (if t645 = true then (cuvettelaw08_BookTexts.j0 k l2 a3 a4 true (decide ((l2.length : Int) > 3000)) a0_0 l0_1 a1_0 l1_1) else (cuvettelaw08_BookTexts.j0 k l2 a3 a4 true true a0_0 l0_1 a1_0 l1_1))) = some r := by rw [if_pos rfl] at H; exact H
        clear H
        have H := H1
        clear H1
        replace H := Option.bind_eq_some_iff.mp H
        obtain ⟨t645, A140, H⟩ := H
        replace H : (if t645 = true then (cuvettelaw08_BookTexts.j0 k l2 a3 a4 true (decide ((l2.length : Int) > 3000)) a0_0 l0_1 a1_0 l1_1) else (cuvettelaw08_BookTexts.j0 k l2 a3 a4 true true a0_0 l0_1 a1_0 l1_1)) = some r := H
        have A14 := Aside0.mk A140
        clear A140
        by_cases c15 : t645 = true
        · subst c15
          have H1 : (cuvettelaw08_BookTexts.j0 k l2 a3 a4 true (decide ((l2.length : Int) > 3000)) a0_0 l0_1 a1_0 l1_1) = some r := by rw [if_pos rfl] at H; exact H
          clear H
          have H := H1
          clear H1
          have H' := Aside0.mk H
          clear H
          have hnb16 := NB641_642.out
          have hnc16 := NB642_641.out
          have hcz17_0 : w11.cell? ⟨gb641, 0, none⟩ = some (.int .i64 a0_0) := (blk_cell BK641.out 0).trans rfl
          have hcz17_1 : w11.cell? ⟨gb641, 1, none⟩ = some (.slice A0_1 l0_1.length c0_1) := (blk_cell BK641.out 1).trans rfl
          have hfz17_0 := blk_frozen BK641.out 0
          have hfz17_1 := blk_frozen BK641.out 1
          go_wp2_with (first | ((with_reducible refine gate_callee (f := 36) rfl ?_); refine goesL_ (some 32) rfl rfl Try.func36 (by kernel_rfl) rfl #[.agg #[.int .i64 a0_0, .slice A0_1 l0_1.length c0_1]] rfl (by (try simp only [List.map_toArray, List.map_cons, List.map_nil]); first | done | rfl | (simp only [List.length_drop, List.length_take]; rfl)) ?_; (with_reducible refine (cuvetteref07_Few.calls k a0_0 _ _ l0_1 true _ ?side1 ?side2 A12.out).mono ?_); (case side1 => repeat (first | exact (Kd.C_below HR0_1.out HB.out) | (with_reducible refine Kd.C_alloc ?_ _) | (with_reducible refine Kd.C_drewN ?_ _) | (with_reducible refine Kd.C_drew ?_))); (case side2 => exact HC0_1.out); rintro e w18 ⟨rfl, hb⟩; refine ⟨_, rfl, ?_⟩; have n0_ := Aside0.mk (blk_below (g := gb641) (o := .cells #[.int .i64 a0_0, .slice A0_1 l0_1.length c0_1] 49 (0, 0)) (by (with_reducible repeat (first | refine blk_drewN ?_ _ | refine blk_drew ?_ | refine blk_alloc ?_ _)); exact BK641.out) hb); have n1_ := Aside0.mk (blk_below (g := gb642) (o := .cells #[.int .i64 a1_0, .slice A1_1 l1_1.length c1_1] 49 (0, 0)) (by (with_reducible repeat (first | refine blk_drewN ?_ _ | refine blk_drew ?_ | refine blk_alloc ?_ _)); exact BK642.out) hb); have n2_ := Aside0.mk (below_step (by repeat (first | (with_reducible first | exact HB.out | apply below_alloc | apply pw_below_drewN | apply below_drew1 | refine below_set ?_ GE641.out | refine below_set ?_ GE642.out) | exact HB.out)) hb); clear BK641; clear BK642; clear HB; have BK641 := n0_; have BK642 := n1_; have HB := n2_; clear n0_ n1_ n2_; (try clear hb); (try clear hb2); (try clear hk); (try clear hi); have hcz19_0 : w18.cell? ⟨gb642, 0, none⟩ = some (.int .i64 a1_0) := (blk_cell BK642.out 0).trans rfl; have hcz19_1 : w18.cell? ⟨gb642, 1, none⟩ = some (.slice A1_1 l1_1.length c1_1) := (blk_cell BK642.out 1).trans rfl; have hfz19_0 := blk_frozen BK642.out 0; have hfz19_1 := blk_frozen BK642.out 1) | (go_at_call 36; (with_reducible refine (cuvetteref07_Few.calls k a1_0 _ _ l1_1 true _ ?side1 ?side2 A14.out).mono ?_); (case side1 => repeat (first | exact (Kd.C_below HR1_1.out HB.out) | (with_reducible refine Kd.C_alloc ?_ _) | (with_reducible refine Kd.C_drewN ?_ _) | (with_reducible refine Kd.C_drew ?_))); (case side2 => exact HC1_1.out); rintro e w20 ⟨rfl, hb⟩; have n0_ := Aside0.mk (blk_below (g := gb641) (o := .cells #[.int .i64 a0_0, .slice A0_1 l0_1.length c0_1] 49 (0, 0)) (by (with_reducible repeat (first | refine blk_drewN ?_ _ | refine blk_drew ?_ | refine blk_alloc ?_ _)); exact BK641.out) hb); have n1_ := Aside0.mk (blk_below (g := gb642) (o := .cells #[.int .i64 a1_0, .slice A1_1 l1_1.length c1_1] 49 (0, 0)) (by (with_reducible repeat (first | refine blk_drewN ?_ _ | refine blk_drew ?_ | refine blk_alloc ?_ _)); exact BK642.out) hb); have n2_ := Aside0.mk (below_step (by repeat (first | (with_reducible first | exact HB.out | apply below_alloc | apply pw_below_drewN | apply below_drew1 | refine below_set ?_ GE641.out | refine below_set ?_ GE642.out) | exact HB.out)) hb); clear BK641; clear BK642; clear HB; have BK641 := n0_; have BK642 := n1_; have HB := n2_; clear n0_ n1_ n2_; (try clear hb); (try clear hb2); (try clear hk); (try clear hi)))
          go_meet
          case rel => exact ⟨_, (decide ((l2.length : Int) > 3000)), (by first | rfl | (simp; done) | (simp [*]; done)), H', ⟨by first | omega | exact Nat.le_refl _⟩, ⟨by (with_reducible repeat (first | refine blk_drewN ?_ _ | refine blk_drew ?_ | refine blk_alloc ?_ _)); exact BK641.out⟩, ⟨by (with_reducible repeat (first | refine blk_drewN ?_ _ | refine blk_drew ?_ | refine blk_alloc ?_ _)); exact BK642.out⟩, ⟨by repeat (first | (with_reducible first | exact HB.out | apply below_alloc | apply pw_below_drewN | apply below_drew1 | refine below_set ?_ GE641.out | refine below_set ?_ GE642.out) | exact HB.out)⟩⟩
        · replace c15 := Bool.eq_false_iff.mpr c15
          subst c15
          have H1 : (cuvettelaw08_BookTexts.j0 k l2 a3 a4 true true a0_0 l0_1 a1_0 l1_1) = some r := by rw [if_neg (show ¬ (false = true) by decide)] at H; exact H
          clear H
          have H := H1
          clear H1
          have H' := Aside0.mk H
          clear H
          have hnb21 := NB641_642.out
          have hnc21 := NB642_641.out
          have hcz22_0 : w11.cell? ⟨gb641, 0, none⟩ = some (.int .i64 a0_0) := (blk_cell BK641.out 0).trans rfl
          have hcz22_1 : w11.cell? ⟨gb641, 1, none⟩ = some (.slice A0_1 l0_1.length c0_1) := (blk_cell BK641.out 1).trans rfl
          have hfz22_0 := blk_frozen BK641.out 0
          have hfz22_1 := blk_frozen BK641.out 1
          go_wp2_with (first | ((with_reducible refine gate_callee (f := 36) rfl ?_); refine goesL_ (some 32) rfl rfl Try.func36 (by kernel_rfl) rfl #[.agg #[.int .i64 a0_0, .slice A0_1 l0_1.length c0_1]] rfl (by (try simp only [List.map_toArray, List.map_cons, List.map_nil]); first | done | rfl | (simp only [List.length_drop, List.length_take]; rfl)) ?_; (with_reducible refine (cuvetteref07_Few.calls k a0_0 _ _ l0_1 true _ ?side1 ?side2 A12.out).mono ?_); (case side1 => repeat (first | exact (Kd.C_below HR0_1.out HB.out) | (with_reducible refine Kd.C_alloc ?_ _) | (with_reducible refine Kd.C_drewN ?_ _) | (with_reducible refine Kd.C_drew ?_))); (case side2 => exact HC0_1.out); rintro e w23 ⟨rfl, hb⟩; refine ⟨_, rfl, ?_⟩; have n0_ := Aside0.mk (blk_below (g := gb641) (o := .cells #[.int .i64 a0_0, .slice A0_1 l0_1.length c0_1] 49 (0, 0)) (by (with_reducible repeat (first | refine blk_drewN ?_ _ | refine blk_drew ?_ | refine blk_alloc ?_ _)); exact BK641.out) hb); have n1_ := Aside0.mk (blk_below (g := gb642) (o := .cells #[.int .i64 a1_0, .slice A1_1 l1_1.length c1_1] 49 (0, 0)) (by (with_reducible repeat (first | refine blk_drewN ?_ _ | refine blk_drew ?_ | refine blk_alloc ?_ _)); exact BK642.out) hb); have n2_ := Aside0.mk (below_step (by repeat (first | (with_reducible first | exact HB.out | apply below_alloc | apply pw_below_drewN | apply below_drew1 | refine below_set ?_ GE641.out | refine below_set ?_ GE642.out) | exact HB.out)) hb); clear BK641; clear BK642; clear HB; have BK641 := n0_; have BK642 := n1_; have HB := n2_; clear n0_ n1_ n2_; (try clear hb); (try clear hb2); (try clear hk); (try clear hi); have hcz24_0 : w23.cell? ⟨gb642, 0, none⟩ = some (.int .i64 a1_0) := (blk_cell BK642.out 0).trans rfl; have hcz24_1 : w23.cell? ⟨gb642, 1, none⟩ = some (.slice A1_1 l1_1.length c1_1) := (blk_cell BK642.out 1).trans rfl; have hfz24_0 := blk_frozen BK642.out 0; have hfz24_1 := blk_frozen BK642.out 1) | (go_at_call 36; (with_reducible refine (cuvetteref07_Few.calls k a1_0 _ _ l1_1 false _ ?side1 ?side2 A14.out).mono ?_); (case side1 => repeat (first | exact (Kd.C_below HR1_1.out HB.out) | (with_reducible refine Kd.C_alloc ?_ _) | (with_reducible refine Kd.C_drewN ?_ _) | (with_reducible refine Kd.C_drew ?_))); (case side2 => exact HC1_1.out); rintro e w25 ⟨rfl, hb⟩; have n0_ := Aside0.mk (blk_below (g := gb641) (o := .cells #[.int .i64 a0_0, .slice A0_1 l0_1.length c0_1] 49 (0, 0)) (by (with_reducible repeat (first | refine blk_drewN ?_ _ | refine blk_drew ?_ | refine blk_alloc ?_ _)); exact BK641.out) hb); have n1_ := Aside0.mk (blk_below (g := gb642) (o := .cells #[.int .i64 a1_0, .slice A1_1 l1_1.length c1_1] 49 (0, 0)) (by (with_reducible repeat (first | refine blk_drewN ?_ _ | refine blk_drew ?_ | refine blk_alloc ?_ _)); exact BK642.out) hb); have n2_ := Aside0.mk (below_step (by repeat (first | (with_reducible first | exact HB.out | apply below_alloc | apply pw_below_drewN | apply below_drew1 | refine below_set ?_ GE641.out | refine below_set ?_ GE642.out) | exact HB.out)) hb); clear BK641; clear BK642; clear HB; have BK641 := n0_; have BK642 := n1_; have HB := n2_; clear n0_ n1_ n2_; (try clear hb); (try clear hb2); (try clear hk); (try clear hi)))
          go_meet
          case rel => exact ⟨_, (true), (by first | rfl | (simp; done) | (simp [*]; done)), H', ⟨by first | omega | exact Nat.le_refl _⟩, ⟨by (with_reducible repeat (first | refine blk_drewN ?_ _ | refine blk_drew ?_ | refine blk_alloc ?_ _)); exact BK641.out⟩, ⟨by (with_reducible repeat (first | refine blk_drewN ?_ _ | refine blk_drew ?_ | refine blk_alloc ?_ _)); exact BK642.out⟩, ⟨by repeat (first | (with_reducible first | exact HB.out | apply below_alloc | apply pw_below_drewN | apply below_drew1 | refine below_set ?_ GE641.out | refine below_set ?_ GE642.out) | exact HB.out)⟩⟩
      · replace c13 := Bool.eq_false_iff.mpr c13
        subst c13
        have H1 : (cuvettelaw08_BookTexts.j0 k l2 a3 a4 true true a0_0 l0_1 a1_0 l1_1) = some r := by rw [if_neg (show ¬ (false = true) by decide)] at H; exact H
        clear H
        have H := H1
        clear H1
        have H' := Aside0.mk H
        clear H
        have hnb26 := NB641_642.out
        have hnc26 := NB642_641.out
        have hcz27_0 : w11.cell? ⟨gb641, 0, none⟩ = some (.int .i64 a0_0) := (blk_cell BK641.out 0).trans rfl
        have hcz27_1 : w11.cell? ⟨gb641, 1, none⟩ = some (.slice A0_1 l0_1.length c0_1) := (blk_cell BK641.out 1).trans rfl
        have hfz27_0 := blk_frozen BK641.out 0
        have hfz27_1 := blk_frozen BK641.out 1
        go_wp2_with (first | ((with_reducible refine gate_callee (f := 36) rfl ?_); refine goesL_ (some 32) rfl rfl Try.func36 (by kernel_rfl) rfl #[.agg #[.int .i64 a0_0, .slice A0_1 l0_1.length c0_1]] rfl (by (try simp only [List.map_toArray, List.map_cons, List.map_nil]); first | done | rfl | (simp only [List.length_drop, List.length_take]; rfl)) ?_; (with_reducible refine (cuvetteref07_Few.calls k a0_0 _ _ l0_1 false _ ?side1 ?side2 A12.out).mono ?_); (case side1 => repeat (first | exact (Kd.C_below HR0_1.out HB.out) | (with_reducible refine Kd.C_alloc ?_ _) | (with_reducible refine Kd.C_drewN ?_ _) | (with_reducible refine Kd.C_drew ?_))); (case side2 => exact HC0_1.out); rintro e w28 ⟨rfl, hb⟩; refine ⟨_, rfl, ?_⟩; have n0_ := Aside0.mk (blk_below (g := gb641) (o := .cells #[.int .i64 a0_0, .slice A0_1 l0_1.length c0_1] 49 (0, 0)) (by (with_reducible repeat (first | refine blk_drewN ?_ _ | refine blk_drew ?_ | refine blk_alloc ?_ _)); exact BK641.out) hb); have n1_ := Aside0.mk (blk_below (g := gb642) (o := .cells #[.int .i64 a1_0, .slice A1_1 l1_1.length c1_1] 49 (0, 0)) (by (with_reducible repeat (first | refine blk_drewN ?_ _ | refine blk_drew ?_ | refine blk_alloc ?_ _)); exact BK642.out) hb); have n2_ := Aside0.mk (below_step (by repeat (first | (with_reducible first | exact HB.out | apply below_alloc | apply pw_below_drewN | apply below_drew1 | refine below_set ?_ GE641.out | refine below_set ?_ GE642.out) | exact HB.out)) hb); clear BK641; clear BK642; clear HB; have BK641 := n0_; have BK642 := n1_; have HB := n2_; clear n0_ n1_ n2_; (try clear hb); (try clear hb2); (try clear hk); (try clear hi)))
        go_meet
        case rel => exact ⟨_, (true), (by first | rfl | (simp; done) | (simp [*]; done)), H', ⟨by first | omega | exact Nat.le_refl _⟩, ⟨by (with_reducible repeat (first | refine blk_drewN ?_ _ | refine blk_drew ?_ | refine blk_alloc ?_ _)); exact BK641.out⟩, ⟨by (with_reducible repeat (first | refine blk_drewN ?_ _ | refine blk_drew ?_ | refine blk_alloc ?_ _)); exact BK642.out⟩, ⟨by repeat (first | (with_reducible first | exact HB.out | apply below_alloc | apply pw_below_drewN | apply below_drew1 | refine below_set ?_ GE641.out | refine below_set ?_ GE642.out) | exact HB.out)⟩⟩
    case rest =>
      clear HC8
      try clear c1
      try clear c2
      try clear p2
      try clear c3
      try clear c6
      try clear c7
      try clear c13
      try clear c15
      try clear c16
      try clear c21
      try clear c26
      try clear hcz17_0
      try clear hcz17_1
      try clear hcz19_0
      try clear hcz19_1
      try clear hcz22_0
      try clear hcz22_1
      try clear hcz24_0
      try clear hcz24_1
      try clear hcz27_0
      try clear hcz27_1
      try clear hfz17_0
      try clear hfz17_1
      try clear hfz19_0
      try clear hfz19_1
      try clear hfz22_0
      try clear hfz22_1
      try clear hfz24_0
      try clear hfz24_1
      try clear hfz27_0
      try clear hfz27_1
      obtain ⟨kq, x43_7, rfl, HA, HJ7, BK641, BK642, HB⟩ := hcut
      cases kq with
      | zero => exact absurd HA.out (by simp [cuvettelaw08_BookTexts.j0])
      | succ kj7 =>
        have H := HA.out
        clear HA
        simp only [cuvettelaw08_BookTexts.j0] at H
        by_cases c29 : x43_7 = true
        · subst c29
          have H1 : (some true) = some r := by rw [if_pos rfl] at H; exact H
          clear H
          have H := H1
          clear H1
          obtain rfl := Option.some.inj H
          go_wp2
          go_ret
          exact ⟨by first | rfl | (simp [errW_none, errW_some] <;> rfl) | (simp [*, errW_none, errW_some] <;> rfl), by repeat (first | (with_reducible first | exact HB.out | apply below_alloc | apply pw_below_drewN | apply below_drew1 | refine below_set ?_ GE641.out | refine below_set ?_ GE642.out) | exact HB.out)⟩
        · replace c29 := Bool.eq_false_iff.mpr c29
          subst c29
          have H1 : ((book_Bytes.f kj7 a0_0 l0_1).bind fun bt646 => ((cuvetteref08_Bytes.f kj7 a0_0 l0_1).bind fun bt650 => ((book_From.f kj7 l2).bind fun bt654 => ((cuvetteref08_From.f kj7 l2).bind fun bt660 => ((book_Plain.f kj7 a3 a4).bind fun bt666 => ((cuvetteref08_Plain.f kj7 a3 a4).bind fun bt672 => ((book_Size.f a3 a4).bind fun bt678 => ((cuvetteref08_Size.f a3 a4).bind fun bt680 => (if true = true then ((cuvetteref01_SameBytes.f bt646.1 bt650.1).bind fun t682 => (if t682 = true then (if bt646.2 = bt650.2 then ((cuvetteref07_Same.f kj7 bt654.1 bt654.2.1 bt660.1 bt660.2.1).bind fun t683 => (if t683 = true then (if bt654.2.2 = bt660.2.2 then ((cuvetteref07_Same.f kj7 bt666.1 bt666.2.1 bt672.1 bt672.2.1).bind fun t684 => (if t684 = true then (if bt666.2.2 = bt672.2.2 then (if bt678.1 = bt680.1 then (if bt678.2 = bt680.2 then ((book_Same.f a0_0 l0_1 a1_0 l1_1).bind fun t685 => ((cuvetteref07_Same.f kj7 a0_0 l0_1 a1_0 l1_1).bind fun t686 => (some (t685 == t686)))) else (some false)) else (some false)) else (some false)) else (some false))) else (some false)) else (some false))) else (some false)) else (some false))) else (some false)))))))))) = some r := by rw [if_neg (show ¬ (false = true) by decide)] at H; exact H
          clear H
          have H := H1
          clear H1
          replace H := Option.bind_eq_some_iff.mp H
          obtain ⟨⟨t646, t649⟩, A300, H⟩ := H
          replace H : ((cuvetteref08_Bytes.f kj7 a0_0 l0_1).bind fun bt650 => ((book_From.f kj7 l2).bind fun bt654 => ((cuvetteref08_From.f kj7 l2).bind fun bt660 => ((book_Plain.f kj7 a3 a4).bind fun bt666 => ((cuvetteref08_Plain.f kj7 a3 a4).bind fun bt672 => ((book_Size.f a3 a4).bind fun bt678 => ((cuvetteref08_Size.f a3 a4).bind fun bt680 => (if true = true then ((cuvetteref01_SameBytes.f t646 bt650.1).bind fun t682 => (if t682 = true then (if t649 = bt650.2 then ((cuvetteref07_Same.f kj7 bt654.1 bt654.2.1 bt660.1 bt660.2.1).bind fun t683 => (if t683 = true then (if bt654.2.2 = bt660.2.2 then ((cuvetteref07_Same.f kj7 bt666.1 bt666.2.1 bt672.1 bt672.2.1).bind fun t684 => (if t684 = true then (if bt666.2.2 = bt672.2.2 then (if bt678.1 = bt680.1 then (if bt678.2 = bt680.2 then ((book_Same.f a0_0 l0_1 a1_0 l1_1).bind fun t685 => ((cuvetteref07_Same.f kj7 a0_0 l0_1 a1_0 l1_1).bind fun t686 => (some (t685 == t686)))) else (some false)) else (some false)) else (some false)) else (some false))) else (some false)) else (some false))) else (some false)) else (some false))) else (some false))))))))) = some r := H
          have A30 := Aside0.mk A300
          clear A300
          replace H := Option.bind_eq_some_iff.mp H
          obtain ⟨⟨t650, t653⟩, A310, H⟩ := H
          replace H : ((book_From.f kj7 l2).bind fun bt654 => ((cuvetteref08_From.f kj7 l2).bind fun bt660 => ((book_Plain.f kj7 a3 a4).bind fun bt666 => ((cuvetteref08_Plain.f kj7 a3 a4).bind fun bt672 => ((book_Size.f a3 a4).bind fun bt678 => ((cuvetteref08_Size.f a3 a4).bind fun bt680 => (if true = true then ((cuvetteref01_SameBytes.f t646 t650).bind fun t682 => (if t682 = true then (if t649 = t653 then ((cuvetteref07_Same.f kj7 bt654.1 bt654.2.1 bt660.1 bt660.2.1).bind fun t683 => (if t683 = true then (if bt654.2.2 = bt660.2.2 then ((cuvetteref07_Same.f kj7 bt666.1 bt666.2.1 bt672.1 bt672.2.1).bind fun t684 => (if t684 = true then (if bt666.2.2 = bt672.2.2 then (if bt678.1 = bt680.1 then (if bt678.2 = bt680.2 then ((book_Same.f a0_0 l0_1 a1_0 l1_1).bind fun t685 => ((cuvetteref07_Same.f kj7 a0_0 l0_1 a1_0 l1_1).bind fun t686 => (some (t685 == t686)))) else (some false)) else (some false)) else (some false)) else (some false))) else (some false)) else (some false))) else (some false)) else (some false))) else (some false)))))))) = some r := H
          have A31 := Aside0.mk A310
          clear A310
          replace H := Option.bind_eq_some_iff.mp H
          obtain ⟨⟨t654, t655, t658⟩, A320, H⟩ := H
          replace H : ((cuvetteref08_From.f kj7 l2).bind fun bt660 => ((book_Plain.f kj7 a3 a4).bind fun bt666 => ((cuvetteref08_Plain.f kj7 a3 a4).bind fun bt672 => ((book_Size.f a3 a4).bind fun bt678 => ((cuvetteref08_Size.f a3 a4).bind fun bt680 => (if true = true then ((cuvetteref01_SameBytes.f t646 t650).bind fun t682 => (if t682 = true then (if t649 = t653 then ((cuvetteref07_Same.f kj7 t654 t655 bt660.1 bt660.2.1).bind fun t683 => (if t683 = true then (if t658 = bt660.2.2 then ((cuvetteref07_Same.f kj7 bt666.1 bt666.2.1 bt672.1 bt672.2.1).bind fun t684 => (if t684 = true then (if bt666.2.2 = bt672.2.2 then (if bt678.1 = bt680.1 then (if bt678.2 = bt680.2 then ((book_Same.f a0_0 l0_1 a1_0 l1_1).bind fun t685 => ((cuvetteref07_Same.f kj7 a0_0 l0_1 a1_0 l1_1).bind fun t686 => (some (t685 == t686)))) else (some false)) else (some false)) else (some false)) else (some false))) else (some false)) else (some false))) else (some false)) else (some false))) else (some false))))))) = some r := H
          have A32 := Aside0.mk A320
          clear A320
          replace H := Option.bind_eq_some_iff.mp H
          obtain ⟨⟨t660, t661, t664⟩, A330, H⟩ := H
          replace H : ((book_Plain.f kj7 a3 a4).bind fun bt666 => ((cuvetteref08_Plain.f kj7 a3 a4).bind fun bt672 => ((book_Size.f a3 a4).bind fun bt678 => ((cuvetteref08_Size.f a3 a4).bind fun bt680 => (if true = true then ((cuvetteref01_SameBytes.f t646 t650).bind fun t682 => (if t682 = true then (if t649 = t653 then ((cuvetteref07_Same.f kj7 t654 t655 t660 t661).bind fun t683 => (if t683 = true then (if t658 = t664 then ((cuvetteref07_Same.f kj7 bt666.1 bt666.2.1 bt672.1 bt672.2.1).bind fun t684 => (if t684 = true then (if bt666.2.2 = bt672.2.2 then (if bt678.1 = bt680.1 then (if bt678.2 = bt680.2 then ((book_Same.f a0_0 l0_1 a1_0 l1_1).bind fun t685 => ((cuvetteref07_Same.f kj7 a0_0 l0_1 a1_0 l1_1).bind fun t686 => (some (t685 == t686)))) else (some false)) else (some false)) else (some false)) else (some false))) else (some false)) else (some false))) else (some false)) else (some false))) else (some false)))))) = some r := H
          have A33 := Aside0.mk A330
          clear A330
          replace H := Option.bind_eq_some_iff.mp H
          obtain ⟨⟨t666, t667, t670⟩, A340, H⟩ := H
          replace H : ((cuvetteref08_Plain.f kj7 a3 a4).bind fun bt672 => ((book_Size.f a3 a4).bind fun bt678 => ((cuvetteref08_Size.f a3 a4).bind fun bt680 => (if true = true then ((cuvetteref01_SameBytes.f t646 t650).bind fun t682 => (if t682 = true then (if t649 = t653 then ((cuvetteref07_Same.f kj7 t654 t655 t660 t661).bind fun t683 => (if t683 = true then (if t658 = t664 then ((cuvetteref07_Same.f kj7 t666 t667 bt672.1 bt672.2.1).bind fun t684 => (if t684 = true then (if t670 = bt672.2.2 then (if bt678.1 = bt680.1 then (if bt678.2 = bt680.2 then ((book_Same.f a0_0 l0_1 a1_0 l1_1).bind fun t685 => ((cuvetteref07_Same.f kj7 a0_0 l0_1 a1_0 l1_1).bind fun t686 => (some (t685 == t686)))) else (some false)) else (some false)) else (some false)) else (some false))) else (some false)) else (some false))) else (some false)) else (some false))) else (some false))))) = some r := H
          have A34 := Aside0.mk A340
          clear A340
          replace H := Option.bind_eq_some_iff.mp H
          obtain ⟨⟨t672, t673, t676⟩, A350, H⟩ := H
          replace H : ((book_Size.f a3 a4).bind fun bt678 => ((cuvetteref08_Size.f a3 a4).bind fun bt680 => (if true = true then ((cuvetteref01_SameBytes.f t646 t650).bind fun t682 => (if t682 = true then (if t649 = t653 then ((cuvetteref07_Same.f kj7 t654 t655 t660 t661).bind fun t683 => (if t683 = true then (if t658 = t664 then ((cuvetteref07_Same.f kj7 t666 t667 t672 t673).bind fun t684 => (if t684 = true then (if t670 = t676 then (if bt678.1 = bt680.1 then (if bt678.2 = bt680.2 then ((book_Same.f a0_0 l0_1 a1_0 l1_1).bind fun t685 => ((cuvetteref07_Same.f kj7 a0_0 l0_1 a1_0 l1_1).bind fun t686 => (some (t685 == t686)))) else (some false)) else (some false)) else (some false)) else (some false))) else (some false)) else (some false))) else (some false)) else (some false))) else (some false)))) = some r := H
          have A35 := Aside0.mk A350
          clear A350
          replace H := Option.bind_eq_some_iff.mp H
          obtain ⟨⟨t678, t679⟩, A360, H⟩ := H
          replace H : ((cuvetteref08_Size.f a3 a4).bind fun bt680 => (if true = true then ((cuvetteref01_SameBytes.f t646 t650).bind fun t682 => (if t682 = true then (if t649 = t653 then ((cuvetteref07_Same.f kj7 t654 t655 t660 t661).bind fun t683 => (if t683 = true then (if t658 = t664 then ((cuvetteref07_Same.f kj7 t666 t667 t672 t673).bind fun t684 => (if t684 = true then (if t670 = t676 then (if t678 = bt680.1 then (if t679 = bt680.2 then ((book_Same.f a0_0 l0_1 a1_0 l1_1).bind fun t685 => ((cuvetteref07_Same.f kj7 a0_0 l0_1 a1_0 l1_1).bind fun t686 => (some (t685 == t686)))) else (some false)) else (some false)) else (some false)) else (some false))) else (some false)) else (some false))) else (some false)) else (some false))) else (some false))) = some r := H
          have A36 := Aside0.mk A360
          clear A360
          replace H := Option.bind_eq_some_iff.mp H
          obtain ⟨⟨t680, t681⟩, A370, H⟩ := H
          replace H : (if true = true then ((cuvetteref01_SameBytes.f t646 t650).bind fun t682 => (if t682 = true then (if t649 = t653 then ((cuvetteref07_Same.f kj7 t654 t655 t660 t661).bind fun t683 => (if t683 = true then (if t658 = t664 then ((cuvetteref07_Same.f kj7 t666 t667 t672 t673).bind fun t684 => (if t684 = true then (if t670 = t676 then (if t678 = t680 then (if t679 = t681 then ((book_Same.f a0_0 l0_1 a1_0 l1_1).bind fun t685 => ((cuvetteref07_Same.f kj7 a0_0 l0_1 a1_0 l1_1).bind fun t686 => (some (t685 == t686)))) else (some false)) else (some false)) else (some false)) else (some false))) else (some false)) else (some false))) else (some false)) else (some false))) else (some false)) = some r := H
          have A37 := Aside0.mk A370
          clear A370
          by_cases c38 : true = true
          · clear c38
            have H1 : ((cuvetteref01_SameBytes.f t646 t650).bind fun t682 => (if t682 = true then (if t649 = t653 then ((cuvetteref07_Same.f kj7 t654 t655 t660 t661).bind fun t683 => (if t683 = true then (if t658 = t664 then ((cuvetteref07_Same.f kj7 t666 t667 t672 t673).bind fun t684 => (if t684 = true then (if t670 = t676 then (if t678 = t680 then (if t679 = t681 then ((book_Same.f a0_0 l0_1 a1_0 l1_1).bind fun t685 => ((cuvetteref07_Same.f kj7 a0_0 l0_1 a1_0 l1_1).bind fun t686 => (some (t685 == t686)))) else (some false)) else (some false)) else (some false)) else (some false))) else (some false)) else (some false))) else (some false)) else (some false))) = some r := by rw [if_pos rfl] at H; exact H
            clear H
            have H := H1
            clear H1
            replace H := Option.bind_eq_some_iff.mp H
            obtain ⟨t682, A390, H⟩ := H
            replace H : (if t682 = true then (if t649 = t653 then ((cuvetteref07_Same.f kj7 t654 t655 t660 t661).bind fun t683 => (if t683 = true then (if t658 = t664 then ((cuvetteref07_Same.f kj7 t666 t667 t672 t673).bind fun t684 => (if t684 = true then (if t670 = t676 then (if t678 = t680 then (if t679 = t681 then ((book_Same.f a0_0 l0_1 a1_0 l1_1).bind fun t685 => ((cuvetteref07_Same.f kj7 a0_0 l0_1 a1_0 l1_1).bind fun t686 => (some (t685 == t686)))) else (some false)) else (some false)) else (some false)) else (some false))) else (some false)) else (some false))) else (some false)) else (some false)) = some r := H
            have A39 := Aside0.mk A390
            clear A390
            by_cases c40 : t682 = true
            · subst c40
              have H1 : (if t649 = t653 then ((cuvetteref07_Same.f kj7 t654 t655 t660 t661).bind fun t683 => (if t683 = true then (if t658 = t664 then ((cuvetteref07_Same.f kj7 t666 t667 t672 t673).bind fun t684 => (if t684 = true then (if t670 = t676 then (if t678 = t680 then (if t679 = t681 then ((book_Same.f a0_0 l0_1 a1_0 l1_1).bind fun t685 => ((cuvetteref07_Same.f kj7 a0_0 l0_1 a1_0 l1_1).bind fun t686 => (some (t685 == t686)))) else (some false)) else (some false)) else (some false)) else (some false))) else (some false)) else (some false))) else (some false)) = some r := by rw [if_pos rfl] at H; exact H
              clear H
              have H := H1
              clear H1
              by_cases c41 : t649 = t653
              · rw [if_pos c41] at H
                have c41b0 : (t649 == t653) = true := beq_iff_eq.mpr c41
                have c41b1 : (t649 != t653) = false := bne_eq_false_iff_eq.mpr c41
                clear c41
                replace H := Option.bind_eq_some_iff.mp H
                obtain ⟨t683, A420, H⟩ := H
                replace H : (if t683 = true then (if t658 = t664 then ((cuvetteref07_Same.f kj7 t666 t667 t672 t673).bind fun t684 => (if t684 = true then (if t670 = t676 then (if t678 = t680 then (if t679 = t681 then ((book_Same.f a0_0 l0_1 a1_0 l1_1).bind fun t685 => ((cuvetteref07_Same.f kj7 a0_0 l0_1 a1_0 l1_1).bind fun t686 => (some (t685 == t686)))) else (some false)) else (some false)) else (some false)) else (some false))) else (some false)) else (some false)) = some r := H
                have A42 := Aside0.mk A420
                clear A420
                by_cases c43 : t683 = true
                · subst c43
                  have H1 : (if t658 = t664 then ((cuvetteref07_Same.f kj7 t666 t667 t672 t673).bind fun t684 => (if t684 = true then (if t670 = t676 then (if t678 = t680 then (if t679 = t681 then ((book_Same.f a0_0 l0_1 a1_0 l1_1).bind fun t685 => ((cuvetteref07_Same.f kj7 a0_0 l0_1 a1_0 l1_1).bind fun t686 => (some (t685 == t686)))) else (some false)) else (some false)) else (some false)) else (some false))) else (some false)) = some r := by rw [if_pos rfl] at H; exact H
                  clear H
                  have H := H1
                  clear H1
                  by_cases c44 : t658 = t664
                  · rw [if_pos c44] at H
                    have c44b0 : (t658 == t664) = true := beq_iff_eq.mpr c44
                    have c44b1 : (t658 != t664) = false := bne_eq_false_iff_eq.mpr c44
                    clear c44
                    replace H := Option.bind_eq_some_iff.mp H
                    obtain ⟨t684, A450, H⟩ := H
                    replace H : (if t684 = true then (if t670 = t676 then (if t678 = t680 then (if t679 = t681 then ((book_Same.f a0_0 l0_1 a1_0 l1_1).bind fun t685 => ((cuvetteref07_Same.f kj7 a0_0 l0_1 a1_0 l1_1).bind fun t686 => (some (t685 == t686)))) else (some false)) else (some false)) else (some false)) else (some false)) = some r := H
                    have A45 := Aside0.mk A450
                    clear A450
                    by_cases c46 : t684 = true
                    · subst c46
                      have H1 : (if t670 = t676 then (if t678 = t680 then (if t679 = t681 then ((book_Same.f a0_0 l0_1 a1_0 l1_1).bind fun t685 => ((cuvetteref07_Same.f kj7 a0_0 l0_1 a1_0 l1_1).bind fun t686 => (some (t685 == t686)))) else (some false)) else (some false)) else (some false)) = some r := by rw [if_pos rfl] at H; exact H
                      clear H
                      have H := H1
                      clear H1
                      by_cases c47 : t670 = t676
                      · rw [if_pos c47] at H
                        have c47b0 : (t670 == t676) = true := beq_iff_eq.mpr c47
                        have c47b1 : (t670 != t676) = false := bne_eq_false_iff_eq.mpr c47
                        clear c47
                        by_cases c48 : t678 = t680
                        · rw [if_pos c48] at H
                          have c48b0 : (t678 == t680) = true := beq_iff_eq.mpr c48
                          have c48b1 : (t678 != t680) = false := bne_eq_false_iff_eq.mpr c48
                          clear c48
                          by_cases c49 : t679 = t681
                          · rw [if_pos c49] at H
                            have c49b0 : (t679 == t681) = true := beq_iff_eq.mpr c49
                            have c49b1 : (t679 != t681) = false := bne_eq_false_iff_eq.mpr c49
                            clear c49
                            replace H := Option.bind_eq_some_iff.mp H
                            obtain ⟨t685, A500, H⟩ := H
                            replace H : ((cuvetteref07_Same.f kj7 a0_0 l0_1 a1_0 l1_1).bind fun t686 => (some (t685 == t686))) = some r := H
                            have A50 := Aside0.mk A500
                            clear A500
                            replace H := Option.bind_eq_some_iff.mp H
                            obtain ⟨t686, A510, H⟩ := H
                            replace H : (some (t685 == t686)) = some r := H
                            have A51 := Aside0.mk A510
                            clear A510
                            obtain rfl := Option.some.inj H
                            have hnb52 := NB641_642.out
                            have hnc52 := NB642_641.out
                            have hcz53_0 : wc.cell? ⟨gb641, 0, none⟩ = some (.int .i64 a0_0) := (blk_cell BK641.out 0).trans rfl
                            have hcz53_1 : wc.cell? ⟨gb641, 1, none⟩ = some (.slice A0_1 l0_1.length c0_1) := (blk_cell BK641.out 1).trans rfl
                            have hfz53_0 := blk_frozen BK641.out 0
                            have hfz53_1 := blk_frozen BK641.out 1
                            try go_wp2_with (first | ((with_reducible refine gate_callee (f := 37) rfl ?_); refine goesL_ (some 47) rfl rfl Try.func37 (by kernel_rfl) rfl #[.agg #[.int .i64 a0_0, .slice A0_1 l0_1.length c0_1]] rfl (by (try simp only [List.map_toArray, List.map_cons, List.map_nil]); first | done | rfl | (simp only [List.length_drop, List.length_take]; rfl)) ?_; (with_reducible refine (book_Bytes.calls kj7 a0_0 _ _ l0_1 t646 t649 _ ?side1 ?side2 A30.out).mono ?_); (case side1 => repeat (first | exact (Kd.C_below HR0_1.out HB.out) | (with_reducible refine Kd.C_alloc ?_ _) | (with_reducible refine Kd.C_drewN ?_ _) | (with_reducible refine Kd.C_drew ?_))); (case side2 => exact HC0_1.out); rintro e w54 ⟨v647, rfl, ho0, hb⟩; refine ⟨_, rfl, ?_⟩; have n0_ := Aside0.mk (Kd.R_lower ho0 (below_size (by repeat (first | (with_reducible first | exact HB.out | apply below_alloc | apply pw_below_drewN | apply below_drew1 | refine below_set ?_ GE641.out | refine below_set ?_ GE642.out) | exact HB.out)))); have n1_ := Aside0.mk (blk_below (g := gb641) (o := .cells #[.int .i64 a0_0, .slice A0_1 l0_1.length c0_1] 49 (0, 0)) (by (with_reducible repeat (first | refine blk_drewN ?_ _ | refine blk_drew ?_ | refine blk_alloc ?_ _)); exact BK641.out) hb); have n2_ := Aside0.mk (blk_below (g := gb642) (o := .cells #[.int .i64 a1_0, .slice A1_1 l1_1.length c1_1] 49 (0, 0)) (by (with_reducible repeat (first | refine blk_drewN ?_ _ | refine blk_drew ?_ | refine blk_alloc ?_ _)); exact BK642.out) hb); have n3_ := Aside0.mk (below_step (by repeat (first | (with_reducible first | exact HB.out | apply below_alloc | apply pw_below_drewN | apply below_drew1 | refine below_set ?_ GE641.out | refine below_set ?_ GE642.out) | exact HB.out)) hb); clear BK641; clear BK642; clear HB; have HO648 := n0_; have BK641 := n1_; have BK642 := n2_; have HB := n3_; clear n0_ n1_ n2_ n3_; (try clear hb); (try clear hb2); (try clear hk); (try clear hi); (try clear ho0); have hcz55_0 : w54.cell? ⟨gb641, 0, none⟩ = some (.int .i64 a0_0) := (blk_cell BK641.out 0).trans rfl; have hcz55_1 : w54.cell? ⟨gb641, 1, none⟩ = some (.slice A0_1 l0_1.length c0_1) := (blk_cell BK641.out 1).trans rfl; have hfz55_0 := blk_frozen BK641.out 0; have hfz55_1 := blk_frozen BK641.out 1) | ((with_reducible refine gate_callee (f := 38) rfl ?_); refine goesL_ (some 52) rfl rfl Try.func38 (by kernel_rfl) rfl #[.agg #[.int .i64 a0_0, .slice A0_1 l0_1.length c0_1]] rfl (by (try simp only [List.map_toArray, List.map_cons, List.map_nil]); first | done | rfl | (simp only [List.length_drop, List.length_take]; rfl)) ?_; (with_reducible refine (cuvetteref08_Bytes.calls kj7 a0_0 _ _ l0_1 t650 t653 _ ?side1 ?side2 A31.out).mono ?_); (case side1 => repeat (first | exact (Kd.C_below HR0_1.out HB.out) | (with_reducible refine Kd.C_alloc ?_ _) | (with_reducible refine Kd.C_drewN ?_ _) | (with_reducible refine Kd.C_drew ?_))); (case side2 => exact HC0_1.out); rintro e w56 ⟨v651, rfl, ho0, hb⟩; refine ⟨_, rfl, ?_⟩; have n0_ := Aside0.mk (Kd.R_elder' (by (with_reducible repeat (first | apply Kd.R_alloc | apply Kd.R_drewN | apply Kd.R_drew)); exact HO648.out) (Kd.R_base ho0) hb); have n1_ := Aside0.mk (Kd.R_lower (Kd.R_new' ho0 (Kd.R_lt (by (with_reducible repeat (first | apply Kd.R_alloc | apply Kd.R_drewN | apply Kd.R_drew)); exact HO648.out))) (below_size (by repeat (first | (with_reducible first | exact HB.out | apply below_alloc | apply pw_below_drewN | apply below_drew1 | refine below_set ?_ GE641.out | refine below_set ?_ GE642.out) | exact HB.out)))); have n2_ := Aside0.mk (blk_below (g := gb641) (o := .cells #[.int .i64 a0_0, .slice A0_1 l0_1.length c0_1] 49 (0, 0)) (by (with_reducible repeat (first | refine blk_drewN ?_ _ | refine blk_drew ?_ | refine blk_alloc ?_ _)); exact BK641.out) hb); have n3_ := Aside0.mk (blk_below (g := gb642) (o := .cells #[.int .i64 a1_0, .slice A1_1 l1_1.length c1_1] 49 (0, 0)) (by (with_reducible repeat (first | refine blk_drewN ?_ _ | refine blk_drew ?_ | refine blk_alloc ?_ _)); exact BK642.out) hb); have n4_ := Aside0.mk (below_step (by repeat (first | (with_reducible first | exact HB.out | apply below_alloc | apply pw_below_drewN | apply below_drew1 | refine below_set ?_ GE641.out | refine below_set ?_ GE642.out) | exact HB.out)) hb); clear HO648; clear BK641; clear BK642; clear HB; have HO648 := n0_; have HO652 := n1_; have BK641 := n2_; have BK642 := n3_; have HB := n4_; clear n0_ n1_ n2_ n3_ n4_; (try clear hb); (try clear hb2); (try clear hk); (try clear hi); (try clear ho0)) | ((with_reducible refine gate_callee (f := 39) rfl ?_); refine goesL_ (some 57) rfl rfl Try.func39 (by kernel_rfl) rfl #[.slice A2 l2.length c2] rfl (by (try simp only [List.map_toArray, List.map_cons, List.map_nil]); first | done | rfl | (simp only [List.length_drop, List.length_take]; rfl)) ?_; (with_reducible refine (book_From.calls kj7 _ _ l2 t654 t655 t658 _ ?side1 ?side2 A32.out).mono ?_); (case side1 => repeat (first | exact (Kd.C_below HR2.out HB.out) | (with_reducible refine Kd.C_alloc ?_ _) | (with_reducible refine Kd.C_drewN ?_ _) | (with_reducible refine Kd.C_drew ?_))); (case side2 => exact HC2.out); rintro e w57 ⟨v656, rfl, ho0, hb⟩; refine ⟨_, rfl, ?_⟩; have n0_ := Aside0.mk (Kd.R_below (by (with_reducible repeat (first | apply Kd.R_alloc | apply Kd.R_drewN | apply Kd.R_drew)); exact HO648.out) hb); have n1_ := Aside0.mk (Kd.R_below (by (with_reducible repeat (first | apply Kd.R_alloc | apply Kd.R_drewN | apply Kd.R_drew)); exact HO652.out) hb); have n2_ := Aside0.mk (Kd.S_lower ho0 (below_size (by repeat (first | (with_reducible first | exact HB.out | apply below_alloc | apply pw_below_drewN | apply below_drew1 | refine below_set ?_ GE641.out | refine below_set ?_ GE642.out) | exact HB.out)))); have n3_ := Aside0.mk (blk_below (g := gb641) (o := .cells #[.int .i64 a0_0, .slice A0_1 l0_1.length c0_1] 49 (0, 0)) (by (with_reducible repeat (first | refine blk_drewN ?_ _ | refine blk_drew ?_ | refine blk_alloc ?_ _)); exact BK641.out) hb); have n4_ := Aside0.mk (blk_below (g := gb642) (o := .cells #[.int .i64 a1_0, .slice A1_1 l1_1.length c1_1] 49 (0, 0)) (by (with_reducible repeat (first | refine blk_drewN ?_ _ | refine blk_drew ?_ | refine blk_alloc ?_ _)); exact BK642.out) hb); have n5_ := Aside0.mk (below_step (by repeat (first | (with_reducible first | exact HB.out | apply below_alloc | apply pw_below_drewN | apply below_drew1 | refine below_set ?_ GE641.out | refine below_set ?_ GE642.out) | exact HB.out)) hb); clear HO648; clear HO652; clear BK641; clear BK642; clear HB; have HO648 := n0_; have HO652 := n1_; have HO657 := n2_; have BK641 := n3_; have BK642 := n4_; have HB := n5_; clear n0_ n1_ n2_ n3_ n4_ n5_; (try clear hb); (try clear hb2); (try clear hk); (try clear hi); (try clear ho0)) | ((with_reducible refine gate_dst (N := 16) rfl ?_); (try (refine gate_guard (by rfl) ?_; dsimp only)); refine box_event ?hg (N := 16) ?hd (cs := #[.int .i64 0, .slice none 0 0]) (t := 49) ?hr ?_; (case hd => rfl); (case hg => rfl); (case hr => first | (go_simp; done) | (go_simp; rfl)); intro gb659 hg w58 hbox hb; have n0_ := Aside0.mk (Kd.R_below (by (with_reducible repeat (first | apply Kd.R_alloc | apply Kd.R_drewN | apply Kd.R_drew)); exact HO648.out) hb); have n1_ := Aside0.mk (Kd.R_below (by (with_reducible repeat (first | apply Kd.R_alloc | apply Kd.R_drewN | apply Kd.R_drew)); exact HO652.out) hb); have n2_ := Aside0.mk (Kd.S_below (by (with_reducible repeat (first | apply Kd.S_alloc | apply Kd.S_drewN | apply Kd.S_drew)); exact HO657.out) hb); have n3_ := Aside0.mk (blk_below (g := gb641) (o := .cells #[.int .i64 a0_0, .slice A0_1 l0_1.length c0_1] 49 (0, 0)) (by (with_reducible repeat (first | refine blk_drewN ?_ _ | refine blk_drew ?_ | refine blk_alloc ?_ _)); exact BK641.out) hb); have n4_ := Aside0.mk (blk_below (g := gb642) (o := .cells #[.int .i64 a1_0, .slice A1_1 l1_1.length c1_1] 49 (0, 0)) (by (with_reducible repeat (first | refine blk_drewN ?_ _ | refine blk_drew ?_ | refine blk_alloc ?_ _)); exact BK642.out) hb); have n5_ := Aside0.mk (below_step (by repeat (first | (with_reducible first | exact HB.out | apply below_alloc | apply pw_below_drewN | apply below_drew1 | refine below_set ?_ GE641.out | refine below_set ?_ GE642.out) | exact HB.out)) hb); have n6_ := Aside0.mk (hbox); have n7_ := Aside0.mk ((by rw [hg]; exact (below_size (by repeat (first | (with_reducible first | exact HB.out | apply below_alloc | apply pw_below_drewN | apply below_drew1 | refine below_set ?_ GE641.out | refine below_set ?_ GE642.out) | exact HB.out))) : w.heap.size ≤ gb659)); have n8_ := Aside0.mk ((by rw [hg]; exact (below_size (by repeat (first | (with_reducible first | exact HB.out | apply below_alloc | apply pw_below_drewN | apply below_drew1 | refine below_set ?_ GE641.out | refine below_set ?_ GE642.out) | exact HB.out))) : w.heap.size ≤ gb659)); have n9_ := Aside0.mk ((by rw [hg]; exact Nat.ne_of_lt (blk_lt (g := gb641) (o := .cells #[.int .i64 a0_0, .slice A0_1 l0_1.length c0_1] 49 (0, 0)) (by (with_reducible repeat (first | refine blk_drewN ?_ _ | refine blk_drew ?_ | refine blk_alloc ?_ _)); exact BK641.out)) : gb641 ≠ gb659)); have n10_ := Aside0.mk ((by rw [hg]; exact Nat.ne_of_gt (blk_lt (g := gb641) (o := .cells #[.int .i64 a0_0, .slice A0_1 l0_1.length c0_1] 49 (0, 0)) (by (with_reducible repeat (first | refine blk_drewN ?_ _ | refine blk_drew ?_ | refine blk_alloc ?_ _)); exact BK641.out)) : gb659 ≠ gb641)); have n11_ := Aside0.mk ((by rw [hg]; exact Nat.ne_of_lt (blk_lt (g := gb642) (o := .cells #[.int .i64 a1_0, .slice A1_1 l1_1.length c1_1] 49 (0, 0)) (by (with_reducible repeat (first | refine blk_drewN ?_ _ | refine blk_drew ?_ | refine blk_alloc ?_ _)); exact BK642.out)) : gb642 ≠ gb659)); have n12_ := Aside0.mk ((by rw [hg]; exact Nat.ne_of_gt (blk_lt (g := gb642) (o := .cells #[.int .i64 a1_0, .slice A1_1 l1_1.length c1_1] 49 (0, 0)) (by (with_reducible repeat (first | refine blk_drewN ?_ _ | refine blk_drew ?_ | refine blk_alloc ?_ _)); exact BK642.out)) : gb659 ≠ gb642)); clear HO648; clear HO652; clear HO657; clear BK641; clear BK642; clear HB; have HO648 := n0_; have HO652 := n1_; have HO657 := n2_; have BK641 := n3_; have BK642 := n4_; have HB := n5_; have BK659 := n6_; have GW659 := n7_; have GE659 := n8_; have NB641_659 := n9_; have NB659_641 := n10_; have NB642_659 := n11_; have NB659_642 := n12_; clear n0_ n1_ n2_ n3_ n4_ n5_ n6_ n7_ n8_ n9_ n10_ n11_ n12_; clear hb hbox hg; have hnb59 := NB659_641.out; have hnc59 := NB641_659.out; have hnb60 := NB659_642.out; have hnc60 := NB642_659.out; have hcz61_0 : w58.cell? ⟨gb659, 0, none⟩ = some (.int .i64 0) := (blk_cell BK659.out 0).trans rfl; have hcz61_1 : w58.cell? ⟨gb659, 1, none⟩ = some (.slice none 0 0) := (blk_cell BK659.out 1).trans rfl; have hfz61_0 := blk_frozen BK659.out 0; have hfz61_1 := blk_frozen BK659.out 1; obtain ⟨Ao62, co62, eo62⟩ := Kd.S_slice HO657.out; subst eo62) | ((with_reducible refine gate_callee (f := 40) rfl ?_); refine goesL_ (some 62) rfl rfl Try.func40 (by kernel_rfl) rfl #[.slice A2 l2.length c2] rfl (by (try simp only [List.map_toArray, List.map_cons, List.map_nil]); first | done | rfl | (simp only [List.length_drop, List.length_take]; rfl)) ?_; (with_reducible refine (cuvetteref08_From.calls kj7 _ _ l2 t660 t661 t664 _ ?side1 ?side2 A33.out).mono ?_); (case side1 => exact Kd.C_below HR2.out (by repeat (first | (with_reducible first | exact HB.out | apply below_alloc | apply pw_below_drewN | apply below_drew1 | refine below_set ?_ GE641.out | refine below_set ?_ GE642.out | refine below_set ?_ GE659.out) | exact HB.out))); (case side2 => exact HC2.out); rintro e w63 ⟨v662, rfl, ho0, hb⟩; refine ⟨_, rfl, ?_⟩; have n0_ := Aside0.mk (Kd.R_below (by (with_reducible repeat (first | apply Kd.R_alloc | apply Kd.R_drewN | apply Kd.R_drew)); exact (Kd.R_mono (Kd.R_far (p := ⟨gb659, 1, none⟩) (Kd.R_far (p := ⟨gb659, 0, none⟩) (Kd.R_types HO648.out BK659.out (by decide)) (fun _ hk => hk.2) (.int .i64 t654)) (fun _ hk => hk.2) (.slice Ao62 t655.length co62)) (fun _ h_ => h_.1))) hb); have n1_ := Aside0.mk (Kd.R_below (by (with_reducible repeat (first | apply Kd.R_alloc | apply Kd.R_drewN | apply Kd.R_drew)); exact (Kd.R_mono (Kd.R_far (p := ⟨gb659, 1, none⟩) (Kd.R_far (p := ⟨gb659, 0, none⟩) (Kd.R_types HO652.out BK659.out (by decide)) (fun _ hk => hk.2) (.int .i64 t654)) (fun _ hk => hk.2) (.slice Ao62 t655.length co62)) (fun _ h_ => h_.1))) hb); have n2_ := Aside0.mk (Kd.S_elder' (by (with_reducible repeat (first | apply Kd.S_alloc | apply Kd.S_drewN | apply Kd.S_drew)); exact (Kd.S_mono (Kd.S_far (p := ⟨gb659, 1, none⟩) (Kd.S_far (p := ⟨gb659, 0, none⟩) (Kd.S_types HO657.out BK659.out (by decide)) (fun _ hk => hk.2) (.int .i64 t654)) (fun _ hk => hk.2) (.slice Ao62 t655.length co62)) (fun _ h_ => h_.1))) (Kd.S_base ho0) hb); have n3_ := Aside0.mk (Kd.S_lower (Kd.S_new' ho0 (Kd.S_lt (by (with_reducible repeat (first | apply Kd.S_alloc | apply Kd.S_drewN | apply Kd.S_drew)); exact (Kd.S_mono (Kd.S_far (p := ⟨gb659, 1, none⟩) (Kd.S_far (p := ⟨gb659, 0, none⟩) (Kd.S_types HO657.out BK659.out (by decide)) (fun _ hk => hk.2) (.int .i64 t654)) (fun _ hk => hk.2) (.slice Ao62 t655.length co62)) (fun _ h_ => h_.1))))) (below_size (by repeat (first | (with_reducible first | exact HB.out | apply below_alloc | apply pw_below_drewN | apply below_drew1 | refine below_set ?_ GE641.out | refine below_set ?_ GE642.out | refine below_set ?_ GE659.out) | exact HB.out)))); have n4_ := Aside0.mk (blk_below (g := gb641) (o := .cells #[.int .i64 a0_0, .slice A0_1 l0_1.length c0_1] 49 (0, 0)) (by (with_reducible repeat (first | refine blk_drewN ?_ _ | refine blk_drew ?_ | refine blk_alloc ?_ _)); refine blk_far ?_ NB641_659.out _; (with_reducible repeat (first | refine blk_drewN ?_ _ | refine blk_drew ?_ | refine blk_alloc ?_ _)); refine blk_far ?_ NB641_659.out _; (with_reducible repeat (first | refine blk_drewN ?_ _ | refine blk_drew ?_ | refine blk_alloc ?_ _)); exact BK641.out) hb); have n5_ := Aside0.mk (blk_below (g := gb642) (o := .cells #[.int .i64 a1_0, .slice A1_1 l1_1.length c1_1] 49 (0, 0)) (by (with_reducible repeat (first | refine blk_drewN ?_ _ | refine blk_drew ?_ | refine blk_alloc ?_ _)); refine blk_far ?_ NB642_659.out _; (with_reducible repeat (first | refine blk_drewN ?_ _ | refine blk_drew ?_ | refine blk_alloc ?_ _)); refine blk_far ?_ NB642_659.out _; (with_reducible repeat (first | refine blk_drewN ?_ _ | refine blk_drew ?_ | refine blk_alloc ?_ _)); exact BK642.out) hb); have n6_ := Aside0.mk (blk_below (g := gb659) (o := .cells #[.int .i64 t654, .slice Ao62 t655.length co62] 49 (0, 0)) (by (with_reducible repeat (first | refine blk_drewN ?_ _ | refine blk_drew ?_ | refine blk_alloc ?_ _)); refine blk_put (cs := #[.int .i64 t654, .slice none 0 0]) ?_ 1 _ rfl; (with_reducible repeat (first | refine blk_drewN ?_ _ | refine blk_drew ?_ | refine blk_alloc ?_ _)); refine blk_put (cs := #[.int .i64 0, .slice none 0 0]) ?_ 0 _ rfl; (with_reducible repeat (first | refine blk_drewN ?_ _ | refine blk_drew ?_ | refine blk_alloc ?_ _)); exact BK659.out) hb); have n7_ := Aside0.mk (below_step (by repeat (first | (with_reducible first | exact HB.out | apply below_alloc | apply pw_below_drewN | apply below_drew1 | refine below_set ?_ GE641.out | refine below_set ?_ GE642.out | refine below_set ?_ GE659.out) | exact HB.out)) hb); clear HO648; clear HO652; clear HO657; clear BK641; clear BK642; clear BK659; clear HB; have HO648 := n0_; have HO652 := n1_; have HO657 := n2_; have HO663 := n3_; have BK641 := n4_; have BK642 := n5_; have BK659 := n6_; have HB := n7_; clear n0_ n1_ n2_ n3_ n4_ n5_ n6_ n7_; (try clear hb); (try clear hb2); (try clear hk); (try clear hi); (try clear ho0)) | ((with_reducible refine gate_dst (N := 18) rfl ?_); (try (refine gate_guard (by rfl) ?_; dsimp only)); refine box_event ?hg (N := 18) ?hd (cs := #[.int .i64 0, .slice none 0 0]) (t := 49) ?hr ?_; (case hd => rfl); (case hg => rfl); (case hr => first | (go_simp; done) | (go_simp; rfl)); intro gb665 hg w64 hbox hb; have n0_ := Aside0.mk (Kd.R_below (by (with_reducible repeat (first | apply Kd.R_alloc | apply Kd.R_drewN | apply Kd.R_drew)); exact HO648.out) hb); have n1_ := Aside0.mk (Kd.R_below (by (with_reducible repeat (first | apply Kd.R_alloc | apply Kd.R_drewN | apply Kd.R_drew)); exact HO652.out) hb); have n2_ := Aside0.mk (Kd.S_below (by (with_reducible repeat (first | apply Kd.S_alloc | apply Kd.S_drewN | apply Kd.S_drew)); exact HO657.out) hb); have n3_ := Aside0.mk (Kd.S_below (by (with_reducible repeat (first | apply Kd.S_alloc | apply Kd.S_drewN | apply Kd.S_drew)); exact HO663.out) hb); have n4_ := Aside0.mk (blk_below (g := gb641) (o := .cells #[.int .i64 a0_0, .slice A0_1 l0_1.length c0_1] 49 (0, 0)) (by (with_reducible repeat (first | refine blk_drewN ?_ _ | refine blk_drew ?_ | refine blk_alloc ?_ _)); exact BK641.out) hb); have n5_ := Aside0.mk (blk_below (g := gb642) (o := .cells #[.int .i64 a1_0, .slice A1_1 l1_1.length c1_1] 49 (0, 0)) (by (with_reducible repeat (first | refine blk_drewN ?_ _ | refine blk_drew ?_ | refine blk_alloc ?_ _)); exact BK642.out) hb); have n6_ := Aside0.mk (blk_below (g := gb659) (o := .cells #[.int .i64 t654, .slice Ao62 t655.length co62] 49 (0, 0)) (by (with_reducible repeat (first | refine blk_drewN ?_ _ | refine blk_drew ?_ | refine blk_alloc ?_ _)); exact BK659.out) hb); have n7_ := Aside0.mk (below_step (by repeat (first | (with_reducible first | exact HB.out | apply below_alloc | apply pw_below_drewN | apply below_drew1 | refine below_set ?_ GE641.out | refine below_set ?_ GE642.out | refine below_set ?_ GE659.out) | exact HB.out)) hb); have n8_ := Aside0.mk (hbox); have n9_ := Aside0.mk ((by rw [hg]; exact (below_size (by repeat (first | (with_reducible first | exact HB.out | apply below_alloc | apply pw_below_drewN | apply below_drew1 | refine below_set ?_ GE641.out | refine below_set ?_ GE642.out | refine below_set ?_ GE659.out) | exact HB.out))) : w.heap.size ≤ gb665)); have n10_ := Aside0.mk ((by rw [hg]; exact (below_size (by repeat (first | (with_reducible first | exact HB.out | apply below_alloc | apply pw_below_drewN | apply below_drew1 | refine below_set ?_ GE641.out | refine below_set ?_ GE642.out | refine below_set ?_ GE659.out) | exact HB.out))) : w.heap.size ≤ gb665)); have n11_ := Aside0.mk ((by rw [hg]; exact Nat.ne_of_lt (blk_lt (g := gb641) (o := .cells #[.int .i64 a0_0, .slice A0_1 l0_1.length c0_1] 49 (0, 0)) (by (with_reducible repeat (first | refine blk_drewN ?_ _ | refine blk_drew ?_ | refine blk_alloc ?_ _)); exact BK641.out)) : gb641 ≠ gb665)); have n12_ := Aside0.mk ((by rw [hg]; exact Nat.ne_of_gt (blk_lt (g := gb641) (o := .cells #[.int .i64 a0_0, .slice A0_1 l0_1.length c0_1] 49 (0, 0)) (by (with_reducible repeat (first | refine blk_drewN ?_ _ | refine blk_drew ?_ | refine blk_alloc ?_ _)); exact BK641.out)) : gb665 ≠ gb641)); have n13_ := Aside0.mk ((by rw [hg]; exact Nat.ne_of_lt (blk_lt (g := gb642) (o := .cells #[.int .i64 a1_0, .slice A1_1 l1_1.length c1_1] 49 (0, 0)) (by (with_reducible repeat (first | refine blk_drewN ?_ _ | refine blk_drew ?_ | refine blk_alloc ?_ _)); exact BK642.out)) : gb642 ≠ gb665)); have n14_ := Aside0.mk ((by rw [hg]; exact Nat.ne_of_gt (blk_lt (g := gb642) (o := .cells #[.int .i64 a1_0, .slice A1_1 l1_1.length c1_1] 49 (0, 0)) (by (with_reducible repeat (first | refine blk_drewN ?_ _ | refine blk_drew ?_ | refine blk_alloc ?_ _)); exact BK642.out)) : gb665 ≠ gb642)); have n15_ := Aside0.mk ((by rw [hg]; exact Nat.ne_of_lt (blk_lt (g := gb659) (o := .cells #[.int .i64 t654, .slice Ao62 t655.length co62] 49 (0, 0)) (by (with_reducible repeat (first | refine blk_drewN ?_ _ | refine blk_drew ?_ | refine blk_alloc ?_ _)); exact BK659.out)) : gb659 ≠ gb665)); have n16_ := Aside0.mk ((by rw [hg]; exact Nat.ne_of_gt (blk_lt (g := gb659) (o := .cells #[.int .i64 t654, .slice Ao62 t655.length co62] 49 (0, 0)) (by (with_reducible repeat (first | refine blk_drewN ?_ _ | refine blk_drew ?_ | refine blk_alloc ?_ _)); exact BK659.out)) : gb665 ≠ gb659)); clear HO648; clear HO652; clear HO657; clear HO663; clear BK641; clear BK642; clear BK659; clear HB; have HO648 := n0_; have HO652 := n1_; have HO657 := n2_; have HO663 := n3_; have BK641 := n4_; have BK642 := n5_; have BK659 := n6_; have HB := n7_; have BK665 := n8_; have GW665 := n9_; have GE665 := n10_; have NB641_665 := n11_; have NB665_641 := n12_; have NB642_665 := n13_; have NB665_642 := n14_; have NB659_665 := n15_; have NB665_659 := n16_; clear n0_ n1_ n2_ n3_ n4_ n5_ n6_ n7_ n8_ n9_ n10_ n11_ n12_ n13_ n14_ n15_ n16_; clear hb hbox hg; have hnb65 := NB665_641.out; have hnc65 := NB641_665.out; have hnb66 := NB665_642.out; have hnc66 := NB642_665.out; have hnb67 := NB665_659.out; have hnc67 := NB659_665.out; have hcz68_0 : w64.cell? ⟨gb665, 0, none⟩ = some (.int .i64 0) := (blk_cell BK665.out 0).trans rfl; have hcz68_1 : w64.cell? ⟨gb665, 1, none⟩ = some (.slice none 0 0) := (blk_cell BK665.out 1).trans rfl; have hfz68_0 := blk_frozen BK665.out 0; have hfz68_1 := blk_frozen BK665.out 1; obtain ⟨Ao69, co69, eo69⟩ := Kd.S_slice HO663.out; subst eo69) | ((with_reducible refine gate_callee (f := 41) rfl ?_); refine goesL_ (some 68) rfl rfl Try.func41 (by kernel_rfl) rfl #[.int .i64 a3, .int .i64 a4] rfl (by (try simp only [List.map_toArray, List.map_cons, List.map_nil]); first | done | rfl | (simp only [List.length_drop, List.length_take]; rfl)) ?_; (with_reducible refine (book_Plain.calls kj7 a3 a4 t666 t667 t670 _ A34.out).mono ?_); rintro e w70 ⟨v668, rfl, ho0, hb⟩; refine ⟨_, rfl, ?_⟩; have n0_ := Aside0.mk (Kd.R_below (by (with_reducible repeat (first | apply Kd.R_alloc | apply Kd.R_drewN | apply Kd.R_drew)); exact (Kd.R_mono (Kd.R_far (p := ⟨gb665, 1, none⟩) (Kd.R_far (p := ⟨gb665, 0, none⟩) (Kd.R_types HO648.out BK665.out (by decide)) (fun _ hk => hk.2) (.int .i64 t660)) (fun _ hk => hk.2) (.slice Ao69 t661.length co69)) (fun _ h_ => h_.1))) hb); have n1_ := Aside0.mk (Kd.R_below (by (with_reducible repeat (first | apply Kd.R_alloc | apply Kd.R_drewN | apply Kd.R_drew)); exact (Kd.R_mono (Kd.R_far (p := ⟨gb665, 1, none⟩) (Kd.R_far (p := ⟨gb665, 0, none⟩) (Kd.R_types HO652.out BK665.out (by decide)) (fun _ hk => hk.2) (.int .i64 t660)) (fun _ hk => hk.2) (.slice Ao69 t661.length co69)) (fun _ h_ => h_.1))) hb); have n2_ := Aside0.mk (Kd.S_elder' (by (with_reducible repeat (first | apply Kd.S_alloc | apply Kd.S_drewN | apply Kd.S_drew)); exact (Kd.S_mono (Kd.S_far (p := ⟨gb665, 1, none⟩) (Kd.S_far (p := ⟨gb665, 0, none⟩) (Kd.S_types HO657.out BK665.out (by decide)) (fun _ hk => hk.2) (.int .i64 t660)) (fun _ hk => hk.2) (.slice Ao69 t661.length co69)) (fun _ h_ => h_.1))) (Kd.S_base ho0) hb); have n3_ := Aside0.mk (Kd.S_elder' (by (with_reducible repeat (first | apply Kd.S_alloc | apply Kd.S_drewN | apply Kd.S_drew)); exact (Kd.S_mono (Kd.S_far (p := ⟨gb665, 1, none⟩) (Kd.S_far (p := ⟨gb665, 0, none⟩) (Kd.S_types HO663.out BK665.out (by decide)) (fun _ hk => hk.2) (.int .i64 t660)) (fun _ hk => hk.2) (.slice Ao69 t661.length co69)) (fun _ h_ => h_.1))) (Kd.S_base ho0) hb); have n4_ := Aside0.mk (Kd.S_lower (Kd.S_new' (Kd.S_new' ho0 (Kd.S_lt (by (with_reducible repeat (first | apply Kd.S_alloc | apply Kd.S_drewN | apply Kd.S_drew)); exact (Kd.S_mono (Kd.S_far (p := ⟨gb665, 1, none⟩) (Kd.S_far (p := ⟨gb665, 0, none⟩) (Kd.S_types HO657.out BK665.out (by decide)) (fun _ hk => hk.2) (.int .i64 t660)) (fun _ hk => hk.2) (.slice Ao69 t661.length co69)) (fun _ h_ => h_.1))))) (Kd.S_lt (by (with_reducible repeat (first | apply Kd.S_alloc | apply Kd.S_drewN | apply Kd.S_drew)); exact (Kd.S_mono (Kd.S_far (p := ⟨gb665, 1, none⟩) (Kd.S_far (p := ⟨gb665, 0, none⟩) (Kd.S_types HO663.out BK665.out (by decide)) (fun _ hk => hk.2) (.int .i64 t660)) (fun _ hk => hk.2) (.slice Ao69 t661.length co69)) (fun _ h_ => h_.1))))) (below_size (by repeat (first | (with_reducible first | exact HB.out | apply below_alloc | apply pw_below_drewN | apply below_drew1 | refine below_set ?_ GE641.out | refine below_set ?_ GE642.out | refine below_set ?_ GE659.out | refine below_set ?_ GE665.out) | exact HB.out)))); have n5_ := Aside0.mk (blk_below (g := gb641) (o := .cells #[.int .i64 a0_0, .slice A0_1 l0_1.length c0_1] 49 (0, 0)) (by (with_reducible repeat (first | refine blk_drewN ?_ _ | refine blk_drew ?_ | refine blk_alloc ?_ _)); refine blk_far ?_ NB641_665.out _; (with_reducible repeat (first | refine blk_drewN ?_ _ | refine blk_drew ?_ | refine blk_alloc ?_ _)); refine blk_far ?_ NB641_665.out _; (with_reducible repeat (first | refine blk_drewN ?_ _ | refine blk_drew ?_ | refine blk_alloc ?_ _)); exact BK641.out) hb); have n6_ := Aside0.mk (blk_below (g := gb642) (o := .cells #[.int .i64 a1_0, .slice A1_1 l1_1.length c1_1] 49 (0, 0)) (by (with_reducible repeat (first | refine blk_drewN ?_ _ | refine blk_drew ?_ | refine blk_alloc ?_ _)); refine blk_far ?_ NB642_665.out _; (with_reducible repeat (first | refine blk_drewN ?_ _ | refine blk_drew ?_ | refine blk_alloc ?_ _)); refine blk_far ?_ NB642_665.out _; (with_reducible repeat (first | refine blk_drewN ?_ _ | refine blk_drew ?_ | refine blk_alloc ?_ _)); exact BK642.out) hb); have n7_ := Aside0.mk (blk_below (g := gb659) (o := .cells #[.int .i64 t654, .slice Ao62 t655.length co62] 49 (0, 0)) (by (with_reducible repeat (first | refine blk_drewN ?_ _ | refine blk_drew ?_ | refine blk_alloc ?_ _)); refine blk_far ?_ NB659_665.out _; (with_reducible repeat (first | refine blk_drewN ?_ _ | refine blk_drew ?_ | refine blk_alloc ?_ _)); refine blk_far ?_ NB659_665.out _; (with_reducible repeat (first | refine blk_drewN ?_ _ | refine blk_drew ?_ | refine blk_alloc ?_ _)); exact BK659.out) hb); have n8_ := Aside0.mk (blk_below (g := gb665) (o := .cells #[.int .i64 t660, .slice Ao69 t661.length co69] 49 (0, 0)) (by (with_reducible repeat (first | refine blk_drewN ?_ _ | refine blk_drew ?_ | refine blk_alloc ?_ _)); refine blk_put (cs := #[.int .i64 t660, .slice none 0 0]) ?_ 1 _ rfl; (with_reducible repeat (first | refine blk_drewN ?_ _ | refine blk_drew ?_ | refine blk_alloc ?_ _)); refine blk_put (cs := #[.int .i64 0, .slice none 0 0]) ?_ 0 _ rfl; (with_reducible repeat (first | refine blk_drewN ?_ _ | refine blk_drew ?_ | refine blk_alloc ?_ _)); exact BK665.out) hb); have n9_ := Aside0.mk (below_step (by repeat (first | (with_reducible first | exact HB.out | apply below_alloc | apply pw_below_drewN | apply below_drew1 | refine below_set ?_ GE641.out | refine below_set ?_ GE642.out | refine below_set ?_ GE659.out | refine below_set ?_ GE665.out) | exact HB.out)) hb); clear HO648; clear HO652; clear HO657; clear HO663; clear BK641; clear BK642; clear BK659; clear BK665; clear HB; have HO648 := n0_; have HO652 := n1_; have HO657 := n2_; have HO663 := n3_; have HO669 := n4_; have BK641 := n5_; have BK642 := n6_; have BK659 := n7_; have BK665 := n8_; have HB := n9_; clear n0_ n1_ n2_ n3_ n4_ n5_ n6_ n7_ n8_ n9_; (try clear hb); (try clear hb2); (try clear hk); (try clear hi); (try clear ho0)) | ((with_reducible refine gate_dst (N := 20) rfl ?_); (try (refine gate_guard (by rfl) ?_; dsimp only)); refine box_event ?hg (N := 20) ?hd (cs := #[.int .i64 0, .slice none 0 0]) (t := 49) ?hr ?_; (case hd => rfl); (case hg => rfl); (case hr => first | (go_simp; done) | (go_simp; rfl)); intro gb671 hg w71 hbox hb; have n0_ := Aside0.mk (Kd.R_below (by (with_reducible repeat (first | apply Kd.R_alloc | apply Kd.R_drewN | apply Kd.R_drew)); exact HO648.out) hb); have n1_ := Aside0.mk (Kd.R_below (by (with_reducible repeat (first | apply Kd.R_alloc | apply Kd.R_drewN | apply Kd.R_drew)); exact HO652.out) hb); have n2_ := Aside0.mk (Kd.S_below (by (with_reducible repeat (first | apply Kd.S_alloc | apply Kd.S_drewN | apply Kd.S_drew)); exact HO657.out) hb); have n3_ := Aside0.mk (Kd.S_below (by (with_reducible repeat (first | apply Kd.S_alloc | apply Kd.S_drewN | apply Kd.S_drew)); exact HO663.out) hb); have n4_ := Aside0.mk (Kd.S_below (by (with_reducible repeat (first | apply Kd.S_alloc | apply Kd.S_drewN | apply Kd.S_drew)); exact HO669.out) hb); have n5_ := Aside0.mk (blk_below (g := gb641) (o := .cells #[.int .i64 a0_0, .slice A0_1 l0_1.length c0_1] 49 (0, 0)) (by (with_reducible repeat (first | refine blk_drewN ?_ _ | refine blk_drew ?_ | refine blk_alloc ?_ _)); exact BK641.out) hb); have n6_ := Aside0.mk (blk_below (g := gb642) (o := .cells #[.int .i64 a1_0, .slice A1_1 l1_1.length c1_1] 49 (0, 0)) (by (with_reducible repeat (first | refine blk_drewN ?_ _ | refine blk_drew ?_ | refine blk_alloc ?_ _)); exact BK642.out) hb); have n7_ := Aside0.mk (blk_below (g := gb659) (o := .cells #[.int .i64 t654, .slice Ao62 t655.length co62] 49 (0, 0)) (by (with_reducible repeat (first | refine blk_drewN ?_ _ | refine blk_drew ?_ | refine blk_alloc ?_ _)); exact BK659.out) hb); have n8_ := Aside0.mk (blk_below (g := gb665) (o := .cells #[.int .i64 t660, .slice Ao69 t661.length co69] 49 (0, 0)) (by (with_reducible repeat (first | refine blk_drewN ?_ _ | refine blk_drew ?_ | refine blk_alloc ?_ _)); exact BK665.out) hb); have n9_ := Aside0.mk (below_step (by repeat (first | (with_reducible first | exact HB.out | apply below_alloc | apply pw_below_drewN | apply below_drew1 | refine below_set ?_ GE641.out | refine below_set ?_ GE642.out | refine below_set ?_ GE659.out | refine below_set ?_ GE665.out) | exact HB.out)) hb); have n10_ := Aside0.mk (hbox); have n11_ := Aside0.mk ((by rw [hg]; exact (below_size (by repeat (first | (with_reducible first | exact HB.out | apply below_alloc | apply pw_below_drewN | apply below_drew1 | refine below_set ?_ GE641.out | refine below_set ?_ GE642.out | refine below_set ?_ GE659.out | refine below_set ?_ GE665.out) | exact HB.out))) : w.heap.size ≤ gb671)); have n12_ := Aside0.mk ((by rw [hg]; exact (below_size (by repeat (first | (with_reducible first | exact HB.out | apply below_alloc | apply pw_below_drewN | apply below_drew1 | refine below_set ?_ GE641.out | refine below_set ?_ GE642.out | refine below_set ?_ GE659.out | refine below_set ?_ GE665.out) | exact HB.out))) : w.heap.size ≤ gb671)); have n13_ := Aside0.mk ((by rw [hg]; exact Nat.ne_of_lt (blk_lt (g := gb641) (o := .cells #[.int .i64 a0_0, .slice A0_1 l0_1.length c0_1] 49 (0, 0)) (by (with_reducible repeat (first | refine blk_drewN ?_ _ | refine blk_drew ?_ | refine blk_alloc ?_ _)); exact BK641.out)) : gb641 ≠ gb671)); have n14_ := Aside0.mk ((by rw [hg]; exact Nat.ne_of_gt (blk_lt (g := gb641) (o := .cells #[.int .i64 a0_0, .slice A0_1 l0_1.length c0_1] 49 (0, 0)) (by (with_reducible repeat (first | refine blk_drewN ?_ _ | refine blk_drew ?_ | refine blk_alloc ?_ _)); exact BK641.out)) : gb671 ≠ gb641)); have n15_ := Aside0.mk ((by rw [hg]; exact Nat.ne_of_lt (blk_lt (g := gb642) (o := .cells #[.int .i64 a1_0, .slice A1_1 l1_1.length c1_1] 49 (0, 0)) (by (with_reducible repeat (first | refine blk_drewN ?_ _ | refine blk_drew ?_ | refine blk_alloc ?_ _)); exact BK642.out)) : gb642 ≠ gb671)); have n16_ := Aside0.mk ((by rw [hg]; exact Nat.ne_of_gt (blk_lt (g := gb642) (o := .cells #[.int .i64 a1_0, .slice A1_1 l1_1.length c1_1] 49 (0, 0)) (by (with_reducible repeat (first | refine blk_drewN ?_ _ | refine blk_drew ?_ | refine blk_alloc ?_ _)); exact BK642.out)) : gb671 ≠ gb642)); have n17_ := Aside0.mk ((by rw [hg]; exact Nat.ne_of_lt (blk_lt (g := gb659) (o := .cells #[.int .i64 t654, .slice Ao62 t655.length co62] 49 (0, 0)) (by (with_reducible repeat (first | refine blk_drewN ?_ _ | refine blk_drew ?_ | refine blk_alloc ?_ _)); exact BK659.out)) : gb659 ≠ gb671)); have n18_ := Aside0.mk ((by rw [hg]; exact Nat.ne_of_gt (blk_lt (g := gb659) (o := .cells #[.int .i64 t654, .slice Ao62 t655.length co62] 49 (0, 0)) (by (with_reducible repeat (first | refine blk_drewN ?_ _ | refine blk_drew ?_ | refine blk_alloc ?_ _)); exact BK659.out)) : gb671 ≠ gb659)); have n19_ := Aside0.mk ((by rw [hg]; exact Nat.ne_of_lt (blk_lt (g := gb665) (o := .cells #[.int .i64 t660, .slice Ao69 t661.length co69] 49 (0, 0)) (by (with_reducible repeat (first | refine blk_drewN ?_ _ | refine blk_drew ?_ | refine blk_alloc ?_ _)); exact BK665.out)) : gb665 ≠ gb671)); have n20_ := Aside0.mk ((by rw [hg]; exact Nat.ne_of_gt (blk_lt (g := gb665) (o := .cells #[.int .i64 t660, .slice Ao69 t661.length co69] 49 (0, 0)) (by (with_reducible repeat (first | refine blk_drewN ?_ _ | refine blk_drew ?_ | refine blk_alloc ?_ _)); exact BK665.out)) : gb671 ≠ gb665)); clear HO648; clear HO652; clear HO657; clear HO663; clear HO669; clear BK641; clear BK642; clear BK659; clear BK665; clear HB; have HO648 := n0_; have HO652 := n1_; have HO657 := n2_; have HO663 := n3_; have HO669 := n4_; have BK641 := n5_; have BK642 := n6_; have BK659 := n7_; have BK665 := n8_; have HB := n9_; have BK671 := n10_; have GW671 := n11_; have GE671 := n12_; have NB641_671 := n13_; have NB671_641 := n14_; have NB642_671 := n15_; have NB671_642 := n16_; have NB659_671 := n17_; have NB671_659 := n18_; have NB665_671 := n19_; have NB671_665 := n20_; clear n0_ n1_ n2_ n3_ n4_ n5_ n6_ n7_ n8_ n9_ n10_ n11_ n12_ n13_ n14_ n15_ n16_ n17_ n18_ n19_ n20_; clear hb hbox hg; have hnb72 := NB671_641.out; have hnc72 := NB641_671.out; have hnb73 := NB671_642.out; have hnc73 := NB642_671.out; have hnb74 := NB671_659.out; have hnc74 := NB659_671.out; have hnb75 := NB671_665.out; have hnc75 := NB665_671.out; have hcz76_0 : w71.cell? ⟨gb671, 0, none⟩ = some (.int .i64 0) := (blk_cell BK671.out 0).trans rfl; have hcz76_1 : w71.cell? ⟨gb671, 1, none⟩ = some (.slice none 0 0) := (blk_cell BK671.out 1).trans rfl; have hfz76_0 := blk_frozen BK671.out 0; have hfz76_1 := blk_frozen BK671.out 1; obtain ⟨Ao77, co77, eo77⟩ := Kd.S_slice HO669.out; subst eo77) | ((with_reducible refine gate_callee (f := 42) rfl ?_); refine goesL_ (some 74) rfl rfl Try.func42 (by kernel_rfl) rfl #[.int .i64 a3, .int .i64 a4] rfl (by (try simp only [List.map_toArray, List.map_cons, List.map_nil]); first | done | rfl | (simp only [List.length_drop, List.length_take]; rfl)) ?_; (with_reducible refine (cuvetteref08_Plain.calls kj7 a3 a4 t672 t673 t676 _ A35.out).mono ?_); rintro e w78 ⟨v674, rfl, ho0, hb⟩; refine ⟨_, rfl, ?_⟩; have n0_ := Aside0.mk (Kd.R_below (by (with_reducible repeat (first | apply Kd.R_alloc | apply Kd.R_drewN | apply Kd.R_drew)); exact (Kd.R_mono (Kd.R_far (p := ⟨gb671, 1, none⟩) (Kd.R_far (p := ⟨gb671, 0, none⟩) (Kd.R_types HO648.out BK671.out (by decide)) (fun _ hk => hk.2) (.int .i64 t666)) (fun _ hk => hk.2) (.slice Ao77 t667.length co77)) (fun _ h_ => h_.1))) hb); have n1_ := Aside0.mk (Kd.R_below (by (with_reducible repeat (first | apply Kd.R_alloc | apply Kd.R_drewN | apply Kd.R_drew)); exact (Kd.R_mono (Kd.R_far (p := ⟨gb671, 1, none⟩) (Kd.R_far (p := ⟨gb671, 0, none⟩) (Kd.R_types HO652.out BK671.out (by decide)) (fun _ hk => hk.2) (.int .i64 t666)) (fun _ hk => hk.2) (.slice Ao77 t667.length co77)) (fun _ h_ => h_.1))) hb); have n2_ := Aside0.mk (Kd.S_elder' (by (with_reducible repeat (first | apply Kd.S_alloc | apply Kd.S_drewN | apply Kd.S_drew)); exact (Kd.S_mono (Kd.S_far (p := ⟨gb671, 1, none⟩) (Kd.S_far (p := ⟨gb671, 0, none⟩) (Kd.S_types HO657.out BK671.out (by decide)) (fun _ hk => hk.2) (.int .i64 t666)) (fun _ hk => hk.2) (.slice Ao77 t667.length co77)) (fun _ h_ => h_.1))) (Kd.S_base ho0) hb); have n3_ := Aside0.mk (Kd.S_elder' (by (with_reducible repeat (first | apply Kd.S_alloc | apply Kd.S_drewN | apply Kd.S_drew)); exact (Kd.S_mono (Kd.S_far (p := ⟨gb671, 1, none⟩) (Kd.S_far (p := ⟨gb671, 0, none⟩) (Kd.S_types HO663.out BK671.out (by decide)) (fun _ hk => hk.2) (.int .i64 t666)) (fun _ hk => hk.2) (.slice Ao77 t667.length co77)) (fun _ h_ => h_.1))) (Kd.S_base ho0) hb); have n4_ := Aside0.mk (Kd.S_elder' (by (with_reducible repeat (first | apply Kd.S_alloc | apply Kd.S_drewN | apply Kd.S_drew)); exact (Kd.S_mono (Kd.S_far (p := ⟨gb671, 1, none⟩) (Kd.S_far (p := ⟨gb671, 0, none⟩) (Kd.S_types HO669.out BK671.out (by decide)) (fun _ hk => hk.2) (.int .i64 t666)) (fun _ hk => hk.2) (.slice Ao77 t667.length co77)) (fun _ h_ => h_.1))) (Kd.S_base ho0) hb); have n5_ := Aside0.mk (Kd.S_lower (Kd.S_new' (Kd.S_new' (Kd.S_new' ho0 (Kd.S_lt (by (with_reducible repeat (first | apply Kd.S_alloc | apply Kd.S_drewN | apply Kd.S_drew)); exact (Kd.S_mono (Kd.S_far (p := ⟨gb671, 1, none⟩) (Kd.S_far (p := ⟨gb671, 0, none⟩) (Kd.S_types HO657.out BK671.out (by decide)) (fun _ hk => hk.2) (.int .i64 t666)) (fun _ hk => hk.2) (.slice Ao77 t667.length co77)) (fun _ h_ => h_.1))))) (Kd.S_lt (by (with_reducible repeat (first | apply Kd.S_alloc | apply Kd.S_drewN | apply Kd.S_drew)); exact (Kd.S_mono (Kd.S_far (p := ⟨gb671, 1, none⟩) (Kd.S_far (p := ⟨gb671, 0, none⟩) (Kd.S_types HO663.out BK671.out (by decide)) (fun _ hk => hk.2) (.int .i64 t666)) (fun _ hk => hk.2) (.slice Ao77 t667.length co77)) (fun _ h_ => h_.1))))) (Kd.S_lt (by (with_reducible repeat (first | apply Kd.S_alloc | apply Kd.S_drewN | apply Kd.S_drew)); exact (Kd.S_mono (Kd.S_far (p := ⟨gb671, 1, none⟩) (Kd.S_far (p := ⟨gb671, 0, none⟩) (Kd.S_types HO669.out BK671.out (by decide)) (fun _ hk => hk.2) (.int .i64 t666)) (fun _ hk => hk.2) (.slice Ao77 t667.length co77)) (fun _ h_ => h_.1))))) (below_size (by repeat (first | (with_reducible first | exact HB.out | apply below_alloc | apply pw_below_drewN | apply below_drew1 | refine below_set ?_ GE641.out | refine below_set ?_ GE642.out | refine below_set ?_ GE659.out | refine below_set ?_ GE665.out | refine below_set ?_ GE671.out) | exact HB.out)))); have n6_ := Aside0.mk (blk_below (g := gb641) (o := .cells #[.int .i64 a0_0, .slice A0_1 l0_1.length c0_1] 49 (0, 0)) (by (with_reducible repeat (first | refine blk_drewN ?_ _ | refine blk_drew ?_ | refine blk_alloc ?_ _)); refine blk_far ?_ NB641_671.out _; (with_reducible repeat (first | refine blk_drewN ?_ _ | refine blk_drew ?_ | refine blk_alloc ?_ _)); refine blk_far ?_ NB641_671.out _; (with_reducible repeat (first | refine blk_drewN ?_ _ | refine blk_drew ?_ | refine blk_alloc ?_ _)); exact BK641.out) hb); have n7_ := Aside0.mk (blk_below (g := gb642) (o := .cells #[.int .i64 a1_0, .slice A1_1 l1_1.length c1_1] 49 (0, 0)) (by (with_reducible repeat (first | refine blk_drewN ?_ _ | refine blk_drew ?_ | refine blk_alloc ?_ _)); refine blk_far ?_ NB642_671.out _; (with_reducible repeat (first | refine blk_drewN ?_ _ | refine blk_drew ?_ | refine blk_alloc ?_ _)); refine blk_far ?_ NB642_671.out _; (with_reducible repeat (first | refine blk_drewN ?_ _ | refine blk_drew ?_ | refine blk_alloc ?_ _)); exact BK642.out) hb); have n8_ := Aside0.mk (blk_below (g := gb659) (o := .cells #[.int .i64 t654, .slice Ao62 t655.length co62] 49 (0, 0)) (by (with_reducible repeat (first | refine blk_drewN ?_ _ | refine blk_drew ?_ | refine blk_alloc ?_ _)); refine blk_far ?_ NB659_671.out _; (with_reducible repeat (first | refine blk_drewN ?_ _ | refine blk_drew ?_ | refine blk_alloc ?_ _)); refine blk_far ?_ NB659_671.out _; (with_reducible repeat (first | refine blk_drewN ?_ _ | refine blk_drew ?_ | refine blk_alloc ?_ _)); exact BK659.out) hb); have n9_ := Aside0.mk (blk_below (g := gb665) (o := .cells #[.int .i64 t660, .slice Ao69 t661.length co69] 49 (0, 0)) (by (with_reducible repeat (first | refine blk_drewN ?_ _ | refine blk_drew ?_ | refine blk_alloc ?_ _)); refine blk_far ?_ NB665_671.out _; (with_reducible repeat (first | refine blk_drewN ?_ _ | refine blk_drew ?_ | refine blk_alloc ?_ _)); refine blk_far ?_ NB665_671.out _; (with_reducible repeat (first | refine blk_drewN ?_ _ | refine blk_drew ?_ | refine blk_alloc ?_ _)); exact BK665.out) hb); have n10_ := Aside0.mk (blk_below (g := gb671) (o := .cells #[.int .i64 t666, .slice Ao77 t667.length co77] 49 (0, 0)) (by (with_reducible repeat (first | refine blk_drewN ?_ _ | refine blk_drew ?_ | refine blk_alloc ?_ _)); refine blk_put (cs := #[.int .i64 t666, .slice none 0 0]) ?_ 1 _ rfl; (with_reducible repeat (first | refine blk_drewN ?_ _ | refine blk_drew ?_ | refine blk_alloc ?_ _)); refine blk_put (cs := #[.int .i64 0, .slice none 0 0]) ?_ 0 _ rfl; (with_reducible repeat (first | refine blk_drewN ?_ _ | refine blk_drew ?_ | refine blk_alloc ?_ _)); exact BK671.out) hb); have n11_ := Aside0.mk (below_step (by repeat (first | (with_reducible first | exact HB.out | apply below_alloc | apply pw_below_drewN | apply below_drew1 | refine below_set ?_ GE641.out | refine below_set ?_ GE642.out | refine below_set ?_ GE659.out | refine below_set ?_ GE665.out | refine below_set ?_ GE671.out) | exact HB.out)) hb); clear HO648; clear HO652; clear HO657; clear HO663; clear HO669; clear BK641; clear BK642; clear BK659; clear BK665; clear BK671; clear HB; have HO648 := n0_; have HO652 := n1_; have HO657 := n2_; have HO663 := n3_; have HO669 := n4_; have HO675 := n5_; have BK641 := n6_; have BK642 := n7_; have BK659 := n8_; have BK665 := n9_; have BK671 := n10_; have HB := n11_; clear n0_ n1_ n2_ n3_ n4_ n5_ n6_ n7_ n8_ n9_ n10_ n11_; (try clear hb); (try clear hb2); (try clear hk); (try clear hi); (try clear ho0)) | ((with_reducible refine gate_dst (N := 22) rfl ?_); (try (refine gate_guard (by rfl) ?_; dsimp only)); refine box_event ?hg (N := 22) ?hd (cs := #[.int .i64 0, .slice none 0 0]) (t := 49) ?hr ?_; (case hd => rfl); (case hg => rfl); (case hr => first | (go_simp; done) | (go_simp; rfl)); intro gb677 hg w79 hbox hb; have n0_ := Aside0.mk (Kd.R_below (by (with_reducible repeat (first | apply Kd.R_alloc | apply Kd.R_drewN | apply Kd.R_drew)); exact HO648.out) hb); have n1_ := Aside0.mk (Kd.R_below (by (with_reducible repeat (first | apply Kd.R_alloc | apply Kd.R_drewN | apply Kd.R_drew)); exact HO652.out) hb); have n2_ := Aside0.mk (Kd.S_below (by (with_reducible repeat (first | apply Kd.S_alloc | apply Kd.S_drewN | apply Kd.S_drew)); exact HO657.out) hb); have n3_ := Aside0.mk (Kd.S_below (by (with_reducible repeat (first | apply Kd.S_alloc | apply Kd.S_drewN | apply Kd.S_drew)); exact HO663.out) hb); have n4_ := Aside0.mk (Kd.S_below (by (with_reducible repeat (first | apply Kd.S_alloc | apply Kd.S_drewN | apply Kd.S_drew)); exact HO669.out) hb); have n5_ := Aside0.mk (Kd.S_below (by (with_reducible repeat (first | apply Kd.S_alloc | apply Kd.S_drewN | apply Kd.S_drew)); exact HO675.out) hb); have n6_ := Aside0.mk (blk_below (g := gb641) (o := .cells #[.int .i64 a0_0, .slice A0_1 l0_1.length c0_1] 49 (0, 0)) (by (with_reducible repeat (first | refine blk_drewN ?_ _ | refine blk_drew ?_ | refine blk_alloc ?_ _)); exact BK641.out) hb); have n7_ := Aside0.mk (blk_below (g := gb642) (o := .cells #[.int .i64 a1_0, .slice A1_1 l1_1.length c1_1] 49 (0, 0)) (by (with_reducible repeat (first | refine blk_drewN ?_ _ | refine blk_drew ?_ | refine blk_alloc ?_ _)); exact BK642.out) hb); have n8_ := Aside0.mk (blk_below (g := gb659) (o := .cells #[.int .i64 t654, .slice Ao62 t655.length co62] 49 (0, 0)) (by (with_reducible repeat (first | refine blk_drewN ?_ _ | refine blk_drew ?_ | refine blk_alloc ?_ _)); exact BK659.out) hb); have n9_ := Aside0.mk (blk_below (g := gb665) (o := .cells #[.int .i64 t660, .slice Ao69 t661.length co69] 49 (0, 0)) (by (with_reducible repeat (first | refine blk_drewN ?_ _ | refine blk_drew ?_ | refine blk_alloc ?_ _)); exact BK665.out) hb); have n10_ := Aside0.mk (blk_below (g := gb671) (o := .cells #[.int .i64 t666, .slice Ao77 t667.length co77] 49 (0, 0)) (by (with_reducible repeat (first | refine blk_drewN ?_ _ | refine blk_drew ?_ | refine blk_alloc ?_ _)); exact BK671.out) hb); have n11_ := Aside0.mk (below_step (by repeat (first | (with_reducible first | exact HB.out | apply below_alloc | apply pw_below_drewN | apply below_drew1 | refine below_set ?_ GE641.out | refine below_set ?_ GE642.out | refine below_set ?_ GE659.out | refine below_set ?_ GE665.out | refine below_set ?_ GE671.out) | exact HB.out)) hb); have n12_ := Aside0.mk (hbox); have n13_ := Aside0.mk ((by rw [hg]; exact (below_size (by repeat (first | (with_reducible first | exact HB.out | apply below_alloc | apply pw_below_drewN | apply below_drew1 | refine below_set ?_ GE641.out | refine below_set ?_ GE642.out | refine below_set ?_ GE659.out | refine below_set ?_ GE665.out | refine below_set ?_ GE671.out) | exact HB.out))) : w.heap.size ≤ gb677)); have n14_ := Aside0.mk ((by rw [hg]; exact (below_size (by repeat (first | (with_reducible first | exact HB.out | apply below_alloc | apply pw_below_drewN | apply below_drew1 | refine below_set ?_ GE641.out | refine below_set ?_ GE642.out | refine below_set ?_ GE659.out | refine below_set ?_ GE665.out | refine below_set ?_ GE671.out) | exact HB.out))) : w.heap.size ≤ gb677)); have n15_ := Aside0.mk ((by rw [hg]; exact Nat.ne_of_lt (blk_lt (g := gb641) (o := .cells #[.int .i64 a0_0, .slice A0_1 l0_1.length c0_1] 49 (0, 0)) (by (with_reducible repeat (first | refine blk_drewN ?_ _ | refine blk_drew ?_ | refine blk_alloc ?_ _)); exact BK641.out)) : gb641 ≠ gb677)); have n16_ := Aside0.mk ((by rw [hg]; exact Nat.ne_of_gt (blk_lt (g := gb641) (o := .cells #[.int .i64 a0_0, .slice A0_1 l0_1.length c0_1] 49 (0, 0)) (by (with_reducible repeat (first | refine blk_drewN ?_ _ | refine blk_drew ?_ | refine blk_alloc ?_ _)); exact BK641.out)) : gb677 ≠ gb641)); have n17_ := Aside0.mk ((by rw [hg]; exact Nat.ne_of_lt (blk_lt (g := gb642) (o := .cells #[.int .i64 a1_0, .slice A1_1 l1_1.length c1_1] 49 (0, 0)) (by (with_reducible repeat (first | refine blk_drewN ?_ _ | refine blk_drew ?_ | refine blk_alloc ?_ _)); exact BK642.out)) : gb642 ≠ gb677)); have n18_ := Aside0.mk ((by rw [hg]; exact Nat.ne_of_gt (blk_lt (g := gb642) (o := .cells #[.int .i64 a1_0, .slice A1_1 l1_1.length c1_1] 49 (0, 0)) (by (with_reducible repeat (first | refine blk_drewN ?_ _ | refine blk_drew ?_ | refine blk_alloc ?_ _)); exact BK642.out)) : gb677 ≠ gb642)); have n19_ := Aside0.mk ((by rw [hg]; exact Nat.ne_of_lt (blk_lt (g := gb659) (o := .cells #[.int .i64 t654, .slice Ao62 t655.length co62] 49 (0, 0)) (by (with_reducible repeat (first | refine blk_drewN ?_ _ | refine blk_drew ?_ | refine blk_alloc ?_ _)); exact BK659.out)) : gb659 ≠ gb677)); have n20_ := Aside0.mk ((by rw [hg]; exact Nat.ne_of_gt (blk_lt (g := gb659) (o := .cells #[.int .i64 t654, .slice Ao62 t655.length co62] 49 (0, 0)) (by (with_reducible repeat (first | refine blk_drewN ?_ _ | refine blk_drew ?_ | refine blk_alloc ?_ _)); exact BK659.out)) : gb677 ≠ gb659)); have n21_ := Aside0.mk ((by rw [hg]; exact Nat.ne_of_lt (blk_lt (g := gb665) (o := .cells #[.int .i64 t660, .slice Ao69 t661.length co69] 49 (0, 0)) (by (with_reducible repeat (first | refine blk_drewN ?_ _ | refine blk_drew ?_ | refine blk_alloc ?_ _)); exact BK665.out)) : gb665 ≠ gb677)); have n22_ := Aside0.mk ((by rw [hg]; exact Nat.ne_of_gt (blk_lt (g := gb665) (o := .cells #[.int .i64 t660, .slice Ao69 t661.length co69] 49 (0, 0)) (by (with_reducible repeat (first | refine blk_drewN ?_ _ | refine blk_drew ?_ | refine blk_alloc ?_ _)); exact BK665.out)) : gb677 ≠ gb665)); have n23_ := Aside0.mk ((by rw [hg]; exact Nat.ne_of_lt (blk_lt (g := gb671) (o := .cells #[.int .i64 t666, .slice Ao77 t667.length co77] 49 (0, 0)) (by (with_reducible repeat (first | refine blk_drewN ?_ _ | refine blk_drew ?_ | refine blk_alloc ?_ _)); exact BK671.out)) : gb671 ≠ gb677)); have n24_ := Aside0.mk ((by rw [hg]; exact Nat.ne_of_gt (blk_lt (g := gb671) (o := .cells #[.int .i64 t666, .slice Ao77 t667.length co77] 49 (0, 0)) (by (with_reducible repeat (first | refine blk_drewN ?_ _ | refine blk_drew ?_ | refine blk_alloc ?_ _)); exact BK671.out)) : gb677 ≠ gb671)); clear HO648; clear HO652; clear HO657; clear HO663; clear HO669; clear HO675; clear BK641; clear BK642; clear BK659; clear BK665; clear BK671; clear HB; have HO648 := n0_; have HO652 := n1_; have HO657 := n2_; have HO663 := n3_; have HO669 := n4_; have HO675 := n5_; have BK641 := n6_; have BK642 := n7_; have BK659 := n8_; have BK665 := n9_; have BK671 := n10_; have HB := n11_; have BK677 := n12_; have GW677 := n13_; have GE677 := n14_; have NB641_677 := n15_; have NB677_641 := n16_; have NB642_677 := n17_; have NB677_642 := n18_; have NB659_677 := n19_; have NB677_659 := n20_; have NB665_677 := n21_; have NB677_665 := n22_; have NB671_677 := n23_; have NB677_671 := n24_; clear n0_ n1_ n2_ n3_ n4_ n5_ n6_ n7_ n8_ n9_ n10_ n11_ n12_ n13_ n14_ n15_ n16_ n17_ n18_ n19_ n20_ n21_ n22_ n23_ n24_; clear hb hbox hg; have hnb80 := NB677_641.out; have hnc80 := NB641_677.out; have hnb81 := NB677_642.out; have hnc81 := NB642_677.out; have hnb82 := NB677_659.out; have hnc82 := NB659_677.out; have hnb83 := NB677_665.out; have hnc83 := NB665_677.out; have hnb84 := NB677_671.out; have hnc84 := NB671_677.out; have hcz85_0 : w79.cell? ⟨gb677, 0, none⟩ = some (.int .i64 0) := (blk_cell BK677.out 0).trans rfl; have hcz85_1 : w79.cell? ⟨gb677, 1, none⟩ = some (.slice none 0 0) := (blk_cell BK677.out 1).trans rfl; have hfz85_0 := blk_frozen BK677.out 0; have hfz85_1 := blk_frozen BK677.out 1; obtain ⟨Ao86, co86, eo86⟩ := Kd.S_slice HO675.out; subst eo86) | ((with_reducible refine gate_callee (f := 43) rfl ?_); refine goesL_ (some 80) rfl rfl Try.func43 (by kernel_rfl) rfl #[.int .i64 a3, .int .i64 a4] rfl (by (try simp only [List.map_toArray, List.map_cons, List.map_nil]); first | done | rfl | (simp only [List.length_drop, List.length_take]; rfl)) ?_; (with_reducible refine (book_Size.calls a3 a4 t678 t679 _ A36.out).mono ?_); rintro e w87 ⟨rfl, hb⟩; refine ⟨_, rfl, ?_⟩; have n0_ := Aside0.mk (Kd.R_below (by (with_reducible repeat (first | apply Kd.R_alloc | apply Kd.R_drewN | apply Kd.R_drew)); exact (Kd.R_mono (Kd.R_far (p := ⟨gb677, 1, none⟩) (Kd.R_far (p := ⟨gb677, 0, none⟩) (Kd.R_types HO648.out BK677.out (by decide)) (fun _ hk => hk.2) (.int .i64 t672)) (fun _ hk => hk.2) (.slice Ao86 t673.length co86)) (fun _ h_ => h_.1))) hb); have n1_ := Aside0.mk (Kd.R_below (by (with_reducible repeat (first | apply Kd.R_alloc | apply Kd.R_drewN | apply Kd.R_drew)); exact (Kd.R_mono (Kd.R_far (p := ⟨gb677, 1, none⟩) (Kd.R_far (p := ⟨gb677, 0, none⟩) (Kd.R_types HO652.out BK677.out (by decide)) (fun _ hk => hk.2) (.int .i64 t672)) (fun _ hk => hk.2) (.slice Ao86 t673.length co86)) (fun _ h_ => h_.1))) hb); have n2_ := Aside0.mk (Kd.S_below (by (with_reducible repeat (first | apply Kd.S_alloc | apply Kd.S_drewN | apply Kd.S_drew)); exact (Kd.S_mono (Kd.S_far (p := ⟨gb677, 1, none⟩) (Kd.S_far (p := ⟨gb677, 0, none⟩) (Kd.S_types HO657.out BK677.out (by decide)) (fun _ hk => hk.2) (.int .i64 t672)) (fun _ hk => hk.2) (.slice Ao86 t673.length co86)) (fun _ h_ => h_.1))) hb); have n3_ := Aside0.mk (Kd.S_below (by (with_reducible repeat (first | apply Kd.S_alloc | apply Kd.S_drewN | apply Kd.S_drew)); exact (Kd.S_mono (Kd.S_far (p := ⟨gb677, 1, none⟩) (Kd.S_far (p := ⟨gb677, 0, none⟩) (Kd.S_types HO663.out BK677.out (by decide)) (fun _ hk => hk.2) (.int .i64 t672)) (fun _ hk => hk.2) (.slice Ao86 t673.length co86)) (fun _ h_ => h_.1))) hb); have n4_ := Aside0.mk (Kd.S_below (by (with_reducible repeat (first | apply Kd.S_alloc | apply Kd.S_drewN | apply Kd.S_drew)); exact (Kd.S_mono (Kd.S_far (p := ⟨gb677, 1, none⟩) (Kd.S_far (p := ⟨gb677, 0, none⟩) (Kd.S_types HO669.out BK677.out (by decide)) (fun _ hk => hk.2) (.int .i64 t672)) (fun _ hk => hk.2) (.slice Ao86 t673.length co86)) (fun _ h_ => h_.1))) hb); have n5_ := Aside0.mk (Kd.S_below (by (with_reducible repeat (first | apply Kd.S_alloc | apply Kd.S_drewN | apply Kd.S_drew)); exact (Kd.S_mono (Kd.S_far (p := ⟨gb677, 1, none⟩) (Kd.S_far (p := ⟨gb677, 0, none⟩) (Kd.S_types HO675.out BK677.out (by decide)) (fun _ hk => hk.2) (.int .i64 t672)) (fun _ hk => hk.2) (.slice Ao86 t673.length co86)) (fun _ h_ => h_.1))) hb); have n6_ := Aside0.mk (blk_below (g := gb641) (o := .cells #[.int .i64 a0_0, .slice A0_1 l0_1.length c0_1] 49 (0, 0)) (by (with_reducible repeat (first | refine blk_drewN ?_ _ | refine blk_drew ?_ | refine blk_alloc ?_ _)); refine blk_far ?_ NB641_677.out _; (with_reducible repeat (first | refine blk_drewN ?_ _ | refine blk_drew ?_ | refine blk_alloc ?_ _)); refine blk_far ?_ NB641_677.out _; (with_reducible repeat (first | refine blk_drewN ?_ _ | refine blk_drew ?_ | refine blk_alloc ?_ _)); exact BK641.out) hb); have n7_ := Aside0.mk (blk_below (g := gb642) (o := .cells #[.int .i64 a1_0, .slice A1_1 l1_1.length c1_1] 49 (0, 0)) (by (with_reducible repeat (first | refine blk_drewN ?_ _ | refine blk_drew ?_ | refine blk_alloc ?_ _)); refine blk_far ?_ NB642_677.out _; (with_reducible repeat (first | refine blk_drewN ?_ _ | refine blk_drew ?_ | refine blk_alloc ?_ _)); refine blk_far ?_ NB642_677.out _; (with_reducible repeat (first | refine blk_drewN ?_ _ | refine blk_drew ?_ | refine blk_alloc ?_ _)); exact BK642.out) hb); have n8_ := Aside0.mk (blk_below (g := gb659) (o := .cells #[.int .i64 t654, .slice Ao62 t655.length co62] 49 (0, 0)) (by (with_reducible repeat (first | refine blk_drewN ?_ _ | refine blk_drew ?_ | refine blk_alloc ?_ _)); refine blk_far ?_ NB659_677.out _; (with_reducible repeat (first | refine blk_drewN ?_ _ | refine blk_drew ?_ | refine blk_alloc ?_ _)); refine blk_far ?_ NB659_677.out _; (with_reducible repeat (first | refine blk_drewN ?_ _ | refine blk_drew ?_ | refine blk_alloc ?_ _)); exact BK659.out) hb); have n9_ := Aside0.mk (blk_below (g := gb665) (o := .cells #[.int .i64 t660, .slice Ao69 t661.length co69] 49 (0, 0)) (by (with_reducible repeat (first | refine blk_drewN ?_ _ | refine blk_drew ?_ | refine blk_alloc ?_ _)); refine blk_far ?_ NB665_677.out _; (with_reducible repeat (first | refine blk_drewN ?_ _ | refine blk_drew ?_ | refine blk_alloc ?_ _)); refine blk_far ?_ NB665_677.out _; (with_reducible repeat (first | refine blk_drewN ?_ _ | refine blk_drew ?_ | refine blk_alloc ?_ _)); exact BK665.out) hb); have n10_ := Aside0.mk (blk_below (g := gb671) (o := .cells #[.int .i64 t666, .slice Ao77 t667.length co77] 49 (0, 0)) (by (with_reducible repeat (first | refine blk_drewN ?_ _ | refine blk_drew ?_ | refine blk_alloc ?_ _)); refine blk_far ?_ NB671_677.out _; (with_reducible repeat (first | refine blk_drewN ?_ _ | refine blk_drew ?_ | refine blk_alloc ?_ _)); refine blk_far ?_ NB671_677.out _; (with_reducible repeat (first | refine blk_drewN ?_ _ | refine blk_drew ?_ | refine blk_alloc ?_ _)); exact BK671.out) hb); have n11_ := Aside0.mk (blk_below (g := gb677) (o := .cells #[.int .i64 t672, .slice Ao86 t673.length co86] 49 (0, 0)) (by (with_reducible repeat (first | refine blk_drewN ?_ _ | refine blk_drew ?_ | refine blk_alloc ?_ _)); refine blk_put (cs := #[.int .i64 t672, .slice none 0 0]) ?_ 1 _ rfl; (with_reducible repeat (first | refine blk_drewN ?_ _ | refine blk_drew ?_ | refine blk_alloc ?_ _)); refine blk_put (cs := #[.int .i64 0, .slice none 0 0]) ?_ 0 _ rfl; (with_reducible repeat (first | refine blk_drewN ?_ _ | refine blk_drew ?_ | refine blk_alloc ?_ _)); exact BK677.out) hb); have n12_ := Aside0.mk (below_step (by repeat (first | (with_reducible first | exact HB.out | apply below_alloc | apply pw_below_drewN | apply below_drew1 | refine below_set ?_ GE641.out | refine below_set ?_ GE642.out | refine below_set ?_ GE659.out | refine below_set ?_ GE665.out | refine below_set ?_ GE671.out | refine below_set ?_ GE677.out) | exact HB.out)) hb); clear HO648; clear HO652; clear HO657; clear HO663; clear HO669; clear HO675; clear BK641; clear BK642; clear BK659; clear BK665; clear BK671; clear BK677; clear HB; have HO648 := n0_; have HO652 := n1_; have HO657 := n2_; have HO663 := n3_; have HO669 := n4_; have HO675 := n5_; have BK641 := n6_; have BK642 := n7_; have BK659 := n8_; have BK665 := n9_; have BK671 := n10_; have BK677 := n11_; have HB := n12_; clear n0_ n1_ n2_ n3_ n4_ n5_ n6_ n7_ n8_ n9_ n10_ n11_ n12_; (try clear hb); (try clear hb2); (try clear hk); (try clear hi)) | ((with_reducible refine gate_callee (f := 44) rfl ?_); refine goesL_ (some 86) rfl rfl Try.func44 (by kernel_rfl) rfl #[.int .i64 a3, .int .i64 a4] rfl (by (try simp only [List.map_toArray, List.map_cons, List.map_nil]); first | done | rfl | (simp only [List.length_drop, List.length_take]; rfl)) ?_; (with_reducible refine (cuvetteref08_Size.calls a3 a4 t680 t681 _ A37.out).mono ?_); rintro e w' ⟨rfl, ⟨nd, rfl⟩⟩; refine ⟨_, rfl, ?_⟩))
                            (try (rw [drewN_self w87]; generalize hq_ : World.drewN w87 _ = w87; have n0_ : Aside0 (Kd.R (Kd.int .u8) 5 w87 w.heap.size (fun k_ => some k_ ≠ (v651 : Value).ownBlock) v647 t646) := ⟨by rw [← hq_]; exact (by (with_reducible repeat (first | apply Kd.R_alloc | apply Kd.R_drewN | apply Kd.R_drew)); exact Kd.R_mono HO648.out (fun _ hk => hk.2))⟩; have n1_ : Aside0 (Kd.R (Kd.int .u8) 5 w87 w.heap.size (fun k_ => some k_ ≠ (v647 : Value).ownBlock) v651 t650) := ⟨by rw [← hq_]; exact (by (with_reducible repeat (first | apply Kd.R_alloc | apply Kd.R_drewN | apply Kd.R_drew)); exact Kd.R_mono HO652.out (fun _ hk => hk.2))⟩; have n2_ : Aside0 (Kd.S (Kd.slice 74 (Kd.int .i16)) 26 w87 w.heap.size (fun k_ => some k_ ≠ (.slice Ao69 t661.length co69 : Value).ownBlock ∧ some k_ ≠ (.slice Ao77 t667.length co77 : Value).ownBlock ∧ some k_ ≠ (.slice Ao86 t673.length co86 : Value).ownBlock) (.slice Ao62 t655.length co62) t655) := ⟨by rw [← hq_]; exact (by (with_reducible repeat (first | apply Kd.S_alloc | apply Kd.S_drewN | apply Kd.S_drew)); exact Kd.S_mono HO657.out (fun _ hk => ⟨hk.1.1.2, ⟨hk.1.2, hk.2⟩⟩))⟩; have n3_ : Aside0 (Kd.S (Kd.slice 74 (Kd.int .i16)) 26 w87 w.heap.size (fun k_ => some k_ ≠ (.slice Ao62 t655.length co62 : Value).ownBlock ∧ some k_ ≠ (.slice Ao77 t667.length co77 : Value).ownBlock ∧ some k_ ≠ (.slice Ao86 t673.length co86 : Value).ownBlock) (.slice Ao69 t661.length co69) t661) := ⟨by rw [← hq_]; exact (by (with_reducible repeat (first | apply Kd.S_alloc | apply Kd.S_drewN | apply Kd.S_drew)); exact Kd.S_mono HO663.out (fun _ hk => ⟨hk.1.1.2, ⟨hk.1.2, hk.2⟩⟩))⟩; have n4_ : Aside0 (Kd.S (Kd.slice 74 (Kd.int .i16)) 26 w87 w.heap.size (fun k_ => some k_ ≠ (.slice Ao62 t655.length co62 : Value).ownBlock ∧ some k_ ≠ (.slice Ao69 t661.length co69 : Value).ownBlock ∧ some k_ ≠ (.slice Ao86 t673.length co86 : Value).ownBlock) (.slice Ao77 t667.length co77) t667) := ⟨by rw [← hq_]; exact (by (with_reducible repeat (first | apply Kd.S_alloc | apply Kd.S_drewN | apply Kd.S_drew)); exact Kd.S_mono HO669.out (fun _ hk => ⟨hk.1.1.2, ⟨hk.1.2, hk.2⟩⟩))⟩; have n5_ : Aside0 (Kd.S (Kd.slice 74 (Kd.int .i16)) 26 w87 w.heap.size (fun k_ => some k_ ≠ (.slice Ao62 t655.length co62 : Value).ownBlock ∧ some k_ ≠ (.slice Ao69 t661.length co69 : Value).ownBlock ∧ some k_ ≠ (.slice Ao77 t667.length co77 : Value).ownBlock) (.slice Ao86 t673.length co86) t673) := ⟨by rw [← hq_]; exact (by (with_reducible repeat (first | apply Kd.S_alloc | apply Kd.S_drewN | apply Kd.S_drew)); exact Kd.S_mono HO675.out (fun _ hk => ⟨hk.1.1.2, ⟨hk.1.2, hk.2⟩⟩))⟩; have n6_ : Aside0 (w87.heap[gb641]? = some (.cells #[.int .i64 a0_0, .slice A0_1 l0_1.length c0_1] 49 (0, 0))) := ⟨by rw [← hq_]; exact (by (with_reducible repeat (first | refine blk_drewN ?_ _ | refine blk_drew ?_ | refine blk_alloc ?_ _)); exact BK641.out)⟩; have n7_ : Aside0 (w87.heap[gb642]? = some (.cells #[.int .i64 a1_0, .slice A1_1 l1_1.length c1_1] 49 (0, 0))) := ⟨by rw [← hq_]; exact (by (with_reducible repeat (first | refine blk_drewN ?_ _ | refine blk_drew ?_ | refine blk_alloc ?_ _)); exact BK642.out)⟩; have n8_ : Aside0 (w87.heap[gb659]? = some (.cells #[.int .i64 t654, .slice Ao62 t655.length co62] 49 (0, 0))) := ⟨by rw [← hq_]; exact (by (with_reducible repeat (first | refine blk_drewN ?_ _ | refine blk_drew ?_ | refine blk_alloc ?_ _)); exact BK659.out)⟩; have n9_ : Aside0 (w87.heap[gb665]? = some (.cells #[.int .i64 t660, .slice Ao69 t661.length co69] 49 (0, 0))) := ⟨by rw [← hq_]; exact (by (with_reducible repeat (first | refine blk_drewN ?_ _ | refine blk_drew ?_ | refine blk_alloc ?_ _)); exact BK665.out)⟩; have n10_ : Aside0 (w87.heap[gb671]? = some (.cells #[.int .i64 t666, .slice Ao77 t667.length co77] 49 (0, 0))) := ⟨by rw [← hq_]; exact (by (with_reducible repeat (first | refine blk_drewN ?_ _ | refine blk_drew ?_ | refine blk_alloc ?_ _)); exact BK671.out)⟩; have n11_ : Aside0 (w87.heap[gb677]? = some (.cells #[.int .i64 t672, .slice Ao86 t673.length co86] 49 (0, 0))) := ⟨by rw [← hq_]; exact (by (with_reducible repeat (first | refine blk_drewN ?_ _ | refine blk_drew ?_ | refine blk_alloc ?_ _)); exact BK677.out)⟩; have n12_ : Aside0 (Below w.heap.size w w87) := ⟨by rw [← hq_]; exact (by repeat (first | (with_reducible first | exact HB.out | apply below_alloc | apply pw_below_drewN | apply below_drew1 | refine below_set ?_ GE641.out | refine below_set ?_ GE642.out | refine below_set ?_ GE659.out | refine below_set ?_ GE665.out | refine below_set ?_ GE671.out | refine below_set ?_ GE677.out) | exact HB.out))⟩; clear HO648 HO652 HO657 HO663 HO669 HO675 BK641 BK642 BK659 BK665 BK671 BK677 HB hq_; have HO648 := n0_; have HO652 := n1_; have HO657 := n2_; have HO663 := n3_; have HO669 := n4_; have HO675 := n5_; have BK641 := n6_; have BK642 := n7_; have BK659 := n8_; have BK665 := n9_; have BK671 := n10_; have BK677 := n11_; have HB := n12_; clear n0_ n1_ n2_ n3_ n4_ n5_ n6_ n7_ n8_ n9_ n10_ n11_ n12_))
                            have n0_ := Aside0.mk (Kd.R_drew HO648.out)
                            have n1_ := Aside0.mk (Kd.R_drew HO652.out)
                            have n2_ := Aside0.mk (Kd.S_drew HO657.out)
                            have n3_ := Aside0.mk (Kd.S_drew HO663.out)
                            have n4_ := Aside0.mk (Kd.S_drew HO669.out)
                            have n5_ := Aside0.mk (Kd.S_drew HO675.out)
                            have n6_ := Aside0.mk (blk_drew BK641.out)
                            have n7_ := Aside0.mk (blk_drew BK642.out)
                            have n8_ := Aside0.mk (blk_drew BK659.out)
                            have n9_ := Aside0.mk (blk_drew BK665.out)
                            have n10_ := Aside0.mk (blk_drew BK671.out)
                            have n11_ := Aside0.mk (blk_drew BK677.out)
                            have n12_ := Aside0.mk (below_drew1 HB.out)
                            clear HO648
                            clear HO652
                            clear HO657
                            clear HO663
                            clear HO669
                            clear HO675
                            clear BK641
                            clear BK642
                            clear BK659
                            clear BK665
                            clear BK671
                            clear BK677
                            clear HB
                            have HO648 := n0_
                            have HO652 := n1_
                            have HO657 := n2_
                            have HO663 := n3_
                            have HO669 := n4_
                            have HO675 := n5_
                            have BK641 := n6_
                            have BK642 := n7_
                            have BK659 := n8_
                            have BK665 := n9_
                            have BK671 := n10_
                            have BK677 := n11_
                            have HB := n12_
                            clear n0_ n1_ n2_ n3_ n4_ n5_ n6_ n7_ n8_ n9_ n10_ n11_ n12_
                            obtain ⟨Ao89, co89, eo89⟩ := Kd.R_slice HO648.out
                            (first | subst eo89 | (injection eo89 with f1_ f2_ f3_; have f4_ := f1_.symm; have f5_ := f3_.symm; clear f1_ f2_ f3_; subst f4_; subst f5_))
                            obtain ⟨Ao90, co90, eo90⟩ := Kd.R_slice HO652.out
                            (first | subst eo90 | (injection eo90 with f1_ f2_ f3_; have f4_ := f1_.symm; have f5_ := f3_.symm; clear f1_ f2_ f3_; subst f4_; subst f5_))
                            refine start_ (n := 51) (S := fun w' => w'.cell? ⟨gb659, 0, none⟩ = some (.int .i64 t654) ∧ w'.cell? ⟨gb659, 1, none⟩ = some (.slice Ao62 t655.length co62) ∧ w'.cell? ⟨gb665, 0, none⟩ = some (.int .i64 t660) ∧ w'.cell? ⟨gb665, 1, none⟩ = some (.slice Ao69 t661.length co69) ∧ w'.cell? ⟨gb671, 0, none⟩ = some (.int .i64 t666) ∧ w'.cell? ⟨gb671, 1, none⟩ = some (.slice Ao77 t667.length co77) ∧ w'.cell? ⟨gb677, 0, none⟩ = some (.int .i64 t672) ∧ w'.cell? ⟨gb677, 1, none⟩ = some (.slice Ao86 t673.length co86) ∧ w'.cell? ⟨gb641, 0, none⟩ = some (.int .i64 a0_0) ∧ w'.cell? ⟨gb641, 1, none⟩ = some (.slice A0_1 l0_1.length c0_1) ∧ w'.cell? ⟨gb642, 0, none⟩ = some (.int .i64 a1_0) ∧ w'.cell? ⟨gb642, 1, none⟩ = some (.slice A1_1 l1_1.length c1_1)) (ds := []) #[false, false, false, false, false, false, false, false, false, false, false, false, false, false, false, false, false, false, false, false, false, false, false, false, false, false, false, false, false, false, false, false, false, false, false, false, false, false, false, false, false, false, false, false, false, false, false, false, false, false, false] (by kernel_rfl) rfl rfl ⟨(blk_cell BK659.out 0).trans rfl, (blk_cell BK659.out 1).trans rfl, (blk_cell BK665.out 0).trans rfl, (blk_cell BK665.out 1).trans rfl, (blk_cell BK671.out 0).trans rfl, (blk_cell BK671.out 1).trans rfl, (blk_cell BK677.out 0).trans rfl, (blk_cell BK677.out 1).trans rfl, (blk_cell BK641.out 0).trans rfl, (blk_cell BK641.out 1).trans rfl, (blk_cell BK642.out 0).trans rfl, (blk_cell BK642.out 1).trans rfl⟩ (fun hHeld => ?_); refine with_tabW cuvettelaw08_BookTexts.tab14 cuvettelaw08_BookTexts.bits14 (fun HT_ HW_ => ?_)
                            generalize w87.drew = w88 at HO648 HO652 HO657 HO663 HO669 HO675 BK641 BK642 BK659 BK665 BK671 BK677 HB hHeld ⊢
                            refine pure_ (i := 0) (N := some 89) (v := ?_) (a' := ?_) #[true, false, false, false, false, false, false, false, false, false, false, false, false, false, false, false, false, false, false, false, false, false, false, false, false, false, false, false, false, false, false, false, false, false, false, false, false, false, false, false, false, false, false, false, false, false, false, false, false, false, false] rfl rfl (any_of HT_.out (by kernel_rfl)) (fun _ _ _ h => h) (Or.inl ⟨by rfl, ?_⟩) ?_ ?_
                            rotate_left
                            · intro w'
                              go_simp
                              with_reducible rfl
                            rotate_left
                            · simp only [Act.put, List.setIfInBounds_toArray, List.set_cons_zero, List.set_cons_succ, i64_w, i32_w]
                              rfl
                            refine pure_ (i := 1) (N := some 90) (v := ?_) (a' := ?_) #[true, true, false, false, false, false, false, false, false, false, false, false, false, false, false, false, false, false, false, false, false, false, false, false, false, false, false, false, false, false, false, false, false, false, false, false, false, false, false, false, false, false, false, false, false, false, false, false, false, false, false] rfl rfl (any_of HT_.out (by kernel_rfl)) (fun _ _ _ h => h) (Or.inl ⟨by rfl, ?_⟩) ?_ ?_
                            rotate_left
                            · intro w'
                              go_simp
                              with_reducible rfl
                            rotate_left
                            · simp only [Act.put, List.setIfInBounds_toArray, List.set_cons_zero, List.set_cons_succ, i64_w, i32_w]
                              rfl
                            refine pure_ (i := 2) (N := some 91) (v := ?_) (a' := ?_) #[true, true, true, false, false, false, false, false, false, false, false, false, false, false, false, false, false, false, false, false, false, false, false, false, false, false, false, false, false, false, false, false, false, false, false, false, false, false, false, false, false, false, false, false, false, false, false, false, false, false, false] rfl rfl (any_of HT_.out (by kernel_rfl)) (fun _ _ _ h => h) (Or.inl ⟨by rfl, ?_⟩) ?_ ?_
                            rotate_left
                            · intro w'
                              go_simp
                              with_reducible rfl
                            rotate_left
                            · simp only [Act.put, List.setIfInBounds_toArray, List.set_cons_zero, List.set_cons_succ, i64_w, i32_w]
                              rfl
                            refine pure_ (i := 3) (N := some 92) (v := ?_) (a' := ?_) #[true, true, true, true, false, false, false, false, false, false, false, false, false, false, false, false, false, false, false, false, false, false, false, false, false, false, false, false, false, false, false, false, false, false, false, false, false, false, false, false, false, false, false, false, false, false, false, false, false, false, false] rfl rfl (any_of HT_.out (by kernel_rfl)) (fun _ _ _ h => h) (Or.inl ⟨by rfl, ?_⟩) ?_ ?_
                            rotate_left
                            · intro w'
                              go_simp
                              with_reducible rfl
                            rotate_left
                            · simp only [Act.put, List.setIfInBounds_toArray, List.set_cons_zero, List.set_cons_succ, i64_w, i32_w]
                              rfl
                            refine one_ (i := 4) (N := some 93) #[true, true, true, true, true, false, false, false, false, false, false, false, false, false, false, false, false, false, false, false, false, false, false, false, false, false, false, false, false, false, false, false, false, false, false, false, false, false, false, false, false, false, false, false, false, false, false, false, false, false, false] rfl rfl (one_of HT_.out (by kernel_rfl)) (by decide) (fun K hK => ?_)
                            refine goes_ Try.func45 (by kernel_rfl) rfl #[.slice Ao89 t646.length co89, .slice Ao90 t650.length co90] (by rfl) rfl rfl (by (try simp only [List.map_toArray, List.map_cons, List.map_nil]); first | done | rfl | (simp only [List.length_drop, List.length_take]; rfl)) ?_
                            with_reducible refine (cuvetteref01_SameBytes.calls _ _ t646 _ _ t650 true _ ?side1 ?side2 ?side3 ?side4 A39.out).mono ?_
                            (case side1 => repeat (first | exact (Kd.R_reads' HO648.out).2.2 | (with_reducible refine Kd.C_alloc ?_ _) | (with_reducible refine Kd.C_drewN ?_ _) | (with_reducible refine Kd.C_drew ?_)))
                            (case side2 => exact (Kd.R_reads' HO648.out).2.1)
                            (case side3 => repeat (first | exact (Kd.R_reads' HO652.out).2.2 | (with_reducible refine Kd.C_alloc ?_ _) | (with_reducible refine Kd.C_drewN ?_ _) | (with_reducible refine Kd.C_drew ?_)))
                            (case side4 => exact (Kd.R_reads' HO652.out).2.1)
                            rintro e w' ⟨rfl, ⟨nd, rfl⟩⟩
                            refine ⟨_, rfl, ?_⟩
                            refine hK.out _ _ ⟨(blk_cell BK659.out 0).trans rfl, (blk_cell BK659.out 1).trans rfl, (blk_cell BK665.out 0).trans rfl, (blk_cell BK665.out 1).trans rfl, (blk_cell BK671.out 0).trans rfl, (blk_cell BK671.out 1).trans rfl, (blk_cell BK677.out 0).trans rfl, (blk_cell BK677.out 1).trans rfl, (blk_cell BK641.out 0).trans rfl, (blk_cell BK641.out 1).trans rfl, (blk_cell BK642.out 0).trans rfl, (blk_cell BK642.out 1).trans rfl⟩ (fun hHeld => ?_)
                            clear hK K
                            refine norm_ (a' := ?_) ?_ ?_
                            rotate_left
                            · show Act.put _ (some 93) _ = _
                              simp only [Act.put, List.setIfInBounds_toArray, List.set_cons_zero, List.set_cons_succ, i64_w, i32_w]
                              rfl
                            refine pure_ (i := 5) (N := some 94) (v := ?_) (a' := ?_) #[true, true, true, true, true, true, false, false, false, false, false, false, false, false, false, false, false, false, false, false, false, false, false, false, false, false, false, false, false, false, false, false, false, false, false, false, false, false, false, false, false, false, false, false, false, false, false, false, false, false, false] rfl rfl (any_of HT_.out (by kernel_rfl)) (fun _ _ _ h => h) (Or.inl ⟨by rfl, ?_⟩) ?_ ?_
                            rotate_left
                            · intro w'
                              go_simp
                              with_reducible rfl
                            rotate_left
                            · simp only [Act.put, List.setIfInBounds_toArray, List.set_cons_zero, List.set_cons_succ, i64_w, i32_w]
                              rfl
                            refine pure_ (i := 6) (N := some 95) (v := ?_) (a' := ?_) #[true, true, true, true, true, true, true, false, false, false, false, false, false, false, false, false, false, false, false, false, false, false, false, false, false, false, false, false, false, false, false, false, false, false, false, false, false, false, false, false, false, false, false, false, false, false, false, false, false, false, false] rfl rfl (any_of HT_.out (by kernel_rfl)) (fun _ _ _ h => h) (Or.inl ⟨by rfl, ?_⟩) ?_ ?_
                            rotate_left
                            · intro w'
                              go_simp
                              with_reducible rfl
                            rotate_left
                            · simp only [Act.put, List.setIfInBounds_toArray, List.set_cons_zero, List.set_cons_succ, i64_w, i32_w]
                              rfl
                            refine pure_ (i := 7) (N := some 96) (v := ?_) (a' := ?_) #[true, true, true, true, true, true, true, true, false, false, false, false, false, false, false, false, false, false, false, false, false, false, false, false, false, false, false, false, false, false, false, false, false, false, false, false, false, false, false, false, false, false, false, false, false, false, false, false, false, false, false] rfl rfl (any_of HT_.out (by kernel_rfl)) (fun _ _ _ h => h) (Or.inl ⟨by rfl, ?_⟩) ?_ ?_
                            rotate_left
                            · intro w'
                              go_simp
                              with_reducible rfl
                            rotate_left
                            · simp only [Act.put, List.setIfInBounds_toArray, List.set_cons_zero, List.set_cons_succ, i64_w, i32_w]
                              rfl
                            refine pure_ (i := 8) (N := some 97) (v := ?_) (a' := ?_) #[true, true, true, true, true, true, true, true, true, false, false, false, false, false, false, false, false, false, false, false, false, false, false, false, false, false, false, false, false, false, false, false, false, false, false, false, false, false, false, false, false, false, false, false, false, false, false, false, false, false, false] rfl rfl (any_of HT_.out (by kernel_rfl)) (fun _ _ _ h => h) (Or.inl ⟨by rfl, ?_⟩) ?_ ?_
                            rotate_left
                            · intro w'
                              go_simp
                              with_reducible rfl
                            rotate_left
                            · simp only [Act.put, List.setIfInBounds_toArray, List.set_cons_zero, List.set_cons_succ, i64_w, i32_w]
                              rfl
                            refine pure_ (i := 9) (N := some 98) (v := ?_) (a' := ?_) #[true, true, true, true, true, true, true, true, true, true, false, false, false, false, false, false, false, false, false, false, false, false, false, false, false, false, false, false, false, false, false, false, false, false, false, false, false, false, false, false, false, false, false, false, false, false, false, false, false, false, false] rfl rfl (any_of HT_.out (by kernel_rfl)) (fun _ _ _ h => h) (Or.inl ⟨by rfl, ?_⟩) ?_ ?_
                            rotate_left
                            · intro w'
                              go_simp
                              with_reducible rfl
                            rotate_left
                            · simp only [Act.put, List.setIfInBounds_toArray, List.set_cons_zero, List.set_cons_succ, i64_w, i32_w]
                              rfl
                            refine pure_ (i := 10) (N := some 99) (v := ?_) (a' := ?_) #[true, true, true, true, true, true, true, true, true, true, true, false, false, false, false, false, false, false, false, false, false, false, false, false, false, false, false, false, false, false, false, false, false, false, false, false, false, false, false, false, false, false, false, false, false, false, false, false, false, false, false] rfl rfl (any_of HT_.out (by kernel_rfl)) (fun _ _ _ h => h) (Or.inl ⟨by rfl, ?_⟩) ?_ ?_
                            rotate_left
                            · intro w'
                              go_simp
                              with_reducible rfl
                            rotate_left
                            · simp only [Act.put, List.setIfInBounds_toArray, List.set_cons_zero, List.set_cons_succ, i64_w, i32_w]
                              rfl
                            refine pure_ (i := 11) (N := some 100) (v := ?_) (a' := ?_) #[true, true, true, true, true, true, true, true, true, true, true, true, false, false, false, false, false, false, false, false, false, false, false, false, false, false, false, false, false, false, false, false, false, false, false, false, false, false, false, false, false, false, false, false, false, false, false, false, false, false, false] rfl rfl (any_of HT_.out (by kernel_rfl)) (fun _ _ _ h => h) (Or.inl ⟨by rfl, ?_⟩) ?_ ?_
                            rotate_left
                            · intro w'
                              go_simp
                              with_reducible rfl
                            rotate_left
                            · simp only [Act.put, List.setIfInBounds_toArray, List.set_cons_zero, List.set_cons_succ, i64_w, i32_w]
                              rfl
                            refine take_ (i := 12) (N := some 101) (v := ?_) (a' := ?_) #[true, true, true, true, true, true, true, true, true, true, true, true, true, false, false, false, false, false, false, false, false, false, false, false, false, false, false, false, false, false, false, false, false, false, false, false, false, false, false, false, false, false, false, false, false, false, false, false, false, false, false] rfl rfl (take_ofW HT_.out HW_.out (by kernel_rfl)) (fun _ _ _ h => h) (Or.inl ⟨by rfl, ?_⟩) hHeld ?_ ?_
                            rotate_left
                            · rintro w' ⟨s0, s1, s2, s3, s4, s5, s6, s7, s8, s9, s10, s11⟩
                              go_simp
                              with_reducible rfl
                            rotate_left
                            · simp only [Act.put, List.setIfInBounds_toArray, List.set_cons_zero, List.set_cons_succ, i64_w, i32_w]
                              rfl
                            refine take_ (i := 13) (N := some 102) (v := ?_) (a' := ?_) #[true, true, true, true, true, true, true, true, true, true, true, true, true, true, false, false, false, false, false, false, false, false, false, false, false, false, false, false, false, false, false, false, false, false, false, false, false, false, false, false, false, false, false, false, false, false, false, false, false, false, false] rfl rfl (take_ofW HT_.out HW_.out (by kernel_rfl)) (fun _ _ _ h => h) (Or.inl ⟨by rfl, ?_⟩) hHeld ?_ ?_
                            rotate_left
                            · rintro w' ⟨s0, s1, s2, s3, s4, s5, s6, s7, s8, s9, s10, s11⟩
                              go_simp
                              with_reducible rfl
                            rotate_left
                            · simp only [Act.put, List.setIfInBounds_toArray, List.set_cons_zero, List.set_cons_succ, i64_w, i32_w]
                              rfl
                            refine one_ (i := 14) (N := some 103) #[true, true, true, true, true, true, true, true, true, true, true, true, true, true, true, false, false, false, false, false, false, false, false, false, false, false, false, false, false, false, false, false, false, false, false, false, false, false, false, false, false, false, false, false, false, false, false, false, false, false, false] rfl rfl (one_of HT_.out (by kernel_rfl)) (by decide) (fun K hK => ?_)
                            refine goes_ Try.func46 (by kernel_rfl) rfl #[.agg #[.int .i64 t654, .slice Ao62 t655.length co62], .agg #[.int .i64 t660, .slice Ao69 t661.length co69]] (by rfl) rfl rfl (by (try simp only [List.map_toArray, List.map_cons, List.map_nil]); first | done | rfl | (simp only [List.length_drop, List.length_take]; rfl)) ?_
                            with_reducible refine (cuvetteref07_Same.calls kj7 t654 _ _ t655 t660 _ _ t661 true _ ?side1 ?side2 ?side3 ?side4 A42.out).mono ?_
                            (case side1 => repeat (first | exact (Kd.S_reads' HO657.out).2.2 | (with_reducible refine Kd.C_alloc ?_ _) | (with_reducible refine Kd.C_drewN ?_ _) | (with_reducible refine Kd.C_drew ?_)))
                            (case side2 => exact (Kd.S_reads' HO657.out).2.1)
                            (case side3 => repeat (first | exact (Kd.S_reads' HO663.out).2.2 | (with_reducible refine Kd.C_alloc ?_ _) | (with_reducible refine Kd.C_drewN ?_ _) | (with_reducible refine Kd.C_drew ?_)))
                            (case side4 => exact (Kd.S_reads' HO663.out).2.1)
                            rintro e w91 ⟨rfl, hb⟩
                            refine ⟨_, rfl, ?_⟩
                            have n0_ := Aside0.mk (Kd.R_below (by (with_reducible repeat (first | apply Kd.R_alloc | apply Kd.R_drewN | apply Kd.R_drew)); exact HO648.out) hb)
                            have n1_ := Aside0.mk (Kd.R_below (by (with_reducible repeat (first | apply Kd.R_alloc | apply Kd.R_drewN | apply Kd.R_drew)); exact HO652.out) hb)
                            have n2_ := Aside0.mk (Kd.S_below (by (with_reducible repeat (first | apply Kd.S_alloc | apply Kd.S_drewN | apply Kd.S_drew)); exact HO657.out) hb)
                            have n3_ := Aside0.mk (Kd.S_below (by (with_reducible repeat (first | apply Kd.S_alloc | apply Kd.S_drewN | apply Kd.S_drew)); exact HO663.out) hb)
                            have n4_ := Aside0.mk (Kd.S_below (by (with_reducible repeat (first | apply Kd.S_alloc | apply Kd.S_drewN | apply Kd.S_drew)); exact HO669.out) hb)
                            have n5_ := Aside0.mk (Kd.S_below (by (with_reducible repeat (first | apply Kd.S_alloc | apply Kd.S_drewN | apply Kd.S_drew)); exact HO675.out) hb)
                            have n6_ := Aside0.mk (blk_below (g := gb641) (o := .cells #[.int .i64 a0_0, .slice A0_1 l0_1.length c0_1] 49 (0, 0)) (by (with_reducible repeat (first | refine blk_drewN ?_ _ | refine blk_drew ?_ | refine blk_alloc ?_ _)); exact BK641.out) hb)
                            have n7_ := Aside0.mk (blk_below (g := gb642) (o := .cells #[.int .i64 a1_0, .slice A1_1 l1_1.length c1_1] 49 (0, 0)) (by (with_reducible repeat (first | refine blk_drewN ?_ _ | refine blk_drew ?_ | refine blk_alloc ?_ _)); exact BK642.out) hb)
                            have n8_ := Aside0.mk (blk_below (g := gb659) (o := .cells #[.int .i64 t654, .slice Ao62 t655.length co62] 49 (0, 0)) (by (with_reducible repeat (first | refine blk_drewN ?_ _ | refine blk_drew ?_ | refine blk_alloc ?_ _)); exact BK659.out) hb)
                            have n9_ := Aside0.mk (blk_below (g := gb665) (o := .cells #[.int .i64 t660, .slice Ao69 t661.length co69] 49 (0, 0)) (by (with_reducible repeat (first | refine blk_drewN ?_ _ | refine blk_drew ?_ | refine blk_alloc ?_ _)); exact BK665.out) hb)
                            have n10_ := Aside0.mk (blk_below (g := gb671) (o := .cells #[.int .i64 t666, .slice Ao77 t667.length co77] 49 (0, 0)) (by (with_reducible repeat (first | refine blk_drewN ?_ _ | refine blk_drew ?_ | refine blk_alloc ?_ _)); exact BK671.out) hb)
                            have n11_ := Aside0.mk (blk_below (g := gb677) (o := .cells #[.int .i64 t672, .slice Ao86 t673.length co86] 49 (0, 0)) (by (with_reducible repeat (first | refine blk_drewN ?_ _ | refine blk_drew ?_ | refine blk_alloc ?_ _)); exact BK677.out) hb)
                            have n12_ := Aside0.mk (below_step (by repeat (first | (with_reducible first | exact HB.out | apply below_alloc | apply pw_below_drewN | apply below_drew1 | refine below_set ?_ GE641.out | refine below_set ?_ GE642.out | refine below_set ?_ GE659.out | refine below_set ?_ GE665.out | refine below_set ?_ GE671.out | refine below_set ?_ GE677.out) | exact HB.out)) hb)
                            clear HO648
                            clear HO652
                            clear HO657
                            clear HO663
                            clear HO669
                            clear HO675
                            clear BK641
                            clear BK642
                            clear BK659
                            clear BK665
                            clear BK671
                            clear BK677
                            clear HB
                            have HO648 := n0_
                            have HO652 := n1_
                            have HO657 := n2_
                            have HO663 := n3_
                            have HO669 := n4_
                            have HO675 := n5_
                            have BK641 := n6_
                            have BK642 := n7_
                            have BK659 := n8_
                            have BK665 := n9_
                            have BK671 := n10_
                            have BK677 := n11_
                            have HB := n12_
                            clear n0_ n1_ n2_ n3_ n4_ n5_ n6_ n7_ n8_ n9_ n10_ n11_ n12_
                            (try clear hb)
                            (try clear hb2)
                            (try clear hk)
                            (try clear hi)
                            refine hK.out _ _ ⟨(blk_cell BK659.out 0).trans rfl, (blk_cell BK659.out 1).trans rfl, (blk_cell BK665.out 0).trans rfl, (blk_cell BK665.out 1).trans rfl, (blk_cell BK671.out 0).trans rfl, (blk_cell BK671.out 1).trans rfl, (blk_cell BK677.out 0).trans rfl, (blk_cell BK677.out 1).trans rfl, (blk_cell BK641.out 0).trans rfl, (blk_cell BK641.out 1).trans rfl, (blk_cell BK642.out 0).trans rfl, (blk_cell BK642.out 1).trans rfl⟩ (fun hHeld => ?_)
                            clear hK K
                            refine norm_ (a' := ?_) ?_ ?_
                            rotate_left
                            · show Act.put _ (some 103) _ = _
                              simp only [Act.put, List.setIfInBounds_toArray, List.set_cons_zero, List.set_cons_succ, i64_w, i32_w]
                              rfl
                            refine pure_ (i := 15) (N := some 104) (v := ?_) (a' := ?_) #[true, true, true, true, true, true, true, true, true, true, true, true, true, true, true, true, false, false, false, false, false, false, false, false, false, false, false, false, false, false, false, false, false, false, false, false, false, false, false, false, false, false, false, false, false, false, false, false, false, false, false] rfl rfl (any_of HT_.out (by kernel_rfl)) (fun _ _ _ h => h) (Or.inl ⟨by rfl, ?_⟩) ?_ ?_
                            rotate_left
                            · intro w'
                              go_simp
                              with_reducible rfl
                            rotate_left
                            · simp only [Act.put, List.setIfInBounds_toArray, List.set_cons_zero, List.set_cons_succ, i64_w, i32_w]
                              rfl
                            refine pure_ (i := 16) (N := some 105) (v := ?_) (a' := ?_) #[true, true, true, true, true, true, true, true, true, true, true, true, true, true, true, true, true, false, false, false, false, false, false, false, false, false, false, false, false, false, false, false, false, false, false, false, false, false, false, false, false, false, false, false, false, false, false, false, false, false, false] rfl rfl (any_of HT_.out (by kernel_rfl)) (fun _ _ _ h => h) (Or.inl ⟨by rfl, ?_⟩) ?_ ?_
                            rotate_left
                            · intro w'
                              go_simp
                              with_reducible rfl
                            rotate_left
                            · simp only [Act.put, List.setIfInBounds_toArray, List.set_cons_zero, List.set_cons_succ, i64_w, i32_w]
                              rfl
                            refine pure_ (i := 17) (N := some 106) (v := ?_) (a' := ?_) #[true, true, true, true, true, true, true, true, true, true, true, true, true, true, true, true, true, true, false, false, false, false, false, false, false, false, false, false, false, false, false, false, false, false, false, false, false, false, false, false, false, false, false, false, false, false, false, false, false, false, false] rfl rfl (any_of HT_.out (by kernel_rfl)) (fun _ _ _ h => h) (Or.inl ⟨by rfl, ?_⟩) ?_ ?_
                            rotate_left
                            · intro w'
                              go_simp
                              with_reducible rfl
                            rotate_left
                            · simp only [Act.put, List.setIfInBounds_toArray, List.set_cons_zero, List.set_cons_succ, i64_w, i32_w]
                              rfl
                            refine pure_ (i := 18) (N := some 107) (v := ?_) (a' := ?_) #[true, true, true, true, true, true, true, true, true, true, true, true, true, true, true, true, true, true, true, false, false, false, false, false, false, false, false, false, false, false, false, false, false, false, false, false, false, false, false, false, false, false, false, false, false, false, false, false, false, false, false] rfl rfl (any_of HT_.out (by kernel_rfl)) (fun _ _ _ h => h) (Or.inl ⟨by rfl, ?_⟩) ?_ ?_
                            rotate_left
                            · intro w'
                              go_simp
                              with_reducible rfl
                            rotate_left
                            · simp only [Act.put, List.setIfInBounds_toArray, List.set_cons_zero, List.set_cons_succ, i64_w, i32_w]
                              rfl
                            refine pure_ (i := 19) (N := some 108) (v := ?_) (a' := ?_) #[true, true, true, true, true, true, true, true, true, true, true, true, true, true, true, true, true, true, true, true, false, false, false, false, false, false, false, false, false, false, false, false, false, false, false, false, false, false, false, false, false, false, false, false, false, false, false, false, false, false, false] rfl rfl (any_of HT_.out (by kernel_rfl)) (fun _ _ _ h => h) (Or.inl ⟨by rfl, ?_⟩) ?_ ?_
                            rotate_left
                            · intro w'
                              go_simp
                              with_reducible rfl
                            rotate_left
                            · simp only [Act.put, List.setIfInBounds_toArray, List.set_cons_zero, List.set_cons_succ, i64_w, i32_w]
                              rfl
                            refine pure_ (i := 20) (N := some 109) (v := ?_) (a' := ?_) #[true, true, true, true, true, true, true, true, true, true, true, true, true, true, true, true, true, true, true, true, true, false, false, false, false, false, false, false, false, false, false, false, false, false, false, false, false, false, false, false, false, false, false, false, false, false, false, false, false, false, false] rfl rfl (any_of HT_.out (by kernel_rfl)) (fun _ _ _ h => h) (Or.inl ⟨by rfl, ?_⟩) ?_ ?_
                            rotate_left
                            · intro w'
                              go_simp
                              with_reducible rfl
                            rotate_left
                            · simp only [Act.put, List.setIfInBounds_toArray, List.set_cons_zero, List.set_cons_succ, i64_w, i32_w]
                              rfl
                            refine pure_ (i := 21) (N := some 110) (v := ?_) (a' := ?_) #[true, true, true, true, true, true, true, true, true, true, true, true, true, true, true, true, true, true, true, true, true, true, false, false, false, false, false, false, false, false, false, false, false, false, false, false, false, false, false, false, false, false, false, false, false, false, false, false, false, false, false] rfl rfl (any_of HT_.out (by kernel_rfl)) (fun _ _ _ h => h) (Or.inl ⟨by rfl, ?_⟩) ?_ ?_
                            rotate_left
                            · intro w'
                              go_simp
                              with_reducible rfl
                            rotate_left
                            · simp only [Act.put, List.setIfInBounds_toArray, List.set_cons_zero, List.set_cons_succ, i64_w, i32_w]
                              rfl
                            refine take_ (i := 22) (N := some 111) (v := ?_) (a' := ?_) #[true, true, true, true, true, true, true, true, true, true, true, true, true, true, true, true, true, true, true, true, true, true, true, false, false, false, false, false, false, false, false, false, false, false, false, false, false, false, false, false, false, false, false, false, false, false, false, false, false, false, false] rfl rfl (take_ofW HT_.out HW_.out (by kernel_rfl)) (fun _ _ _ h => h) (Or.inl ⟨by rfl, ?_⟩) hHeld ?_ ?_
                            rotate_left
                            · rintro w' ⟨s0, s1, s2, s3, s4, s5, s6, s7, s8, s9, s10, s11⟩
                              go_simp
                              with_reducible rfl
                            rotate_left
                            · simp only [Act.put, List.setIfInBounds_toArray, List.set_cons_zero, List.set_cons_succ, i64_w, i32_w]
                              rfl
                            refine take_ (i := 23) (N := some 112) (v := ?_) (a' := ?_) #[true, true, true, true, true, true, true, true, true, true, true, true, true, true, true, true, true, true, true, true, true, true, true, true, false, false, false, false, false, false, false, false, false, false, false, false, false, false, false, false, false, false, false, false, false, false, false, false, false, false, false] rfl rfl (take_ofW HT_.out HW_.out (by kernel_rfl)) (fun _ _ _ h => h) (Or.inl ⟨by rfl, ?_⟩) hHeld ?_ ?_
                            rotate_left
                            · rintro w' ⟨s0, s1, s2, s3, s4, s5, s6, s7, s8, s9, s10, s11⟩
                              go_simp
                              with_reducible rfl
                            rotate_left
                            · simp only [Act.put, List.setIfInBounds_toArray, List.set_cons_zero, List.set_cons_succ, i64_w, i32_w]
                              rfl
                            refine one_ (i := 24) (N := some 113) #[true, true, true, true, true, true, true, true, true, true, true, true, true, true, true, true, true, true, true, true, true, true, true, true, true, false, false, false, false, false, false, false, false, false, false, false, false, false, false, false, false, false, false, false, false, false, false, false, false, false, false] rfl rfl (one_of HT_.out (by kernel_rfl)) (by decide) (fun K hK => ?_)
                            refine goes_ Try.func46 (by kernel_rfl) rfl #[.agg #[.int .i64 t666, .slice Ao77 t667.length co77], .agg #[.int .i64 t672, .slice Ao86 t673.length co86]] (by rfl) rfl rfl (by (try simp only [List.map_toArray, List.map_cons, List.map_nil]); first | done | rfl | (simp only [List.length_drop, List.length_take]; rfl)) ?_
                            with_reducible refine (cuvetteref07_Same.calls kj7 t666 _ _ t667 t672 _ _ t673 true _ ?side1 ?side2 ?side3 ?side4 A45.out).mono ?_
                            (case side1 => repeat (first | exact (Kd.S_reads' HO669.out).2.2 | (with_reducible refine Kd.C_alloc ?_ _) | (with_reducible refine Kd.C_drewN ?_ _) | (with_reducible refine Kd.C_drew ?_)))
                            (case side2 => exact (Kd.S_reads' HO669.out).2.1)
                            (case side3 => repeat (first | exact (Kd.S_reads' HO675.out).2.2 | (with_reducible refine Kd.C_alloc ?_ _) | (with_reducible refine Kd.C_drewN ?_ _) | (with_reducible refine Kd.C_drew ?_)))
                            (case side4 => exact (Kd.S_reads' HO675.out).2.1)
                            rintro e w92 ⟨rfl, hb⟩
                            refine ⟨_, rfl, ?_⟩
                            have n0_ := Aside0.mk (Kd.R_below (by (with_reducible repeat (first | apply Kd.R_alloc | apply Kd.R_drewN | apply Kd.R_drew)); exact HO648.out) hb)
                            have n1_ := Aside0.mk (Kd.R_below (by (with_reducible repeat (first | apply Kd.R_alloc | apply Kd.R_drewN | apply Kd.R_drew)); exact HO652.out) hb)
                            have n2_ := Aside0.mk (Kd.S_below (by (with_reducible repeat (first | apply Kd.S_alloc | apply Kd.S_drewN | apply Kd.S_drew)); exact HO657.out) hb)
                            have n3_ := Aside0.mk (Kd.S_below (by (with_reducible repeat (first | apply Kd.S_alloc | apply Kd.S_drewN | apply Kd.S_drew)); exact HO663.out) hb)
                            have n4_ := Aside0.mk (Kd.S_below (by (with_reducible repeat (first | apply Kd.S_alloc | apply Kd.S_drewN | apply Kd.S_drew)); exact HO669.out) hb)
                            have n5_ := Aside0.mk (Kd.S_below (by (with_reducible repeat (first | apply Kd.S_alloc | apply Kd.S_drewN | apply Kd.S_drew)); exact HO675.out) hb)
                            have n6_ := Aside0.mk (blk_below (g := gb641) (o := .cells #[.int .i64 a0_0, .slice A0_1 l0_1.length c0_1] 49 (0, 0)) (by (with_reducible repeat (first | refine blk_drewN ?_ _ | refine blk_drew ?_ | refine blk_alloc ?_ _)); exact BK641.out) hb)
                            have n7_ := Aside0.mk (blk_below (g := gb642) (o := .cells #[.int .i64 a1_0, .slice A1_1 l1_1.length c1_1] 49 (0, 0)) (by (with_reducible repeat (first | refine blk_drewN ?_ _ | refine blk_drew ?_ | refine blk_alloc ?_ _)); exact BK642.out) hb)
                            have n8_ := Aside0.mk (blk_below (g := gb659) (o := .cells #[.int .i64 t654, .slice Ao62 t655.length co62] 49 (0, 0)) (by (with_reducible repeat (first | refine blk_drewN ?_ _ | refine blk_drew ?_ | refine blk_alloc ?_ _)); exact BK659.out) hb)
                            have n9_ := Aside0.mk (blk_below (g := gb665) (o := .cells #[.int .i64 t660, .slice Ao69 t661.length co69] 49 (0, 0)) (by (with_reducible repeat (first | refine blk_drewN ?_ _ | refine blk_drew ?_ | refine blk_alloc ?_ _)); exact BK665.out) hb)
                            have n10_ := Aside0.mk (blk_below (g := gb671) (o := .cells #[.int .i64 t666, .slice Ao77 t667.length co77] 49 (0, 0)) (by (with_reducible repeat (first | refine blk_drewN ?_ _ | refine blk_drew ?_ | refine blk_alloc ?_ _)); exact BK671.out) hb)
                            have n11_ := Aside0.mk (blk_below (g := gb677) (o := .cells #[.int .i64 t672, .slice Ao86 t673.length co86] 49 (0, 0)) (by (with_reducible repeat (first | refine blk_drewN ?_ _ | refine blk_drew ?_ | refine blk_alloc ?_ _)); exact BK677.out) hb)
                            have n12_ := Aside0.mk (below_step (by repeat (first | (with_reducible first | exact HB.out | apply below_alloc | apply pw_below_drewN | apply below_drew1 | refine below_set ?_ GE641.out | refine below_set ?_ GE642.out | refine below_set ?_ GE659.out | refine below_set ?_ GE665.out | refine below_set ?_ GE671.out | refine below_set ?_ GE677.out) | exact HB.out)) hb)
                            clear HO648
                            clear HO652
                            clear HO657
                            clear HO663
                            clear HO669
                            clear HO675
                            clear BK641
                            clear BK642
                            clear BK659
                            clear BK665
                            clear BK671
                            clear BK677
                            clear HB
                            have HO648 := n0_
                            have HO652 := n1_
                            have HO657 := n2_
                            have HO663 := n3_
                            have HO669 := n4_
                            have HO675 := n5_
                            have BK641 := n6_
                            have BK642 := n7_
                            have BK659 := n8_
                            have BK665 := n9_
                            have BK671 := n10_
                            have BK677 := n11_
                            have HB := n12_
                            clear n0_ n1_ n2_ n3_ n4_ n5_ n6_ n7_ n8_ n9_ n10_ n11_ n12_
                            (try clear hb)
                            (try clear hb2)
                            (try clear hk)
                            (try clear hi)
                            refine hK.out _ _ ⟨(blk_cell BK659.out 0).trans rfl, (blk_cell BK659.out 1).trans rfl, (blk_cell BK665.out 0).trans rfl, (blk_cell BK665.out 1).trans rfl, (blk_cell BK671.out 0).trans rfl, (blk_cell BK671.out 1).trans rfl, (blk_cell BK677.out 0).trans rfl, (blk_cell BK677.out 1).trans rfl, (blk_cell BK641.out 0).trans rfl, (blk_cell BK641.out 1).trans rfl, (blk_cell BK642.out 0).trans rfl, (blk_cell BK642.out 1).trans rfl⟩ (fun hHeld => ?_)
                            clear hK K
                            refine norm_ (a' := ?_) ?_ ?_
                            rotate_left
                            · show Act.put _ (some 113) _ = _
                              simp only [Act.put, List.setIfInBounds_toArray, List.set_cons_zero, List.set_cons_succ, i64_w, i32_w]
                              rfl
                            refine pure_ (i := 25) (N := some 114) (v := ?_) (a' := ?_) #[true, true, true, true, true, true, true, true, true, true, true, true, true, true, true, true, true, true, true, true, true, true, true, true, true, true, false, false, false, false, false, false, false, false, false, false, false, false, false, false, false, false, false, false, false, false, false, false, false, false, false] rfl rfl (any_of HT_.out (by kernel_rfl)) (fun _ _ _ h => h) (Or.inl ⟨by rfl, ?_⟩) ?_ ?_
                            rotate_left
                            · intro w'
                              go_simp
                              with_reducible rfl
                            rotate_left
                            · simp only [Act.put, List.setIfInBounds_toArray, List.set_cons_zero, List.set_cons_succ, i64_w, i32_w]
                              rfl
                            refine pure_ (i := 26) (N := some 115) (v := ?_) (a' := ?_) #[true, true, true, true, true, true, true, true, true, true, true, true, true, true, true, true, true, true, true, true, true, true, true, true, true, true, true, false, false, false, false, false, false, false, false, false, false, false, false, false, false, false, false, false, false, false, false, false, false, false, false] rfl rfl (any_of HT_.out (by kernel_rfl)) (fun _ _ _ h => h) (Or.inl ⟨by rfl, ?_⟩) ?_ ?_
                            rotate_left
                            · intro w'
                              go_simp
                              with_reducible rfl
                            rotate_left
                            · simp only [Act.put, List.setIfInBounds_toArray, List.set_cons_zero, List.set_cons_succ, i64_w, i32_w]
                              rfl
                            refine pure_ (i := 27) (N := some 116) (v := ?_) (a' := ?_) #[true, true, true, true, true, true, true, true, true, true, true, true, true, true, true, true, true, true, true, true, true, true, true, true, true, true, true, true, false, false, false, false, false, false, false, false, false, false, false, false, false, false, false, false, false, false, false, false, false, false, false] rfl rfl (any_of HT_.out (by kernel_rfl)) (fun _ _ _ h => h) (Or.inl ⟨by rfl, ?_⟩) ?_ ?_
                            rotate_left
                            · intro w'
                              go_simp
                              with_reducible rfl
                            rotate_left
                            · simp only [Act.put, List.setIfInBounds_toArray, List.set_cons_zero, List.set_cons_succ, i64_w, i32_w]
                              rfl
                            refine pure_ (i := 28) (N := some 117) (v := ?_) (a' := ?_) #[true, true, true, true, true, true, true, true, true, true, true, true, true, true, true, true, true, true, true, true, true, true, true, true, true, true, true, true, true, false, false, false, false, false, false, false, false, false, false, false, false, false, false, false, false, false, false, false, false, false, false] rfl rfl (any_of HT_.out (by kernel_rfl)) (fun _ _ _ h => h) (Or.inl ⟨by rfl, ?_⟩) ?_ ?_
                            rotate_left
                            · intro w'
                              go_simp
                              with_reducible rfl
                            rotate_left
                            · simp only [Act.put, List.setIfInBounds_toArray, List.set_cons_zero, List.set_cons_succ, i64_w, i32_w]
                              rfl
                            refine pure_ (i := 29) (N := some 118) (v := ?_) (a' := ?_) #[true, true, true, true, true, true, true, true, true, true, true, true, true, true, true, true, true, true, true, true, true, true, true, true, true, true, true, true, true, true, false, false, false, false, false, false, false, false, false, false, false, false, false, false, false, false, false, false, false, false, false] rfl rfl (any_of HT_.out (by kernel_rfl)) (fun _ _ _ h => h) (Or.inl ⟨by rfl, ?_⟩) ?_ ?_
                            rotate_left
                            · intro w'
                              go_simp
                              with_reducible rfl
                            rotate_left
                            · simp only [Act.put, List.setIfInBounds_toArray, List.set_cons_zero, List.set_cons_succ, i64_w, i32_w]
                              rfl
                            refine pure_ (i := 30) (N := some 119) (v := ?_) (a' := ?_) #[true, true, true, true, true, true, true, true, true, true, true, true, true, true, true, true, true, true, true, true, true, true, true, true, true, true, true, true, true, true, true, false, false, false, false, false, false, false, false, false, false, false, false, false, false, false, false, false, false, false, false] rfl rfl (any_of HT_.out (by kernel_rfl)) (fun _ _ _ h => h) (Or.inl ⟨by rfl, ?_⟩) ?_ ?_
                            rotate_left
                            · intro w'
                              go_simp
                              with_reducible rfl
                            rotate_left
                            · simp only [Act.put, List.setIfInBounds_toArray, List.set_cons_zero, List.set_cons_succ, i64_w, i32_w]
                              rfl
                            refine pure_ (i := 31) (N := some 120) (v := ?_) (a' := ?_) #[true, true, true, true, true, true, true, true, true, true, true, true, true, true, true, true, true, true, true, true, true, true, true, true, true, true, true, true, true, true, true, true, false, false, false, false, false, false, false, false, false, false, false, false, false, false, false, false, false, false, false] rfl rfl (any_of HT_.out (by kernel_rfl)) (fun _ _ _ h => h) (Or.inl ⟨by rfl, ?_⟩) ?_ ?_
                            rotate_left
                            · intro w'
                              go_simp
                              with_reducible rfl
                            rotate_left
                            · simp only [Act.put, List.setIfInBounds_toArray, List.set_cons_zero, List.set_cons_succ, i64_w, i32_w]
                              rfl
                            refine pure_ (i := 32) (N := some 121) (v := ?_) (a' := ?_) #[true, true, true, true, true, true, true, true, true, true, true, true, true, true, true, true, true, true, true, true, true, true, true, true, true, true, true, true, true, true, true, true, true, false, false, false, false, false, false, false, false, false, false, false, false, false, false, false, false, false, false] rfl rfl (any_of HT_.out (by kernel_rfl)) (fun _ _ _ h => h) (Or.inl ⟨by rfl, ?_⟩) ?_ ?_
                            rotate_left
                            · intro w'
                              go_simp
                              with_reducible rfl
                            rotate_left
                            · simp only [Act.put, List.setIfInBounds_toArray, List.set_cons_zero, List.set_cons_succ, i64_w, i32_w]
                              rfl
                            refine pure_ (i := 33) (N := some 122) (v := ?_) (a' := ?_) #[true, true, true, true, true, true, true, true, true, true, true, true, true, true, true, true, true, true, true, true, true, true, true, true, true, true, true, true, true, true, true, true, true, true, false, false, false, false, false, false, false, false, false, false, false, false, false, false, false, false, false] rfl rfl (any_of HT_.out (by kernel_rfl)) (fun _ _ _ h => h) (Or.inl ⟨by rfl, ?_⟩) ?_ ?_
                            rotate_left
                            · intro w'
                              go_simp
                              with_reducible rfl
                            rotate_left
                            · simp only [Act.put, List.setIfInBounds_toArray, List.set_cons_zero, List.set_cons_succ, i64_w, i32_w]
                              rfl
                            refine pure_ (i := 34) (N := some 123) (v := ?_) (a' := ?_) #[true, true, true, true, true, true, true, true, true, true, true, true, true, true, true, true, true, true, true, true, true, true, true, true, true, true, true, true, true, true, true, true, true, true, true, false, false, false, false, false, false, false, false, false, false, false, false, false, false, false, false] rfl rfl (any_of HT_.out (by kernel_rfl)) (fun _ _ _ h => h) (Or.inl ⟨by rfl, ?_⟩) ?_ ?_
                            rotate_left
                            · intro w'
                              go_simp
                              with_reducible rfl
                            rotate_left
                            · simp only [Act.put, List.setIfInBounds_toArray, List.set_cons_zero, List.set_cons_succ, i64_w, i32_w]
                              rfl
                            refine pure_ (i := 35) (N := some 124) (v := ?_) (a' := ?_) #[true, true, true, true, true, true, true, true, true, true, true, true, true, true, true, true, true, true, true, true, true, true, true, true, true, true, true, true, true, true, true, true, true, true, true, true, false, false, false, false, false, false, false, false, false, false, false, false, false, false, false] rfl rfl (any_of HT_.out (by kernel_rfl)) (fun _ _ _ h => h) (Or.inl ⟨by rfl, ?_⟩) ?_ ?_
                            rotate_left
                            · intro w'
                              go_simp
                              with_reducible rfl
                            rotate_left
                            · simp only [Act.put, List.setIfInBounds_toArray, List.set_cons_zero, List.set_cons_succ, i64_w, i32_w]
                              rfl
                            refine pure_ (i := 36) (N := some 125) (v := ?_) (a' := ?_) #[true, true, true, true, true, true, true, true, true, true, true, true, true, true, true, true, true, true, true, true, true, true, true, true, true, true, true, true, true, true, true, true, true, true, true, true, true, false, false, false, false, false, false, false, false, false, false, false, false, false, false] rfl rfl (any_of HT_.out (by kernel_rfl)) (fun _ _ _ h => h) (Or.inl ⟨by rfl, ?_⟩) ?_ ?_
                            rotate_left
                            · intro w'
                              go_simp
                              with_reducible rfl
                            rotate_left
                            · simp only [Act.put, List.setIfInBounds_toArray, List.set_cons_zero, List.set_cons_succ, i64_w, i32_w]
                              rfl
                            refine pure_ (i := 37) (N := some 126) (v := ?_) (a' := ?_) #[true, true, true, true, true, true, true, true, true, true, true, true, true, true, true, true, true, true, true, true, true, true, true, true, true, true, true, true, true, true, true, true, true, true, true, true, true, true, false, false, false, false, false, false, false, false, false, false, false, false, false] rfl rfl (any_of HT_.out (by kernel_rfl)) (fun _ _ _ h => h) (Or.inl ⟨by rfl, ?_⟩) ?_ ?_
                            rotate_left
                            · intro w'
                              go_simp
                              with_reducible rfl
                            rotate_left
                            · simp only [Act.put, List.setIfInBounds_toArray, List.set_cons_zero, List.set_cons_succ, i64_w, i32_w]
                              rfl
                            refine pure_ (i := 38) (N := some 127) (v := ?_) (a' := ?_) #[true, true, true, true, true, true, true, true, true, true, true, true, true, true, true, true, true, true, true, true, true, true, true, true, true, true, true, true, true, true, true, true, true, true, true, true, true, true, true, false, false, false, false, false, false, false, false, false, false, false, false] rfl rfl (any_of HT_.out (by kernel_rfl)) (fun _ _ _ h => h) (Or.inl ⟨by rfl, ?_⟩) ?_ ?_
                            rotate_left
                            · intro w'
                              go_simp
                              with_reducible rfl
                            rotate_left
                            · simp only [Act.put, List.setIfInBounds_toArray, List.set_cons_zero, List.set_cons_succ, i64_w, i32_w]
                              rfl
                            refine pure_ (i := 39) (N := some 128) (v := ?_) (a' := ?_) #[true, true, true, true, true, true, true, true, true, true, true, true, true, true, true, true, true, true, true, true, true, true, true, true, true, true, true, true, true, true, true, true, true, true, true, true, true, true, true, true, false, false, false, false, false, false, false, false, false, false, false] rfl rfl (any_of HT_.out (by kernel_rfl)) (fun _ _ _ h => h) (Or.inl ⟨by rfl, ?_⟩) ?_ ?_
                            rotate_left
                            · intro w'
                              go_simp
                              with_reducible rfl
                            rotate_left
                            · simp only [Act.put, List.setIfInBounds_toArray, List.set_cons_zero, List.set_cons_succ, i64_w, i32_w]
                              rfl
                            refine pure_ (i := 40) (N := some 129) (v := ?_) (a' := ?_) #[true, true, true, true, true, true, true, true, true, true, true, true, true, true, true, true, true, true, true, true, true, true, true, true, true, true, true, true, true, true, true, true, true, true, true, true, true, true, true, true, true, false, false, false, false, false, false, false, false, false, false] rfl rfl (any_of HT_.out (by kernel_rfl)) (fun _ _ _ h => h) (Or.inl ⟨by rfl, ?_⟩) ?_ ?_
                            rotate_left
                            · intro w'
                              go_simp
                              with_reducible rfl
                            rotate_left
                            · simp only [Act.put, List.setIfInBounds_toArray, List.set_cons_zero, List.set_cons_succ, i64_w, i32_w]
                              rfl
                            refine pure_ (i := 41) (N := some 130) (v := ?_) (a' := ?_) #[true, true, true, true, true, true, true, true, true, true, true, true, true, true, true, true, true, true, true, true, true, true, true, true, true, true, true, true, true, true, true, true, true, true, true, true, true, true, true, true, true, true, false, false, false, false, false, false, false, false, false] rfl rfl (any_of HT_.out (by kernel_rfl)) (fun _ _ _ h => h) (Or.inl ⟨by rfl, ?_⟩) ?_ ?_
                            rotate_left
                            · intro w'
                              go_simp
                              with_reducible rfl
                            rotate_left
                            · simp only [Act.put, List.setIfInBounds_toArray, List.set_cons_zero, List.set_cons_succ, i64_w, i32_w]
                              rfl
                            refine take_ (i := 42) (N := some 131) (v := ?_) (a' := ?_) #[true, true, true, true, true, true, true, true, true, true, true, true, true, true, true, true, true, true, true, true, true, true, true, true, true, true, true, true, true, true, true, true, true, true, true, true, true, true, true, true, true, true, true, false, false, false, false, false, false, false, false] rfl rfl (take_ofW HT_.out HW_.out (by kernel_rfl)) (fun _ _ _ h => h) (Or.inl ⟨by rfl, ?_⟩) hHeld ?_ ?_
                            rotate_left
                            · rintro w' ⟨s0, s1, s2, s3, s4, s5, s6, s7, s8, s9, s10, s11⟩
                              go_simp
                              with_reducible rfl
                            rotate_left
                            · simp only [Act.put, List.setIfInBounds_toArray, List.set_cons_zero, List.set_cons_succ, i64_w, i32_w]
                              rfl
                            refine take_ (i := 43) (N := some 132) (v := ?_) (a' := ?_) #[true, true, true, true, true, true, true, true, true, true, true, true, true, true, true, true, true, true, true, true, true, true, true, true, true, true, true, true, true, true, true, true, true, true, true, true, true, true, true, true, true, true, true, true, false, false, false, false, false, false, false] rfl rfl (take_ofW HT_.out HW_.out (by kernel_rfl)) (fun _ _ _ h => h) (Or.inl ⟨by rfl, ?_⟩) hHeld ?_ ?_
                            rotate_left
                            · rintro w' ⟨s0, s1, s2, s3, s4, s5, s6, s7, s8, s9, s10, s11⟩
                              go_simp
                              with_reducible rfl
                            rotate_left
                            · simp only [Act.put, List.setIfInBounds_toArray, List.set_cons_zero, List.set_cons_succ, i64_w, i32_w]
                              rfl
                            refine take_ (i := 45) (N := some 134) (v := ?_) (a' := ?_) #[true, true, true, true, true, true, true, true, true, true, true, true, true, true, true, true, true, true, true, true, true, true, true, true, true, true, true, true, true, true, true, true, true, true, true, true, true, true, true, true, true, true, true, true, false, true, false, false, false, false, false] rfl rfl (take_ofW HT_.out HW_.out (by kernel_rfl)) (fun _ _ _ h => h) (Or.inl ⟨by rfl, ?_⟩) hHeld ?_ ?_
                            rotate_left
                            · rintro w' ⟨s0, s1, s2, s3, s4, s5, s6, s7, s8, s9, s10, s11⟩
                              go_simp
                              with_reducible rfl
                            rotate_left
                            · simp only [Act.put, List.setIfInBounds_toArray, List.set_cons_zero, List.set_cons_succ, i64_w, i32_w]
                              rfl
                            refine take_ (i := 46) (N := some 135) (v := ?_) (a' := ?_) #[true, true, true, true, true, true, true, true, true, true, true, true, true, true, true, true, true, true, true, true, true, true, true, true, true, true, true, true, true, true, true, true, true, true, true, true, true, true, true, true, true, true, true, true, false, true, true, false, false, false, false] rfl rfl (take_ofW HT_.out HW_.out (by kernel_rfl)) (fun _ _ _ h => h) (Or.inl ⟨by rfl, ?_⟩) hHeld ?_ ?_
                            rotate_left
                            · rintro w' ⟨s0, s1, s2, s3, s4, s5, s6, s7, s8, s9, s10, s11⟩
                              go_simp
                              with_reducible rfl
                            rotate_left
                            · simp only [Act.put, List.setIfInBounds_toArray, List.set_cons_zero, List.set_cons_succ, i64_w, i32_w]
                              rfl
                            refine one_ (i := 44) (N := some 133) #[true, true, true, true, true, true, true, true, true, true, true, true, true, true, true, true, true, true, true, true, true, true, true, true, true, true, true, true, true, true, true, true, true, true, true, true, true, true, true, true, true, true, true, true, true, true, true, false, false, false, false] rfl rfl (one_of HT_.out (by kernel_rfl)) (by decide) (fun K hK => ?_)
                            refine goes_ Try.func47 (by kernel_rfl) rfl #[.agg #[.int .i64 a0_0, .slice A0_1 l0_1.length c0_1], .agg #[.int .i64 a1_0, .slice A1_1 l1_1.length c1_1]] (by rfl) rfl rfl (by (try simp only [List.map_toArray, List.map_cons, List.map_nil]); first | done | rfl | (simp only [List.length_drop, List.length_take]; rfl)) ?_
                            with_reducible refine (book_Same.calls a0_0 _ _ l0_1 a1_0 _ _ l1_1 t685 _ ?side1 ?side2 ?side3 ?side4 A50.out).mono ?_
                            (case side1 => repeat (first | exact (Kd.C_below HR0_1.out HB.out) | (with_reducible refine Kd.C_alloc ?_ _) | (with_reducible refine Kd.C_drewN ?_ _) | (with_reducible refine Kd.C_drew ?_)))
                            (case side2 => exact HC0_1.out)
                            (case side3 => repeat (first | exact (Kd.C_below HR1_1.out HB.out) | (with_reducible refine Kd.C_alloc ?_ _) | (with_reducible refine Kd.C_drewN ?_ _) | (with_reducible refine Kd.C_drew ?_)))
                            (case side4 => exact HC1_1.out)
                            rintro e w93 ⟨rfl, hb⟩
                            refine ⟨_, rfl, ?_⟩
                            have n0_ := Aside0.mk (Kd.R_below (by (with_reducible repeat (first | apply Kd.R_alloc | apply Kd.R_drewN | apply Kd.R_drew)); exact HO648.out) hb)
                            have n1_ := Aside0.mk (Kd.R_below (by (with_reducible repeat (first | apply Kd.R_alloc | apply Kd.R_drewN | apply Kd.R_drew)); exact HO652.out) hb)
                            have n2_ := Aside0.mk (Kd.S_below (by (with_reducible repeat (first | apply Kd.S_alloc | apply Kd.S_drewN | apply Kd.S_drew)); exact HO657.out) hb)
                            have n3_ := Aside0.mk (Kd.S_below (by (with_reducible repeat (first | apply Kd.S_alloc | apply Kd.S_drewN | apply Kd.S_drew)); exact HO663.out) hb)
                            have n4_ := Aside0.mk (Kd.S_below (by (with_reducible repeat (first | apply Kd.S_alloc | apply Kd.S_drewN | apply Kd.S_drew)); exact HO669.out) hb)
                            have n5_ := Aside0.mk (Kd.S_below (by (with_reducible repeat (first | apply Kd.S_alloc | apply Kd.S_drewN | apply Kd.S_drew)); exact HO675.out) hb)
                            have n6_ := Aside0.mk (blk_below (g := gb641) (o := .cells #[.int .i64 a0_0, .slice A0_1 l0_1.length c0_1] 49 (0, 0)) (by (with_reducible repeat (first | refine blk_drewN ?_ _ | refine blk_drew ?_ | refine blk_alloc ?_ _)); exact BK641.out) hb)
                            have n7_ := Aside0.mk (blk_below (g := gb642) (o := .cells #[.int .i64 a1_0, .slice A1_1 l1_1.length c1_1] 49 (0, 0)) (by (with_reducible repeat (first | refine blk_drewN ?_ _ | refine blk_drew ?_ | refine blk_alloc ?_ _)); exact BK642.out) hb)
                            have n8_ := Aside0.mk (blk_below (g := gb659) (o := .cells #[.int .i64 t654, .slice Ao62 t655.length co62] 49 (0, 0)) (by (with_reducible repeat (first | refine blk_drewN ?_ _ | refine blk_drew ?_ | refine blk_alloc ?_ _)); exact BK659.out) hb)
                            have n9_ := Aside0.mk (blk_below (g := gb665) (o := .cells #[.int .i64 t660, .slice Ao69 t661.length co69] 49 (0, 0)) (by (with_reducible repeat (first | refine blk_drewN ?_ _ | refine blk_drew ?_ | refine blk_alloc ?_ _)); exact BK665.out) hb)
                            have n10_ := Aside0.mk (blk_below (g := gb671) (o := .cells #[.int .i64 t666, .slice Ao77 t667.length co77] 49 (0, 0)) (by (with_reducible repeat (first | refine blk_drewN ?_ _ | refine blk_drew ?_ | refine blk_alloc ?_ _)); exact BK671.out) hb)
                            have n11_ := Aside0.mk (blk_below (g := gb677) (o := .cells #[.int .i64 t672, .slice Ao86 t673.length co86] 49 (0, 0)) (by (with_reducible repeat (first | refine blk_drewN ?_ _ | refine blk_drew ?_ | refine blk_alloc ?_ _)); exact BK677.out) hb)
                            have n12_ := Aside0.mk (below_step (by repeat (first | (with_reducible first | exact HB.out | apply below_alloc | apply pw_below_drewN | apply below_drew1 | refine below_set ?_ GE641.out | refine below_set ?_ GE642.out | refine below_set ?_ GE659.out | refine below_set ?_ GE665.out | refine below_set ?_ GE671.out | refine below_set ?_ GE677.out) | exact HB.out)) hb)
                            clear HO648
                            clear HO652
                            clear HO657
                            clear HO663
                            clear HO669
                            clear HO675
                            clear BK641
                            clear BK642
                            clear BK659
                            clear BK665
                            clear BK671
                            clear BK677
                            clear HB
                            have HO648 := n0_
                            have HO652 := n1_
                            have HO657 := n2_
                            have HO663 := n3_
                            have HO669 := n4_
                            have HO675 := n5_
                            have BK641 := n6_
                            have BK642 := n7_
                            have BK659 := n8_
                            have BK665 := n9_
                            have BK671 := n10_
                            have BK677 := n11_
                            have HB := n12_
                            clear n0_ n1_ n2_ n3_ n4_ n5_ n6_ n7_ n8_ n9_ n10_ n11_ n12_
                            (try clear hb)
                            (try clear hb2)
                            (try clear hk)
                            (try clear hi)
                            refine hK.out _ _ ⟨(blk_cell BK659.out 0).trans rfl, (blk_cell BK659.out 1).trans rfl, (blk_cell BK665.out 0).trans rfl, (blk_cell BK665.out 1).trans rfl, (blk_cell BK671.out 0).trans rfl, (blk_cell BK671.out 1).trans rfl, (blk_cell BK677.out 0).trans rfl, (blk_cell BK677.out 1).trans rfl, (blk_cell BK641.out 0).trans rfl, (blk_cell BK641.out 1).trans rfl, (blk_cell BK642.out 0).trans rfl, (blk_cell BK642.out 1).trans rfl⟩ (fun hHeld => ?_)
                            clear hK K
                            refine norm_ (a' := ?_) ?_ ?_
                            rotate_left
                            · show Act.put _ (some 133) _ = _
                              simp only [Act.put, List.setIfInBounds_toArray, List.set_cons_zero, List.set_cons_succ, i64_w, i32_w]
                              rfl
                            refine one_ (i := 47) (N := some 136) #[true, true, true, true, true, true, true, true, true, true, true, true, true, true, true, true, true, true, true, true, true, true, true, true, true, true, true, true, true, true, true, true, true, true, true, true, true, true, true, true, true, true, true, true, true, true, true, true, false, false, false] rfl rfl (one_of HT_.out (by kernel_rfl)) (by decide) (fun K hK => ?_)
                            refine goes_ Try.func46 (by kernel_rfl) rfl #[.agg #[.int .i64 a0_0, .slice A0_1 l0_1.length c0_1], .agg #[.int .i64 a1_0, .slice A1_1 l1_1.length c1_1]] (by rfl) rfl rfl (by (try simp only [List.map_toArray, List.map_cons, List.map_nil]); first | done | rfl | (simp only [List.length_drop, List.length_take]; rfl)) ?_
                            with_reducible refine (cuvetteref07_Same.calls kj7 a0_0 _ _ l0_1 a1_0 _ _ l1_1 t686 _ ?side1 ?side2 ?side3 ?side4 A51.out).mono ?_
                            (case side1 => repeat (first | exact (Kd.C_below HR0_1.out HB.out) | (with_reducible refine Kd.C_alloc ?_ _) | (with_reducible refine Kd.C_drewN ?_ _) | (with_reducible refine Kd.C_drew ?_)))
                            (case side2 => exact HC0_1.out)
                            (case side3 => repeat (first | exact (Kd.C_below HR1_1.out HB.out) | (with_reducible refine Kd.C_alloc ?_ _) | (with_reducible refine Kd.C_drewN ?_ _) | (with_reducible refine Kd.C_drew ?_)))
                            (case side4 => exact HC1_1.out)
                            rintro e w94 ⟨rfl, hb⟩
                            refine ⟨_, rfl, ?_⟩
                            have n0_ := Aside0.mk (Kd.R_below (by (with_reducible repeat (first | apply Kd.R_alloc | apply Kd.R_drewN | apply Kd.R_drew)); exact HO648.out) hb)
                            have n1_ := Aside0.mk (Kd.R_below (by (with_reducible repeat (first | apply Kd.R_alloc | apply Kd.R_drewN | apply Kd.R_drew)); exact HO652.out) hb)
                            have n2_ := Aside0.mk (Kd.S_below (by (with_reducible repeat (first | apply Kd.S_alloc | apply Kd.S_drewN | apply Kd.S_drew)); exact HO657.out) hb)
                            have n3_ := Aside0.mk (Kd.S_below (by (with_reducible repeat (first | apply Kd.S_alloc | apply Kd.S_drewN | apply Kd.S_drew)); exact HO663.out) hb)
                            have n4_ := Aside0.mk (Kd.S_below (by (with_reducible repeat (first | apply Kd.S_alloc | apply Kd.S_drewN | apply Kd.S_drew)); exact HO669.out) hb)
                            have n5_ := Aside0.mk (Kd.S_below (by (with_reducible repeat (first | apply Kd.S_alloc | apply Kd.S_drewN | apply Kd.S_drew)); exact HO675.out) hb)
                            have n6_ := Aside0.mk (blk_below (g := gb641) (o := .cells #[.int .i64 a0_0, .slice A0_1 l0_1.length c0_1] 49 (0, 0)) (by (with_reducible repeat (first | refine blk_drewN ?_ _ | refine blk_drew ?_ | refine blk_alloc ?_ _)); exact BK641.out) hb)
                            have n7_ := Aside0.mk (blk_below (g := gb642) (o := .cells #[.int .i64 a1_0, .slice A1_1 l1_1.length c1_1] 49 (0, 0)) (by (with_reducible repeat (first | refine blk_drewN ?_ _ | refine blk_drew ?_ | refine blk_alloc ?_ _)); exact BK642.out) hb)
                            have n8_ := Aside0.mk (blk_below (g := gb659) (o := .cells #[.int .i64 t654, .slice Ao62 t655.length co62] 49 (0, 0)) (by (with_reducible repeat (first | refine blk_drewN ?_ _ | refine blk_drew ?_ | refine blk_alloc ?_ _)); exact BK659.out) hb)
                            have n9_ := Aside0.mk (blk_below (g := gb665) (o := .cells #[.int .i64 t660, .slice Ao69 t661.length co69] 49 (0, 0)) (by (with_reducible repeat (first | refine blk_drewN ?_ _ | refine blk_drew ?_ | refine blk_alloc ?_ _)); exact BK665.out) hb)
                            have n10_ := Aside0.mk (blk_below (g := gb671) (o := .cells #[.int .i64 t666, .slice Ao77 t667.length co77] 49 (0, 0)) (by (with_reducible repeat (first | refine blk_drewN ?_ _ | refine blk_drew ?_ | refine blk_alloc ?_ _)); exact BK671.out) hb)
                            have n11_ := Aside0.mk (blk_below (g := gb677) (o := .cells #[.int .i64 t672, .slice Ao86 t673.length co86] 49 (0, 0)) (by (with_reducible repeat (first | refine blk_drewN ?_ _ | refine blk_drew ?_ | refine blk_alloc ?_ _)); exact BK677.out) hb)
                            have n12_ := Aside0.mk (below_step (by repeat (first | (with_reducible first | exact HB.out | apply below_alloc | apply pw_below_drewN | apply below_drew1 | refine below_set ?_ GE641.out | refine below_set ?_ GE642.out | refine below_set ?_ GE659.out | refine below_set ?_ GE665.out | refine below_set ?_ GE671.out | refine below_set ?_ GE677.out) | exact HB.out)) hb)
                            clear HO648
                            clear HO652
                            clear HO657
                            clear HO663
                            clear HO669
                            clear HO675
                            clear BK641
                            clear BK642
                            clear BK659
                            clear BK665
                            clear BK671
                            clear BK677
                            clear HB
                            have HO648 := n0_
                            have HO652 := n1_
                            have HO657 := n2_
                            have HO663 := n3_
                            have HO669 := n4_
                            have HO675 := n5_
                            have BK641 := n6_
                            have BK642 := n7_
                            have BK659 := n8_
                            have BK665 := n9_
                            have BK671 := n10_
                            have BK677 := n11_
                            have HB := n12_
                            clear n0_ n1_ n2_ n3_ n4_ n5_ n6_ n7_ n8_ n9_ n10_ n11_ n12_
                            (try clear hb)
                            (try clear hb2)
                            (try clear hk)
                            (try clear hi)
                            refine hK.out _ _ ⟨(blk_cell BK659.out 0).trans rfl, (blk_cell BK659.out 1).trans rfl, (blk_cell BK665.out 0).trans rfl, (blk_cell BK665.out 1).trans rfl, (blk_cell BK671.out 0).trans rfl, (blk_cell BK671.out 1).trans rfl, (blk_cell BK677.out 0).trans rfl, (blk_cell BK677.out 1).trans rfl, (blk_cell BK641.out 0).trans rfl, (blk_cell BK641.out 1).trans rfl, (blk_cell BK642.out 0).trans rfl, (blk_cell BK642.out 1).trans rfl⟩ (fun hHeld => ?_)
                            clear hK K
                            refine norm_ (a' := ?_) ?_ ?_
                            rotate_left
                            · show Act.put _ (some 136) _ = _
                              simp only [Act.put, List.setIfInBounds_toArray, List.set_cons_zero, List.set_cons_succ, i64_w, i32_w]
                              rfl
                            refine pure_ (i := 48) (N := some 137) (v := ?_) (a' := ?_) #[true, true, true, true, true, true, true, true, true, true, true, true, true, true, true, true, true, true, true, true, true, true, true, true, true, true, true, true, true, true, true, true, true, true, true, true, true, true, true, true, true, true, true, true, true, true, true, true, true, false, false] rfl rfl (any_of HT_.out (by kernel_rfl)) (fun _ _ _ h => h) (Or.inl ⟨by rfl, ?_⟩) ?_ ?_
                            rotate_left
                            · intro w'
                              go_simp
                              with_reducible rfl
                            rotate_left
                            · simp only [Act.put, List.setIfInBounds_toArray, List.set_cons_zero, List.set_cons_succ, i64_w, i32_w]
                              rfl
                            refine pure_ (i := 49) (N := some 138) (v := ?_) (a' := ?_) #[true, true, true, true, true, true, true, true, true, true, true, true, true, true, true, true, true, true, true, true, true, true, true, true, true, true, true, true, true, true, true, true, true, true, true, true, true, true, true, true, true, true, true, true, true, true, true, true, true, true, false] rfl rfl (any_of HT_.out (by kernel_rfl)) (fun _ _ _ h => h) (Or.inl ⟨by rfl, ?_⟩) ?_ ?_
                            rotate_left
                            · intro w'
                              go_simp
                              with_reducible rfl
                            rotate_left
                            · simp only [Act.put, List.setIfInBounds_toArray, List.set_cons_zero, List.set_cons_succ, i64_w, i32_w]
                              rfl
                            refine pure_ (i := 50) (N := some 10) (v := ?_) (a' := ?_) #[true, true, true, true, true, true, true, true, true, true, true, true, true, true, true, true, true, true, true, true, true, true, true, true, true, true, true, true, true, true, true, true, true, true, true, true, true, true, true, true, true, true, true, true, true, true, true, true, true, true, true] rfl rfl (any_of HT_.out (by kernel_rfl)) (fun _ _ _ h => h) (Or.inl ⟨by rfl, ?_⟩) ?_ ?_
                            rotate_left
                            · intro w'
                              go_simp
                              with_reducible rfl
                            rotate_left
                            · simp only [Act.put, List.setIfInBounds_toArray, List.set_cons_zero, List.set_cons_succ, i64_w, i32_w]
                              rfl
                            refine done_ (done_of HT_.out (by kernel_rfl)) ?_
                            try go_wp2
                            go_ret
                            exact ⟨by first | rfl | (simp [errW_none, errW_some] <;> rfl) | (simp [*, errW_none, errW_some] <;> rfl), by repeat (first | (with_reducible first | exact HB.out | apply below_alloc | apply pw_below_drewN | apply below_drew1 | refine below_set ?_ GE641.out | refine below_set ?_ GE642.out | refine below_set ?_ GE659.out | refine below_set ?_ GE665.out | refine below_set ?_ GE671.out | refine below_set ?_ GE677.out) | exact HB.out)⟩
                          · rw [if_neg c49] at H
                            have c49b0 : (t679 == t681) = false := beq_eq_false_iff_ne.mpr c49
                            have c49b1 : (t679 != t681) = true := bne_iff_ne.mpr c49
                            exact absurd (Option.some.inj H) (by rw [hT_]; decide)
                        · rw [if_neg c48] at H
                          have c48b0 : (t678 == t680) = false := beq_eq_false_iff_ne.mpr c48
                          have c48b1 : (t678 != t680) = true := bne_iff_ne.mpr c48
                          exact absurd (Option.some.inj H) (by rw [hT_]; decide)
                      · rw [if_neg c47] at H
                        have c47b0 : (t670 == t676) = false := beq_eq_false_iff_ne.mpr c47
                        have c47b1 : (t670 != t676) = true := bne_iff_ne.mpr c47
                        exact absurd (Option.some.inj H) (by rw [hT_]; decide)
                    · replace c46 := Bool.eq_false_iff.mpr c46
                      subst c46
                      have H1 : (some false) = some r := by rw [if_neg (show ¬ (false = true) by decide)] at H; exact H
                      clear H
                      have H := H1
                      clear H1
                      exact absurd (Option.some.inj H) (by rw [hT_]; decide)
                  · rw [if_neg c44] at H
                    have c44b0 : (t658 == t664) = false := beq_eq_false_iff_ne.mpr c44
                    have c44b1 : (t658 != t664) = true := bne_iff_ne.mpr c44
                    exact absurd (Option.some.inj H) (by rw [hT_]; decide)
                · replace c43 := Bool.eq_false_iff.mpr c43
                  subst c43
                  have H1 : (some false) = some r := by rw [if_neg (show ¬ (false = true) by decide)] at H; exact H
                  clear H
                  have H := H1
                  clear H1
                  exact absurd (Option.some.inj H) (by rw [hT_]; decide)
              · rw [if_neg c41] at H
                have c41b0 : (t649 == t653) = false := beq_eq_false_iff_ne.mpr c41
                have c41b1 : (t649 != t653) = true := bne_iff_ne.mpr c41
                exact absurd (Option.some.inj H) (by rw [hT_]; decide)
            · replace c40 := Bool.eq_false_iff.mpr c40
              subst c40
              have H1 : (some false) = some r := by rw [if_neg (show ¬ (false = true) by decide)] at H; exact H
              clear H
              have H := H1
              clear H1
              exact absurd (Option.some.inj H) (by rw [hT_]; decide)
          · exact absurd rfl c38
  · replace c7 := Bool.eq_false_iff.mpr c7
    subst c7
    have H1 : (some false) = some r := by rw [if_neg (show ¬ (false = true) by decide)] at H; exact H
    clear H
    have H := H1
    clear H1
    exact absurd (Option.some.inj H) (by rw [hT_]; decide)

end Go.Proofs.Ytkjibgfgbfacdaa.P
end
/-! part: PPack -/
section
set_option linter.unusedVariables false
set_option linter.unusedSimpArgs false
namespace Go.Proofs.Ytkjibgfgbfacdaa.P
open Go.RowKit Go.Proofs.YtkjibgfgbfacdaaW.PrintWords Go.Proofs.YtkjibgfgbfacdaaW.PrintLast Go.Proofs.YtkjibgfgbfacdaaW.PrintMore
set_option linter.unusedVariables false

/-! ### octets -/
/-- The octets of a number, the lower ones first. -/
def enc : Nat → Int → List Int
  | 0, _ => []
  | w + 1, n => n % 256 :: enc w (n / 256)
/-- What octets tell. -/
def val : List Int → Int
  | [] => 0
  | c :: t => c + 256 * val t
theorem enc_length (w : Nat) : ∀ n : Int, (enc w n).length = w := by
  induction w with
  | zero => intro n; rfl
  | succ w ih => intro n; simp [enc, ih]
theorem pow8 (i : Nat) : (2 : Int) ^ (8 * (i + 1)) = 256 * 2 ^ (8 * i) := by
  rw [show 8 * (i + 1) = 8 * i + 8 by omega, Int.pow_add]
  omega
theorem pow8_pos (i : Nat) : (0 : Int) < 2 ^ (8 * i) := Int.pow_pos (by decide)
theorem enc_snoc (i : Nat) : ∀ n : Int, enc (i + 1) n = enc i n ++ [(n / 2 ^ (8 * i)) % 256] := by
  induction i with
  | zero => intro n; simp [enc]
  | succ i ih =>
    intro n
    rw [enc, ih (n / 256), pow8, ← Int.ediv_ediv_of_nonneg (by decide)]
    rfl
theorem enc_mod (w : Nat) : ∀ n m : Int, n % 2 ^ (8 * w) = m % 2 ^ (8 * w) → enc w n = enc w m := by
  induction w with
  | zero => intro n m _; rfl
  | succ w ih =>
    intro n m h
    rw [pow8] at h
    have hp := pow8_pos w
    have h1 : n % 256 = m % 256 := by
      have a := Int.emod_emod_of_dvd n (Int.dvd_mul_right 256 (2 ^ (8 * w)))
      have b := Int.emod_emod_of_dvd m (Int.dvd_mul_right 256 (2 ^ (8 * w)))
      rw [← a, ← b, h]
    have h2 : n / 256 % 2 ^ (8 * w) = m / 256 % 2 ^ (8 * w) := by
      have hd : (256 * 2 ^ (8 * w) : Int) ∣ n - m := Int.dvd_of_emod_eq_zero (Int.emod_eq_emod_iff_emod_sub_eq_zero.1 h)
      obtain ⟨q, hq⟩ := hd
      have : n / 256 = m / 256 + 2 ^ (8 * w) * q := by
        have e1 : n = m + 256 * (2 ^ (8 * w) * q) := by rw [← Int.mul_assoc]; omega
        rw [e1, Int.add_mul_ediv_left _ _ (by decide)]
      rw [this, Int.add_mul_emod_self_left]
    simp only [enc]
    rw [h1, ih _ _ h2]
theorem val_bound : ∀ (l : List Int), (∀ x ∈ l, 0 ≤ x ∧ x < 256) → 0 ≤ val l ∧ val l < 2 ^ (8 * l.length) := by
  intro l
  induction l with
  | nil => intro _; simp [val]
  | cons c t ih =>
    intro h
    obtain ⟨h1, h2⟩ := ih fun x hx => h x (List.mem_cons_of_mem _ hx)
    obtain ⟨h3, h4⟩ := h c (by simp)
    rw [val, List.length_cons, pow8]
    omega
theorem val_snoc : ∀ (l : List Int) (c : Int), val (l ++ [c]) = val l + c * 2 ^ (8 * l.length) := by
  intro l
  induction l with
  | nil => intro c; simp [val]
  | cons a t ih =>
    intro c
    rw [List.cons_append, val, ih, val, List.length_cons, pow8]
    rw [Int.mul_add, ← Int.add_assoc]
    congr 1
    rw [Int.mul_left_comm]

/-! ### widths -/
/-- A number has room in w octets. -/
def fitsB (w : Nat) (n : Int) : Bool := decide (-(2 ^ (8 * w - 1)) ≤ n) && decide (n < 2 ^ (8 * w - 1))
/-- The number of w octets: the highest bit is the sign. -/
def sgn (w : Nat) (v : Int) : Int := if v < 2 ^ (8 * w - 1) then v else v - 2 ^ (8 * w)
def dec (w : Nat) (l : List Int) : Int := sgn w (val l)
theorem wides {w : Nat} (h : 1 ≤ w) (h' : w ≤ 8) : w = 1 ∨ w = 2 ∨ w = 3 ∨ w = 4 ∨ w = 5 ∨ w = 6 ∨ w = 7 ∨ w = 8 := by omega
theorem shl64 (n : Int) (m : Nat) (h : m ≤ 64) : shl .i64 n m = wrap64 (n * 2 ^ m) := by
  unfold shl
  rw [Int.toNat_natCast, Nat.min_eq_left (by exact h)]
  exact i64_w _
theorem shr64 (n : Int) (m : Nat) (h : m ≤ 64) : shr .i64 n m = n / 2 ^ m := by
  unfold shr
  rw [Int.toNat_natCast, Nat.min_eq_left (by exact h)]
theorem fits_iff (w : Nat) (h : 1 ≤ w) (h' : w ≤ 8) (n : Int) : (shr .i64 (shl .i64 n (64 - 8 * w : Nat)) (64 - 8 * w : Nat) = n) ↔ fitsB w n = true := by
  rw [shr64 _ _ (by omega), shl64 _ _ (by omega)]
  unfold fitsB wrap64
  rcases wides h h' with rfl | rfl | rfl | rfl | rfl | rfl | rfl | rfl <;> simp only [Bool.and_eq_true, decide_eq_true_eq] <;> simp only [Nat.reduceMul, Nat.reduceSub, Int.reducePow, Int.reduceNeg] <;> omega

theorem sgn_fits (w : Nat) (h : 1 ≤ w) (h' : w ≤ 8) (v : Int) (h0 : 0 ≤ v) (h1 : v < 2 ^ (8 * w)) : fitsB w (sgn w v) = true ∧ sgn w v % 2 ^ (8 * w) = v := by
  unfold fitsB sgn
  revert h1
  rcases wides h h' with rfl | rfl | rfl | rfl | rfl | rfl | rfl | rfl <;> simp only [Nat.reduceMul, Nat.reduceSub, Int.reducePow, Int.reduceNeg, Bool.and_eq_true, decide_eq_true_eq] <;> intro h1 <;> split <;> omega
theorem dec_fits (w : Nat) (h : 1 ≤ w) (h' : w ≤ 8) (l : List Int) (hl : l.length = w) (hb : ∀ x ∈ l, 0 ≤ x ∧ x < 256) : fitsB w (dec w l) = true := by
  have hv := val_bound l hb
  rw [hl] at hv
  exact (sgn_fits w h h' (val l) hv.1 hv.2).1
/-- The next octet comes above those that are there. -/
theorem or_join (X c m : Nat) (hX : X < 2 ^ m) (hm : m ≤ 64) (hY : 2 ^ m * c < 2 ^ 64) : Go.bits .or .i64 (wrap64 X) (shl .i64 c m) = wrap64 ((2 ^ m * c + X : Nat) : Int) := by
  have hX64 : X < 2 ^ 64 := Nat.lt_of_lt_of_le hX (Nat.pow_le_pow_right (by decide) hm)
  have ew : ∀ n : Nat, n < 2 ^ 64 → (BitVec.ofInt 64 (wrap64 n)).toNat = n := by
    intro n hn
    rw [BitVec.toNat_ofInt]
    unfold wrap64
    omega
  rw [shl64 _ _ hm]
  have e2 : ((c : Int) * 2 ^ m) = ((2 ^ m * c : Nat) : Int) := by
    rw [Nat.mul_comm]
    simp
  rw [e2]
  show IntKind.i64.wrap (((BitVec.ofInt 64 (wrap64 X) ||| BitVec.ofInt 64 (wrap64 ((2 ^ m * c : Nat) : Int))).toNat : Nat) : Int) = _
  rw [BitVec.toNat_or, ew X hX64, ew _ hY, Nat.or_comm, ← Nat.two_pow_add_eq_or_of_lt hX c]
  exact i64_w _
end Go.Proofs.Ytkjibgfgbfacdaa.P
end
/-! part: PPackL -/
section
set_option linter.unusedVariables false
set_option linter.unusedSimpArgs false
namespace Go.Proofs.Ytkjibgfgbfacdaa.P
open Go.RowKit Go.Proofs.YtkjibgfgbfacdaaW.PrintWords Go.Proofs.YtkjibgfgbfacdaaW.PrintLast Go.Proofs.YtkjibgfgbfacdaaW.PrintMore
set_option linter.unusedVariables false

def putP (b : List Int) (w : Int) (l : List Int) : List Int × Int :=
  if 1 ≤ w ∧ w ≤ 8 then (if l.all (fitsB w.toNat) = true then (if (l.length : Int) > 65536 ∨ (b.length : Int) > 65536 - w * (l.length : Int) then ([], 3) else (b ++ l.flatMap (enc w.toNat), 0)) else ([], 4)) else ([], 1)
theorem wide_eq (w : Int) : pack_wide.f w = some (decide (1 ≤ w ∧ w ≤ 8)) := by
  unfold pack_wide.f
  by_cases h : w ≥ 1
  · rw [if_pos h]
    congr 1
    by_cases h' : w ≤ 8
    · rw [decide_eq_true h', decide_eq_true ⟨h, h'⟩]
    · rw [decide_eq_false h', decide_eq_false (fun z => h' z.2)]
  · rw [if_neg h, decide_eq_false (fun z => h z.1)]
theorem clone_eq (b : List Int) (h : b.length < 140737488355328) : bytes_Clone.f b = some b := by
  unfold bytes_Clone.f
  simp only [Option.bind_some]
  rw [if_pos (by simpa using h)]
  rfl
theorem put_l2 (w : Nat) (h8 : w ≤ 8) (base : List Int) (n : Int) (l : List Int) (L j : Int) (v : List Int × Int) (hb : base.length + w ≤ 65536)
    (hv : Ev (fun k => pack_Put.l1 k w (base ++ enc w n) l L (wrap64 (j + 1))) v) (d : Nat) : ∀ i : Nat, i + d = w → Ev (fun k => pack_Put.l2 k w (base ++ enc i n) n l L j w i) v := by
  induction d with
  | zero =>
    intro i hi
    obtain rfl : i = w := by omega
    refine Ev.step (fun k => ?_) hv
    simp only [pack_Put.l2]
    rw [if_neg (by omega)]
  | succ d ih =>
    intro i hi
    refine Ev.step (fun k => ?_) (ih (i + 1) (by omega))
    simp only [pack_Put.l2]
    have e1 : wrap64 (8 * (i : Int)) = ((8 * i : Nat) : Int) := by unfold wrap64; omega
    have e2 : wrap64 ((i : Int) + 1) = ((i + 1 : Nat) : Int) := by unfold wrap64; omega
    rw [if_pos (by omega), if_pos (by rw [e1]; omega), if_pos (by rw [List.length_append, enc_length]; omega), e1, e2, shr64 _ _ (by omega), enc_snoc, List.append_assoc]
theorem put_l1 (w : Nat) (h8 : w ≤ 8) (l : List Int) (hl : l.length ≤ 65536) (d : Nat) : ∀ (j : Nat) (acc : List Int), j + d = l.length → acc.length + w * d ≤ 65536 →
    Ev (fun k => pack_Put.l1 k w acc l (l.length : Int) j) (acc ++ (l.drop j).flatMap (enc w), 0) := by
  induction d with
  | zero =>
    intro j acc hj hb
    refine Ev.step (g' := fun _ => _) (fun k => ?_) (Ev.const _)
    simp only [pack_Put.l1]
    rw [if_neg (by omega), List.drop_eq_nil_of_le (by omega)]
    simp
  | succ d ih =>
    intro j acc hj hb
    rw [Nat.mul_succ] at hb
    have e2 : wrap64 ((j : Int) + 1) = ((j + 1 : Nat) : Int) := by unfold wrap64; omega
    have hr := rdO 0 l j (by omega) (by omega)
    rw [Int.toNat_natCast, show ((j : Int) + 1).toNat = j + 1 by omega] at hr
    have hg := put_l2 w h8 acc (l.getD j 0) l (l.length : Int) j _ (by omega) (by rw [e2]; exact ih (j + 1) (acc ++ enc w (l.getD j 0)) (by omega) (by rw [List.length_append, enc_length]; omega)) w 0 (by omega)
    rw [hr, List.flatMap_cons, ← List.append_assoc]
    refine Ev.step (fun k => ?_) hg
    simp only [pack_Put.l1]
    rw [if_pos (by omega), if_pos (by omega), if_pos (by omega)]
    simp [enc]
    rfl
theorem put_l0 (b : List Int) (w : Nat) (h1 : 1 ≤ w) (h8 : w ≤ 8) (l : List Int) (hm : l.length ≤ 9223372036854775807) (R : List Int × Int)
    (hR : Ev (fun k => if (l.length : Int) > 65536 then (pack_Put.j1 k b w l true) else (pack_Put.j1 k b w l (decide ((b.length : Int) > (wrap64 (65536 - (wrap64 (w * (l.length : Int))))))))) R) (d : Nat) :
    ∀ j : Nat, j + d = l.length → Ev (fun k => pack_Put.l0 k b w l ((64 - 8 * w : Nat) : Int) l (l.length : Int) j) (if (l.drop j).all (fitsB w) = true then R else ([], 4)) := by
  induction d with
  | zero =>
    intro j hj
    rw [List.drop_eq_nil_of_le (by omega)]
    refine Ev.step (fun k => ?_) hR
    simp only [pack_Put.l0]
    rw [if_neg (by omega)]
  | succ d ih =>
    intro j hj
    have e2 : wrap64 ((j : Int) + 1) = ((j + 1 : Nat) : Int) := by unfold wrap64; omega
    have hr := rdO 0 l j (by omega) (by omega)
    rw [Int.toNat_natCast, show ((j : Int) + 1).toNat = j + 1 by omega] at hr
    rw [hr, List.all_cons]
    have er : rd l (j : Int) = l.getD j 0 := rfl
    cases hq : fitsB w (l.getD j 0) with
    | true =>
      rw [Bool.true_and]
      refine Ev.step (fun k => ?_) (ih (j + 1) (by omega))
      simp only [pack_Put.l0]
      rw [if_pos (by omega), if_pos (by omega), if_pos (by omega), if_pos (by omega), er, if_pos ((fits_iff w h1 h8 _).2 hq), e2]
    | false =>
      rw [Bool.false_and]
      refine Ev.step (g' := fun _ => _) (fun k => ?_) (Ev.const _)
      simp only [pack_Put.l0]
      rw [if_pos (by omega), if_pos (by omega), if_pos (by omega), if_pos (by omega), er, if_neg (fun z => by rw [(fits_iff w h1 h8 _).1 z] at hq; cases hq)]
      rfl
theorem packPut_ev (b : List Int) (w : Int) (l : List Int) (hm : l.length ≤ 9223372036854775807) : Ev (fun k => pack_Put.f k b w l) (putP b w l) := by
  unfold pack_Put.f putP
  rw [wide_eq]
  simp only [Option.bind_some]
  by_cases h : 1 ≤ w ∧ w ≤ 8
  · rw [if_pos h, decide_eq_true h]
    simp only [if_true]
    obtain ⟨w, rfl⟩ := Int.eq_ofNat_of_zero_le (show 0 ≤ w by omega)
    rw [Int.toNat_natCast]
    have e1 : wrap64 (64 - wrap64 (8 * (w : Int))) = ((64 - 8 * w : Nat) : Int) := by unfold wrap64; omega
    rw [e1]
    have := put_l0 b w (by omega) (by omega) l hm (if (l.length : Int) > 65536 ∨ (b.length : Int) > 65536 - (w : Int) * (l.length : Int) then ([], 3) else (b ++ l.flatMap (enc w), 0)) ?_ l.length 0 (by omega)
    · simpa using this
    · by_cases hl : (l.length : Int) > 65536
      · rw [if_pos (.inl hl)]
        simp only [if_pos hl]
        refine Ev.step (g' := fun _ => _) (fun k => ?_) (Ev.const _)
        simp only [pack_Put.j1, if_true]
      · simp only [if_neg hl]
        have hw : (w : Int) * (l.length : Int) ≤ 8 * 65536 := Int.mul_le_mul (by omega) (by omega) (by omega) (by decide)
        have hw0 : 0 ≤ (w : Int) * (l.length : Int) := Int.mul_nonneg (by omega) (by omega)
        have e2 : wrap64 (65536 - wrap64 ((w : Int) * (l.length : Int))) = 65536 - (w : Int) * (l.length : Int) := by
          generalize (w : Int) * (l.length : Int) = z at *
          unfold wrap64
          omega
        rw [e2]
        by_cases hb : (b.length : Int) > 65536 - (w : Int) * (l.length : Int)
        · rw [if_pos (.inr hb), decide_eq_true hb]
          refine Ev.step (g' := fun _ => _) (fun k => ?_) (Ev.const _)
          simp only [pack_Put.j1, if_true]
        · rw [if_neg (fun z => z.elim hl hb), decide_eq_false hb]
          have hb' : b.length + w * l.length ≤ 65536 := by
            have : ((w * l.length : Nat) : Int) = (w : Int) * (l.length : Int) := by simp
            omega
          have h1 := put_l1 w (by omega) l (by omega) l.length 0 b (by omega) hb'
          rw [List.drop_zero] at h1
          refine Ev.step (fun k => ?_) h1
          simp only [pack_Put.j1]
          rw [if_neg (by decide), clone_eq b (by omega)]
          rfl
  · rw [if_neg h, decide_eq_false h]
    simp only [Bool.false_eq_true, if_false]
    exact Ev.const _

/-! ### pack.Take -/
def decs (w : Nat) : Nat → List Int → List Int
  | 0, _ => []
  | n + 1, l => dec w (l.take w) :: decs w n (l.drop w)
def takeP (b : List Int) (w n : Int) : List Int × List Int × Int :=
  if 1 ≤ w ∧ w ≤ 8 ∧ 0 ≤ n ∧ n ≤ 65536 then (if (b.length : Int) < n * w then ([], [], 2) else (decs w.toNat n.toNat b, b.drop (n.toNat * w.toNat), 0)) else ([], [], 1)
theorem shr_sgn (w : Nat) (h : 1 ≤ w) (h' : w ≤ 8) (v : Int) (h0 : 0 ≤ v) (h1 : v < 2 ^ (8 * w)) : shr .i64 (wrap64 (2 ^ (64 - 8 * w) * v)) ((64 - 8 * w : Nat) : Int) = sgn w v := by
  rw [shr64 _ _ (by omega)]
  unfold sgn wrap64
  revert h1
  rcases wides h h' with rfl | rfl | rfl | rfl | rfl | rfl | rfl | rfl <;> simp only [Nat.reduceMul, Nat.reduceSub, Int.reducePow] <;> intro h1 <;> split <;> omega
theorem take_l1 (w : Nat) (h1 : 1 ≤ w) (h8 : w ≤ 8) (b x6 : List Int) (x35 x36 : Int) (x40 : List Int) (h40 : x40.length = w) (hb : ∀ x ∈ x40, 0 ≤ x ∧ x < 256) (h6 : x6.length < 17592186044416) (hbw : w ≤ b.length) (V : List Int × List Int × Int)
    (hV : Ev (fun k => pack_Take.l0 k (b.drop w) w (x6 ++ [dec w x40]) ((64 - 8 * w : Nat) : Int) x35 (wrap64 (x36 + 1))) V) (d : Nat) :
    ∀ i : Nat, i + d = w → Ev (fun k => pack_Take.l1 k b w x6 ((64 - 8 * w : Nat) : Int) (wrap64 (2 ^ (64 - 8 * w) * val (x40.take i))) x35 x36 x40 (x40.length : Int) i) V := by
  induction d with
  | zero =>
    intro i hi
    obtain rfl : i = w := by omega
    have hv := val_bound x40 hb
    rw [h40] at hv
    refine Ev.step (fun k => ?_) hV
    simp only [pack_Take.l1]
    rw [if_neg (by omega), if_pos (by omega), if_pos h6, if_pos (by omega), if_pos (by omega), List.take_of_length_le (by omega), shr_sgn i h1 h8 _ hv.1 hv.2, Int.toNat_natCast]
    rfl
  | succ d ih =>
    intro i hi
    have e2 : wrap64 ((i : Int) + 1) = ((i + 1 : Nat) : Int) := by unfold wrap64; omega
    have e8 : wrap64 (8 * (i : Int)) = ((8 * i : Nat) : Int) := by unfold wrap64; omega
    have em : wrap64 (((64 - 8 * w : Nat) : Int) + ((8 * i : Nat) : Int)) = ((64 - 8 * w + 8 * i : Nat) : Int) := by unfold wrap64; omega
    have hi' : i < x40.length := by omega
    have hc := hb (x40[i]) (List.getElem_mem hi')
    have er : rd x40 (i : Int) = x40[i] := by simp [rd, List.getD_eq_getElem?_getD, hi']
    obtain ⟨c, hc'⟩ := Int.eq_ofNat_of_zero_le hc.1
    have hbt : ∀ x ∈ x40.take i, 0 ≤ x ∧ x < 256 := fun x hx => hb x (List.mem_of_mem_take hx)
    have hv := val_bound (x40.take i) hbt
    rw [List.length_take, Nat.min_eq_left (by omega)] at hv
    obtain ⟨v, hv'⟩ := Int.eq_ofNat_of_zero_le hv.1
    have hvn : v < 2 ^ (8 * i) := by rw [hv'] at hv; exact_mod_cast hv.2
    have hval : val (x40.take (i + 1)) = (v : Int) + (c : Int) * 2 ^ (8 * i) := by
      rw [List.take_succ_eq_append_getElem hi', val_snoc, List.length_take, Nat.min_eq_left (by omega), hv', hc']
    refine Ev.step (fun k => ?_) (ih (i + 1) (by omega))
    simp only [pack_Take.l1]
    have ecw : wrap64 (rd x40 (i : Int)) = (c : Int) := by rw [er, hc']; unfold wrap64; omega
    rw [if_pos (by omega), if_pos (by omega), if_pos (by omega), if_pos (by rw [e8, em]; omega), e8, em, ecw, e2, hv', hval]
    have hp : (2 : Nat) ^ (64 - 8 * w + 8 * i) = 2 ^ (64 - 8 * w) * 2 ^ (8 * i) := Nat.pow_add _ _ _
    have hX : 2 ^ (64 - 8 * w) * v < 2 ^ (64 - 8 * w + 8 * i) := by
      rw [hp]
      exact Nat.mul_lt_mul_of_pos_left hvn (Nat.two_pow_pos _)
    have hY : 2 ^ (64 - 8 * w + 8 * i) * c < 2 ^ 64 := by
      have h9 : 2 ^ (64 - 8 * w + 8 * i) * 256 ≤ 2 ^ 64 := by
        rw [show (256 : Nat) = 2 ^ 8 by decide, ← Nat.pow_add]
        exact Nat.pow_le_pow_right (by decide) (by omega)
      refine Nat.lt_of_lt_of_le (Nat.mul_lt_mul_of_pos_left (show c < 256 by omega) (Nat.two_pow_pos _)) h9
    have hj := or_join (2 ^ (64 - 8 * w) * v) c (64 - 8 * w + 8 * i) hX (by omega) hY
    have e3 : ((2 ^ (64 - 8 * w) * v : Nat) : Int) = 2 ^ (64 - 8 * w) * (v : Int) := by simp
    rw [e3] at hj
    rw [hj]
    have e4 : ((2 ^ (64 - 8 * w + 8 * i) * c + 2 ^ (64 - 8 * w) * v : Nat) : Int) = 2 ^ (64 - 8 * w) * ((v : Int) + (c : Int) * 2 ^ (8 * i)) := by
      rw [hp]
      simp only [Int.natCast_add, Int.natCast_mul, Int.natCast_pow, Int.mul_add]
      rw [Int.add_comm, Int.mul_assoc, Int.mul_comm (c : Int)]
      rfl
    rw [e4]
theorem take_l0 (w : Nat) (h1 : 1 ≤ w) (h8 : w ≤ 8) (N : Nat) (hN : N ≤ 65536) (d : Nat) : ∀ (j : Nat) (b x6 : List Int), j + d = N → d * w ≤ b.length → b.length < 140737488355328 → x6.length = j → (∀ x ∈ b, 0 ≤ x ∧ x < 256) →
    Ev (fun k => pack_Take.l0 k b w x6 ((64 - 8 * w : Nat) : Int) (N : Int) j) (x6 ++ decs w d b, b.drop (d * w), 0) := by
  induction d with
  | zero =>
    intro j b x6 hj hl hm h6 hb
    refine Ev.step (g' := fun _ => _) (fun k => ?_) (Ev.const _)
    simp only [pack_Take.l0]
    rw [if_neg (by omega), clone_eq b hm]
    simp [decs]
  | succ d ih =>
    intro j b x6 hj hl hm h6 hb
    rw [Nat.succ_mul] at hl
    have e2 : wrap64 ((j : Int) + 1) = ((j + 1 : Nat) : Int) := by unfold wrap64; omega
    have h40 : (b.take w).length = w := by rw [List.length_take]; omega
    have hnext := ih (j + 1) (b.drop w) (x6 ++ [dec w (b.take w)]) (by omega) (by rw [List.length_drop]; omega) (by rw [List.length_drop]; omega) (by simp; omega) (fun x hx => hb x (List.mem_of_mem_drop hx))
    have hg := take_l1 w h1 h8 b x6 (N : Int) (j : Int) (b.take w) h40 (fun x hx => hb x (List.mem_of_mem_take hx)) (by omega) (by omega) _ (by rw [e2]; exact hnext) w 0 (by omega)
    rw [List.append_assoc, List.drop_drop] at hg
    rw [show (d + 1) * w = w + d * w by rw [Nat.succ_mul]; omega]
    refine Ev.step (fun k => ?_) hg
    simp only [pack_Take.l0]
    rw [if_pos (by omega), if_pos (by omega), if_pos (by omega)]
    simp [val, show wrap64 0 = 0 from w64 (by decide) (by decide)]
theorem packTake_ev (b : List Int) (w n : Int) (hm : b.length < 140737488355328) (hb : ∀ x ∈ b, 0 ≤ x ∧ x < 256) : Ev (fun k => pack_Take.f k b w n) (takeP b w n) := by
  unfold pack_Take.f takeP
  rw [wide_eq]
  simp only [Option.bind_some]
  have bad : Ev (fun k => pack_Take.j0 k b w n [] true) ([], [], 1) := by
    refine Ev.step (g' := fun _ => _) (fun k => ?_) (Ev.const _)
    simp only [pack_Take.j0, if_true]
  by_cases h : 1 ≤ w ∧ w ≤ 8
  · rw [decide_eq_true h]
    simp only [if_true]
    by_cases h2 : n < 0
    · rw [if_neg (by omega)]
      simp only [if_pos h2]
      exact bad
    · simp only [if_neg h2]
      by_cases h3 : n > 65536
      · rw [if_neg (by omega), decide_eq_true h3]
        exact bad
      · rw [if_pos (by omega), decide_eq_false h3]
        obtain ⟨w, rfl⟩ := Int.eq_ofNat_of_zero_le (show 0 ≤ w by omega)
        obtain ⟨n, rfl⟩ := Int.eq_ofNat_of_zero_le (show 0 ≤ n by omega)
        have hnw : n * w ≤ 65536 * 8 := Nat.mul_le_mul (by omega) (by omega)
        have e0 : ((n * w : Nat) : Int) = (n : Int) * (w : Int) := by simp
        have e1 : wrap64 ((n : Int) * (w : Int)) = (n : Int) * (w : Int) := w64 (by omega) (by omega)
        have e3 : wrap64 (64 - wrap64 (8 * (w : Int))) = ((64 - 8 * w : Nat) : Int) := by unfold wrap64; omega
        by_cases h4 : (b.length : Int) < (n : Int) * (w : Int)
        · rw [if_pos h4]
          refine Ev.step (g' := fun _ => _) (fun k => ?_) (Ev.const _)
          simp only [pack_Take.j0, Bool.false_eq_true, if_false]
          rw [e1, if_pos h4]
        · rw [if_neg h4]
          have hg := take_l0 w (by omega) (by omega) n (by omega) n 0 b [] (by omega) (by omega) hm rfl hb
          rw [List.nil_append] at hg
          refine Ev.step (fun k => ?_) hg
          simp only [pack_Take.j0, Bool.false_eq_true, if_false]
          rw [e1, if_neg h4, e3]
          rfl
  · rw [decide_eq_false h, if_neg (fun z => h ⟨z.1, z.2.1⟩)]
    simp only [Bool.false_eq_true, if_false]
    exact bad
end Go.Proofs.Ytkjibgfgbfacdaa.P
end
/-! part: PBook -/
section
set_option linter.unusedVariables false
set_option linter.unusedSimpArgs false
namespace Go.Proofs.Ytkjibgfgbfacdaa.P
open Go.RowKit Go.Proofs.YtkjibgfgbfacdaaW.PrintWords Go.Proofs.YtkjibgfgbfacdaaW.PrintLast Go.Proofs.YtkjibgfgbfacdaaW.PrintMore
set_option linter.unusedVariables false

/-! ### small -/
theorem idxCast (j : Nat) (h : j < 9223372036854775807) : wrap64 ((j : Int) + 1) = ((j + 1 : Nat) : Int) := by unfold wrap64; omega
theorem rdV (l : List (List Int)) (j : Nat) (h : j < l.length) : l.drop j = (l.getD j []) :: l.drop (j + 1) := by
  have := rdO [] l j (by omega) (by omega)
  rwa [Int.toNat_natCast, show ((j : Int) + 1).toNat = j + 1 by omega] at this
theorem rdI (l : List Int) (j : Nat) (h : j < l.length) : l.drop j = (l.getD j 0) :: l.drop (j + 1) := by
  have := rdO 0 l j (by omega) (by omega)
  rwa [Int.toNat_natCast, show ((j : Int) + 1).toNat = j + 1 by omega] at this
theorem bookOk_parts {way : Int} {cuts : List (List Int)} (h : bookOk way cuts = true) :
    1 ≤ cuts.length ∧ cuts.length ≤ 64 ∧ wayOk way = true ∧ ∀ c ∈ cuts, c.length = (cuts.getD 0 []).length ∧ cutsOk c = true := by
  unfold bookOk at h
  simp only [Bool.and_eq_true, decide_eq_true_eq, List.all_eq_true] at h
  exact ⟨h.1.1.1, h.1.1.2, h.1.2, h.2⟩
theorem cutsOk_len {c : List Int} (h : cutsOk c = true) : c.length < 16 := by
  unfold cutsOk at h
  simp only [Bool.and_eq_true, decide_eq_true_eq] at h
  exact h.1.1
theorem getD0_mem {cuts : List (List Int)} (h : 1 ≤ cuts.length) : cuts.getD 0 [] ∈ cuts := by
  cases cuts with
  | nil => simp at h
  | cons a t => simp
theorem cells_eq (way : Int) (cuts : List (List Int)) : quant_Cells.f way cuts = some (if bookOk way cuts = true then (((cuts.getD 0 []).length : Int) + 1, 0) else (0, 1)) := by
  unfold quant_Cells.f h_quant_Check.f
  simp only [Option.bind_some]
  by_cases h : bookOk way cuts = true
  · obtain ⟨h1, h2, h3, h4⟩ := bookOk_parts h
    have hl := cutsOk_len (h4 _ (getD0_mem h1)).2
    rw [if_pos h, if_pos rfl, if_pos (by omega), if_pos h]
    show some (wrap64 (((cuts.getD 0 []).length : Int) + 1), (0 : Int)) = _
    rw [w64 (by omega) (by omega)]
  · rw [if_neg h, if_neg (by decide), if_neg h]
/-! ### book.Bytes -/
def i16L (l : List Int) : Prop := ∀ x ∈ l, -32768 ≤ x ∧ x ≤ 32767
def i16LL (l : List (List Int)) : Prop := ∀ c ∈ l, i16L c
theorem fits2 {x : Int} (h : -32768 ≤ x ∧ x ≤ 32767) : fitsB 2 x = true := by
  unfold fitsB
  simp only [Nat.reduceMul, Nat.reduceSub, Int.reducePow, Int.reduceNeg, Bool.and_eq_true, decide_eq_true_eq]
  omega
theorem put2_ev (b : List Int) (x : Int) (hx : -32768 ≤ x ∧ x ≤ 32767) (hb : b.length ≤ 60000) : Ev (fun k => pack_Put.f k b 2 [wrap64 x]) (b ++ enc 2 x, 0) := by
  have := packPut_ev b 2 [wrap64 x] (by simp)
  rw [w64 (by omega) (by omega)] at this ⊢
  unfold putP at this
  rw [if_pos (by decide)] at this
  simp only [List.all_cons, List.all_nil, Bool.and_true, List.length_cons, List.length_nil, List.flatMap_cons, List.flatMap_nil, List.append_nil] at this
  rw [show Int.toNat 2 = 2 from rfl, if_pos (fits2 hx), if_neg (by simp; omega)] at this
  exact this
theorem bytes_l1 (cuts : List (List Int)) (i : Int) (c : List Int) (hc : i16L c) (hl : c.length ≤ 100) (v : List Int × Int) (d : Nat) :
    ∀ (j : Nat) (acc : List Int), j + d = c.length → acc.length + 2 * d ≤ 60000 → Ev (fun k => book_Bytes.l0 k (acc ++ (c.drop j).flatMap (enc 2)) cuts (cuts.length : Int) (wrap64 (i + 1))) v →
    Ev (fun k => book_Bytes.l1 k acc cuts (cuts.length : Int) i c (c.length : Int) j) v := by
  induction d with
  | zero =>
    intro j acc hj hb hv
    rw [List.drop_eq_nil_of_le (by omega)] at hv
    simp only [List.flatMap_nil, List.append_nil] at hv
    refine Ev.step (fun k => ?_) hv
    simp only [book_Bytes.l1]
    rw [if_neg (by omega)]
  | succ d ih =>
    intro j acc hj hb hv
    rw [rdI c j (by omega), List.flatMap_cons, ← List.append_assoc] at hv
    have hx := hc (c.getD j 0) (getD_mem 0 c j (by omega) (by omega))
    refine Ev.step (g' := fun k => (pack_Put.f k acc 2 [wrap64 (c.getD j 0)]).bind fun bt => (if bt.2 = 0 then (book_Bytes.l1 k bt.1 cuts (cuts.length : Int) i c (c.length : Int) (wrap64 ((j : Int) + 1))) else (some (([] : List Int), bt.2)))) (fun k => ?_) (Ev.bind (put2_ev acc _ hx (by omega)) ?_)
    · simp only [book_Bytes.l1]
      rw [if_pos (by omega), if_pos (by omega), if_pos (by omega)]
      rfl
    · simp only [if_true]
      rw [idxCast j (by omega)]
      exact ih (j + 1) (acc ++ enc 2 (c.getD j 0)) (by omega) (by rw [List.length_append, enc_length]; omega) hv
theorem bytes_l0 (cuts : List (List Int)) (hc : i16LL cuts) (hl : ∀ c ∈ cuts, c.length ≤ 15) (hm : cuts.length ≤ 64) (d : Nat) :
    ∀ (i : Nat) (acc : List Int), i + d = cuts.length → acc.length + 30 * d ≤ 30000 →
    Ev (fun k => book_Bytes.l0 k acc cuts (cuts.length : Int) i) (acc ++ (cuts.drop i).flatMap (fun c => c.flatMap (enc 2)), 0) := by
  induction d with
  | zero =>
    intro i acc hi hb
    refine Ev.step (g' := fun _ => _) (fun k => ?_) (Ev.const _)
    simp only [book_Bytes.l0]
    rw [if_neg (by omega), List.drop_eq_nil_of_le (by omega)]
    simp
  | succ d ih =>
    intro i acc hi hb
    have hmem := getD_mem [] cuts i (by omega) (by omega)
    rw [Int.toNat_natCast] at hmem
    have hcl := hl _ hmem
    have hfl : ((cuts.getD i []).flatMap (enc 2)).length = 2 * (cuts.getD i []).length := by
      generalize cuts.getD i [] = c
      induction c with
      | nil => rfl
      | cons a t iht => simp only [List.flatMap_cons, List.length_append, enc_length, List.length_cons]; omega
    have hnext := ih (i + 1) (acc ++ (cuts.getD i []).flatMap (enc 2)) (by omega) (by rw [List.length_append]; omega)
    rw [rdV cuts i (by omega), List.flatMap_cons, ← List.append_assoc]
    refine Ev.step (fun k => ?_) (bytes_l1 cuts i (cuts.getD i []) (hc _ hmem) (by omega) _ (cuts.getD i []).length 0 acc (by omega) (by omega) (by rw [idxCast i (by omega)]; exact hnext))
    simp only [book_Bytes.l0]
    rw [if_pos (by omega), if_pos (by omega), if_pos (by omega)]
    rfl
/-- A book's text. -/
def bytesB (way : Int) (cuts : List (List Int)) : List Int := enc 8 way ++ [(cuts.length : Int), ((cuts.getD 0 []).length : Int)] ++ cuts.flatMap (fun c => c.flatMap (enc 2))
theorem fits8 {x : Int} (h : -9223372036854775808 ≤ x ∧ x ≤ 9223372036854775807) : fitsB 8 x = true := by
  unfold fitsB
  simp only [Nat.reduceMul, Nat.reduceSub, Int.reducePow, Int.reduceNeg, Bool.and_eq_true, decide_eq_true_eq]
  omega
theorem wayOk_i64 {way : Int} (h : wayOk way = true) : 0 ≤ way ∧ way ≤ 4611686018427387903 := by
  unfold wayOk at h
  simpa using h
theorem bookBytes_ev (way : Int) (cuts : List (List Int)) (hc : i16LL cuts) : Ev (fun k => book_Bytes.f k way cuts) (if bookOk way cuts = true then (bytesB way cuts, 0) else ([], 1)) := by
  unfold book_Bytes.f
  rw [cells_eq]
  simp only [Option.bind_some]
  by_cases h : bookOk way cuts = true
  · obtain ⟨h1, h2, h3, h4⟩ := bookOk_parts h
    have hl := cutsOk_len (h4 _ (getD0_mem h1)).2
    rw [if_pos h]
    simp only [if_pos h, if_true]
    have hp := packPut_ev [] 8 [way] (by simp)
    unfold putP at hp
    rw [if_pos (by decide)] at hp
    simp only [List.all_cons, List.all_nil, Bool.and_true, List.length_cons, List.length_nil, List.flatMap_cons, List.flatMap_nil, List.append_nil, List.nil_append] at hp
    have hw := wayOk_i64 h3
    rw [show Int.toNat 8 = 8 from rfl, if_pos (fits8 (by omega)), if_neg (by simp)] at hp
    refine Ev.bind hp ?_
    have e1 : wrap64 ((((cuts.getD 0 []).length : Int) + 1) - 1) % 256 = ((cuts.getD 0 []).length : Int) := by unfold wrap64; omega
    have e2 : (cuts.length : Int) % 256 = (cuts.length : Int) := by omega
    rw [e1, e2]
    have hb := bytes_l0 cuts hc (fun c hcc => by have := cutsOk_len (h4 c hcc).2; omega) h2 cuts.length 0 (enc 8 way ++ [(cuts.length : Int), ((cuts.getD 0 []).length : Int)]) (by omega) (by simp [enc_length]; omega)
    rw [List.drop_zero] at hb
    refine Ev.congr (fun k => ?_) hb
    simp only [Option.bind_some, if_true]
    rw [if_pos (by rw [enc_length]; simp)]
    rfl
  · rw [if_neg h]
    simp only [if_neg h, if_neg (show ¬ ((1 : Int) = 0) by decide)]
    exact Ev.const _
theorem i16_of {l : List Int} (h : okI .i16 l) : i16L l := by
  intro x hx
  have h1 : (decide (IntKind.i16.min ≤ x) && decide (x ≤ IntKind.i16.max)) = true := h.2 x hx
  have e1 : IntKind.i16.min = -32768 := by decide
  have e2 : IntKind.i16.max = 32767 := by decide
  rw [e1, e2] at h1
  simpa using h1
theorem i16LL_of {l : List (List Int)} (h : okII .i16 l) : i16LL l := fun c hc => i16_of ⟨(h.2 c hc).1, (h.2 c hc).2⟩
theorem u8_of {l : List Int} (h : okI .u8 l) : ∀ x ∈ l, 0 ≤ x ∧ x < 256 := by
  intro x hx
  have h1 : (decide (IntKind.u8.min ≤ x) && decide (x ≤ IntKind.u8.max)) = true := h.2 x hx
  have e1 : IntKind.u8.min = 0 := by decide
  have e2 : IntKind.u8.max = 255 := by decide
  rw [e1, e2] at h1
  simp at h1
  omega
end Go.Proofs.Ytkjibgfgbfacdaa.P
end
/-! part: PBookF -/
section
set_option linter.unusedVariables false
set_option linter.unusedSimpArgs false
namespace Go.Proofs.Ytkjibgfgbfacdaa.P
open Go.RowKit Go.Proofs.YtkjibgfgbfacdaaW.PrintWords Go.Proofs.YtkjibgfgbfacdaaW.PrintLast Go.Proofs.YtkjibgfgbfacdaaW.PrintMore
set_option linter.unusedVariables false

/-- A list cut into D rows of M. -/
def rowsOf (M : Nat) : Nat → List Int → List (List Int)
  | 0, _ => []
  | D + 1, l => l.take M :: rowsOf M D (l.drop M)
theorem rowsOf_length (M D : Nat) : ∀ l, (rowsOf M D l).length = D := by
  induction D with
  | zero => intro l; rfl
  | succ D ih => intro l; simp [rowsOf, ih]
theorem rowsOf_getD (M D : Nat) : ∀ (l : List Int) (i : Nat), i < D → (rowsOf M D l).getD i [] = (l.drop (i * M)).take M := by
  induction D with
  | zero => intro l i h; omega
  | succ D ih =>
    intro l i h
    cases i with
    | zero => simp [rowsOf]
    | succ i =>
      have := ih (l.drop M) i (by omega)
      rw [List.drop_drop] at this
      rw [show (i + 1) * M = M + i * M by rw [Nat.succ_mul]; omega, ← this]
      simp [rowsOf]
theorem rowsOf_flatten (M D : Nat) : ∀ l : List Int, (rowsOf M D l).flatten = l.take (D * M) := by
  induction D with
  | zero => intro l; simp [rowsOf]
  | succ D ih =>
    intro l
    rw [rowsOf, List.flatten_cons, ih, show (D + 1) * M = M + D * M by rw [Nat.succ_mul]; omega, List.take_add]
theorem decs_length (w n : Nat) : ∀ l, (decs w n l).length = n := by
  induction n with
  | zero => intro l; rfl
  | succ n ih => intro l; simp [decs, ih]
theorem decs_fits (w : Nat) (h : 1 ≤ w) (h' : w ≤ 8) (n : Nat) : ∀ l : List Int, n * w ≤ l.length → (∀ x ∈ l, 0 ≤ x ∧ x < 256) → ∀ x ∈ decs w n l, fitsB w x = true := by
  induction n with
  | zero => intro l _ _ x hx; cases hx
  | succ n ih =>
    intro l hl hb x hx
    rw [Nat.succ_mul] at hl
    simp only [decs, List.mem_cons] at hx
    rcases hx with rfl | hx
    · exact dec_fits w h h' _ (by rw [List.length_take]; omega) (fun y hy => hb y (List.mem_of_mem_take hy))
    · exact ih (l.drop w) (by rw [List.length_drop]; omega) (fun y hy => hb y (List.mem_of_mem_drop hy)) x hx
theorem flat_enc_length (w : Nat) : ∀ L : List Int, (L.flatMap (enc w)).length = L.length * w := by
  intro L
  induction L with
  | nil => simp
  | cons x t ih => rw [List.flatMap_cons, List.length_append, ih, enc_length, List.length_cons, Nat.succ_mul]; omega
/-! ### book.From -/
theorem fits2_iff {x : Int} (h : fitsB 2 x = true) : -32768 ≤ x ∧ x ≤ 32767 := by
  unfold fitsB at h
  simp only [Nat.reduceMul, Nat.reduceSub, Int.reducePow, Int.reduceNeg, Bool.and_eq_true, decide_eq_true_eq] at h
  omega
theorem i16_wrap {x : Int} (h : -32768 ≤ x ∧ x ≤ 32767) : IntKind.i16.wrap x = x := by
  simp [IntKind.wrap, IntKind.bits, IntKind.signed]
  split <;> omega
theorem set_mid (a : List Int) (x z : Int) (d : Nat) : (a ++ List.replicate (d + 1) z).set a.length x = (a ++ [x]) ++ List.replicate d z := by
  rw [List.set_append_right _ _ (Nat.le_refl _), Nat.sub_self, List.replicate_succ, List.set_cons_zero, List.append_assoc]
  rfl
theorem set_midV (a : List (List Int)) (x z : List Int) (d : Nat) : (a ++ List.replicate (d + 1) z).set a.length x = (a ++ [x]) ++ List.replicate d z := by
  rw [List.set_append_right _ _ (Nat.le_refl _), Nat.sub_self, List.replicate_succ, List.set_cons_zero, List.append_assoc]
  rfl
theorem from_l1 (M : Nat) (L : List Int) (hL : ∀ x ∈ L, -32768 ≤ x ∧ x ≤ 32767) (hLm : L.length ≤ 65536) (hM : M ≤ 255) (D i : Nat) (hD : D ≤ 255) (hi : i < D) (hDM : L.length = D * M) (way : Int) (cuts : List (List Int)) (hcl : cuts.length = D) (V : Int × List (List Int) × Int)
    (hV : Ev (fun k => book_From.l0 k M L (D : Int) (wrap64 ((i : Int) + 1)) way (cuts.set i ((L.drop (i * M)).take M))) V) (d : Nat) : ∀ (j : Nat) (row : List Int), j + d = M → row = ((L.drop (i * M)).take M).take j ++ List.replicate d 0 →
    Ev (fun k => book_From.l1 k M L i row (D : Int) i (M : Int) j way cuts) V := by
  have hle : i * M + M ≤ L.length := by
    rw [hDM, ← Nat.succ_mul]
    exact Nat.mul_le_mul_right _ (by omega)
  have hrl : ((L.drop (i * M)).take M).length = M := by rw [List.length_take, List.length_drop]; omega
  induction d with
  | zero =>
    intro j row hj hr
    obtain rfl : j = M := by omega
    rw [List.take_of_length_le (by omega)] at hr
    simp only [List.replicate_zero, List.append_nil] at hr
    subst hr
    refine Ev.step (fun k => ?_) hV
    simp only [book_From.l1]
    rw [if_neg (by omega), if_pos (by omega), if_pos (by omega), Int.toNat_natCast]
  | succ d ih =>
    intro j row hj hr
    have e1 : Aside0 (wrap64 ((i : Int) * (M : Int)) = ((i * M : Nat) : Int)) := ⟨by
      have : ((i * M : Nat) : Int) = (i : Int) * (M : Int) := by simp
      rw [← this]
      exact w64 (by omega) (by omega)⟩
    have e2 : Aside0 (wrap64 (((i * M : Nat) : Int) + (j : Int)) = ((i * M + j : Nat) : Int)) := ⟨by rw [← Int.natCast_add]; exact w64 (by omega) (by omega)⟩
    have hlt : i * M + j < L.length := by omega
    have er : rd L ((i * M + j : Nat) : Int) = L[i * M + j] := by
      show L.getD (((i * M + j : Nat) : Int)).toNat 0 = _
      rw [Int.toNat_natCast]
      simp [List.getD_eq_getElem?_getD, hlt]
    have hx := hL _ (List.getElem_mem hlt)
    have htl : (((L.drop (i * M)).take M).take j).length = j := by rw [List.length_take]; omega
    have hset : row.set j L[i * M + j] = ((L.drop (i * M)).take M).take (j + 1) ++ List.replicate d 0 := by
      rw [hr]
      have := set_mid (((L.drop (i * M)).take M).take j) (L[i * M + j]) 0 d
      rw [htl] at this
      rw [this, List.take_succ_eq_append_getElem (show j < ((L.drop (i * M)).take M).length by omega)]
      simp
    refine Ev.step (fun k => ?_) (ih (j + 1) _ (by omega) hset)
    simp only [book_From.l1]
    rw [if_pos (by omega), e1.out, e2.out, if_pos (by omega), if_pos (by omega), if_pos (by omega), if_pos (by rw [hr, List.length_append, List.length_replicate, htl]; omega), er, i16_wrap hx, Int.toNat_natCast, idxCast j (by omega)]
theorem from_l0 (M : Nat) (L : List Int) (hL : ∀ x ∈ L, -32768 ≤ x ∧ x ≤ 32767) (hLm : L.length ≤ 65536) (hM : M ≤ 255) (D : Nat) (hD : D ≤ 255) (hDM : L.length = D * M) (way : Int) (d : Nat) :
    ∀ (i : Nat) (cuts : List (List Int)), i + d = D → cuts = (rowsOf M D L).take i ++ List.replicate d [] →
    Ev (fun k => book_From.l0 k M L (D : Int) i way cuts) (if bookOk way (rowsOf M D L) = true then (way, rowsOf M D L, 0) else (0, [], 2)) := by
  have hrl := rowsOf_length M D L
  induction d with
  | zero =>
    intro i cuts hi hc
    obtain rfl : i = D := by omega
    rw [List.take_of_length_le (by omega)] at hc
    simp only [List.replicate_zero, List.append_nil] at hc
    subst hc
    refine Ev.step (g' := fun _ => _) (fun k => ?_) (Ev.const _)
    simp only [book_From.l0]
    rw [if_neg (by omega)]
    unfold h_quant_Check.f
    simp only [Option.bind_some]
    split <;> simp
  | succ d ih =>
    intro i cuts hi hc
    have htl : ((rowsOf M D L).take i).length = i := by rw [List.length_take]; omega
    have hcl : cuts.length = D := by rw [hc, List.length_append, List.length_replicate, htl]; omega
    have hrow : (rowsOf M D L)[i]'(by omega) = (L.drop (i * M)).take M := by
      have := rowsOf_getD M D L i (by omega)
      rw [← this]
      simp [List.getD_eq_getElem?_getD, show i < (rowsOf M D L).length by omega]
    have hset : cuts.set i ((L.drop (i * M)).take M) = (rowsOf M D L).take (i + 1) ++ List.replicate d [] := by
      rw [hc]
      have := set_midV ((rowsOf M D L).take i) ((L.drop (i * M)).take M) [] d
      rw [htl] at this
      rw [this, List.take_succ_eq_append_getElem (show i < (rowsOf M D L).length by omega), hrow]
    have hnext := ih (i + 1) _ (by omega) hset
    have hg := from_l1 M L hL hLm hM D i hD (by omega) hDM way cuts hcl _ (by rw [idxCast i (by omega)]; exact hnext) M 0 (List.replicate M 0) (by omega) (by simp)
    refine Ev.step (fun k => ?_) hg
    simp only [book_From.l0]
    rw [if_pos (by omega), if_pos (by omega), Int.toNat_natCast, if_pos (by omega)]
    simp only [Option.bind_some]
    rw [List.length_replicate]
    rfl
/-- What a text tells: its way, numbers, cuts. -/
def fromP (t : List Int) : Int × List (List Int) × Int :=
  if t.length < 10 then (0, [], 2) else
    if t.length = 10 + (t.getD 8 0).toNat * (t.getD 9 0).toNat * 2 then
      (if bookOk (dec 8 (t.take 8)) (rowsOf (t.getD 9 0).toNat (t.getD 8 0).toNat (decs 2 ((t.getD 8 0).toNat * (t.getD 9 0).toNat) (t.drop 10))) = true then
        (dec 8 (t.take 8), rowsOf (t.getD 9 0).toNat (t.getD 8 0).toNat (decs 2 ((t.getD 8 0).toNat * (t.getD 9 0).toNat) (t.drop 10)), 0) else (0, [], 2))
    else (0, [], 2)
theorem bookFrom_ev (t : List Int) (ht : t.length < 140737488355328) (hb : ∀ x ∈ t, 0 ≤ x ∧ x < 256) : Ev (fun k => book_From.f k t) (fromP t) := by
  unfold book_From.f fromP
  by_cases h : t.length < 10
  · simp only [if_pos (show (t.length : Int) < 10 by omega), if_pos h]
    exact Ev.const _
  · simp only [if_neg (show ¬ (t.length : Int) < 10 by omega), if_neg h]
    have h1 := packTake_ev t 8 1 ht hb
    unfold takeP at h1
    rw [if_pos (by decide), if_neg (by omega)] at h1
    refine Ev.bind h1 ?_
    have hm8 := hb (t.getD 8 0) (getD_mem 0 t 8 (by omega) (by omega))
    have hm9 := hb (t.getD 9 0) (getD_mem 0 t 9 (by omega) (by omega))
    have er8 : rd t 8 = t.getD 8 0 := rfl
    have er9 : rd t 9 = t.getD 9 0 := rfl
    simp only [if_pos (show (8 : Int) < (t.length : Int) by omega), if_pos (show (9 : Int) < (t.length : Int) by omega), if_pos (show (10 : Int) ≤ (t.length : Int) by omega), er8, er9]
    have hdD : ∃ D : Nat, t.getD 8 0 = (D : Int) := ⟨(t.getD 8 0).toNat, by omega⟩
    have hdM : ∃ M : Nat, t.getD 9 0 = (M : Int) := ⟨(t.getD 9 0).toNat, by omega⟩
    obtain ⟨D, hD⟩ := hdD
    obtain ⟨M, hM⟩ := hdM
    rw [hD] at hm8 ⊢
    rw [hM] at hm9 ⊢
    clear er8 er9 hD hM
    have eD : Aside0 (wrap64 (D : Int) = D) := ⟨w64 (by omega) (by omega)⟩
    have eM : Aside0 (wrap64 (M : Int) = M) := ⟨w64 (by omega) (by omega)⟩
    have hDM : D * M ≤ 255 * 255 := Nat.mul_le_mul (by omega) (by omega)
    have e0 : ((D * M : Nat) : Int) = (D : Int) * (M : Int) := by simp
    have eP : Aside0 (wrap64 ((D : Int) * (M : Int)) = ((D * M : Nat) : Int)) := ⟨by rw [← e0]; exact w64 (by omega) (by omega)⟩
    clear e0
    rw [eD.out, eM.out, eP.out, Int.toNat_natCast, Int.toNat_natCast]
    have h2 := packTake_ev (t.drop 10) 2 ((D * M : Nat) : Int) (by rw [List.length_drop]; omega) (fun x hx => hb x (List.mem_of_mem_drop hx))
    unfold takeP at h2
    rw [if_pos (by omega), List.length_drop, Int.toNat_natCast] at h2
    refine Ev.bind h2 ?_
    have er0 : decs (Int.toNat 8) (Int.toNat 1) t = [dec 8 (t.take 8)] := rfl
    rw [er0]
    simp only [if_true]
    have bad : ∀ (x7 x8 : Int) (x9 : List Int), Ev (fun k => book_From.j0 k [dec 8 (t.take 8)] x7 x8 x9 true) (0, [], 2) := by
      intro x7 x8 x9
      refine Ev.step (g' := fun _ => _) (fun k => ?_) (Ev.const _)
      simp only [book_From.j0, if_true]
    by_cases h3 : ((t.length - 10 : Nat) : Int) < ((D * M : Nat) : Int) * 2
    · rw [if_pos h3, if_neg (by omega)]
      simp only [if_neg (show ¬ ((2 : Int) = 0) by decide)]
      exact bad _ _ _
    · rw [if_neg h3]
      simp only [if_true, List.length_drop]
      rw [show Int.toNat 2 = 2 from rfl]
      by_cases h4 : t.length = 10 + D * M * 2
      · rw [if_pos h4, decide_eq_false (by omega)]
        have hL2 : ∀ x ∈ decs 2 (D * M) (t.drop 10), -32768 ≤ x ∧ x ≤ 32767 := fun x hx => fits2_iff (decs_fits 2 (by decide) (by decide) _ _ (by rw [List.length_drop]; omega) (fun y hy => hb y (List.mem_of_mem_drop hy)) x hx)
        have hg := from_l0 M (decs 2 (D * M) (t.drop 10)) hL2 (by rw [decs_length]; omega) (by omega) D (by omega) (decs_length _ _ _) (dec 8 (t.take 8)) D 0 (List.replicate D []) (by omega) (by simp)
        refine Ev.step (fun k => ?_) hg
        simp only [book_From.j0, Bool.false_eq_true, if_false]
        rw [if_pos (by simp), if_pos (by omega), Int.toNat_natCast, if_pos (by omega)]
        simp only [Option.bind_some]
        rw [List.length_replicate]
        rfl
      · rw [if_neg h4, decide_eq_true (by omega)]
        exact bad _ _ _
end Go.Proofs.Ytkjibgfgbfacdaa.P
end
