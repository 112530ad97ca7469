/- The law SlotsApart of this seat answers true for every input, and its arguments read as they did. Conditions: none. This file holds a part of what the proof needs. -/
import Derived.Shelf.SlGeneric
import Derived.Shelf.SlLaysNS
import Derived.Shelf.SlLaysO
import Derived.Test.YtkjibgfgbfacdaaProg
import Derived.Shelf.SortG.Plain
import Derived.Lib.SlKeysI
import Derived.Sort.OwnSortedInts
import Derived.Maps.RangeWalk
import Derived.OwnWalk
import Derived.Test.YtkjibgfgbfacdaaKSlotsApart0
import Derived.Test.YtkjibgfgbfacdaaKSlotsApart1
import Derived.Test.YtkjibgfgbfacdaaKSlotsApart2
/-! part: F25 -/
section
set_option linter.unusedVariables false
set_option linter.unusedSimpArgs false
namespace Go.Proofs.Ytkjibgfgbfacdaa.P
open Go.RowKit Go.Proofs.YtkjibgfgbfacdaaW.PrintWords Go.Proofs.YtkjibgfgbfacdaaW.PrintLast Go.Proofs.YtkjibgfgbfacdaaW.PrintMore
attribute [local go_sem] max2_int min2_int max_two min_two max_three min_three max_four min_four   -- for this text's walks alone
set_option linter.unusedVariables false
set_option linter.unusedSimpArgs false

/-! ### cuvetteref10_Few: function 25 -/
def cuvetteref10_Few.l0 : Nat → List (List Int) → Int → Int → Int → List Int → List (List Int) → Option (Bool)
  | 0, _, _, _, _, _, _ => none
  | k + 1, x6, x7, x8, x267000, x267001, x267002 => if x8 < x7 then (if 0 ≤ x8 then (if x8 < (x6.length : Int) then (if ((rd_L3 x6 x8).length : Int) > 100 then (some false) else (cuvetteref10_Few.l0 k x6 x7 (wrap64 (x8 + 1)) x267000 x267001 x267002)) else (none)) else (none)) else (if (x267001.length : Int) ≤ 60 then (if (x267002.length : Int) ≤ 60 then (some true) else (if (x267001.length : Int) = 257 then (some ((x267002.length : Int) == 257)) else (some false))) else (if (x267001.length : Int) = 257 then (some ((x267002.length : Int) == 257)) else (some false)))
def cuvetteref10_Few.f (k : Nat) (a0_0 : Int) (l0_1 : List Int) (l0_2 : List (List Int)) : Option (Bool) := cuvetteref10_Few.l0 k l0_2 (l0_2.length : Int) 0 a0_0 l0_1 l0_2
theorem cuvetteref10_Few.mono_l : ∀ k, (∀ y0 y1 y2 y3 y4 y5, LeO (cuvetteref10_Few.l0 k y0 y1 y2 y3 y4 y5) (cuvetteref10_Few.l0 (k + 1) y0 y1 y2 y3 y4 y5))
  | 0 => fun _ _ _ _ _ _ r h => by simp [cuvetteref10_Few.l0] at h
  | k + 1 => by
    have ih0 := cuvetteref10_Few.mono_l k
    · intro y0 y1 y2 y3 y4 y5
      unfold cuvetteref10_Few.l0
      repeat' first
      | (with_reducible exact ih0 _ _ _ _ _ _)
      | (with_reducible exact LeO.refl _)
      | (with_reducible exact LeO.none _)
      | (with_reducible refine LeO.ite ?_ ?_)
      | (with_reducible refine LeO.bind ?_ (fun _ => ?_))
      | exact ih0 _ _ _ _ _ _
      | exact LeO.none _
      | refine LeO.ite ?_ ?_
      | refine LeO.bind ?_ (fun _ => ?_)
theorem cuvetteref10_Few.mono : ∀ a0 a1 a2 k, LeO (cuvetteref10_Few.f k a0 a1 a2) (cuvetteref10_Few.f (k + 1) a0 a1 a2) := by
  intro a0 a1 a2 k
  have ih0 := cuvetteref10_Few.mono_l k
  unfold cuvetteref10_Few.f
  repeat' first
      | (with_reducible exact ih0 _ _ _ _ _ _)
      | (with_reducible exact LeO.refl _)
      | (with_reducible exact LeO.none _)
      | (with_reducible refine LeO.ite ?_ ?_)
      | (with_reducible refine LeO.bind ?_ (fun _ => ?_))
      | exact ih0 _ _ _ _ _ _
      | exact LeO.none _
      | refine LeO.ite ?_ ?_
      | refine LeO.bind ?_ (fun _ => ?_)
set_option maxHeartbeats 8000000 in
set_option maxRecDepth 100000 in
theorem cuvetteref10_Few.calls (k : Nat) (a0_0 : Int) (A0_1 : Option Addr) (c0_1 : Nat) (l0_1 : List Int) (A0_2 : Option Addr) (c0_2 : Nat) (l0_2 : List (List Int)) (r : Bool) (w : World) (hr0_1 : Kd.C (Kd.int .i64) w A0_1 l0_1.length l0_1) (hc0_1 : l0_1.length ≤ c0_1) (hr0_2 : Kd.C (Kd.slice 74 (Kd.int .i16)) w A0_2 l0_2.length l0_2) (hc0_2 : l0_2.length ≤ c0_2) (h : cuvetteref10_Few.f k a0_0 l0_1 l0_2 = some r) :
    Calls Try.prog 25 #[.agg #[.int .i64 a0_0, .slice A0_1 l0_1.length c0_1, .slice A0_2 l0_2.length c0_2]] w fun e w' => e = .returned (.bool r) ∧ Below w.heap.size w w' := by
  have hu25 := Try.underlying25
  have HR0_1 := Aside0.mk hr0_1
  have HC0_1 := Aside0.mk hc0_1
  clear hr0_1 hc0_1
  have HR0_2 := Aside0.mk hr0_2
  have HC0_2 := Aside0.mk hc0_2
  clear hr0_2 hc0_2
  have HB := Aside0.mk (Below.refl w.heap.size w)
  have H : (cuvetteref10_Few.l0 k l0_2 (l0_2.length : Int) 0 a0_0 l0_1 l0_2) = some r := h
  clear h
  have H' := Aside0.mk H
  clear H
  go_enter Try.func25, Try.ntmps25
  go_wp2_with (first | ((with_reducible refine gate_dst (N := 1) rfl ?_); (try (refine gate_guard (by rfl) ?_; dsimp only)); refine box_event ?hg (N := 1) ?hd (cs := #[.int .i64 a0_0, .slice A0_1 l0_1.length c0_1, .slice A0_2 l0_2.length c0_2]) (t := 25) ?hr ?_; (case hd => rfl); (case hg => rfl); (case hr => first | (go_simp; done) | (go_simp; rfl)); intro gb266 hg w2 hbox hb; have n0_ := Aside0.mk (below_step (by repeat (first | (with_reducible first | exact HB.out | apply below_alloc | apply pw_below_drewN | apply below_drew1) | exact HB.out)) hb); have n1_ := Aside0.mk (hbox); have n2_ := Aside0.mk ((by rw [hg]; exact (below_size (by repeat (first | (with_reducible first | exact HB.out | apply below_alloc | apply pw_below_drewN | apply below_drew1) | exact HB.out))) : w.heap.size ≤ gb266)); have n3_ := Aside0.mk ((by rw [hg]; exact (below_size (by repeat (first | (with_reducible first | exact HB.out | apply below_alloc | apply pw_below_drewN | apply below_drew1) | exact HB.out))) : w.heap.size ≤ gb266)); clear HB; have HB := n0_; have BK266 := n1_; have GW266 := n2_; have GE266 := n3_; clear n0_ n1_ n2_ n3_; clear hb hbox hg; have hcz3_0 : w2.cell? ⟨gb266, 0, none⟩ = some (.int .i64 a0_0) := (blk_cell BK266.out 0).trans rfl; have hcz3_1 : w2.cell? ⟨gb266, 1, none⟩ = some (.slice A0_1 l0_1.length c0_1) := (blk_cell BK266.out 1).trans rfl; have hcz3_2 : w2.cell? ⟨gb266, 2, none⟩ = some (.slice A0_2 l0_2.length c0_2) := (blk_cell BK266.out 2).trans rfl; have hfz3_0 := blk_frozen BK266.out 0; have hfz3_1 := blk_frozen BK266.out 1; have hfz3_2 := blk_frozen BK266.out 2))
  go_loopg [8] k (fun kq v8 w' => ∃ (x8_1 : Int), v8 = .int .i64 x8_1 ∧ Aside0 (cuvetteref10_Few.l0 kq l0_2 (l0_2.length : Int) x8_1 a0_0 l0_1 l0_2 = some r) ∧ Aside0 (kq ≤ k) ∧ Aside0 (w'.heap[gb266]? = some (.cells #[.int .i64 a0_0, (.slice A0_1 l0_1.length c0_1), (.slice A0_2 l0_2.length c0_2)] 25 (0, 0))) ∧ Aside0 (Below w.heap.size w w'))
  case atStart => exact ⟨(0), (by first | rfl | (simp; done) | (simp [*]; done)), H', ⟨Nat.le_refl _⟩, ⟨by (with_reducible repeat (first | refine blk_drewN ?_ _ | refine blk_drew ?_ | refine blk_alloc ?_ _)); exact BK266.out⟩, ⟨by repeat (first | (with_reducible first | exact HB.out | apply below_alloc | apply pw_below_drewN | apply below_drew1 | refine below_set ?_ GE266.out) | exact HB.out)⟩⟩
  case round =>
    clear H'
    try clear c2
    try clear p2
    try clear hcz3_0
    try clear hcz3_1
    try clear hcz3_2
    try clear hfz3_0
    try clear hfz3_1
    try clear hfz3_2
    obtain ⟨x8_1, rfl, HA, HK1, BK266, HB⟩ := hrel
    cases gk with
    | zero => exact absurd HA.out (by simp [cuvetteref10_Few.l0])
    | succ k1 =>
      have H := HA.out
      clear HA
      simp only [cuvetteref10_Few.l0] at H
      by_cases c4 : x8_1 < (l0_2.length : Int)
      · rw [if_pos c4] at H
        have c4b0 : decide (x8_1 < (l0_2.length : Int)) = true := decide_eq_true c4
        clear c4
        by_cases c5 : 0 ≤ x8_1
        · rw [if_pos c5] at H
          have c5b0 : decide (0 ≤ x8_1) = true := decide_eq_true c5
          clear c5
          by_cases c6 : x8_1 < (l0_2.length : Int)
          · rw [if_pos c6] at H
            have c6b0 : decide (x8_1 < (l0_2.length : Int)) = true := decide_eq_true c6
            clear c6
            by_cases c7 : ((rd_L3 l0_2 x8_1).length : Int) > 100
            · rw [if_pos c7] at H
              have c7b0 : decide (100 < ((rd_L3 l0_2 x8_1).length : Int)) = true := decide_eq_true c7
              have c7b1 : decide (100 < (rd_L3 l0_2 x8_1).length) = true := decide_eq_true (by omega)
              clear c7
              obtain rfl := Option.some.inj H
              have p267 : 0 ≤ (x8_1 : Int) := of_decide_eq_true (by first | (with_reducible assumption) | assumption)
              have q267 : x8_1 < (l0_2.length : Int) := of_decide_eq_true (by first | (with_reducible assumption) | assumption)
              obtain ⟨ad267, A267_0, c267_0, e267, hx267_0, hl267_0, hi267_0⟩ := at_L3 HR0_2.out x8_1 p267 q267
              cases e267
              replace hx267_0 := (HB.out.cell (World.block_lt_of_cell? w _ hx267_0)).trans hx267_0
              have HR267_0 := Aside0.mk hi267_0
              have HC267_0 := Aside0.mk hl267_0
              clear hi267_0 hl267_0
              replace p267 := eq_true p267
              replace q267 := eq_true q267
              go_wp2
              go_ret
              exact ⟨by first | rfl | (simp [errW_none, errW_some] <;> rfl) | (simp [*, errW_none, errW_some] <;> rfl), by repeat (first | (with_reducible first | exact HB.out | apply below_alloc | apply pw_below_drewN | apply below_drew1 | refine below_set ?_ GE266.out) | exact HB.out)⟩
            · rw [if_neg c7] at H
              have c7b0 : decide (100 < ((rd_L3 l0_2 x8_1).length : Int)) = false := decide_eq_false c7
              have c7b1 : decide (100 < (rd_L3 l0_2 x8_1).length) = false := decide_eq_false (by omega)
              clear c7
              have H' := Aside0.mk H
              clear H
              have p267 : 0 ≤ (x8_1 : Int) := of_decide_eq_true (by first | (with_reducible assumption) | assumption)
              have q267 : x8_1 < (l0_2.length : Int) := of_decide_eq_true (by first | (with_reducible assumption) | assumption)
              obtain ⟨ad267, A267_0, c267_0, e267, hx267_0, hl267_0, hi267_0⟩ := at_L3 HR0_2.out x8_1 p267 q267
              cases e267
              replace hx267_0 := (HB.out.cell (World.block_lt_of_cell? w _ hx267_0)).trans hx267_0
              have HR267_0 := Aside0.mk hi267_0
              have HC267_0 := Aside0.mk hl267_0
              clear hi267_0 hl267_0
              replace p267 := eq_true p267
              replace q267 := eq_true q267
              go_wp2
              go_roundg k1
              case measure => have := HK1.out; omega
              case rel => exact ⟨(wrap64 (x8_1 + 1)), (by first | rfl | (simp; done) | (simp [*]; done)), H', ⟨by have := HK1.out; omega⟩, ⟨by (with_reducible repeat (first | refine blk_drewN ?_ _ | refine blk_drew ?_ | refine blk_alloc ?_ _)); exact BK266.out⟩, ⟨by repeat (first | (with_reducible first | exact HB.out | apply below_alloc | apply pw_below_drewN | apply below_drew1 | refine below_set ?_ GE266.out) | exact HB.out)⟩⟩
          · rw [if_neg c6] at H
            exact absurd H (by simp)
        · rw [if_neg c5] at H
          exact absurd H (by simp)
      · rw [if_neg c4] at H
        have c4b0 : decide (x8_1 < (l0_2.length : Int)) = false := decide_eq_false c4
        clear c4
        by_cases c8 : (l0_1.length : Int) ≤ 60
        · rw [if_pos c8] at H
          have c8b0 : decide ((l0_1.length : Int) ≤ 60) = true := decide_eq_true c8
          have c8b1 : decide (l0_1.length ≤ 60) = true := decide_eq_true (by omega)
          clear c8
          by_cases c9 : (l0_2.length : Int) ≤ 60
          · rw [if_pos c9] at H
            have c9b0 : decide ((l0_2.length : Int) ≤ 60) = true := decide_eq_true c9
            have c9b1 : decide (l0_2.length ≤ 60) = true := decide_eq_true (by omega)
            clear c9
            obtain rfl := Option.some.inj H
            have hcz10_0 : wr.cell? ⟨gb266, 0, none⟩ = some (.int .i64 a0_0) := (blk_cell BK266.out 0).trans rfl
            have hcz10_1 : wr.cell? ⟨gb266, 1, none⟩ = some (.slice A0_1 l0_1.length c0_1) := (blk_cell BK266.out 1).trans rfl
            have hcz10_2 : wr.cell? ⟨gb266, 2, none⟩ = some (.slice A0_2 l0_2.length c0_2) := (blk_cell BK266.out 2).trans rfl
            have hfz10_0 := blk_frozen BK266.out 0
            have hfz10_1 := blk_frozen BK266.out 1
            have hfz10_2 := blk_frozen BK266.out 2
            go_wp2
            go_ret
            exact ⟨by first | rfl | (simp [errW_none, errW_some] <;> rfl) | (simp [*, errW_none, errW_some] <;> rfl), by repeat (first | (with_reducible first | exact HB.out | apply below_alloc | apply pw_below_drewN | apply below_drew1 | refine below_set ?_ GE266.out) | exact HB.out)⟩
          · rw [if_neg c9] at H
            have c9b0 : decide ((l0_2.length : Int) ≤ 60) = false := decide_eq_false c9
            have c9b1 : decide (l0_2.length ≤ 60) = false := decide_eq_false (by omega)
            clear c9
            by_cases c11 : (l0_1.length : Int) = 257
            · rw [if_pos c11] at H
              have c11b0 : ((l0_1.length : Int) == 257) = true := beq_iff_eq.mpr c11
              have c11b1 : ((l0_1.length : Int) != 257) = false := bne_eq_false_iff_eq.mpr c11
              clear c11
              obtain rfl := Option.some.inj H
              have hcz12_0 : wr.cell? ⟨gb266, 0, none⟩ = some (.int .i64 a0_0) := (blk_cell BK266.out 0).trans rfl
              have hcz12_1 : wr.cell? ⟨gb266, 1, none⟩ = some (.slice A0_1 l0_1.length c0_1) := (blk_cell BK266.out 1).trans rfl
              have hcz12_2 : wr.cell? ⟨gb266, 2, none⟩ = some (.slice A0_2 l0_2.length c0_2) := (blk_cell BK266.out 2).trans rfl
              have hfz12_0 := blk_frozen BK266.out 0
              have hfz12_1 := blk_frozen BK266.out 1
              have hfz12_2 := blk_frozen BK266.out 2
              go_wp2
              go_ret
              exact ⟨by first | rfl | (simp [errW_none, errW_some] <;> rfl) | (simp [*, errW_none, errW_some] <;> rfl), by repeat (first | (with_reducible first | exact HB.out | apply below_alloc | apply pw_below_drewN | apply below_drew1 | refine below_set ?_ GE266.out) | exact HB.out)⟩
            · rw [if_neg c11] at H
              have c11b0 : ((l0_1.length : Int) == 257) = false := beq_eq_false_iff_ne.mpr c11
              have c11b1 : ((l0_1.length : Int) != 257) = true := bne_iff_ne.mpr c11
              obtain rfl := Option.some.inj H
              have hcz13_0 : wr.cell? ⟨gb266, 0, none⟩ = some (.int .i64 a0_0) := (blk_cell BK266.out 0).trans rfl
              have hcz13_1 : wr.cell? ⟨gb266, 1, none⟩ = some (.slice A0_1 l0_1.length c0_1) := (blk_cell BK266.out 1).trans rfl
              have hcz13_2 : wr.cell? ⟨gb266, 2, none⟩ = some (.slice A0_2 l0_2.length c0_2) := (blk_cell BK266.out 2).trans rfl
              have hfz13_0 := blk_frozen BK266.out 0
              have hfz13_1 := blk_frozen BK266.out 1
              have hfz13_2 := blk_frozen BK266.out 2
              go_wp2
              go_ret
              exact ⟨by first | rfl | (simp [errW_none, errW_some] <;> rfl) | (simp [*, errW_none, errW_some] <;> rfl), by repeat (first | (with_reducible first | exact HB.out | apply below_alloc | apply pw_below_drewN | apply below_drew1 | refine below_set ?_ GE266.out) | exact HB.out)⟩
        · rw [if_neg c8] at H
          have c8b0 : decide ((l0_1.length : Int) ≤ 60) = false := decide_eq_false c8
          have c8b1 : decide (l0_1.length ≤ 60) = false := decide_eq_false (by omega)
          clear c8
          by_cases c14 : (l0_1.length : Int) = 257
          · rw [if_pos c14] at H
            have c14b0 : ((l0_1.length : Int) == 257) = true := beq_iff_eq.mpr c14
            have c14b1 : ((l0_1.length : Int) != 257) = false := bne_eq_false_iff_eq.mpr c14
            clear c14
            obtain rfl := Option.some.inj H
            have hcz15_0 : wr.cell? ⟨gb266, 0, none⟩ = some (.int .i64 a0_0) := (blk_cell BK266.out 0).trans rfl
            have hcz15_1 : wr.cell? ⟨gb266, 1, none⟩ = some (.slice A0_1 l0_1.length c0_1) := (blk_cell BK266.out 1).trans rfl
            have hcz15_2 : wr.cell? ⟨gb266, 2, none⟩ = some (.slice A0_2 l0_2.length c0_2) := (blk_cell BK266.out 2).trans rfl
            have hfz15_0 := blk_frozen BK266.out 0
            have hfz15_1 := blk_frozen BK266.out 1
            have hfz15_2 := blk_frozen BK266.out 2
            go_wp2
            go_ret
            exact ⟨by first | rfl | (simp [errW_none, errW_some] <;> rfl) | (simp [*, errW_none, errW_some] <;> rfl), by repeat (first | (with_reducible first | exact HB.out | apply below_alloc | apply pw_below_drewN | apply below_drew1 | refine below_set ?_ GE266.out) | exact HB.out)⟩
          · rw [if_neg c14] at H
            have c14b0 : ((l0_1.length : Int) == 257) = false := beq_eq_false_iff_ne.mpr c14
            have c14b1 : ((l0_1.length : Int) != 257) = true := bne_iff_ne.mpr c14
            obtain rfl := Option.some.inj H
            have hcz16_0 : wr.cell? ⟨gb266, 0, none⟩ = some (.int .i64 a0_0) := (blk_cell BK266.out 0).trans rfl
            have hcz16_1 : wr.cell? ⟨gb266, 1, none⟩ = some (.slice A0_1 l0_1.length c0_1) := (blk_cell BK266.out 1).trans rfl
            have hcz16_2 : wr.cell? ⟨gb266, 2, none⟩ = some (.slice A0_2 l0_2.length c0_2) := (blk_cell BK266.out 2).trans rfl
            have hfz16_0 := blk_frozen BK266.out 0
            have hfz16_1 := blk_frozen BK266.out 1
            have hfz16_2 := blk_frozen BK266.out 2
            go_wp2
            go_ret
            exact ⟨by first | rfl | (simp [errW_none, errW_some] <;> rfl) | (simp [*, errW_none, errW_some] <;> rfl), by repeat (first | (with_reducible first | exact HB.out | apply below_alloc | apply pw_below_drewN | apply below_drew1 | refine below_set ?_ GE266.out) | exact HB.out)⟩

end Go.Proofs.Ytkjibgfgbfacdaa.P
end
/-! part: F28 -/
section
set_option linter.unusedVariables false
set_option linter.unusedSimpArgs false
namespace Go.Proofs.Ytkjibgfgbfacdaa.P
open Go.RowKit Go.Proofs.YtkjibgfgbfacdaaW.PrintWords Go.Proofs.YtkjibgfgbfacdaaW.PrintLast Go.Proofs.YtkjibgfgbfacdaaW.PrintMore
attribute [local go_sem] max2_int min2_int max_two min_two max_three min_three max_four min_four   -- for this text's walks alone
set_option linter.unusedVariables false
set_option linter.unusedSimpArgs false

/-! ### cuvetteref04_Same: function 28 -/
def cuvetteref04_Same.l0 : Nat → List Int → List Int → Int → Int → Option (Bool)
  | 0, _, _, _, _ => none
  | k + 1, x0, x1, x12, x13 => if x13 < x12 then (if 0 ≤ x13 then (if x13 < (x0.length : Int) then (if x13 < (x1.length : Int) then (if (rd x0 x13) = (rd x1 x13) then (cuvetteref04_Same.l0 k x0 x1 x12 (wrap64 (x13 + 1))) else (some false)) else (none)) else (none)) else (none)) else (some true)
def cuvetteref04_Same.f (k : Nat) (l0 : List Int) (l1 : List Int) : Option (Bool) := if (l0.length : Int) = (l1.length : Int) then (cuvetteref04_Same.l0 k l0 l1 (l0.length : Int) 0) else (some false)
theorem cuvetteref04_Same.mono_l : ∀ k, (∀ y0 y1 y2 y3, LeO (cuvetteref04_Same.l0 k y0 y1 y2 y3) (cuvetteref04_Same.l0 (k + 1) y0 y1 y2 y3))
  | 0 => fun _ _ _ _ r h => by simp [cuvetteref04_Same.l0] at h
  | k + 1 => by
    have ih0 := cuvetteref04_Same.mono_l k
    · intro y0 y1 y2 y3
      unfold cuvetteref04_Same.l0
      repeat' first
      | (with_reducible exact ih0 _ _ _ _)
      | (with_reducible exact LeO.refl _)
      | (with_reducible exact LeO.none _)
      | (with_reducible refine LeO.ite ?_ ?_)
      | (with_reducible refine LeO.bind ?_ (fun _ => ?_))
      | exact ih0 _ _ _ _
      | exact LeO.none _
      | refine LeO.ite ?_ ?_
      | refine LeO.bind ?_ (fun _ => ?_)
theorem cuvetteref04_Same.mono : ∀ a0 a1 k, LeO (cuvetteref04_Same.f k a0 a1) (cuvetteref04_Same.f (k + 1) a0 a1) := by
  intro a0 a1 k
  have ih0 := cuvetteref04_Same.mono_l k
  unfold cuvetteref04_Same.f
  repeat' first
      | (with_reducible exact ih0 _ _ _ _)
      | (with_reducible exact LeO.refl _)
      | (with_reducible exact LeO.none _)
      | (with_reducible refine LeO.ite ?_ ?_)
      | (with_reducible refine LeO.bind ?_ (fun _ => ?_))
      | exact ih0 _ _ _ _
      | exact LeO.none _
      | refine LeO.ite ?_ ?_
      | refine LeO.bind ?_ (fun _ => ?_)
set_option maxHeartbeats 8000000 in
set_option maxRecDepth 100000 in
theorem cuvetteref04_Same.calls (k : Nat) (A0 : Option Addr) (c0 : Nat) (l0 : List Int) (A1 : Option Addr) (c1 : Nat) (l1 : List Int) (r : Bool) (w : World) (hr0 : Kd.C (Kd.int .i16) w A0 l0.length l0) (hc0 : l0.length ≤ c0) (hr1 : Kd.C (Kd.int .i16) w A1 l1.length l1) (hc1 : l1.length ≤ c1) (h : cuvetteref04_Same.f k l0 l1 = some r) :
    Calls Try.prog 28 #[.slice A0 l0.length c0, .slice A1 l1.length c1] w fun e w' => e = .returned (.bool r) ∧ Drawn0 w w' := by
  have HR0 := Aside0.mk hr0
  have HC0 := Aside0.mk hc0
  clear hr0 hc0
  have HR1 := Aside0.mk hr1
  have HC1 := Aside0.mk hc1
  clear hr1 hc1
  have H : (if (l0.length : Int) = (l1.length : Int) then (cuvetteref04_Same.l0 k l0 l1 (l0.length : Int) 0) else (some false)) = some r := h
  clear h
  by_cases c3 : (l0.length : Int) = (l1.length : Int)
  · rw [if_pos c3] at H
    have c3b0 : ((l0.length : Int) == (l1.length : Int)) = true := beq_iff_eq.mpr c3
    have c3b1 : ((l0.length : Int) != (l1.length : Int)) = false := bne_eq_false_iff_eq.mpr c3
    have c3b2 : (l0.length == l1.length) = true := by first | simpa using c3 | (simp at c3 ⊢; omega)
    clear c3
    have H' := Aside0.mk H
    clear H
    go_enter Try.func28, Try.ntmps28
    go_wp2
    repeat (go_quiet (fail); try go_wp2)
    go_loopg [13] k (fun kq v13 w' => ∃ (x13_1 : Int), v13 = .int .i64 x13_1 ∧ Aside0 (cuvetteref04_Same.l0 kq l0 l1 (l0.length : Int) x13_1 = some r) ∧ Aside0 (kq ≤ k) ∧ Drawn0 w w')
    case atStart => exact ⟨(0), (by first | rfl | (simp; done) | (simp [*]; done)), H', ⟨Nat.le_refl _⟩, by repeat (first | exact Drawn0.refl _ | apply Drawn0.step)⟩
    case round =>
      clear H'
      try clear c1
      try clear c2
      try clear p2
      try clear c3
      try clear c3b0
      try clear c3b1
      try clear c3b2
      obtain ⟨x13_1, rfl, HA, HK1, ⟨m1, rfl⟩⟩ := hrel
      cases gk with
      | zero => exact absurd HA.out (by simp [cuvetteref04_Same.l0])
      | succ k1 =>
        have H := HA.out
        clear HA
        simp only [cuvetteref04_Same.l0] at H
        by_cases c4 : x13_1 < (l0.length : Int)
        · rw [if_pos c4] at H
          have c4b0 : decide (x13_1 < (l0.length : Int)) = true := decide_eq_true c4
          clear c4
          by_cases c5 : 0 ≤ x13_1
          · rw [if_pos c5] at H
            have c5b0 : decide (0 ≤ x13_1) = true := decide_eq_true c5
            clear c5
            by_cases c6 : x13_1 < (l0.length : Int)
            · rw [if_pos c6] at H
              have c6b0 : decide (x13_1 < (l0.length : Int)) = true := decide_eq_true c6
              clear c6
              by_cases c7 : x13_1 < (l1.length : Int)
              · rw [if_pos c7] at H
                have c7b0 : decide (x13_1 < (l1.length : Int)) = true := decide_eq_true c7
                clear c7
                by_cases c8 : (rd l0 x13_1) = (rd l1 x13_1)
                · rw [if_pos c8] at H
                  have c8b0 : ((rd l0 x13_1) == (rd l1 x13_1)) = true := beq_iff_eq.mpr c8
                  have c8b1 : ((rd l0 x13_1) != (rd l1 x13_1)) = false := bne_eq_false_iff_eq.mpr c8
                  clear c8
                  have H' := Aside0.mk H
                  clear H
                  have p268 : 0 ≤ (x13_1 : Int) := of_decide_eq_true (by first | (with_reducible assumption) | assumption)
                  have q268 : x13_1 < (l0.length : Int) := of_decide_eq_true (by first | (with_reducible assumption) | assumption)
                  obtain ⟨ad268, e268, hx268_0⟩ := Kd.at_int HR0.out x13_1 p268 q268
                  cases e268
                  replace p268 := eq_true p268
                  replace q268 := eq_true q268
                  have p269 : 0 ≤ (x13_1 : Int) := of_decide_eq_true (by first | (with_reducible assumption) | assumption)
                  have q269 : x13_1 < (l1.length : Int) := of_decide_eq_true (by first | (with_reducible assumption) | assumption)
                  obtain ⟨ad269, e269, hx269_0⟩ := Kd.at_int HR1.out x13_1 p269 q269
                  cases e269
                  replace p269 := eq_true p269
                  replace q269 := eq_true q269
                  go_wp2
                  repeat (go_quiet (fail); try go_wp2)
                  go_roundg k1
                  case measure => have := HK1.out; omega
                  case rel => exact ⟨(wrap64 (x13_1 + 1)), (by first | rfl | (simp; done) | (simp [*]; done)), H', ⟨by have := HK1.out; omega⟩, by repeat (first | exact Drawn0.refl _ | apply Drawn0.step)⟩
                · rw [if_neg c8] at H
                  have c8b0 : ((rd l0 x13_1) == (rd l1 x13_1)) = false := beq_eq_false_iff_ne.mpr c8
                  have c8b1 : ((rd l0 x13_1) != (rd l1 x13_1)) = true := bne_iff_ne.mpr c8
                  obtain rfl := Option.some.inj H
                  have p268 : 0 ≤ (x13_1 : Int) := of_decide_eq_true (by first | (with_reducible assumption) | assumption)
                  have q268 : x13_1 < (l0.length : Int) := of_decide_eq_true (by first | (with_reducible assumption) | assumption)
                  obtain ⟨ad268, e268, hx268_0⟩ := Kd.at_int HR0.out x13_1 p268 q268
                  cases e268
                  replace p268 := eq_true p268
                  replace q268 := eq_true q268
                  have p269 : 0 ≤ (x13_1 : Int) := of_decide_eq_true (by first | (with_reducible assumption) | assumption)
                  have q269 : x13_1 < (l1.length : Int) := of_decide_eq_true (by first | (with_reducible assumption) | assumption)
                  obtain ⟨ad269, e269, hx269_0⟩ := Kd.at_int HR1.out x13_1 p269 q269
                  cases e269
                  replace p269 := eq_true p269
                  replace q269 := eq_true q269
                  go_wp2
                  repeat (go_quiet (fail); try go_wp2)
                  go_ret
                  exact ⟨by first | rfl | (simp; done) | (simp [*]; done), by repeat (first | exact Drawn0.refl _ | apply Drawn0.step)⟩
              · rw [if_neg c7] at H
                exact absurd H (by simp)
            · rw [if_neg c6] at H
              exact absurd H (by simp)
          · rw [if_neg c5] at H
            exact absurd H (by simp)
        · rw [if_neg c4] at H
          have c4b0 : decide (x13_1 < (l0.length : Int)) = false := decide_eq_false c4
          clear c4
          obtain rfl := Option.some.inj H
          go_wp2
          repeat (go_quiet (fail); try go_wp2)
          go_ret
          exact ⟨by first | rfl | (simp; done) | (simp [*]; done), by repeat (first | exact Drawn0.refl _ | apply Drawn0.step)⟩
  · rw [if_neg c3] at H
    have c3b0 : ((l0.length : Int) == (l1.length : Int)) = false := beq_eq_false_iff_ne.mpr c3
    have c3b1 : ((l0.length : Int) != (l1.length : Int)) = true := bne_iff_ne.mpr c3
    have c3b2 : (l0.length == l1.length) = false := by first | simpa using c3 | (simp at c3 ⊢; omega)
    obtain rfl := Option.some.inj H
    go_enter Try.func28, Try.ntmps28
    go_wp2
    repeat (go_quiet (fail); try go_wp2)
    go_ret
    exact ⟨by first | rfl | (simp; done) | (simp [*]; done), by repeat (first | exact Drawn0.refl _ | apply Drawn0.step)⟩

end Go.Proofs.Ytkjibgfgbfacdaa.P
end
/-! part: HLays -/
section
set_option linter.unusedVariables false
set_option linter.unusedSimpArgs false
namespace Go.Proofs
open Go.Shelf
def Try.laySort64_ren : Go.Shelf.Ren := ⟨fun | 53 => 123 | 64 => 165 | 63 => 164 | 78 => 185 | 79 => 186 | 70 => 176 | 71 => 177 | 72 => 178 | 73 => 179 | 74 => 180 | 75 => 181 | 59 => 182 | 76 => 183 | 77 => 184 | 88 => 197 | 89 => 198 | 90 => 199 | 91 => 200 | 92 => 201 | 68 => 202 | 96 => 206 | n => n, fun | 22 => 22 | 23 => 2 | 3 => 3 | 51 => 140 | 0 => 0 | 67 => 206 | 69 => 37 | 4 => 4 | 61 => 199 | 60 => 198 | 44 => 127 | 5 => 5 | 9 => 9 | 75 => 217 | 79 => 221 | 83 => 225 | 84 => 226 | n => n, fun | n => n⟩
theorem Try.laySort64 : Go.Proofs.SlLaysN.n53 Try.prog Try.laySort64_ren := {
  mixed := by kernel_rfl
  f53 := ⟨Try.f123.name, by decide, Try.func123.trans (congrArg some (by kernel_rfl))⟩
  f59 := ⟨Try.f182.name, by decide, Try.func182.trans (congrArg some (by kernel_rfl))⟩
  f63 := ⟨Try.f164.name, by decide, Try.func164.trans (congrArg some (by kernel_rfl))⟩
  f64 := Try.func165.trans (congrArg some (by kernel_rfl))
  f68 := ⟨Try.f202.name, by decide, Try.func202.trans (congrArg some (by kernel_rfl))⟩
  f70 := ⟨Try.f176.name, by decide, Try.func176.trans (congrArg some (by kernel_rfl))⟩
  f71 := ⟨Try.f177.name, by decide, Try.func177.trans (congrArg some (by kernel_rfl))⟩
  f72 := ⟨Try.f178.name, by decide, Try.func178.trans (congrArg some (by kernel_rfl))⟩
  f73 := ⟨Try.f179.name, by decide, Try.func179.trans (congrArg some (by kernel_rfl))⟩
  f74 := ⟨Try.f180.name, by decide, Try.func180.trans (congrArg some (by kernel_rfl))⟩
  f75 := ⟨Try.f181.name, by decide, Try.func181.trans (congrArg some (by kernel_rfl))⟩
  f76 := ⟨Try.f183.name, by decide, Try.func183.trans (congrArg some (by kernel_rfl))⟩
  f77 := ⟨Try.f184.name, by decide, Try.func184.trans (congrArg some (by kernel_rfl))⟩
  f78 := Try.func185.trans (congrArg some (by kernel_rfl))
  f79 := Try.func186.trans (congrArg some (by kernel_rfl))
  f88 := ⟨Try.f197.name, by decide, Try.func197.trans (congrArg some (by kernel_rfl))⟩
  f89 := Try.func198.trans (congrArg some (by kernel_rfl))
  f90 := Try.func199.trans (congrArg some (by kernel_rfl))
  f91 := ⟨Try.f200.name, by decide, Try.func200.trans (congrArg some (by kernel_rfl))⟩
  f92 := ⟨Try.f201.name, by decide, Try.func201.trans (congrArg some (by kernel_rfl))⟩
  f96 := ⟨Try.f206.name, by decide, Try.func206.trans (congrArg some (by kernel_rfl))⟩
  t0 := Try.underlying0
  a0 := Try.isAgg0
  z0 := Try.sizeOf0
  v0 := Try.zeroValue0
  t3 := Try.underlying3
  a3 := Try.isAgg3
  z3 := Try.sizeOf3
  v3 := Try.zeroValue3
  t4 := Try.underlying4
  a4 := Try.isAgg4
  z4 := Try.sizeOf4
  v4 := Try.zeroValue4
  t5 := Try.underlying5
  a5 := Try.isAgg5
  z5 := Try.sizeOf5
  v5 := Try.zeroValue5
  t9 := Try.underlying9
  a9 := Try.isAgg9
  z9 := Try.sizeOf9
  v9 := Try.zeroValue9
  t22 := Try.underlying22
  a22 := Try.isAgg22
  z22 := Try.sizeOf22
  v22 := Try.zeroValue22
  t23 := Try.underlying2
  a23 := Try.isAgg2
  z23 := Try.sizeOf2
  v23 := Try.zeroValue2
  t44 := Try.underlying127
  a44 := Try.isAgg127
  z44 := Try.sizeOf127
  v44 := Try.zeroValue127
  t51 := Try.underlying140
  a51 := Try.isAgg140
  z51 := Try.sizeOf140
  v51 := Try.zeroValue140
  t60 := Try.underlying198
  a60 := Try.isAgg198
  z60 := Try.sizeOf198
  v60 := Try.zeroValue198
  t61 := Try.underlying199
  a61 := Try.isAgg199
  z61 := Try.sizeOf199
  v61 := Try.zeroValue199
  t67 := Try.underlying206
  a67 := Try.isAgg206
  z67 := Try.sizeOf206
  v67 := Try.zeroValue206
  t69 := Try.underlying37
  a69 := Try.isAgg37
  z69 := Try.sizeOf37
  v69 := Try.zeroValue37
  t75 := Try.underlying217
  a75 := Try.isAgg217
  z75 := Try.sizeOf217
  v75 := Try.zeroValue217
  t79 := Try.underlying221
  a79 := Try.isAgg221
  z79 := Try.sizeOf221
  v79 := Try.zeroValue221
  t83 := Try.underlying225
  a83 := Try.isAgg225
  z83 := Try.sizeOf225
  v83 := Try.zeroValue225
  t84 := Try.underlying226
  a84 := Try.isAgg226
  z84 := Try.sizeOf226
  v84 := Try.zeroValue226 }
def Try.laySearch_ren : Go.Shelf.Ren := ⟨fun | 16 => 120 | n => n, fun | 3 => 3 | 35 => 157 | 4 => 4 | 38 => 140 | n => n, fun | n => n⟩
end Go.Proofs
end
/-! part: HslotsLive -/
section
set_option linter.unusedVariables false
set_option linter.unusedSimpArgs false
namespace Go.Proofs.Ytkjibgfgbfacdaa.P
open Go.RowKit Go.Maps Go.Sort Go.Proofs.YtkjibgfgbfacdaaW.PrintWords Go.Proofs.YtkjibgfgbfacdaaW.PrintLast Go.Proofs.YtkjibgfgbfacdaaW.PrintMore
set_option linter.unusedVariables false
set_option linter.unusedSimpArgs false
theorem infoLive : (Try.prog.info? 2).map (fun i => (i.zero, i.size, i.bytes)) = some (some (.int .i64 0), 1, 8) := by kernel_rfl
/-- The ids that were collected, sorted. -/
theorem live_sorted {ids ss : List Int} (hn : ss.Nodup) (hf : (ids.filter (fun x => decide (x ≠ -1))).Nodup) (hm : ∀ x, x ∈ ss ↔ dirAg ids x ids.length = true) :
    ss.mergeSort (fun a b => decide (a ≤ b)) = (ids.filter (fun x => decide (x ≠ -1))).mergeSort (fun a b => decide (a ≤ b)) := by
  refine mergeSort_of_perm_i ((List.perm_ext_iff_of_nodup hn hf).2 fun x => ?_)
  rw [hm x, List.mem_filter]
  simp [dirAg, and_comm]
theorem slotsOk_nodup {dim : Int} {ids : List Int} {vecs : List (List Int)} (h : slotsOk dim ids vecs = true) : (ids.filter (fun x => decide (x ≠ -1))).Nodup ∧ ids.length ≤ 256 := by
  unfold slotsOk at h
  simp only [Bool.and_eq_true, decide_eq_true_eq] at h
  exact ⟨h.2, h.1.1.1.2⟩
/-- A map is no row. -/
theorem row_ne_map {H : Type} {P : Program} {k : TypeId} {R : Value → Option (DataW H × List MemPlace)} {W : World} {base n b m : Nat} {e : TypeId} {v : Value} {xs : List Value} {D : DataW H}
    (h : W.ownsRow base e 1 v n xs) (hm : W.ownsMap P k R b m D) : some b ≠ v.ownBlock := by
  obtain ⟨es, clock, hb, _⟩ := hm
  rcases h.2 with ⟨rfl, _⟩ | ⟨gs, cap, cur, rfl, _, hc, _⟩
  · simp [Value.ownBlock]
  · intro e_
    have : b = gs := by simpa [Value.ownBlock] using e_
    subst this
    rw [hb] at hc
    cases hc
set_option maxHeartbeats 4000000 in
set_option maxRecDepth 100000 in
theorem h_slots_Live.calls (a0_0 : Int) (A0_1 : Option Addr) (c0_1 : Nat) (l0_1 : List Int) (A0_2 : Option Addr) (c0_2 : Nat) (l0_2 : List (List Int)) (r1 : List Int) (r2 : Int) (w : World) (hr0_1 : Kd.C (Kd.int .i64) w A0_1 l0_1.length l0_1) (hc0_1 : l0_1.length ≤ c0_1) (hr0_2 : Kd.C (Kd.slice 74 (Kd.int .i16)) w A0_2 l0_2.length l0_2) (hc0_2 : l0_2.length ≤ c0_2) (h : h_slots_Live.f a0_0 l0_1 l0_2 = some (r1, r2)) :
    Calls Try.prog 62 #[.agg #[.int .i64 a0_0, .slice A0_1 l0_1.length c0_1, .slice A0_2 l0_2.length c0_2]] w fun e w' => ∃ v0_ : Value, e = .returned (.tuple #[v0_, .int .i64 r2]) ∧ Kd.R (Kd.int .i64) 2 w' w.heap.size (fun _ => True) v0_ r1 ∧ Below w.heap.size w w' := by
  unfold h_slots_Live.f at h
  by_cases hw : l0_1.all i64B = true
  · rw [if_pos hw] at h
    have h := Option.some.inj h
    have hu25 := Try.underlying25
    have HWF := Aside0.mk (all_wf hw)
    have HD := Aside0.mk (dirP a0_0 l0_1 l0_2 (2 * l0_1.length + 67) (Nat.le_refl _))
    have HR0_1 := Aside0.mk hr0_1
    have HR0_2 := Aside0.mk hr0_2
    have HC0_1 := Aside0.mk hc0_1
    have HC0_2 := Aside0.mk hc0_2
    have HND := Aside0.mk (fun hk => slotsOk_nodup (dim := a0_0) (ids := l0_1) (vecs := l0_2) hk)
    clear hr0_1 hr0_2 hc0_1 hc0_2 hw
    generalize slotsOk a0_0 l0_1 l0_2 = ok at *
    cases ok with
    | false =>
      rw [if_neg (by simp)] at h
      cases h
      clear HND
      go_enter Try.func62, Try.ntmps62
      go_wp2_with (go_at_call 91; refine (slots_directory.calls _ a0_0 _ _ l0_1 _ _ l0_2 false _ HWF.out ?s1 HC0_1.out ?s2 HC0_2.out HD.out).mono ?_; (case s1 => exact Kd.C_alloc HR0_1.out _); (case s2 => exact Kd.C_alloc HR0_2.out _); rintro e w' ⟨v, rfl, hp, hb⟩; have HB := Aside0.mk hb; clear hb hp)
      go_ret2
      exact ⟨_, rfl, Kd.R_nil _ _ _ _ _, below_then (below_alloc (Below.refl _ _) _) (below_alloc (Below.refl _ _) _).size HB.out⟩
    | true =>
      rw [if_pos rfl] at h
      obtain ⟨hnd, h256⟩ := HND.out rfl
      have HF := Aside0.mk hnd
      have H256 := Aside0.mk h256
      have HR := Aside0.mk h
      clear HND hnd h256 h
      obtain ⟨i0, hi, hz⟩ := Option.map_eq_some_iff.1 infoLive
      have hz0 : i0.zero = some (.int .i64 0) := by injection hz
      have hz1 : i0.size = 1 := by injection hz with _ hz; injection hz
      have hz2 : i0.bytes = 8 := by injection hz with _ hz; injection hz
      clear hz
      go_enter Try.func62, Try.ntmps62
      go_wp2_with (first
        | (go_at_call 91; refine (slots_directory.calls _ a0_0 _ _ l0_1 _ _ l0_2 true _ HWF.out ?s1 HC0_1.out ?s2 HC0_2.out HD.out).mono ?_; (case s1 => exact Kd.C_alloc HR0_1.out _); (case s2 => exact Kd.C_alloc HR0_2.out _); rintro e w1 ⟨v, rfl, hp, hb⟩; have HB := Aside0.mk (below_then (below_alloc (Below.refl w.heap.size w) _) (below_alloc (Below.refl _ _) _).size hb); obtain ⟨g, ob, rfl, hob, hdm⟩ := hp.1 rfl; obtain ⟨D0, HMO, HHAS, HAT⟩ := hdm; have HOWN := Aside0.mk (HMO.out w1 g hob); have HSZ := Aside0.mk (Nat.le_trans (HMO.out w1 g hob).size_le (by have := H256.out; omega : ((l0_1.length : Int)).toNat ≤ 256)); clear hb hp hob HMO HAT)
        | (at_len; refine wpList_len_own _ rfl _ 98 rfl 2 3 Try.underlying98 _ g _ _ rfl HOWN.out ?_)
        | (at_make; refine wpList_make_own _ rfl _ _ 22 rfl w.heap.size 2 i0 (.int .i64 0) 1 Try.underlying22 hi hz0 hz1 _ _ _ (Maps.size D0) rfl rfl rfl (by have := HSZ.out; rw [hz2]; omega) (by have := HSZ.out; unfold maxLen; omega) (below_size HB.out) ?_; intro w2 hrow1 hg1; have HROW1 := Aside0.mk hrow1; have HG1 := Aside0.mk hg1; clear hrow1 hg1)
        | (at_range; refine wpList_range_own _ rfl _ 98 rfl 2 3 (Maps.int_keyed Try.underlying2) Try.underlying98 _ g _ _ rfl (HOWN.out.kept HG1.out (by simp)) ?_; intro w0 hrg0 hg0 hs0))
      go_frame
      have HBM := Aside0.mk (HB.out.grown HG1.out (below_size HB.out) (fun j hj => by cases hj))
      go_loopw [6] (fun v wr => ∃ (left : Lit → Bool) (cnt : Nat) (ss : List Int), wr.ranges Try.prog 2 (plainElem Try.prog 3) g w2.heap.size ((l0_1.length : Int)).toNat D0 left cnt ∧ ss.length + cnt ≤ Maps.size D0 ∧
          wr.ownsRow w.heap.size 2 1 v ss.length (ss.map (Value.int .i64)) ∧ v ≠ .slice none 0 0 ∧ CollectedI D0 left ss ∧ Below w.heap.size w wr)
        (fun _ wr => wr.rangeLeft g w2.heap.size)
      case atStart =>
        exact ⟨_, _, [], hrg0, by simp, HROW1.out.kept hg0 (Or.inr (by simp [Value.ownBlock])), by simp, CollectedI.start D0, HBM.out.grown hg0 (below_size HBM.out) (fun j hj => by cases hj)⟩
      case round =>
        obtain ⟨left, cnt, ss, hrg, hcs, hrow, hnn, hC, hnx⟩ := hrel
        have HNX := Aside0.mk hnx
        have HCS := Aside0.mk hcs
        clear hnx hcs hs0 hg0 hrg0
        go_wp2_with (at_next; refine wpList_next_ranges_ii _ rfl _ rfl 2 3 .i64 .i64 (Maps.int_keyed Try.underlying2) Try.underlying2 Try.underlying3 g w2.heap.size ((l0_1.length : Int)).toNat _ _ _ rfl hrg ?_ ?_)
        · -- nothing is left: the slice is sorted and handed back
          intro hc0 hl0
          rcases hrow.2 with ⟨hnil, _⟩ | ⟨gs, cap, cur, rfl, hbase, hb, h1, h2, h3, h4⟩
          · exact absurd hnil hnn
          have hH : Holds (Value.int .i64) wr gs 0 ss.toArray := holds_of_blockI hb (by simpa using h4)
          have hgl : gs < wr.heap.size := (Array.getElem?_eq_some_iff.1 hb).1
          have hsz : ss.length < 4611686018427387904 := by have := HCS.out; have := HSZ.out; omega
          have HCALL := Aside0.mk (AnyG.slices_Sort_int Try.laySort64 gs 0 cap ss wr hH hgl hsz)
          have hmem : ∀ x, x ∈ ss ↔ dirAg l0_1 x l0_1.length = true := fun x => by rw [hC.2 x, hl0, HHAS.out]; simp
          have HS := Aside0.mk (live_sorted hC.1 HF.out hmem)
          have HOUT := Aside0.mk (fun nn os => ownsRow_sortedI (w := wr) (base := w.heap.size) (g := gs) (cap := cap) (n := nn) (os := os) (cur := cur) (ss := ss) (ts := ss.mergeSort (fun x y => decide (x ≤ y))) (e := 2) (by simp) hbase hb h1 h2 h3)
          have HBASE := Aside0.mk hbase
          clear hH hgl hsz hmem hC hbase hb h1 h2 h3 h4 hrow hnn hrg hc0 hl0
          go_wp2_with (go_at_call 123; refine HCALL.out.mono ?_; rintro e w' ⟨rfl, nn, os, rfl⟩)
          go_ret2
          have hr := HR.out
          cases hr
          refine ⟨_, rfl, ?_, HNX.out.grown (grownBy_sortedI _) (below_size HNX.out) (fun j hj => by cases hj; exact HBASE.out)⟩
          rw [← HS.out]
          refine Kd.R_of_own ?_ (fun k hk => trivial)
          have := HOUT.out nn os
          simpa [encs] using this
        · -- an entry has come: its key goes to the slice's end
          intro x c w3 cnt2 hwx hwc hlx hat hrg2 hlt hg2 hs2 hen
          have hrow2 := hrow.kept hg2 (Or.inr (row_ne_iter hrow hrg).symm)
          have HBL := Aside0.mk HOWN.out.lt
          have HN3 := Aside0.mk (HNX.out.grown hg2 (below_size HNX.out) (fun j hj => by cases hj; exact Nat.le_trans (below_size HB.out) HG1.out.size))
          clear hs2
          go_wp2_with (first
            | (at_builtin; refine wpList_append_own _ rfl _ _ 22 rfl w.heap.size 2 i0 (.int .i64 0) 1 8 Try.underlying22 hi hz0 hz1 hz2 rfl (by decide) _ _ _ rfl (hrow2.alloc _) ⟨w3.heap.size, 0, none⟩ 1 1 [.int .i64 x] rfl rfl (cell_one_new _ _ _) (by simp [Value.oneCell']) (by have := HCS.out; have := HSZ.out; unfold maxLen at *; omega) (by have := HCS.out; have := HSZ.out; omega) (by have := below_size HN3.out; simp; omega) ?_; intro v' w4 hown' hg3 hnil3; go_frame))
          have hrg3 := (hrg2.alloc _).kept hg3 (row_ne_map hrow2 hrg2.owns) (row_ne_iter hrow2 hrg2)
          go_roundw
          case rel =>
            refine ⟨_, cnt2, ss ++ [x], hrg3, by have := HCS.out; simp; omega, by simpa using hown', fun hv' => by have := (hnil3.1 hv').2; omega, hC.step hlx hat, ?_⟩
            exact (HN3.out.alloc (below_size HN3.out) _).grown hg3 (by have := below_size HN3.out; simp; omega) (fun j hj => (hrow2.lt j hj).1)
          case measure => rw [hrg3.left_eq, hrg.left_eq]; exact hlt
  · rw [if_neg hw] at h
    cases h
end Go.Proofs.Ytkjibgfgbfacdaa.P
end
