/- The law SlotsFirst of this seat answers true for every input, and its arguments read as they did. Conditions: none. -/
import Derived.Test.YtkjibgfgbfacdaaRows
import Derived.Test.YtkjibgfgbfacdaaKSlotsFirst0
import Derived.Test.YtkjibgfgbfacdaaKSlotsFirst1
import Derived.Test.YtkjibgfgbfacdaaKSlotsFirst2
import Derived.Test.YtkjibgfgbfacdaaKSlotsFirst3
import Derived.Test.YtkjibgfgbfacdaaKSlotsFirst4
/-! part: F33 -/
section
set_option linter.unusedVariables false
set_option linter.unusedSimpArgs false
namespace Go.Proofs.Ytkjibgfgbfacdaa.P
open Go.RowKit Go.Proofs.YtkjibgfgbfacdaaW.PrintWords Go.Proofs.YtkjibgfgbfacdaaW.PrintLast Go.Proofs.YtkjibgfgbfacdaaW.PrintMore
attribute [local go_sem] max2_int min2_int max_two min_two max_three min_three max_four min_four   -- for this text's walks alone
set_option linter.unusedVariables false
set_option linter.unusedSimpArgs false

/-! ### slots_Same: function 33 -/
def slots_Same.f (k : Nat) (a0_0 : Int) (l0_1 : List Int) (l0_2 : List (List Int)) (a1_0 : Int) (l1_1 : List Int) (l1_2 : List (List Int)) : Option (Bool) := if a0_0 = a1_0 then ((slices_Equal_int64_int64.f k l0_1 l1_1).bind fun t381 => (if t381 = true then ((h_EqVecs.f l0_2 l1_2).bind fun t382 => (some t382)) else (some false))) else (some false)
theorem slots_Same.mono : ∀ a0 a1 a2 a3 a4 a5 k, LeO (slots_Same.f k a0 a1 a2 a3 a4 a5) (slots_Same.f (k + 1) a0 a1 a2 a3 a4 a5) := by
  intro a0 a1 a2 a3 a4 a5 k
  unfold slots_Same.f
  repeat' first
      | (with_reducible exact slices_Equal_int64_int64.mono _ _ _)
      | (with_reducible exact LeO.refl _)
      | (with_reducible exact LeO.none _)
      | (with_reducible refine LeO.ite ?_ ?_)
      | (with_reducible refine LeO.bind ?_ (fun _ => ?_))
      | exact slices_Equal_int64_int64.mono _ _ _
      | exact LeO.none _
      | refine LeO.ite ?_ ?_
      | refine LeO.bind ?_ (fun _ => ?_)
set_option maxHeartbeats 8000000 in
set_option maxRecDepth 100000 in
theorem slots_Same.calls (k : Nat) (a0_0 : Int) (A0_1 : Option Addr) (c0_1 : Nat) (l0_1 : List Int) (A0_2 : Option Addr) (c0_2 : Nat) (l0_2 : List (List Int)) (a1_0 : Int) (A1_1 : Option Addr) (c1_1 : Nat) (l1_1 : List Int) (A1_2 : Option Addr) (c1_2 : Nat) (l1_2 : List (List Int)) (r : Bool) (w : World) (hr0_1 : Kd.C (Kd.int .i64) w A0_1 l0_1.length l0_1) (hc0_1 : l0_1.length ≤ c0_1) (hr0_2 : Kd.C (Kd.slice 74 (Kd.int .i16)) w A0_2 l0_2.length l0_2) (hc0_2 : l0_2.length ≤ c0_2) (hr1_1 : Kd.C (Kd.int .i64) w A1_1 l1_1.length l1_1) (hc1_1 : l1_1.length ≤ c1_1) (hr1_2 : Kd.C (Kd.slice 74 (Kd.int .i16)) w A1_2 l1_2.length l1_2) (hc1_2 : l1_2.length ≤ c1_2) (h : slots_Same.f k a0_0 l0_1 l0_2 a1_0 l1_1 l1_2 = some r) :
    Calls Try.prog 33 #[.agg #[.int .i64 a0_0, .slice A0_1 l0_1.length c0_1, .slice A0_2 l0_2.length c0_2], .agg #[.int .i64 a1_0, .slice A1_1 l1_1.length c1_1, .slice A1_2 l1_2.length c1_2]] w fun e w' => e = .returned (.bool r) ∧ Below w.heap.size w w' := by
  have hu25 := Try.underlying25
  have HR0_1 := Aside0.mk hr0_1
  have HC0_1 := Aside0.mk hc0_1
  clear hr0_1 hc0_1
  have HR0_2 := Aside0.mk hr0_2
  have HC0_2 := Aside0.mk hc0_2
  clear hr0_2 hc0_2
  have HR1_1 := Aside0.mk hr1_1
  have HC1_1 := Aside0.mk hc1_1
  clear hr1_1 hc1_1
  have HR1_2 := Aside0.mk hr1_2
  have HC1_2 := Aside0.mk hc1_2
  clear hr1_2 hc1_2
  have HB := Aside0.mk (Below.refl w.heap.size w)
  have H : (if a0_0 = a1_0 then ((slices_Equal_int64_int64.f k l0_1 l1_1).bind fun t381 => (if t381 = true then ((h_EqVecs.f l0_2 l1_2).bind fun t382 => (some t382)) else (some false))) else (some false)) = some r := h
  clear h
  by_cases c3 : a0_0 = a1_0
  · rw [if_pos c3] at H
    have c3b0 : (a0_0 == a1_0) = true := beq_iff_eq.mpr c3
    have c3b1 : (a0_0 != a1_0) = false := bne_eq_false_iff_eq.mpr c3
    clear c3
    replace H := Option.bind_eq_some_iff.mp H
    obtain ⟨t381, A40, H⟩ := H
    replace H : (if t381 = true then ((h_EqVecs.f l0_2 l1_2).bind fun t382 => (some t382)) else (some false)) = some r := H
    have A4 := Aside0.mk A40
    clear A40
    by_cases c5 : t381 = true
    · subst c5
      have H1 : ((h_EqVecs.f l0_2 l1_2).bind fun t382 => (some t382)) = some r := by rw [if_pos rfl] at H; exact H
      clear H
      have H := H1
      clear H1
      replace H := Option.bind_eq_some_iff.mp H
      obtain ⟨t382, A60, H⟩ := H
      replace H : (some t382) = some r := H
      have A6 := Aside0.mk A60
      clear A60
      obtain rfl := Option.some.inj H
      go_enter Try.func33, Try.ntmps33
      go_wp2_with (first | ((with_reducible refine gate_dst (N := 2) rfl ?_); refine box_event ?hg (N := 2) ?hd (cs := #[.int .i64 a0_0, .slice A0_1 l0_1.length c0_1, .slice A0_2 l0_2.length c0_2]) (t := 25) ?hr ?_; (case hd => rfl); (case hg => rfl); (case hr => first | (go_simp; done) | (go_simp; rfl)); intro gb379 hg w7 hbox hb; have n0_ := Aside0.mk (below_step (by repeat (first | (with_reducible first | exact HB.out | apply below_alloc | apply pw_below_drewN | apply below_drew1) | exact HB.out)) hb); have n1_ := Aside0.mk (hbox); have n2_ := Aside0.mk ((by rw [hg]; exact (below_size (by repeat (first | (with_reducible first | exact HB.out | apply below_alloc | apply pw_below_drewN | apply below_drew1) | exact HB.out))) : w.heap.size ≤ gb379)); have n3_ := Aside0.mk ((by rw [hg]; exact (below_size (by repeat (first | (with_reducible first | exact HB.out | apply below_alloc | apply pw_below_drewN | apply below_drew1) | exact HB.out))) : w.heap.size ≤ gb379)); clear HB; have HB := n0_; have BK379 := n1_; have GW379 := n2_; have GE379 := n3_; clear n0_ n1_ n2_ n3_; clear hb hbox hg) | ((with_reducible refine gate_dst (N := 3) rfl ?_); refine box_event ?hg (N := 3) ?hd (cs := #[.int .i64 a1_0, .slice A1_1 l1_1.length c1_1, .slice A1_2 l1_2.length c1_2]) (t := 25) ?hr ?_; (case hd => rfl); (case hg => rfl); (case hr => first | (go_simp; done) | (go_simp; rfl)); intro gb380 hg w8 hbox hb; have n0_ := Aside0.mk (blk_below (g := gb379) (o := .cells #[.int .i64 a0_0, .slice A0_1 l0_1.length c0_1, .slice A0_2 l0_2.length c0_2] 25 (0, 0)) (by (with_reducible repeat (first | refine blk_drewN ?_ _ | refine blk_drew ?_ | refine blk_alloc ?_ _)); exact BK379.out) hb); have n1_ := Aside0.mk (below_step (by repeat (first | (with_reducible first | exact HB.out | apply below_alloc | apply pw_below_drewN | apply below_drew1 | refine below_set ?_ GE379.out) | exact HB.out)) hb); have n2_ := Aside0.mk (hbox); have n3_ := Aside0.mk ((by rw [hg]; exact (below_size (by repeat (first | (with_reducible first | exact HB.out | apply below_alloc | apply pw_below_drewN | apply below_drew1 | refine below_set ?_ GE379.out) | exact HB.out))) : w.heap.size ≤ gb380)); have n4_ := Aside0.mk ((by rw [hg]; exact (below_size (by repeat (first | (with_reducible first | exact HB.out | apply below_alloc | apply pw_below_drewN | apply below_drew1 | refine below_set ?_ GE379.out) | exact HB.out))) : w.heap.size ≤ gb380)); have n5_ := Aside0.mk ((by rw [hg]; exact Nat.ne_of_lt (blk_lt (g := gb379) (o := .cells #[.int .i64 a0_0, .slice A0_1 l0_1.length c0_1, .slice A0_2 l0_2.length c0_2] 25 (0, 0)) (by (with_reducible repeat (first | refine blk_drewN ?_ _ | refine blk_drew ?_ | refine blk_alloc ?_ _)); exact BK379.out)) : gb379 ≠ gb380)); have n6_ := Aside0.mk ((by rw [hg]; exact Nat.ne_of_gt (blk_lt (g := gb379) (o := .cells #[.int .i64 a0_0, .slice A0_1 l0_1.length c0_1, .slice A0_2 l0_2.length c0_2] 25 (0, 0)) (by (with_reducible repeat (first | refine blk_drewN ?_ _ | refine blk_drew ?_ | refine blk_alloc ?_ _)); exact BK379.out)) : gb380 ≠ gb379)); clear BK379; clear HB; have BK379 := n0_; have HB := n1_; have BK380 := n2_; have GW380 := n3_; have GE380 := n4_; have NB379_380 := n5_; have NB380_379 := n6_; clear n0_ n1_ n2_ n3_ n4_ n5_ n6_; clear hb hbox hg; have hnb9 := NB379_380.out; have hnc9 := NB380_379.out; have hcz10_0 : w8.cell? ⟨gb379, 0, none⟩ = some (.int .i64 a0_0) := (blk_cell BK379.out 0).trans rfl; have hcz10_1 : w8.cell? ⟨gb379, 1, none⟩ = some (.slice A0_1 l0_1.length c0_1) := (blk_cell BK379.out 1).trans rfl; have hcz10_2 : w8.cell? ⟨gb379, 2, none⟩ = some (.slice A0_2 l0_2.length c0_2) := (blk_cell BK379.out 2).trans rfl; have hfz10_0 := blk_frozen BK379.out 0; have hfz10_1 := blk_frozen BK379.out 1; have hfz10_2 := blk_frozen BK379.out 2; have hcz11_0 : w8.cell? ⟨gb380, 0, none⟩ = some (.int .i64 a1_0) := (blk_cell BK380.out 0).trans rfl; have hcz11_1 : w8.cell? ⟨gb380, 1, none⟩ = some (.slice A1_1 l1_1.length c1_1) := (blk_cell BK380.out 1).trans rfl; have hcz11_2 : w8.cell? ⟨gb380, 2, none⟩ = some (.slice A1_2 l1_2.length c1_2) := (blk_cell BK380.out 2).trans rfl; have hfz11_0 := blk_frozen BK380.out 0; have hfz11_1 := blk_frozen BK380.out 1; have hfz11_2 := blk_frozen BK380.out 2) | (go_at_call 101; (with_reducible refine (slices_Equal_int64_int64.calls k _ _ l0_1 _ _ l1_1 true _ ?side1 ?side2 ?side3 ?side4 A4.out).mono ?_); (case side1 => repeat (first | exact (Kd.C_below HR0_1.out HB.out) | (with_reducible refine Kd.C_alloc ?_ _) | (with_reducible refine Kd.C_drewN ?_ _) | (with_reducible refine Kd.C_drew ?_))); (case side2 => exact HC0_1.out); (case side3 => repeat (first | exact (Kd.C_below HR1_1.out HB.out) | (with_reducible refine Kd.C_alloc ?_ _) | (with_reducible refine Kd.C_drewN ?_ _) | (with_reducible refine Kd.C_drew ?_))); (case side4 => exact HC1_1.out); rintro e w' ⟨rfl, ⟨nd, rfl⟩⟩) | (go_at_call 99; (with_reducible refine (h_EqVecs.calls _ _ l0_2 _ _ l1_2 t382 _ ?side1 ?side2 ?side3 ?side4 A6.out).mono ?_); (case side1 => repeat (first | exact (Kd.C_below HR0_2.out (by repeat (first | (with_reducible first | exact HB.out | apply below_alloc | apply pw_below_drewN | apply below_drew1 | refine below_set ?_ GE379.out | refine below_set ?_ GE380.out) | exact HB.out))) | (with_reducible refine Kd.C_alloc ?_ _) | (with_reducible refine Kd.C_drewN ?_ _) | (with_reducible refine Kd.C_drew ?_))); (case side2 => exact HC0_2.out); (case side3 => repeat (first | exact (Kd.C_below HR1_2.out (by repeat (first | (with_reducible first | exact HB.out | apply below_alloc | apply pw_below_drewN | apply below_drew1 | refine below_set ?_ GE379.out | refine below_set ?_ GE380.out) | exact HB.out))) | (with_reducible refine Kd.C_alloc ?_ _) | (with_reducible refine Kd.C_drewN ?_ _) | (with_reducible refine Kd.C_drew ?_))); (case side4 => exact HC1_2.out); rintro e w12 ⟨rfl, hb⟩; have n0_ := Aside0.mk (blk_below (g := gb379) (o := .cells #[.int .i64 a0_0, .slice A0_1 l0_1.length c0_1, .slice A0_2 l0_2.length c0_2] 25 (0, 0)) (by (with_reducible repeat (first | refine blk_drewN ?_ _ | refine blk_drew ?_ | refine blk_alloc ?_ _)); exact BK379.out) hb); have n1_ := Aside0.mk (blk_below (g := gb380) (o := .cells #[.int .i64 a1_0, .slice A1_1 l1_1.length c1_1, .slice A1_2 l1_2.length c1_2] 25 (0, 0)) (by (with_reducible repeat (first | refine blk_drewN ?_ _ | refine blk_drew ?_ | refine blk_alloc ?_ _)); exact BK380.out) hb); have n2_ := Aside0.mk (below_step (by repeat (first | (with_reducible first | exact HB.out | apply below_alloc | apply pw_below_drewN | apply below_drew1 | refine below_set ?_ GE379.out | refine below_set ?_ GE380.out) | exact HB.out)) hb); clear BK379; clear BK380; clear HB; have BK379 := n0_; have BK380 := n1_; have HB := n2_; clear n0_ n1_ n2_; (try clear hb); (try clear hb2); (try clear hk); (try clear hi)))
      go_ret
      exact ⟨by first | rfl | (simp [errW_none, errW_some] <;> rfl) | (simp [*, errW_none, errW_some] <;> rfl), by repeat (first | (with_reducible first | exact HB.out | apply below_alloc | apply pw_below_drewN | apply below_drew1 | refine below_set ?_ GE379.out | refine below_set ?_ GE380.out) | exact HB.out)⟩
    · replace c5 := Bool.eq_false_iff.mpr c5
      subst c5
      have H1 : (some false) = some r := by rw [if_neg (show ¬ (false = true) by decide)] at H; exact H
      clear H
      have H := H1
      clear H1
      obtain rfl := Option.some.inj H
      go_enter Try.func33, Try.ntmps33
      go_wp2_with (first | ((with_reducible refine gate_dst (N := 2) rfl ?_); refine box_event ?hg (N := 2) ?hd (cs := #[.int .i64 a0_0, .slice A0_1 l0_1.length c0_1, .slice A0_2 l0_2.length c0_2]) (t := 25) ?hr ?_; (case hd => rfl); (case hg => rfl); (case hr => first | (go_simp; done) | (go_simp; rfl)); intro gb379 hg w13 hbox hb; have n0_ := Aside0.mk (below_step (by repeat (first | (with_reducible first | exact HB.out | apply below_alloc | apply pw_below_drewN | apply below_drew1) | exact HB.out)) hb); have n1_ := Aside0.mk (hbox); have n2_ := Aside0.mk ((by rw [hg]; exact (below_size (by repeat (first | (with_reducible first | exact HB.out | apply below_alloc | apply pw_below_drewN | apply below_drew1) | exact HB.out))) : w.heap.size ≤ gb379)); have n3_ := Aside0.mk ((by rw [hg]; exact (below_size (by repeat (first | (with_reducible first | exact HB.out | apply below_alloc | apply pw_below_drewN | apply below_drew1) | exact HB.out))) : w.heap.size ≤ gb379)); clear HB; have HB := n0_; have BK379 := n1_; have GW379 := n2_; have GE379 := n3_; clear n0_ n1_ n2_ n3_; clear hb hbox hg) | ((with_reducible refine gate_dst (N := 3) rfl ?_); refine box_event ?hg (N := 3) ?hd (cs := #[.int .i64 a1_0, .slice A1_1 l1_1.length c1_1, .slice A1_2 l1_2.length c1_2]) (t := 25) ?hr ?_; (case hd => rfl); (case hg => rfl); (case hr => first | (go_simp; done) | (go_simp; rfl)); intro gb380 hg w14 hbox hb; have n0_ := Aside0.mk (blk_below (g := gb379) (o := .cells #[.int .i64 a0_0, .slice A0_1 l0_1.length c0_1, .slice A0_2 l0_2.length c0_2] 25 (0, 0)) (by (with_reducible repeat (first | refine blk_drewN ?_ _ | refine blk_drew ?_ | refine blk_alloc ?_ _)); exact BK379.out) hb); have n1_ := Aside0.mk (below_step (by repeat (first | (with_reducible first | exact HB.out | apply below_alloc | apply pw_below_drewN | apply below_drew1 | refine below_set ?_ GE379.out) | exact HB.out)) hb); have n2_ := Aside0.mk (hbox); have n3_ := Aside0.mk ((by rw [hg]; exact (below_size (by repeat (first | (with_reducible first | exact HB.out | apply below_alloc | apply pw_below_drewN | apply below_drew1 | refine below_set ?_ GE379.out) | exact HB.out))) : w.heap.size ≤ gb380)); have n4_ := Aside0.mk ((by rw [hg]; exact (below_size (by repeat (first | (with_reducible first | exact HB.out | apply below_alloc | apply pw_below_drewN | apply below_drew1 | refine below_set ?_ GE379.out) | exact HB.out))) : w.heap.size ≤ gb380)); have n5_ := Aside0.mk ((by rw [hg]; exact Nat.ne_of_lt (blk_lt (g := gb379) (o := .cells #[.int .i64 a0_0, .slice A0_1 l0_1.length c0_1, .slice A0_2 l0_2.length c0_2] 25 (0, 0)) (by (with_reducible repeat (first | refine blk_drewN ?_ _ | refine blk_drew ?_ | refine blk_alloc ?_ _)); exact BK379.out)) : gb379 ≠ gb380)); have n6_ := Aside0.mk ((by rw [hg]; exact Nat.ne_of_gt (blk_lt (g := gb379) (o := .cells #[.int .i64 a0_0, .slice A0_1 l0_1.length c0_1, .slice A0_2 l0_2.length c0_2] 25 (0, 0)) (by (with_reducible repeat (first | refine blk_drewN ?_ _ | refine blk_drew ?_ | refine blk_alloc ?_ _)); exact BK379.out)) : gb380 ≠ gb379)); clear BK379; clear HB; have BK379 := n0_; have HB := n1_; have BK380 := n2_; have GW380 := n3_; have GE380 := n4_; have NB379_380 := n5_; have NB380_379 := n6_; clear n0_ n1_ n2_ n3_ n4_ n5_ n6_; clear hb hbox hg; have hnb15 := NB379_380.out; have hnc15 := NB380_379.out; have hcz16_0 : w14.cell? ⟨gb379, 0, none⟩ = some (.int .i64 a0_0) := (blk_cell BK379.out 0).trans rfl; have hcz16_1 : w14.cell? ⟨gb379, 1, none⟩ = some (.slice A0_1 l0_1.length c0_1) := (blk_cell BK379.out 1).trans rfl; have hcz16_2 : w14.cell? ⟨gb379, 2, none⟩ = some (.slice A0_2 l0_2.length c0_2) := (blk_cell BK379.out 2).trans rfl; have hfz16_0 := blk_frozen BK379.out 0; have hfz16_1 := blk_frozen BK379.out 1; have hfz16_2 := blk_frozen BK379.out 2; have hcz17_0 : w14.cell? ⟨gb380, 0, none⟩ = some (.int .i64 a1_0) := (blk_cell BK380.out 0).trans rfl; have hcz17_1 : w14.cell? ⟨gb380, 1, none⟩ = some (.slice A1_1 l1_1.length c1_1) := (blk_cell BK380.out 1).trans rfl; have hcz17_2 : w14.cell? ⟨gb380, 2, none⟩ = some (.slice A1_2 l1_2.length c1_2) := (blk_cell BK380.out 2).trans rfl; have hfz17_0 := blk_frozen BK380.out 0; have hfz17_1 := blk_frozen BK380.out 1; have hfz17_2 := blk_frozen BK380.out 2) | (go_at_call 101; (with_reducible refine (slices_Equal_int64_int64.calls k _ _ l0_1 _ _ l1_1 false _ ?side1 ?side2 ?side3 ?side4 A4.out).mono ?_); (case side1 => repeat (first | exact (Kd.C_below HR0_1.out HB.out) | (with_reducible refine Kd.C_alloc ?_ _) | (with_reducible refine Kd.C_drewN ?_ _) | (with_reducible refine Kd.C_drew ?_))); (case side2 => exact HC0_1.out); (case side3 => repeat (first | exact (Kd.C_below HR1_1.out HB.out) | (with_reducible refine Kd.C_alloc ?_ _) | (with_reducible refine Kd.C_drewN ?_ _) | (with_reducible refine Kd.C_drew ?_))); (case side4 => exact HC1_1.out); rintro e w' ⟨rfl, ⟨nd, rfl⟩⟩))
      go_ret
      exact ⟨by first | rfl | (simp [errW_none, errW_some] <;> rfl) | (simp [*, errW_none, errW_some] <;> rfl), by repeat (first | (with_reducible first | exact HB.out | apply below_alloc | apply pw_below_drewN | apply below_drew1 | refine below_set ?_ GE379.out | refine below_set ?_ GE380.out) | exact HB.out)⟩
  · rw [if_neg c3] at H
    have c3b0 : (a0_0 == a1_0) = false := beq_eq_false_iff_ne.mpr c3
    have c3b1 : (a0_0 != a1_0) = true := bne_iff_ne.mpr c3
    obtain rfl := Option.some.inj H
    go_enter Try.func33, Try.ntmps33
    go_wp2_with (first | ((with_reducible refine gate_dst (N := 2) rfl ?_); refine box_event ?hg (N := 2) ?hd (cs := #[.int .i64 a0_0, .slice A0_1 l0_1.length c0_1, .slice A0_2 l0_2.length c0_2]) (t := 25) ?hr ?_; (case hd => rfl); (case hg => rfl); (case hr => first | (go_simp; done) | (go_simp; rfl)); intro gb379 hg w18 hbox hb; have n0_ := Aside0.mk (below_step (by repeat (first | (with_reducible first | exact HB.out | apply below_alloc | apply pw_below_drewN | apply below_drew1) | exact HB.out)) hb); have n1_ := Aside0.mk (hbox); have n2_ := Aside0.mk ((by rw [hg]; exact (below_size (by repeat (first | (with_reducible first | exact HB.out | apply below_alloc | apply pw_below_drewN | apply below_drew1) | exact HB.out))) : w.heap.size ≤ gb379)); have n3_ := Aside0.mk ((by rw [hg]; exact (below_size (by repeat (first | (with_reducible first | exact HB.out | apply below_alloc | apply pw_below_drewN | apply below_drew1) | exact HB.out))) : w.heap.size ≤ gb379)); clear HB; have HB := n0_; have BK379 := n1_; have GW379 := n2_; have GE379 := n3_; clear n0_ n1_ n2_ n3_; clear hb hbox hg) | ((with_reducible refine gate_dst (N := 3) rfl ?_); refine box_event ?hg (N := 3) ?hd (cs := #[.int .i64 a1_0, .slice A1_1 l1_1.length c1_1, .slice A1_2 l1_2.length c1_2]) (t := 25) ?hr ?_; (case hd => rfl); (case hg => rfl); (case hr => first | (go_simp; done) | (go_simp; rfl)); intro gb380 hg w19 hbox hb; have n0_ := Aside0.mk (blk_below (g := gb379) (o := .cells #[.int .i64 a0_0, .slice A0_1 l0_1.length c0_1, .slice A0_2 l0_2.length c0_2] 25 (0, 0)) (by (with_reducible repeat (first | refine blk_drewN ?_ _ | refine blk_drew ?_ | refine blk_alloc ?_ _)); exact BK379.out) hb); have n1_ := Aside0.mk (below_step (by repeat (first | (with_reducible first | exact HB.out | apply below_alloc | apply pw_below_drewN | apply below_drew1 | refine below_set ?_ GE379.out) | exact HB.out)) hb); have n2_ := Aside0.mk (hbox); have n3_ := Aside0.mk ((by rw [hg]; exact (below_size (by repeat (first | (with_reducible first | exact HB.out | apply below_alloc | apply pw_below_drewN | apply below_drew1 | refine below_set ?_ GE379.out) | exact HB.out))) : w.heap.size ≤ gb380)); have n4_ := Aside0.mk ((by rw [hg]; exact (below_size (by repeat (first | (with_reducible first | exact HB.out | apply below_alloc | apply pw_below_drewN | apply below_drew1 | refine below_set ?_ GE379.out) | exact HB.out))) : w.heap.size ≤ gb380)); have n5_ := Aside0.mk ((by rw [hg]; exact Nat.ne_of_lt (blk_lt (g := gb379) (o := .cells #[.int .i64 a0_0, .slice A0_1 l0_1.length c0_1, .slice A0_2 l0_2.length c0_2] 25 (0, 0)) (by (with_reducible repeat (first | refine blk_drewN ?_ _ | refine blk_drew ?_ | refine blk_alloc ?_ _)); exact BK379.out)) : gb379 ≠ gb380)); have n6_ := Aside0.mk ((by rw [hg]; exact Nat.ne_of_gt (blk_lt (g := gb379) (o := .cells #[.int .i64 a0_0, .slice A0_1 l0_1.length c0_1, .slice A0_2 l0_2.length c0_2] 25 (0, 0)) (by (with_reducible repeat (first | refine blk_drewN ?_ _ | refine blk_drew ?_ | refine blk_alloc ?_ _)); exact BK379.out)) : gb380 ≠ gb379)); clear BK379; clear HB; have BK379 := n0_; have HB := n1_; have BK380 := n2_; have GW380 := n3_; have GE380 := n4_; have NB379_380 := n5_; have NB380_379 := n6_; clear n0_ n1_ n2_ n3_ n4_ n5_ n6_; clear hb hbox hg; have hnb20 := NB379_380.out; have hnc20 := NB380_379.out; have hcz21_0 : w19.cell? ⟨gb379, 0, none⟩ = some (.int .i64 a0_0) := (blk_cell BK379.out 0).trans rfl; have hcz21_1 : w19.cell? ⟨gb379, 1, none⟩ = some (.slice A0_1 l0_1.length c0_1) := (blk_cell BK379.out 1).trans rfl; have hcz21_2 : w19.cell? ⟨gb379, 2, none⟩ = some (.slice A0_2 l0_2.length c0_2) := (blk_cell BK379.out 2).trans rfl; have hfz21_0 := blk_frozen BK379.out 0; have hfz21_1 := blk_frozen BK379.out 1; have hfz21_2 := blk_frozen BK379.out 2; have hcz22_0 : w19.cell? ⟨gb380, 0, none⟩ = some (.int .i64 a1_0) := (blk_cell BK380.out 0).trans rfl; have hcz22_1 : w19.cell? ⟨gb380, 1, none⟩ = some (.slice A1_1 l1_1.length c1_1) := (blk_cell BK380.out 1).trans rfl; have hcz22_2 : w19.cell? ⟨gb380, 2, none⟩ = some (.slice A1_2 l1_2.length c1_2) := (blk_cell BK380.out 2).trans rfl; have hfz22_0 := blk_frozen BK380.out 0; have hfz22_1 := blk_frozen BK380.out 1; have hfz22_2 := blk_frozen BK380.out 2))
    go_ret
    exact ⟨by first | rfl | (simp [errW_none, errW_some] <;> rfl) | (simp [*, errW_none, errW_some] <;> rfl), by repeat (first | (with_reducible first | exact HB.out | apply below_alloc | apply pw_below_drewN | apply below_drew1 | refine below_set ?_ GE379.out | refine below_set ?_ GE380.out) | exact HB.out)⟩

end Go.Proofs.Ytkjibgfgbfacdaa.P
end
/-! part: PSlotsPut -/
section
set_option linter.unusedVariables false
set_option linter.unusedSimpArgs false
namespace Go.Proofs.Ytkjibgfgbfacdaa.P
open Go.RowKit Go.Proofs.YtkjibgfgbfacdaaW.PrintWords Go.Proofs.YtkjibgfgbfacdaaW.PrintLast Go.Proofs.YtkjibgfgbfacdaaW.PrintMore
set_option linter.unusedVariables false

/-! ### with -/
theorem cloneI64 (v : List Int) (h : v.length < 17592186044416) : slices_Clone_int64_int64.f v = some v := by
  unfold slices_Clone_int64_int64.f
  simp [h]
theorem cloneVecs (v : List (List Int)) (h : v.length < 5864062014805) : api_Vec_144.f v = some v := by
  unfold api_Vec_144.f
  simp [h]
theorem with_l (dim : Int) (ids : List Int) (vecs : List (List Int)) (i id : Int) (v : List Int) (hl : vecs.length = ids.length) (hm : ids.length ≤ 256) (hr : ∀ y ∈ vecs, y.length ≤ 64) (hv : v.length ≤ 64)
    (h0 : 0 ≤ i) (h1 : i < (ids.length : Int)) (d : Nat) : ∀ j : Int, 0 ≤ j → j ≤ (vecs.length : Int) → (vecs.length : Int) - j = d →
    Ev (fun k => slots_with.l0 k i id v (vecs.length : Int) j dim ids vecs) (dim, ids.set i.toNat id, vecs.set i.toNat v) := by
  induction d with
  | zero =>
    intro j j0 j1 hd
    refine Ev.step (fun k => by
      simp only [slots_with.l0]
      rw [if_neg (by omega), cloneVec v (by omega)]
      simp only [Option.bind_some]
      rw [if_pos h0, if_pos h1, if_pos (by omega)]) (Ev.const _)
  | succ d ih =>
    intro j j0 j1 hd
    have hj := hr _ (getD_mem [] vecs j j0 (by omega))
    have e : vecs.set j.toNat (vecs.getD j.toNat []) = vecs := by
      have hjl : j.toNat < vecs.length := by omega
      simp [List.getD_eq_getElem?_getD, hjl]
    refine Ev.step (g' := fun k => slots_with.l0 k i id v (vecs.length : Int) (j + 1) dim ids vecs) (fun k => by
      simp only [slots_with.l0]
      rw [if_pos (by omega), if_pos j0, if_pos (by omega), show rd_L3 vecs j = vecs.getD j.toNat [] from rfl, cloneVec _ (by omega), w64 (by omega) (by omega)]
      simp only [Option.bind_some]
      rw [e]) (ih (j + 1) (by omega) (by omega) (by omega))
theorem with_ev (dim : Int) (ids : List Int) (vecs : List (List Int)) (i id : Int) (v : List Int) (hl : vecs.length = ids.length) (hm : ids.length ≤ 256) (hr : ∀ y ∈ vecs, y.length ≤ 64) (hv : v.length ≤ 64)
    (h0 : 0 ≤ i) (h1 : i < (ids.length : Int)) : Ev (fun k => slots_with.f k dim ids vecs i id v) (dim, ids.set i.toNat id, vecs.set i.toNat v) := by
  refine Ev.congr (g' := fun k => slots_with.l0 k i id v (vecs.length : Int) 0 dim ids vecs) (fun k => by
    unfold slots_with.f
    rw [cloneI64 ids (by omega), cloneVecs vecs (by omega)]
    simp only [Option.bind_some]) ?_
  exact with_l dim ids vecs i id v hl hm hr hv h0 h1 vecs.length 0 (by omega) (by omega) (by omega)

/-! ### what put and del do -/
def putS (dim : Int) (ids : List Int) (vecs : List (List Int)) (id : Int) (v : List Int) : Int × Int × List Int × List (List Int) × Int :=
  if slotsOk dim ids vecs = true ∧ isIdB id = true ∧ vecOk v = true ∧ (v.length : Int) = dim then
    (if ids.idxOf id < ids.length then ((ids.idxOf id : Int), dim, ids.set (ids.idxOf id) id, vecs.set (ids.idxOf id) v, 0)
     else if ids.idxOf (-1) < ids.length then ((ids.idxOf (-1) : Int), dim, ids.set (ids.idxOf (-1)) id, vecs.set (ids.idxOf (-1)) v, 0)
     else (0, 0, [], [], 7))
  else (0, 0, [], [], 1)
def delS (dim : Int) (ids : List Int) (vecs : List (List Int)) (id : Int) : Int × Int × List Int × List (List Int) × Int :=
  if slotsOk dim ids vecs = true ∧ isIdB id = true then
    (if ids.idxOf id < ids.length then ((ids.idxOf id : Int), dim, ids.set (ids.idxOf id) (-1), vecs.set (ids.idxOf id) [], 0) else (0, 0, [], [], 5))
  else (0, 0, [], [], 1)
theorem index_l (ids : List Int) (x : Int) (hm : ids.length ≤ 9223372036854775807) (d : Nat) : ∀ i : Int, 0 ≤ i → i ≤ (ids.length : Int) → (ids.length : Int) - i = d →
    Ev (fun k => slices_Index_int64_int64.l0 k ids x (ids.length : Int) i) (if (ids.drop i.toNat).idxOf x < (ids.drop i.toNat).length then i + ((ids.drop i.toNat).idxOf x : Int) else -1) := by
  induction d with
  | zero =>
    intro i h0 h1 hd
    refine Ev.step (fun k => by simp only [slices_Index_int64_int64.l0]; rw [if_neg (by omega)]) ?_
    rw [List.drop_eq_nil_of_le (by omega)]
    exact Ev.const _
  | succ d ih =>
    intro i h0 h1 hd
    rw [rdO 0 ids i h0 (by omega)]
    by_cases e : x = rd ids i
    · refine Ev.step (fun k => by simp only [slices_Index_int64_int64.l0]; rw [if_pos (by omega), if_pos h0, if_pos (by omega), if_pos e]) ?_
      have e' : ids.getD i.toNat 0 = x := e.symm
      rw [List.idxOf_cons, e']
      simp only [beq_self_eq_true, if_true, cond_true]
      refine Ev.of fun k => ?_
      simp
    · have e' : ids.getD i.toNat 0 ≠ x := fun h => e h.symm
      refine Ev.step (fun k => by simp only [slices_Index_int64_int64.l0]; rw [if_pos (by omega), if_pos h0, if_pos (by omega), if_neg e, w64 (by omega) (by omega)]) ?_
      have := ih (i + 1) (by omega) (by omega) (by omega)
      rw [List.idxOf_cons, (beq_eq_false_iff_ne).2 e']
      simp only [cond_false, List.length_cons]
      by_cases hc : (ids.drop (i + 1).toNat).idxOf x < (ids.drop (i + 1).toNat).length
      · rw [if_pos hc] at this
        rw [if_pos (by omega)]
        rw [show i + (((ids.drop (i + 1).toNat).idxOf x + 1 : Nat) : Int) = i + 1 + ((ids.drop (i + 1).toNat).idxOf x : Int) by omega]
        exact this
      · rw [if_neg hc] at this
        rw [if_neg (by omega)]
        exact this
theorem index_ev (ids : List Int) (x : Int) (hm : ids.length ≤ 9223372036854775807) : Ev (fun k => slices_Index_int64_int64.f k ids x) (if ids.idxOf x < ids.length then (ids.idxOf x : Int) else -1) := by
  have := index_l ids x hm ids.length 0 (by omega) (by omega) (by omega)
  simpa [slices_Index_int64_int64.f] using this
theorem rows64 {dim : Int} {ids : List Int} {vecs : List (List Int)} (h : slotsOk dim ids vecs = true) : ∀ y ∈ vecs, y.length ≤ 64 := by
  obtain ⟨_, _, _, _, h5, h6, _⟩ := slotsOk_parts h
  intro y hy
  obtain ⟨j, hj, rfl⟩ := List.getElem_of_mem hy
  have := h6 j (by omega)
  rw [show vecs.getD j [] = vecs[j] by simp [List.getD_eq_getElem?_getD, hj]] at this
  unfold slotOk at this
  simp only [Bool.or_eq_true, Bool.and_eq_true, decide_eq_true_eq] at this
  rcases this with ⟨_, h1⟩ | ⟨⟨_, h2⟩, _⟩
  · rw [List.isEmpty_iff] at h1; rw [h1]; exact Nat.zero_le _
  · exact (vecOk_len h2).2
theorem find_eq (dim : Int) (ids : List Int) (vecs : List (List Int)) (id : Int) (hi : ids.all i64B = true) (hd : i64B id = true) :
    h_slots_Find.f dim ids vecs id = some (if slotsOk dim ids vecs = true ∧ isIdB id = true then (if ids.idxOf id < ids.length then ((ids.idxOf id : Int), 0) else (0, 5)) else (0, 1)) := by
  unfold h_slots_Find.f
  rw [if_pos ⟨hi, hd⟩]
theorem fits_ev (dim : Int) (ids : List Int) (vecs : List (List Int)) (v : List Int) : Ev (fun k => slots_fits.f k dim ids vecs v) (vecOk v && decide ((v.length : Int) = dim)) :=
  ⟨65, fun k hk => fitsP dim ids vecs v k hk⟩
theorem put_ev (dim : Int) (ids : List Int) (vecs : List (List Int)) (id : Int) (v : List Int) (hi : ids.all i64B = true) (hd : i64B id = true) : Ev (fun k => slots_Put.f k dim ids vecs id v) (putS dim ids vecs id v) := by
  have hf := find_eq dim ids vecs id hi hd
  unfold putS
  by_cases hk : slotsOk dim ids vecs = true ∧ isIdB id = true
  · rw [if_pos hk] at hf
    obtain ⟨s1, s2, s3, s4, s5, _, _⟩ := slotsOk_parts hk.1
    by_cases hv : vecOk v = true ∧ (v.length : Int) = dim
    · have hvl := vecOk_len hv.1
      rw [if_pos ⟨hk.1, hk.2, hv.1, hv.2⟩]
      have hfit : (vecOk v && decide ((v.length : Int) = dim)) = true := by rw [hv.1, decide_eq_true hv.2]; rfl
      by_cases hx : ids.idxOf id < ids.length
      · rw [if_pos hx] at hf ⊢
        refine Ev.congr (g' := fun k => (slots_fits.f k dim ids vecs v).bind fun t => slots_Put.j0 k id v (ids.idxOf id : Int) 0 (!t) dim ids vecs) (fun k => by
          unfold slots_Put.f
          rw [hf]
          simp only [Option.bind_some]
          rw [if_neg (by decide)]) ?_
        refine Ev.bind (fits_ev dim ids vecs v) ?_
        rw [hfit]
        refine Ev.step (g' := fun k => (slots_with.f k dim ids vecs (ids.idxOf id : Int) id v).bind fun bt => some ((ids.idxOf id : Int), bt.1, bt.2.1, bt.2.2, 0)) (fun k => by
          simp only [slots_Put.j0]
          rw [if_neg (by decide), if_neg (by decide)]) ?_
        refine Ev.bind (with_ev dim ids vecs (ids.idxOf id : Int) id v s5 s4 (rows64 hk.1) hvl.2 (by omega) (by omega)) ?_
        simp only [Int.toNat_natCast]
        exact Ev.const _
      · rw [if_neg hx] at hf ⊢
        refine Ev.congr (g' := fun k => (slots_fits.f k dim ids vecs v).bind fun t => slots_Put.j0 k id v 0 5 (!t) dim ids vecs) (fun k => by
          unfold slots_Put.f
          rw [hf]
          simp only [Option.bind_some]
          rw [if_neg (by decide)]) ?_
        refine Ev.bind (fits_ev dim ids vecs v) ?_
        rw [hfit]
        refine Ev.step (g' := fun k => (slices_Index_int64_int64.f k ids (-1)).bind fun t166 => (if t166 < 0 then (some (0, 0, ([] : List Int), ([] : List (List Int)), 7)) else ((slots_with.f k dim ids vecs t166 id v).bind fun bt167 => (some (t166, bt167.1, bt167.2.1, bt167.2.2, 0))))) (fun k => by
          simp only [slots_Put.j0]
          rw [if_neg (by decide), if_pos (by decide)]) ?_
        refine Ev.bind (index_ev ids (-1) (by omega)) ?_
        by_cases hn : ids.idxOf (-1) < ids.length
        · rw [if_pos hn, if_pos hn]
          have hneg : ¬ ((ids.idxOf (-1) : Int) < 0) := by omega
          simp only [if_neg hneg]
          refine Ev.bind (with_ev dim ids vecs (ids.idxOf (-1) : Int) id v s5 s4 (rows64 hk.1) hvl.2 (by omega) (by omega)) ?_
          simp only [Int.toNat_natCast]
          exact Ev.const _
        · rw [if_neg hn, if_neg hn]
          exact Ev.of fun k => by simp
    · rw [if_neg (fun z => hv ⟨z.2.2.1, z.2.2.2⟩)]
      have hfit : (vecOk v && decide ((v.length : Int) = dim)) = false := by
        cases h1 : vecOk v
        · rfl
        · rw [decide_eq_false (fun z => hv ⟨h1, z⟩)]; rfl
      have hne : ¬ (if ids.idxOf id < ids.length then ((ids.idxOf id : Int), (0 : Int)) else (0, 5)).2 = 1 := by split <;> simp
      refine Ev.congr (g' := fun k => (slots_fits.f k dim ids vecs v).bind fun t => slots_Put.j0 k id v (if ids.idxOf id < ids.length then ((ids.idxOf id : Int), (0 : Int)) else (0, 5)).1 (if ids.idxOf id < ids.length then ((ids.idxOf id : Int), (0 : Int)) else (0, 5)).2 (!t) dim ids vecs) (fun k => by
        unfold slots_Put.f
        rw [hf]
        simp only [Option.bind_some]
        rw [if_neg hne]) ?_
      refine Ev.bind (fits_ev dim ids vecs v) ?_
      rw [hfit]
      exact Ev.step (g' := fun _ => some (0, 0, [], [], 1)) (fun k => by simp [slots_Put.j0]) (Ev.const _)
  · rw [if_neg hk] at hf
    rw [if_neg (fun z => hk ⟨z.1, z.2.1⟩)]
    refine Ev.congr (g' := fun k => slots_Put.j0 k id v 0 1 true dim ids vecs) (fun k => by
      unfold slots_Put.f
      rw [hf]
      simp only [Option.bind_some, if_true]) ?_
    exact Ev.step (g' := fun _ => some (0, 0, [], [], 1)) (fun k => by simp [slots_Put.j0]) (Ev.const _)
theorem del_ev (dim : Int) (ids : List Int) (vecs : List (List Int)) (id : Int) (hi : ids.all i64B = true) (hd : i64B id = true) : Ev (fun k => slots_Del.f k dim ids vecs id) (delS dim ids vecs id) := by
  have hf := find_eq dim ids vecs id hi hd
  unfold delS slots_Del.f
  by_cases hk : slotsOk dim ids vecs = true ∧ isIdB id = true
  · rw [if_pos hk] at hf ⊢
    obtain ⟨s1, s2, s3, s4, s5, _, _⟩ := slotsOk_parts hk.1
    by_cases hx : ids.idxOf id < ids.length
    · rw [if_pos hx] at hf ⊢
      simp only [hf, Option.bind_some, if_true]
      refine Ev.bind (with_ev dim ids vecs (ids.idxOf id : Int) (-1) [] s5 s4 (rows64 hk.1) (by simp) (by omega) (by omega)) ?_
      simp only [Int.toNat_natCast]
      exact Ev.const _
    · rw [if_neg hx] at hf ⊢
      simp only [hf, Option.bind_some]
      exact Ev.of fun k => by simp
  · rw [if_neg hk] at hf ⊢
    simp only [hf, Option.bind_some]
    exact Ev.of fun k => by simp

/-! ### slots stay slots -/
theorem idxOf_le_of (x : Int) (l : List Int) : ∀ m, m < l.length → l.getD m 0 = x → l.idxOf x ≤ m := by
  induction l with
  | nil => intro m h; simp at h
  | cons a t ih =>
    intro m h e
    rw [List.idxOf_cons]
    by_cases c : a = x
    · rw [(beq_iff_eq).2 c]; simp
    · rw [(beq_eq_false_iff_ne).2 c]
      simp only [cond_false]
      cases m with
      | zero => exact absurd e c
      | succ m =>
        have := ih m (by simpa using h) (by simpa using e)
        omega
theorem getD_idxOf (x : Int) (l : List Int) : l.idxOf x < l.length → l.getD (l.idxOf x) 0 = x := by
  induction l with
  | nil => intro h; simp at h
  | cons a t ih =>
    intro h
    rw [List.idxOf_cons] at h ⊢
    by_cases c : a = x
    · rw [(beq_iff_eq).2 c]; simpa using c
    · rw [(beq_eq_false_iff_ne).2 c] at h ⊢
      simp only [cond_false, List.length_cons] at h ⊢
      have := ih (by omega)
      simpa using this
theorem idxOf_set (x : Int) (l : List Int) : ∀ j, j < l.length → x ∉ l → (l.set j x).idxOf x = j := by
  induction l with
  | nil => intro j h; simp at h
  | cons a t ih =>
    intro j h hx
    have ha : a ≠ x := fun e => hx (by simp [e])
    have ht : x ∉ t := fun e => hx (by simp [e])
    cases j with
    | zero => simp
    | succ j =>
      rw [List.set_cons_succ, List.idxOf_cons, (beq_eq_false_iff_ne).2 ha]
      simp only [cond_false]
      rw [ih j (by simpa using h) ht]
theorem slotsOk_mk {dim : Int} {ids : List Int} {vecs : List (List Int)} (h1 : 1 ≤ dim) (h2 : dim ≤ 64) (h3 : 1 ≤ ids.length) (h4 : ids.length ≤ 256) (h5 : vecs.length = ids.length)
    (h6 : ∀ j : Nat, j < ids.length → slotOk dim (ids.getD j 0) (vecs.getD j []) = true) (h7 : (ids.filter (fun x => decide (x ≠ -1))).Nodup) : slotsOk dim ids vecs = true := by
  unfold slotsOk
  simp only [Bool.and_eq_true, decide_eq_true_eq]
  refine ⟨⟨⟨⟨⟨⟨h1, h2⟩, h3⟩, h4⟩, h5⟩, ?_⟩, h7⟩
  refine List.all_eq_true.2 fun p hp => ?_
  obtain ⟨j, hj, rfl⟩ := List.getElem_of_mem hp
  have hz : j < ids.length := by rw [List.length_zip] at hj; omega
  have hv : j < vecs.length := by omega
  have := h6 j hz
  rw [List.getElem_zip]
  simpa [List.getD_eq_getElem?_getD, hz, hv] using this
theorem live_set {ids : List Int} {j : Nat} {id : Int} (hj : j < ids.length) (h : (ids.filter (fun x => decide (x ≠ -1))).Nodup) (hc : ids.getD j 0 = id ∨ id = -1 ∨ id ∉ ids) : ((ids.set j id).filter (fun x => decide (x ≠ -1))).Nodup := by
  have e0 : ids = ids.take j ++ ids.getD j 0 :: ids.drop (j + 1) := by
    rw [show ids.getD j 0 = ids[j] by simp [List.getD_eq_getElem?_getD, hj], ← List.drop_eq_getElem_cons hj, List.take_append_drop]
  have e1 : ids.set j id = ids.take j ++ id :: ids.drop (j + 1) := by rw [List.set_eq_take_append_cons_drop, if_pos hj]
  have hAB : ((ids.take j).filter (fun x => decide (x ≠ -1)) ++ (ids.drop (j + 1)).filter (fun x => decide (x ≠ -1))).Nodup := by
    refine List.Sublist.nodup ?_ h
    conv => rhs; rw [e0]
    rw [List.filter_append]
    refine List.Sublist.append (List.Sublist.refl _) ?_
    rw [List.filter_cons]
    split
    · exact List.sublist_cons_self _ _
    · exact List.Sublist.refl _
  rcases hc with hc | hc | hc
  · have : ids.set j id = ids := by rw [e1, ← hc, ← e0]
    rw [this]
    exact h
  · rw [e1, List.filter_append, List.filter_cons, if_neg (by simp [hc])]
    exact hAB
  · rw [e1, List.filter_append, List.filter_cons]
    split
    · rw [List.perm_middle.nodup_iff, List.nodup_cons]
      refine ⟨fun hm => hc ?_, hAB⟩
      rcases List.mem_append.1 hm with hm | hm
      · exact List.mem_of_mem_take (List.mem_filter.1 hm).1
      · exact List.mem_of_mem_drop (List.mem_filter.1 hm).1
    · exact hAB
theorem slotsOk_set {dim : Int} {ids : List Int} {vecs : List (List Int)} (h : slotsOk dim ids vecs = true) {j : Nat} (hj : j < ids.length) {id : Int} {v : List Int} (hs : slotOk dim id v = true) (hc : ids.getD j 0 = id ∨ id = -1 ∨ id ∉ ids) :
    slotsOk dim (ids.set j id) (vecs.set j v) = true := by
  obtain ⟨h1, h2, h3, h4, h5, h6, h7⟩ := slotsOk_parts h
  refine slotsOk_mk h1 h2 (by simpa using h3) (by simpa using h4) (by simpa using h5) (fun q hq => ?_) (live_set hj h7 hc)
  rw [List.length_set] at hq
  by_cases e : q = j
  · subst e
    have hv : q < vecs.length := by omega
    simpa [List.getD_eq_getElem?_getD, hj, hv] using hs
  · have := h6 q hq
    simpa [List.getD_eq_getElem?_getD, List.getElem?_set, Ne.symm e] using this
theorem slotOk_new {dim id : Int} {v : List Int} (h1 : isIdB id = true) (h2 : vecOk v = true) (h3 : (v.length : Int) = dim) : slotOk dim id v = true := by
  unfold slotOk
  rw [h1, h2, decide_eq_true h3]
  simp
theorem slotOk_gone (dim : Int) : slotOk dim (-1) [] = true := by
  unfold slotOk
  simp
theorem sameVec04 (a b : List Int) (hm : a.length ≤ 9223372036854775807) : Ev (fun k => cuvetteref04_Same.f k a b) (decide (a = b)) :=
  ⟨a.length + 1, fun k hk => eqLoop0 0 cuvetteref04_Same.l0 (fun k xs ys n i => by simp only [cuvetteref04_Same.l0]; rfl) a b hm k (by omega)⟩
theorem sameInts03 (a b : List Int) (hm : a.length ≤ 9223372036854775807) : Ev (fun k => cuvetteref03_SameInts.f k a b) (decide (a = b)) :=
  ⟨a.length + 1, fun k hk => eqLoop0 0 cuvetteref03_SameInts.l0 (fun k xs ys n i => by simp only [cuvetteref03_SameInts.l0]; rfl) a b hm k (by omega)⟩
theorem equalI64 (a b : List Int) (hm : a.length ≤ 9223372036854775807) : Ev (fun k => slices_Equal_int64_int64.f k a b) (decide (a = b)) :=
  ⟨a.length + 1, fun k hk => eqLoop0 0 slices_Equal_int64_int64.l0 (fun k xs ys n i => by simp only [slices_Equal_int64_int64.l0]; rfl) a b hm k (by omega)⟩
theorem sameSlots_ev (d : Int) (i : List Int) (v : List (List Int)) (hm : i.length ≤ 9223372036854775807) : Ev (fun k => slots_Same.f k d i v d i v) true := by
  unfold slots_Same.f h_EqVecs.f
  simp only [if_true]
  refine Ev.bind (equalI64 i i hm) ?_
  exact Ev.of fun k => by simp
theorem live10 : Ev (fun k => cuvettelaw10_live.f k) true := by
  suffices h : Ev (fun k => cuvettelaw10_live.f0 k) true by
    obtain ⟨K, h⟩ := h
    exact ⟨K, fun k hk => by simp only [cuvettelaw10_live.f]; rw [if_pos (h k hk)]⟩
  unfold cuvettelaw10_live.f0
  have hn : slots_New.f 2 1 = some (1, [-1, -1], [[], []], 0) := by decide +kernel
  rw [hn]
  simp only [Option.bind_some]
  refine Ev.bind (put_ev 1 [-1, -1] [[], []] 7 [1] (by decide) (by decide)) ?_
  rw [show putS 1 [-1, -1] [[], []] 7 [1] = (0, 1, [7, -1], [[1], []], 0) by decide +kernel]
  refine Ev.bind (put_ev 1 [7, -1] [[1], []] 3 [2] (by decide) (by decide)) ?_
  rw [show putS 1 [7, -1] [[1], []] 3 [2] = (1, 1, [7, 3], [[1], [2]], 0) by decide +kernel]
  refine Ev.bind (del_ev 1 [7, 3] [[1], [2]] 7 (by decide) (by decide)) ?_
  rw [show delS 1 [7, 3] [[1], [2]] 7 = (0, 1, [-1, 3], [[], [2]], 0) by decide +kernel]
  refine Ev.bind (put_ev 1 [-1, 3] [[], [2]] 9 [4] (by decide) (by decide)) ?_
  rw [show putS 1 [-1, 3] [[], [2]] 9 [4] = (0, 1, [9, 3], [[4], [2]], 0) by decide +kernel]
  simp only [if_true]
  refine Ev.bind (sameInts03 [9, 3] [9, 3] (by decide)) ?_
  exact Ev.of fun k => by simp
theorem i64B_id {a : Int} (h : okN .i64 a) : i64B a = true := by
  obtain ⟨h0, h1⟩ := okN_i64 h
  unfold i64B
  rw [decide_eq_true h0, decide_eq_true h1]
  rfl
theorem i64B_set {ids : List Int} (h : ids.all i64B = true) (j : Nat) {x : Int} (hx : i64B x = true) : (ids.set j x).all i64B = true := by
  refine List.all_eq_true.2 fun y hy => ?_
  rcases List.mem_or_eq_of_mem_set hy with hy | rfl
  · exact List.all_eq_true.1 h y hy
  · exact hx
end Go.Proofs.Ytkjibgfgbfacdaa.P
end
/-! part: PureSlotsFirst -/
section
set_option linter.unusedVariables false
set_option linter.unusedSimpArgs false
namespace Go.Proofs.Ytkjibgfgbfacdaa.P
open Go.RowKit Go.Proofs.YtkjibgfgbfacdaaW.PrintWords Go.Proofs.YtkjibgfgbfacdaaW.PrintLast Go.Proofs.YtkjibgfgbfacdaaW.PrintMore
set_option linter.unusedVariables false
/-- The first slot in which nobody is, below m; else what was found above. -/
def firstS (ids : List Int) (m : Nat) (f : Int) : Int := if ids.idxOf (-1) < m then (ids.idxOf (-1) : Int) else f
theorem first_l (id : Int) (v : List Int) (dim : Int) (ids : List Int) (vecs : List (List Int)) (hm : ids.length ≤ 256) (r : Bool) (m : Nat) : ∀ f : Int, m ≤ ids.length →
    Ev (fun k => cuvettelaw10_SlotsFirst.l0 k id v true (firstS ids m f) (-1) dim ids vecs) r → Ev (fun k => cuvettelaw10_SlotsFirst.l0 k id v true f ((m : Int) - 1) dim ids vecs) r := by
  induction m with
  | zero =>
    intro f _ h
    simpa [firstS] using h
  | succ m ih =>
    intro f hm' h
    have h0 : (((m + 1 : Nat) : Int) - 1) = (m : Int) := by omega
    rw [h0]
    have el : rd ids (m : Int) = ids.getD m 0 := rfl
    by_cases e : rd ids (m : Int) = -1
    · refine Ev.step (g' := fun k => cuvettelaw10_SlotsFirst.l0 k id v true (m : Int) ((m : Int) - 1) dim ids vecs) (fun k => by
        simp only [cuvettelaw10_SlotsFirst.l0]
        rw [if_pos (by omega), if_pos (by omega), if_pos (by omega), if_pos e, w64 (by omega) (by omega)]) ?_
      refine ih (m : Int) (by omega) ?_
      have hle := idxOf_le_of (-1) ids m (by omega) (by rw [← el]; exact e)
      have : firstS ids m (m : Int) = firstS ids (m + 1) f := by
        unfold firstS
        rw [if_pos (show ids.idxOf (-1) < m + 1 by omega)]
        split <;> omega
      rw [this]
      exact h
    · refine Ev.step (g' := fun k => cuvettelaw10_SlotsFirst.l0 k id v true f ((m : Int) - 1) dim ids vecs) (fun k => by
        simp only [cuvettelaw10_SlotsFirst.l0]
        rw [if_pos (by omega), if_pos (by omega), if_pos (by omega), if_neg e, w64 (by omega) (by omega)]) ?_
      refine ih f (by omega) ?_
      have hne : ids.idxOf (-1) ≠ m := fun hq => by
        have hg := getD_idxOf (-1) ids (by omega)
        rw [hq] at hg
        exact e (by rw [el]; exact hg)
      have : firstS ids m f = firstS ids (m + 1) f := by
        unfold firstS
        by_cases c : ids.idxOf (-1) < m
        · rw [if_pos c, if_pos (by omega)]
        · rw [if_neg c, if_neg (by omega)]
      rw [this]
      exact h
theorem first_end (id : Int) (v : List Int) (dim : Int) (ids : List Int) (vecs : List (List Int)) (hi : ids.all i64B = true) (hd : i64B id = true) (hk : slotsOk dim ids vecs = true) (hid : isIdB id = true) (hx : ¬ ids.idxOf id < ids.length) (hv : v.length ≤ 9223372036854775807) :
    Ev (fun k => cuvettelaw10_SlotsFirst.l0 k id v true (firstS ids ids.length (-1)) (-1) dim ids vecs) true := by
  obtain ⟨s1, s2, s3, s4, s5, _, _⟩ := slotsOk_parts hk
  refine Ev.step (fun k => by simp only [cuvettelaw10_SlotsFirst.l0]; rw [if_neg (by decide)]) ?_
  refine Ev.bind (put_ev dim ids vecs id v hi hd) ?_
  unfold putS
  by_cases hvk : vecOk v = true ∧ (v.length : Int) = dim
  · rw [if_pos ⟨hk, hid, hvk.1, hvk.2⟩, if_neg hx]
    by_cases hn : ids.idxOf (-1) < ids.length
    · rw [if_pos hn]
      simp only [if_true]
      have hnot : id ∉ ids := fun hm => hx (List.idxOf_lt_length_iff.2 hm)
      have hk2 : slotsOk dim (ids.set (ids.idxOf (-1)) id) (vecs.set (ids.idxOf (-1)) v) = true := slotsOk_set hk hn (slotOk_new hid hvk.1 hvk.2) (.inr (.inr hnot))
      have hf := find_eq dim (ids.set (ids.idxOf (-1)) id) (vecs.set (ids.idxOf (-1)) v) id (i64B_set hi _ hd) hd
      rw [if_pos ⟨hk2, hid⟩, idxOf_set id ids _ hn hnot, List.length_set, if_pos hn] at hf
      simp only [hf, Option.bind_some, if_true]
      have ef : firstS ids ids.length (-1) = (ids.idxOf (-1) : Int) := by unfold firstS; rw [if_pos hn]
      have hvn : ids.idxOf (-1) < vecs.length := by omega
      have q1 : 0 ≤ (ids.idxOf (-1) : Int) := by omega
      have q2 : (ids.idxOf (-1) : Int) < ((vecs.set (ids.idxOf (-1)) v).length : Int) := by rw [List.length_set]; omega
      rw [ef]
      simp only [if_true, if_pos q1, if_pos q2]
      have er : rd_L3 (vecs.set (ids.idxOf (-1)) v) (ids.idxOf (-1) : Int) = v := by
        show (vecs.set (ids.idxOf (-1)) v).getD (ids.idxOf (-1) : Int).toNat [] = v
        rw [Int.toNat_natCast]
        simp [List.getD_eq_getElem?_getD, hvn]
      rw [er]
      refine Ev.bind (sameVec04 v v hv) ?_
      exact Ev.of fun k => by simp
    · rw [if_neg hn]
      have ef : firstS ids ids.length (-1) = -1 := by unfold firstS; rw [if_neg hn]
      rw [ef]
      exact Ev.of fun k => by simp
  · rw [if_neg (fun z => hvk ⟨z.2.2.1, z.2.2.2⟩)]
    exact Ev.of fun k => by simp
theorem first_j (id : Int) (v : List Int) (dim : Int) (ids : List Int) (vecs : List (List Int)) (hi : ids.all i64B = true) (hd : i64B id = true) (q : Bool) (hv : v.length ≤ 9223372036854775807) :
    Ev (fun k => cuvettelaw10_SlotsFirst.j0 k id v true q dim ids vecs) true := by
  cases q with
  | true => exact Ev.step (g' := fun _ => some true) (fun k => by simp [cuvettelaw10_SlotsFirst.j0]) (Ev.const _)
  | false =>
    have hf := find_eq dim ids vecs id hi hd
    by_cases hc : (slotsOk dim ids vecs = true ∧ isIdB id = true) ∧ ¬ ids.idxOf id < ids.length
    · rw [if_pos hc.1, if_neg hc.2] at hf
      obtain ⟨s1, s2, s3, s4, s5, _, _⟩ := slotsOk_parts hc.1.1
      refine Ev.step (g' := fun k => cuvettelaw10_SlotsFirst.l0 k id v true (-1) ((ids.length : Int) - 1) dim ids vecs) (fun k => by
        simp only [cuvettelaw10_SlotsFirst.j0]
        rw [if_neg (by decide), hf]
        simp only [Option.bind_some, if_true]
        rw [w64 (by omega) (by omega)]) ?_
      exact first_l id v dim ids vecs s4 true ids.length (-1) (Nat.le_refl _) (first_end id v dim ids vecs hi hd hc.1.1 hc.1.2 hc.2 hv)
    · refine Ev.step (g' := fun _ => some true) (fun k => ?_) (Ev.const _)
      simp only [cuvettelaw10_SlotsFirst.j0]
      rw [if_neg (by decide), hf]
      simp only [Option.bind_some]
      rw [if_neg]
      by_cases h1 : slotsOk dim ids vecs = true ∧ isIdB id = true
      · rw [if_pos h1]
        by_cases h2 : ids.idxOf id < ids.length
        · rw [if_pos h2]; simp
        · exact absurd ⟨h1, h2⟩ hc
      · rw [if_neg h1]; simp
theorem pure_SlotsFirst (a0_0 : Int) (l0_1 : List Int) (l0_2 : List (List Int)) (a1 : Int) (l2 : List Int) (w0_0 : okN .i64 a0_0) (w0_1 : okI .i64 l0_1) (w0_2 : okII .i16 l0_2) (w1 : okN .i64 a1) (w2 : okI .i16 l2) : ∃ k, cuvettelaw10_SlotsFirst.f k a0_0 l0_1 l0_2 a1 l2 = some true := by
  refine Ev.some (g := fun k => cuvettelaw10_SlotsFirst.f k a0_0 l0_1 l0_2 a1 l2) ?_
  unfold cuvettelaw10_SlotsFirst.f
  refine Ev.bind live10 ?_
  simp only [if_true]
  refine Ev.bind (few10_ev a0_0 l0_1 l0_2 w0_2.1) ?_
  cases few10 l0_1 l0_2 with
  | false => exact first_j a1 l2 a0_0 l0_1 l0_2 (i64B_of w0_1) (i64B_id w1) true w2.1
  | true => exact first_j a1 l2 a0_0 l0_1 l0_2 (i64B_of w0_1) (i64B_id w1) _ w2.1
end Go.Proofs.Ytkjibgfgbfacdaa.P
end
/-! part: LawSlotsFirst -/
section
set_option linter.unusedVariables false
set_option linter.unusedSimpArgs false
namespace Go.Proofs.Ytkjibgfgbfacdaa.slotsFirst
open Go.ChangeShapes Go.WideShapes Go.ChangeAt Go.RowKit Go.Joins Go.Proofs.YtkjibgfgbfacdaaW.PrintWords
set_option linter.unusedVariables false
theorem own : ownKnob Try.prog.godebug = none := by kernel_rfl
theorem laidOut : laidOutB Try.prog = true := RFacts.f2
set_option maxRecDepth 100000 in
theorem lifted (os : Os) (started : os.Started) (H : Type) (enc : TypeId × Value → H) :
    ReturnsInHanded {} Try.checked os 3 .any (Rows.slotsFirstSpec.pre6 enc Try.prog Try.f3 Rows.slotsFirstRow.domain false) (Rows.slotsFirstSpec.post enc Try.prog Try.f3 false true false false) := by
  refine returnsInHanded_of_change_sized (C := Try.checked) own started (by kernel_rfl) Try.func3
    (ChangeSpec.witness6 (enc := enc) (C := Try.checked) false ⟨#[], #[.agg #[.int .i64 0, .slice none 0 0, .slice none 0 0], .int .i64 0, .slice none 0 0], []⟩ 8 (by kernel_rfl) (by kernel_rfl) (by kernel_rfl) (by kernel_rfl)) ?_
  intro W base args ds gs before hval0 hW hcnd hsz0 _
  clear hsz0
  have hval : ∀ (j : Nat) t v, Try.f3.params[j]? = some t → args[j]? = some v → Value.okWide Try.prog W .any base t v := hval0
  have hW' := hW
  obtain ⟨p, q, hA0, hV, rfl, hfz, hnd⟩ := hW
  have hA : DataW.TrodAll enc Try.prog W 0 (fun _ => true) true Try.f3.params.toList args.toList ds p := hA0
  rw [Try.params3] at hA hval
  obtain ⟨v0, vs0, d0, ds0, p0, q0, hargs, rfl, rfl, h0, r0⟩ := trodAll_cons hA
  obtain ⟨v1, vs1, d1, ds1, p1, q1, rfl, rfl, rfl, h1, r1⟩ := trodAll_cons r0
  obtain ⟨v2, vs2, d2, ds2, p2, q2, rfl, rfl, rfl, h2, r2⟩ := trodAll_cons r1
  obtain ⟨rfl, rfl, rfl⟩ := trodAll_nil r2
  obtain rfl : args = #[v0, v1, v2] := by cases args; simp_all
  obtain ⟨rfl, rfl⟩ := trodVars_none hV
  have k0 := h0
  have lt0 : ∀ x ∈ p0, x.block < W.heap.size := by obtain ⟨m, hm⟩ := k0; exact DataW.trod_lt m _ _ _ hm
  obtain ⟨u0_0, u0_1, u0_2, y0_0, y0_1, y0_2, m0, hv0, _, _, e0_0, e0_1, e0_2⟩ := open_agg3 Try.underlying25 (by kernel_rfl) (by kernel_rfl) (hval 0 25 v0 rfl rfl) h0
  subst hv0
  obtain ⟨a0_0, rfl, w0_0⟩ := R.openN Try.underlying3 e0_0
  obtain ⟨A0_1, c0_1, l0_1, rfl, hc0_1, hr0_1, w0_1⟩ := R.openI Try.underlying22 Try.underlying2 (by kernel_rfl) e0_1
  obtain ⟨A0_2, c0_2, l0_2, rfl, hc0_2, hr0_2, w0_2⟩ := R.openII Try.underlying23 Try.underlying27 Try.underlying74 (by kernel_rfl) (by kernel_rfl) e0_2
  have k1 := h1
  have lt1 : ∀ x ∈ p1, x.block < W.heap.size := by obtain ⟨m, hm⟩ := k1; exact DataW.trod_lt m _ _ _ hm
  obtain ⟨a1, rfl, _, _, w1⟩ := open_int Try.underlying2 (hval 1 2 v1 rfl rfl) h1
  have k2 := h2
  have lt2 : ∀ x ∈ p2, x.block < W.heap.size := by obtain ⟨m, hm⟩ := k2; exact DataW.trod_lt m _ _ _ hm
  obtain ⟨aa2, len2, cap2, rfl⟩ := okWide_slice Try.underlying27 (hval 2 27 v2 rfl rfl)
  obtain ⟨fuel2, hf2⟩ := h2
  obtain ⟨A2, c2, l2, ev2, hc2, hr2, w2⟩ := R.openI Try.underlying27 Try.underlying74 (by kernel_rfl) (by simpa [Value.cells] using hf2)
  rw [ev2] at hW' hval k2 ⊢
  clear hA0 hval0
  obtain ⟨k, hp⟩ := P.pure_SlotsFirst a0_0 l0_1 l0_2 a1 l2 w0_0 w0_1 w0_2 w1 w2
  refine (P.cuvettelaw10_SlotsFirst.calls k a0_0 A0_1 c0_1 l0_1 A0_2 c0_2 l0_2 a1 A2 c2 l2 true W hr0_1 hc0_1 hr0_2 hc0_2 hr2 hc2 hp rfl).mono fun e W' ⟨he, bel⟩ => ?_
  subst he
  exact ⟨_, rfl, _, _, _, [], _, [], hW', trodAll_mk1 (shut_bool Try.underlying4 _), (trodAll_cons_mk (Below.trod laidOut (by kernel_rfl) (of_decide_eq_true (by kernel_rfl)) k0 bel lt0) (trodAll_cons_mk (Below.trod laidOut (by kernel_rfl) (of_decide_eq_true (by kernel_rfl)) k1 bel lt1) (trodAll_cons_mk (Below.trod laidOut (by kernel_rfl) (of_decide_eq_true (by kernel_rfl)) k2 bel lt2) trodAll_mk0))), rfl, bel.frame _, fun h => by cases h⟩
set_option maxHeartbeats 0 in
theorem facts : joinedFacts Try.pinned.checked.prog 3 Try.f3 Rows.slotsFirstSpec Rows.slotsFirstRow = true := by
  unfold joinedFacts
  simp only [Bool.and_eq_true]
  repeat' apply And.intro
  · as_aux_lemma => kernel_rfl
  · exact RFacts.f2
  · exact RFacts.f3
  · as_aux_lemma => kernel_rfl
  · as_aux_lemma => kernel_rfl
  · as_aux_lemma => kernel_rfl
  · as_aux_lemma => kernel_rfl
  · as_aux_lemma => kernel_rfl
  · as_aux_lemma => kernel_rfl
  · as_aux_lemma => kernel_rfl
  · as_aux_lemma => kernel_rfl
  · as_aux_lemma => kernel_rfl
  · as_aux_lemma => kernel_rfl
  · as_aux_lemma => kernel_rfl
  · as_aux_lemma => kernel_rfl
  · as_aux_lemma => kernel_rfl
  · as_aux_lemma => kernel_rfl
  · as_aux_lemma => kernel_rfl
  · as_aux_lemma => kernel_rfl
  · as_aux_lemma => kernel_rfl
  · as_aux_lemma => kernel_rfl
  · as_aux_lemma => kernel_rfl
  · exact RFacts.f23
  · as_aux_lemma => kernel_rfl
  · exact RFacts.f25
  · exact RFacts.f26
  · exact RFacts.f27
  · exact RFacts.f28
  · as_aux_lemma => kernel_rfl
  · as_aux_lemma => kernel_rfl
  · as_aux_lemma => kernel_rfl
  · as_aux_lemma => kernel_rfl
theorem over : Rows.slotsFirstRow.holds Try.pinned (OpenSpec.ofChange Rows.slotsFirstSpec) :=
  OpenClaim.holds_of_wide 3 Try.f3 rfl rfl rfl rfl rfl rfl rfl ⟨rfl, rfl, rfl, rfl, rfl⟩ rfl rfl rfl rfl rfl (by as_aux_lemma => kernel_rfl) Try.func3 facts
    (of_decide_eq_true (by as_aux_lemma => kernel_rfl)) (by unfold Func.isWrapper; first | (rw [if_pos (by decide +kernel)]; kernel_rfl) | (rw [if_neg (by decide +kernel)]; exact ⟨rfl, rfl⟩))
    (fun os started H enc _ => lifted os started H enc)
theorem proved : Rows.SlotsFirstSaid := over
#print axioms proved
end Go.Proofs.Ytkjibgfgbfacdaa.slotsFirst
namespace Go.Proofs.Ytkjibgfgbfacdaa
/-- The row, under a short name, for the claim. -/
theorem slotsFirst_holds : Rows.SlotsFirstSaid := slotsFirst.proved
end Go.Proofs.Ytkjibgfgbfacdaa
end
