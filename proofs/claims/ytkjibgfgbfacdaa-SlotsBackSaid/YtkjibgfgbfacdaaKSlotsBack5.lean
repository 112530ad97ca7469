/- The law SlotsBack of this seat answers true for every input, and its arguments read as they did. Conditions: none. -/
import Derived.Test.YtkjibgfgbfacdaaRows
import Derived.Test.YtkjibgfgbfacdaaKSlotsBack0
import Derived.Test.YtkjibgfgbfacdaaKSlotsBack1
import Derived.Test.YtkjibgfgbfacdaaKSlotsBack2
import Derived.Test.YtkjibgfgbfacdaaKSlotsBack3
import Derived.Test.YtkjibgfgbfacdaaKSlotsBack4
/-! part: F5 -/
section
set_option linter.unusedVariables false
set_option linter.unusedSimpArgs false
namespace Go.Proofs.Ytkjibgfgbfacdaa.P
open Go.RowKit Go.Proofs.YtkjibgfgbfacdaaW.PrintWords Go.Proofs.YtkjibgfgbfacdaaW.PrintLast Go.Proofs.YtkjibgfgbfacdaaW.PrintMore
attribute [local go_sem] max2_int min2_int max_two min_two max_three min_three max_four min_four   -- for this text's walks alone
set_option linter.unusedVariables false
set_option linter.unusedSimpArgs false

/-! ### cuvettelaw10_SlotsBack: function 5 -/
def cuvettelaw10_SlotsBack.j0 : Nat → Int → List Int → Bool → Bool → Int → List Int → List (List Int) → Option (Bool)
  | 0, _, _, _, _, _, _, _ => none
  | k + 1, x1, x2, x7, x29, x384000, x384001, x384002 => if x29 = true then (some x7) else ((h_slots_Find.f x384000 x384001 x384002 x1).bind fun bt386 => (if bt386.2 = 0 then (if 0 ≤ bt386.1 then (if bt386.1 < (x384002.length : Int) then ((slots_Put.f k x384000 x384001 x384002 x1 (rd_L3 x384002 bt386.1)).bind fun bt389 => (if x7 = true then (if bt389.2.2.2.2 = 0 then (if bt389.1 = bt386.1 then ((slots_Same.f k bt389.2.1 bt389.2.2.1 bt389.2.2.2.1 x384000 x384001 x384002).bind fun t399 => (some t399)) else (some false)) else (some false)) else (some false))) else (none)) else (none)) else ((slots_Put.f k x384000 x384001 x384002 x1 x2).bind fun bt400 => (if bt400.2.2.2.2 = 0 then ((slots_Del.f k bt400.2.1 bt400.2.2.1 bt400.2.2.2.1 x1).bind fun bt410 => (if x7 = true then (if bt386.2 = 5 then (if bt410.2.2.2.2 = 0 then ((slots_Same.f k bt410.2.1 bt410.2.2.1 bt410.2.2.2.1 x384000 x384001 x384002).bind fun t420 => (some t420)) else (some false)) else (some false)) else (some false))) else (if x7 = true then (some ((bt400.2.2.1.length : Int) == 0)) else (some false))))))
def cuvettelaw10_SlotsBack.f (k : Nat) (a0_0 : Int) (l0_1 : List Int) (l0_2 : List (List Int)) (a1 : Int) (l2 : List Int) : Option (Bool) := (cuvettelaw10_live.f k).bind fun t384 => (if t384 = true then ((cuvetteref10_Few.f k a0_0 l0_1 l0_2).bind fun t385 => (if t385 = true then (cuvettelaw10_SlotsBack.j0 k a1 l2 t384 (decide ((l2.length : Int) > 300)) a0_0 l0_1 l0_2) else (cuvettelaw10_SlotsBack.j0 k a1 l2 t384 true a0_0 l0_1 l0_2))) else (some false))
theorem cuvettelaw10_SlotsBack.mono_l : ∀ k, (∀ y0 y1 y2 y3 y4 y5 y6, LeO (cuvettelaw10_SlotsBack.j0 k y0 y1 y2 y3 y4 y5 y6) (cuvettelaw10_SlotsBack.j0 (k + 1) y0 y1 y2 y3 y4 y5 y6))
  | 0 => fun _ _ _ _ _ _ _ r h => by simp [cuvettelaw10_SlotsBack.j0] at h
  | k + 1 => by
    have ih0 := cuvettelaw10_SlotsBack.mono_l k
    · intro y0 y1 y2 y3 y4 y5 y6
      unfold cuvettelaw10_SlotsBack.j0
      repeat' first
      | (with_reducible exact ih0 _ _ _ _ _ _ _)
      | (with_reducible exact cuvettelaw10_live.mono _)
      | (with_reducible exact cuvetteref10_Few.mono _ _ _ _)
      | (with_reducible exact slots_Del.mono _ _ _ _ _)
      | (with_reducible exact slots_Put.mono _ _ _ _ _ _)
      | (with_reducible exact slots_Same.mono _ _ _ _ _ _ _)
      | (with_reducible exact LeO.refl _)
      | (with_reducible exact LeO.none _)
      | (with_reducible refine LeO.ite ?_ ?_)
      | (with_reducible refine LeO.bind ?_ (fun _ => ?_))
      | exact ih0 _ _ _ _ _ _ _
      | exact cuvettelaw10_live.mono _
      | exact cuvetteref10_Few.mono _ _ _ _
      | exact slots_Del.mono _ _ _ _ _
      | exact slots_Put.mono _ _ _ _ _ _
      | exact slots_Same.mono _ _ _ _ _ _ _
      | exact LeO.none _
      | refine LeO.ite ?_ ?_
      | refine LeO.bind ?_ (fun _ => ?_)
theorem cuvettelaw10_SlotsBack.mono : ∀ a0 a1 a2 a3 a4 k, LeO (cuvettelaw10_SlotsBack.f k a0 a1 a2 a3 a4) (cuvettelaw10_SlotsBack.f (k + 1) a0 a1 a2 a3 a4) := by
  intro a0 a1 a2 a3 a4 k
  have ih0 := cuvettelaw10_SlotsBack.mono_l k
  unfold cuvettelaw10_SlotsBack.f
  repeat' first
      | (with_reducible exact ih0 _ _ _ _ _ _ _)
      | (with_reducible exact cuvettelaw10_live.mono _)
      | (with_reducible exact cuvetteref10_Few.mono _ _ _ _)
      | (with_reducible exact slots_Del.mono _ _ _ _ _)
      | (with_reducible exact slots_Put.mono _ _ _ _ _ _)
      | (with_reducible exact slots_Same.mono _ _ _ _ _ _ _)
      | (with_reducible exact LeO.refl _)
      | (with_reducible exact LeO.none _)
      | (with_reducible refine LeO.ite ?_ ?_)
      | (with_reducible refine LeO.bind ?_ (fun _ => ?_))
      | exact ih0 _ _ _ _ _ _ _
      | exact cuvettelaw10_live.mono _
      | exact cuvetteref10_Few.mono _ _ _ _
      | exact slots_Del.mono _ _ _ _ _
      | exact slots_Put.mono _ _ _ _ _ _
      | exact slots_Same.mono _ _ _ _ _ _ _
      | exact LeO.none _
      | refine LeO.ite ?_ ?_
      | refine LeO.bind ?_ (fun _ => ?_)
def cuvettelaw10_SlotsBack.T8 : Bool × List (List Nat × List Nat) := (true, [([], []), ([], []), ([], []), ([2], [2]), ([], []), ([3, 4], [3, 4]), ([5], [5]), ([0, 1, 6], [0, 1, 6]), ([7], [7]), ([8], [8]), ([8], [8]), ([8], [8]), ([], []), ([9, 7, 0, 1, 2, 3, 4, 5, 6, 7, 8, 9, 12], [9]), ([12, 10, 13, 0, 1, 2, 3, 4, 5, 6, 7, 8, 9, 10, 12, 13], [10, 12]), ([11, 14, 0, 1, 2, 3, 4, 5, 6, 7, 8, 9, 10, 11, 12, 13, 14], [11])])
def cuvettelaw10_SlotsBack.B8 : List Nat := [0, 0, 0, 4, 0, 28, 60, 127, 255, 511, 511, 511, 0, 5119, 14335, 32767]
theorem cuvettelaw10_SlotsBack.tab8 : rtab .any (opsOf Try.f5 8) = cuvettelaw10_SlotsBack.T8 := by kernel_rfl
theorem cuvettelaw10_SlotsBack.bits8 : waitsOk cuvettelaw10_SlotsBack.T8.2 cuvettelaw10_SlotsBack.B8 = true := by kernel_rfl
set_option maxHeartbeats 8000000 in
set_option maxRecDepth 100000 in
theorem cuvettelaw10_SlotsBack.calls (k : Nat) (a0_0 : Int) (A0_1 : Option Addr) (c0_1 : Nat) (l0_1 : List Int) (A0_2 : Option Addr) (c0_2 : Nat) (l0_2 : List (List Int)) (a1 : Int) (A2 : Option Addr) (c2 : Nat) (l2 : List Int) (r : Bool) (w : World) (hr0_1 : Kd.C (Kd.int .i64) w A0_1 l0_1.length l0_1) (hc0_1 : l0_1.length ≤ c0_1) (hr0_2 : Kd.C (Kd.slice 74 (Kd.int .i16)) w A0_2 l0_2.length l0_2) (hc0_2 : l0_2.length ≤ c0_2) (hr2 : Kd.C (Kd.int .i16) w A2 l2.length l2) (hc2 : l2.length ≤ c2) (h : cuvettelaw10_SlotsBack.f k a0_0 l0_1 l0_2 a1 l2 = some r) (hT_ : r = true) :
    Calls Try.prog 5 #[.agg #[.int .i64 a0_0, .slice A0_1 l0_1.length c0_1, .slice A0_2 l0_2.length c0_2], .int .i64 a1, .slice A2 l2.length c2] w fun e w' => e = .returned (.bool r) ∧ Below w.heap.size w w' := by
  have hu25 := Try.underlying25
  have HR0_1 := Aside0.mk hr0_1
  have HC0_1 := Aside0.mk hc0_1
  clear hr0_1 hc0_1
  have HR0_2 := Aside0.mk hr0_2
  have HC0_2 := Aside0.mk hc0_2
  clear hr0_2 hc0_2
  have HR2 := Aside0.mk hr2
  have HC2 := Aside0.mk hc2
  clear hr2 hc2
  have HB := Aside0.mk (Below.refl w.heap.size w)
  have H : ((cuvettelaw10_live.f k).bind fun t384 => (if t384 = true then ((cuvetteref10_Few.f k a0_0 l0_1 l0_2).bind fun t385 => (if t385 = true then (cuvettelaw10_SlotsBack.j0 k a1 l2 t384 (decide ((l2.length : Int) > 300)) a0_0 l0_1 l0_2) else (cuvettelaw10_SlotsBack.j0 k a1 l2 t384 true a0_0 l0_1 l0_2))) else (some false))) = some r := h
  clear h
  replace H := Option.bind_eq_some_iff.mp H
  obtain ⟨t384, A40, H⟩ := H
  replace H : (if t384 = true then ((cuvetteref10_Few.f k a0_0 l0_1 l0_2).bind fun t385 => (if t385 = true then (cuvettelaw10_SlotsBack.j0 k a1 l2 t384 (decide ((l2.length : Int) > 300)) a0_0 l0_1 l0_2) else (cuvettelaw10_SlotsBack.j0 k a1 l2 t384 true a0_0 l0_1 l0_2))) else (some false)) = some r := H
  have A4 := Aside0.mk A40
  clear A40
  by_cases c5 : t384 = true
  · subst c5
    have H1 : ((cuvetteref10_Few.f k a0_0 l0_1 l0_2).bind fun t385 => (if t385 = true then (cuvettelaw10_SlotsBack.j0 k a1 l2 true (decide ((l2.length : Int) > 300)) a0_0 l0_1 l0_2) else (cuvettelaw10_SlotsBack.j0 k a1 l2 true true a0_0 l0_1 l0_2))) = some r := by rw [if_pos rfl] at H; exact H
    clear H
    have H := H1
    clear H1
    have HC6 := Aside0.mk H
    clear H
    go_enter Try.func5, Try.ntmps5
    go_upto_region 4 with (first | ((with_reducible refine gate_dst (N := 3) rfl ?_); (try (refine gate_guard (by rfl) ?_; dsimp only)); refine box_event ?hg (N := 3) ?hd (cs := #[.int .i64 a0_0, .slice A0_1 l0_1.length c0_1, .slice A0_2 l0_2.length c0_2]) (t := 25) ?hr ?_; (case hd => rfl); (case hg => rfl); (case hr => first | (go_simp; done) | (go_simp; rfl)); intro gb383 hg w7 hbox hb; have n0_ := Aside0.mk (below_step (by repeat (first | (with_reducible first | exact HB.out | apply below_alloc | apply pw_below_drewN | apply below_drew1) | exact HB.out)) hb); have n1_ := Aside0.mk (hbox); have n2_ := Aside0.mk ((by rw [hg]; exact (below_size (by repeat (first | (with_reducible first | exact HB.out | apply below_alloc | apply pw_below_drewN | apply below_drew1) | exact HB.out))) : w.heap.size ≤ gb383)); have n3_ := Aside0.mk ((by rw [hg]; exact (below_size (by repeat (first | (with_reducible first | exact HB.out | apply below_alloc | apply pw_below_drewN | apply below_drew1) | exact HB.out))) : w.heap.size ≤ gb383)); clear HB; have HB := n0_; have BK383 := n1_; have GW383 := n2_; have GE383 := n3_; clear n0_ n1_ n2_ n3_; clear hb hbox hg) | ((with_reducible refine gate_callee (f := 24) rfl ?_); refine goesL_ (some 19) rfl rfl Try.func24 (by kernel_rfl) rfl #[] rfl (by (try simp only [List.map_toArray, List.map_cons, List.map_nil]); first | done | rfl | (simp only [List.length_drop, List.length_take]; rfl)) ?_; (with_reducible refine (cuvettelaw10_live.calls k  true _ A4.out).mono ?_); rintro e w8 ⟨rfl, hb⟩; refine ⟨_, rfl, ?_⟩; have n0_ := Aside0.mk (blk_below (g := gb383) (o := .cells #[.int .i64 a0_0, .slice A0_1 l0_1.length c0_1, .slice A0_2 l0_2.length c0_2] 25 (0, 0)) (by (with_reducible repeat (first | refine blk_drewN ?_ _ | refine blk_drew ?_ | refine blk_alloc ?_ _)); exact BK383.out) hb); have n1_ := Aside0.mk (below_step (by repeat (first | (with_reducible first | exact HB.out | apply below_alloc | apply pw_below_drewN | apply below_drew1 | refine below_set ?_ GE383.out) | exact HB.out)) hb); clear BK383; clear HB; have BK383 := n0_; have HB := n1_; clear n0_ n1_; (try clear hb); (try clear hb2); (try clear hk); (try clear hi)))
    (try simp only [Act.put, List.setIfInBounds_toArray, List.set_cons_zero, List.set_cons_succ])
    go_cut [29] (fun v29 wc => ∃ (kq : Nat) (x29_5 : Bool), v29 = .bool x29_5 ∧ Aside0 (cuvettelaw10_SlotsBack.j0 kq a1 l2 true x29_5 a0_0 l0_1 l0_2 = some r) ∧ Aside0 (kq ≤ k) ∧ Aside0 (wc.heap[gb383]? = some (.cells #[.int .i64 a0_0, (.slice A0_1 l0_1.length c0_1), (.slice A0_2 l0_2.length c0_2)] 25 (0, 0))) ∧ Aside0 (Below w.heap.size w wc))
    case first =>
      have H := HC6.out
      clear HC6
      replace H := Option.bind_eq_some_iff.mp H
      obtain ⟨t385, A90, H⟩ := H
      replace H : (if t385 = true then (cuvettelaw10_SlotsBack.j0 k a1 l2 true (decide ((l2.length : Int) > 300)) a0_0 l0_1 l0_2) else (cuvettelaw10_SlotsBack.j0 k a1 l2 true true a0_0 l0_1 l0_2)) = some r := H
      have A9 := Aside0.mk A90
      clear A90
      by_cases c10 : t385 = true
      · subst c10
        have H1 : (cuvettelaw10_SlotsBack.j0 k a1 l2 true (decide ((l2.length : Int) > 300)) a0_0 l0_1 l0_2) = some r := by rw [if_pos rfl] at H; exact H
        clear H
        have H := H1
        clear H1
        have H' := Aside0.mk H
        clear H
        have hcz11_0 : w8.cell? ⟨gb383, 0, none⟩ = some (.int .i64 a0_0) := (blk_cell BK383.out 0).trans rfl
        have hcz11_1 : w8.cell? ⟨gb383, 1, none⟩ = some (.slice A0_1 l0_1.length c0_1) := (blk_cell BK383.out 1).trans rfl
        have hcz11_2 : w8.cell? ⟨gb383, 2, none⟩ = some (.slice A0_2 l0_2.length c0_2) := (blk_cell BK383.out 2).trans rfl
        have hfz11_0 := blk_frozen BK383.out 0
        have hfz11_1 := blk_frozen BK383.out 1
        have hfz11_2 := blk_frozen BK383.out 2
        go_wp2_with (first | ((with_reducible refine gate_callee (f := 25) rfl ?_); refine goesL_ (some 23) rfl rfl Try.func25 (by kernel_rfl) rfl #[.agg #[.int .i64 a0_0, .slice A0_1 l0_1.length c0_1, .slice A0_2 l0_2.length c0_2]] rfl (by (try simp only [List.map_toArray, List.map_cons, List.map_nil]); first | done | rfl | (simp only [List.length_drop, List.length_take]; rfl)) ?_; (with_reducible refine (cuvetteref10_Few.calls k a0_0 _ _ l0_1 _ _ l0_2 true _ ?side1 ?side2 ?side3 ?side4 A9.out).mono ?_); (case side1 => repeat (first | exact (Kd.C_below HR0_1.out HB.out) | (with_reducible refine Kd.C_alloc ?_ _) | (with_reducible refine Kd.C_drewN ?_ _) | (with_reducible refine Kd.C_drew ?_))); (case side2 => exact HC0_1.out); (case side3 => repeat (first | exact (Kd.C_below HR0_2.out HB.out) | (with_reducible refine Kd.C_alloc ?_ _) | (with_reducible refine Kd.C_drewN ?_ _) | (with_reducible refine Kd.C_drew ?_))); (case side4 => exact HC0_2.out); rintro e w12 ⟨rfl, hb⟩; refine ⟨_, rfl, ?_⟩; have n0_ := Aside0.mk (blk_below (g := gb383) (o := .cells #[.int .i64 a0_0, .slice A0_1 l0_1.length c0_1, .slice A0_2 l0_2.length c0_2] 25 (0, 0)) (by (with_reducible repeat (first | refine blk_drewN ?_ _ | refine blk_drew ?_ | refine blk_alloc ?_ _)); exact BK383.out) hb); have n1_ := Aside0.mk (below_step (by repeat (first | (with_reducible first | exact HB.out | apply below_alloc | apply pw_below_drewN | apply below_drew1 | refine below_set ?_ GE383.out) | exact HB.out)) hb); clear BK383; clear HB; have BK383 := n0_; have HB := n1_; clear n0_ n1_; (try clear hb); (try clear hb2); (try clear hk); (try clear hi)))
        go_meet
        case rel => exact ⟨_, (decide ((l2.length : Int) > 300)), (by first | rfl | (simp; done) | (simp [*]; done)), H', ⟨by first | omega | exact Nat.le_refl _⟩, ⟨by (with_reducible repeat (first | refine blk_drewN ?_ _ | refine blk_drew ?_ | refine blk_alloc ?_ _)); exact BK383.out⟩, ⟨by repeat (first | (with_reducible first | exact HB.out | apply below_alloc | apply pw_below_drewN | apply below_drew1 | refine below_set ?_ GE383.out) | exact HB.out)⟩⟩
      · replace c10 := Bool.eq_false_iff.mpr c10
        subst c10
        have H1 : (cuvettelaw10_SlotsBack.j0 k a1 l2 true true a0_0 l0_1 l0_2) = some r := by rw [if_neg (show ¬ (false = true) by decide)] at H; exact H
        clear H
        have H := H1
        clear H1
        have H' := Aside0.mk H
        clear H
        have hcz13_0 : w8.cell? ⟨gb383, 0, none⟩ = some (.int .i64 a0_0) := (blk_cell BK383.out 0).trans rfl
        have hcz13_1 : w8.cell? ⟨gb383, 1, none⟩ = some (.slice A0_1 l0_1.length c0_1) := (blk_cell BK383.out 1).trans rfl
        have hcz13_2 : w8.cell? ⟨gb383, 2, none⟩ = some (.slice A0_2 l0_2.length c0_2) := (blk_cell BK383.out 2).trans rfl
        have hfz13_0 := blk_frozen BK383.out 0
        have hfz13_1 := blk_frozen BK383.out 1
        have hfz13_2 := blk_frozen BK383.out 2
        go_wp2_with (first | ((with_reducible refine gate_callee (f := 25) rfl ?_); refine goesL_ (some 23) rfl rfl Try.func25 (by kernel_rfl) rfl #[.agg #[.int .i64 a0_0, .slice A0_1 l0_1.length c0_1, .slice A0_2 l0_2.length c0_2]] rfl (by (try simp only [List.map_toArray, List.map_cons, List.map_nil]); first | done | rfl | (simp only [List.length_drop, List.length_take]; rfl)) ?_; (with_reducible refine (cuvetteref10_Few.calls k a0_0 _ _ l0_1 _ _ l0_2 false _ ?side1 ?side2 ?side3 ?side4 A9.out).mono ?_); (case side1 => repeat (first | exact (Kd.C_below HR0_1.out HB.out) | (with_reducible refine Kd.C_alloc ?_ _) | (with_reducible refine Kd.C_drewN ?_ _) | (with_reducible refine Kd.C_drew ?_))); (case side2 => exact HC0_1.out); (case side3 => repeat (first | exact (Kd.C_below HR0_2.out HB.out) | (with_reducible refine Kd.C_alloc ?_ _) | (with_reducible refine Kd.C_drewN ?_ _) | (with_reducible refine Kd.C_drew ?_))); (case side4 => exact HC0_2.out); rintro e w14 ⟨rfl, hb⟩; refine ⟨_, rfl, ?_⟩; have n0_ := Aside0.mk (blk_below (g := gb383) (o := .cells #[.int .i64 a0_0, .slice A0_1 l0_1.length c0_1, .slice A0_2 l0_2.length c0_2] 25 (0, 0)) (by (with_reducible repeat (first | refine blk_drewN ?_ _ | refine blk_drew ?_ | refine blk_alloc ?_ _)); exact BK383.out) hb); have n1_ := Aside0.mk (below_step (by repeat (first | (with_reducible first | exact HB.out | apply below_alloc | apply pw_below_drewN | apply below_drew1 | refine below_set ?_ GE383.out) | exact HB.out)) hb); clear BK383; clear HB; have BK383 := n0_; have HB := n1_; clear n0_ n1_; (try clear hb); (try clear hb2); (try clear hk); (try clear hi)))
        go_meet
        case rel => exact ⟨_, (true), (by first | rfl | (simp; done) | (simp [*]; done)), H', ⟨by first | omega | exact Nat.le_refl _⟩, ⟨by (with_reducible repeat (first | refine blk_drewN ?_ _ | refine blk_drew ?_ | refine blk_alloc ?_ _)); exact BK383.out⟩, ⟨by repeat (first | (with_reducible first | exact HB.out | apply below_alloc | apply pw_below_drewN | apply below_drew1 | refine below_set ?_ GE383.out) | exact HB.out)⟩⟩
    case rest =>
      clear HC6
      try clear c1
      try clear c2
      try clear p2
      try clear c5
      try clear c10
      try clear hcz11_0
      try clear hcz11_1
      try clear hcz11_2
      try clear hcz13_0
      try clear hcz13_1
      try clear hcz13_2
      try clear hfz11_0
      try clear hfz11_1
      try clear hfz11_2
      try clear hfz13_0
      try clear hfz13_1
      try clear hfz13_2
      obtain ⟨kq, x29_5, rfl, HA, HJ5, BK383, HB⟩ := hcut
      cases kq with
      | zero => exact absurd HA.out (by simp [cuvettelaw10_SlotsBack.j0])
      | succ kj5 =>
        have H := HA.out
        clear HA
        simp only [cuvettelaw10_SlotsBack.j0] at H
        by_cases c15 : x29_5 = true
        · subst c15
          have H1 : (some true) = some r := by rw [if_pos rfl] at H; exact H
          clear H
          have H := H1
          clear H1
          obtain rfl := Option.some.inj H
          go_wp2
          go_ret
          exact ⟨by first | rfl | (simp [errW_none, errW_some] <;> rfl) | (simp [*, errW_none, errW_some] <;> rfl), by repeat (first | (with_reducible first | exact HB.out | apply below_alloc | apply pw_below_drewN | apply below_drew1 | refine below_set ?_ GE383.out) | exact HB.out)⟩
        · replace c15 := Bool.eq_false_iff.mpr c15
          subst c15
          have H1 : ((h_slots_Find.f a0_0 l0_1 l0_2 a1).bind fun bt386 => (if bt386.2 = 0 then (if 0 ≤ bt386.1 then (if bt386.1 < (l0_2.length : Int) then ((slots_Put.f kj5 a0_0 l0_1 l0_2 a1 (rd_L3 l0_2 bt386.1)).bind fun bt389 => (if true = true then (if bt389.2.2.2.2 = 0 then (if bt389.1 = bt386.1 then ((slots_Same.f kj5 bt389.2.1 bt389.2.2.1 bt389.2.2.2.1 a0_0 l0_1 l0_2).bind fun t399 => (some t399)) else (some false)) else (some false)) else (some false))) else (none)) else (none)) else ((slots_Put.f kj5 a0_0 l0_1 l0_2 a1 l2).bind fun bt400 => (if bt400.2.2.2.2 = 0 then ((slots_Del.f kj5 bt400.2.1 bt400.2.2.1 bt400.2.2.2.1 a1).bind fun bt410 => (if true = true then (if bt386.2 = 5 then (if bt410.2.2.2.2 = 0 then ((slots_Same.f kj5 bt410.2.1 bt410.2.2.1 bt410.2.2.2.1 a0_0 l0_1 l0_2).bind fun t420 => (some t420)) else (some false)) else (some false)) else (some false))) else (if true = true then (some ((bt400.2.2.1.length : Int) == 0)) else (some false)))))) = some r := by rw [if_neg (show ¬ (false = true) by decide)] at H; exact H
          clear H
          have H := H1
          clear H1
          replace H := Option.bind_eq_some_iff.mp H
          obtain ⟨⟨t386, t387⟩, A160, H⟩ := H
          replace H : (if t387 = 0 then (if 0 ≤ t386 then (if t386 < (l0_2.length : Int) then ((slots_Put.f kj5 a0_0 l0_1 l0_2 a1 (rd_L3 l0_2 t386)).bind fun bt389 => (if true = true then (if bt389.2.2.2.2 = 0 then (if bt389.1 = t386 then ((slots_Same.f kj5 bt389.2.1 bt389.2.2.1 bt389.2.2.2.1 a0_0 l0_1 l0_2).bind fun t399 => (some t399)) else (some false)) else (some false)) else (some false))) else (none)) else (none)) else ((slots_Put.f kj5 a0_0 l0_1 l0_2 a1 l2).bind fun bt400 => (if bt400.2.2.2.2 = 0 then ((slots_Del.f kj5 bt400.2.1 bt400.2.2.1 bt400.2.2.2.1 a1).bind fun bt410 => (if true = true then (if t387 = 5 then (if bt410.2.2.2.2 = 0 then ((slots_Same.f kj5 bt410.2.1 bt410.2.2.1 bt410.2.2.2.1 a0_0 l0_1 l0_2).bind fun t420 => (some t420)) else (some false)) else (some false)) else (some false))) else (if true = true then (some ((bt400.2.2.1.length : Int) == 0)) else (some false))))) = some r := H
          have A16 := Aside0.mk A160
          clear A160
          by_cases c17 : t387 = 0
          · rw [if_pos c17] at H
            have c17b0 : (t387 == 0) = true := beq_iff_eq.mpr c17
            have c17b1 : (t387 != 0) = false := bne_eq_false_iff_eq.mpr c17
            clear c17
            by_cases c18 : 0 ≤ t386
            · rw [if_pos c18] at H
              have c18b0 : decide (0 ≤ t386) = true := decide_eq_true c18
              clear c18
              by_cases c19 : t386 < (l0_2.length : Int)
              · rw [if_pos c19] at H
                have c19b0 : decide (t386 < (l0_2.length : Int)) = true := decide_eq_true c19
                clear c19
                replace H := Option.bind_eq_some_iff.mp H
                obtain ⟨⟨t389, t390, t391, t394, t397⟩, A200, H⟩ := H
                replace H : (if true = true then (if t397 = 0 then (if t389 = t386 then ((slots_Same.f kj5 t390 t391 t394 a0_0 l0_1 l0_2).bind fun t399 => (some t399)) else (some false)) else (some false)) else (some false)) = some r := H
                have A20 := Aside0.mk A200
                clear A200
                by_cases c21 : true = true
                · clear c21
                  have H1 : (if t397 = 0 then (if t389 = t386 then ((slots_Same.f kj5 t390 t391 t394 a0_0 l0_1 l0_2).bind fun t399 => (some t399)) else (some false)) else (some false)) = some r := by rw [if_pos rfl] at H; exact H
                  clear H
                  have H := H1
                  clear H1
                  by_cases c22 : t397 = 0
                  · rw [if_pos c22] at H
                    have c22b0 : (t397 == 0) = true := beq_iff_eq.mpr c22
                    have c22b1 : (t397 != 0) = false := bne_eq_false_iff_eq.mpr c22
                    clear c22
                    by_cases c23 : t389 = t386
                    · rw [if_pos c23] at H
                      have c23b0 : (t389 == t386) = true := beq_iff_eq.mpr c23
                      have c23b1 : (t389 != t386) = false := bne_eq_false_iff_eq.mpr c23
                      clear c23
                      replace H := Option.bind_eq_some_iff.mp H
                      obtain ⟨t399, A240, H⟩ := H
                      replace H : (some t399) = some r := H
                      have A24 := Aside0.mk A240
                      clear A240
                      obtain rfl := Option.some.inj H
                      have hcz25_0 : wc.cell? ⟨gb383, 0, none⟩ = some (.int .i64 a0_0) := (blk_cell BK383.out 0).trans rfl
                      have hcz25_1 : wc.cell? ⟨gb383, 1, none⟩ = some (.slice A0_1 l0_1.length c0_1) := (blk_cell BK383.out 1).trans rfl
                      have hcz25_2 : wc.cell? ⟨gb383, 2, none⟩ = some (.slice A0_2 l0_2.length c0_2) := (blk_cell BK383.out 2).trans rfl
                      have hfz25_0 := blk_frozen BK383.out 0
                      have hfz25_1 := blk_frozen BK383.out 1
                      have hfz25_2 := blk_frozen BK383.out 2
                      try go_wp2_with (first | ((with_reducible refine gate_callee (f := 26) rfl ?_); refine goesL_ (some 34) rfl rfl Try.func26 (by kernel_rfl) rfl #[.agg #[.int .i64 a0_0, .slice A0_1 l0_1.length c0_1, .slice A0_2 l0_2.length c0_2], .int .i64 a1] rfl (by (try simp only [List.map_toArray, List.map_cons, List.map_nil]); first | done | rfl | (simp only [List.length_drop, List.length_take]; rfl)) ?_; (with_reducible refine (h_slots_Find.calls a0_0 _ _ l0_1 _ _ l0_2 a1 t386 t387 _ ?side1 ?side2 ?side3 ?side4 A16.out).mono ?_); (case side1 => repeat (first | exact (Kd.C_below HR0_1.out HB.out) | (with_reducible refine Kd.C_alloc ?_ _) | (with_reducible refine Kd.C_drewN ?_ _) | (with_reducible refine Kd.C_drew ?_))); (case side2 => exact HC0_1.out); (case side3 => repeat (first | exact (Kd.C_below HR0_2.out HB.out) | (with_reducible refine Kd.C_alloc ?_ _) | (with_reducible refine Kd.C_drewN ?_ _) | (with_reducible refine Kd.C_drew ?_))); (case side4 => exact HC0_2.out); rintro e w26 ⟨rfl, hb⟩; refine ⟨_, rfl, ?_⟩; have n0_ := Aside0.mk (blk_below (g := gb383) (o := .cells #[.int .i64 a0_0, .slice A0_1 l0_1.length c0_1, .slice A0_2 l0_2.length c0_2] 25 (0, 0)) (by (with_reducible repeat (first | refine blk_drewN ?_ _ | refine blk_drew ?_ | refine blk_alloc ?_ _)); exact BK383.out) hb); have n1_ := Aside0.mk (below_step (by repeat (first | (with_reducible first | exact HB.out | apply below_alloc | apply pw_below_drewN | apply below_drew1 | refine below_set ?_ GE383.out) | exact HB.out)) hb); clear BK383; clear HB; have BK383 := n0_; have HB := n1_; clear n0_ n1_; (try clear hb); (try clear hb2); (try clear hk); (try clear hi)))
                      have n0_ := Aside0.mk (blk_drew BK383.out)
                      have n1_ := Aside0.mk (below_drew1 HB.out)
                      clear BK383
                      clear HB
                      have BK383 := n0_
                      have HB := n1_
                      clear n0_ n1_
                      have p388 : 0 ≤ (t386 : Int) := of_decide_eq_true (by first | (with_reducible assumption) | assumption)
                      have q388 : t386 < (l0_2.length : Int) := of_decide_eq_true (by first | (with_reducible assumption) | assumption)
                      obtain ⟨ad388, A388_0, c388_0, e388, hx388_0, hl388_0, hi388_0⟩ := at_L3 HR0_2.out t386 p388 q388
                      have hw388_0 := hx388_0
                      cases e388
                      replace hx388_0 := (HB.out.cell (World.block_lt_of_cell? w _ hx388_0)).trans hx388_0
                      have HR388_0 := Aside0.mk hi388_0
                      have HC388_0 := Aside0.mk hl388_0
                      clear hi388_0 hl388_0
                      replace p388 := eq_true p388
                      replace q388 := eq_true q388
                      refine start_ (n := 16) (S := fun w' => w'.cell? ⟨gb383, 0, none⟩ = some (.int .i64 a0_0) ∧ w'.cell? ⟨gb383, 1, none⟩ = some (.slice A0_1 l0_1.length c0_1) ∧ w'.cell? ⟨gb383, 2, none⟩ = some (.slice (some ad388) l0_2.length c0_2) ∧ w'.cell? (ad388.add (t386).toNat) = some (.slice A388_0 (rd_L3 l0_2 t386).length c388_0)) (ds := []) #[false, false, false, false, false, false, false, false, false, false, false, false, false, false, false, false] (by kernel_rfl) rfl rfl ⟨(blk_cell BK383.out 0).trans rfl, (blk_cell BK383.out 1).trans rfl, (blk_cell BK383.out 2).trans rfl, ((HB.out.cell (World.block_lt_of_cell? w _ hw388_0)).trans hw388_0)⟩ (fun hHeld => ?_); refine with_tabW cuvettelaw10_SlotsBack.tab8 cuvettelaw10_SlotsBack.bits8 (fun HT_ HW_ => ?_)
                      generalize w26.drew = w27 at BK383 HB HR388_0 hx388_0 hHeld ⊢
                      refine pure_ (i := 1) (N := some 41) (v := ?_) (a' := ?_) #[false, true, false, false, false, false, false, false, false, false, false, false, false, false, false, false] rfl rfl (any_of HT_.out (by kernel_rfl)) (fun _ _ _ h => h) (Or.inl ⟨by rfl, ?_⟩) ?_ ?_
                      rotate_left
                      · intro w'
                        go_simp
                        with_reducible rfl
                      rotate_left
                      · simp only [Act.put, List.setIfInBounds_toArray, List.set_cons_zero, List.set_cons_succ, i64_w, i32_w]
                        rfl
                      refine pure_ (i := 2) (N := some 42) (v := ?_) (a' := ?_) #[false, true, true, false, false, false, false, false, false, false, false, false, false, false, false, false] rfl rfl (any_of HT_.out (by kernel_rfl)) (fun _ _ _ h => h) (Or.inl ⟨by rfl, ?_⟩) ?_ ?_
                      rotate_left
                      · intro w'
                        go_simp
                        with_reducible rfl
                      rotate_left
                      · simp only [Act.put, List.setIfInBounds_toArray, List.set_cons_zero, List.set_cons_succ, i64_w, i32_w]
                        rfl
                      refine pure_ (i := 4) (N := some 44) (v := ?_) (a' := ?_) #[false, true, true, false, true, false, false, false, false, false, false, false, false, false, false, false] rfl rfl (any_of HT_.out (by kernel_rfl)) (fun _ _ _ h => h) (Or.inl ⟨by rfl, ?_⟩) ?_ ?_
                      rotate_left
                      · intro w'
                        go_simp
                        with_reducible rfl
                      rotate_left
                      · simp only [Act.put, List.setIfInBounds_toArray, List.set_cons_zero, List.set_cons_succ, i64_w, i32_w]
                        rfl
                      refine take_ (i := 0) (N := some 40) (v := ?_) (a' := ?_) #[true, true, true, false, true, false, false, false, false, false, false, false, false, false, false, false] rfl rfl (take_ofW HT_.out HW_.out (by kernel_rfl)) (fun _ _ _ h => h) (Or.inl ⟨by rfl, ?_⟩) hHeld ?_ ?_
                      rotate_left
                      · rintro w' ⟨s0, s1, s2, s3⟩
                        go_simp
                        with_reducible rfl
                      rotate_left
                      · simp only [Act.put, List.setIfInBounds_toArray, List.set_cons_zero, List.set_cons_succ, i64_w, i32_w]
                        rfl
                      refine take_ (i := 3) (N := some 43) (v := ?_) (a' := ?_) #[true, true, true, true, true, false, false, false, false, false, false, false, false, false, false, false] rfl rfl (take_ofW HT_.out HW_.out (by kernel_rfl)) (fun _ _ _ h => h) (Or.inl ⟨by rfl, ?_⟩) hHeld ?_ ?_
                      rotate_left
                      · rintro w' ⟨s0, s1, s2, s3⟩
                        go_simp
                        with_reducible rfl
                      rotate_left
                      · simp only [Act.put, List.setIfInBounds_toArray, List.set_cons_zero, List.set_cons_succ, i64_w, i32_w]
                        rfl
                      refine pure_ (i := 5) (N := some 45) (v := ?_) (a' := ?_) #[true, true, true, true, true, true, false, false, false, false, false, false, false, false, false, false] rfl rfl (any_of HT_.out (by kernel_rfl)) (fun _ _ _ h => h) (Or.inl ⟨by rfl, ?_⟩) ?_ ?_
                      rotate_left
                      · intro w'
                        go_simp
                        with_reducible rfl
                      rotate_left
                      · simp only [Act.put, List.setIfInBounds_toArray, List.set_cons_zero, List.set_cons_succ, i64_w, i32_w]
                        rfl
                      refine take_ (i := 6) (N := some 46) (v := ?_) (a' := ?_) #[true, true, true, true, true, true, true, false, false, false, false, false, false, false, false, false] rfl rfl (take_ofW HT_.out HW_.out (by kernel_rfl)) (fun _ _ _ h => h) (Or.inl ⟨by rfl, ?_⟩) hHeld ?_ ?_
                      rotate_left
                      · rintro w' ⟨s0, s1, s2, s3⟩
                        go_simp
                        with_reducible rfl
                      rotate_left
                      · simp only [Act.put, List.setIfInBounds_toArray, List.set_cons_zero, List.set_cons_succ, i64_w, i32_w]
                        rfl
                      refine join_ (σ := Value × Value × Nat) 3 #[true, true, true, true, true, true, true, true, true, true, true, true, true, false, false, false] (fun s_ => [(47, .tuple #[.int .i64 t389, .agg #[.int .i64 t390, s_.1, s_.2.1], .int .i64 t397]), (11, .pointer (some ⟨s_.2.2, 0, none⟩)), (39, .tuple #[.int .i64 t389, .agg #[.int .i64 t390, s_.1, s_.2.1], .int .i64 t397]), (48, .int .i64 t389), (49, .agg #[.int .i64 t390, s_.1, s_.2.1]), (50, .int .i64 t397)]) (fun s_ w' => (w'.cell? ⟨gb383, 0, none⟩ = some (.int .i64 a0_0) ∧ w'.cell? ⟨gb383, 1, none⟩ = some (.slice A0_1 l0_1.length c0_1) ∧ w'.cell? ⟨gb383, 2, none⟩ = some (.slice (some ad388) l0_2.length c0_2) ∧ w'.cell? (ad388.add (t386).toNat) = some (.slice A388_0 (rd_L3 l0_2 t386).length c388_0)) ∧ (Kd.R (Kd.int .i64) 2 w' w.heap.size (fun _ => True) s_.1 t391) ∧ (Kd.N (Kd.slice 74 (Kd.int .i16)) 27 w' w.heap.size (fun k_ => some k_ ≠ (s_.1 : Value).ownBlock ∧ k_ ≠ gb383 ∧ k_ ≠ s_.2.2) s_.2.1 t394) ∧ (w'.heap[gb383]? = some (.cells #[.int .i64 a0_0, .slice A0_1 l0_1.length c0_1, .slice (some ad388) l0_2.length c0_2] 25 (0, 0))) ∧ (w'.heap[s_.2.2]? = some (.cells #[.int .i64 0, .slice none 0 0, .slice none 0 0] 25 (0, 0))) ∧ (w.heap.size ≤ s_.2.2) ∧ (w.heap.size ≤ s_.2.2) ∧ (gb383 ≠ s_.2.2) ∧ (s_.2.2 ≠ gb383) ∧ (Below w.heap.size w w')) ?_ ?_
                      rotate_left
                      · intro hCont
                        refine two_ (i := 7) (j := 12) (Ni := some 47) (Nj := some 11) #[true, true, true, true, true, true, true, true, false, false, false, false, false, false, false, false] #[true, true, true, true, true, true, true, false, false, false, false, false, true, false, false, false] rfl rfl rfl rfl (two_of HT_.out (by kernel_rfl)) (by decide) (by decide) (fun K hK => ?_) (fun K hK => ?_)
                        · skip
                          refine goes_ Try.func27 (by kernel_rfl) rfl #[.agg #[.int .i64 a0_0, .slice A0_1 l0_1.length c0_1, .slice (some ad388) l0_2.length c0_2], .int .i64 a1, .slice A388_0 (rd_L3 l0_2 t386).length c388_0] (by rfl) rfl rfl (by (try simp only [List.map_toArray, List.map_cons, List.map_nil]); first | done | rfl | (simp only [List.length_drop, List.length_take]; rfl)) ?_
                          with_reducible refine (slots_Put.calls kj5 a0_0 _ _ l0_1 (fun k_ => k_ < w.heap.size) _ _ l0_2 a1 _ _ (rd_L3 l0_2 t386) t389 t390 t391 t394 t397 _ ?side1 ?side2 ?side3 ?side4 ?side5 A20.out).mono ?_
                          (case side1 => repeat (first | exact (Kd.C_below HR0_1.out HB.out) | (with_reducible refine Kd.C_alloc ?_ _) | (with_reducible refine Kd.C_drewN ?_ _) | (with_reducible refine Kd.C_drew ?_)))
                          (case side2 => exact HC0_1.out)
                          (case side3 => exact Kd.V_mk HC0_2.out (Kd.F_below (Kd.C_F (Kd.heap_slice 74 (Kd.heap_int .i16)) HR0_2.out) (by repeat (first | (with_reducible first | exact HB.out | apply below_alloc | apply pw_below_drewN | apply below_drew1 | refine below_set ?_ GE383.out) | exact HB.out))))
                          (case side4 => repeat (first | exact (Kd.C_below HR388_0.out HB.out) | (with_reducible refine Kd.C_alloc ?_ _) | (with_reducible refine Kd.C_drewN ?_ _) | (with_reducible refine Kd.C_drew ?_)))
                          (case side5 => exact HC388_0.out)
                          rintro e w28 ⟨v392, v395, rfl, ho0, ho1, hb⟩
                          refine ⟨_, rfl, ?_⟩
                          have n0_ := Aside0.mk (Kd.R_lower (Kd.R_mono (ok' := fun k_ => True) ho0 (fun _ hk_ => trivial)) (below_size (by repeat (first | (with_reducible first | exact HB.out | apply below_alloc | apply pw_below_drewN | apply below_drew1 | refine below_set ?_ GE383.out) | exact HB.out))))
                          have n1_ := Aside0.mk (Kd.N_lower (Kd.N_mono (ok' := fun k_ => some k_ ≠ (v392 : Value).ownBlock ∧ k_ ≠ gb383) ho1 (fun k_ hk_ => ⟨hk_.2, Or.elim hk_.1 (fun hs_ => fun e_ => Nat.not_le.2 hs_ (by rw [e_]; exact GW383.out)) (fun hn_ => (Kd.freshB (g := gb383) (o := .cells #[.int .i64 a0_0, .slice A0_1 l0_1.length c0_1, .slice (some ad388) l0_2.length c0_2] 25 (0, 0)) (by (with_reducible repeat (first | refine blk_drewN ?_ _ | refine blk_drew ?_ | refine blk_alloc ?_ _)); exact BK383.out) k_ hn_))⟩)) (below_size (by repeat (first | (with_reducible first | exact HB.out | apply below_alloc | apply pw_below_drewN | apply below_drew1 | refine below_set ?_ GE383.out) | exact HB.out))))
                          have n2_ := Aside0.mk (blk_below (g := gb383) (o := .cells #[.int .i64 a0_0, .slice A0_1 l0_1.length c0_1, .slice (some ad388) l0_2.length c0_2] 25 (0, 0)) (by (with_reducible repeat (first | refine blk_drewN ?_ _ | refine blk_drew ?_ | refine blk_alloc ?_ _)); exact BK383.out) hb)
                          have n3_ := Aside0.mk (below_step (by repeat (first | (with_reducible first | exact HB.out | apply below_alloc | apply pw_below_drewN | apply below_drew1 | refine below_set ?_ GE383.out) | exact HB.out)) hb)
                          clear BK383
                          clear HB
                          have HO393 := n0_
                          have HO396 := n1_
                          have BK383 := n2_
                          have HB := n3_
                          clear n0_ n1_ n2_ n3_
                          (try clear hb)
                          (try clear hb2)
                          (try clear hk)
                          (try clear hi)
                          (try clear ho0)
                          (try clear ho1)
                          refine hK.out _ _ ⟨(blk_cell BK383.out 0).trans rfl, (blk_cell BK383.out 1).trans rfl, (blk_cell BK383.out 2).trans rfl, ((HB.out.cell (World.block_lt_of_cell? w _ hw388_0)).trans hw388_0)⟩ (fun hHeld => ?_)
                          clear hK K
                          refine norm_ (a' := ?_) ?_ ?_
                          rotate_left
                          · show Act.put _ (some 47) _ = _
                            simp only [Act.put, List.setIfInBounds_toArray, List.set_cons_zero, List.set_cons_succ, i64_w, i32_w]
                            rfl
                          refine pure_ (i := 8) (N := some 39) (v := ?_) (a' := ?_) #[true, true, true, true, true, true, true, true, true, false, false, false, false, false, false, false] rfl rfl (any_of HT_.out (by kernel_rfl)) (fun _ _ _ h => h) (Or.inl ⟨by rfl, ?_⟩) ?_ ?_
                          rotate_left
                          · intro w'
                            go_simp
                            with_reducible rfl
                          rotate_left
                          · simp only [Act.put, List.setIfInBounds_toArray, List.set_cons_zero, List.set_cons_succ, i64_w, i32_w]
                            rfl
                          refine pure_ (i := 9) (N := some 48) (v := ?_) (a' := ?_) #[true, true, true, true, true, true, true, true, true, true, false, false, false, false, false, false] rfl rfl (any_of HT_.out (by kernel_rfl)) (fun _ _ _ h => h) (Or.inl ⟨by rfl, ?_⟩) ?_ ?_
                          rotate_left
                          · intro w'
                            go_simp
                            with_reducible rfl
                          rotate_left
                          · simp only [Act.put, List.setIfInBounds_toArray, List.set_cons_zero, List.set_cons_succ, i64_w, i32_w]
                            rfl
                          refine pure_ (i := 10) (N := some 49) (v := ?_) (a' := ?_) #[true, true, true, true, true, true, true, true, true, true, true, false, false, false, false, false] rfl rfl (any_of HT_.out (by kernel_rfl)) (fun _ _ _ h => h) (Or.inl ⟨by rfl, ?_⟩) ?_ ?_
                          rotate_left
                          · intro w'
                            go_simp
                            with_reducible rfl
                          rotate_left
                          · simp only [Act.put, List.setIfInBounds_toArray, List.set_cons_zero, List.set_cons_succ, i64_w, i32_w]
                            rfl
                          refine pure_ (i := 11) (N := some 50) (v := ?_) (a' := ?_) #[true, true, true, true, true, true, true, true, true, true, true, true, false, false, false, false] rfl rfl (any_of HT_.out (by kernel_rfl)) (fun _ _ _ h => h) (Or.inl ⟨by rfl, ?_⟩) ?_ ?_
                          rotate_left
                          · intro w'
                            go_simp
                            with_reducible rfl
                          rotate_left
                          · simp only [Act.put, List.setIfInBounds_toArray, List.set_cons_zero, List.set_cons_succ, i64_w, i32_w]
                            rfl
                          refine one_ (i := 12) (N := some 11) #[true, true, true, true, true, true, true, true, true, true, true, true, true, false, false, false] rfl rfl (one_of HT_.out (by kernel_rfl)) (by decide) (fun K hK => ?_)
                          refine box_step ?hg (N := 11) ?hd (cs := #[.int .i64 0, .slice none 0 0, .slice none 0 0]) (t := 25) ?hr ?_; (case hd => rfl); (case hg => rfl); (case hr => first | (go_simp; done) | (go_simp; rfl))
                          intro gb398 hg w29 hbox hb
                          have n0_ := Aside0.mk (Kd.R_below (by (with_reducible repeat (first | apply Kd.R_alloc | apply Kd.R_drewN | apply Kd.R_drew)); exact HO393.out) hb)
                          have n1_ := Aside0.mk (Kd.N_below (Kd.N_elderB (by (with_reducible repeat (first | apply Kd.N_alloc | apply Kd.N_drewN | apply Kd.N_drew)); exact HO396.out) gb398 (Nat.le_of_eq hg.symm)) hb)
                          have n2_ := Aside0.mk (blk_below (g := gb383) (o := .cells #[.int .i64 a0_0, .slice A0_1 l0_1.length c0_1, .slice (some ad388) l0_2.length c0_2] 25 (0, 0)) (by (with_reducible repeat (first | refine blk_drewN ?_ _ | refine blk_drew ?_ | refine blk_alloc ?_ _)); exact BK383.out) hb)
                          have n3_ := Aside0.mk (below_step (by repeat (first | (with_reducible first | exact HB.out | apply below_alloc | apply pw_below_drewN | apply below_drew1 | refine below_set ?_ GE383.out) | exact HB.out)) hb)
                          have n4_ := Aside0.mk (hbox)
                          have n5_ := Aside0.mk ((by rw [hg]; exact (below_size (by repeat (first | (with_reducible first | exact HB.out | apply below_alloc | apply pw_below_drewN | apply below_drew1 | refine below_set ?_ GE383.out) | exact HB.out))) : w.heap.size ≤ gb398))
                          have n6_ := Aside0.mk ((by rw [hg]; exact (below_size (by repeat (first | (with_reducible first | exact HB.out | apply below_alloc | apply pw_below_drewN | apply below_drew1 | refine below_set ?_ GE383.out) | exact HB.out))) : w.heap.size ≤ gb398))
                          have n7_ := Aside0.mk ((by rw [hg]; exact Nat.ne_of_lt (blk_lt (g := gb383) (o := .cells #[.int .i64 a0_0, .slice A0_1 l0_1.length c0_1, .slice (some ad388) l0_2.length c0_2] 25 (0, 0)) (by (with_reducible repeat (first | refine blk_drewN ?_ _ | refine blk_drew ?_ | refine blk_alloc ?_ _)); exact BK383.out)) : gb383 ≠ gb398))
                          have n8_ := Aside0.mk ((by rw [hg]; exact Nat.ne_of_gt (blk_lt (g := gb383) (o := .cells #[.int .i64 a0_0, .slice A0_1 l0_1.length c0_1, .slice (some ad388) l0_2.length c0_2] 25 (0, 0)) (by (with_reducible repeat (first | refine blk_drewN ?_ _ | refine blk_drew ?_ | refine blk_alloc ?_ _)); exact BK383.out)) : gb398 ≠ gb383))
                          clear HO393
                          clear HO396
                          clear BK383
                          clear HB
                          have HO393 := n0_
                          have HO396 := n1_
                          have BK383 := n2_
                          have HB := n3_
                          have BK398 := n4_
                          have GW398 := n5_
                          have GE398 := n6_
                          have NB383_398 := n7_
                          have NB398_383 := n8_
                          clear n0_ n1_ n2_ n3_ n4_ n5_ n6_ n7_ n8_
                          clear hb hbox hg
                          refine hK.out _ _ ⟨(blk_cell BK383.out 0).trans rfl, (blk_cell BK383.out 1).trans rfl, (blk_cell BK383.out 2).trans rfl, ((HB.out.cell (World.block_lt_of_cell? w _ hw388_0)).trans hw388_0)⟩ (fun hHeld => ?_)
                          clear hK K
                          refine norm_ (a' := ?_) ?_ ?_
                          rotate_left
                          · show Act.put _ (some 11) _ = _
                            simp only [Act.put, List.setIfInBounds_toArray, List.set_cons_zero, List.set_cons_succ, i64_w, i32_w]
                            rfl
                          exact norm_ (by simp only [putAll, Act.put, List.setIfInBounds_toArray, List.set_cons_zero, List.set_cons_succ]) (hCont (v392, v395, gb398) _ ⟨hHeld, (by (with_reducible repeat (first | apply Kd.R_alloc | apply Kd.R_drewN | apply Kd.R_drew)); exact HO393.out), (by (with_reducible repeat (first | apply Kd.N_alloc | apply Kd.N_drewN | apply Kd.N_drew)); exact Kd.N_mono HO396.out (fun _ hk => ⟨hk.1.1, ⟨hk.1.2, hk.2⟩⟩)), (by (with_reducible repeat (first | refine blk_drewN ?_ _ | refine blk_drew ?_ | refine blk_alloc ?_ _)); exact BK383.out), (by (with_reducible repeat (first | refine blk_drewN ?_ _ | refine blk_drew ?_ | refine blk_alloc ?_ _)); exact BK398.out), GW398.out, GE398.out, NB383_398.out, NB398_383.out, (by repeat (first | (with_reducible first | exact HB.out | apply below_alloc | apply pw_below_drewN | apply below_drew1 | refine below_set ?_ GE383.out | refine below_set ?_ GE398.out) | exact HB.out))⟩)
                        · skip
                          refine box_step ?hg (N := 11) ?hd (cs := #[.int .i64 0, .slice none 0 0, .slice none 0 0]) (t := 25) ?hr ?_; (case hd => rfl); (case hg => rfl); (case hr => first | (go_simp; done) | (go_simp; rfl))
                          intro gb398 hg w28 hbox hb
                          have n0_ := Aside0.mk (blk_below (g := gb383) (o := .cells #[.int .i64 a0_0, .slice A0_1 l0_1.length c0_1, .slice (some ad388) l0_2.length c0_2] 25 (0, 0)) (by (with_reducible repeat (first | refine blk_drewN ?_ _ | refine blk_drew ?_ | refine blk_alloc ?_ _)); exact BK383.out) hb)
                          have n1_ := Aside0.mk (below_step (by repeat (first | (with_reducible first | exact HB.out | apply below_alloc | apply pw_below_drewN | apply below_drew1 | refine below_set ?_ GE383.out) | exact HB.out)) hb)
                          have n2_ := Aside0.mk (hbox)
                          have n3_ := Aside0.mk ((by rw [hg]; exact (below_size (by repeat (first | (with_reducible first | exact HB.out | apply below_alloc | apply pw_below_drewN | apply below_drew1 | refine below_set ?_ GE383.out) | exact HB.out))) : w.heap.size ≤ gb398))
                          have n4_ := Aside0.mk ((by rw [hg]; exact (below_size (by repeat (first | (with_reducible first | exact HB.out | apply below_alloc | apply pw_below_drewN | apply below_drew1 | refine below_set ?_ GE383.out) | exact HB.out))) : w.heap.size ≤ gb398))
                          have n5_ := Aside0.mk ((by rw [hg]; exact Nat.ne_of_lt (blk_lt (g := gb383) (o := .cells #[.int .i64 a0_0, .slice A0_1 l0_1.length c0_1, .slice (some ad388) l0_2.length c0_2] 25 (0, 0)) (by (with_reducible repeat (first | refine blk_drewN ?_ _ | refine blk_drew ?_ | refine blk_alloc ?_ _)); exact BK383.out)) : gb383 ≠ gb398))
                          have n6_ := Aside0.mk ((by rw [hg]; exact Nat.ne_of_gt (blk_lt (g := gb383) (o := .cells #[.int .i64 a0_0, .slice A0_1 l0_1.length c0_1, .slice (some ad388) l0_2.length c0_2] 25 (0, 0)) (by (with_reducible repeat (first | refine blk_drewN ?_ _ | refine blk_drew ?_ | refine blk_alloc ?_ _)); exact BK383.out)) : gb398 ≠ gb383))
                          clear BK383
                          clear HB
                          have BK383 := n0_
                          have HB := n1_
                          have BK398 := n2_
                          have GW398 := n3_
                          have GE398 := n4_
                          have NB383_398 := n5_
                          have NB398_383 := n6_
                          clear n0_ n1_ n2_ n3_ n4_ n5_ n6_
                          clear hb hbox hg
                          refine hK.out _ _ ⟨(blk_cell BK383.out 0).trans rfl, (blk_cell BK383.out 1).trans rfl, (blk_cell BK383.out 2).trans rfl, ((HB.out.cell (World.block_lt_of_cell? w _ hw388_0)).trans hw388_0)⟩ (fun hHeld => ?_)
                          clear hK K
                          refine norm_ (a' := ?_) ?_ ?_
                          rotate_left
                          · show Act.put _ (some 11) _ = _
                            simp only [Act.put, List.setIfInBounds_toArray, List.set_cons_zero, List.set_cons_succ, i64_w, i32_w]
                            rfl
                          refine one_ (i := 7) (N := some 47) #[true, true, true, true, true, true, true, true, false, false, false, false, true, false, false, false] rfl rfl (one_of HT_.out (by kernel_rfl)) (by decide) (fun K hK => ?_)
                          refine goes_ Try.func27 (by kernel_rfl) rfl #[.agg #[.int .i64 a0_0, .slice A0_1 l0_1.length c0_1, .slice (some ad388) l0_2.length c0_2], .int .i64 a1, .slice A388_0 (rd_L3 l0_2 t386).length c388_0] (by rfl) rfl rfl (by (try simp only [List.map_toArray, List.map_cons, List.map_nil]); first | done | rfl | (simp only [List.length_drop, List.length_take]; rfl)) ?_
                          with_reducible refine (slots_Put.calls kj5 a0_0 _ _ l0_1 (fun k_ => k_ < w.heap.size) _ _ l0_2 a1 _ _ (rd_L3 l0_2 t386) t389 t390 t391 t394 t397 _ ?side1 ?side2 ?side3 ?side4 ?side5 A20.out).mono ?_
                          (case side1 => repeat (first | exact (Kd.C_below HR0_1.out HB.out) | (with_reducible refine Kd.C_alloc ?_ _) | (with_reducible refine Kd.C_drewN ?_ _) | (with_reducible refine Kd.C_drew ?_)))
                          (case side2 => exact HC0_1.out)
                          (case side3 => exact Kd.V_mk HC0_2.out (Kd.F_below (Kd.C_F (Kd.heap_slice 74 (Kd.heap_int .i16)) HR0_2.out) (by repeat (first | (with_reducible first | exact HB.out | apply below_alloc | apply pw_below_drewN | apply below_drew1 | refine below_set ?_ GE383.out | refine below_set ?_ GE398.out) | exact HB.out))))
                          (case side4 => repeat (first | exact (Kd.C_below HR388_0.out HB.out) | (with_reducible refine Kd.C_alloc ?_ _) | (with_reducible refine Kd.C_drewN ?_ _) | (with_reducible refine Kd.C_drew ?_)))
                          (case side5 => exact HC388_0.out)
                          rintro e w29 ⟨v392, v395, rfl, ho0, ho1, hb⟩
                          refine ⟨_, rfl, ?_⟩
                          have n0_ := Aside0.mk (Kd.R_lower (Kd.R_mono (ok' := fun k_ => True) ho0 (fun _ hk_ => trivial)) (below_size (by repeat (first | (with_reducible first | exact HB.out | apply below_alloc | apply pw_below_drewN | apply below_drew1 | refine below_set ?_ GE383.out | refine below_set ?_ GE398.out) | exact HB.out))))
                          have n1_ := Aside0.mk (Kd.N_lower (Kd.N_mono (ok' := fun k_ => some k_ ≠ (v392 : Value).ownBlock ∧ k_ ≠ gb383 ∧ k_ ≠ gb398) ho1 (fun k_ hk_ => ⟨hk_.2, Or.elim hk_.1 (fun hs_ => fun e_ => Nat.not_le.2 hs_ (by rw [e_]; exact GW383.out)) (fun hn_ => (Kd.freshB (g := gb383) (o := .cells #[.int .i64 a0_0, .slice A0_1 l0_1.length c0_1, .slice (some ad388) l0_2.length c0_2] 25 (0, 0)) (by (with_reducible repeat (first | refine blk_drewN ?_ _ | refine blk_drew ?_ | refine blk_alloc ?_ _)); exact BK383.out) k_ hn_)), Or.elim hk_.1 (fun hs_ => fun e_ => Nat.not_le.2 hs_ (by rw [e_]; exact GW398.out)) (fun hn_ => (Kd.freshB (g := gb398) (o := .cells #[.int .i64 0, .slice none 0 0, .slice none 0 0] 25 (0, 0)) (by (with_reducible repeat (first | refine blk_drewN ?_ _ | refine blk_drew ?_ | refine blk_alloc ?_ _)); exact BK398.out) k_ hn_))⟩)) (below_size (by repeat (first | (with_reducible first | exact HB.out | apply below_alloc | apply pw_below_drewN | apply below_drew1 | refine below_set ?_ GE383.out | refine below_set ?_ GE398.out) | exact HB.out))))
                          have n2_ := Aside0.mk (blk_below (g := gb383) (o := .cells #[.int .i64 a0_0, .slice A0_1 l0_1.length c0_1, .slice (some ad388) l0_2.length c0_2] 25 (0, 0)) (by (with_reducible repeat (first | refine blk_drewN ?_ _ | refine blk_drew ?_ | refine blk_alloc ?_ _)); exact BK383.out) hb)
                          have n3_ := Aside0.mk (blk_below (g := gb398) (o := .cells #[.int .i64 0, .slice none 0 0, .slice none 0 0] 25 (0, 0)) (by (with_reducible repeat (first | refine blk_drewN ?_ _ | refine blk_drew ?_ | refine blk_alloc ?_ _)); exact BK398.out) hb)
                          have n4_ := Aside0.mk (below_step (by repeat (first | (with_reducible first | exact HB.out | apply below_alloc | apply pw_below_drewN | apply below_drew1 | refine below_set ?_ GE383.out | refine below_set ?_ GE398.out) | exact HB.out)) hb)
                          clear BK383
                          clear BK398
                          clear HB
                          have HO393 := n0_
                          have HO396 := n1_
                          have BK383 := n2_
                          have BK398 := n3_
                          have HB := n4_
                          clear n0_ n1_ n2_ n3_ n4_
                          (try clear hb)
                          (try clear hb2)
                          (try clear hk)
                          (try clear hi)
                          (try clear ho0)
                          (try clear ho1)
                          refine hK.out _ _ ⟨(blk_cell BK383.out 0).trans rfl, (blk_cell BK383.out 1).trans rfl, (blk_cell BK383.out 2).trans rfl, ((HB.out.cell (World.block_lt_of_cell? w _ hw388_0)).trans hw388_0)⟩ (fun hHeld => ?_)
                          clear hK K
                          refine norm_ (a' := ?_) ?_ ?_
                          rotate_left
                          · show Act.put _ (some 47) _ = _
                            simp only [Act.put, List.setIfInBounds_toArray, List.set_cons_zero, List.set_cons_succ, i64_w, i32_w]
                            rfl
                          refine pure_ (i := 8) (N := some 39) (v := ?_) (a' := ?_) #[true, true, true, true, true, true, true, true, true, false, false, false, true, false, false, false] rfl rfl (any_of HT_.out (by kernel_rfl)) (fun _ _ _ h => h) (Or.inl ⟨by rfl, ?_⟩) ?_ ?_
                          rotate_left
                          · intro w'
                            go_simp
                            with_reducible rfl
                          rotate_left
                          · simp only [Act.put, List.setIfInBounds_toArray, List.set_cons_zero, List.set_cons_succ, i64_w, i32_w]
                            rfl
                          refine pure_ (i := 9) (N := some 48) (v := ?_) (a' := ?_) #[true, true, true, true, true, true, true, true, true, true, false, false, true, false, false, false] rfl rfl (any_of HT_.out (by kernel_rfl)) (fun _ _ _ h => h) (Or.inl ⟨by rfl, ?_⟩) ?_ ?_
                          rotate_left
                          · intro w'
                            go_simp
                            with_reducible rfl
                          rotate_left
                          · simp only [Act.put, List.setIfInBounds_toArray, List.set_cons_zero, List.set_cons_succ, i64_w, i32_w]
                            rfl
                          refine pure_ (i := 10) (N := some 49) (v := ?_) (a' := ?_) #[true, true, true, true, true, true, true, true, true, true, true, false, true, false, false, false] rfl rfl (any_of HT_.out (by kernel_rfl)) (fun _ _ _ h => h) (Or.inl ⟨by rfl, ?_⟩) ?_ ?_
                          rotate_left
                          · intro w'
                            go_simp
                            with_reducible rfl
                          rotate_left
                          · simp only [Act.put, List.setIfInBounds_toArray, List.set_cons_zero, List.set_cons_succ, i64_w, i32_w]
                            rfl
                          refine pure_ (i := 11) (N := some 50) (v := ?_) (a' := ?_) #[true, true, true, true, true, true, true, true, true, true, true, true, true, false, false, false] rfl rfl (any_of HT_.out (by kernel_rfl)) (fun _ _ _ h => h) (Or.inl ⟨by rfl, ?_⟩) ?_ ?_
                          rotate_left
                          · intro w'
                            go_simp
                            with_reducible rfl
                          rotate_left
                          · simp only [Act.put, List.setIfInBounds_toArray, List.set_cons_zero, List.set_cons_succ, i64_w, i32_w]
                            rfl
                          exact norm_ (by simp only [putAll, Act.put, List.setIfInBounds_toArray, List.set_cons_zero, List.set_cons_succ]) (hCont (v392, v395, gb398) _ ⟨hHeld, (by (with_reducible repeat (first | apply Kd.R_alloc | apply Kd.R_drewN | apply Kd.R_drew)); exact HO393.out), (by (with_reducible repeat (first | apply Kd.N_alloc | apply Kd.N_drewN | apply Kd.N_drew)); exact HO396.out), (by (with_reducible repeat (first | refine blk_drewN ?_ _ | refine blk_drew ?_ | refine blk_alloc ?_ _)); exact BK383.out), (by (with_reducible repeat (first | refine blk_drewN ?_ _ | refine blk_drew ?_ | refine blk_alloc ?_ _)); exact BK398.out), GW398.out, GE398.out, NB383_398.out, NB398_383.out, (by repeat (first | (with_reducible first | exact HB.out | apply below_alloc | apply pw_below_drewN | apply below_drew1 | refine below_set ?_ GE383.out | refine below_set ?_ GE398.out) | exact HB.out))⟩)
                      rintro ⟨v392, v395, gb398⟩ w30 ⟨hS_, h0_, h1_, h2_, h3_, h4_, h5_, h6_, h7_, h8_⟩
                      have n0_ : Aside0 (Kd.R (Kd.int .i64) 2 w30 w.heap.size (fun _ => True) v392 t391) := ⟨h0_⟩
                      have n1_ : Aside0 (Kd.N (Kd.slice 74 (Kd.int .i16)) 27 w30 w.heap.size (fun k_ => some k_ ≠ (v392 : Value).ownBlock ∧ k_ ≠ gb383 ∧ k_ ≠ gb398) v395 t394) := ⟨h1_⟩
                      have n2_ : Aside0 (w30.heap[gb383]? = some (.cells #[.int .i64 a0_0, .slice A0_1 l0_1.length c0_1, .slice (some ad388) l0_2.length c0_2] 25 (0, 0))) := ⟨h2_⟩
                      have n3_ : Aside0 (w30.heap[gb398]? = some (.cells #[.int .i64 0, .slice none 0 0, .slice none 0 0] 25 (0, 0))) := ⟨h3_⟩
                      have n4_ : Aside0 (w.heap.size ≤ gb398) := ⟨h4_⟩
                      have n5_ : Aside0 (w.heap.size ≤ gb398) := ⟨h5_⟩
                      have n6_ : Aside0 (gb383 ≠ gb398) := ⟨h6_⟩
                      have n7_ : Aside0 (gb398 ≠ gb383) := ⟨h7_⟩
                      have n8_ : Aside0 (Below w.heap.size w w30) := ⟨h8_⟩
                      clear BK383
                      clear HB
                      clear h0_ h1_ h2_ h3_ h4_ h5_ h6_ h7_ h8_
                      have HO393 := n0_
                      have HO396 := n1_
                      have BK383 := n2_
                      have BK398 := n3_
                      have GW398 := n4_
                      have GE398 := n5_
                      have NB383_398 := n6_
                      have NB398_383 := n7_
                      have HB := n8_
                      clear n0_ n1_ n2_ n3_ n4_ n5_ n6_ n7_ n8_
                      have hHeld : w30.cell? ⟨gb383, 0, none⟩ = some (.int .i64 a0_0) ∧ w30.cell? ⟨gb383, 1, none⟩ = some (.slice A0_1 l0_1.length c0_1) ∧ w30.cell? ⟨gb383, 2, none⟩ = some (.slice (some ad388) l0_2.length c0_2) ∧ w30.cell? (ad388.add (t386).toNat) = some (.slice A388_0 (rd_L3 l0_2 t386).length c388_0) := hS_
                      obtain ⟨Ao32, co32, eo32⟩ := Kd.R_slice HO393.out
                      (first | subst eo32 | (injection eo32 with f1_ f2_ f3_; have f4_ := f1_.symm; have f5_ := f3_.symm; clear f1_ f2_ f3_; subst f4_; subst f5_))
                      obtain ⟨Ao34, co34, eo34⟩ := Kd.N_slice HO396.out
                      (first | subst eo34 | (injection eo34 with f1_ f2_ f3_; have f4_ := f1_.symm; have f5_ := f3_.symm; clear f1_ f2_ f3_; subst f4_; subst f5_))
                      refine norm_ (a' := ?_) ?_ ?_
                      rotate_left
                      · simp only [putAll, Act.put, List.setIfInBounds_toArray, List.set_cons_zero, List.set_cons_succ]
                        rfl
                      refine pure_ (i := 13) (N := some 10) (v := ?_) (a' := ?_) #[true, true, true, true, true, true, true, true, true, true, true, true, true, true, false, false] rfl rfl (any_of HT_.out (by kernel_rfl)) (fun _ _ _ h => h) (Or.inl ⟨by rfl, ?_⟩) ?_ ?_
                      rotate_left
                      · intro w'
                        go_simp
                        with_reducible rfl
                      rotate_left
                      · simp only [Act.put, List.setIfInBounds_toArray, List.set_cons_zero, List.set_cons_succ, i64_w, i32_w]
                        rfl
                      refine one_ (i := 14) (N := none) #[true, true, true, true, true, true, true, true, true, true, true, true, true, true, true, false] rfl rfl (one_of HT_.out (by kernel_rfl)) (by decide) (fun K hK => ?_)
                      have hs31 : w30.cell? ⟨gb398, 0, none⟩ = some (.int .i64 0) := (blk_cell BK398.out 0).trans rfl
                      have hfs31 := blk_frozen BK398.out 0
                      have hns31_0 := NB383_398.out
                      have hms31_0 := NB398_383.out
                      have hs33 : w30.cell? ⟨gb398, 1, none⟩ = some (.slice none 0 0) := (blk_cell BK398.out 1).trans rfl
                      have hfs33 := blk_frozen BK398.out 1
                      have hns33_0 := NB383_398.out
                      have hms33_0 := NB398_383.out
                      have hs35 : w30.cell? ⟨gb398, 2, none⟩ = some (.slice none 0 0) := (blk_cell BK398.out 2).trans rfl
                      have hfs35 := blk_frozen BK398.out 2
                      have hns35_0 := NB383_398.out
                      have hms35_0 := NB398_383.out
                      refine skip_ (w1 := ?_) (by rfl) rfl ?_ ?_
                      rotate_left
                      · go_simp
                        rfl
                      refine hK.out _ _ ⟨((cell_far (p := ⟨gb398, _, none⟩) NB383_398.out _).trans (((cell_far (p := ⟨gb398, _, none⟩) NB383_398.out _).trans (((cell_far (p := ⟨gb398, _, none⟩) NB383_398.out _).trans (hHeld.1)))))), ((cell_far (p := ⟨gb398, _, none⟩) NB383_398.out _).trans (((cell_far (p := ⟨gb398, _, none⟩) NB383_398.out _).trans (((cell_far (p := ⟨gb398, _, none⟩) NB383_398.out _).trans (hHeld.2.1)))))), ((cell_far (p := ⟨gb398, _, none⟩) NB383_398.out _).trans (((cell_far (p := ⟨gb398, _, none⟩) NB383_398.out _).trans (((cell_far (p := ⟨gb398, _, none⟩) NB383_398.out _).trans (hHeld.2.2.1)))))), ((cell_far (p := ⟨gb398, _, none⟩) (by first | exact Nat.ne_of_lt (Nat.lt_of_lt_of_le (by have := World.block_lt_of_cell? _ _ hw388_0; first | rwa [add_block] at this | exact this) GW398.out) | (rw [add_block]; exact Nat.ne_of_lt (Nat.lt_of_lt_of_le (by have := World.block_lt_of_cell? _ _ hw388_0; first | rwa [add_block] at this | exact this) GW398.out)) | (show (Addr.add _ _).block ≠ _; rw [add_block]; exact Nat.ne_of_lt (Nat.lt_of_lt_of_le (by have := World.block_lt_of_cell? _ _ hw388_0; first | rwa [add_block] at this | exact this) GW398.out)) | (dsimp only; exact Nat.ne_of_lt (Nat.lt_of_lt_of_le (by have := World.block_lt_of_cell? _ _ hw388_0; first | rwa [add_block] at this | exact this) GW398.out))) _).trans (((cell_far (p := ⟨gb398, _, none⟩) (by first | exact Nat.ne_of_lt (Nat.lt_of_lt_of_le (by have := World.block_lt_of_cell? _ _ hw388_0; first | rwa [add_block] at this | exact this) GW398.out) | (rw [add_block]; exact Nat.ne_of_lt (Nat.lt_of_lt_of_le (by have := World.block_lt_of_cell? _ _ hw388_0; first | rwa [add_block] at this | exact this) GW398.out)) | (show (Addr.add _ _).block ≠ _; rw [add_block]; exact Nat.ne_of_lt (Nat.lt_of_lt_of_le (by have := World.block_lt_of_cell? _ _ hw388_0; first | rwa [add_block] at this | exact this) GW398.out)) | (dsimp only; exact Nat.ne_of_lt (Nat.lt_of_lt_of_le (by have := World.block_lt_of_cell? _ _ hw388_0; first | rwa [add_block] at this | exact this) GW398.out))) _).trans (((cell_far (p := ⟨gb398, _, none⟩) (by first | exact Nat.ne_of_lt (Nat.lt_of_lt_of_le (by have := World.block_lt_of_cell? _ _ hw388_0; first | rwa [add_block] at this | exact this) GW398.out) | (rw [add_block]; exact Nat.ne_of_lt (Nat.lt_of_lt_of_le (by have := World.block_lt_of_cell? _ _ hw388_0; first | rwa [add_block] at this | exact this) GW398.out)) | (show (Addr.add _ _).block ≠ _; rw [add_block]; exact Nat.ne_of_lt (Nat.lt_of_lt_of_le (by have := World.block_lt_of_cell? _ _ hw388_0; first | rwa [add_block] at this | exact this) GW398.out)) | (dsimp only; exact Nat.ne_of_lt (Nat.lt_of_lt_of_le (by have := World.block_lt_of_cell? _ _ hw388_0; first | rwa [add_block] at this | exact this) GW398.out))) _).trans (hHeld.2.2.2))))))⟩ (fun hHeld => ?_)
                      clear hK K
                      refine pure_ (i := 15) (N := some 12) (v := ?_) (a' := ?_) #[true, true, true, true, true, true, true, true, true, true, true, true, true, true, true, true] rfl rfl (any_of HT_.out (by kernel_rfl)) (fun _ _ _ h => h) (Or.inl ⟨by rfl, ?_⟩) ?_ ?_
                      rotate_left
                      · intro w'
                        go_simp
                        with_reducible rfl
                      rotate_left
                      · simp only [Act.put, List.setIfInBounds_toArray, List.set_cons_zero, List.set_cons_succ, i64_w, i32_w]
                        rfl
                      refine done_ (done_of HT_.out (by kernel_rfl)) ?_
                      have hnb36 := NB398_383.out
                      have hnc36 := NB383_398.out
                      have hcz37_0 : w30.cell? ⟨gb398, 0, none⟩ = some (.int .i64 0) := (blk_cell BK398.out 0).trans rfl
                      have hcz37_1 : w30.cell? ⟨gb398, 1, none⟩ = some (.slice none 0 0) := (blk_cell BK398.out 1).trans rfl
                      have hcz37_2 : w30.cell? ⟨gb398, 2, none⟩ = some (.slice none 0 0) := (blk_cell BK398.out 2).trans rfl
                      have hfz37_0 := blk_frozen BK398.out 0
                      have hfz37_1 := blk_frozen BK398.out 1
                      have hfz37_2 := blk_frozen BK398.out 2
                      have hcz38_0 : w30.cell? ⟨gb383, 0, none⟩ = some (.int .i64 a0_0) := (blk_cell BK383.out 0).trans rfl
                      have hcz38_1 : w30.cell? ⟨gb383, 1, none⟩ = some (.slice A0_1 l0_1.length c0_1) := (blk_cell BK383.out 1).trans rfl
                      have hcz38_2 : w30.cell? ⟨gb383, 2, none⟩ = some (.slice (some ad388) l0_2.length c0_2) := (blk_cell BK383.out 2).trans rfl
                      have hfz38_0 := blk_frozen BK383.out 0
                      have hfz38_1 := blk_frozen BK383.out 1
                      have hfz38_2 := blk_frozen BK383.out 2
                      try go_wp2_with (first | (go_at_call 33; (with_reducible refine (slots_Same.calls kj5 t390 _ _ t391 _ _ t394 a0_0 _ _ l0_1 _ _ l0_2 t399 _ ?side1 ?side2 ?side3 ?side4 ?side5 ?side6 ?side7 ?side8 A24.out).mono ?_); (case side1 => refine (Kd.R_reads' (e := 2) (base := w.heap.size) (ok := fun k_ => True) (n := t391.length) (c := co32) ?_).2.2; exact (by (with_reducible repeat (first | apply Kd.R_alloc | apply Kd.R_drewN | apply Kd.R_drew)); exact (Kd.R_mono (Kd.R_far (p := ⟨gb398, 2, none⟩) (Kd.R_far (p := ⟨gb398, 1, none⟩) (Kd.R_far (p := ⟨gb398, 0, none⟩) (Kd.R_types HO393.out BK398.out (by decide)) (fun _ hk => hk.2) (.int .i64 t390)) (fun _ hk => hk.2) (.slice Ao32 t391.length co32)) (fun _ hk => hk.2) (.slice Ao34 t394.length co34)) (fun _ h_ => h_.1)))); (case side2 => exact (Kd.R_reads' HO393.out).2.1); (case side3 => refine (Kd.N_reads' (e := 27) (base := w.heap.size) (ok := fun k_ => (some k_ ≠ (.slice Ao32 t391.length co32 : Value).ownBlock ∧ (k_ ≠ gb383 ∧ k_ ≠ gb398))) (n := t394.length) (c := co34) ?_).2.2; exact (by (with_reducible repeat (first | apply Kd.N_alloc | apply Kd.N_drewN | apply Kd.N_drew)); exact (Kd.N_mono (Kd.N_far (p := ⟨gb398, 2, none⟩) (Kd.N_far (p := ⟨gb398, 1, none⟩) (Kd.N_far (p := ⟨gb398, 0, none⟩) (Kd.N_mono HO396.out (fun k_ hk => (⟨hk, hk.2.2⟩ : _ ∧ k_ ≠ gb398))) (fun _ hk => hk.2) (.int .i64 t390)) (fun _ hk => hk.2) (.slice Ao32 t391.length co32)) (fun _ hk => hk.2) (.slice Ao34 t394.length co34)) (fun _ h_ => h_.1)))); (case side4 => exact (Kd.N_reads' HO396.out).2.1); (case side5 => exact Kd.C_below HR0_1.out (by repeat (first | (with_reducible first | exact HB.out | apply below_alloc | apply pw_below_drewN | apply below_drew1 | refine below_set ?_ GE383.out | refine below_set ?_ GE398.out) | exact HB.out))); (case side6 => exact HC0_1.out); (case side7 => exact Kd.C_below HR0_2.out (by repeat (first | (with_reducible first | exact HB.out | apply below_alloc | apply pw_below_drewN | apply below_drew1 | refine below_set ?_ GE383.out | refine below_set ?_ GE398.out) | exact HB.out))); (case side8 => exact HC0_2.out); rintro e w39 ⟨rfl, hb⟩; have n0_ := Aside0.mk (Kd.R_below (by (with_reducible repeat (first | apply Kd.R_alloc | apply Kd.R_drewN | apply Kd.R_drew)); exact (Kd.R_mono (Kd.R_far (p := ⟨gb398, 2, none⟩) (Kd.R_far (p := ⟨gb398, 1, none⟩) (Kd.R_far (p := ⟨gb398, 0, none⟩) (Kd.R_types HO393.out BK398.out (by decide)) (fun _ hk => hk.2) (.int .i64 t390)) (fun _ hk => hk.2) (.slice Ao32 t391.length co32)) (fun _ hk => hk.2) (.slice Ao34 t394.length co34)) (fun _ h_ => h_.1))) hb); have n1_ := Aside0.mk (Kd.N_below (by (with_reducible repeat (first | apply Kd.N_alloc | apply Kd.N_drewN | apply Kd.N_drew)); exact (Kd.N_mono (Kd.N_far (p := ⟨gb398, 2, none⟩) (Kd.N_far (p := ⟨gb398, 1, none⟩) (Kd.N_far (p := ⟨gb398, 0, none⟩) (Kd.N_mono HO396.out (fun k_ hk => (⟨hk, hk.2.2⟩ : _ ∧ k_ ≠ gb398))) (fun _ hk => hk.2) (.int .i64 t390)) (fun _ hk => hk.2) (.slice Ao32 t391.length co32)) (fun _ hk => hk.2) (.slice Ao34 t394.length co34)) (fun _ h_ => h_.1))) hb); have n2_ := Aside0.mk (blk_below (g := gb383) (o := .cells #[.int .i64 a0_0, .slice A0_1 l0_1.length c0_1, .slice (some ad388) l0_2.length c0_2] 25 (0, 0)) (by (with_reducible repeat (first | refine blk_drewN ?_ _ | refine blk_drew ?_ | refine blk_alloc ?_ _)); refine blk_far ?_ NB383_398.out _; (with_reducible repeat (first | refine blk_drewN ?_ _ | refine blk_drew ?_ | refine blk_alloc ?_ _)); refine blk_far ?_ NB383_398.out _; (with_reducible repeat (first | refine blk_drewN ?_ _ | refine blk_drew ?_ | refine blk_alloc ?_ _)); refine blk_far ?_ NB383_398.out _; (with_reducible repeat (first | refine blk_drewN ?_ _ | refine blk_drew ?_ | refine blk_alloc ?_ _)); exact BK383.out) hb); have n3_ := Aside0.mk (blk_below (g := gb398) (o := .cells #[.int .i64 t390, .slice Ao32 t391.length co32, .slice Ao34 t394.length co34] 25 (0, 0)) (by (with_reducible repeat (first | refine blk_drewN ?_ _ | refine blk_drew ?_ | refine blk_alloc ?_ _)); refine blk_put (cs := #[.int .i64 t390, .slice Ao32 t391.length co32, .slice none 0 0]) ?_ 2 _ rfl; (with_reducible repeat (first | refine blk_drewN ?_ _ | refine blk_drew ?_ | refine blk_alloc ?_ _)); refine blk_put (cs := #[.int .i64 t390, .slice none 0 0, .slice none 0 0]) ?_ 1 _ rfl; (with_reducible repeat (first | refine blk_drewN ?_ _ | refine blk_drew ?_ | refine blk_alloc ?_ _)); refine blk_put (cs := #[.int .i64 0, .slice none 0 0, .slice none 0 0]) ?_ 0 _ rfl; (with_reducible repeat (first | refine blk_drewN ?_ _ | refine blk_drew ?_ | refine blk_alloc ?_ _)); exact BK398.out) hb); have n4_ := Aside0.mk (below_step (by repeat (first | (with_reducible first | exact HB.out | apply below_alloc | apply pw_below_drewN | apply below_drew1 | refine below_set ?_ GE383.out | refine below_set ?_ GE398.out) | exact HB.out)) hb); clear HO393; clear HO396; clear BK383; clear BK398; clear HB; have HO393 := n0_; have HO396 := n1_; have BK383 := n2_; have BK398 := n3_; have HB := n4_; clear n0_ n1_ n2_ n3_ n4_; (try clear hb); (try clear hb2); (try clear hk); (try clear hi)))
                      go_ret
                      exact ⟨by first | rfl | (simp [errW_none, errW_some] <;> rfl) | (simp [*, errW_none, errW_some] <;> rfl), by repeat (first | (with_reducible first | exact HB.out | apply below_alloc | apply pw_below_drewN | apply below_drew1 | refine below_set ?_ GE383.out | refine below_set ?_ GE398.out) | exact HB.out)⟩
                    · rw [if_neg c23] at H
                      have c23b0 : (t389 == t386) = false := beq_eq_false_iff_ne.mpr c23
                      have c23b1 : (t389 != t386) = true := bne_iff_ne.mpr c23
                      exact absurd (Option.some.inj H) (by rw [hT_]; decide)
                  · rw [if_neg c22] at H
                    have c22b0 : (t397 == 0) = false := beq_eq_false_iff_ne.mpr c22
                    have c22b1 : (t397 != 0) = true := bne_iff_ne.mpr c22
                    exact absurd (Option.some.inj H) (by rw [hT_]; decide)
                · exact absurd rfl c21
              · rw [if_neg c19] at H
                exact absurd H (by simp)
            · rw [if_neg c18] at H
              exact absurd H (by simp)
          · rw [if_neg c17] at H
            have c17b0 : (t387 == 0) = false := beq_eq_false_iff_ne.mpr c17
            have c17b1 : (t387 != 0) = true := bne_iff_ne.mpr c17
            replace H := Option.bind_eq_some_iff.mp H
            obtain ⟨⟨t400, t401, t402, t405, t408⟩, A730, H⟩ := H
            replace H : (if t408 = 0 then ((slots_Del.f kj5 t401 t402 t405 a1).bind fun bt410 => (if true = true then (if t387 = 5 then (if bt410.2.2.2.2 = 0 then ((slots_Same.f kj5 bt410.2.1 bt410.2.2.1 bt410.2.2.2.1 a0_0 l0_1 l0_2).bind fun t420 => (some t420)) else (some false)) else (some false)) else (some false))) else (if true = true then (some ((t402.length : Int) == 0)) else (some false))) = some r := H
            have A73 := Aside0.mk A730
            clear A730
            by_cases c74 : t408 = 0
            · rw [if_pos c74] at H
              have c74b0 : (t408 == 0) = true := beq_iff_eq.mpr c74
              have c74b1 : (t408 != 0) = false := bne_eq_false_iff_eq.mpr c74
              clear c74
              replace H := Option.bind_eq_some_iff.mp H
              obtain ⟨⟨t410, t411, t412, t415, t418⟩, A750, H⟩ := H
              replace H : (if true = true then (if t387 = 5 then (if t418 = 0 then ((slots_Same.f kj5 t411 t412 t415 a0_0 l0_1 l0_2).bind fun t420 => (some t420)) else (some false)) else (some false)) else (some false)) = some r := H
              have A75 := Aside0.mk A750
              clear A750
              by_cases c76 : true = true
              · clear c76
                have H1 : (if t387 = 5 then (if t418 = 0 then ((slots_Same.f kj5 t411 t412 t415 a0_0 l0_1 l0_2).bind fun t420 => (some t420)) else (some false)) else (some false)) = some r := by rw [if_pos rfl] at H; exact H
                clear H
                have H := H1
                clear H1
                by_cases c77 : t387 = 5
                · rw [if_pos c77] at H
                  have c77b0 : (t387 == 5) = true := beq_iff_eq.mpr c77
                  have c77b1 : (t387 != 5) = false := bne_eq_false_iff_eq.mpr c77
                  clear c77
                  by_cases c78 : t418 = 0
                  · rw [if_pos c78] at H
                    have c78b0 : (t418 == 0) = true := beq_iff_eq.mpr c78
                    have c78b1 : (t418 != 0) = false := bne_eq_false_iff_eq.mpr c78
                    clear c78
                    replace H := Option.bind_eq_some_iff.mp H
                    obtain ⟨t420, A790, H⟩ := H
                    replace H : (some t420) = some r := H
                    have A79 := Aside0.mk A790
                    clear A790
                    obtain rfl := Option.some.inj H
                    have hcz80_0 : wc.cell? ⟨gb383, 0, none⟩ = some (.int .i64 a0_0) := (blk_cell BK383.out 0).trans rfl
                    have hcz80_1 : wc.cell? ⟨gb383, 1, none⟩ = some (.slice A0_1 l0_1.length c0_1) := (blk_cell BK383.out 1).trans rfl
                    have hcz80_2 : wc.cell? ⟨gb383, 2, none⟩ = some (.slice A0_2 l0_2.length c0_2) := (blk_cell BK383.out 2).trans rfl
                    have hfz80_0 := blk_frozen BK383.out 0
                    have hfz80_1 := blk_frozen BK383.out 1
                    have hfz80_2 := blk_frozen BK383.out 2
                    go_wp2_with (first | ((with_reducible refine gate_callee (f := 26) rfl ?_); refine goesL_ (some 34) rfl rfl Try.func26 (by kernel_rfl) rfl #[.agg #[.int .i64 a0_0, .slice A0_1 l0_1.length c0_1, .slice A0_2 l0_2.length c0_2], .int .i64 a1] rfl (by (try simp only [List.map_toArray, List.map_cons, List.map_nil]); first | done | rfl | (simp only [List.length_drop, List.length_take]; rfl)) ?_; (with_reducible refine (h_slots_Find.calls a0_0 _ _ l0_1 _ _ l0_2 a1 t386 t387 _ ?side1 ?side2 ?side3 ?side4 A16.out).mono ?_); (case side1 => repeat (first | exact (Kd.C_below HR0_1.out HB.out) | (with_reducible refine Kd.C_alloc ?_ _) | (with_reducible refine Kd.C_drewN ?_ _) | (with_reducible refine Kd.C_drew ?_))); (case side2 => exact HC0_1.out); (case side3 => repeat (first | exact (Kd.C_below HR0_2.out HB.out) | (with_reducible refine Kd.C_alloc ?_ _) | (with_reducible refine Kd.C_drewN ?_ _) | (with_reducible refine Kd.C_drew ?_))); (case side4 => exact HC0_2.out); rintro e w81 ⟨rfl, hb⟩; refine ⟨_, rfl, ?_⟩; have n0_ := Aside0.mk (blk_below (g := gb383) (o := .cells #[.int .i64 a0_0, .slice A0_1 l0_1.length c0_1, .slice A0_2 l0_2.length c0_2] 25 (0, 0)) (by (with_reducible repeat (first | refine blk_drewN ?_ _ | refine blk_drew ?_ | refine blk_alloc ?_ _)); exact BK383.out) hb); have n1_ := Aside0.mk (below_step (by repeat (first | (with_reducible first | exact HB.out | apply below_alloc | apply pw_below_drewN | apply below_drew1 | refine below_set ?_ GE383.out) | exact HB.out)) hb); clear BK383; clear HB; have BK383 := n0_; have HB := n1_; clear n0_ n1_; (try clear hb); (try clear hb2); (try clear hk); (try clear hi); have hcz82_0 : w81.cell? ⟨gb383, 0, none⟩ = some (.int .i64 a0_0) := (blk_cell BK383.out 0).trans rfl; have hcz82_1 : w81.cell? ⟨gb383, 1, none⟩ = some (.slice A0_1 l0_1.length c0_1) := (blk_cell BK383.out 1).trans rfl; have hcz82_2 : w81.cell? ⟨gb383, 2, none⟩ = some (.slice A0_2 l0_2.length c0_2) := (blk_cell BK383.out 2).trans rfl; have hfz82_0 := blk_frozen BK383.out 0; have hfz82_1 := blk_frozen BK383.out 1; have hfz82_2 := blk_frozen BK383.out 2) | ((with_reducible refine gate_callee (f := 27) rfl ?_); refine goesL_ (some 70) rfl rfl Try.func27 (by kernel_rfl) rfl #[.agg #[.int .i64 a0_0, .slice A0_1 l0_1.length c0_1, .slice A0_2 l0_2.length c0_2], .int .i64 a1, .slice A2 l2.length c2] rfl (by (try simp only [List.map_toArray, List.map_cons, List.map_nil]); first | done | rfl | (simp only [List.length_drop, List.length_take]; rfl)) ?_; (with_reducible refine (slots_Put.calls kj5 a0_0 _ _ l0_1 (fun k_ => k_ < w.heap.size) _ _ l0_2 a1 _ _ l2 t400 t401 t402 t405 t408 _ ?side1 ?side2 ?side3 ?side4 ?side5 A73.out).mono ?_); (case side1 => repeat (first | exact (Kd.C_below HR0_1.out HB.out) | (with_reducible refine Kd.C_alloc ?_ _) | (with_reducible refine Kd.C_drewN ?_ _) | (with_reducible refine Kd.C_drew ?_))); (case side2 => exact HC0_1.out); (case side3 => exact Kd.V_mk HC0_2.out (Kd.F_below (Kd.C_F (Kd.heap_slice 74 (Kd.heap_int .i16)) HR0_2.out) (by repeat (first | (with_reducible first | exact HB.out | apply below_alloc | apply pw_below_drewN | apply below_drew1 | refine below_set ?_ GE383.out) | exact HB.out)))); (case side4 => repeat (first | exact (Kd.C_below HR2.out HB.out) | (with_reducible refine Kd.C_alloc ?_ _) | (with_reducible refine Kd.C_drewN ?_ _) | (with_reducible refine Kd.C_drew ?_))); (case side5 => exact HC2.out); rintro e w83 ⟨v403, v406, rfl, ho0, ho1, hb⟩; refine ⟨_, rfl, ?_⟩; have n0_ := Aside0.mk (Kd.R_lower (Kd.R_mono (ok' := fun k_ => True) ho0 (fun _ hk_ => trivial)) (below_size (by repeat (first | (with_reducible first | exact HB.out | apply below_alloc | apply pw_below_drewN | apply below_drew1 | refine below_set ?_ GE383.out) | exact HB.out)))); have n1_ := Aside0.mk (Kd.N_lower (Kd.N_mono (ok' := fun k_ => some k_ ≠ (v403 : Value).ownBlock ∧ k_ ≠ gb383) ho1 (fun k_ hk_ => ⟨hk_.2, Or.elim hk_.1 (fun hs_ => fun e_ => Nat.not_le.2 hs_ (by rw [e_]; exact GW383.out)) (fun hn_ => (Kd.freshB (g := gb383) (o := .cells #[.int .i64 a0_0, .slice A0_1 l0_1.length c0_1, .slice A0_2 l0_2.length c0_2] 25 (0, 0)) (by (with_reducible repeat (first | refine blk_drewN ?_ _ | refine blk_drew ?_ | refine blk_alloc ?_ _)); exact BK383.out) k_ hn_))⟩)) (below_size (by repeat (first | (with_reducible first | exact HB.out | apply below_alloc | apply pw_below_drewN | apply below_drew1 | refine below_set ?_ GE383.out) | exact HB.out)))); have n2_ := Aside0.mk (blk_below (g := gb383) (o := .cells #[.int .i64 a0_0, .slice A0_1 l0_1.length c0_1, .slice A0_2 l0_2.length c0_2] 25 (0, 0)) (by (with_reducible repeat (first | refine blk_drewN ?_ _ | refine blk_drew ?_ | refine blk_alloc ?_ _)); exact BK383.out) hb); have n3_ := Aside0.mk (below_step (by repeat (first | (with_reducible first | exact HB.out | apply below_alloc | apply pw_below_drewN | apply below_drew1 | refine below_set ?_ GE383.out) | exact HB.out)) hb); clear BK383; clear HB; have HO404 := n0_; have HO407 := n1_; have BK383 := n2_; have HB := n3_; clear n0_ n1_ n2_ n3_; (try clear hb); (try clear hb2); (try clear hk); (try clear hi); (try clear ho0); (try clear ho1)) | ((with_reducible refine gate_dst (N := 14) rfl ?_); (try (refine gate_guard (by rfl) ?_; dsimp only)); refine box_event ?hg (N := 14) ?hd (cs := #[.int .i64 0, .slice none 0 0, .slice none 0 0]) (t := 25) ?hr ?_; (case hd => rfl); (case hg => rfl); (case hr => first | (go_simp; done) | (go_simp; rfl)); intro gb409 hg w84 hbox hb; have n0_ := Aside0.mk (Kd.R_below (by (with_reducible repeat (first | apply Kd.R_alloc | apply Kd.R_drewN | apply Kd.R_drew)); exact HO404.out) hb); have n1_ := Aside0.mk (Kd.N_below (Kd.N_elderB (by (with_reducible repeat (first | apply Kd.N_alloc | apply Kd.N_drewN | apply Kd.N_drew)); exact HO407.out) gb409 (Nat.le_of_eq hg.symm)) hb); have n2_ := Aside0.mk (blk_below (g := gb383) (o := .cells #[.int .i64 a0_0, .slice A0_1 l0_1.length c0_1, .slice A0_2 l0_2.length c0_2] 25 (0, 0)) (by (with_reducible repeat (first | refine blk_drewN ?_ _ | refine blk_drew ?_ | refine blk_alloc ?_ _)); exact BK383.out) hb); have n3_ := Aside0.mk (below_step (by repeat (first | (with_reducible first | exact HB.out | apply below_alloc | apply pw_below_drewN | apply below_drew1 | refine below_set ?_ GE383.out) | exact HB.out)) hb); have n4_ := Aside0.mk (hbox); have n5_ := Aside0.mk ((by rw [hg]; exact (below_size (by repeat (first | (with_reducible first | exact HB.out | apply below_alloc | apply pw_below_drewN | apply below_drew1 | refine below_set ?_ GE383.out) | exact HB.out))) : w.heap.size ≤ gb409)); have n6_ := Aside0.mk ((by rw [hg]; exact (below_size (by repeat (first | (with_reducible first | exact HB.out | apply below_alloc | apply pw_below_drewN | apply below_drew1 | refine below_set ?_ GE383.out) | exact HB.out))) : w.heap.size ≤ gb409)); have n7_ := Aside0.mk ((by rw [hg]; exact Nat.ne_of_lt (blk_lt (g := gb383) (o := .cells #[.int .i64 a0_0, .slice A0_1 l0_1.length c0_1, .slice A0_2 l0_2.length c0_2] 25 (0, 0)) (by (with_reducible repeat (first | refine blk_drewN ?_ _ | refine blk_drew ?_ | refine blk_alloc ?_ _)); exact BK383.out)) : gb383 ≠ gb409)); have n8_ := Aside0.mk ((by rw [hg]; exact Nat.ne_of_gt (blk_lt (g := gb383) (o := .cells #[.int .i64 a0_0, .slice A0_1 l0_1.length c0_1, .slice A0_2 l0_2.length c0_2] 25 (0, 0)) (by (with_reducible repeat (first | refine blk_drewN ?_ _ | refine blk_drew ?_ | refine blk_alloc ?_ _)); exact BK383.out)) : gb409 ≠ gb383)); clear HO404; clear HO407; clear BK383; clear HB; have HO404 := n0_; have HO407 := n1_; have BK383 := n2_; have HB := n3_; have BK409 := n4_; have GW409 := n5_; have GE409 := n6_; have NB383_409 := n7_; have NB409_383 := n8_; clear n0_ n1_ n2_ n3_ n4_ n5_ n6_ n7_ n8_; clear hb hbox hg; have hnb85 := NB409_383.out; have hnc85 := NB383_409.out; have hcz86_0 : w84.cell? ⟨gb409, 0, none⟩ = some (.int .i64 0) := (blk_cell BK409.out 0).trans rfl; have hcz86_1 : w84.cell? ⟨gb409, 1, none⟩ = some (.slice none 0 0) := (blk_cell BK409.out 1).trans rfl; have hcz86_2 : w84.cell? ⟨gb409, 2, none⟩ = some (.slice none 0 0) := (blk_cell BK409.out 2).trans rfl; have hfz86_0 := blk_frozen BK409.out 0; have hfz86_1 := blk_frozen BK409.out 1; have hfz86_2 := blk_frozen BK409.out 2; obtain ⟨Ao87, co87, eo87⟩ := Kd.R_slice HO404.out; subst eo87; obtain ⟨Ao88, co88, eo88⟩ := Kd.N_slice HO407.out; subst eo88) | ((with_reducible refine gate_store (t := 25) (p := 14) rfl ?_); refine store_event (t := 25) (p := 14) (v := ?vo_w89) (w1 := (((w84.setCell ⟨gb409, 0, none⟩ (.int .i64 t401)).setCell ⟨gb409, 1, none⟩ (.slice Ao87 t402.length co87)).setCell ⟨gb409, 2, none⟩ (.slice Ao88 t405.length co88))) ?hg ?ho ?hn ?hr ?_; (case ho => rfl); (case hg => rfl); (case hn => rfl); (case hr => first | (go_simp; done) | (go_simp; rfl)); intro w89 hw; have n0_ : Aside0 (Kd.R (Kd.int .i64) 2 w89 w.heap.size (fun _ => True) (.slice Ao87 t402.length co87) t402) := ⟨(by rw [hw]; exact (by (with_reducible repeat (first | apply Kd.R_alloc | apply Kd.R_drewN | apply Kd.R_drew)); exact Kd.R_mono (Kd.R_far (p := ⟨gb409, 2, none⟩) (Kd.R_far (p := ⟨gb409, 1, none⟩) (Kd.R_far (p := ⟨gb409, 0, none⟩) (Kd.R_types HO404.out BK409.out (by decide)) (fun _ hk => hk.2) (.int .i64 t401)) (fun _ hk => hk.2) (.slice Ao87 t402.length co87)) (fun _ hk => hk.2) (.slice Ao88 t405.length co88)) (fun _ hk => trivial)))⟩; have n1_ : Aside0 (Kd.N (Kd.slice 74 (Kd.int .i16)) 27 w89 w.heap.size (fun k_ => some k_ ≠ (.slice Ao87 t402.length co87 : Value).ownBlock ∧ k_ ≠ gb383 ∧ k_ ≠ gb409) (.slice Ao88 t405.length co88) t405) := ⟨(by rw [hw]; exact (by (with_reducible repeat (first | apply Kd.N_alloc | apply Kd.N_drewN | apply Kd.N_drew)); exact Kd.N_mono (Kd.N_far (p := ⟨gb409, 2, none⟩) (Kd.N_far (p := ⟨gb409, 1, none⟩) (Kd.N_far (p := ⟨gb409, 0, none⟩) (Kd.N_mono HO407.out (fun k_ hk => (⟨hk, hk.2⟩ : _ ∧ k_ ≠ gb409))) (fun _ hk => hk.2) (.int .i64 t401)) (fun _ hk => hk.2) (.slice Ao87 t402.length co87)) (fun _ hk => hk.2) (.slice Ao88 t405.length co88)) (fun _ hk => ⟨hk.1.1.1, ⟨hk.1.1.2, hk.1.2⟩⟩)))⟩; have n2_ : Aside0 (w89.heap[gb383]? = some (.cells #[.int .i64 a0_0, .slice A0_1 l0_1.length c0_1, .slice A0_2 l0_2.length c0_2] 25 (0, 0))) := ⟨(by rw [hw]; exact (by (with_reducible repeat (first | refine blk_drewN ?_ _ | refine blk_drew ?_ | refine blk_alloc ?_ _)); refine blk_far ?_ NB383_409.out _; (with_reducible repeat (first | refine blk_drewN ?_ _ | refine blk_drew ?_ | refine blk_alloc ?_ _)); refine blk_far ?_ NB383_409.out _; (with_reducible repeat (first | refine blk_drewN ?_ _ | refine blk_drew ?_ | refine blk_alloc ?_ _)); refine blk_far ?_ NB383_409.out _; (with_reducible repeat (first | refine blk_drewN ?_ _ | refine blk_drew ?_ | refine blk_alloc ?_ _)); exact BK383.out))⟩; have n3_ : Aside0 (w89.heap[gb409]? = some (.cells #[.int .i64 t401, .slice Ao87 t402.length co87, .slice Ao88 t405.length co88] 25 (0, 0))) := ⟨(by rw [hw]; exact (by (with_reducible repeat (first | refine blk_drewN ?_ _ | refine blk_drew ?_ | refine blk_alloc ?_ _)); refine blk_put (cs := #[.int .i64 t401, .slice Ao87 t402.length co87, .slice none 0 0]) ?_ 2 _ rfl; (with_reducible repeat (first | refine blk_drewN ?_ _ | refine blk_drew ?_ | refine blk_alloc ?_ _)); refine blk_put (cs := #[.int .i64 t401, .slice none 0 0, .slice none 0 0]) ?_ 1 _ rfl; (with_reducible repeat (first | refine blk_drewN ?_ _ | refine blk_drew ?_ | refine blk_alloc ?_ _)); refine blk_put (cs := #[.int .i64 0, .slice none 0 0, .slice none 0 0]) ?_ 0 _ rfl; (with_reducible repeat (first | refine blk_drewN ?_ _ | refine blk_drew ?_ | refine blk_alloc ?_ _)); exact BK409.out))⟩; have n4_ : Aside0 (Below w.heap.size w w89) := ⟨(by rw [hw]; exact (by repeat (first | (with_reducible first | exact HB.out | apply below_alloc | apply pw_below_drewN | apply below_drew1 | refine below_set ?_ GE383.out | refine below_set ?_ GE409.out) | exact HB.out)))⟩; clear hw; clear HO404; clear HO407; clear BK383; clear BK409; clear HB; have HO404 := n0_; have HO407 := n1_; have BK383 := n2_; have BK409 := n3_; have HB := n4_; clear n0_ n1_ n2_ n3_ n4_; have hcz90_0 : w89.cell? ⟨gb409, 0, none⟩ = some (.int .i64 t401) := (blk_cell BK409.out 0).trans rfl; have hcz90_1 : w89.cell? ⟨gb409, 1, none⟩ = some (.slice Ao87 t402.length co87) := (blk_cell BK409.out 1).trans rfl; have hcz90_2 : w89.cell? ⟨gb409, 2, none⟩ = some (.slice Ao88 t405.length co88) := (blk_cell BK409.out 2).trans rfl; have hfz90_0 := blk_frozen BK409.out 0; have hfz90_1 := blk_frozen BK409.out 1; have hfz90_2 := blk_frozen BK409.out 2) | ((with_reducible refine gate_callee (f := 34) rfl ?_); refine goesL_ (some 86) rfl rfl Try.func34 (by kernel_rfl) rfl #[.agg #[.int .i64 t401, .slice Ao87 t402.length co87, .slice Ao88 t405.length co88], .int .i64 a1] rfl (by (try simp only [List.map_toArray, List.map_cons, List.map_nil]); first | done | rfl | (simp only [List.length_drop, List.length_take]; rfl)) ?_; (with_reducible refine (slots_Del.calls kj5 t401 _ _ t402 (fun k_ => (some k_ ≠ (.slice Ao87 t402.length co87 : Value).ownBlock ∧ (k_ ≠ gb383 ∧ k_ ≠ gb409))) _ _ t405 a1 t410 t411 t412 t415 t418 _ ?side1 ?side2 ?side3 A75.out).mono ?_); (case side1 => repeat (first | exact (Kd.R_reads' HO404.out).2.2 | (with_reducible refine Kd.C_alloc ?_ _) | (with_reducible refine Kd.C_drewN ?_ _) | (with_reducible refine Kd.C_drew ?_))); (case side2 => exact (Kd.R_reads' HO404.out).2.1); (case side3 => exact Kd.N_V (HO407.out)); rintro e w91 ⟨v413, v416, rfl, ho0, ho1, hb⟩; refine ⟨_, rfl, ?_⟩; have n0_ := Aside0.mk (Kd.R_elder' (by (with_reducible repeat (first | apply Kd.R_alloc | apply Kd.R_drewN | apply Kd.R_drew)); exact HO404.out) (Kd.R_base ho0) hb); have n1_ := Aside0.mk (Kd.N_mono (Kd.N_told (Kd.N_told (Kd.N_old (by (with_reducible repeat (first | apply Kd.N_alloc | apply Kd.N_drewN | apply Kd.N_drew)); exact HO407.out) hb) (Kd.R_base ho0)) (Kd.N_base ho1)) (fun _ h_ => h_.1)); have n2_ := Aside0.mk (Kd.R_lower (Kd.R_new' (Kd.R_mono (ok' := fun k_ => True) ho0 (fun _ hk_ => trivial)) (Kd.R_lt (by (with_reducible repeat (first | apply Kd.R_alloc | apply Kd.R_drewN | apply Kd.R_drew)); exact HO404.out))) (below_size (by repeat (first | (with_reducible first | exact HB.out | apply below_alloc | apply pw_below_drewN | apply below_drew1 | refine below_set ?_ GE383.out | refine below_set ?_ GE409.out) | exact HB.out)))); have n3_ := Aside0.mk (Kd.N_lower (Kd.N_mono (ok' := fun k_ => some k_ ≠ (v413 : Value).ownBlock ∧ some k_ ≠ (.slice Ao87 t402.length co87 : Value).ownBlock ∧ k_ ≠ gb383 ∧ k_ ≠ gb409) ho1 (fun k_ hk_ => ⟨hk_.2, Or.elim hk_.1 (fun hs_ => hs_.1) (fun hn_ => (Kd.fresh' (Kd.R_lt (by (with_reducible repeat (first | apply Kd.R_alloc | apply Kd.R_drewN | apply Kd.R_drew)); exact HO404.out)) k_ hn_)), Or.elim hk_.1 (fun hs_ => hs_.2.1) (fun hn_ => (Kd.freshB (g := gb383) (o := .cells #[.int .i64 a0_0, .slice A0_1 l0_1.length c0_1, .slice A0_2 l0_2.length c0_2] 25 (0, 0)) (by (with_reducible repeat (first | refine blk_drewN ?_ _ | refine blk_drew ?_ | refine blk_alloc ?_ _)); exact BK383.out) k_ hn_)), Or.elim hk_.1 (fun hs_ => hs_.2.2) (fun hn_ => (Kd.freshB (g := gb409) (o := .cells #[.int .i64 t401, .slice Ao87 t402.length co87, .slice Ao88 t405.length co88] 25 (0, 0)) (by (with_reducible repeat (first | refine blk_drewN ?_ _ | refine blk_drew ?_ | refine blk_alloc ?_ _)); exact BK409.out) k_ hn_))⟩)) (below_size (by repeat (first | (with_reducible first | exact HB.out | apply below_alloc | apply pw_below_drewN | apply below_drew1 | refine below_set ?_ GE383.out | refine below_set ?_ GE409.out) | exact HB.out)))); have n4_ := Aside0.mk (blk_below (g := gb383) (o := .cells #[.int .i64 a0_0, .slice A0_1 l0_1.length c0_1, .slice A0_2 l0_2.length c0_2] 25 (0, 0)) (by (with_reducible repeat (first | refine blk_drewN ?_ _ | refine blk_drew ?_ | refine blk_alloc ?_ _)); exact BK383.out) hb); have n5_ := Aside0.mk (blk_below (g := gb409) (o := .cells #[.int .i64 t401, .slice Ao87 t402.length co87, .slice Ao88 t405.length co88] 25 (0, 0)) (by (with_reducible repeat (first | refine blk_drewN ?_ _ | refine blk_drew ?_ | refine blk_alloc ?_ _)); exact BK409.out) hb); have n6_ := Aside0.mk (below_step (by repeat (first | (with_reducible first | exact HB.out | apply below_alloc | apply pw_below_drewN | apply below_drew1 | refine below_set ?_ GE383.out | refine below_set ?_ GE409.out) | exact HB.out)) hb); clear HO404; clear HO407; clear BK383; clear BK409; clear HB; have HO404 := n0_; have HO407 := n1_; have HO414 := n2_; have HO417 := n3_; have BK383 := n4_; have BK409 := n5_; have HB := n6_; clear n0_ n1_ n2_ n3_ n4_ n5_ n6_; (try clear hb); (try clear hb2); (try clear hk); (try clear hi); (try clear ho0); (try clear ho1)) | ((with_reducible refine gate_dst (N := 17) rfl ?_); (try (refine gate_guard (by rfl) ?_; dsimp only)); refine box_event ?hg (N := 17) ?hd (cs := #[.int .i64 0, .slice none 0 0, .slice none 0 0]) (t := 25) ?hr ?_; (case hd => rfl); (case hg => rfl); (case hr => first | (go_simp; done) | (go_simp; rfl)); intro gb419 hg w92 hbox hb; have n0_ := Aside0.mk (Kd.R_below (by (with_reducible repeat (first | apply Kd.R_alloc | apply Kd.R_drewN | apply Kd.R_drew)); exact HO404.out) hb); have n1_ := Aside0.mk (Kd.N_below (Kd.N_elderB (by (with_reducible repeat (first | apply Kd.N_alloc | apply Kd.N_drewN | apply Kd.N_drew)); exact HO407.out) gb419 (Nat.le_of_eq hg.symm)) hb); have n2_ := Aside0.mk (Kd.R_below (by (with_reducible repeat (first | apply Kd.R_alloc | apply Kd.R_drewN | apply Kd.R_drew)); exact HO414.out) hb); have n3_ := Aside0.mk (Kd.N_below (Kd.N_elderB (by (with_reducible repeat (first | apply Kd.N_alloc | apply Kd.N_drewN | apply Kd.N_drew)); exact HO417.out) gb419 (Nat.le_of_eq hg.symm)) hb); have n4_ := Aside0.mk (blk_below (g := gb383) (o := .cells #[.int .i64 a0_0, .slice A0_1 l0_1.length c0_1, .slice A0_2 l0_2.length c0_2] 25 (0, 0)) (by (with_reducible repeat (first | refine blk_drewN ?_ _ | refine blk_drew ?_ | refine blk_alloc ?_ _)); exact BK383.out) hb); have n5_ := Aside0.mk (blk_below (g := gb409) (o := .cells #[.int .i64 t401, .slice Ao87 t402.length co87, .slice Ao88 t405.length co88] 25 (0, 0)) (by (with_reducible repeat (first | refine blk_drewN ?_ _ | refine blk_drew ?_ | refine blk_alloc ?_ _)); exact BK409.out) hb); have n6_ := Aside0.mk (below_step (by repeat (first | (with_reducible first | exact HB.out | apply below_alloc | apply pw_below_drewN | apply below_drew1 | refine below_set ?_ GE383.out | refine below_set ?_ GE409.out) | exact HB.out)) hb); have n7_ := Aside0.mk (hbox); have n8_ := Aside0.mk ((by rw [hg]; exact (below_size (by repeat (first | (with_reducible first | exact HB.out | apply below_alloc | apply pw_below_drewN | apply below_drew1 | refine below_set ?_ GE383.out | refine below_set ?_ GE409.out) | exact HB.out))) : w.heap.size ≤ gb419)); have n9_ := Aside0.mk ((by rw [hg]; exact (below_size (by repeat (first | (with_reducible first | exact HB.out | apply below_alloc | apply pw_below_drewN | apply below_drew1 | refine below_set ?_ GE383.out | refine below_set ?_ GE409.out) | exact HB.out))) : w.heap.size ≤ gb419)); have n10_ := Aside0.mk ((by rw [hg]; exact Nat.ne_of_lt (blk_lt (g := gb383) (o := .cells #[.int .i64 a0_0, .slice A0_1 l0_1.length c0_1, .slice A0_2 l0_2.length c0_2] 25 (0, 0)) (by (with_reducible repeat (first | refine blk_drewN ?_ _ | refine blk_drew ?_ | refine blk_alloc ?_ _)); exact BK383.out)) : gb383 ≠ gb419)); have n11_ := Aside0.mk ((by rw [hg]; exact Nat.ne_of_gt (blk_lt (g := gb383) (o := .cells #[.int .i64 a0_0, .slice A0_1 l0_1.length c0_1, .slice A0_2 l0_2.length c0_2] 25 (0, 0)) (by (with_reducible repeat (first | refine blk_drewN ?_ _ | refine blk_drew ?_ | refine blk_alloc ?_ _)); exact BK383.out)) : gb419 ≠ gb383)); have n12_ := Aside0.mk ((by rw [hg]; exact Nat.ne_of_lt (blk_lt (g := gb409) (o := .cells #[.int .i64 t401, .slice Ao87 t402.length co87, .slice Ao88 t405.length co88] 25 (0, 0)) (by (with_reducible repeat (first | refine blk_drewN ?_ _ | refine blk_drew ?_ | refine blk_alloc ?_ _)); exact BK409.out)) : gb409 ≠ gb419)); have n13_ := Aside0.mk ((by rw [hg]; exact Nat.ne_of_gt (blk_lt (g := gb409) (o := .cells #[.int .i64 t401, .slice Ao87 t402.length co87, .slice Ao88 t405.length co88] 25 (0, 0)) (by (with_reducible repeat (first | refine blk_drewN ?_ _ | refine blk_drew ?_ | refine blk_alloc ?_ _)); exact BK409.out)) : gb419 ≠ gb409)); clear HO404; clear HO407; clear HO414; clear HO417; clear BK383; clear BK409; clear HB; have HO404 := n0_; have HO407 := n1_; have HO414 := n2_; have HO417 := n3_; have BK383 := n4_; have BK409 := n5_; have HB := n6_; have BK419 := n7_; have GW419 := n8_; have GE419 := n9_; have NB383_419 := n10_; have NB419_383 := n11_; have NB409_419 := n12_; have NB419_409 := n13_; clear n0_ n1_ n2_ n3_ n4_ n5_ n6_ n7_ n8_ n9_ n10_ n11_ n12_ n13_; clear hb hbox hg; have hnb93 := NB419_383.out; have hnc93 := NB383_419.out; have hnb94 := NB419_409.out; have hnc94 := NB409_419.out; have hcz95_0 : w92.cell? ⟨gb419, 0, none⟩ = some (.int .i64 0) := (blk_cell BK419.out 0).trans rfl; have hcz95_1 : w92.cell? ⟨gb419, 1, none⟩ = some (.slice none 0 0) := (blk_cell BK419.out 1).trans rfl; have hcz95_2 : w92.cell? ⟨gb419, 2, none⟩ = some (.slice none 0 0) := (blk_cell BK419.out 2).trans rfl; have hfz95_0 := blk_frozen BK419.out 0; have hfz95_1 := blk_frozen BK419.out 1; have hfz95_2 := blk_frozen BK419.out 2; obtain ⟨Ao96, co96, eo96⟩ := Kd.R_slice HO414.out; subst eo96; obtain ⟨Ao97, co97, eo97⟩ := Kd.N_slice HO417.out; subst eo97; have hcz98_0 : w92.cell? ⟨gb383, 0, none⟩ = some (.int .i64 a0_0) := (blk_cell BK383.out 0).trans rfl; have hcz98_1 : w92.cell? ⟨gb383, 1, none⟩ = some (.slice A0_1 l0_1.length c0_1) := (blk_cell BK383.out 1).trans rfl; have hcz98_2 : w92.cell? ⟨gb383, 2, none⟩ = some (.slice A0_2 l0_2.length c0_2) := (blk_cell BK383.out 2).trans rfl; have hfz98_0 := blk_frozen BK383.out 0; have hfz98_1 := blk_frozen BK383.out 1; have hfz98_2 := blk_frozen BK383.out 2) | (go_at_call 33; (with_reducible refine (slots_Same.calls kj5 t411 _ _ t412 _ _ t415 a0_0 _ _ l0_1 _ _ l0_2 t420 _ ?side1 ?side2 ?side3 ?side4 ?side5 ?side6 ?side7 ?side8 A79.out).mono ?_); (case side1 => refine (Kd.R_reads' (e := 2) (base := w.heap.size) (ok := fun k_ => (True ∧ some k_ ≠ (.slice Ao87 t402.length co87 : Value).ownBlock)) (n := t412.length) (c := co96) ?_).2.2; exact (by (with_reducible repeat (first | apply Kd.R_alloc | apply Kd.R_drewN | apply Kd.R_drew)); exact (Kd.R_mono (Kd.R_far (p := ⟨gb419, 2, none⟩) (Kd.R_far (p := ⟨gb419, 1, none⟩) (Kd.R_far (p := ⟨gb419, 0, none⟩) (Kd.R_types HO414.out BK419.out (by decide)) (fun _ hk => hk.2) (.int .i64 t411)) (fun _ hk => hk.2) (.slice Ao96 t412.length co96)) (fun _ hk => hk.2) (.slice Ao97 t415.length co97)) (fun _ h_ => h_.1)))); (case side2 => exact (Kd.R_reads' HO414.out).2.1); (case side3 => refine (Kd.N_reads' (e := 27) (base := w.heap.size) (ok := fun k_ => ((some k_ ≠ (.slice Ao96 t412.length co96 : Value).ownBlock ∧ (some k_ ≠ (.slice Ao87 t402.length co87 : Value).ownBlock ∧ (k_ ≠ gb383 ∧ k_ ≠ gb409))) ∧ k_ ≠ gb419)) (n := t415.length) (c := co97) ?_).2.2; exact (by (with_reducible repeat (first | apply Kd.N_alloc | apply Kd.N_drewN | apply Kd.N_drew)); exact (Kd.N_mono (Kd.N_far (p := ⟨gb419, 2, none⟩) (Kd.N_far (p := ⟨gb419, 1, none⟩) (Kd.N_far (p := ⟨gb419, 0, none⟩) (Kd.N_mono HO417.out (fun k_ hk => (⟨hk, hk.2⟩ : _ ∧ k_ ≠ gb419))) (fun _ hk => hk.2) (.int .i64 t411)) (fun _ hk => hk.2) (.slice Ao96 t412.length co96)) (fun _ hk => hk.2) (.slice Ao97 t415.length co97)) (fun _ h_ => h_.1)))); (case side4 => exact (Kd.N_reads' HO417.out).2.1); (case side5 => exact Kd.C_below HR0_1.out (by repeat (first | (with_reducible first | exact HB.out | apply below_alloc | apply pw_below_drewN | apply below_drew1 | refine below_set ?_ GE383.out | refine below_set ?_ GE409.out | refine below_set ?_ GE419.out) | exact HB.out))); (case side6 => exact HC0_1.out); (case side7 => exact Kd.C_below HR0_2.out (by repeat (first | (with_reducible first | exact HB.out | apply below_alloc | apply pw_below_drewN | apply below_drew1 | refine below_set ?_ GE383.out | refine below_set ?_ GE409.out | refine below_set ?_ GE419.out) | exact HB.out))); (case side8 => exact HC0_2.out); rintro e w99 ⟨rfl, hb⟩; have n0_ := Aside0.mk (Kd.R_below (by (with_reducible repeat (first | apply Kd.R_alloc | apply Kd.R_drewN | apply Kd.R_drew)); exact (Kd.R_mono (Kd.R_far (p := ⟨gb419, 2, none⟩) (Kd.R_far (p := ⟨gb419, 1, none⟩) (Kd.R_far (p := ⟨gb419, 0, none⟩) (Kd.R_types HO404.out BK419.out (by decide)) (fun _ hk => hk.2) (.int .i64 t411)) (fun _ hk => hk.2) (.slice Ao96 t412.length co96)) (fun _ hk => hk.2) (.slice Ao97 t415.length co97)) (fun _ h_ => h_.1))) hb); have n1_ := Aside0.mk (Kd.N_below (by (with_reducible repeat (first | apply Kd.N_alloc | apply Kd.N_drewN | apply Kd.N_drew)); exact (Kd.N_mono (Kd.N_far (p := ⟨gb419, 2, none⟩) (Kd.N_far (p := ⟨gb419, 1, none⟩) (Kd.N_far (p := ⟨gb419, 0, none⟩) (Kd.N_mono HO407.out (fun k_ hk => (⟨hk, hk.2⟩ : _ ∧ k_ ≠ gb419))) (fun _ hk => hk.2) (.int .i64 t411)) (fun _ hk => hk.2) (.slice Ao96 t412.length co96)) (fun _ hk => hk.2) (.slice Ao97 t415.length co97)) (fun _ h_ => h_.1))) hb); have n2_ := Aside0.mk (Kd.R_below (by (with_reducible repeat (first | apply Kd.R_alloc | apply Kd.R_drewN | apply Kd.R_drew)); exact (Kd.R_mono (Kd.R_far (p := ⟨gb419, 2, none⟩) (Kd.R_far (p := ⟨gb419, 1, none⟩) (Kd.R_far (p := ⟨gb419, 0, none⟩) (Kd.R_types HO414.out BK419.out (by decide)) (fun _ hk => hk.2) (.int .i64 t411)) (fun _ hk => hk.2) (.slice Ao96 t412.length co96)) (fun _ hk => hk.2) (.slice Ao97 t415.length co97)) (fun _ h_ => h_.1))) hb); have n3_ := Aside0.mk (Kd.N_below (by (with_reducible repeat (first | apply Kd.N_alloc | apply Kd.N_drewN | apply Kd.N_drew)); exact (Kd.N_mono (Kd.N_far (p := ⟨gb419, 2, none⟩) (Kd.N_far (p := ⟨gb419, 1, none⟩) (Kd.N_far (p := ⟨gb419, 0, none⟩) (Kd.N_mono HO417.out (fun k_ hk => (⟨hk, hk.2⟩ : _ ∧ k_ ≠ gb419))) (fun _ hk => hk.2) (.int .i64 t411)) (fun _ hk => hk.2) (.slice Ao96 t412.length co96)) (fun _ hk => hk.2) (.slice Ao97 t415.length co97)) (fun _ h_ => h_.1))) hb); have n4_ := Aside0.mk (blk_below (g := gb383) (o := .cells #[.int .i64 a0_0, .slice A0_1 l0_1.length c0_1, .slice A0_2 l0_2.length c0_2] 25 (0, 0)) (by (with_reducible repeat (first | refine blk_drewN ?_ _ | refine blk_drew ?_ | refine blk_alloc ?_ _)); refine blk_far ?_ NB383_419.out _; (with_reducible repeat (first | refine blk_drewN ?_ _ | refine blk_drew ?_ | refine blk_alloc ?_ _)); refine blk_far ?_ NB383_419.out _; (with_reducible repeat (first | refine blk_drewN ?_ _ | refine blk_drew ?_ | refine blk_alloc ?_ _)); refine blk_far ?_ NB383_419.out _; (with_reducible repeat (first | refine blk_drewN ?_ _ | refine blk_drew ?_ | refine blk_alloc ?_ _)); exact BK383.out) hb); have n5_ := Aside0.mk (blk_below (g := gb409) (o := .cells #[.int .i64 t401, .slice Ao87 t402.length co87, .slice Ao88 t405.length co88] 25 (0, 0)) (by (with_reducible repeat (first | refine blk_drewN ?_ _ | refine blk_drew ?_ | refine blk_alloc ?_ _)); refine blk_far ?_ NB409_419.out _; (with_reducible repeat (first | refine blk_drewN ?_ _ | refine blk_drew ?_ | refine blk_alloc ?_ _)); refine blk_far ?_ NB409_419.out _; (with_reducible repeat (first | refine blk_drewN ?_ _ | refine blk_drew ?_ | refine blk_alloc ?_ _)); refine blk_far ?_ NB409_419.out _; (with_reducible repeat (first | refine blk_drewN ?_ _ | refine blk_drew ?_ | refine blk_alloc ?_ _)); exact BK409.out) hb); have n6_ := Aside0.mk (blk_below (g := gb419) (o := .cells #[.int .i64 t411, .slice Ao96 t412.length co96, .slice Ao97 t415.length co97] 25 (0, 0)) (by (with_reducible repeat (first | refine blk_drewN ?_ _ | refine blk_drew ?_ | refine blk_alloc ?_ _)); refine blk_put (cs := #[.int .i64 t411, .slice Ao96 t412.length co96, .slice none 0 0]) ?_ 2 _ rfl; (with_reducible repeat (first | refine blk_drewN ?_ _ | refine blk_drew ?_ | refine blk_alloc ?_ _)); refine blk_put (cs := #[.int .i64 t411, .slice none 0 0, .slice none 0 0]) ?_ 1 _ rfl; (with_reducible repeat (first | refine blk_drewN ?_ _ | refine blk_drew ?_ | refine blk_alloc ?_ _)); refine blk_put (cs := #[.int .i64 0, .slice none 0 0, .slice none 0 0]) ?_ 0 _ rfl; (with_reducible repeat (first | refine blk_drewN ?_ _ | refine blk_drew ?_ | refine blk_alloc ?_ _)); exact BK419.out) hb); have n7_ := Aside0.mk (below_step (by repeat (first | (with_reducible first | exact HB.out | apply below_alloc | apply pw_below_drewN | apply below_drew1 | refine below_set ?_ GE383.out | refine below_set ?_ GE409.out | refine below_set ?_ GE419.out) | exact HB.out)) hb); clear HO404; clear HO407; clear HO414; clear HO417; clear BK383; clear BK409; clear BK419; clear HB; have HO404 := n0_; have HO407 := n1_; have HO414 := n2_; have HO417 := n3_; have BK383 := n4_; have BK409 := n5_; have BK419 := n6_; have HB := n7_; clear n0_ n1_ n2_ n3_ n4_ n5_ n6_ n7_; (try clear hb); (try clear hb2); (try clear hk); (try clear hi)))
                    go_ret
                    exact ⟨by first | rfl | (simp [errW_none, errW_some] <;> rfl) | (simp [*, errW_none, errW_some] <;> rfl), by repeat (first | (with_reducible first | exact HB.out | apply below_alloc | apply pw_below_drewN | apply below_drew1 | refine below_set ?_ GE383.out | refine below_set ?_ GE409.out | refine below_set ?_ GE419.out) | exact HB.out)⟩
                  · rw [if_neg c78] at H
                    have c78b0 : (t418 == 0) = false := beq_eq_false_iff_ne.mpr c78
                    have c78b1 : (t418 != 0) = true := bne_iff_ne.mpr c78
                    exact absurd (Option.some.inj H) (by rw [hT_]; decide)
                · rw [if_neg c77] at H
                  have c77b0 : (t387 == 5) = false := beq_eq_false_iff_ne.mpr c77
                  have c77b1 : (t387 != 5) = true := bne_iff_ne.mpr c77
                  exact absurd (Option.some.inj H) (by rw [hT_]; decide)
              · exact absurd rfl c76
            · rw [if_neg c74] at H
              have c74b0 : (t408 == 0) = false := beq_eq_false_iff_ne.mpr c74
              have c74b1 : (t408 != 0) = true := bne_iff_ne.mpr c74
              by_cases c154 : true = true
              · clear c154
                have H1 : (some ((t402.length : Int) == 0)) = some r := by rw [if_pos rfl] at H; exact H
                clear H
                have H := H1
                clear H1
                obtain rfl := Option.some.inj H
                have hcz155_0 : wc.cell? ⟨gb383, 0, none⟩ = some (.int .i64 a0_0) := (blk_cell BK383.out 0).trans rfl
                have hcz155_1 : wc.cell? ⟨gb383, 1, none⟩ = some (.slice A0_1 l0_1.length c0_1) := (blk_cell BK383.out 1).trans rfl
                have hcz155_2 : wc.cell? ⟨gb383, 2, none⟩ = some (.slice A0_2 l0_2.length c0_2) := (blk_cell BK383.out 2).trans rfl
                have hfz155_0 := blk_frozen BK383.out 0
                have hfz155_1 := blk_frozen BK383.out 1
                have hfz155_2 := blk_frozen BK383.out 2
                go_wp2_with (first | ((with_reducible refine gate_callee (f := 26) rfl ?_); refine goesL_ (some 34) rfl rfl Try.func26 (by kernel_rfl) rfl #[.agg #[.int .i64 a0_0, .slice A0_1 l0_1.length c0_1, .slice A0_2 l0_2.length c0_2], .int .i64 a1] rfl (by (try simp only [List.map_toArray, List.map_cons, List.map_nil]); first | done | rfl | (simp only [List.length_drop, List.length_take]; rfl)) ?_; (with_reducible refine (h_slots_Find.calls a0_0 _ _ l0_1 _ _ l0_2 a1 t386 t387 _ ?side1 ?side2 ?side3 ?side4 A16.out).mono ?_); (case side1 => repeat (first | exact (Kd.C_below HR0_1.out HB.out) | (with_reducible refine Kd.C_alloc ?_ _) | (with_reducible refine Kd.C_drewN ?_ _) | (with_reducible refine Kd.C_drew ?_))); (case side2 => exact HC0_1.out); (case side3 => repeat (first | exact (Kd.C_below HR0_2.out HB.out) | (with_reducible refine Kd.C_alloc ?_ _) | (with_reducible refine Kd.C_drewN ?_ _) | (with_reducible refine Kd.C_drew ?_))); (case side4 => exact HC0_2.out); rintro e w156 ⟨rfl, hb⟩; refine ⟨_, rfl, ?_⟩; have n0_ := Aside0.mk (blk_below (g := gb383) (o := .cells #[.int .i64 a0_0, .slice A0_1 l0_1.length c0_1, .slice A0_2 l0_2.length c0_2] 25 (0, 0)) (by (with_reducible repeat (first | refine blk_drewN ?_ _ | refine blk_drew ?_ | refine blk_alloc ?_ _)); exact BK383.out) hb); have n1_ := Aside0.mk (below_step (by repeat (first | (with_reducible first | exact HB.out | apply below_alloc | apply pw_below_drewN | apply below_drew1 | refine below_set ?_ GE383.out) | exact HB.out)) hb); clear BK383; clear HB; have BK383 := n0_; have HB := n1_; clear n0_ n1_; (try clear hb); (try clear hb2); (try clear hk); (try clear hi); have hcz157_0 : w156.cell? ⟨gb383, 0, none⟩ = some (.int .i64 a0_0) := (blk_cell BK383.out 0).trans rfl; have hcz157_1 : w156.cell? ⟨gb383, 1, none⟩ = some (.slice A0_1 l0_1.length c0_1) := (blk_cell BK383.out 1).trans rfl; have hcz157_2 : w156.cell? ⟨gb383, 2, none⟩ = some (.slice A0_2 l0_2.length c0_2) := (blk_cell BK383.out 2).trans rfl; have hfz157_0 := blk_frozen BK383.out 0; have hfz157_1 := blk_frozen BK383.out 1; have hfz157_2 := blk_frozen BK383.out 2) | ((with_reducible refine gate_callee (f := 27) rfl ?_); refine goesL_ (some 70) rfl rfl Try.func27 (by kernel_rfl) rfl #[.agg #[.int .i64 a0_0, .slice A0_1 l0_1.length c0_1, .slice A0_2 l0_2.length c0_2], .int .i64 a1, .slice A2 l2.length c2] rfl (by (try simp only [List.map_toArray, List.map_cons, List.map_nil]); first | done | rfl | (simp only [List.length_drop, List.length_take]; rfl)) ?_; (with_reducible refine (slots_Put.calls kj5 a0_0 _ _ l0_1 (fun k_ => k_ < w.heap.size) _ _ l0_2 a1 _ _ l2 t400 t401 t402 t405 t408 _ ?side1 ?side2 ?side3 ?side4 ?side5 A73.out).mono ?_); (case side1 => repeat (first | exact (Kd.C_below HR0_1.out HB.out) | (with_reducible refine Kd.C_alloc ?_ _) | (with_reducible refine Kd.C_drewN ?_ _) | (with_reducible refine Kd.C_drew ?_))); (case side2 => exact HC0_1.out); (case side3 => exact Kd.V_mk HC0_2.out (Kd.F_below (Kd.C_F (Kd.heap_slice 74 (Kd.heap_int .i16)) HR0_2.out) (by repeat (first | (with_reducible first | exact HB.out | apply below_alloc | apply pw_below_drewN | apply below_drew1 | refine below_set ?_ GE383.out) | exact HB.out)))); (case side4 => repeat (first | exact (Kd.C_below HR2.out HB.out) | (with_reducible refine Kd.C_alloc ?_ _) | (with_reducible refine Kd.C_drewN ?_ _) | (with_reducible refine Kd.C_drew ?_))); (case side5 => exact HC2.out); rintro e w158 ⟨v403, v406, rfl, ho0, ho1, hb⟩; refine ⟨_, rfl, ?_⟩; have n0_ := Aside0.mk (Kd.R_lower (Kd.R_mono (ok' := fun k_ => True) ho0 (fun _ hk_ => trivial)) (below_size (by repeat (first | (with_reducible first | exact HB.out | apply below_alloc | apply pw_below_drewN | apply below_drew1 | refine below_set ?_ GE383.out) | exact HB.out)))); have n1_ := Aside0.mk (Kd.N_lower (Kd.N_mono (ok' := fun k_ => some k_ ≠ (v403 : Value).ownBlock ∧ k_ ≠ gb383) ho1 (fun k_ hk_ => ⟨hk_.2, Or.elim hk_.1 (fun hs_ => fun e_ => Nat.not_le.2 hs_ (by rw [e_]; exact GW383.out)) (fun hn_ => (Kd.freshB (g := gb383) (o := .cells #[.int .i64 a0_0, .slice A0_1 l0_1.length c0_1, .slice A0_2 l0_2.length c0_2] 25 (0, 0)) (by (with_reducible repeat (first | refine blk_drewN ?_ _ | refine blk_drew ?_ | refine blk_alloc ?_ _)); exact BK383.out) k_ hn_))⟩)) (below_size (by repeat (first | (with_reducible first | exact HB.out | apply below_alloc | apply pw_below_drewN | apply below_drew1 | refine below_set ?_ GE383.out) | exact HB.out)))); have n2_ := Aside0.mk (blk_below (g := gb383) (o := .cells #[.int .i64 a0_0, .slice A0_1 l0_1.length c0_1, .slice A0_2 l0_2.length c0_2] 25 (0, 0)) (by (with_reducible repeat (first | refine blk_drewN ?_ _ | refine blk_drew ?_ | refine blk_alloc ?_ _)); exact BK383.out) hb); have n3_ := Aside0.mk (below_step (by repeat (first | (with_reducible first | exact HB.out | apply below_alloc | apply pw_below_drewN | apply below_drew1 | refine below_set ?_ GE383.out) | exact HB.out)) hb); clear BK383; clear HB; have HO404 := n0_; have HO407 := n1_; have BK383 := n2_; have HB := n3_; clear n0_ n1_ n2_ n3_; (try clear hb); (try clear hb2); (try clear hk); (try clear hi); (try clear ho0); (try clear ho1)) | ((with_reducible refine gate_dst (N := 14) rfl ?_); (try (refine gate_guard (by rfl) ?_; dsimp only)); refine box_event ?hg (N := 14) ?hd (cs := #[.int .i64 0, .slice none 0 0, .slice none 0 0]) (t := 25) ?hr ?_; (case hd => rfl); (case hg => rfl); (case hr => first | (go_simp; done) | (go_simp; rfl)); intro gb409 hg w159 hbox hb; have n0_ := Aside0.mk (Kd.R_below (by (with_reducible repeat (first | apply Kd.R_alloc | apply Kd.R_drewN | apply Kd.R_drew)); exact HO404.out) hb); have n1_ := Aside0.mk (Kd.N_below (Kd.N_elderB (by (with_reducible repeat (first | apply Kd.N_alloc | apply Kd.N_drewN | apply Kd.N_drew)); exact HO407.out) gb409 (Nat.le_of_eq hg.symm)) hb); have n2_ := Aside0.mk (blk_below (g := gb383) (o := .cells #[.int .i64 a0_0, .slice A0_1 l0_1.length c0_1, .slice A0_2 l0_2.length c0_2] 25 (0, 0)) (by (with_reducible repeat (first | refine blk_drewN ?_ _ | refine blk_drew ?_ | refine blk_alloc ?_ _)); exact BK383.out) hb); have n3_ := Aside0.mk (below_step (by repeat (first | (with_reducible first | exact HB.out | apply below_alloc | apply pw_below_drewN | apply below_drew1 | refine below_set ?_ GE383.out) | exact HB.out)) hb); have n4_ := Aside0.mk (hbox); have n5_ := Aside0.mk ((by rw [hg]; exact (below_size (by repeat (first | (with_reducible first | exact HB.out | apply below_alloc | apply pw_below_drewN | apply below_drew1 | refine below_set ?_ GE383.out) | exact HB.out))) : w.heap.size ≤ gb409)); have n6_ := Aside0.mk ((by rw [hg]; exact (below_size (by repeat (first | (with_reducible first | exact HB.out | apply below_alloc | apply pw_below_drewN | apply below_drew1 | refine below_set ?_ GE383.out) | exact HB.out))) : w.heap.size ≤ gb409)); have n7_ := Aside0.mk ((by rw [hg]; exact Nat.ne_of_lt (blk_lt (g := gb383) (o := .cells #[.int .i64 a0_0, .slice A0_1 l0_1.length c0_1, .slice A0_2 l0_2.length c0_2] 25 (0, 0)) (by (with_reducible repeat (first | refine blk_drewN ?_ _ | refine blk_drew ?_ | refine blk_alloc ?_ _)); exact BK383.out)) : gb383 ≠ gb409)); have n8_ := Aside0.mk ((by rw [hg]; exact Nat.ne_of_gt (blk_lt (g := gb383) (o := .cells #[.int .i64 a0_0, .slice A0_1 l0_1.length c0_1, .slice A0_2 l0_2.length c0_2] 25 (0, 0)) (by (with_reducible repeat (first | refine blk_drewN ?_ _ | refine blk_drew ?_ | refine blk_alloc ?_ _)); exact BK383.out)) : gb409 ≠ gb383)); clear HO404; clear HO407; clear BK383; clear HB; have HO404 := n0_; have HO407 := n1_; have BK383 := n2_; have HB := n3_; have BK409 := n4_; have GW409 := n5_; have GE409 := n6_; have NB383_409 := n7_; have NB409_383 := n8_; clear n0_ n1_ n2_ n3_ n4_ n5_ n6_ n7_ n8_; clear hb hbox hg; have hnb160 := NB409_383.out; have hnc160 := NB383_409.out; have hcz161_0 : w159.cell? ⟨gb409, 0, none⟩ = some (.int .i64 0) := (blk_cell BK409.out 0).trans rfl; have hcz161_1 : w159.cell? ⟨gb409, 1, none⟩ = some (.slice none 0 0) := (blk_cell BK409.out 1).trans rfl; have hcz161_2 : w159.cell? ⟨gb409, 2, none⟩ = some (.slice none 0 0) := (blk_cell BK409.out 2).trans rfl; have hfz161_0 := blk_frozen BK409.out 0; have hfz161_1 := blk_frozen BK409.out 1; have hfz161_2 := blk_frozen BK409.out 2; obtain ⟨Ao162, co162, eo162⟩ := Kd.R_slice HO404.out; subst eo162; obtain ⟨Ao163, co163, eo163⟩ := Kd.N_slice HO407.out; subst eo163))
                go_ret
                exact ⟨by first | rfl | (simp [errW_none, errW_some] <;> rfl) | (simp [*, errW_none, errW_some] <;> rfl), by repeat (first | (with_reducible first | exact HB.out | apply below_alloc | apply pw_below_drewN | apply below_drew1 | refine below_set ?_ GE383.out | refine below_set ?_ GE409.out) | exact HB.out)⟩
              · exact absurd rfl c154
  · replace c5 := Bool.eq_false_iff.mpr c5
    subst c5
    have H1 : (some false) = some r := by rw [if_neg (show ¬ (false = true) by decide)] at H; exact H
    clear H
    have H := H1
    clear H1
    exact absurd (Option.some.inj H) (by rw [hT_]; decide)

end Go.Proofs.Ytkjibgfgbfacdaa.P
end
/-! part: PSlotsBase -/
section
set_option linter.unusedVariables false
set_option linter.unusedSimpArgs false
namespace Go.Proofs.Ytkjibgfgbfacdaa.P
open Go.RowKit Go.Proofs.YtkjibgfgbfacdaaW.PrintWords Go.Proofs.YtkjibgfgbfacdaaW.PrintLast Go.Proofs.YtkjibgfgbfacdaaW.PrintMore
set_option linter.unusedVariables false
def few10 (ids : List Int) (vecs : List (List Int)) : Bool := vecs.all (fun v => decide (v.length ≤ 100)) && ((decide (ids.length ≤ 60) && decide (vecs.length ≤ 60)) || (decide (ids.length = 257) && decide (vecs.length = 257)))
theorem few10_l (dim : Int) (ids : List Int) (s : List (List Int)) (hm : s.length ≤ 9223372036854775807) (d : Nat) : ∀ i : Int, 0 ≤ i → i ≤ (s.length : Int) → (s.length : Int) - i = d →
    Ev (fun k => cuvetteref10_Few.l0 k s (s.length : Int) i dim ids s) ((s.drop i.toNat).all (fun v => decide (v.length ≤ 100)) && ((decide (ids.length ≤ 60) && decide (s.length ≤ 60)) || (decide (ids.length = 257) && decide (s.length = 257)))) := by
  induction d with
  | zero =>
    intro i h0 h1 hd
    refine Ev.step (fun k => by simp only [cuvetteref10_Few.l0]; rw [if_neg (by omega)]) ?_
    rw [List.drop_eq_nil_of_le (by omega)]
    refine Ev.of fun k => ?_
    have b2 : ((s.length : Int) == 257) = decide (s.length = 257) := by rw [Bool.eq_iff_iff]; simp; omega
    rw [b2]
    by_cases g1 : ids.length ≤ 60
    · rw [if_pos (by omega), decide_eq_true g1, decide_eq_false (p := ids.length = 257) (by omega)]
      by_cases g2 : s.length ≤ 60
      · rw [if_pos (by omega), decide_eq_true g2]; rfl
      · rw [if_neg (by omega), if_neg (by omega), decide_eq_false g2]; rfl
    · rw [if_neg (by omega), decide_eq_false g1]
      by_cases g3 : ids.length = 257
      · rw [if_pos (by omega), decide_eq_true g3]; simp
      · rw [if_neg (by omega), decide_eq_false g3]; simp
  | succ d ih =>
    intro i h0 h1 hd
    have e := rdO [] s i h0 (by omega)
    refine Ev.step (fun k => by simp only [cuvetteref10_Few.l0]; rw [if_pos (by omega), if_pos h0, if_pos (by omega), w64 (by omega) (by omega)]) ?_
    rw [e]
    have er : rd_L3 s i = s.getD i.toNat [] := rfl
    by_cases h : ((rd_L3 s i).length : Int) > 100
    · simp only [if_pos h]
      rw [er] at h
      have : decide ((s.getD i.toNat []).length ≤ 100) = false := decide_eq_false (by omega)
      rw [List.all_cons, this]
      exact Ev.const _
    · simp only [if_neg h]
      rw [er] at h
      have : decide ((s.getD i.toNat []).length ≤ 100) = true := decide_eq_true (by omega)
      rw [List.all_cons, this, Bool.true_and]
      exact ih (i + 1) (by omega) (by omega) (by omega)
theorem few10_ev (dim : Int) (ids : List Int) (s : List (List Int)) (hm : s.length ≤ 9223372036854775807) : Ev (fun k => cuvetteref10_Few.f k dim ids s) (few10 ids s) :=
  few10_l dim ids s hm s.length 0 (by omega) (by omega) (by omega)

theorem cloneVec (v : List Int) (h : v.length < 70368744177664) : api_Vec_int16_98.f v = some v := by
  unfold api_Vec_int16_98.f
  simp [h]
theorem vecOk_len {v : List Int} (h : vecOk v = true) : 1 ≤ v.length ∧ v.length ≤ 64 := by
  unfold vecOk at h
  simp only [Bool.and_eq_true, decide_eq_true_eq] at h
  exact h.1
theorem slotsOk_parts {dim : Int} {ids : List Int} {vecs : List (List Int)} (h : slotsOk dim ids vecs = true) :
    1 ≤ dim ∧ dim ≤ 64 ∧ 1 ≤ ids.length ∧ ids.length ≤ 256 ∧ vecs.length = ids.length ∧ (∀ j : Nat, j < ids.length → slotOk dim (ids.getD j 0) (vecs.getD j []) = true) ∧ (ids.filter (fun x => decide (x ≠ -1))).Nodup := by
  unfold slotsOk at h
  simp only [Bool.and_eq_true, decide_eq_true_eq] at h
  obtain ⟨⟨⟨⟨⟨⟨h1, h2⟩, h3⟩, h4⟩, h5⟩, h6⟩, h7⟩ := h
  refine ⟨h1, h2, h3, h4, h5, fun j hj => ?_, h7⟩
  have hv : j < vecs.length := by omega
  have hm : (ids[j], vecs[j]) ∈ ids.zip vecs := by
    have hz : j < (ids.zip vecs).length := by rw [List.length_zip]; omega
    have := List.getElem_mem hz
    rwa [List.getElem_zip] at this
  have := List.all_eq_true.1 h6 _ hm
  simpa [List.getD_eq_getElem?_getD, hj, hv] using this
theorem slotsOk_vec {dim : Int} {ids : List Int} {vecs : List (List Int)} (h : slotsOk dim ids vecs = true) (j : Nat) (hj : j < ids.length) (hn : ids.getD j 0 ≠ -1) : vecOk (vecs.getD j []) = true := by
  have := (slotsOk_parts h).2.2.2.2.2.1 j hj
  unfold slotOk at this
  simp only [Bool.or_eq_true, Bool.and_eq_true, decide_eq_true_eq] at this
  rcases this with ⟨h1, _⟩ | ⟨⟨_, h2⟩, _⟩
  · exact absurd h1 hn
  · exact h2
theorem i64B_of {l : List Int} (h : okI .i64 l) : l.all i64B = true := by
  refine List.all_eq_true.2 fun n hn => ?_
  obtain ⟨h0, h1⟩ := okN_i64 (h.2 n hn)
  unfold i64B
  rw [decide_eq_true h0, decide_eq_true h1]
  rfl
end Go.Proofs.Ytkjibgfgbfacdaa.P
end
/-! part: F28 -/
section
set_option linter.unusedVariables false
set_option linter.unusedSimpArgs false
namespace Go.Proofs.Ytkjibgfgbfacdaa.P
open Go.RowKit Go.Proofs.YtkjibgfgbfacdaaW.PrintWords Go.Proofs.YtkjibgfgbfacdaaW.PrintLast Go.Proofs.YtkjibgfgbfacdaaW.PrintMore
attribute [local go_sem] max2_int min2_int max_two min_two max_three min_three max_four min_four   -- for this text's walks alone
set_option linter.unusedVariables false
set_option linter.unusedSimpArgs false

/-! ### cuvetteref04_Same: function 28 -/
def cuvetteref04_Same.l0 : Nat → List Int → List Int → Int → Int → Option (Bool)
  | 0, _, _, _, _ => none
  | k + 1, x0, x1, x12, x13 => if x13 < x12 then (if 0 ≤ x13 then (if x13 < (x0.length : Int) then (if x13 < (x1.length : Int) then (if (rd x0 x13) = (rd x1 x13) then (cuvetteref04_Same.l0 k x0 x1 x12 (wrap64 (x13 + 1))) else (some false)) else (none)) else (none)) else (none)) else (some true)
def cuvetteref04_Same.f (k : Nat) (l0 : List Int) (l1 : List Int) : Option (Bool) := if (l0.length : Int) = (l1.length : Int) then (cuvetteref04_Same.l0 k l0 l1 (l0.length : Int) 0) else (some false)
theorem cuvetteref04_Same.mono_l : ∀ k, (∀ y0 y1 y2 y3, LeO (cuvetteref04_Same.l0 k y0 y1 y2 y3) (cuvetteref04_Same.l0 (k + 1) y0 y1 y2 y3))
  | 0 => fun _ _ _ _ r h => by simp [cuvetteref04_Same.l0] at h
  | k + 1 => by
    have ih0 := cuvetteref04_Same.mono_l k
    · intro y0 y1 y2 y3
      unfold cuvetteref04_Same.l0
      repeat' first
      | (with_reducible exact ih0 _ _ _ _)
      | (with_reducible exact LeO.refl _)
      | (with_reducible exact LeO.none _)
      | (with_reducible refine LeO.ite ?_ ?_)
      | (with_reducible refine LeO.bind ?_ (fun _ => ?_))
      | exact ih0 _ _ _ _
      | exact LeO.none _
      | refine LeO.ite ?_ ?_
      | refine LeO.bind ?_ (fun _ => ?_)
theorem cuvetteref04_Same.mono : ∀ a0 a1 k, LeO (cuvetteref04_Same.f k a0 a1) (cuvetteref04_Same.f (k + 1) a0 a1) := by
  intro a0 a1 k
  have ih0 := cuvetteref04_Same.mono_l k
  unfold cuvetteref04_Same.f
  repeat' first
      | (with_reducible exact ih0 _ _ _ _)
      | (with_reducible exact LeO.refl _)
      | (with_reducible exact LeO.none _)
      | (with_reducible refine LeO.ite ?_ ?_)
      | (with_reducible refine LeO.bind ?_ (fun _ => ?_))
      | exact ih0 _ _ _ _
      | exact LeO.none _
      | refine LeO.ite ?_ ?_
      | refine LeO.bind ?_ (fun _ => ?_)
set_option maxHeartbeats 8000000 in
set_option maxRecDepth 100000 in
theorem cuvetteref04_Same.calls (k : Nat) (A0 : Option Addr) (c0 : Nat) (l0 : List Int) (A1 : Option Addr) (c1 : Nat) (l1 : List Int) (r : Bool) (w : World) (hr0 : Kd.C (Kd.int .i16) w A0 l0.length l0) (hc0 : l0.length ≤ c0) (hr1 : Kd.C (Kd.int .i16) w A1 l1.length l1) (hc1 : l1.length ≤ c1) (h : cuvetteref04_Same.f k l0 l1 = some r) :
    Calls Try.prog 28 #[.slice A0 l0.length c0, .slice A1 l1.length c1] w fun e w' => e = .returned (.bool r) ∧ Drawn0 w w' := by
  have HR0 := Aside0.mk hr0
  have HC0 := Aside0.mk hc0
  clear hr0 hc0
  have HR1 := Aside0.mk hr1
  have HC1 := Aside0.mk hc1
  clear hr1 hc1
  have H : (if (l0.length : Int) = (l1.length : Int) then (cuvetteref04_Same.l0 k l0 l1 (l0.length : Int) 0) else (some false)) = some r := h
  clear h
  by_cases c3 : (l0.length : Int) = (l1.length : Int)
  · rw [if_pos c3] at H
    have c3b0 : ((l0.length : Int) == (l1.length : Int)) = true := beq_iff_eq.mpr c3
    have c3b1 : ((l0.length : Int) != (l1.length : Int)) = false := bne_eq_false_iff_eq.mpr c3
    have c3b2 : (l0.length == l1.length) = true := by first | simpa using c3 | (simp at c3 ⊢; omega)
    clear c3
    have H' := Aside0.mk H
    clear H
    go_enter Try.func28, Try.ntmps28
    go_wp2
    repeat (go_quiet (fail); try go_wp2)
    go_loopg [13] k (fun kq v13 w' => ∃ (x13_1 : Int), v13 = .int .i64 x13_1 ∧ Aside0 (cuvetteref04_Same.l0 kq l0 l1 (l0.length : Int) x13_1 = some r) ∧ Aside0 (kq ≤ k) ∧ Drawn0 w w')
    case atStart => exact ⟨(0), (by first | rfl | (simp; done) | (simp [*]; done)), H', ⟨Nat.le_refl _⟩, by repeat (first | exact Drawn0.refl _ | apply Drawn0.step)⟩
    case round =>
      clear H'
      try clear c1
      try clear c2
      try clear p2
      try clear c3
      try clear c3b0
      try clear c3b1
      try clear c3b2
      obtain ⟨x13_1, rfl, HA, HK1, ⟨m1, rfl⟩⟩ := hrel
      cases gk with
      | zero => exact absurd HA.out (by simp [cuvetteref04_Same.l0])
      | succ k1 =>
        have H := HA.out
        clear HA
        simp only [cuvetteref04_Same.l0] at H
        by_cases c4 : x13_1 < (l0.length : Int)
        · rw [if_pos c4] at H
          have c4b0 : decide (x13_1 < (l0.length : Int)) = true := decide_eq_true c4
          clear c4
          by_cases c5 : 0 ≤ x13_1
          · rw [if_pos c5] at H
            have c5b0 : decide (0 ≤ x13_1) = true := decide_eq_true c5
            clear c5
            by_cases c6 : x13_1 < (l0.length : Int)
            · rw [if_pos c6] at H
              have c6b0 : decide (x13_1 < (l0.length : Int)) = true := decide_eq_true c6
              clear c6
              by_cases c7 : x13_1 < (l1.length : Int)
              · rw [if_pos c7] at H
                have c7b0 : decide (x13_1 < (l1.length : Int)) = true := decide_eq_true c7
                clear c7
                by_cases c8 : (rd l0 x13_1) = (rd l1 x13_1)
                · rw [if_pos c8] at H
                  have c8b0 : ((rd l0 x13_1) == (rd l1 x13_1)) = true := beq_iff_eq.mpr c8
                  have c8b1 : ((rd l0 x13_1) != (rd l1 x13_1)) = false := bne_eq_false_iff_eq.mpr c8
                  clear c8
                  have H' := Aside0.mk H
                  clear H
                  have p268 : 0 ≤ (x13_1 : Int) := of_decide_eq_true (by first | (with_reducible assumption) | assumption)
                  have q268 : x13_1 < (l0.length : Int) := of_decide_eq_true (by first | (with_reducible assumption) | assumption)
                  obtain ⟨ad268, e268, hx268_0⟩ := Kd.at_int HR0.out x13_1 p268 q268
                  cases e268
                  replace p268 := eq_true p268
                  replace q268 := eq_true q268
                  have p269 : 0 ≤ (x13_1 : Int) := of_decide_eq_true (by first | (with_reducible assumption) | assumption)
                  have q269 : x13_1 < (l1.length : Int) := of_decide_eq_true (by first | (with_reducible assumption) | assumption)
                  obtain ⟨ad269, e269, hx269_0⟩ := Kd.at_int HR1.out x13_1 p269 q269
                  cases e269
                  replace p269 := eq_true p269
                  replace q269 := eq_true q269
                  go_wp2
                  repeat (go_quiet (fail); try go_wp2)
                  go_roundg k1
                  case measure => have := HK1.out; omega
                  case rel => exact ⟨(wrap64 (x13_1 + 1)), (by first | rfl | (simp; done) | (simp [*]; done)), H', ⟨by have := HK1.out; omega⟩, by repeat (first | exact Drawn0.refl _ | apply Drawn0.step)⟩
                · rw [if_neg c8] at H
                  have c8b0 : ((rd l0 x13_1) == (rd l1 x13_1)) = false := beq_eq_false_iff_ne.mpr c8
                  have c8b1 : ((rd l0 x13_1) != (rd l1 x13_1)) = true := bne_iff_ne.mpr c8
                  obtain rfl := Option.some.inj H
                  have p268 : 0 ≤ (x13_1 : Int) := of_decide_eq_true (by first | (with_reducible assumption) | assumption)
                  have q268 : x13_1 < (l0.length : Int) := of_decide_eq_true (by first | (with_reducible assumption) | assumption)
                  obtain ⟨ad268, e268, hx268_0⟩ := Kd.at_int HR0.out x13_1 p268 q268
                  cases e268
                  replace p268 := eq_true p268
                  replace q268 := eq_true q268
                  have p269 : 0 ≤ (x13_1 : Int) := of_decide_eq_true (by first | (with_reducible assumption) | assumption)
                  have q269 : x13_1 < (l1.length : Int) := of_decide_eq_true (by first | (with_reducible assumption) | assumption)
                  obtain ⟨ad269, e269, hx269_0⟩ := Kd.at_int HR1.out x13_1 p269 q269
                  cases e269
                  replace p269 := eq_true p269
                  replace q269 := eq_true q269
                  go_wp2
                  repeat (go_quiet (fail); try go_wp2)
                  go_ret
                  exact ⟨by first | rfl | (simp; done) | (simp [*]; done), by repeat (first | exact Drawn0.refl _ | apply Drawn0.step)⟩
              · rw [if_neg c7] at H
                exact absurd H (by simp)
            · rw [if_neg c6] at H
              exact absurd H (by simp)
          · rw [if_neg c5] at H
            exact absurd H (by simp)
        · rw [if_neg c4] at H
          have c4b0 : decide (x13_1 < (l0.length : Int)) = false := decide_eq_false c4
          clear c4
          obtain rfl := Option.some.inj H
          go_wp2
          repeat (go_quiet (fail); try go_wp2)
          go_ret
          exact ⟨by first | rfl | (simp; done) | (simp [*]; done), by repeat (first | exact Drawn0.refl _ | apply Drawn0.step)⟩
  · rw [if_neg c3] at H
    have c3b0 : ((l0.length : Int) == (l1.length : Int)) = false := beq_eq_false_iff_ne.mpr c3
    have c3b1 : ((l0.length : Int) != (l1.length : Int)) = true := bne_iff_ne.mpr c3
    have c3b2 : (l0.length == l1.length) = false := by first | simpa using c3 | (simp at c3 ⊢; omega)
    obtain rfl := Option.some.inj H
    go_enter Try.func28, Try.ntmps28
    go_wp2
    repeat (go_quiet (fail); try go_wp2)
    go_ret
    exact ⟨by first | rfl | (simp; done) | (simp [*]; done), by repeat (first | exact Drawn0.refl _ | apply Drawn0.step)⟩

end Go.Proofs.Ytkjibgfgbfacdaa.P
end
/-! part: PSlotsPut -/
section
set_option linter.unusedVariables false
set_option linter.unusedSimpArgs false
namespace Go.Proofs.Ytkjibgfgbfacdaa.P
open Go.RowKit Go.Proofs.YtkjibgfgbfacdaaW.PrintWords Go.Proofs.YtkjibgfgbfacdaaW.PrintLast Go.Proofs.YtkjibgfgbfacdaaW.PrintMore
set_option linter.unusedVariables false

/-! ### with -/
theorem cloneI64 (v : List Int) (h : v.length < 17592186044416) : slices_Clone_int64_int64.f v = some v := by
  unfold slices_Clone_int64_int64.f
  simp [h]
theorem cloneVecs (v : List (List Int)) (h : v.length < 5864062014805) : api_Vec_144.f v = some v := by
  unfold api_Vec_144.f
  simp [h]
theorem with_l (dim : Int) (ids : List Int) (vecs : List (List Int)) (i id : Int) (v : List Int) (hl : vecs.length = ids.length) (hm : ids.length ≤ 256) (hr : ∀ y ∈ vecs, y.length ≤ 64) (hv : v.length ≤ 64)
    (h0 : 0 ≤ i) (h1 : i < (ids.length : Int)) (d : Nat) : ∀ j : Int, 0 ≤ j → j ≤ (vecs.length : Int) → (vecs.length : Int) - j = d →
    Ev (fun k => slots_with.l0 k i id v (vecs.length : Int) j dim ids vecs) (dim, ids.set i.toNat id, vecs.set i.toNat v) := by
  induction d with
  | zero =>
    intro j j0 j1 hd
    refine Ev.step (fun k => by
      simp only [slots_with.l0]
      rw [if_neg (by omega), cloneVec v (by omega)]
      simp only [Option.bind_some]
      rw [if_pos h0, if_pos h1, if_pos (by omega)]) (Ev.const _)
  | succ d ih =>
    intro j j0 j1 hd
    have hj := hr _ (getD_mem [] vecs j j0 (by omega))
    have e : vecs.set j.toNat (vecs.getD j.toNat []) = vecs := by
      have hjl : j.toNat < vecs.length := by omega
      simp [List.getD_eq_getElem?_getD, hjl]
    refine Ev.step (g' := fun k => slots_with.l0 k i id v (vecs.length : Int) (j + 1) dim ids vecs) (fun k => by
      simp only [slots_with.l0]
      rw [if_pos (by omega), if_pos j0, if_pos (by omega), show rd_L3 vecs j = vecs.getD j.toNat [] from rfl, cloneVec _ (by omega), w64 (by omega) (by omega)]
      simp only [Option.bind_some]
      rw [e]) (ih (j + 1) (by omega) (by omega) (by omega))
theorem with_ev (dim : Int) (ids : List Int) (vecs : List (List Int)) (i id : Int) (v : List Int) (hl : vecs.length = ids.length) (hm : ids.length ≤ 256) (hr : ∀ y ∈ vecs, y.length ≤ 64) (hv : v.length ≤ 64)
    (h0 : 0 ≤ i) (h1 : i < (ids.length : Int)) : Ev (fun k => slots_with.f k dim ids vecs i id v) (dim, ids.set i.toNat id, vecs.set i.toNat v) := by
  refine Ev.congr (g' := fun k => slots_with.l0 k i id v (vecs.length : Int) 0 dim ids vecs) (fun k => by
    unfold slots_with.f
    rw [cloneI64 ids (by omega), cloneVecs vecs (by omega)]
    simp only [Option.bind_some]) ?_
  exact with_l dim ids vecs i id v hl hm hr hv h0 h1 vecs.length 0 (by omega) (by omega) (by omega)

/-! ### what put and del do -/
def putS (dim : Int) (ids : List Int) (vecs : List (List Int)) (id : Int) (v : List Int) : Int × Int × List Int × List (List Int) × Int :=
  if slotsOk dim ids vecs = true ∧ isIdB id = true ∧ vecOk v = true ∧ (v.length : Int) = dim then
    (if ids.idxOf id < ids.length then ((ids.idxOf id : Int), dim, ids.set (ids.idxOf id) id, vecs.set (ids.idxOf id) v, 0)
     else if ids.idxOf (-1) < ids.length then ((ids.idxOf (-1) : Int), dim, ids.set (ids.idxOf (-1)) id, vecs.set (ids.idxOf (-1)) v, 0)
     else (0, 0, [], [], 7))
  else (0, 0, [], [], 1)
def delS (dim : Int) (ids : List Int) (vecs : List (List Int)) (id : Int) : Int × Int × List Int × List (List Int) × Int :=
  if slotsOk dim ids vecs = true ∧ isIdB id = true then
    (if ids.idxOf id < ids.length then ((ids.idxOf id : Int), dim, ids.set (ids.idxOf id) (-1), vecs.set (ids.idxOf id) [], 0) else (0, 0, [], [], 5))
  else (0, 0, [], [], 1)
theorem index_l (ids : List Int) (x : Int) (hm : ids.length ≤ 9223372036854775807) (d : Nat) : ∀ i : Int, 0 ≤ i → i ≤ (ids.length : Int) → (ids.length : Int) - i = d →
    Ev (fun k => slices_Index_int64_int64.l0 k ids x (ids.length : Int) i) (if (ids.drop i.toNat).idxOf x < (ids.drop i.toNat).length then i + ((ids.drop i.toNat).idxOf x : Int) else -1) := by
  induction d with
  | zero =>
    intro i h0 h1 hd
    refine Ev.step (fun k => by simp only [slices_Index_int64_int64.l0]; rw [if_neg (by omega)]) ?_
    rw [List.drop_eq_nil_of_le (by omega)]
    exact Ev.const _
  | succ d ih =>
    intro i h0 h1 hd
    rw [rdO 0 ids i h0 (by omega)]
    by_cases e : x = rd ids i
    · refine Ev.step (fun k => by simp only [slices_Index_int64_int64.l0]; rw [if_pos (by omega), if_pos h0, if_pos (by omega), if_pos e]) ?_
      have e' : ids.getD i.toNat 0 = x := e.symm
      rw [List.idxOf_cons, e']
      simp only [beq_self_eq_true, if_true, cond_true]
      refine Ev.of fun k => ?_
      simp
    · have e' : ids.getD i.toNat 0 ≠ x := fun h => e h.symm
      refine Ev.step (fun k => by simp only [slices_Index_int64_int64.l0]; rw [if_pos (by omega), if_pos h0, if_pos (by omega), if_neg e, w64 (by omega) (by omega)]) ?_
      have := ih (i + 1) (by omega) (by omega) (by omega)
      rw [List.idxOf_cons, (beq_eq_false_iff_ne).2 e']
      simp only [cond_false, List.length_cons]
      by_cases hc : (ids.drop (i + 1).toNat).idxOf x < (ids.drop (i + 1).toNat).length
      · rw [if_pos hc] at this
        rw [if_pos (by omega)]
        rw [show i + (((ids.drop (i + 1).toNat).idxOf x + 1 : Nat) : Int) = i + 1 + ((ids.drop (i + 1).toNat).idxOf x : Int) by omega]
        exact this
      · rw [if_neg hc] at this
        rw [if_neg (by omega)]
        exact this
theorem index_ev (ids : List Int) (x : Int) (hm : ids.length ≤ 9223372036854775807) : Ev (fun k => slices_Index_int64_int64.f k ids x) (if ids.idxOf x < ids.length then (ids.idxOf x : Int) else -1) := by
  have := index_l ids x hm ids.length 0 (by omega) (by omega) (by omega)
  simpa [slices_Index_int64_int64.f] using this
theorem rows64 {dim : Int} {ids : List Int} {vecs : List (List Int)} (h : slotsOk dim ids vecs = true) : ∀ y ∈ vecs, y.length ≤ 64 := by
  obtain ⟨_, _, _, _, h5, h6, _⟩ := slotsOk_parts h
  intro y hy
  obtain ⟨j, hj, rfl⟩ := List.getElem_of_mem hy
  have := h6 j (by omega)
  rw [show vecs.getD j [] = vecs[j] by simp [List.getD_eq_getElem?_getD, hj]] at this
  unfold slotOk at this
  simp only [Bool.or_eq_true, Bool.and_eq_true, decide_eq_true_eq] at this
  rcases this with ⟨_, h1⟩ | ⟨⟨_, h2⟩, _⟩
  · rw [List.isEmpty_iff] at h1; rw [h1]; exact Nat.zero_le _
  · exact (vecOk_len h2).2
theorem find_eq (dim : Int) (ids : List Int) (vecs : List (List Int)) (id : Int) (hi : ids.all i64B = true) (hd : i64B id = true) :
    h_slots_Find.f dim ids vecs id = some (if slotsOk dim ids vecs = true ∧ isIdB id = true then (if ids.idxOf id < ids.length then ((ids.idxOf id : Int), 0) else (0, 5)) else (0, 1)) := by
  unfold h_slots_Find.f
  rw [if_pos ⟨hi, hd⟩]
theorem fits_ev (dim : Int) (ids : List Int) (vecs : List (List Int)) (v : List Int) : Ev (fun k => slots_fits.f k dim ids vecs v) (vecOk v && decide ((v.length : Int) = dim)) :=
  ⟨65, fun k hk => fitsP dim ids vecs v k hk⟩
theorem put_ev (dim : Int) (ids : List Int) (vecs : List (List Int)) (id : Int) (v : List Int) (hi : ids.all i64B = true) (hd : i64B id = true) : Ev (fun k => slots_Put.f k dim ids vecs id v) (putS dim ids vecs id v) := by
  have hf := find_eq dim ids vecs id hi hd
  unfold putS
  by_cases hk : slotsOk dim ids vecs = true ∧ isIdB id = true
  · rw [if_pos hk] at hf
    obtain ⟨s1, s2, s3, s4, s5, _, _⟩ := slotsOk_parts hk.1
    by_cases hv : vecOk v = true ∧ (v.length : Int) = dim
    · have hvl := vecOk_len hv.1
      rw [if_pos ⟨hk.1, hk.2, hv.1, hv.2⟩]
      have hfit : (vecOk v && decide ((v.length : Int) = dim)) = true := by rw [hv.1, decide_eq_true hv.2]; rfl
      by_cases hx : ids.idxOf id < ids.length
      · rw [if_pos hx] at hf ⊢
        refine Ev.congr (g' := fun k => (slots_fits.f k dim ids vecs v).bind fun t => slots_Put.j0 k id v (ids.idxOf id : Int) 0 (!t) dim ids vecs) (fun k => by
          unfold slots_Put.f
          rw [hf]
          simp only [Option.bind_some]
          rw [if_neg (by decide)]) ?_
        refine Ev.bind (fits_ev dim ids vecs v) ?_
        rw [hfit]
        refine Ev.step (g' := fun k => (slots_with.f k dim ids vecs (ids.idxOf id : Int) id v).bind fun bt => some ((ids.idxOf id : Int), bt.1, bt.2.1, bt.2.2, 0)) (fun k => by
          simp only [slots_Put.j0]
          rw [if_neg (by decide), if_neg (by decide)]) ?_
        refine Ev.bind (with_ev dim ids vecs (ids.idxOf id : Int) id v s5 s4 (rows64 hk.1) hvl.2 (by omega) (by omega)) ?_
        simp only [Int.toNat_natCast]
        exact Ev.const _
      · rw [if_neg hx] at hf ⊢
        refine Ev.congr (g' := fun k => (slots_fits.f k dim ids vecs v).bind fun t => slots_Put.j0 k id v 0 5 (!t) dim ids vecs) (fun k => by
          unfold slots_Put.f
          rw [hf]
          simp only [Option.bind_some]
          rw [if_neg (by decide)]) ?_
        refine Ev.bind (fits_ev dim ids vecs v) ?_
        rw [hfit]
        refine Ev.step (g' := fun k => (slices_Index_int64_int64.f k ids (-1)).bind fun t166 => (if t166 < 0 then (some (0, 0, ([] : List Int), ([] : List (List Int)), 7)) else ((slots_with.f k dim ids vecs t166 id v).bind fun bt167 => (some (t166, bt167.1, bt167.2.1, bt167.2.2, 0))))) (fun k => by
          simp only [slots_Put.j0]
          rw [if_neg (by decide), if_pos (by decide)]) ?_
        refine Ev.bind (index_ev ids (-1) (by omega)) ?_
        by_cases hn : ids.idxOf (-1) < ids.length
        · rw [if_pos hn, if_pos hn]
          have hneg : ¬ ((ids.idxOf (-1) : Int) < 0) := by omega
          simp only [if_neg hneg]
          refine Ev.bind (with_ev dim ids vecs (ids.idxOf (-1) : Int) id v s5 s4 (rows64 hk.1) hvl.2 (by omega) (by omega)) ?_
          simp only [Int.toNat_natCast]
          exact Ev.const _
        · rw [if_neg hn, if_neg hn]
          exact Ev.of fun k => by simp
    · rw [if_neg (fun z => hv ⟨z.2.2.1, z.2.2.2⟩)]
      have hfit : (vecOk v && decide ((v.length : Int) = dim)) = false := by
        cases h1 : vecOk v
        · rfl
        · rw [decide_eq_false (fun z => hv ⟨h1, z⟩)]; rfl
      have hne : ¬ (if ids.idxOf id < ids.length then ((ids.idxOf id : Int), (0 : Int)) else (0, 5)).2 = 1 := by split <;> simp
      refine Ev.congr (g' := fun k => (slots_fits.f k dim ids vecs v).bind fun t => slots_Put.j0 k id v (if ids.idxOf id < ids.length then ((ids.idxOf id : Int), (0 : Int)) else (0, 5)).1 (if ids.idxOf id < ids.length then ((ids.idxOf id : Int), (0 : Int)) else (0, 5)).2 (!t) dim ids vecs) (fun k => by
        unfold slots_Put.f
        rw [hf]
        simp only [Option.bind_some]
        rw [if_neg hne]) ?_
      refine Ev.bind (fits_ev dim ids vecs v) ?_
      rw [hfit]
      exact Ev.step (g' := fun _ => some (0, 0, [], [], 1)) (fun k => by simp [slots_Put.j0]) (Ev.const _)
  · rw [if_neg hk] at hf
    rw [if_neg (fun z => hk ⟨z.1, z.2.1⟩)]
    refine Ev.congr (g' := fun k => slots_Put.j0 k id v 0 1 true dim ids vecs) (fun k => by
      unfold slots_Put.f
      rw [hf]
      simp only [Option.bind_some, if_true]) ?_
    exact Ev.step (g' := fun _ => some (0, 0, [], [], 1)) (fun k => by simp [slots_Put.j0]) (Ev.const _)
theorem del_ev (dim : Int) (ids : List Int) (vecs : List (List Int)) (id : Int) (hi : ids.all i64B = true) (hd : i64B id = true) : Ev (fun k => slots_Del.f k dim ids vecs id) (delS dim ids vecs id) := by
  have hf := find_eq dim ids vecs id hi hd
  unfold delS slots_Del.f
  by_cases hk : slotsOk dim ids vecs = true ∧ isIdB id = true
  · rw [if_pos hk] at hf ⊢
    obtain ⟨s1, s2, s3, s4, s5, _, _⟩ := slotsOk_parts hk.1
    by_cases hx : ids.idxOf id < ids.length
    · rw [if_pos hx] at hf ⊢
      simp only [hf, Option.bind_some, if_true]
      refine Ev.bind (with_ev dim ids vecs (ids.idxOf id : Int) (-1) [] s5 s4 (rows64 hk.1) (by simp) (by omega) (by omega)) ?_
      simp only [Int.toNat_natCast]
      exact Ev.const _
    · rw [if_neg hx] at hf ⊢
      simp only [hf, Option.bind_some]
      exact Ev.of fun k => by simp
  · rw [if_neg hk] at hf ⊢
    simp only [hf, Option.bind_some]
    exact Ev.of fun k => by simp

/-! ### slots stay slots -/
theorem idxOf_le_of (x : Int) (l : List Int) : ∀ m, m < l.length → l.getD m 0 = x → l.idxOf x ≤ m := by
  induction l with
  | nil => intro m h; simp at h
  | cons a t ih =>
    intro m h e
    rw [List.idxOf_cons]
    by_cases c : a = x
    · rw [(beq_iff_eq).2 c]; simp
    · rw [(beq_eq_false_iff_ne).2 c]
      simp only [cond_false]
      cases m with
      | zero => exact absurd e c
      | succ m =>
        have := ih m (by simpa using h) (by simpa using e)
        omega
theorem getD_idxOf (x : Int) (l : List Int) : l.idxOf x < l.length → l.getD (l.idxOf x) 0 = x := by
  induction l with
  | nil => intro h; simp at h
  | cons a t ih =>
    intro h
    rw [List.idxOf_cons] at h ⊢
    by_cases c : a = x
    · rw [(beq_iff_eq).2 c]; simpa using c
    · rw [(beq_eq_false_iff_ne).2 c] at h ⊢
      simp only [cond_false, List.length_cons] at h ⊢
      have := ih (by omega)
      simpa using this
theorem idxOf_set (x : Int) (l : List Int) : ∀ j, j < l.length → x ∉ l → (l.set j x).idxOf x = j := by
  induction l with
  | nil => intro j h; simp at h
  | cons a t ih =>
    intro j h hx
    have ha : a ≠ x := fun e => hx (by simp [e])
    have ht : x ∉ t := fun e => hx (by simp [e])
    cases j with
    | zero => simp
    | succ j =>
      rw [List.set_cons_succ, List.idxOf_cons, (beq_eq_false_iff_ne).2 ha]
      simp only [cond_false]
      rw [ih j (by simpa using h) ht]
theorem slotsOk_mk {dim : Int} {ids : List Int} {vecs : List (List Int)} (h1 : 1 ≤ dim) (h2 : dim ≤ 64) (h3 : 1 ≤ ids.length) (h4 : ids.length ≤ 256) (h5 : vecs.length = ids.length)
    (h6 : ∀ j : Nat, j < ids.length → slotOk dim (ids.getD j 0) (vecs.getD j []) = true) (h7 : (ids.filter (fun x => decide (x ≠ -1))).Nodup) : slotsOk dim ids vecs = true := by
  unfold slotsOk
  simp only [Bool.and_eq_true, decide_eq_true_eq]
  refine ⟨⟨⟨⟨⟨⟨h1, h2⟩, h3⟩, h4⟩, h5⟩, ?_⟩, h7⟩
  refine List.all_eq_true.2 fun p hp => ?_
  obtain ⟨j, hj, rfl⟩ := List.getElem_of_mem hp
  have hz : j < ids.length := by rw [List.length_zip] at hj; omega
  have hv : j < vecs.length := by omega
  have := h6 j hz
  rw [List.getElem_zip]
  simpa [List.getD_eq_getElem?_getD, hz, hv] using this
theorem live_set {ids : List Int} {j : Nat} {id : Int} (hj : j < ids.length) (h : (ids.filter (fun x => decide (x ≠ -1))).Nodup) (hc : ids.getD j 0 = id ∨ id = -1 ∨ id ∉ ids) : ((ids.set j id).filter (fun x => decide (x ≠ -1))).Nodup := by
  have e0 : ids = ids.take j ++ ids.getD j 0 :: ids.drop (j + 1) := by
    rw [show ids.getD j 0 = ids[j] by simp [List.getD_eq_getElem?_getD, hj], ← List.drop_eq_getElem_cons hj, List.take_append_drop]
  have e1 : ids.set j id = ids.take j ++ id :: ids.drop (j + 1) := by rw [List.set_eq_take_append_cons_drop, if_pos hj]
  have hAB : ((ids.take j).filter (fun x => decide (x ≠ -1)) ++ (ids.drop (j + 1)).filter (fun x => decide (x ≠ -1))).Nodup := by
    refine List.Sublist.nodup ?_ h
    conv => rhs; rw [e0]
    rw [List.filter_append]
    refine List.Sublist.append (List.Sublist.refl _) ?_
    rw [List.filter_cons]
    split
    · exact List.sublist_cons_self _ _
    · exact List.Sublist.refl _
  rcases hc with hc | hc | hc
  · have : ids.set j id = ids := by rw [e1, ← hc, ← e0]
    rw [this]
    exact h
  · rw [e1, List.filter_append, List.filter_cons, if_neg (by simp [hc])]
    exact hAB
  · rw [e1, List.filter_append, List.filter_cons]
    split
    · rw [List.perm_middle.nodup_iff, List.nodup_cons]
      refine ⟨fun hm => hc ?_, hAB⟩
      rcases List.mem_append.1 hm with hm | hm
      · exact List.mem_of_mem_take (List.mem_filter.1 hm).1
      · exact List.mem_of_mem_drop (List.mem_filter.1 hm).1
    · exact hAB
theorem slotsOk_set {dim : Int} {ids : List Int} {vecs : List (List Int)} (h : slotsOk dim ids vecs = true) {j : Nat} (hj : j < ids.length) {id : Int} {v : List Int} (hs : slotOk dim id v = true) (hc : ids.getD j 0 = id ∨ id = -1 ∨ id ∉ ids) :
    slotsOk dim (ids.set j id) (vecs.set j v) = true := by
  obtain ⟨h1, h2, h3, h4, h5, h6, h7⟩ := slotsOk_parts h
  refine slotsOk_mk h1 h2 (by simpa using h3) (by simpa using h4) (by simpa using h5) (fun q hq => ?_) (live_set hj h7 hc)
  rw [List.length_set] at hq
  by_cases e : q = j
  · subst e
    have hv : q < vecs.length := by omega
    simpa [List.getD_eq_getElem?_getD, hj, hv] using hs
  · have := h6 q hq
    simpa [List.getD_eq_getElem?_getD, List.getElem?_set, Ne.symm e] using this
theorem slotOk_new {dim id : Int} {v : List Int} (h1 : isIdB id = true) (h2 : vecOk v = true) (h3 : (v.length : Int) = dim) : slotOk dim id v = true := by
  unfold slotOk
  rw [h1, h2, decide_eq_true h3]
  simp
theorem slotOk_gone (dim : Int) : slotOk dim (-1) [] = true := by
  unfold slotOk
  simp
theorem sameVec04 (a b : List Int) (hm : a.length ≤ 9223372036854775807) : Ev (fun k => cuvetteref04_Same.f k a b) (decide (a = b)) :=
  ⟨a.length + 1, fun k hk => eqLoop0 0 cuvetteref04_Same.l0 (fun k xs ys n i => by simp only [cuvetteref04_Same.l0]; rfl) a b hm k (by omega)⟩
theorem sameInts03 (a b : List Int) (hm : a.length ≤ 9223372036854775807) : Ev (fun k => cuvetteref03_SameInts.f k a b) (decide (a = b)) :=
  ⟨a.length + 1, fun k hk => eqLoop0 0 cuvetteref03_SameInts.l0 (fun k xs ys n i => by simp only [cuvetteref03_SameInts.l0]; rfl) a b hm k (by omega)⟩
theorem equalI64 (a b : List Int) (hm : a.length ≤ 9223372036854775807) : Ev (fun k => slices_Equal_int64_int64.f k a b) (decide (a = b)) :=
  ⟨a.length + 1, fun k hk => eqLoop0 0 slices_Equal_int64_int64.l0 (fun k xs ys n i => by simp only [slices_Equal_int64_int64.l0]; rfl) a b hm k (by omega)⟩
theorem sameSlots_ev (d : Int) (i : List Int) (v : List (List Int)) (hm : i.length ≤ 9223372036854775807) : Ev (fun k => slots_Same.f k d i v d i v) true := by
  unfold slots_Same.f h_EqVecs.f
  simp only [if_true]
  refine Ev.bind (equalI64 i i hm) ?_
  exact Ev.of fun k => by simp
theorem live10 : Ev (fun k => cuvettelaw10_live.f k) true := by
  suffices h : Ev (fun k => cuvettelaw10_live.f0 k) true by
    obtain ⟨K, h⟩ := h
    exact ⟨K, fun k hk => by simp only [cuvettelaw10_live.f]; rw [if_pos (h k hk)]⟩
  unfold cuvettelaw10_live.f0
  have hn : slots_New.f 2 1 = some (1, [-1, -1], [[], []], 0) := by decide +kernel
  rw [hn]
  simp only [Option.bind_some]
  refine Ev.bind (put_ev 1 [-1, -1] [[], []] 7 [1] (by decide) (by decide)) ?_
  rw [show putS 1 [-1, -1] [[], []] 7 [1] = (0, 1, [7, -1], [[1], []], 0) by decide +kernel]
  refine Ev.bind (put_ev 1 [7, -1] [[1], []] 3 [2] (by decide) (by decide)) ?_
  rw [show putS 1 [7, -1] [[1], []] 3 [2] = (1, 1, [7, 3], [[1], [2]], 0) by decide +kernel]
  refine Ev.bind (del_ev 1 [7, 3] [[1], [2]] 7 (by decide) (by decide)) ?_
  rw [show delS 1 [7, 3] [[1], [2]] 7 = (0, 1, [-1, 3], [[], [2]], 0) by decide +kernel]
  refine Ev.bind (put_ev 1 [-1, 3] [[], [2]] 9 [4] (by decide) (by decide)) ?_
  rw [show putS 1 [-1, 3] [[], [2]] 9 [4] = (0, 1, [9, 3], [[4], [2]], 0) by decide +kernel]
  simp only [if_true]
  refine Ev.bind (sameInts03 [9, 3] [9, 3] (by decide)) ?_
  exact Ev.of fun k => by simp
theorem i64B_id {a : Int} (h : okN .i64 a) : i64B a = true := by
  obtain ⟨h0, h1⟩ := okN_i64 h
  unfold i64B
  rw [decide_eq_true h0, decide_eq_true h1]
  rfl
theorem i64B_set {ids : List Int} (h : ids.all i64B = true) (j : Nat) {x : Int} (hx : i64B x = true) : (ids.set j x).all i64B = true := by
  refine List.all_eq_true.2 fun y hy => ?_
  rcases List.mem_or_eq_of_mem_set hy with hy | rfl
  · exact List.all_eq_true.1 h y hy
  · exact hx
end Go.Proofs.Ytkjibgfgbfacdaa.P
end
/-! part: PureSlotsBack -/
section
set_option linter.unusedVariables false
set_option linter.unusedSimpArgs false
namespace Go.Proofs.Ytkjibgfgbfacdaa.P
open Go.RowKit Go.Proofs.YtkjibgfgbfacdaaW.PrintWords Go.Proofs.YtkjibgfgbfacdaaW.PrintLast Go.Proofs.YtkjibgfgbfacdaaW.PrintMore
set_option linter.unusedVariables false
theorem set_self (l : List Int) (j : Nat) (x : Int) (h : l.getD j 0 = x) : l.set j x = l := by
  refine List.ext_getElem? fun i => ?_
  rw [List.getElem?_set]
  by_cases e : j = i
  · subst e
    by_cases hl : j < l.length
    · rw [if_pos rfl, if_pos hl, List.getElem?_eq_getElem hl]
      rw [List.getD_eq_getElem?_getD, List.getElem?_eq_getElem hl] at h
      simpa using h.symm
    · rw [if_pos rfl, if_neg hl, List.getElem?_eq_none (by omega)]
  · rw [if_neg e]
theorem set_selfV (l : List (List Int)) (j : Nat) (x : List Int) (h : l.getD j [] = x) : l.set j x = l := by
  refine List.ext_getElem? fun i => ?_
  rw [List.getElem?_set]
  by_cases e : j = i
  · subst e
    by_cases hl : j < l.length
    · rw [if_pos rfl, if_pos hl, List.getElem?_eq_getElem hl]
      rw [List.getD_eq_getElem?_getD, List.getElem?_eq_getElem hl] at h
      simpa using h.symm
    · rw [if_pos rfl, if_neg hl, List.getElem?_eq_none (by omega)]
  · rw [if_neg e]
theorem back_j (id : Int) (v : List Int) (dim : Int) (ids : List Int) (vecs : List (List Int)) (hi : ids.all i64B = true) (hd : i64B id = true) (q : Bool) (hm : ids.length ≤ 9223372036854775807) :
    Ev (fun k => cuvettelaw10_SlotsBack.j0 k id v true q dim ids vecs) true := by
  cases q with
  | true => exact Ev.step (g' := fun _ => some true) (fun k => by simp [cuvettelaw10_SlotsBack.j0]) (Ev.const _)
  | false =>
    have hf := find_eq dim ids vecs id hi hd
    by_cases hc : slotsOk dim ids vecs = true ∧ isIdB id = true
    · obtain ⟨s1, s2, s3, s4, s5, s6, s7⟩ := slotsOk_parts hc.1
      by_cases hx : ids.idxOf id < ids.length
      · -- it is there: put with its own vector
        have hg := getD_idxOf id ids hx
        have hvx : ids.idxOf id < vecs.length := by omega
        have hidne : id ≠ -1 := by
          intro e
          have := hc.2
          rw [e] at this
          exact absurd this (by decide)
        have hvk := s6 _ hx
        rw [hg] at hvk
        have hvo : vecOk (vecs.getD (ids.idxOf id) []) = true ∧ ((vecs.getD (ids.idxOf id) []).length : Int) = dim := by
          unfold slotOk at hvk
          simp only [Bool.or_eq_true, Bool.and_eq_true, decide_eq_true_eq] at hvk
          rcases hvk with ⟨h1, _⟩ | ⟨⟨_, h2⟩, h3⟩
          · exact absurd h1 hidne
          · exact ⟨h2, h3⟩
        rw [if_pos hc, if_pos hx] at hf
        refine Ev.step (fun k => by simp only [cuvettelaw10_SlotsBack.j0]; rw [if_neg (by decide), hf]) ?_
        have q1 : 0 ≤ (ids.idxOf id : Int) := by omega
        have q2 : (ids.idxOf id : Int) < (vecs.length : Int) := by omega
        simp only [Option.bind_some, if_true, if_pos q1, if_pos q2]
        have er : rd_L3 vecs (ids.idxOf id : Int) = vecs.getD (ids.idxOf id) [] := by
          show vecs.getD (ids.idxOf id : Int).toNat [] = _
          rw [Int.toNat_natCast]
        rw [er]
        refine Ev.bind (put_ev dim ids vecs id _ hi hd) ?_
        unfold putS
        rw [if_pos ⟨hc.1, hc.2, hvo.1, hvo.2⟩, if_pos hx, set_self ids _ id hg, set_selfV vecs _ _ rfl]
        simp only [if_true]
        refine Ev.bind (sameSlots_ev dim ids vecs hm) ?_
        exact Ev.of fun k => rfl
      · rw [if_pos hc, if_neg hx] at hf
        refine Ev.step (fun k => by simp only [cuvettelaw10_SlotsBack.j0]; rw [if_neg (by decide), hf]) ?_
        have h5 : ¬ ((5 : Int) = 0) := by decide
        simp only [Option.bind_some, if_neg h5]
        refine Ev.bind (put_ev dim ids vecs id v hi hd) ?_
        unfold putS
        by_cases hvk : vecOk v = true ∧ (v.length : Int) = dim
        · rw [if_pos ⟨hc.1, hc.2, hvk.1, hvk.2⟩, if_neg hx]
          by_cases hn : ids.idxOf (-1) < ids.length
          · rw [if_pos hn]
            simp only [if_true]
            have hnot : id ∉ ids := fun hm => hx (List.idxOf_lt_length_iff.2 hm)
            have hk2 : slotsOk dim (ids.set (ids.idxOf (-1)) id) (vecs.set (ids.idxOf (-1)) v) = true := slotsOk_set hc.1 hn (slotOk_new hc.2 hvk.1 hvk.2) (.inr (.inr hnot))
            refine Ev.bind (del_ev dim (ids.set (ids.idxOf (-1)) id) (vecs.set (ids.idxOf (-1)) v) id (i64B_set hi _ hd) hd) ?_
            unfold delS
            have hg := getD_idxOf (-1) ids hn
            have hv0 : vecs.getD (ids.idxOf (-1)) [] = [] := by
              have := s6 _ hn
              rw [hg] at this
              unfold slotOk at this
              simp only [Bool.or_eq_true, Bool.and_eq_true, decide_eq_true_eq] at this
              rcases this with ⟨_, h2⟩ | ⟨⟨h2, _⟩, _⟩
              · exact List.isEmpty_iff.1 h2
              · exact absurd h2 (by decide)
            rw [if_pos ⟨hk2, hc.2⟩, idxOf_set id ids _ hn hnot, List.length_set, if_pos hn, List.set_set, List.set_set, set_self ids _ (-1) hg, set_selfV vecs _ _ hv0]
            simp only [if_true]
            refine Ev.bind (sameSlots_ev dim ids vecs hm) ?_
            exact Ev.of fun k => rfl
          · rw [if_neg hn]
            exact Ev.of fun k => by simp
        · rw [if_neg (fun z => hvk ⟨z.2.2.1, z.2.2.2⟩)]
          exact Ev.of fun k => by simp
    · rw [if_neg hc] at hf
      refine Ev.step (fun k => by simp only [cuvettelaw10_SlotsBack.j0]; rw [if_neg (by decide), hf]) ?_
      have h5 : ¬ ((1 : Int) = 0) := by decide
      simp only [Option.bind_some, if_neg h5]
      refine Ev.bind (put_ev dim ids vecs id v hi hd) ?_
      unfold putS
      rw [if_neg (fun z => hc ⟨z.1, z.2.1⟩)]
      exact Ev.of fun k => by simp
theorem pure_SlotsBack (a0_0 : Int) (l0_1 : List Int) (l0_2 : List (List Int)) (a1 : Int) (l2 : List Int) (w0_0 : okN .i64 a0_0) (w0_1 : okI .i64 l0_1) (w0_2 : okII .i16 l0_2) (w1 : okN .i64 a1) (w2 : okI .i16 l2) : ∃ k, cuvettelaw10_SlotsBack.f k a0_0 l0_1 l0_2 a1 l2 = some true := by
  refine Ev.some (g := fun k => cuvettelaw10_SlotsBack.f k a0_0 l0_1 l0_2 a1 l2) ?_
  unfold cuvettelaw10_SlotsBack.f
  refine Ev.bind live10 ?_
  simp only [if_true]
  refine Ev.bind (few10_ev a0_0 l0_1 l0_2 w0_2.1) ?_
  cases few10 l0_1 l0_2 with
  | false => exact back_j a1 l2 a0_0 l0_1 l0_2 (i64B_of w0_1) (i64B_id w1) true w0_1.1
  | true => exact back_j a1 l2 a0_0 l0_1 l0_2 (i64B_of w0_1) (i64B_id w1) _ w0_1.1
end Go.Proofs.Ytkjibgfgbfacdaa.P
end
/-! part: LawSlotsBack -/
section
set_option linter.unusedVariables false
set_option linter.unusedSimpArgs false
namespace Go.Proofs.Ytkjibgfgbfacdaa.slotsBack
open Go.ChangeShapes Go.WideShapes Go.ChangeAt Go.RowKit Go.Joins Go.Proofs.YtkjibgfgbfacdaaW.PrintWords
set_option linter.unusedVariables false
theorem own : ownKnob Try.prog.godebug = none := by kernel_rfl
theorem laidOut : laidOutB Try.prog = true := RFacts.f2
set_option maxRecDepth 100000 in
theorem lifted (os : Os) (started : os.Started) (H : Type) (enc : TypeId × Value → H) :
    ReturnsInHanded {} Try.checked os 5 .any (Rows.slotsBackSpec.pre6 enc Try.prog Try.f5 Rows.slotsBackRow.domain false) (Rows.slotsBackSpec.post enc Try.prog Try.f5 false true false false) := by
  refine returnsInHanded_of_change_sized (C := Try.checked) own started (by kernel_rfl) Try.func5
    (ChangeSpec.witness6 (enc := enc) (C := Try.checked) false ⟨#[], #[.agg #[.int .i64 0, .slice none 0 0, .slice none 0 0], .int .i64 0, .slice none 0 0], []⟩ 8 (by kernel_rfl) (by kernel_rfl) (by kernel_rfl) (by kernel_rfl)) ?_
  intro W base args ds gs before hval0 hW hcnd hsz0 _
  clear hsz0
  have hval : ∀ (j : Nat) t v, Try.f5.params[j]? = some t → args[j]? = some v → Value.okWide Try.prog W .any base t v := hval0
  have hW' := hW
  obtain ⟨p, q, hA0, hV, rfl, hfz, hnd⟩ := hW
  have hA : DataW.TrodAll enc Try.prog W 0 (fun _ => true) true Try.f5.params.toList args.toList ds p := hA0
  rw [Try.params5] at hA hval
  obtain ⟨v0, vs0, d0, ds0, p0, q0, hargs, rfl, rfl, h0, r0⟩ := trodAll_cons hA
  obtain ⟨v1, vs1, d1, ds1, p1, q1, rfl, rfl, rfl, h1, r1⟩ := trodAll_cons r0
  obtain ⟨v2, vs2, d2, ds2, p2, q2, rfl, rfl, rfl, h2, r2⟩ := trodAll_cons r1
  obtain ⟨rfl, rfl, rfl⟩ := trodAll_nil r2
  obtain rfl : args = #[v0, v1, v2] := by cases args; simp_all
  obtain ⟨rfl, rfl⟩ := trodVars_none hV
  have k0 := h0
  have lt0 : ∀ x ∈ p0, x.block < W.heap.size := by obtain ⟨m, hm⟩ := k0; exact DataW.trod_lt m _ _ _ hm
  obtain ⟨u0_0, u0_1, u0_2, y0_0, y0_1, y0_2, m0, hv0, _, _, e0_0, e0_1, e0_2⟩ := open_agg3 Try.underlying25 (by kernel_rfl) (by kernel_rfl) (hval 0 25 v0 rfl rfl) h0
  subst hv0
  obtain ⟨a0_0, rfl, w0_0⟩ := R.openN Try.underlying3 e0_0
  obtain ⟨A0_1, c0_1, l0_1, rfl, hc0_1, hr0_1, w0_1⟩ := R.openI Try.underlying22 Try.underlying2 (by kernel_rfl) e0_1
  obtain ⟨A0_2, c0_2, l0_2, rfl, hc0_2, hr0_2, w0_2⟩ := R.openII Try.underlying23 Try.underlying27 Try.underlying74 (by kernel_rfl) (by kernel_rfl) e0_2
  have k1 := h1
  have lt1 : ∀ x ∈ p1, x.block < W.heap.size := by obtain ⟨m, hm⟩ := k1; exact DataW.trod_lt m _ _ _ hm
  obtain ⟨a1, rfl, _, _, w1⟩ := open_int Try.underlying2 (hval 1 2 v1 rfl rfl) h1
  have k2 := h2
  have lt2 : ∀ x ∈ p2, x.block < W.heap.size := by obtain ⟨m, hm⟩ := k2; exact DataW.trod_lt m _ _ _ hm
  obtain ⟨aa2, len2, cap2, rfl⟩ := okWide_slice Try.underlying27 (hval 2 27 v2 rfl rfl)
  obtain ⟨fuel2, hf2⟩ := h2
  obtain ⟨A2, c2, l2, ev2, hc2, hr2, w2⟩ := R.openI Try.underlying27 Try.underlying74 (by kernel_rfl) (by simpa [Value.cells] using hf2)
  rw [ev2] at hW' hval k2 ⊢
  clear hA0 hval0
  obtain ⟨k, hp⟩ := P.pure_SlotsBack a0_0 l0_1 l0_2 a1 l2 w0_0 w0_1 w0_2 w1 w2
  refine (P.cuvettelaw10_SlotsBack.calls k a0_0 A0_1 c0_1 l0_1 A0_2 c0_2 l0_2 a1 A2 c2 l2 true W hr0_1 hc0_1 hr0_2 hc0_2 hr2 hc2 hp rfl).mono fun e W' ⟨he, bel⟩ => ?_
  subst he
  exact ⟨_, rfl, _, _, _, [], _, [], hW', trodAll_mk1 (shut_bool Try.underlying4 _), (trodAll_cons_mk (Below.trod laidOut (by kernel_rfl) (of_decide_eq_true (by kernel_rfl)) k0 bel lt0) (trodAll_cons_mk (Below.trod laidOut (by kernel_rfl) (of_decide_eq_true (by kernel_rfl)) k1 bel lt1) (trodAll_cons_mk (Below.trod laidOut (by kernel_rfl) (of_decide_eq_true (by kernel_rfl)) k2 bel lt2) trodAll_mk0))), rfl, bel.frame _, fun h => by cases h⟩
set_option maxHeartbeats 0 in
theorem facts : joinedFacts Try.pinned.checked.prog 5 Try.f5 Rows.slotsBackSpec Rows.slotsBackRow = true := by
  unfold joinedFacts
  simp only [Bool.and_eq_true]
  repeat' apply And.intro
  · as_aux_lemma => kernel_rfl
  · exact RFacts.f2
  · exact RFacts.f3
  · as_aux_lemma => kernel_rfl
  · as_aux_lemma => kernel_rfl
  · as_aux_lemma => kernel_rfl
  · as_aux_lemma => kernel_rfl
  · as_aux_lemma => kernel_rfl
  · as_aux_lemma => kernel_rfl
  · as_aux_lemma => kernel_rfl
  · as_aux_lemma => kernel_rfl
  · as_aux_lemma => kernel_rfl
  · as_aux_lemma => kernel_rfl
  · as_aux_lemma => kernel_rfl
  · as_aux_lemma => kernel_rfl
  · as_aux_lemma => kernel_rfl
  · as_aux_lemma => kernel_rfl
  · as_aux_lemma => kernel_rfl
  · as_aux_lemma => kernel_rfl
  · as_aux_lemma => kernel_rfl
  · as_aux_lemma => kernel_rfl
  · as_aux_lemma => kernel_rfl
  · exact RFacts.f23
  · as_aux_lemma => kernel_rfl
  · exact RFacts.f25
  · exact RFacts.f26
  · exact RFacts.f27
  · exact RFacts.f28
  · as_aux_lemma => kernel_rfl
  · as_aux_lemma => kernel_rfl
  · as_aux_lemma => kernel_rfl
  · as_aux_lemma => kernel_rfl
theorem over : Rows.slotsBackRow.holds Try.pinned (OpenSpec.ofChange Rows.slotsBackSpec) :=
  OpenClaim.holds_of_wide 5 Try.f5 rfl rfl rfl rfl rfl rfl rfl ⟨rfl, rfl, rfl, rfl, rfl⟩ rfl rfl rfl rfl rfl (by as_aux_lemma => kernel_rfl) Try.func5 facts
    (of_decide_eq_true (by as_aux_lemma => kernel_rfl)) (by unfold Func.isWrapper; first | (rw [if_pos (by decide +kernel)]; kernel_rfl) | (rw [if_neg (by decide +kernel)]; exact ⟨rfl, rfl⟩))
    (fun os started H enc _ => lifted os started H enc)
theorem proved : Rows.SlotsBackSaid := over
#print axioms proved
end Go.Proofs.Ytkjibgfgbfacdaa.slotsBack
namespace Go.Proofs.Ytkjibgfgbfacdaa
/-- The row, under a short name, for the claim. -/
theorem slotsBack_holds : Rows.SlotsBackSaid := slotsBack.proved
end Go.Proofs.Ytkjibgfgbfacdaa
end
