/- The law TrainParts of this seat answers true for every input, and its arguments read as they did. Conditions: none. This file holds a part of what the proof needs. -/
import Derived.Test.YtkjibgfgbfacdaaKTrainParts0
import Derived.Test.YtkjibgfgbfacdaaKTrainParts1
import Derived.Test.YtkjibgfgbfacdaaKTrainParts2
/-! part: HDir -/
section
namespace Go.Proofs.Ytkjibgfgbfacdaa.P
open Go.RowKit Go.Maps Go.Proofs.YtkjibgfgbfacdaaW.PrintWords Go.Proofs.YtkjibgfgbfacdaaW.PrintLast Go.Proofs.YtkjibgfgbfacdaaW.PrintMore
attribute [local go_sem] max2_int min2_int max_two min_two max_three min_three max_four min_four   -- for this text's walks alone
set_option linter.unusedVariables false
set_option linter.unusedSimpArgs false

/-! ### slots_directory: function 91 -/
mutual
def slots_directory.j0 : Nat → Bool → Int → List Int → List (List Int) → Option (Bool)
  | 0, _, _, _, _ => none
  | k + 1, x28, x126000, x126001, x126002 => if x28 = true then (some false) else (slots_directory.l0 k x126001 (x126001.length : Int) 0 x126000 x126001 x126002)
def slots_directory.l0 : Nat → List Int → Int → Int → Int → List Int → List (List Int) → Option (Bool)
  | 0, _, _, _, _, _, _ => none
  | k + 1, x34, x35, x36, x126000, x126001, x126002 => if x36 < x35 then (if 0 ≤ x36 then (if x36 < (x34.length : Int) then (if (rd x34 x36) = (-1) then (if x36 < (x126002.length : Int) then (slots_directory.j2 k x36 (rd x34 x36) x34 x35 x36 (((rd_L3 x126002 x36).length : Int) == 0) x126000 x126001 x126002) else (none)) else (slots_directory.j2 k x36 (rd x34 x36) x34 x35 x36 false x126000 x126001 x126002)) else (none)) else (none)) else (some true)
def slots_directory.j2 : Nat → Int → Int → List Int → Int → Int → Bool → Int → List Int → List (List Int) → Option (Bool)
  | 0, _, _, _, _, _, _, _, _, _ => none
  | k + 1, x5, x6, x34, x35, x36, x51, x126000, x126001, x126002 => if x51 = true then (slots_directory.l0 k x34 x35 (wrap64 (x36 + 1)) x126000 x126001 x126002) else ((some (0 : Int)).bind fun t131 => (if dirAg x34 x6 x36 = true then (some false) else ((slots_is.f x6).bind fun t132 => (if t132 = true then (if 0 ≤ x5 then (if x5 < (x126002.length : Int) then ((slots_fits.f k x126000 x126001 x126002 (rd_L3 x126002 x5)).bind fun t134 => (if t134 = true then (slots_directory.l0 k x34 x35 (wrap64 (x36 + 1)) x126000 x126001 x126002) else (some false))) else (none)) else (none)) else (some false)))))
end
def slots_directory.f (k : Nat) (a0_0 : Int) (l0_1 : List Int) (l0_2 : List (List Int)) : Option (Bool) := (slots_within.f a0_0 64).bind fun t126 => (if t126 = true then ((slots_within.f (l0_1.length : Int) 256).bind fun t127 => (if t127 = true then (slots_directory.j0 k ((l0_2.length : Int) != (l0_1.length : Int)) a0_0 l0_1 l0_2) else (slots_directory.j0 k true a0_0 l0_1 l0_2))) else (slots_directory.j0 k true a0_0 l0_1 l0_2))
theorem slots_directory.mono_l : ∀ k, (∀ y0 y1 y2 y3, LeO (slots_directory.j0 k y0 y1 y2 y3) (slots_directory.j0 (k + 1) y0 y1 y2 y3)) ∧ (∀ y0 y1 y2 y3 y4 y5, LeO (slots_directory.l0 k y0 y1 y2 y3 y4 y5) (slots_directory.l0 (k + 1) y0 y1 y2 y3 y4 y5)) ∧ (∀ y0 y1 y2 y3 y4 y5 y6 y7 y8, LeO (slots_directory.j2 k y0 y1 y2 y3 y4 y5 y6 y7 y8) (slots_directory.j2 (k + 1) y0 y1 y2 y3 y4 y5 y6 y7 y8))
  | 0 => ⟨fun _ _ _ _ r h => by simp [slots_directory.j0] at h, fun _ _ _ _ _ _ r h => by simp [slots_directory.l0] at h, fun _ _ _ _ _ _ _ _ _ r h => by simp [slots_directory.j2] at h⟩
  | k + 1 => by
    obtain ⟨ih0, ih1, ih2⟩ := slots_directory.mono_l k
    refine ⟨?_, ?_, ?_⟩
    · intro y0 y1 y2 y3
      unfold slots_directory.j0
      repeat' first
      | (with_reducible exact ih0 _ _ _ _)
      | (with_reducible exact ih1 _ _ _ _ _ _)
      | (with_reducible exact ih2 _ _ _ _ _ _ _ _ _)
      | (with_reducible exact slots_fits.mono _ _ _ _ _)
      | (with_reducible exact LeO.refl _)
      | (with_reducible exact LeO.none _)
      | (with_reducible refine LeO.ite ?_ ?_)
      | (with_reducible refine LeO.bind ?_ (fun _ => ?_))
      | exact ih0 _ _ _ _
      | exact ih1 _ _ _ _ _ _
      | exact ih2 _ _ _ _ _ _ _ _ _
      | exact slots_fits.mono _ _ _ _ _
      | exact LeO.none _
      | refine LeO.ite ?_ ?_
      | refine LeO.bind ?_ (fun _ => ?_)
    · intro y0 y1 y2 y3 y4 y5
      unfold slots_directory.l0
      repeat' first
      | (with_reducible exact ih0 _ _ _ _)
      | (with_reducible exact ih1 _ _ _ _ _ _)
      | (with_reducible exact ih2 _ _ _ _ _ _ _ _ _)
      | (with_reducible exact slots_fits.mono _ _ _ _ _)
      | (with_reducible exact LeO.refl _)
      | (with_reducible exact LeO.none _)
      | (with_reducible refine LeO.ite ?_ ?_)
      | (with_reducible refine LeO.bind ?_ (fun _ => ?_))
      | exact ih0 _ _ _ _
      | exact ih1 _ _ _ _ _ _
      | exact ih2 _ _ _ _ _ _ _ _ _
      | exact slots_fits.mono _ _ _ _ _
      | exact LeO.none _
      | refine LeO.ite ?_ ?_
      | refine LeO.bind ?_ (fun _ => ?_)
    · intro y0 y1 y2 y3 y4 y5 y6 y7 y8
      unfold slots_directory.j2
      repeat' first
      | (with_reducible exact ih0 _ _ _ _)
      | (with_reducible exact ih1 _ _ _ _ _ _)
      | (with_reducible exact ih2 _ _ _ _ _ _ _ _ _)
      | (with_reducible exact slots_fits.mono _ _ _ _ _)
      | (with_reducible exact LeO.refl _)
      | (with_reducible exact LeO.none _)
      | (with_reducible refine LeO.ite ?_ ?_)
      | (with_reducible refine LeO.bind ?_ (fun _ => ?_))
      | exact ih0 _ _ _ _
      | exact ih1 _ _ _ _ _ _
      | exact ih2 _ _ _ _ _ _ _ _ _
      | exact slots_fits.mono _ _ _ _ _
      | exact LeO.none _
      | refine LeO.ite ?_ ?_
      | refine LeO.bind ?_ (fun _ => ?_)
theorem slots_directory.mono : ∀ a0 a1 a2 k, LeO (slots_directory.f k a0 a1 a2) (slots_directory.f (k + 1) a0 a1 a2) := by
  intro a0 a1 a2 k
  obtain ⟨ih0, ih1, ih2⟩ := slots_directory.mono_l k
  unfold slots_directory.f
  repeat' first
      | (with_reducible exact ih0 _ _ _ _)
      | (with_reducible exact ih1 _ _ _ _ _ _)
      | (with_reducible exact ih2 _ _ _ _ _ _ _ _ _)
      | (with_reducible exact slots_fits.mono _ _ _ _ _)
      | (with_reducible exact LeO.refl _)
      | (with_reducible exact LeO.none _)
      | (with_reducible refine LeO.ite ?_ ?_)
      | (with_reducible refine LeO.bind ?_ (fun _ => ?_))
      | exact ih0 _ _ _ _
      | exact ih1 _ _ _ _ _ _
      | exact ih2 _ _ _ _ _ _ _ _ _
      | exact slots_fits.mono _ _ _ _ _
      | exact LeO.none _
      | refine LeO.ite ?_ ?_
      | refine LeO.bind ?_ (fun _ => ?_)
def slots_directory.T9 : Bool × List (List Nat × List Nat) := (true, [([], []), ([0], [0]), ([1], [1]), ([2, 1, 1], [1, 2]), ([3, 1], [1, 3]), ([1, 4], [1, 4]), ([5, 3], [5]), ([6], [6]), ([6], [6]), ([8, 6], [6, 8]), ([6], [6]), ([9, 10, 6], [6, 9, 10]), ([11, 6], [6, 11]), ([7, 12, 6, 6], [6, 7, 12]), ([13, 6], [6, 13]), ([6, 14], [6, 14])])
def slots_directory.B9 : List Nat := [0, 1, 3, 7, 15, 31, 63, 127, 127, 383, 127, 1919, 3967, 8191, 16383, 32767]
theorem slots_directory.tab9 : rtab .any (opsOf Try.f91 9) = slots_directory.T9 := by kernel_rfl
theorem slots_directory.bits9 : waitsOk slots_directory.T9.2 slots_directory.B9 = true := by kernel_rfl
set_option maxHeartbeats 8000000 in
set_option maxRecDepth 100000 in
theorem slots_directory.calls (k : Nat) (a0_0 : Int) (A0_1 : Option Addr) (c0_1 : Nat) (l0_1 : List Int) (A0_2 : Option Addr) (c0_2 : Nat) (l0_2 : List (List Int)) (r : Bool) (w : World) (hwf : ∀ x ∈ l0_1, (Lit.int .i64 x).wf = true) (hr0_1 : Kd.C (Kd.int .i64) w A0_1 l0_1.length l0_1) (hc0_1 : l0_1.length ≤ c0_1) (hr0_2 : Kd.C (Kd.slice 74 (Kd.int .i16)) w A0_2 l0_2.length l0_2) (hc0_2 : l0_2.length ≤ c0_2) (h : slots_directory.f k a0_0 l0_1 l0_2 = some r) :
    Calls Try.prog 91 #[.agg #[.int .i64 a0_0, .slice A0_1 l0_1.length c0_1, .slice A0_2 l0_2.length c0_2]] w fun e w' => ∃ v0_ : Value, e = .returned (.tuple #[v0_, .bool r]) ∧ DirPost l0_1 r v0_ w' ∧ Below w.heap.size w w' := by
  have hu25 := Try.underlying25
  have hmm := fun n w => run_makeMap_hint (k := 2) (e := 3) Try.underlying98 n w
  have HWF := Aside0.mk hwf
  clear hwf
  have HMX := Aside0.mk hr0_1.2.1
  have HR0_1 := Aside0.mk hr0_1
  have HC0_1 := Aside0.mk hc0_1
  clear hr0_1 hc0_1
  have HR0_2 := Aside0.mk hr0_2
  have HC0_2 := Aside0.mk hc0_2
  clear hr0_2 hc0_2
  have HB := Aside0.mk (Below.refl w.heap.size w)
  have H : ((slots_within.f a0_0 64).bind fun t126 => (if t126 = true then ((slots_within.f (l0_1.length : Int) 256).bind fun t127 => (if t127 = true then (slots_directory.j0 k ((l0_2.length : Int) != (l0_1.length : Int)) a0_0 l0_1 l0_2) else (slots_directory.j0 k true a0_0 l0_1 l0_2))) else (slots_directory.j0 k true a0_0 l0_1 l0_2))) = some r := h
  clear h
  have HC2 := Aside0.mk H
  clear H
  go_enter Try.func91, Try.ntmps91
  go_upto_region 1 with (first | ((with_reducible refine gate_dst (N := 1) rfl ?_); (try (refine gate_guard (by rfl) ?_; dsimp only)); refine box_event ?hg (N := 1) ?hd (cs := #[.int .i64 a0_0, .slice A0_1 l0_1.length c0_1, .slice A0_2 l0_2.length c0_2]) (t := 25) ?hr ?_; (case hd => rfl); (case hg => rfl); (case hr => first | (go_simp; done) | (go_simp; rfl)); intro gb125 hg w3 hbox hb; have n0_ := Aside0.mk (below_step (by repeat (first | (with_reducible first | exact HB.out | apply below_alloc | apply pw_below_drewN | apply below_drew1) | exact HB.out)) hb); have n1_ := Aside0.mk (hbox); have n2_ := Aside0.mk ((by rw [hg]; exact (below_size (by repeat (first | (with_reducible first | exact HB.out | apply below_alloc | apply pw_below_drewN | apply below_drew1) | exact HB.out))) : w.heap.size ≤ gb125)); have n3_ := Aside0.mk ((by rw [hg]; exact (below_size (by repeat (first | (with_reducible first | exact HB.out | apply below_alloc | apply pw_below_drewN | apply below_drew1) | exact HB.out))) : w.heap.size ≤ gb125)); clear HB; have HB := n0_; have BK125 := n1_; have GW125 := n2_; have GE125 := n3_; clear n0_ n1_ n2_ n3_; clear hb hbox hg))
  (try simp only [Act.put, List.setIfInBounds_toArray, List.set_cons_zero, List.set_cons_succ])
  go_cut [28] (fun v28 wc => ∃ (kq : Nat) (x28_1 : Bool), v28 = .bool x28_1 ∧ Aside0 (slots_directory.j0 kq x28_1 a0_0 l0_1 l0_2 = some r) ∧ Aside0 (kq ≤ k) ∧ Aside0 (wc.heap[gb125]? = some (.cells #[.int .i64 a0_0, (.slice A0_1 l0_1.length c0_1), (.slice A0_2 l0_2.length c0_2)] 25 (0, 0))) ∧ Aside0 (Below w.heap.size w wc))
  case first =>
    have H := HC2.out
    clear HC2
    replace H := Option.bind_eq_some_iff.mp H
    obtain ⟨t126, A40, H⟩ := H
    replace H : (if t126 = true then ((slots_within.f (l0_1.length : Int) 256).bind fun t127 => (if t127 = true then (slots_directory.j0 k ((l0_2.length : Int) != (l0_1.length : Int)) a0_0 l0_1 l0_2) else (slots_directory.j0 k true a0_0 l0_1 l0_2))) else (slots_directory.j0 k true a0_0 l0_1 l0_2)) = some r := H
    have A4 := Aside0.mk A40
    clear A40
    by_cases c5 : t126 = true
    · subst c5
      have H1 : ((slots_within.f (l0_1.length : Int) 256).bind fun t127 => (if t127 = true then (slots_directory.j0 k ((l0_2.length : Int) != (l0_1.length : Int)) a0_0 l0_1 l0_2) else (slots_directory.j0 k true a0_0 l0_1 l0_2))) = some r := by rw [if_pos rfl] at H; exact H
      clear H
      have H := H1
      clear H1
      replace H := Option.bind_eq_some_iff.mp H
      obtain ⟨t127, A60, H⟩ := H
      replace H : (if t127 = true then (slots_directory.j0 k ((l0_2.length : Int) != (l0_1.length : Int)) a0_0 l0_1 l0_2) else (slots_directory.j0 k true a0_0 l0_1 l0_2)) = some r := H
      have A6 := Aside0.mk A60
      clear A60
      by_cases c7 : t127 = true
      · subst c7
        have H1 : (slots_directory.j0 k ((l0_2.length : Int) != (l0_1.length : Int)) a0_0 l0_1 l0_2) = some r := by rw [if_pos rfl] at H; exact H
        clear H
        have H := H1
        clear H1
        have H' := Aside0.mk H
        clear H
        have hcz8_0 : w3.cell? ⟨gb125, 0, none⟩ = some (.int .i64 a0_0) := (blk_cell BK125.out 0).trans rfl
        have hcz8_1 : w3.cell? ⟨gb125, 1, none⟩ = some (.slice A0_1 l0_1.length c0_1) := (blk_cell BK125.out 1).trans rfl
        have hcz8_2 : w3.cell? ⟨gb125, 2, none⟩ = some (.slice A0_2 l0_2.length c0_2) := (blk_cell BK125.out 2).trans rfl
        have hfz8_0 := blk_frozen BK125.out 0
        have hfz8_1 := blk_frozen BK125.out 1
        have hfz8_2 := blk_frozen BK125.out 2
        go_wp2_with (first | ((with_reducible refine gate_callee (f := 124) rfl ?_); refine goesL_ (some 11) rfl rfl Try.func124 (by kernel_rfl) rfl #[.int .i64 a0_0, .int .i64 64] rfl (by (try simp only [List.map_toArray, List.map_cons, List.map_nil]); first | done | rfl | (simp only [List.length_drop, List.length_take]; rfl)) ?_; (with_reducible refine (slots_within.calls a0_0 64 true _ A4.out).mono ?_); rintro e w' ⟨rfl, ⟨nd, rfl⟩⟩; refine ⟨_, rfl, ?_⟩) | (go_at_call 124; (with_reducible refine (slots_within.calls (l0_1.length : Int) 256 true _ A6.out).mono ?_); rintro e w' ⟨rfl, ⟨nd, rfl⟩⟩))
        go_meet
        case rel => exact ⟨_, (((l0_2.length : Int) != (l0_1.length : Int))), (by first | rfl | (simp; done) | (simp [*]; done)), H', ⟨by first | omega | exact Nat.le_refl _⟩, ⟨by (with_reducible repeat (first | refine blk_drewN ?_ _ | refine blk_drew ?_ | refine blk_alloc ?_ _)); exact BK125.out⟩, ⟨by repeat (first | (with_reducible first | exact HB.out | apply below_alloc | apply pw_below_drewN | apply below_drew1 | refine below_set ?_ GE125.out) | exact HB.out)⟩⟩
      · replace c7 := Bool.eq_false_iff.mpr c7
        subst c7
        have H1 : (slots_directory.j0 k true a0_0 l0_1 l0_2) = some r := by rw [if_neg (show ¬ (false = true) by decide)] at H; exact H
        clear H
        have H := H1
        clear H1
        have H' := Aside0.mk H
        clear H
        have hcz9_0 : w3.cell? ⟨gb125, 0, none⟩ = some (.int .i64 a0_0) := (blk_cell BK125.out 0).trans rfl
        have hcz9_1 : w3.cell? ⟨gb125, 1, none⟩ = some (.slice A0_1 l0_1.length c0_1) := (blk_cell BK125.out 1).trans rfl
        have hcz9_2 : w3.cell? ⟨gb125, 2, none⟩ = some (.slice A0_2 l0_2.length c0_2) := (blk_cell BK125.out 2).trans rfl
        have hfz9_0 := blk_frozen BK125.out 0
        have hfz9_1 := blk_frozen BK125.out 1
        have hfz9_2 := blk_frozen BK125.out 2
        go_wp2_with (first | ((with_reducible refine gate_callee (f := 124) rfl ?_); refine goesL_ (some 11) rfl rfl Try.func124 (by kernel_rfl) rfl #[.int .i64 a0_0, .int .i64 64] rfl (by (try simp only [List.map_toArray, List.map_cons, List.map_nil]); first | done | rfl | (simp only [List.length_drop, List.length_take]; rfl)) ?_; (with_reducible refine (slots_within.calls a0_0 64 true _ A4.out).mono ?_); rintro e w' ⟨rfl, ⟨nd, rfl⟩⟩; refine ⟨_, rfl, ?_⟩) | (go_at_call 124; (with_reducible refine (slots_within.calls (l0_1.length : Int) 256 false _ A6.out).mono ?_); rintro e w' ⟨rfl, ⟨nd, rfl⟩⟩))
        go_meet
        case rel => exact ⟨_, (true), (by first | rfl | (simp; done) | (simp [*]; done)), H', ⟨by first | omega | exact Nat.le_refl _⟩, ⟨by (with_reducible repeat (first | refine blk_drewN ?_ _ | refine blk_drew ?_ | refine blk_alloc ?_ _)); exact BK125.out⟩, ⟨by repeat (first | (with_reducible first | exact HB.out | apply below_alloc | apply pw_below_drewN | apply below_drew1 | refine below_set ?_ GE125.out) | exact HB.out)⟩⟩
    · replace c5 := Bool.eq_false_iff.mpr c5
      subst c5
      have H1 : (slots_directory.j0 k true a0_0 l0_1 l0_2) = some r := by rw [if_neg (show ¬ (false = true) by decide)] at H; exact H
      clear H
      have H := H1
      clear H1
      have H' := Aside0.mk H
      clear H
      have hcz10_0 : w3.cell? ⟨gb125, 0, none⟩ = some (.int .i64 a0_0) := (blk_cell BK125.out 0).trans rfl
      have hcz10_1 : w3.cell? ⟨gb125, 1, none⟩ = some (.slice A0_1 l0_1.length c0_1) := (blk_cell BK125.out 1).trans rfl
      have hcz10_2 : w3.cell? ⟨gb125, 2, none⟩ = some (.slice A0_2 l0_2.length c0_2) := (blk_cell BK125.out 2).trans rfl
      have hfz10_0 := blk_frozen BK125.out 0
      have hfz10_1 := blk_frozen BK125.out 1
      have hfz10_2 := blk_frozen BK125.out 2
      go_wp2_with (first | ((with_reducible refine gate_callee (f := 124) rfl ?_); refine goesL_ (some 11) rfl rfl Try.func124 (by kernel_rfl) rfl #[.int .i64 a0_0, .int .i64 64] rfl (by (try simp only [List.map_toArray, List.map_cons, List.map_nil]); first | done | rfl | (simp only [List.length_drop, List.length_take]; rfl)) ?_; (with_reducible refine (slots_within.calls a0_0 64 false _ A4.out).mono ?_); rintro e w' ⟨rfl, ⟨nd, rfl⟩⟩; refine ⟨_, rfl, ?_⟩))
      go_meet
      case rel => exact ⟨_, (true), (by first | rfl | (simp; done) | (simp [*]; done)), H', ⟨by first | omega | exact Nat.le_refl _⟩, ⟨by (with_reducible repeat (first | refine blk_drewN ?_ _ | refine blk_drew ?_ | refine blk_alloc ?_ _)); exact BK125.out⟩, ⟨by repeat (first | (with_reducible first | exact HB.out | apply below_alloc | apply pw_below_drewN | apply below_drew1 | refine below_set ?_ GE125.out) | exact HB.out)⟩⟩
  case rest =>
    clear HC2
    try clear c1
    try clear p2
    try clear c5
    try clear c7
    try clear c9
    try clear hcz10_0
    try clear hcz10_1
    try clear hcz10_2
    try clear hcz8_0
    try clear hcz8_1
    try clear hcz8_2
    try clear hcz9_0
    try clear hcz9_1
    try clear hcz9_2
    try clear hfz10_0
    try clear hfz10_1
    try clear hfz10_2
    try clear hfz8_0
    try clear hfz8_1
    try clear hfz8_2
    try clear hfz9_0
    try clear hfz9_1
    try clear hfz9_2
    obtain ⟨kq, x28_1, rfl, HA, HJ1, BK125, HB⟩ := hcut
    cases kq with
    | zero => exact absurd HA.out (by simp [slots_directory.j0])
    | succ kj1 =>
      have H := HA.out
      clear HA
      simp only [slots_directory.j0] at H
      by_cases c11 : x28_1 = true
      · subst c11
        have H1 : (some false) = some r := by rw [if_pos rfl] at H; exact H
        clear H
        have H := H1
        clear H1
        obtain rfl := Option.some.inj H
        go_wp2
        go_ret2
        exact ⟨_, by first | rfl | (simp [errW_none, errW_some] <;> rfl) | (simp [*, errW_none, errW_some] <;> rfl), dirPost_no _ _, by repeat (first | (with_reducible first | exact HB.out | apply below_alloc | apply pw_below_drewN | apply below_drew1 | refine below_set ?_ GE125.out) | exact HB.out)⟩
      · replace c11 := Bool.eq_false_iff.mpr c11
        subst c11
        have H1 : (slots_directory.l0 kj1 l0_1 (l0_1.length : Int) 0 a0_0 l0_1 l0_2) = some r := by rw [if_neg (show ¬ (false = true) by decide)] at H; exact H
        clear H
        have H := H1
        clear H1
        have H' := Aside0.mk H
        clear H
        have hcz12_0 : wc.cell? ⟨gb125, 0, none⟩ = some (.int .i64 a0_0) := (blk_cell BK125.out 0).trans rfl
        have hcz12_1 : wc.cell? ⟨gb125, 1, none⟩ = some (.slice A0_1 l0_1.length c0_1) := (blk_cell BK125.out 1).trans rfl
        have hcz12_2 : wc.cell? ⟨gb125, 2, none⟩ = some (.slice A0_2 l0_2.length c0_2) := (blk_cell BK125.out 2).trans rfl
        have hfz12_0 := blk_frozen BK125.out 0
        have hfz12_1 := blk_frozen BK125.out 1
        have hfz12_2 := blk_frozen BK125.out 2
        go_wp2_with (first | ((with_reducible refine gate_dst (N := 32) rfl ?_); (try (refine gate_guard (by rfl) ?_; dsimp only)); refine map_event ?hg (N := 32) ?hd ?hr ?_; (case hd => rfl); (case hg => rfl); (case hr => first | (go_simp; done) | (go_simp; rfl)); intro gb128 hg w13 hbox hb; have n0_ := Aside0.mk (blk_below (g := gb125) (o := .cells #[.int .i64 a0_0, .slice A0_1 l0_1.length c0_1, .slice A0_2 l0_2.length c0_2] 25 (0, 0)) (by (with_reducible repeat (first | refine blk_drewN ?_ _ | refine blk_drew ?_ | refine blk_alloc ?_ _)); exact BK125.out) hb); have n1_ := Aside0.mk (below_step (by repeat (first | (with_reducible first | exact HB.out | apply below_alloc | apply pw_below_drewN | apply below_drew1 | refine below_set ?_ GE125.out) | exact HB.out)) hb); have n2_ := Aside0.mk (hbox); have n3_ := Aside0.mk ((by rw [hg]; exact (below_size (by repeat (first | (with_reducible first | exact HB.out | apply below_alloc | apply pw_below_drewN | apply below_drew1 | refine below_set ?_ GE125.out) | exact HB.out))) : w.heap.size ≤ gb128)); have n4_ := Aside0.mk ((by rw [hg]; exact (below_size (by repeat (first | (with_reducible first | exact HB.out | apply below_alloc | apply pw_below_drewN | apply below_drew1 | refine below_set ?_ GE125.out) | exact HB.out))) : w.heap.size ≤ gb128)); have n5_ := Aside0.mk ((by rw [hg]; exact Nat.ne_of_lt (blk_lt (g := gb125) (o := .cells #[.int .i64 a0_0, .slice A0_1 l0_1.length c0_1, .slice A0_2 l0_2.length c0_2] 25 (0, 0)) (by (with_reducible repeat (first | refine blk_drewN ?_ _ | refine blk_drew ?_ | refine blk_alloc ?_ _)); exact BK125.out)) : gb125 ≠ gb128)); have n6_ := Aside0.mk ((by rw [hg]; exact Nat.ne_of_gt (blk_lt (g := gb125) (o := .cells #[.int .i64 a0_0, .slice A0_1 l0_1.length c0_1, .slice A0_2 l0_2.length c0_2] 25 (0, 0)) (by (with_reducible repeat (first | refine blk_drewN ?_ _ | refine blk_drew ?_ | refine blk_alloc ?_ _)); exact BK125.out)) : gb128 ≠ gb125)); clear BK125; clear HB; have BK125 := n0_; have HB := n1_; have BK128 := n2_; have GW128 := n3_; have GE128 := n4_; have NB125_128 := n5_; have NB128_125 := n6_; clear n0_ n1_ n2_ n3_ n4_ n5_ n6_; clear hb hbox hg; have hnb14 := NB125_128.out; have hnc14 := NB128_125.out; have hcz15_0 : w13.cell? ⟨gb125, 0, none⟩ = some (.int .i64 a0_0) := (blk_cell BK125.out 0).trans rfl; have hcz15_1 : w13.cell? ⟨gb125, 1, none⟩ = some (.slice A0_1 l0_1.length c0_1) := (blk_cell BK125.out 1).trans rfl; have hcz15_2 : w13.cell? ⟨gb125, 2, none⟩ = some (.slice A0_2 l0_2.length c0_2) := (blk_cell BK125.out 2).trans rfl; have hfz15_0 := blk_frozen BK125.out 0; have hfz15_1 := blk_frozen BK125.out 1; have hfz15_2 := blk_frozen BK125.out 2))
        go_loopg [36] kj1 (fun kq v36 w' => ∃ (x36_2 : Int) (ob : Obj), v36 = .int .i64 x36_2 ∧ Aside0 (slots_directory.l0 kq l0_1 (l0_1.length : Int) x36_2 a0_0 l0_1 l0_2 = some r) ∧ Aside0 (kq ≤ kj1) ∧ Aside0 (w'.heap[gb125]? = some (.cells #[.int .i64 a0_0, (.slice A0_1 l0_1.length c0_1), (.slice A0_2 l0_2.length c0_2)] 25 (0, 0))) ∧ Aside0 (w'.heap[gb128]? = some ob) ∧ Aside0 (DirM l0_1 x36_2 ob ∧ 0 ≤ x36_2 ∧ x36_2 ≤ (l0_1.length : Int)) ∧ Aside0 (Below w.heap.size w w'))
        case atStart => exact ⟨(0), _, (by first | rfl | (simp; done) | (simp [*]; done)), H', ⟨Nat.le_refl _⟩, ⟨by (with_reducible repeat (first | refine blk_drewN ?_ _ | refine blk_drew ?_ | refine blk_alloc ?_ _)); exact BK125.out⟩, ⟨by (with_reducible repeat (first | refine blk_drewN ?_ _ | refine blk_drew ?_ | refine blk_alloc ?_ _)); exact BK128.out⟩, ⟨dirM_zero l0_1, by omega, by omega⟩, ⟨by repeat (first | (with_reducible first | exact HB.out | apply below_alloc | apply pw_below_drewN | apply below_drew1 | refine below_set ?_ GE125.out | refine below_set ?_ GE128.out) | exact HB.out)⟩⟩
        case round =>
          clear H'
          try clear c1
          try clear p2
          try clear c5
          try clear c7
          try clear c9
          try clear c11
          try clear c12
          try clear c14
          try clear hcz10_0
          try clear hcz10_1
          try clear hcz10_2
          try clear hcz12_0
          try clear hcz12_1
          try clear hcz12_2
          try clear hcz15_0
          try clear hcz15_1
          try clear hcz15_2
          try clear hcz8_0
          try clear hcz8_1
          try clear hcz8_2
          try clear hcz9_0
          try clear hcz9_1
          try clear hcz9_2
          try clear hfz10_0
          try clear hfz10_1
          try clear hfz10_2
          try clear hfz12_0
          try clear hfz12_1
          try clear hfz12_2
          try clear hfz15_0
          try clear hfz15_1
          try clear hfz15_2
          try clear hfz8_0
          try clear hfz8_1
          try clear hfz8_2
          try clear hfz9_0
          try clear hfz9_1
          try clear hfz9_2
          try clear p2
          obtain ⟨x36_2, ob, rfl, HA, HK2, BK125, BK128, HDM, HB⟩ := hrel
          cases gk with
          | zero => exact absurd HA.out (by simp [slots_directory.l0])
          | succ k2 =>
            have H := HA.out
            clear HA
            simp only [slots_directory.l0] at H
            by_cases c16 : x36_2 < (l0_1.length : Int)
            · rw [if_pos c16] at H
              have c16b0 : decide (x36_2 < (l0_1.length : Int)) = true := decide_eq_true c16
              clear c16
              by_cases c17 : 0 ≤ x36_2
              · rw [if_pos c17] at H
                have c17b0 : decide (0 ≤ x36_2) = true := decide_eq_true c17
                clear c17
                by_cases c18 : x36_2 < (l0_1.length : Int)
                · rw [if_pos c18] at H
                  have c18b0 : decide (x36_2 < (l0_1.length : Int)) = true := decide_eq_true c18
                  clear c18
                  have HC19 := Aside0.mk H
                  clear H
                  have p129 : 0 ≤ (x36_2 : Int) := of_decide_eq_true (by first | (with_reducible assumption) | assumption)
                  have q129 : x36_2 < (l0_1.length : Int) := of_decide_eq_true (by first | (with_reducible assumption) | assumption)
                  obtain ⟨ad129, e129, hx129_0⟩ := Kd.at_int HR0_1.out x36_2 p129 q129
                  cases e129
                  replace hx129_0 := (HB.out.cell (World.block_lt_of_cell? w _ hx129_0)).trans hx129_0
                  replace p129 := eq_true p129
                  replace q129 := eq_true q129
                  have HLT := Aside0.mk (show x36_2 < (l0_1.length : Int) from of_decide_eq_true (by first | (with_reducible assumption) | assumption))
                  go_upto_region 7 with (fail)
                  go_cut [51] (fun v51 wc => ∃ (kq : Nat) (x51_18 : Bool), v51 = .bool x51_18 ∧ Aside0 (slots_directory.j2 kq x36_2 (rd l0_1 x36_2) l0_1 (l0_1.length : Int) x36_2 x51_18 a0_0 l0_1 l0_2 = some r) ∧ Aside0 (kq ≤ k2) ∧ Aside0 (wc.heap[gb125]? = some (.cells #[.int .i64 a0_0, (.slice (some ad129) l0_1.length c0_1), (.slice A0_2 l0_2.length c0_2)] 25 (0, 0))) ∧ Aside0 (wc.heap[gb128]? = some ob) ∧ Aside0 (x51_18 = true → rd l0_1 x36_2 = -1) ∧ Aside0 (Below w.heap.size w wc))
                  case first =>
                    have H := HC19.out
                    clear HC19
                    by_cases c20 : (rd l0_1 x36_2) = (-1)
                    · rw [if_pos c20] at H
                      have c20b0 : ((rd l0_1 x36_2) == (-1)) = true := beq_iff_eq.mpr c20
                      have c20b1 : ((rd l0_1 x36_2) != (-1)) = false := bne_eq_false_iff_eq.mpr c20
                      clear c20
                      (first | rw [c20b0] | (simp only [i64_w, i32_w]; rw [c20b0]) | skip)
                      by_cases c21 : x36_2 < (l0_2.length : Int)
                      · rw [if_pos c21] at H
                        have c21b0 : decide (x36_2 < (l0_2.length : Int)) = true := decide_eq_true c21
                        clear c21
                        have H' := Aside0.mk H
                        clear H
                        have hnb22 := NB125_128.out
                        have hnc22 := NB128_125.out
                        have hcz23_0 : wr.cell? ⟨gb125, 0, none⟩ = some (.int .i64 a0_0) := (blk_cell BK125.out 0).trans rfl
                        have hcz23_1 : wr.cell? ⟨gb125, 1, none⟩ = some (.slice (some ad129) l0_1.length c0_1) := (blk_cell BK125.out 1).trans rfl
                        have hcz23_2 : wr.cell? ⟨gb125, 2, none⟩ = some (.slice A0_2 l0_2.length c0_2) := (blk_cell BK125.out 2).trans rfl
                        have hfz23_0 := blk_frozen BK125.out 0
                        have hfz23_1 := blk_frozen BK125.out 1
                        have hfz23_2 := blk_frozen BK125.out 2
                        have p130 : 0 ≤ (x36_2 : Int) := of_decide_eq_true (by first | (with_reducible assumption) | assumption)
                        have q130 : x36_2 < (l0_2.length : Int) := of_decide_eq_true (by first | (with_reducible assumption) | assumption)
                        obtain ⟨ad130, A130_0, c130_0, e130, hx130_0, hl130_0, hi130_0⟩ := at_L3 HR0_2.out x36_2 p130 q130
                        cases e130
                        replace hx130_0 := (HB.out.cell (World.block_lt_of_cell? w _ hx130_0)).trans hx130_0
                        have HR130_0 := Aside0.mk hi130_0
                        have HC130_0 := Aside0.mk hl130_0
                        clear hi130_0 hl130_0
                        replace p130 := eq_true p130
                        replace q130 := eq_true q130
                        go_wp2
                        go_meet
                        case rel => exact ⟨_, ((((rd_L3 l0_2 x36_2).length : Int) == 0)), (by first | rfl | (simp; done) | (simp [*]; done)), H', ⟨by have := HJ1.out; have := HK2.out; first | omega | exact Nat.le_refl _⟩, ⟨by (with_reducible repeat (first | refine blk_drewN ?_ _ | refine blk_drew ?_ | refine blk_alloc ?_ _)); exact BK125.out⟩, ⟨by (with_reducible repeat (first | refine blk_drewN ?_ _ | refine blk_drew ?_ | refine blk_alloc ?_ _)); exact BK128.out⟩, ⟨fun _ => by simpa using c20b0⟩, ⟨by repeat (first | (with_reducible first | exact HB.out | apply below_alloc | apply pw_below_drewN | apply below_drew1 | refine below_set ?_ GE125.out | refine below_set ?_ GE128.out) | exact HB.out)⟩⟩
                      · rw [if_neg c21] at H
                        exact absurd H (by simp)
                    · rw [if_neg c20] at H
                      have c20b0 : ((rd l0_1 x36_2) == (-1)) = false := beq_eq_false_iff_ne.mpr c20
                      have c20b1 : ((rd l0_1 x36_2) != (-1)) = true := bne_iff_ne.mpr c20
                      (first | rw [c20b0] | (simp only [i64_w, i32_w]; rw [c20b0]) | skip)
                      have H' := Aside0.mk H
                      clear H
                      go_wp2
                      go_meet
                      case rel => exact ⟨_, (false), (by first | rfl | (simp; done) | (simp [*]; done)), H', ⟨by have := HJ1.out; have := HK2.out; first | omega | exact Nat.le_refl _⟩, ⟨by (with_reducible repeat (first | refine blk_drewN ?_ _ | refine blk_drew ?_ | refine blk_alloc ?_ _)); exact BK125.out⟩, ⟨by (with_reducible repeat (first | refine blk_drewN ?_ _ | refine blk_drew ?_ | refine blk_alloc ?_ _)); exact BK128.out⟩, ⟨fun h_ => by cases h_⟩, ⟨by repeat (first | (with_reducible first | exact HB.out | apply below_alloc | apply pw_below_drewN | apply below_drew1 | refine below_set ?_ GE125.out | refine below_set ?_ GE128.out) | exact HB.out)⟩⟩
                  case rest =>
                    clear HC19
                    try clear c1
                    try clear p1
                    try clear q1
                    try clear hx1
                    try clear c2
                    try clear p2
                    try clear c5
                    try clear c7
                    try clear c9
                    try clear c11
                    try clear c12
                    try clear p12
                    try clear q12
                    try clear hx12
                    try clear c13
                    try clear p13
                    try clear q13
                    try clear hx13
                    try clear c14
                    try clear c16
                    try clear c16b0
                    try clear c17
                    try clear c17b0
                    try clear c18
                    try clear c18b0
                    try clear c20
                    try clear c20b0
                    try clear c20b1
                    try clear c21
                    try clear c21b0
                    try clear c22
                    try clear hcz10_0
                    try clear hcz10_1
                    try clear hcz10_2
                    try clear hcz12_0
                    try clear hcz12_1
                    try clear hcz12_2
                    try clear hcz15_0
                    try clear hcz15_1
                    try clear hcz15_2
                    try clear hcz23_0
                    try clear hcz23_1
                    try clear hcz23_2
                    try clear hcz8_0
                    try clear hcz8_1
                    try clear hcz8_2
                    try clear hcz9_0
                    try clear hcz9_1
                    try clear hcz9_2
                    try clear hfz10_0
                    try clear hfz10_1
                    try clear hfz10_2
                    try clear hfz12_0
                    try clear hfz12_1
                    try clear hfz12_2
                    try clear hfz15_0
                    try clear hfz15_1
                    try clear hfz15_2
                    try clear hfz23_0
                    try clear hfz23_1
                    try clear hfz23_2
                    try clear hfz8_0
                    try clear hfz8_1
                    try clear hfz8_2
                    try clear hfz9_0
                    try clear hfz9_1
                    try clear hfz9_2
                    try clear hx129_0
                    try clear hx130_0
                    try clear p129
                    try clear p130
                    try clear p2
                    try clear q129
                    try clear q130
                    obtain ⟨kq, x51_18, rfl, HA, HJ18, BK125, BK128, HSK, HB⟩ := hcut
                    cases kq with
                    | zero => exact absurd HA.out (by simp [slots_directory.j2])
                    | succ kj18 =>
                      have H := HA.out
                      clear HA
                      simp only [slots_directory.j2] at H
                      by_cases c24 : x51_18 = true
                      · subst c24
                        have H1 : (slots_directory.l0 kj18 l0_1 (l0_1.length : Int) (wrap64 (x36_2 + 1)) a0_0 l0_1 l0_2) = some r := by rw [if_pos rfl] at H; exact H
                        clear H
                        have H := H1
                        clear H1
                        have H' := Aside0.mk H
                        clear H
                        have hlt_ := HLT.out
                        have HW64 := Aside0.mk (show wrap64 (x36_2 + 1) = x36_2 + 1 from w64 (by have := HDM.out.2.1; omega) (by have := HMX.out; omega))
                        have HDM2 := Aside0.mk (show DirM l0_1 (wrap64 (x36_2 + 1)) ob ∧ 0 ≤ wrap64 (x36_2 + 1) ∧ wrap64 (x36_2 + 1) ≤ (l0_1.length : Int) from by rw [HW64.out]; exact ⟨dirM_skip HDM.out.1 HDM.out.2.1 hlt_ (HSK.out rfl), by have := HDM.out.2.1; omega, by omega⟩)
                        clear hlt_
                        go_wp2
                        go_roundg kj18
                        case measure => have := HJ1.out; have := HK2.out; have := HJ18.out; omega
                        case rel => exact ⟨(wrap64 (x36_2 + 1)), ob, (by first | rfl | (simp; done) | (simp [*]; done)), H', ⟨by have := HJ1.out; have := HK2.out; have := HJ18.out; omega⟩, ⟨by (with_reducible repeat (first | refine blk_drewN ?_ _ | refine blk_drew ?_ | refine blk_alloc ?_ _)); exact BK125.out⟩, ⟨by (with_reducible repeat (first | refine blk_drewN ?_ _ | refine blk_drew ?_ | refine blk_alloc ?_ _)); exact BK128.out⟩, HDM2, ⟨by repeat (first | (with_reducible first | exact HB.out | apply below_alloc | apply pw_below_drewN | apply below_drew1 | refine below_set ?_ GE125.out | refine below_set ?_ GE128.out) | exact HB.out)⟩⟩
                      · replace c24 := Bool.eq_false_iff.mpr c24
                        subst c24
                        have H1 : ((some (0 : Int)).bind fun t131 => (if dirAg l0_1 (rd l0_1 x36_2) x36_2 = true then (some false) else ((slots_is.f (rd l0_1 x36_2)).bind fun t132 => (if t132 = true then (if 0 ≤ x36_2 then (if x36_2 < (l0_2.length : Int) then ((slots_fits.f kj18 a0_0 l0_1 l0_2 (rd_L3 l0_2 x36_2)).bind fun t134 => (if t134 = true then (slots_directory.l0 kj18 l0_1 (l0_1.length : Int) (wrap64 (x36_2 + 1)) a0_0 l0_1 l0_2) else (some false))) else (none)) else (none)) else (some false))))) = some r := by rw [if_neg (show ¬ (false = true) by decide)] at H; exact H
                        clear H
                        have H := H1
                        clear H1
                        replace H := Option.bind_eq_some_iff.mp H
                        obtain ⟨t131, A250, H⟩ := H
                        replace H : (if dirAg l0_1 (rd l0_1 x36_2) x36_2 = true then (some false) else ((slots_is.f (rd l0_1 x36_2)).bind fun t132 => (if t132 = true then (if 0 ≤ x36_2 then (if x36_2 < (l0_2.length : Int) then ((slots_fits.f kj18 a0_0 l0_1 l0_2 (rd_L3 l0_2 x36_2)).bind fun t134 => (if t134 = true then (slots_directory.l0 kj18 l0_1 (l0_1.length : Int) (wrap64 (x36_2 + 1)) a0_0 l0_1 l0_2) else (some false))) else (none)) else (none)) else (some false)))) = some r := H
                        have A25 := Aside0.mk A250
                        clear A250
                        by_cases c26 : dirAg l0_1 (rd l0_1 x36_2) x36_2 = true
                        · rw [if_pos c26] at H
                          have c26b0 := Aside0.mk (show dirAg l0_1 (rd l0_1 x36_2) x36_2 = true from c26)
                          clear c26
                          obtain rfl := Option.some.inj H
                          obtain ⟨D_, HMO, HHAS, HAT⟩ := HDM.out.1
                          have hhas_ : Maps.has D_ (.int .i64 (rd l0_1 x36_2)) = true := by rw [HHAS.out]; exact c26b0.out
                          have HKW := Aside0.mk (HWF.out (rd l0_1 x36_2) (rd_mem l0_1 x36_2 HDM.out.2.1 HLT.out))
                          have HOWN_ := Aside0.mk (HMO.out wc gb128 (by (with_reducible repeat (first | refine blk_drewN ?_ _ | refine blk_drew ?_ | refine blk_alloc ?_ _)); exact BK128.out))
                          try go_wp2_with (first | (at_lookup; refine wpList_lookup_own_ok_int (H := Unit) _ rfl _ _ 98 rfl 2 3 .i64 (Maps.int_keyed Try.underlying2) Try.underlying98 Try.underlying3 (zero_int _) gb128 _ D_ rfl HOWN_.out _ _ rfl (keyOf_int_mk Try.underlying2 HKW.out) ?_; intro c_ hat_ hwc_; clear hat_ hwc_))
                          (try (rw [drewN_self wc]; generalize hq_ : World.drewN wc _ = wc; have n0_ : Aside0 (wc.heap[gb125]? = some (.cells #[.int .i64 a0_0, .slice (some ad129) l0_1.length c0_1, .slice A0_2 l0_2.length c0_2] 25 (0, 0))) := ⟨by rw [← hq_]; exact (by (with_reducible repeat (first | refine blk_drewN ?_ _ | refine blk_drew ?_ | refine blk_alloc ?_ _)); exact BK125.out)⟩; have n1_ : Aside0 (wc.heap[gb128]? = some (ob)) := ⟨by rw [← hq_]; exact (by (with_reducible repeat (first | refine blk_drewN ?_ _ | refine blk_drew ?_ | refine blk_alloc ?_ _)); exact BK128.out)⟩; have n2_ : Aside0 (Below w.heap.size w wc) := ⟨by rw [← hq_]; exact (by repeat (first | (with_reducible first | exact HB.out | apply below_alloc | apply pw_below_drewN | apply below_drew1 | refine below_set ?_ GE125.out | refine below_set ?_ GE128.out) | exact HB.out))⟩; clear BK125 BK128 HB hq_; have BK125 := n0_; have BK128 := n1_; have HB := n2_; clear n0_ n1_ n2_))
                          have n0_ := Aside0.mk (blk_drew BK125.out)
                          have n1_ := Aside0.mk (blk_drew BK128.out)
                          have n2_ := Aside0.mk (below_drew1 HB.out)
                          clear BK125
                          clear BK128
                          clear HB
                          have BK125 := n0_
                          have BK128 := n1_
                          have HB := n2_
                          clear n0_ n1_ n2_
                          refine start_ (n := 16) (S := fun w' => True) (ds := []) #[false, false, false, false, false, false, false, false, false, false, false, false, false, false, false, false] (by kernel_rfl) rfl rfl trivial (fun hHeld => ?_); refine with_tabW slots_directory.tab9 slots_directory.bits9 (fun HT_ HW_ => ?_)
                          generalize wc.drew = w27 at BK125 BK128 HB hHeld ⊢
                          refine pure_ (i := 0) (N := some 58) (v := ?_) (a' := ?_) #[true, false, false, false, false, false, false, false, false, false, false, false, false, false, false, false] rfl rfl (any_of HT_.out (by kernel_rfl)) (fun _ _ _ h => h) (Or.inl ⟨by rfl, ?_⟩) ?_ ?_
                          rotate_left
                          · intro w'
                            go_simp
                            with_reducible rfl
                          rotate_left
                          · simp only [Act.put, List.setIfInBounds_toArray, List.set_cons_zero, List.set_cons_succ, i64_w, i32_w]
                            rfl
                          refine pure_ (i := 1) (N := some 59) (v := ?_) (a' := ?_) #[true, true, false, false, false, false, false, false, false, false, false, false, false, false, false, false] rfl rfl (any_of HT_.out (by kernel_rfl)) (fun _ _ _ h => h) (Or.inl ⟨by rfl, ?_⟩) ?_ ?_
                          rotate_left
                          · intro w'
                            go_simp
                            with_reducible rfl
                          rotate_left
                          · simp only [Act.put, List.setIfInBounds_toArray, List.set_cons_zero, List.set_cons_succ, i64_w, i32_w]
                            rfl
                          refine pure_ (i := 2) (N := some 60) (v := undef) (a' := ?_) #[true, true, true, false, false, false, false, false, false, false, false, false, false, false, false, false] rfl rfl (any_of HT_.out (by kernel_rfl)) (fun _ _ _ h => h) (Or.inr ⟨by rfl, rfl⟩) ?_ ?_
                          rotate_left
                          · simp only [Act.put, List.setIfInBounds_toArray, List.set_cons_zero, List.set_cons_succ, i64_w, i32_w]
                            rfl
                          refine pure_ (i := 3) (N := some 61) (v := undef) (a' := ?_) #[true, true, true, true, false, false, false, false, false, false, false, false, false, false, false, false] rfl rfl (any_of HT_.out (by kernel_rfl)) (fun _ _ _ h => h) (Or.inr ⟨by rfl, rfl⟩) ?_ ?_
                          rotate_left
                          · simp only [Act.put, List.setIfInBounds_toArray, List.set_cons_zero, List.set_cons_succ, i64_w, i32_w]
                            rfl
                          refine pure_ (i := 4) (N := some 62) (v := undef) (a' := ?_) #[true, true, true, true, true, false, false, false, false, false, false, false, false, false, false, false] rfl rfl (any_of HT_.out (by kernel_rfl)) (fun _ _ _ h => h) (Or.inr ⟨by rfl, rfl⟩) ?_ ?_
                          rotate_left
                          · simp only [Act.put, List.setIfInBounds_toArray, List.set_cons_zero, List.set_cons_succ, i64_w, i32_w]
                            rfl
                          refine pure_ (i := 5) (N := some 63) (v := ?_) (a' := ?_) #[true, true, true, true, true, true, false, false, false, false, false, false, false, false, false, false] rfl rfl (any_of HT_.out (by kernel_rfl)) (fun _ _ _ h => h) (Or.inl ⟨by rfl, ?_⟩) ?_ ?_
                          rotate_left
                          · intro w'
                            go_simp
                            with_reducible rfl
                          rotate_left
                          · simp only [Act.put, List.setIfInBounds_toArray, List.set_cons_zero, List.set_cons_succ, i64_w, i32_w]
                            rfl
                          refine pure_ (i := 6) (N := some 64) (v := ?_) (a' := ?_) #[true, true, true, true, true, true, true, false, false, false, false, false, false, false, false, false] rfl rfl (any_of HT_.out (by kernel_rfl)) (fun _ _ _ h => h) (Or.inl ⟨by rfl, ?_⟩) ?_ ?_
                          rotate_left
                          · intro w'
                            go_simp
                            with_reducible rfl
                          rotate_left
                          · simp only [Act.put, List.setIfInBounds_toArray, List.set_cons_zero, List.set_cons_succ, i64_w, i32_w]
                            rfl
                          refine pure_ (i := 7) (N := some 65) (v := undef) (a' := ?_) #[true, true, true, true, true, true, true, true, false, false, false, false, false, false, false, false] rfl rfl (any_of HT_.out (by kernel_rfl)) (fun _ _ _ h => h) (Or.inr ⟨by rfl, rfl⟩) ?_ ?_
                          rotate_left
                          · simp only [Act.put, List.setIfInBounds_toArray, List.set_cons_zero, List.set_cons_succ, i64_w, i32_w]
                            rfl
                          refine pure_ (i := 8) (N := some 66) (v := undef) (a' := ?_) #[true, true, true, true, true, true, true, true, true, false, false, false, false, false, false, false] rfl rfl (any_of HT_.out (by kernel_rfl)) (fun _ _ _ h => h) (Or.inr ⟨by rfl, rfl⟩) ?_ ?_
                          rotate_left
                          · simp only [Act.put, List.setIfInBounds_toArray, List.set_cons_zero, List.set_cons_succ, i64_w, i32_w]
                            rfl
                          refine pure_ (i := 9) (N := some 67) (v := undef) (a' := ?_) #[true, true, true, true, true, true, true, true, true, true, false, false, false, false, false, false] rfl rfl (any_of HT_.out (by kernel_rfl)) (fun _ _ _ h => h) (Or.inr ⟨by rfl, rfl⟩) ?_ ?_
                          rotate_left
                          · simp only [Act.put, List.setIfInBounds_toArray, List.set_cons_zero, List.set_cons_succ, i64_w, i32_w]
                            rfl
                          refine pure_ (i := 10) (N := some 68) (v := undef) (a' := ?_) #[true, true, true, true, true, true, true, true, true, true, true, false, false, false, false, false] rfl rfl (any_of HT_.out (by kernel_rfl)) (fun _ _ _ h => h) (Or.inr ⟨by rfl, rfl⟩) ?_ ?_
                          rotate_left
                          · simp only [Act.put, List.setIfInBounds_toArray, List.set_cons_zero, List.set_cons_succ, i64_w, i32_w]
                            rfl
                          refine pure_ (i := 11) (N := some 69) (v := undef) (a' := ?_) #[true, true, true, true, true, true, true, true, true, true, true, true, false, false, false, false] rfl rfl (any_of HT_.out (by kernel_rfl)) (fun _ _ _ h => h) (Or.inr ⟨by rfl, rfl⟩) ?_ ?_
                          rotate_left
                          · simp only [Act.put, List.setIfInBounds_toArray, List.set_cons_zero, List.set_cons_succ, i64_w, i32_w]
                            rfl
                          refine pure_ (i := 12) (N := some 70) (v := undef) (a' := ?_) #[true, true, true, true, true, true, true, true, true, true, true, true, true, false, false, false] rfl rfl (any_of HT_.out (by kernel_rfl)) (fun _ _ _ h => h) (Or.inr ⟨by rfl, rfl⟩) ?_ ?_
                          rotate_left
                          · simp only [Act.put, List.setIfInBounds_toArray, List.set_cons_zero, List.set_cons_succ, i64_w, i32_w]
                            rfl
                          refine pure_ (i := 13) (N := some 71) (v := undef) (a' := ?_) #[true, true, true, true, true, true, true, true, true, true, true, true, true, true, false, false] rfl rfl (any_of HT_.out (by kernel_rfl)) (fun _ _ _ h => h) (Or.inr ⟨by rfl, rfl⟩) ?_ ?_
                          rotate_left
                          · simp only [Act.put, List.setIfInBounds_toArray, List.set_cons_zero, List.set_cons_succ, i64_w, i32_w]
                            rfl
                          refine pure_ (i := 14) (N := some 72) (v := undef) (a' := ?_) #[true, true, true, true, true, true, true, true, true, true, true, true, true, true, true, false] rfl rfl (any_of HT_.out (by kernel_rfl)) (fun _ _ _ h => h) (Or.inr ⟨by rfl, rfl⟩) ?_ ?_
                          rotate_left
                          · simp only [Act.put, List.setIfInBounds_toArray, List.set_cons_zero, List.set_cons_succ, i64_w, i32_w]
                            rfl
                          refine pure_ (i := 15) (N := some 73) (v := ?_) (a' := ?_) #[true, true, true, true, true, true, true, true, true, true, true, true, true, true, true, true] rfl rfl (any_of HT_.out (by kernel_rfl)) (fun _ _ _ h => h) (Or.inl ⟨by rfl, ?_⟩) ?_ ?_
                          rotate_left
                          · intro w'
                            go_simp
                            with_reducible rfl
                          rotate_left
                          · simp only [Act.put, List.setIfInBounds_toArray, List.set_cons_zero, List.set_cons_succ, i64_w, i32_w]
                            rfl
                          refine done_ (done_of HT_.out (by kernel_rfl)) ?_
                          try go_wp2
                          go_ret2
                          exact ⟨_, by first | rfl | (simp [errW_none, errW_some] <;> rfl) | (simp [*, errW_none, errW_some] <;> rfl), dirPost_no _ _, by repeat (first | (with_reducible first | exact HB.out | apply below_alloc | apply pw_below_drewN | apply below_drew1 | refine below_set ?_ GE125.out | refine below_set ?_ GE128.out) | exact HB.out)⟩
                        · rw [if_neg c26] at H
                          have c26b0 := Aside0.mk (show dirAg l0_1 (rd l0_1 x36_2) x36_2 = false from Bool.eq_false_iff.mpr c26)
                          clear c26
                          replace H := Option.bind_eq_some_iff.mp H
                          obtain ⟨t132, A280, H⟩ := H
                          replace H : (if t132 = true then (if 0 ≤ x36_2 then (if x36_2 < (l0_2.length : Int) then ((slots_fits.f kj18 a0_0 l0_1 l0_2 (rd_L3 l0_2 x36_2)).bind fun t134 => (if t134 = true then (slots_directory.l0 kj18 l0_1 (l0_1.length : Int) (wrap64 (x36_2 + 1)) a0_0 l0_1 l0_2) else (some false))) else (none)) else (none)) else (some false)) = some r := H
                          have A28 := Aside0.mk A280
                          clear A280
                          by_cases c29 : t132 = true
                          · subst c29
                            have HNE := Aside0.mk (is_ne A28.out)
                            have H1 : (if 0 ≤ x36_2 then (if x36_2 < (l0_2.length : Int) then ((slots_fits.f kj18 a0_0 l0_1 l0_2 (rd_L3 l0_2 x36_2)).bind fun t134 => (if t134 = true then (slots_directory.l0 kj18 l0_1 (l0_1.length : Int) (wrap64 (x36_2 + 1)) a0_0 l0_1 l0_2) else (some false))) else (none)) else (none)) = some r := by rw [if_pos rfl] at H; exact H
                            clear H
                            have H := H1
                            clear H1
                            by_cases c30 : 0 ≤ x36_2
                            · rw [if_pos c30] at H
                              have c30b0 : decide (0 ≤ x36_2) = true := decide_eq_true c30
                              clear c30
                              by_cases c31 : x36_2 < (l0_2.length : Int)
                              · rw [if_pos c31] at H
                                have c31b0 : decide (x36_2 < (l0_2.length : Int)) = true := decide_eq_true c31
                                clear c31
                                replace H := Option.bind_eq_some_iff.mp H
                                obtain ⟨t134, A320, H⟩ := H
                                replace H : (if t134 = true then (slots_directory.l0 kj18 l0_1 (l0_1.length : Int) (wrap64 (x36_2 + 1)) a0_0 l0_1 l0_2) else (some false)) = some r := H
                                have A32 := Aside0.mk A320
                                clear A320
                                by_cases c33 : t134 = true
                                · subst c33
                                  have H1 : (slots_directory.l0 kj18 l0_1 (l0_1.length : Int) (wrap64 (x36_2 + 1)) a0_0 l0_1 l0_2) = some r := by rw [if_pos rfl] at H; exact H
                                  clear H
                                  have H := H1
                                  clear H1
                                  have H' := Aside0.mk H
                                  clear H
                                  obtain ⟨D_, HMO, HHAS, HAT⟩ := HDM.out.1
                                  have hhas_ : Maps.has D_ (.int .i64 (rd l0_1 x36_2)) = false := by rw [HHAS.out]; exact c26b0.out
                                  have HKW := Aside0.mk (HWF.out (rd l0_1 x36_2) (rd_mem l0_1 x36_2 HDM.out.2.1 HLT.out))
                                  have HOWN_ := Aside0.mk (HMO.out wc gb128 (by (with_reducible repeat (first | refine blk_drewN ?_ _ | refine blk_drew ?_ | refine blk_alloc ?_ _)); exact BK128.out))
                                  try go_wp2_with (first | (at_lookup; refine wpList_lookup_own_ok_int (H := Unit) _ rfl _ _ 98 rfl 2 3 .i64 (Maps.int_keyed Try.underlying2) Try.underlying98 Try.underlying3 (zero_int _) gb128 _ D_ rfl HOWN_.out _ _ rfl (keyOf_int_mk Try.underlying2 HKW.out) ?_; intro c_ hat_ hwc_; clear hat_ hwc_))
                                  (try (rw [drewN_self wc]; generalize hq_ : World.drewN wc _ = wc; have n0_ : Aside0 (wc.heap[gb125]? = some (.cells #[.int .i64 a0_0, .slice (some ad129) l0_1.length c0_1, .slice A0_2 l0_2.length c0_2] 25 (0, 0))) := ⟨by rw [← hq_]; exact (by (with_reducible repeat (first | refine blk_drewN ?_ _ | refine blk_drew ?_ | refine blk_alloc ?_ _)); exact BK125.out)⟩; have n1_ : Aside0 (wc.heap[gb128]? = some (ob)) := ⟨by rw [← hq_]; exact (by (with_reducible repeat (first | refine blk_drewN ?_ _ | refine blk_drew ?_ | refine blk_alloc ?_ _)); exact BK128.out)⟩; have n2_ : Aside0 (Below w.heap.size w wc) := ⟨by rw [← hq_]; exact (by repeat (first | (with_reducible first | exact HB.out | apply below_alloc | apply pw_below_drewN | apply below_drew1 | refine below_set ?_ GE125.out | refine below_set ?_ GE128.out) | exact HB.out))⟩; clear BK125 BK128 HB hq_; have BK125 := n0_; have BK128 := n1_; have HB := n2_; clear n0_ n1_ n2_))
                                  have n0_ := Aside0.mk (blk_drew BK125.out)
                                  have n1_ := Aside0.mk (blk_drew BK128.out)
                                  have n2_ := Aside0.mk (below_drew1 HB.out)
                                  clear BK125
                                  clear BK128
                                  clear HB
                                  have BK125 := n0_
                                  have BK128 := n1_
                                  have HB := n2_
                                  clear n0_ n1_ n2_
                                  have p133 : 0 ≤ (x36_2 : Int) := of_decide_eq_true (by first | (with_reducible assumption) | assumption)
                                  have q133 : x36_2 < (l0_2.length : Int) := of_decide_eq_true (by first | (with_reducible assumption) | assumption)
                                  obtain ⟨ad133, A133_0, c133_0, e133, hx133_0, hl133_0, hi133_0⟩ := at_L3 HR0_2.out x36_2 p133 q133
                                  have hw133_0 := hx133_0
                                  cases e133
                                  replace hx133_0 := (HB.out.cell (World.block_lt_of_cell? w _ hx133_0)).trans hx133_0
                                  have HR133_0 := Aside0.mk hi133_0
                                  have HC133_0 := Aside0.mk hl133_0
                                  clear hi133_0 hl133_0
                                  replace p133 := eq_true p133
                                  replace q133 := eq_true q133
                                  refine start_ (n := 16) (S := fun w' => w'.cell? ⟨gb125, 0, none⟩ = some (.int .i64 a0_0) ∧ w'.cell? ⟨gb125, 1, none⟩ = some (.slice (some ad129) l0_1.length c0_1) ∧ w'.cell? ⟨gb125, 2, none⟩ = some (.slice (some ad133) l0_2.length c0_2) ∧ w'.cell? (ad133.add (x36_2).toNat) = some (.slice A133_0 (rd_L3 l0_2 x36_2).length c133_0)) (ds := []) #[false, false, false, false, false, false, false, false, false, false, false, false, false, false, false, false] (by kernel_rfl) rfl rfl ⟨(blk_cell BK125.out 0).trans rfl, (blk_cell BK125.out 1).trans rfl, (blk_cell BK125.out 2).trans rfl, ((HB.out.cell (World.block_lt_of_cell? w _ hw133_0)).trans hw133_0)⟩ (fun hHeld => ?_); refine with_tabW slots_directory.tab9 slots_directory.bits9 (fun HT_ HW_ => ?_)
                                  generalize wc.drew = w34 at BK125 BK128 HB HR133_0 hx133_0 hHeld ⊢
                                  refine pure_ (i := 0) (N := some 58) (v := ?_) (a' := ?_) #[true, false, false, false, false, false, false, false, false, false, false, false, false, false, false, false] rfl rfl (any_of HT_.out (by kernel_rfl)) (fun _ _ _ h => h) (Or.inl ⟨by rfl, ?_⟩) ?_ ?_
                                  rotate_left
                                  · intro w'
                                    go_simp
                                    with_reducible rfl
                                  rotate_left
                                  · simp only [Act.put, List.setIfInBounds_toArray, List.set_cons_zero, List.set_cons_succ, i64_w, i32_w]
                                    rfl
                                  refine pure_ (i := 1) (N := some 59) (v := ?_) (a' := ?_) #[true, true, false, false, false, false, false, false, false, false, false, false, false, false, false, false] rfl rfl (any_of HT_.out (by kernel_rfl)) (fun _ _ _ h => h) (Or.inl ⟨by rfl, ?_⟩) ?_ ?_
                                  rotate_left
                                  · intro w'
                                    go_simp
                                    with_reducible rfl
                                  rotate_left
                                  · simp only [Act.put, List.setIfInBounds_toArray, List.set_cons_zero, List.set_cons_succ, i64_w, i32_w]
                                    rfl
                                  refine pure_ (i := 2) (N := some 60) (v := ?_) (a' := ?_) #[true, true, true, false, false, false, false, false, false, false, false, false, false, false, false, false] rfl rfl (any_of HT_.out (by kernel_rfl)) (fun _ _ _ h => h) (Or.inl ⟨by rfl, ?_⟩) ?_ ?_
                                  rotate_left
                                  · intro w'
                                    go_simp
                                    with_reducible rfl
                                  rotate_left
                                  · simp only [Act.put, List.setIfInBounds_toArray, List.set_cons_zero, List.set_cons_succ, i64_w, i32_w]
                                    rfl
                                  refine one_ (i := 3) (N := some 61) #[true, true, true, true, false, false, false, false, false, false, false, false, false, false, false, false] rfl rfl (one_of HT_.out (by kernel_rfl)) (by decide) (fun K hK => ?_)
                                  refine goes_ Try.func92 (by kernel_rfl) rfl #[.int .i64 (rd l0_1 x36_2)] (by rfl) rfl rfl (by (try simp only [List.map_toArray, List.map_cons, List.map_nil]); first | done | rfl | (simp only [List.length_drop, List.length_take]; rfl)) ?_
                                  with_reducible refine (slots_is.calls (rd l0_1 x36_2) true _ A28.out).mono ?_
                                  rintro e w' ⟨rfl, ⟨nd, rfl⟩⟩
                                  refine ⟨_, rfl, ?_⟩
                                  refine hK.out _ _ ⟨(blk_cell BK125.out 0).trans rfl, (blk_cell BK125.out 1).trans rfl, (blk_cell BK125.out 2).trans rfl, ((HB.out.cell (World.block_lt_of_cell? w _ hw133_0)).trans hw133_0)⟩ (fun hHeld => ?_)
                                  clear hK K
                                  refine norm_ (a' := ?_) ?_ ?_
                                  rotate_left
                                  · show Act.put _ (some 61) _ = _
                                    simp only [Act.put, List.setIfInBounds_toArray, List.set_cons_zero, List.set_cons_succ, i64_w, i32_w]
                                    rfl
                                  refine pure_ (i := 4) (N := some 62) (v := ?_) (a' := ?_) #[true, true, true, true, true, false, false, false, false, false, false, false, false, false, false, false] rfl rfl (any_of HT_.out (by kernel_rfl)) (fun _ _ _ h => h) (Or.inl ⟨by rfl, ?_⟩) ?_ ?_
                                  rotate_left
                                  · intro w'
                                    go_simp
                                    with_reducible rfl
                                  rotate_left
                                  · simp only [Act.put, List.setIfInBounds_toArray, List.set_cons_zero, List.set_cons_succ, i64_w, i32_w]
                                    rfl
                                  refine pure_ (i := 5) (N := some 63) (v := ?_) (a' := ?_) #[true, true, true, true, true, true, false, false, false, false, false, false, false, false, false, false] rfl rfl (any_of HT_.out (by kernel_rfl)) (fun _ _ _ h => h) (Or.inl ⟨by rfl, ?_⟩) ?_ ?_
                                  rotate_left
                                  · intro w'
                                    go_simp
                                    with_reducible rfl
                                  rotate_left
                                  · simp only [Act.put, List.setIfInBounds_toArray, List.set_cons_zero, List.set_cons_succ, i64_w, i32_w]
                                    rfl
                                  refine pure_ (i := 6) (N := some 64) (v := ?_) (a' := ?_) #[true, true, true, true, true, true, true, false, false, false, false, false, false, false, false, false] rfl rfl (any_of HT_.out (by kernel_rfl)) (fun _ _ _ h => h) (Or.inl ⟨by rfl, ?_⟩) ?_ ?_
                                  rotate_left
                                  · intro w'
                                    go_simp
                                    with_reducible rfl
                                  rotate_left
                                  · simp only [Act.put, List.setIfInBounds_toArray, List.set_cons_zero, List.set_cons_succ, i64_w, i32_w]
                                    rfl
                                  refine pure_ (i := 8) (N := some 66) (v := ?_) (a' := ?_) #[true, true, true, true, true, true, true, false, true, false, false, false, false, false, false, false] rfl rfl (any_of HT_.out (by kernel_rfl)) (fun _ _ _ h => h) (Or.inl ⟨by rfl, ?_⟩) ?_ ?_
                                  rotate_left
                                  · intro w'
                                    go_simp
                                    with_reducible rfl
                                  rotate_left
                                  · simp only [Act.put, List.setIfInBounds_toArray, List.set_cons_zero, List.set_cons_succ, i64_w, i32_w]
                                    rfl
                                  refine pure_ (i := 10) (N := some 68) (v := ?_) (a' := ?_) #[true, true, true, true, true, true, true, false, true, false, true, false, false, false, false, false] rfl rfl (any_of HT_.out (by kernel_rfl)) (fun _ _ _ h => h) (Or.inl ⟨by rfl, ?_⟩) ?_ ?_
                                  rotate_left
                                  · intro w'
                                    go_simp
                                    with_reducible rfl
                                  rotate_left
                                  · simp only [Act.put, List.setIfInBounds_toArray, List.set_cons_zero, List.set_cons_succ, i64_w, i32_w]
                                    rfl
                                  refine take_ (i := 7) (N := some 65) (v := ?_) (a' := ?_) #[true, true, true, true, true, true, true, true, true, false, true, false, false, false, false, false] rfl rfl (take_ofW HT_.out HW_.out (by kernel_rfl)) (fun _ _ _ h => h) (Or.inl ⟨by rfl, ?_⟩) hHeld ?_ ?_
                                  rotate_left
                                  · rintro w' ⟨s0, s1, s2, s3⟩
                                    go_simp
                                    with_reducible rfl
                                  rotate_left
                                  · simp only [Act.put, List.setIfInBounds_toArray, List.set_cons_zero, List.set_cons_succ, i64_w, i32_w]
                                    rfl
                                  refine take_ (i := 9) (N := some 67) (v := ?_) (a' := ?_) #[true, true, true, true, true, true, true, true, true, true, true, false, false, false, false, false] rfl rfl (take_ofW HT_.out HW_.out (by kernel_rfl)) (fun _ _ _ h => h) (Or.inl ⟨by rfl, ?_⟩) hHeld ?_ ?_
                                  rotate_left
                                  · rintro w' ⟨s0, s1, s2, s3⟩
                                    go_simp
                                    with_reducible rfl
                                  rotate_left
                                  · simp only [Act.put, List.setIfInBounds_toArray, List.set_cons_zero, List.set_cons_succ, i64_w, i32_w]
                                    rfl
                                  refine pure_ (i := 11) (N := some 69) (v := ?_) (a' := ?_) #[true, true, true, true, true, true, true, true, true, true, true, true, false, false, false, false] rfl rfl (any_of HT_.out (by kernel_rfl)) (fun _ _ _ h => h) (Or.inl ⟨by rfl, ?_⟩) ?_ ?_
                                  rotate_left
                                  · intro w'
                                    go_simp
                                    with_reducible rfl
                                  rotate_left
                                  · simp only [Act.put, List.setIfInBounds_toArray, List.set_cons_zero, List.set_cons_succ, i64_w, i32_w]
                                    rfl
                                  refine take_ (i := 12) (N := some 70) (v := ?_) (a' := ?_) #[true, true, true, true, true, true, true, true, true, true, true, true, true, false, false, false] rfl rfl (take_ofW HT_.out HW_.out (by kernel_rfl)) (fun _ _ _ h => h) (Or.inl ⟨by rfl, ?_⟩) hHeld ?_ ?_
                                  rotate_left
                                  · rintro w' ⟨s0, s1, s2, s3⟩
                                    go_simp
                                    with_reducible rfl
                                  rotate_left
                                  · simp only [Act.put, List.setIfInBounds_toArray, List.set_cons_zero, List.set_cons_succ, i64_w, i32_w]
                                    rfl
                                  refine one_ (i := 13) (N := some 71) #[true, true, true, true, true, true, true, true, true, true, true, true, true, true, false, false] rfl rfl (one_of HT_.out (by kernel_rfl)) (by decide) (fun K hK => ?_)
                                  refine goes_ Try.func93 (by kernel_rfl) rfl #[.agg #[.int .i64 a0_0, .slice (some ad129) l0_1.length c0_1, .slice (some ad133) l0_2.length c0_2], .slice A133_0 (rd_L3 l0_2 x36_2).length c133_0] (by rfl) rfl rfl (by (try simp only [List.map_toArray, List.map_cons, List.map_nil]); first | done | rfl | (simp only [List.length_drop, List.length_take]; rfl)) ?_
                                  with_reducible refine (slots_fits.calls kj18 a0_0 _ _ l0_1 _ _ l0_2 _ _ (rd_L3 l0_2 x36_2) true _ ?side1 ?side2 ?side3 ?side4 ?side5 ?side6 A32.out).mono ?_
                                  (case side1 => repeat (first | exact (Kd.C_below HR0_1.out (by repeat (first | (with_reducible first | exact HB.out | apply below_alloc | apply pw_below_drewN | apply below_drew1 | refine below_set ?_ GE125.out | refine below_set ?_ GE128.out) | exact HB.out))) | (with_reducible refine Kd.C_alloc ?_ _) | (with_reducible refine Kd.C_drewN ?_ _) | (with_reducible refine Kd.C_drew ?_)))
                                  (case side2 => exact HC0_1.out)
                                  (case side3 => repeat (first | exact (Kd.C_below HR0_2.out (by repeat (first | (with_reducible first | exact HB.out | apply below_alloc | apply pw_below_drewN | apply below_drew1 | refine below_set ?_ GE125.out | refine below_set ?_ GE128.out) | exact HB.out))) | (with_reducible refine Kd.C_alloc ?_ _) | (with_reducible refine Kd.C_drewN ?_ _) | (with_reducible refine Kd.C_drew ?_)))
                                  (case side4 => exact HC0_2.out)
                                  (case side5 => repeat (first | exact (Kd.C_below HR133_0.out (by repeat (first | (with_reducible first | exact HB.out | apply below_alloc | apply pw_below_drewN | apply below_drew1 | refine below_set ?_ GE125.out | refine below_set ?_ GE128.out) | exact HB.out))) | (with_reducible refine Kd.C_alloc ?_ _) | (with_reducible refine Kd.C_drewN ?_ _) | (with_reducible refine Kd.C_drew ?_)))
                                  (case side6 => exact HC133_0.out)
                                  rintro e w35 ⟨rfl, hb⟩
                                  refine ⟨_, rfl, ?_⟩
                                  have n0_ := Aside0.mk (blk_below (g := gb125) (o := .cells #[.int .i64 a0_0, .slice (some ad129) l0_1.length c0_1, .slice (some ad133) l0_2.length c0_2] 25 (0, 0)) (by (with_reducible repeat (first | refine blk_drewN ?_ _ | refine blk_drew ?_ | refine blk_alloc ?_ _)); exact BK125.out) hb)
                                  have n1_ := Aside0.mk (blk_below (g := gb128) (o := ob) (by (with_reducible repeat (first | refine blk_drewN ?_ _ | refine blk_drew ?_ | refine blk_alloc ?_ _)); exact BK128.out) hb)
                                  have n2_ := Aside0.mk (below_step (by repeat (first | (with_reducible first | exact HB.out | apply below_alloc | apply pw_below_drewN | apply below_drew1 | refine below_set ?_ GE125.out | refine below_set ?_ GE128.out) | exact HB.out)) hb)
                                  clear BK125
                                  clear BK128
                                  clear HB
                                  have BK125 := n0_
                                  have BK128 := n1_
                                  have HB := n2_
                                  clear n0_ n1_ n2_
                                  (try clear hb)
                                  (try clear hb2)
                                  (try clear hk)
                                  (try clear hi)
                                  refine hK.out _ _ ⟨(blk_cell BK125.out 0).trans rfl, (blk_cell BK125.out 1).trans rfl, (blk_cell BK125.out 2).trans rfl, ((HB.out.cell (World.block_lt_of_cell? w _ hw133_0)).trans hw133_0)⟩ (fun hHeld => ?_)
                                  clear hK K
                                  refine norm_ (a' := ?_) ?_ ?_
                                  rotate_left
                                  · show Act.put _ (some 71) _ = _
                                    simp only [Act.put, List.setIfInBounds_toArray, List.set_cons_zero, List.set_cons_succ, i64_w, i32_w]
                                    rfl
                                  refine pure_ (i := 14) (N := some 72) (v := ?_) (a' := ?_) #[true, true, true, true, true, true, true, true, true, true, true, true, true, true, true, false] rfl rfl (any_of HT_.out (by kernel_rfl)) (fun _ _ _ h => h) (Or.inl ⟨by rfl, ?_⟩) ?_ ?_
                                  rotate_left
                                  · intro w'
                                    go_simp
                                    with_reducible rfl
                                  rotate_left
                                  · simp only [Act.put, List.setIfInBounds_toArray, List.set_cons_zero, List.set_cons_succ, i64_w, i32_w]
                                    rfl
                                  refine pure_ (i := 15) (N := some 73) (v := ?_) (a' := ?_) #[true, true, true, true, true, true, true, true, true, true, true, true, true, true, true, true] rfl rfl (any_of HT_.out (by kernel_rfl)) (fun _ _ _ h => h) (Or.inl ⟨by rfl, ?_⟩) ?_ ?_
                                  rotate_left
                                  · intro w'
                                    go_simp
                                    with_reducible rfl
                                  rotate_left
                                  · simp only [Act.put, List.setIfInBounds_toArray, List.set_cons_zero, List.set_cons_succ, i64_w, i32_w]
                                    rfl
                                  refine done_ (done_of HT_.out (by kernel_rfl)) ?_
                                  have hlt_ := HLT.out
                                  have HW64 := Aside0.mk (show wrap64 (x36_2 + 1) = x36_2 + 1 from w64 (by have := HDM.out.2.1; omega) (by have := HMX.out; omega))
                                  have HWI := Aside0.mk (show (Lit.int .i64 x36_2).wf = true from WalkArith.wf_i64 (by have := HDM.out.2.1; have := HMX.out; omega))
                                  have HNX := Aside0.mk (show x36_2.toNat < maxLen from by have := HMX.out; unfold maxLen; omega)
                                  have HL_ := Aside0.mk hlt_
                                  clear hlt_ HOWN_ hhas_
                                  go_wp2_with (first | (at_mapUpdate; refine wpList_mapUpdate_own (H := Unit) _ rfl _ _ _ 98 rfl 2 3 (Maps.int_keyed Try.underlying2) Try.underlying98 (plainElem Try.prog 3) gb128 x36_2.toNat D_ rfl ?hO HNX.out _ _ _ rfl rfl (keyOf_int_mk Try.underlying2 HKW.out) _ [] (plainElem_int Try.underlying3 HWI.out) ?_; (case hO => exact HMO.out _ gb128 (by (with_reducible repeat (first | refine blk_drewN ?_ _ | refine blk_drew ?_ | refine blk_alloc ?_ _)); exact BK128.out)); intro w9_ hown9_ hg9_; obtain ⟨ob9_, hob9_, hmo9_⟩ := mapObj_of hown9_; have n0_ := Aside0.mk (blk_grown (by (with_reducible repeat (first | refine blk_drewN ?_ _ | refine blk_drew ?_ | refine blk_alloc ?_ _)); exact BK125.out) hg9_ (by intro e_; injection e_ with e_; exact NB125_128.out e_)); have n2_ := Aside0.mk (((by repeat (first | (with_reducible first | exact HB.out | apply below_alloc | apply pw_below_drewN | apply below_drew1) | exact HB.out)) : Below w.heap.size w _).grown hg9_ (below_size (by repeat (first | (with_reducible first | exact HB.out | apply below_alloc | apply pw_below_drewN | apply below_drew1) | exact HB.out))) (fun k_ e_ => by injection e_ with e_; rw [← e_]; exact GW128.out)); have n1_ := Aside0.mk hob9_; have n3_ := Aside0.mk hmo9_; clear BK125 BK128 HB hown9_ hg9_ hob9_ hmo9_; have BK125 := n0_; have BK128 := n1_; have HB := n2_; have HMO9 := n3_; clear n0_ n1_ n2_ n3_))
                                  have HISM := Aside0.mk (show IsMap D_ from (HMO.out (World.alloc default ob) _ (blk_new _ _)).isMap)
                                  have HDM2 := Aside0.mk (show DirM l0_1 (wrap64 (x36_2 + 1)) ob9_ ∧ 0 ≤ wrap64 (x36_2 + 1) ∧ wrap64 (x36_2 + 1) ≤ (l0_1.length : Int) from by rw [HW64.out]; exact ⟨dirM_put HMO9.out HISM.out HHAS.out HAT.out HDM.out.2.1 HL_.out HNE.out c26b0.out, by have := HDM.out.2.1; omega, by have := HL_.out; omega⟩)
                                  go_roundg kj18
                                  case measure => have := HJ1.out; have := HK2.out; have := HJ18.out; omega
                                  case rel => exact ⟨(wrap64 (x36_2 + 1)), ob9_, (by first | rfl | (simp; done) | (simp [*]; done)), H', ⟨by have := HJ1.out; have := HK2.out; have := HJ18.out; omega⟩, ⟨by (with_reducible repeat (first | refine blk_drewN ?_ _ | refine blk_drew ?_ | refine blk_alloc ?_ _)); exact BK125.out⟩, ⟨by (with_reducible repeat (first | refine blk_drewN ?_ _ | refine blk_drew ?_ | refine blk_alloc ?_ _)); exact BK128.out⟩, HDM2, ⟨by repeat (first | (with_reducible first | exact HB.out | apply below_alloc | apply pw_below_drewN | apply below_drew1 | refine below_set ?_ GE125.out | refine below_set ?_ GE128.out) | exact HB.out)⟩⟩
                                · replace c33 := Bool.eq_false_iff.mpr c33
                                  subst c33
                                  have H1 : (some false) = some r := by rw [if_neg (show ¬ (false = true) by decide)] at H; exact H
                                  clear H
                                  have H := H1
                                  clear H1
                                  obtain rfl := Option.some.inj H
                                  obtain ⟨D_, HMO, HHAS, HAT⟩ := HDM.out.1
                                  have hhas_ : Maps.has D_ (.int .i64 (rd l0_1 x36_2)) = false := by rw [HHAS.out]; exact c26b0.out
                                  have HKW := Aside0.mk (HWF.out (rd l0_1 x36_2) (rd_mem l0_1 x36_2 HDM.out.2.1 HLT.out))
                                  have HOWN_ := Aside0.mk (HMO.out wc gb128 (by (with_reducible repeat (first | refine blk_drewN ?_ _ | refine blk_drew ?_ | refine blk_alloc ?_ _)); exact BK128.out))
                                  try go_wp2_with (first | (at_lookup; refine wpList_lookup_own_ok_int (H := Unit) _ rfl _ _ 98 rfl 2 3 .i64 (Maps.int_keyed Try.underlying2) Try.underlying98 Try.underlying3 (zero_int _) gb128 _ D_ rfl HOWN_.out _ _ rfl (keyOf_int_mk Try.underlying2 HKW.out) ?_; intro c_ hat_ hwc_; clear hat_ hwc_))
                                  (try (rw [drewN_self wc]; generalize hq_ : World.drewN wc _ = wc; have n0_ : Aside0 (wc.heap[gb125]? = some (.cells #[.int .i64 a0_0, .slice (some ad129) l0_1.length c0_1, .slice A0_2 l0_2.length c0_2] 25 (0, 0))) := ⟨by rw [← hq_]; exact (by (with_reducible repeat (first | refine blk_drewN ?_ _ | refine blk_drew ?_ | refine blk_alloc ?_ _)); exact BK125.out)⟩; have n1_ : Aside0 (wc.heap[gb128]? = some (ob)) := ⟨by rw [← hq_]; exact (by (with_reducible repeat (first | refine blk_drewN ?_ _ | refine blk_drew ?_ | refine blk_alloc ?_ _)); exact BK128.out)⟩; have n2_ : Aside0 (Below w.heap.size w wc) := ⟨by rw [← hq_]; exact (by repeat (first | (with_reducible first | exact HB.out | apply below_alloc | apply pw_below_drewN | apply below_drew1 | refine below_set ?_ GE125.out | refine below_set ?_ GE128.out) | exact HB.out))⟩; clear BK125 BK128 HB hq_; have BK125 := n0_; have BK128 := n1_; have HB := n2_; clear n0_ n1_ n2_))
                                  have n0_ := Aside0.mk (blk_drew BK125.out)
                                  have n1_ := Aside0.mk (blk_drew BK128.out)
                                  have n2_ := Aside0.mk (below_drew1 HB.out)
                                  clear BK125
                                  clear BK128
                                  clear HB
                                  have BK125 := n0_
                                  have BK128 := n1_
                                  have HB := n2_
                                  clear n0_ n1_ n2_
                                  have p133 : 0 ≤ (x36_2 : Int) := of_decide_eq_true (by first | (with_reducible assumption) | assumption)
                                  have q133 : x36_2 < (l0_2.length : Int) := of_decide_eq_true (by first | (with_reducible assumption) | assumption)
                                  obtain ⟨ad133, A133_0, c133_0, e133, hx133_0, hl133_0, hi133_0⟩ := at_L3 HR0_2.out x36_2 p133 q133
                                  have hw133_0 := hx133_0
                                  cases e133
                                  replace hx133_0 := (HB.out.cell (World.block_lt_of_cell? w _ hx133_0)).trans hx133_0
                                  have HR133_0 := Aside0.mk hi133_0
                                  have HC133_0 := Aside0.mk hl133_0
                                  clear hi133_0 hl133_0
                                  replace p133 := eq_true p133
                                  replace q133 := eq_true q133
                                  refine start_ (n := 16) (S := fun w' => w'.cell? ⟨gb125, 0, none⟩ = some (.int .i64 a0_0) ∧ w'.cell? ⟨gb125, 1, none⟩ = some (.slice (some ad129) l0_1.length c0_1) ∧ w'.cell? ⟨gb125, 2, none⟩ = some (.slice (some ad133) l0_2.length c0_2) ∧ w'.cell? (ad133.add (x36_2).toNat) = some (.slice A133_0 (rd_L3 l0_2 x36_2).length c133_0)) (ds := []) #[false, false, false, false, false, false, false, false, false, false, false, false, false, false, false, false] (by kernel_rfl) rfl rfl ⟨(blk_cell BK125.out 0).trans rfl, (blk_cell BK125.out 1).trans rfl, (blk_cell BK125.out 2).trans rfl, ((HB.out.cell (World.block_lt_of_cell? w _ hw133_0)).trans hw133_0)⟩ (fun hHeld => ?_); refine with_tabW slots_directory.tab9 slots_directory.bits9 (fun HT_ HW_ => ?_)
                                  generalize wc.drew = w36 at BK125 BK128 HB HR133_0 hx133_0 hHeld ⊢
                                  refine pure_ (i := 0) (N := some 58) (v := ?_) (a' := ?_) #[true, false, false, false, false, false, false, false, false, false, false, false, false, false, false, false] rfl rfl (any_of HT_.out (by kernel_rfl)) (fun _ _ _ h => h) (Or.inl ⟨by rfl, ?_⟩) ?_ ?_
                                  rotate_left
                                  · intro w'
                                    go_simp
                                    with_reducible rfl
                                  rotate_left
                                  · simp only [Act.put, List.setIfInBounds_toArray, List.set_cons_zero, List.set_cons_succ, i64_w, i32_w]
                                    rfl
                                  refine pure_ (i := 1) (N := some 59) (v := ?_) (a' := ?_) #[true, true, false, false, false, false, false, false, false, false, false, false, false, false, false, false] rfl rfl (any_of HT_.out (by kernel_rfl)) (fun _ _ _ h => h) (Or.inl ⟨by rfl, ?_⟩) ?_ ?_
                                  rotate_left
                                  · intro w'
                                    go_simp
                                    with_reducible rfl
                                  rotate_left
                                  · simp only [Act.put, List.setIfInBounds_toArray, List.set_cons_zero, List.set_cons_succ, i64_w, i32_w]
                                    rfl
                                  refine pure_ (i := 2) (N := some 60) (v := ?_) (a' := ?_) #[true, true, true, false, false, false, false, false, false, false, false, false, false, false, false, false] rfl rfl (any_of HT_.out (by kernel_rfl)) (fun _ _ _ h => h) (Or.inl ⟨by rfl, ?_⟩) ?_ ?_
                                  rotate_left
                                  · intro w'
                                    go_simp
                                    with_reducible rfl
                                  rotate_left
                                  · simp only [Act.put, List.setIfInBounds_toArray, List.set_cons_zero, List.set_cons_succ, i64_w, i32_w]
                                    rfl
                                  refine one_ (i := 3) (N := some 61) #[true, true, true, true, false, false, false, false, false, false, false, false, false, false, false, false] rfl rfl (one_of HT_.out (by kernel_rfl)) (by decide) (fun K hK => ?_)
                                  refine goes_ Try.func92 (by kernel_rfl) rfl #[.int .i64 (rd l0_1 x36_2)] (by rfl) rfl rfl (by (try simp only [List.map_toArray, List.map_cons, List.map_nil]); first | done | rfl | (simp only [List.length_drop, List.length_take]; rfl)) ?_
                                  with_reducible refine (slots_is.calls (rd l0_1 x36_2) true _ A28.out).mono ?_
                                  rintro e w' ⟨rfl, ⟨nd, rfl⟩⟩
                                  refine ⟨_, rfl, ?_⟩
                                  refine hK.out _ _ ⟨(blk_cell BK125.out 0).trans rfl, (blk_cell BK125.out 1).trans rfl, (blk_cell BK125.out 2).trans rfl, ((HB.out.cell (World.block_lt_of_cell? w _ hw133_0)).trans hw133_0)⟩ (fun hHeld => ?_)
                                  clear hK K
                                  refine norm_ (a' := ?_) ?_ ?_
                                  rotate_left
                                  · show Act.put _ (some 61) _ = _
                                    simp only [Act.put, List.setIfInBounds_toArray, List.set_cons_zero, List.set_cons_succ, i64_w, i32_w]
                                    rfl
                                  refine pure_ (i := 4) (N := some 62) (v := ?_) (a' := ?_) #[true, true, true, true, true, false, false, false, false, false, false, false, false, false, false, false] rfl rfl (any_of HT_.out (by kernel_rfl)) (fun _ _ _ h => h) (Or.inl ⟨by rfl, ?_⟩) ?_ ?_
                                  rotate_left
                                  · intro w'
                                    go_simp
                                    with_reducible rfl
                                  rotate_left
                                  · simp only [Act.put, List.setIfInBounds_toArray, List.set_cons_zero, List.set_cons_succ, i64_w, i32_w]
                                    rfl
                                  refine pure_ (i := 5) (N := some 63) (v := ?_) (a' := ?_) #[true, true, true, true, true, true, false, false, false, false, false, false, false, false, false, false] rfl rfl (any_of HT_.out (by kernel_rfl)) (fun _ _ _ h => h) (Or.inl ⟨by rfl, ?_⟩) ?_ ?_
                                  rotate_left
                                  · intro w'
                                    go_simp
                                    with_reducible rfl
                                  rotate_left
                                  · simp only [Act.put, List.setIfInBounds_toArray, List.set_cons_zero, List.set_cons_succ, i64_w, i32_w]
                                    rfl
                                  refine pure_ (i := 6) (N := some 64) (v := ?_) (a' := ?_) #[true, true, true, true, true, true, true, false, false, false, false, false, false, false, false, false] rfl rfl (any_of HT_.out (by kernel_rfl)) (fun _ _ _ h => h) (Or.inl ⟨by rfl, ?_⟩) ?_ ?_
                                  rotate_left
                                  · intro w'
                                    go_simp
                                    with_reducible rfl
                                  rotate_left
                                  · simp only [Act.put, List.setIfInBounds_toArray, List.set_cons_zero, List.set_cons_succ, i64_w, i32_w]
                                    rfl
                                  refine pure_ (i := 8) (N := some 66) (v := ?_) (a' := ?_) #[true, true, true, true, true, true, true, false, true, false, false, false, false, false, false, false] rfl rfl (any_of HT_.out (by kernel_rfl)) (fun _ _ _ h => h) (Or.inl ⟨by rfl, ?_⟩) ?_ ?_
                                  rotate_left
                                  · intro w'
                                    go_simp
                                    with_reducible rfl
                                  rotate_left
                                  · simp only [Act.put, List.setIfInBounds_toArray, List.set_cons_zero, List.set_cons_succ, i64_w, i32_w]
                                    rfl
                                  refine pure_ (i := 10) (N := some 68) (v := ?_) (a' := ?_) #[true, true, true, true, true, true, true, false, true, false, true, false, false, false, false, false] rfl rfl (any_of HT_.out (by kernel_rfl)) (fun _ _ _ h => h) (Or.inl ⟨by rfl, ?_⟩) ?_ ?_
                                  rotate_left
                                  · intro w'
                                    go_simp
                                    with_reducible rfl
                                  rotate_left
                                  · simp only [Act.put, List.setIfInBounds_toArray, List.set_cons_zero, List.set_cons_succ, i64_w, i32_w]
                                    rfl
                                  refine take_ (i := 7) (N := some 65) (v := ?_) (a' := ?_) #[true, true, true, true, true, true, true, true, true, false, true, false, false, false, false, false] rfl rfl (take_ofW HT_.out HW_.out (by kernel_rfl)) (fun _ _ _ h => h) (Or.inl ⟨by rfl, ?_⟩) hHeld ?_ ?_
                                  rotate_left
                                  · rintro w' ⟨s0, s1, s2, s3⟩
                                    go_simp
                                    with_reducible rfl
                                  rotate_left
                                  · simp only [Act.put, List.setIfInBounds_toArray, List.set_cons_zero, List.set_cons_succ, i64_w, i32_w]
                                    rfl
                                  refine take_ (i := 9) (N := some 67) (v := ?_) (a' := ?_) #[true, true, true, true, true, true, true, true, true, true, true, false, false, false, false, false] rfl rfl (take_ofW HT_.out HW_.out (by kernel_rfl)) (fun _ _ _ h => h) (Or.inl ⟨by rfl, ?_⟩) hHeld ?_ ?_
                                  rotate_left
                                  · rintro w' ⟨s0, s1, s2, s3⟩
                                    go_simp
                                    with_reducible rfl
                                  rotate_left
                                  · simp only [Act.put, List.setIfInBounds_toArray, List.set_cons_zero, List.set_cons_succ, i64_w, i32_w]
                                    rfl
                                  refine pure_ (i := 11) (N := some 69) (v := ?_) (a' := ?_) #[true, true, true, true, true, true, true, true, true, true, true, true, false, false, false, false] rfl rfl (any_of HT_.out (by kernel_rfl)) (fun _ _ _ h => h) (Or.inl ⟨by rfl, ?_⟩) ?_ ?_
                                  rotate_left
                                  · intro w'
                                    go_simp
                                    with_reducible rfl
                                  rotate_left
                                  · simp only [Act.put, List.setIfInBounds_toArray, List.set_cons_zero, List.set_cons_succ, i64_w, i32_w]
                                    rfl
                                  refine take_ (i := 12) (N := some 70) (v := ?_) (a' := ?_) #[true, true, true, true, true, true, true, true, true, true, true, true, true, false, false, false] rfl rfl (take_ofW HT_.out HW_.out (by kernel_rfl)) (fun _ _ _ h => h) (Or.inl ⟨by rfl, ?_⟩) hHeld ?_ ?_
                                  rotate_left
                                  · rintro w' ⟨s0, s1, s2, s3⟩
                                    go_simp
                                    with_reducible rfl
                                  rotate_left
                                  · simp only [Act.put, List.setIfInBounds_toArray, List.set_cons_zero, List.set_cons_succ, i64_w, i32_w]
                                    rfl
                                  refine one_ (i := 13) (N := some 71) #[true, true, true, true, true, true, true, true, true, true, true, true, true, true, false, false] rfl rfl (one_of HT_.out (by kernel_rfl)) (by decide) (fun K hK => ?_)
                                  refine goes_ Try.func93 (by kernel_rfl) rfl #[.agg #[.int .i64 a0_0, .slice (some ad129) l0_1.length c0_1, .slice (some ad133) l0_2.length c0_2], .slice A133_0 (rd_L3 l0_2 x36_2).length c133_0] (by rfl) rfl rfl (by (try simp only [List.map_toArray, List.map_cons, List.map_nil]); first | done | rfl | (simp only [List.length_drop, List.length_take]; rfl)) ?_
                                  with_reducible refine (slots_fits.calls kj18 a0_0 _ _ l0_1 _ _ l0_2 _ _ (rd_L3 l0_2 x36_2) false _ ?side1 ?side2 ?side3 ?side4 ?side5 ?side6 A32.out).mono ?_
                                  (case side1 => repeat (first | exact (Kd.C_below HR0_1.out (by repeat (first | (with_reducible first | exact HB.out | apply below_alloc | apply pw_below_drewN | apply below_drew1 | refine below_set ?_ GE125.out | refine below_set ?_ GE128.out) | exact HB.out))) | (with_reducible refine Kd.C_alloc ?_ _) | (with_reducible refine Kd.C_drewN ?_ _) | (with_reducible refine Kd.C_drew ?_)))
                                  (case side2 => exact HC0_1.out)
                                  (case side3 => repeat (first | exact (Kd.C_below HR0_2.out (by repeat (first | (with_reducible first | exact HB.out | apply below_alloc | apply pw_below_drewN | apply below_drew1 | refine below_set ?_ GE125.out | refine below_set ?_ GE128.out) | exact HB.out))) | (with_reducible refine Kd.C_alloc ?_ _) | (with_reducible refine Kd.C_drewN ?_ _) | (with_reducible refine Kd.C_drew ?_)))
                                  (case side4 => exact HC0_2.out)
                                  (case side5 => repeat (first | exact (Kd.C_below HR133_0.out (by repeat (first | (with_reducible first | exact HB.out | apply below_alloc | apply pw_below_drewN | apply below_drew1 | refine below_set ?_ GE125.out | refine below_set ?_ GE128.out) | exact HB.out))) | (with_reducible refine Kd.C_alloc ?_ _) | (with_reducible refine Kd.C_drewN ?_ _) | (with_reducible refine Kd.C_drew ?_)))
                                  (case side6 => exact HC133_0.out)
                                  rintro e w37 ⟨rfl, hb⟩
                                  refine ⟨_, rfl, ?_⟩
                                  have n0_ := Aside0.mk (blk_below (g := gb125) (o := .cells #[.int .i64 a0_0, .slice (some ad129) l0_1.length c0_1, .slice (some ad133) l0_2.length c0_2] 25 (0, 0)) (by (with_reducible repeat (first | refine blk_drewN ?_ _ | refine blk_drew ?_ | refine blk_alloc ?_ _)); exact BK125.out) hb)
                                  have n1_ := Aside0.mk (blk_below (g := gb128) (o := ob) (by (with_reducible repeat (first | refine blk_drewN ?_ _ | refine blk_drew ?_ | refine blk_alloc ?_ _)); exact BK128.out) hb)
                                  have n2_ := Aside0.mk (below_step (by repeat (first | (with_reducible first | exact HB.out | apply below_alloc | apply pw_below_drewN | apply below_drew1 | refine below_set ?_ GE125.out | refine below_set ?_ GE128.out) | exact HB.out)) hb)
                                  clear BK125
                                  clear BK128
                                  clear HB
                                  have BK125 := n0_
                                  have BK128 := n1_
                                  have HB := n2_
                                  clear n0_ n1_ n2_
                                  (try clear hb)
                                  (try clear hb2)
                                  (try clear hk)
                                  (try clear hi)
                                  refine hK.out _ _ ⟨(blk_cell BK125.out 0).trans rfl, (blk_cell BK125.out 1).trans rfl, (blk_cell BK125.out 2).trans rfl, ((HB.out.cell (World.block_lt_of_cell? w _ hw133_0)).trans hw133_0)⟩ (fun hHeld => ?_)
                                  clear hK K
                                  refine norm_ (a' := ?_) ?_ ?_
                                  rotate_left
                                  · show Act.put _ (some 71) _ = _
                                    simp only [Act.put, List.setIfInBounds_toArray, List.set_cons_zero, List.set_cons_succ, i64_w, i32_w]
                                    rfl
                                  refine pure_ (i := 14) (N := some 72) (v := ?_) (a' := ?_) #[true, true, true, true, true, true, true, true, true, true, true, true, true, true, true, false] rfl rfl (any_of HT_.out (by kernel_rfl)) (fun _ _ _ h => h) (Or.inl ⟨by rfl, ?_⟩) ?_ ?_
                                  rotate_left
                                  · intro w'
                                    go_simp
                                    with_reducible rfl
                                  rotate_left
                                  · simp only [Act.put, List.setIfInBounds_toArray, List.set_cons_zero, List.set_cons_succ, i64_w, i32_w]
                                    rfl
                                  refine pure_ (i := 15) (N := some 73) (v := ?_) (a' := ?_) #[true, true, true, true, true, true, true, true, true, true, true, true, true, true, true, true] rfl rfl (any_of HT_.out (by kernel_rfl)) (fun _ _ _ h => h) (Or.inl ⟨by rfl, ?_⟩) ?_ ?_
                                  rotate_left
                                  · intro w'
                                    go_simp
                                    with_reducible rfl
                                  rotate_left
                                  · simp only [Act.put, List.setIfInBounds_toArray, List.set_cons_zero, List.set_cons_succ, i64_w, i32_w]
                                    rfl
                                  refine done_ (done_of HT_.out (by kernel_rfl)) ?_
                                  try go_wp2
                                  go_ret2
                                  exact ⟨_, by first | rfl | (simp [errW_none, errW_some] <;> rfl) | (simp [*, errW_none, errW_some] <;> rfl), dirPost_no _ _, by repeat (first | (with_reducible first | exact HB.out | apply below_alloc | apply pw_below_drewN | apply below_drew1 | refine below_set ?_ GE125.out | refine below_set ?_ GE128.out) | exact HB.out)⟩
                              · rw [if_neg c31] at H
                                exact absurd H (by simp)
                            · rw [if_neg c30] at H
                              exact absurd H (by simp)
                          · replace c29 := Bool.eq_false_iff.mpr c29
                            subst c29
                            have H1 : (some false) = some r := by rw [if_neg (show ¬ (false = true) by decide)] at H; exact H
                            clear H
                            have H := H1
                            clear H1
                            obtain rfl := Option.some.inj H
                            obtain ⟨D_, HMO, HHAS, HAT⟩ := HDM.out.1
                            have hhas_ : Maps.has D_ (.int .i64 (rd l0_1 x36_2)) = false := by rw [HHAS.out]; exact c26b0.out
                            have HKW := Aside0.mk (HWF.out (rd l0_1 x36_2) (rd_mem l0_1 x36_2 HDM.out.2.1 HLT.out))
                            have HOWN_ := Aside0.mk (HMO.out wc gb128 (by (with_reducible repeat (first | refine blk_drewN ?_ _ | refine blk_drew ?_ | refine blk_alloc ?_ _)); exact BK128.out))
                            try go_wp2_with (first | (at_lookup; refine wpList_lookup_own_ok_int (H := Unit) _ rfl _ _ 98 rfl 2 3 .i64 (Maps.int_keyed Try.underlying2) Try.underlying98 Try.underlying3 (zero_int _) gb128 _ D_ rfl HOWN_.out _ _ rfl (keyOf_int_mk Try.underlying2 HKW.out) ?_; intro c_ hat_ hwc_; clear hat_ hwc_))
                            (try (rw [drewN_self wc]; generalize hq_ : World.drewN wc _ = wc; have n0_ : Aside0 (wc.heap[gb125]? = some (.cells #[.int .i64 a0_0, .slice (some ad129) l0_1.length c0_1, .slice A0_2 l0_2.length c0_2] 25 (0, 0))) := ⟨by rw [← hq_]; exact (by (with_reducible repeat (first | refine blk_drewN ?_ _ | refine blk_drew ?_ | refine blk_alloc ?_ _)); exact BK125.out)⟩; have n1_ : Aside0 (wc.heap[gb128]? = some (ob)) := ⟨by rw [← hq_]; exact (by (with_reducible repeat (first | refine blk_drewN ?_ _ | refine blk_drew ?_ | refine blk_alloc ?_ _)); exact BK128.out)⟩; have n2_ : Aside0 (Below w.heap.size w wc) := ⟨by rw [← hq_]; exact (by repeat (first | (with_reducible first | exact HB.out | apply below_alloc | apply pw_below_drewN | apply below_drew1 | refine below_set ?_ GE125.out | refine below_set ?_ GE128.out) | exact HB.out))⟩; clear BK125 BK128 HB hq_; have BK125 := n0_; have BK128 := n1_; have HB := n2_; clear n0_ n1_ n2_))
                            have n0_ := Aside0.mk (blk_drew BK125.out)
                            have n1_ := Aside0.mk (blk_drew BK128.out)
                            have n2_ := Aside0.mk (below_drew1 HB.out)
                            clear BK125
                            clear BK128
                            clear HB
                            have BK125 := n0_
                            have BK128 := n1_
                            have HB := n2_
                            clear n0_ n1_ n2_
                            refine start_ (n := 16) (S := fun w' => True) (ds := []) #[false, false, false, false, false, false, false, false, false, false, false, false, false, false, false, false] (by kernel_rfl) rfl rfl trivial (fun hHeld => ?_); refine with_tabW slots_directory.tab9 slots_directory.bits9 (fun HT_ HW_ => ?_)
                            generalize wc.drew = w38 at BK125 BK128 HB hHeld ⊢
                            refine pure_ (i := 0) (N := some 58) (v := ?_) (a' := ?_) #[true, false, false, false, false, false, false, false, false, false, false, false, false, false, false, false] rfl rfl (any_of HT_.out (by kernel_rfl)) (fun _ _ _ h => h) (Or.inl ⟨by rfl, ?_⟩) ?_ ?_
                            rotate_left
                            · intro w'
                              go_simp
                              with_reducible rfl
                            rotate_left
                            · simp only [Act.put, List.setIfInBounds_toArray, List.set_cons_zero, List.set_cons_succ, i64_w, i32_w]
                              rfl
                            refine pure_ (i := 1) (N := some 59) (v := ?_) (a' := ?_) #[true, true, false, false, false, false, false, false, false, false, false, false, false, false, false, false] rfl rfl (any_of HT_.out (by kernel_rfl)) (fun _ _ _ h => h) (Or.inl ⟨by rfl, ?_⟩) ?_ ?_
                            rotate_left
                            · intro w'
                              go_simp
                              with_reducible rfl
                            rotate_left
                            · simp only [Act.put, List.setIfInBounds_toArray, List.set_cons_zero, List.set_cons_succ, i64_w, i32_w]
                              rfl
                            refine pure_ (i := 2) (N := some 60) (v := ?_) (a' := ?_) #[true, true, true, false, false, false, false, false, false, false, false, false, false, false, false, false] rfl rfl (any_of HT_.out (by kernel_rfl)) (fun _ _ _ h => h) (Or.inl ⟨by rfl, ?_⟩) ?_ ?_
                            rotate_left
                            · intro w'
                              go_simp
                              with_reducible rfl
                            rotate_left
                            · simp only [Act.put, List.setIfInBounds_toArray, List.set_cons_zero, List.set_cons_succ, i64_w, i32_w]
                              rfl
                            refine one_ (i := 3) (N := some 61) #[true, true, true, true, false, false, false, false, false, false, false, false, false, false, false, false] rfl rfl (one_of HT_.out (by kernel_rfl)) (by decide) (fun K hK => ?_)
                            refine goes_ Try.func92 (by kernel_rfl) rfl #[.int .i64 (rd l0_1 x36_2)] (by rfl) rfl rfl (by (try simp only [List.map_toArray, List.map_cons, List.map_nil]); first | done | rfl | (simp only [List.length_drop, List.length_take]; rfl)) ?_
                            with_reducible refine (slots_is.calls (rd l0_1 x36_2) false _ A28.out).mono ?_
                            rintro e w' ⟨rfl, ⟨nd, rfl⟩⟩
                            refine ⟨_, rfl, ?_⟩
                            refine hK.out _ _ trivial (fun hHeld => ?_)
                            clear hK K
                            refine norm_ (a' := ?_) ?_ ?_
                            rotate_left
                            · show Act.put _ (some 61) _ = _
                              simp only [Act.put, List.setIfInBounds_toArray, List.set_cons_zero, List.set_cons_succ, i64_w, i32_w]
                              rfl
                            refine pure_ (i := 4) (N := some 62) (v := ?_) (a' := ?_) #[true, true, true, true, true, false, false, false, false, false, false, false, false, false, false, false] rfl rfl (any_of HT_.out (by kernel_rfl)) (fun _ _ _ h => h) (Or.inl ⟨by rfl, ?_⟩) ?_ ?_
                            rotate_left
                            · intro w'
                              go_simp
                              with_reducible rfl
                            rotate_left
                            · simp only [Act.put, List.setIfInBounds_toArray, List.set_cons_zero, List.set_cons_succ, i64_w, i32_w]
                              rfl
                            refine pure_ (i := 5) (N := some 63) (v := ?_) (a' := ?_) #[true, true, true, true, true, true, false, false, false, false, false, false, false, false, false, false] rfl rfl (any_of HT_.out (by kernel_rfl)) (fun _ _ _ h => h) (Or.inl ⟨by rfl, ?_⟩) ?_ ?_
                            rotate_left
                            · intro w'
                              go_simp
                              with_reducible rfl
                            rotate_left
                            · simp only [Act.put, List.setIfInBounds_toArray, List.set_cons_zero, List.set_cons_succ, i64_w, i32_w]
                              rfl
                            refine pure_ (i := 6) (N := some 64) (v := ?_) (a' := ?_) #[true, true, true, true, true, true, true, false, false, false, false, false, false, false, false, false] rfl rfl (any_of HT_.out (by kernel_rfl)) (fun _ _ _ h => h) (Or.inl ⟨by rfl, ?_⟩) ?_ ?_
                            rotate_left
                            · intro w'
                              go_simp
                              with_reducible rfl
                            rotate_left
                            · simp only [Act.put, List.setIfInBounds_toArray, List.set_cons_zero, List.set_cons_succ, i64_w, i32_w]
                              rfl
                            refine pure_ (i := 7) (N := some 65) (v := undef) (a' := ?_) #[true, true, true, true, true, true, true, true, false, false, false, false, false, false, false, false] rfl rfl (any_of HT_.out (by kernel_rfl)) (fun _ _ _ h => h) (Or.inr ⟨by rfl, rfl⟩) ?_ ?_
                            rotate_left
                            · simp only [Act.put, List.setIfInBounds_toArray, List.set_cons_zero, List.set_cons_succ, i64_w, i32_w]
                              rfl
                            refine pure_ (i := 8) (N := some 66) (v := undef) (a' := ?_) #[true, true, true, true, true, true, true, true, true, false, false, false, false, false, false, false] rfl rfl (any_of HT_.out (by kernel_rfl)) (fun _ _ _ h => h) (Or.inr ⟨by rfl, rfl⟩) ?_ ?_
                            rotate_left
                            · simp only [Act.put, List.setIfInBounds_toArray, List.set_cons_zero, List.set_cons_succ, i64_w, i32_w]
                              rfl
                            refine pure_ (i := 9) (N := some 67) (v := undef) (a' := ?_) #[true, true, true, true, true, true, true, true, true, true, false, false, false, false, false, false] rfl rfl (any_of HT_.out (by kernel_rfl)) (fun _ _ _ h => h) (Or.inr ⟨by rfl, rfl⟩) ?_ ?_
                            rotate_left
                            · simp only [Act.put, List.setIfInBounds_toArray, List.set_cons_zero, List.set_cons_succ, i64_w, i32_w]
                              rfl
                            refine pure_ (i := 10) (N := some 68) (v := undef) (a' := ?_) #[true, true, true, true, true, true, true, true, true, true, true, false, false, false, false, false] rfl rfl (any_of HT_.out (by kernel_rfl)) (fun _ _ _ h => h) (Or.inr ⟨by rfl, rfl⟩) ?_ ?_
                            rotate_left
                            · simp only [Act.put, List.setIfInBounds_toArray, List.set_cons_zero, List.set_cons_succ, i64_w, i32_w]
                              rfl
                            refine pure_ (i := 11) (N := some 69) (v := undef) (a' := ?_) #[true, true, true, true, true, true, true, true, true, true, true, true, false, false, false, false] rfl rfl (any_of HT_.out (by kernel_rfl)) (fun _ _ _ h => h) (Or.inr ⟨by rfl, rfl⟩) ?_ ?_
                            rotate_left
                            · simp only [Act.put, List.setIfInBounds_toArray, List.set_cons_zero, List.set_cons_succ, i64_w, i32_w]
                              rfl
                            refine pure_ (i := 12) (N := some 70) (v := undef) (a' := ?_) #[true, true, true, true, true, true, true, true, true, true, true, true, true, false, false, false] rfl rfl (any_of HT_.out (by kernel_rfl)) (fun _ _ _ h => h) (Or.inr ⟨by rfl, rfl⟩) ?_ ?_
                            rotate_left
                            · simp only [Act.put, List.setIfInBounds_toArray, List.set_cons_zero, List.set_cons_succ, i64_w, i32_w]
                              rfl
                            refine pure_ (i := 13) (N := some 71) (v := undef) (a' := ?_) #[true, true, true, true, true, true, true, true, true, true, true, true, true, true, false, false] rfl rfl (any_of HT_.out (by kernel_rfl)) (fun _ _ _ h => h) (Or.inr ⟨by rfl, rfl⟩) ?_ ?_
                            rotate_left
                            · simp only [Act.put, List.setIfInBounds_toArray, List.set_cons_zero, List.set_cons_succ, i64_w, i32_w]
                              rfl
                            refine pure_ (i := 14) (N := some 72) (v := undef) (a' := ?_) #[true, true, true, true, true, true, true, true, true, true, true, true, true, true, true, false] rfl rfl (any_of HT_.out (by kernel_rfl)) (fun _ _ _ h => h) (Or.inr ⟨by rfl, rfl⟩) ?_ ?_
                            rotate_left
                            · simp only [Act.put, List.setIfInBounds_toArray, List.set_cons_zero, List.set_cons_succ, i64_w, i32_w]
                              rfl
                            refine pure_ (i := 15) (N := some 73) (v := ?_) (a' := ?_) #[true, true, true, true, true, true, true, true, true, true, true, true, true, true, true, true] rfl rfl (any_of HT_.out (by kernel_rfl)) (fun _ _ _ h => h) (Or.inl ⟨by rfl, ?_⟩) ?_ ?_
                            rotate_left
                            · intro w'
                              go_simp
                              with_reducible rfl
                            rotate_left
                            · simp only [Act.put, List.setIfInBounds_toArray, List.set_cons_zero, List.set_cons_succ, i64_w, i32_w]
                              rfl
                            refine done_ (done_of HT_.out (by kernel_rfl)) ?_
                            try go_wp2
                            go_ret2
                            exact ⟨_, by first | rfl | (simp [errW_none, errW_some] <;> rfl) | (simp [*, errW_none, errW_some] <;> rfl), dirPost_no _ _, by repeat (first | (with_reducible first | exact HB.out | apply below_alloc | apply pw_below_drewN | apply below_drew1 | refine below_set ?_ GE125.out | refine below_set ?_ GE128.out) | exact HB.out)⟩
                · rw [if_neg c18] at H
                  exact absurd H (by simp)
              · rw [if_neg c17] at H
                exact absurd H (by simp)
            · rw [if_neg c16] at H
              have c16b0 : decide (x36_2 < (l0_1.length : Int)) = false := decide_eq_false c16
              clear c16
              obtain rfl := Option.some.inj H
              go_wp2
              go_ret2
              exact ⟨_, by first | rfl | (simp [errW_none, errW_some] <;> rfl) | (simp [*, errW_none, errW_some] <;> rfl), dirPost_yes (by (with_reducible repeat (first | refine blk_drewN ?_ _ | refine blk_drew ?_ | refine blk_alloc ?_ _)); exact BK128.out) HDM.out.1 HDM.out.2.1 (of_decide_eq_false (by first | (with_reducible assumption) | assumption)) HDM.out.2.2, by repeat (first | (with_reducible first | exact HB.out | apply below_alloc | apply pw_below_drewN | apply below_drew1 | refine below_set ?_ GE125.out | refine below_set ?_ GE128.out) | exact HB.out)⟩

end Go.Proofs.Ytkjibgfgbfacdaa.P
end
/-! part: PSlots -/
section
namespace Go.Proofs.Ytkjibgfgbfacdaa.P
open Go.RowKit Go.Proofs.YtkjibgfgbfacdaaW.PrintWords Go.Proofs.YtkjibgfgbfacdaaW.PrintLast Go.Proofs.YtkjibgfgbfacdaaW.PrintMore

theorem vecCheck65 (v : List Int) (k : Nat) (hk : 65 ≤ k) : vec_Check.f k v = some (if vecOk v = true then 0 else 1) := by
  by_cases h : v.length ≤ 64
  · exact vecCheck v k (by omega) (by omega)
  · unfold vec_Check.f
    rw [if_neg (by omega), if_pos (by omega)]
    have : vecOk v = false := by unfold vecOk; rw [decide_eq_false (p := v.length ≤ 64) h]; simp
    simp [this]
theorem fitsP (dim : Int) (ids : List Int) (vecs : List (List Int)) (v : List Int) (k : Nat) (hk : 65 ≤ k) : slots_fits.f k dim ids vecs v = some (vecOk v && decide ((v.length : Int) = dim)) := by
  unfold slots_fits.f
  rw [vecCheck65 v k hk]
  simp only [Option.bind_some]
  cases vecOk v
  · rfl
  · simp only [if_true, Bool.true_and]
    rfl
theorem isP (x : Int) : slots_is.f x = some (isIdB x) := by
  unfold slots_is.f isIdB
  by_cases h : x ≥ 0
  · rw [if_pos h, decide_eq_true (p := 0 ≤ x) h, Bool.true_and]
  · rw [if_neg h, decide_eq_false (p := 0 ≤ x) h, Bool.false_and]
theorem withinP (a b : Int) : slots_within.f a b = some (decide (1 ≤ a) && decide (a ≤ b)) := by
  unfold slots_within.f
  by_cases h : a ≥ 1
  · rw [if_pos h, decide_eq_true (p := 1 ≤ a) h, Bool.true_and]
  · rw [if_neg h, decide_eq_false (p := 1 ≤ a) h, Bool.false_and]

/-- Slot by slot: what comes ahead is pre. -/
def dirRec (dim : Int) : List Int → List (Int × List Int) → Bool
  | _, [] => true
  | pre, (id, v) :: t => (decide (id = -1) && v.isEmpty || (!(decide (id ≠ -1) && pre.contains id) && (isIdB id && (vecOk v && decide ((v.length : Int) = dim))))) && dirRec dim (pre ++ [id]) t
def live (ids : List Int) : List Int := ids.filter (fun x => decide (x ≠ -1))
theorem mem_live {ids : List Int} {x : Int} : x ∈ live ids ↔ x ∈ ids ∧ x ≠ -1 := by simp [live]
theorem live_cons_no (t : List Int) : live (-1 :: t) = live t := by simp [live]
theorem live_cons_yes {id : Int} (h : id ≠ -1) (t : List Int) : live (id :: t) = id :: live t := by simp [live, h]
theorem slotOk_no (dim : Int) (v : List Int) : slotOk dim (-1) v = v.isEmpty := by
  have hI : isIdB (-1) = false := by decide
  simp [slotOk, hI]
theorem slotOk_yes (dim : Int) {id : Int} (h : id ≠ -1) (v : List Int) : slotOk dim id v = (isIdB id && (vecOk v && decide ((v.length : Int) = dim))) := by
  simp [slotOk, h, Bool.and_assoc]
theorem dirRec_no (dim : Int) (pre : List Int) (v : List Int) (t : List (Int × List Int)) : dirRec dim pre ((-1, v) :: t) = (slotOk dim (-1) v && dirRec dim (pre ++ [-1]) t) := by
  have hI : isIdB (-1) = false := by decide
  rw [slotOk_no]
  simp [dirRec, hI]
theorem dirRec_yes (dim : Int) (pre : List Int) {id : Int} (h : id ≠ -1) (v : List Int) (t : List (Int × List Int)) : dirRec dim pre ((id, v) :: t) = (!(pre.contains id) && slotOk dim id v && dirRec dim (pre ++ [id]) t) := by
  rw [slotOk_yes dim h]
  simp [dirRec, h]
theorem dirRec_iff (dim : Int) (l : List (Int × List Int)) : ∀ pre, dirRec dim pre l = true ↔ ((∀ p ∈ l, slotOk dim p.1 p.2 = true) ∧ (live (l.map Prod.fst)).Nodup ∧ ∀ x ∈ live (l.map Prod.fst), x ∉ pre) := by
  induction l with
  | nil => intro pre; simp [dirRec, live]
  | cons p t ih =>
    obtain ⟨id, v⟩ := p
    intro pre
    by_cases h1 : id = -1
    · subst h1
      rw [dirRec_no, Bool.and_eq_true, ih, List.map_cons, live_cons_no]
      constructor
      · rintro ⟨h, h2, h3, h4⟩
        refine ⟨?_, h3, fun x hx => fun hp => h4 x hx (List.mem_append_left _ hp)⟩
        intro p hp
        rcases List.mem_cons.1 hp with rfl | hp
        · exact h
        · exact h2 p hp
      · rintro ⟨h2, h3, h4⟩
        refine ⟨h2 _ List.mem_cons_self, fun p hp => h2 p (List.mem_cons_of_mem _ hp), h3, fun x hx hp => ?_⟩
        rcases List.mem_append.1 hp with hp | hp
        · exact h4 x hx hp
        · exact (mem_live.1 hx).2 (List.mem_singleton.1 hp)
    · rw [dirRec_yes dim pre h1, Bool.and_eq_true, Bool.and_eq_true, ih, List.map_cons, live_cons_yes h1, List.nodup_cons]
      constructor
      · rintro ⟨⟨h, h2⟩, h3, h4, h5⟩
        have hpre : id ∉ pre := by simpa using h
        refine ⟨?_, ⟨fun hx => h5 id hx (by simp), h4⟩, ?_⟩
        · intro p hp
          rcases List.mem_cons.1 hp with rfl | hp
          · exact h2
          · exact h3 p hp
        · intro x hx hp
          rcases List.mem_cons.1 hx with rfl | hx
          · exact hpre hp
          · exact h5 x hx (List.mem_append_left _ hp)
      · rintro ⟨h2, ⟨h3, h4⟩, h5⟩
        refine ⟨⟨by simpa using h5 id List.mem_cons_self, h2 _ List.mem_cons_self⟩, fun p hp => h2 p (List.mem_cons_of_mem _ hp), h4, fun x hx hp => ?_⟩
        rcases List.mem_append.1 hp with hp | hp
        · exact h5 x (List.mem_cons_of_mem _ hx) hp
        · rw [List.mem_singleton.1 hp] at hx
          exact h3 hx

theorem zip_drop (ids : List Int) (vecs : List (List Int)) (i : Int) (h0 : 0 ≤ i) (h1 : i < (ids.length : Int)) (h2 : i < (vecs.length : Int)) :
    (ids.zip vecs).drop i.toNat = (rd ids i, vecs.getD i.toNat []) :: (ids.zip vecs).drop (i + 1).toNat := by
  have h3 : i.toNat < (ids.zip vecs).length := by rw [List.length_zip]; omega
  rw [List.drop_eq_getElem_cons h3, show (i + 1).toNat = i.toNat + 1 by omega, List.getElem_zip]
  have e1 : rd ids i = ids[i.toNat]'(by omega) := by simp [rd, List.getD_eq_getElem?_getD, show i.toNat < ids.length by omega]
  have e2 : vecs.getD i.toNat [] = vecs[i.toNat]'(by omega) := by simp [List.getD_eq_getElem?_getD, show i.toNat < vecs.length by omega]
  rw [e1, e2]
theorem take_succ_rd (ids : List Int) (i : Int) (h0 : 0 ≤ i) (h1 : i < (ids.length : Int)) : ids.take (i + 1).toNat = ids.take i.toNat ++ [rd ids i] := by
  have h : i.toNat < ids.length := by omega
  rw [show (i + 1).toNat = i.toNat + 1 by omega, List.take_succ_eq_append_getElem h]
  simp [rd, List.getD_eq_getElem?_getD, h]
theorem dirLoop (dim : Int) (ids : List Int) (vecs : List (List Int)) (hl : vecs.length = ids.length) (hm : ids.length ≤ 9223372036854775807) (d : Nat) : ∀ (k : Nat) (i : Int), 0 ≤ i → i ≤ (ids.length : Int) → (ids.length : Int) - i = d → 2 * d + 66 ≤ k →
    slots_directory.l0 k ids (ids.length : Int) i dim ids vecs = some (dirRec dim (ids.take i.toNat) ((ids.zip vecs).drop i.toNat)) := by
  induction d with
  | zero =>
    intro k i h0 h1 hd hk
    obtain ⟨k, rfl⟩ : ∃ m, k = m + 1 := ⟨k - 1, by omega⟩
    simp only [slots_directory.l0]
    rw [if_neg (by omega), List.drop_eq_nil_of_le (by rw [List.length_zip]; omega)]
    rfl
  | succ d ih =>
    intro k i h0 h1 hd hk
    obtain ⟨k, rfl⟩ : ∃ m, k = m + 2 := ⟨k - 2, by omega⟩
    have hlt : i < (ids.length : Int) := by omega
    have hih := ih k (i + 1) (by omega) (by omega) (by omega) (by omega)
    rw [take_succ_rd ids i h0 hlt] at hih
    have e3 : rd_L3 vecs i = vecs.getD i.toNat [] := rfl
    simp only [slots_directory.l0]
    rw [if_pos hlt, if_pos h0, if_pos hlt, zip_drop ids vecs i h0 hlt (by omega)]
    by_cases hm1 : rd ids i = -1
    · rw [if_pos hm1, if_pos (by omega)]
      simp only [slots_directory.j2]
      rw [hm1] at hih ⊢
      rw [dirRec_no, slotOk_no, e3]
      cases hv : vecs.getD i.toNat [] with
      | nil =>
        rw [if_pos (by simp), w64 (by omega) (by omega), hih]
        simp
      | cons a t =>
        have hag : dirAg ids (-1) i = false := by simp [dirAg]
        have hI : isIdB (-1) = false := by decide
        rw [if_neg (by simp; omega), isP, hag, hI]
        simp
    · rw [if_neg hm1]
      simp only [slots_directory.j2]
      rw [dirRec_yes dim _ hm1, slotOk_yes dim hm1, e3]
      have hag : dirAg ids (rd ids i) i = (ids.take i.toNat).contains (rd ids i) := by simp [dirAg, hm1]
      rw [if_neg (by simp), hag]
      simp only [Option.bind_some]
      cases hc : (ids.take i.toNat).contains (rd ids i) with
      | true => simp
      | false =>
        rw [if_neg (by simp), isP]
        simp only [Option.bind_some]
        cases hI : isIdB (rd ids i) with
        | false => simp
        | true =>
          rw [if_pos rfl, if_pos h0, if_pos (by omega), fitsP dim ids vecs _ k (by omega)]
          simp only [Option.bind_some]
          cases hF : (vecOk (vecs.getD i.toNat []) && decide (((vecs.getD i.toNat []).length : Int) = dim)) with
          | false => simp
          | true =>
            rw [if_pos rfl, w64 (by omega) (by omega), hih]
            simp
theorem slotsOk_iff (dim : Int) (ids : List Int) (vecs : List (List Int)) : slotsOk dim ids vecs = true ↔ (1 ≤ dim ∧ dim ≤ 64 ∧ 1 ≤ ids.length ∧ ids.length ≤ 256 ∧ vecs.length = ids.length ∧ (∀ p ∈ ids.zip vecs, slotOk dim p.1 p.2 = true) ∧ (live ids).Nodup) := by
  simp only [slotsOk, Bool.and_eq_true, decide_eq_true_eq, List.all_eq_true, live]
  constructor
  · rintro ⟨⟨⟨⟨⟨⟨a, b⟩, c⟩, d⟩, e⟩, f⟩, g⟩
    exact ⟨a, b, c, d, e, f, g⟩
  · rintro ⟨a, b, c, d, e, f, g⟩
    exact ⟨⟨⟨⟨⟨⟨a, b⟩, c⟩, d⟩, e⟩, f⟩, g⟩
/-- What directory tells: whether slots may be. -/
theorem dirP (dim : Int) (ids : List Int) (vecs : List (List Int)) (k : Nat) (hk : 2 * ids.length + 67 ≤ k) : slots_directory.f k dim ids vecs = some (slotsOk dim ids vecs) := by
  unfold slots_directory.f
  rw [withinP, withinP]
  simp only [Option.bind_some]
  obtain ⟨k, rfl⟩ : ∃ m, k = m + 1 := ⟨k - 1, by omega⟩
  by_cases h1 : 1 ≤ dim ∧ dim ≤ 64
  · rw [if_pos (by simp [h1])]
    by_cases h2 : 1 ≤ ids.length ∧ ids.length ≤ 256
    · rw [if_pos (by simp; omega)]
      simp only [slots_directory.j0]
      by_cases h3 : vecs.length = ids.length
      · rw [if_neg (by simp [h3]), dirLoop dim ids vecs h3 (by omega) ids.length k 0 (by omega) (by omega) (by omega) (by omega)]
        congr 1
        rw [Bool.eq_iff_iff, dirRec_iff, slotsOk_iff]
        have em : (ids.zip vecs).map Prod.fst = ids := by rw [List.map_fst_zip (by omega)]
        simp only [Int.toNat_zero, List.drop_zero, List.take_zero, em]
        constructor
        · rintro ⟨a, b, _⟩
          exact ⟨h1.1, h1.2, h2.1, h2.2, h3, a, b⟩
        · rintro ⟨_, _, _, _, _, a, b⟩
          exact ⟨a, b, fun x _ => by simp⟩
      · have hs : slotsOk dim ids vecs = false := by rw [Bool.eq_false_iff]; intro h; exact h3 ((slotsOk_iff dim ids vecs).1 h).2.2.2.2.1
        rw [if_pos (by simp; omega), hs]
    · have hs : slotsOk dim ids vecs = false := by rw [Bool.eq_false_iff]; intro h; have := (slotsOk_iff dim ids vecs).1 h; exact h2 ⟨this.2.2.1, this.2.2.2.1⟩
      rw [if_neg (by simp; omega), hs]
      simp [slots_directory.j0]
  · have hs : slotsOk dim ids vecs = false := by rw [Bool.eq_false_iff]; intro h; have := (slotsOk_iff dim ids vecs).1 h; exact h1 ⟨this.1, this.2.1⟩
    rw [if_neg (by simp; omega), hs]
    simp [slots_directory.j0]
end Go.Proofs.Ytkjibgfgbfacdaa.P
end
/-! part: HslotsCheck -/
section
namespace Go.Proofs.Ytkjibgfgbfacdaa.P
open Go.RowKit Go.Maps Go.Proofs.YtkjibgfgbfacdaaW.PrintWords Go.Proofs.YtkjibgfgbfacdaaW.PrintLast Go.Proofs.YtkjibgfgbfacdaaW.PrintMore
set_option linter.unusedVariables false
set_option linter.unusedSimpArgs false
theorem all_wf {l : List Int} (h : l.all i64B = true) : ∀ x ∈ l, (Lit.int .i64 x).wf = true := by
  intro x hx
  have := List.all_eq_true.1 h x hx
  simp only [i64B, Bool.and_eq_true, decide_eq_true_eq] at this
  exact WalkArith.wf_i64 (by omega)
theorem i64B_wf {x : Int} (h : i64B x = true) : (Lit.int .i64 x).wf = true := all_wf (l := [x]) (by simpa using h) x (by simp)
set_option maxHeartbeats 4000000 in
set_option maxRecDepth 100000 in
theorem h_slots_Check.calls (a0_0 : Int) (A0_1 : Option Addr) (c0_1 : Nat) (l0_1 : List Int) (A0_2 : Option Addr) (c0_2 : Nat) (l0_2 : List (List Int)) (r : Int) (w : World) (hr0_1 : Kd.C (Kd.int .i64) w A0_1 l0_1.length l0_1) (hc0_1 : l0_1.length ≤ c0_1) (hr0_2 : Kd.C (Kd.slice 74 (Kd.int .i16)) w A0_2 l0_2.length l0_2) (hc0_2 : l0_2.length ≤ c0_2) (h : h_slots_Check.f a0_0 l0_1 l0_2 = some r) :
    Calls Try.prog 65 #[.agg #[.int .i64 a0_0, .slice A0_1 l0_1.length c0_1, .slice A0_2 l0_2.length c0_2]] w fun e w' => e = .returned (.int .i64 r) ∧ Below w.heap.size w w' := by
  unfold h_slots_Check.f at h
  by_cases hw : l0_1.all i64B = true
  · rw [if_pos hw] at h
    obtain rfl := Option.some.inj h
    clear h
    have hu25 := Try.underlying25
    have HWF := Aside0.mk (all_wf hw)
    have HD := Aside0.mk (dirP a0_0 l0_1 l0_2 (2 * l0_1.length + 67) (Nat.le_refl _))
    have HR0_1 := Aside0.mk hr0_1
    have HR0_2 := Aside0.mk hr0_2
    have HC0_1 := Aside0.mk hc0_1
    have HC0_2 := Aside0.mk hc0_2
    clear hr0_1 hr0_2 hc0_1 hc0_2 hw
    generalize slotsOk a0_0 l0_1 l0_2 = ok at *
    cases ok with
    | true =>
      go_enter Try.func65, Try.ntmps65
      go_wp2_with (go_at_call 91; refine (slots_directory.calls _ a0_0 _ _ l0_1 _ _ l0_2 true _ HWF.out ?s1 HC0_1.out ?s2 HC0_2.out HD.out).mono ?_; (case s1 => exact Kd.C_alloc HR0_1.out _); (case s2 => exact Kd.C_alloc HR0_2.out _); rintro e w' ⟨v, rfl, hp, hb⟩; have HB := Aside0.mk hb; clear hb hp)
      go_ret
      exact ⟨rfl, below_then (below_alloc (Below.refl _ _) _) (below_alloc (Below.refl _ _) _).size HB.out⟩
    | false =>
      go_enter Try.func65, Try.ntmps65
      go_wp2_with (go_at_call 91; refine (slots_directory.calls _ a0_0 _ _ l0_1 _ _ l0_2 false _ HWF.out ?s1 HC0_1.out ?s2 HC0_2.out HD.out).mono ?_; (case s1 => exact Kd.C_alloc HR0_1.out _); (case s2 => exact Kd.C_alloc HR0_2.out _); rintro e w' ⟨v, rfl, hp, hb⟩; have HB := Aside0.mk hb; clear hb hp)
      go_ret
      exact ⟨rfl, below_then (below_alloc (Below.refl _ _) _) (below_alloc (Below.refl _ _) _).size HB.out⟩
  · rw [if_neg hw] at h
    cases h
end Go.Proofs.Ytkjibgfgbfacdaa.P
end
/-! part: F31 -/
section
namespace Go.Proofs.Ytkjibgfgbfacdaa.P
open Go.RowKit Go.Proofs.YtkjibgfgbfacdaaW.PrintWords Go.Proofs.YtkjibgfgbfacdaaW.PrintLast Go.Proofs.YtkjibgfgbfacdaaW.PrintMore
attribute [local go_sem] max2_int min2_int max_two min_two max_three min_three max_four min_four   -- for this text's walks alone
set_option linter.unusedVariables false
set_option linter.unusedSimpArgs false

/-! ### train_Step: function 31 -/
mutual
def train_Step.j0 : Nat → Int → Int → Bool → Int → Int → List (List Int) → Int → List Int → List (List Int) → Option (Int × Int × (List (List Int)) × Bool × Int)
  | 0, _, _, _, _, _, _, _, _, _ => none
  | k + 1, x2, x3, x28, x300000, x300001, x300002, x301000, x301001, x301002 => if x28 = true then (some (0, 0, ([] : List (List Int)), false, 1)) else ((lots_Lots.f k x300000 (mn x2 (mx (wrap64 (x3 - x300001)) 0)) (x301001.length : Int)).bind fun bt304 => (if bt304.2.2 = 0 then (train_Step.l0 k x3 bt304.1 x300002 (x300002.length : Int) 0 x301000 x301001 x301002 bt304.2.1 (wrap64 (x300001 + (bt304.1.length : Int))) ([] : List (List Int))) else (some (0, 0, ([] : List (List Int)), false, bt304.2.2))))
def train_Step.l0 : Nat → Int → List Int → List (List Int) → Int → Int → Int → List Int → List (List Int) → Int → Int → List (List Int) → Option (Int × Int × (List (List Int)) × Bool × Int)
  | 0, _, _, _, _, _, _, _, _, _, _, _ => none
  | k + 1, x3, x11, x59, x60, x61, x301000, x301001, x301002, x310000, x310001, x310002 => if x61 < x60 then (if 0 ≤ x61 then (if x61 < (x59.length : Int) then ((api_Vec_int16_98.f (rd_L3 x59 x61)).bind fun t311 => (if x310002.length < 5864062014805 then (train_Step.l0 k x3 x11 x59 x60 (wrap64 (x61 + 1)) x301000 x301001 x301002 x310000 x310001 (x310002 ++ [t311])) else (none))) else (none)) else (none)) else (train_Step.l1 k x3 x11 (x11.length : Int) 0 x301000 x301001 x301002 x310000 x310001 x310002)
def train_Step.l1 : Nat → Int → List Int → Int → Int → Int → List Int → List (List Int) → Int → Int → List (List Int) → Option (Int × Int × (List (List Int)) × Bool × Int)
  | 0, _, _, _, _, _, _, _, _, _, _ => none
  | k + 1, x3, x73, x74, x75, x301000, x301001, x301002, x310000, x310001, x310002 => if x75 < x74 then (if 0 ≤ x75 then (if x75 < (x73.length : Int) then (if 0 ≤ (rd x73 x75) then (if (rd x73 x75) < (x301001.length : Int) then (if (rd x301001 (rd x73 x75)) = (-1) then (train_Step.l1 k x3 x73 x74 (wrap64 (x75 + 1)) x301000 x301001 x301002 x310000 x310001 x310002) else (if (rd x73 x75) < (x301002.length : Int) then ((api_Vec_int16_98.f (rd_L3 x301002 (rd x73 x75))).bind fun t320 => (if x310002.length < 5864062014805 then (train_Step.l1 k x3 x73 x74 (wrap64 (x75 + 1)) x301000 x301001 x301002 x310000 x310001 (x310002 ++ [t320])) else (none))) else (none))) else (none)) else (none)) else (none)) else (none)) else (some (x310000, x310001, x310002, decide (x310001 ≥ x3), 0))
end
def train_Step.f (k : Nat) (a0_0 : Int) (a0_1 : Int) (l0_2 : List (List Int)) (a1_0 : Int) (l1_1 : List Int) (l1_2 : List (List Int)) (a2 : Int) (a3 : Int) : Option (Int × Int × (List (List Int)) × Bool × Int) := (train_check.f a0_0 a0_1 l0_2 a2 a3).bind fun t302 => (if t302 = 0 then ((h_slots_Check.f a1_0 l1_1 l1_2).bind fun t303 => (train_Step.j0 k a2 a3 (t303 != 0) a0_0 a0_1 l0_2 a1_0 l1_1 l1_2)) else (train_Step.j0 k a2 a3 true a0_0 a0_1 l0_2 a1_0 l1_1 l1_2))
theorem train_Step.mono_l : ∀ k, (∀ y0 y1 y2 y3 y4 y5 y6 y7 y8, LeO (train_Step.j0 k y0 y1 y2 y3 y4 y5 y6 y7 y8) (train_Step.j0 (k + 1) y0 y1 y2 y3 y4 y5 y6 y7 y8)) ∧ (∀ y0 y1 y2 y3 y4 y5 y6 y7 y8 y9 y10, LeO (train_Step.l0 k y0 y1 y2 y3 y4 y5 y6 y7 y8 y9 y10) (train_Step.l0 (k + 1) y0 y1 y2 y3 y4 y5 y6 y7 y8 y9 y10)) ∧ (∀ y0 y1 y2 y3 y4 y5 y6 y7 y8 y9, LeO (train_Step.l1 k y0 y1 y2 y3 y4 y5 y6 y7 y8 y9) (train_Step.l1 (k + 1) y0 y1 y2 y3 y4 y5 y6 y7 y8 y9))
  | 0 => ⟨fun _ _ _ _ _ _ _ _ _ r h => by simp [train_Step.j0] at h, fun _ _ _ _ _ _ _ _ _ _ _ r h => by simp [train_Step.l0] at h, fun _ _ _ _ _ _ _ _ _ _ r h => by simp [train_Step.l1] at h⟩
  | k + 1 => by
    obtain ⟨ih0, ih1, ih2⟩ := train_Step.mono_l k
    refine ⟨?_, ?_, ?_⟩
    · intro y0 y1 y2 y3 y4 y5 y6 y7 y8
      unfold train_Step.j0
      repeat' first
      | (with_reducible exact ih0 _ _ _ _ _ _ _ _ _)
      | (with_reducible exact ih1 _ _ _ _ _ _ _ _ _ _ _)
      | (with_reducible exact ih2 _ _ _ _ _ _ _ _ _ _)
      | (with_reducible exact lots_Lots.mono _ _ _ _)
      | (with_reducible exact LeO.refl _)
      | (with_reducible exact LeO.none _)
      | (with_reducible refine LeO.ite ?_ ?_)
      | (with_reducible refine LeO.bind ?_ (fun _ => ?_))
      | exact ih0 _ _ _ _ _ _ _ _ _
      | exact ih1 _ _ _ _ _ _ _ _ _ _ _
      | exact ih2 _ _ _ _ _ _ _ _ _ _
      | exact lots_Lots.mono _ _ _ _
      | exact LeO.none _
      | refine LeO.ite ?_ ?_
      | refine LeO.bind ?_ (fun _ => ?_)
    · intro y0 y1 y2 y3 y4 y5 y6 y7 y8 y9 y10
      unfold train_Step.l0
      repeat' first
      | (with_reducible exact ih0 _ _ _ _ _ _ _ _ _)
      | (with_reducible exact ih1 _ _ _ _ _ _ _ _ _ _ _)
      | (with_reducible exact ih2 _ _ _ _ _ _ _ _ _ _)
      | (with_reducible exact lots_Lots.mono _ _ _ _)
      | (with_reducible exact LeO.refl _)
      | (with_reducible exact LeO.none _)
      | (with_reducible refine LeO.ite ?_ ?_)
      | (with_reducible refine LeO.bind ?_ (fun _ => ?_))
      | exact ih0 _ _ _ _ _ _ _ _ _
      | exact ih1 _ _ _ _ _ _ _ _ _ _ _
      | exact ih2 _ _ _ _ _ _ _ _ _ _
      | exact lots_Lots.mono _ _ _ _
      | exact LeO.none _
      | refine LeO.ite ?_ ?_
      | refine LeO.bind ?_ (fun _ => ?_)
    · intro y0 y1 y2 y3 y4 y5 y6 y7 y8 y9
      unfold train_Step.l1
      repeat' first
      | (with_reducible exact ih0 _ _ _ _ _ _ _ _ _)
      | (with_reducible exact ih1 _ _ _ _ _ _ _ _ _ _ _)
      | (with_reducible exact ih2 _ _ _ _ _ _ _ _ _ _)
      | (with_reducible exact lots_Lots.mono _ _ _ _)
      | (with_reducible exact LeO.refl _)
      | (with_reducible exact LeO.none _)
      | (with_reducible refine LeO.ite ?_ ?_)
      | (with_reducible refine LeO.bind ?_ (fun _ => ?_))
      | exact ih0 _ _ _ _ _ _ _ _ _
      | exact ih1 _ _ _ _ _ _ _ _ _ _ _
      | exact ih2 _ _ _ _ _ _ _ _ _ _
      | exact lots_Lots.mono _ _ _ _
      | exact LeO.none _
      | refine LeO.ite ?_ ?_
      | refine LeO.bind ?_ (fun _ => ?_)
theorem train_Step.mono : ∀ a0 a1 a2 a3 a4 a5 a6 a7 k, LeO (train_Step.f k a0 a1 a2 a3 a4 a5 a6 a7) (train_Step.f (k + 1) a0 a1 a2 a3 a4 a5 a6 a7) := by
  intro a0 a1 a2 a3 a4 a5 a6 a7 k
  obtain ⟨ih0, ih1, ih2⟩ := train_Step.mono_l k
  unfold train_Step.f
  repeat' first
      | (with_reducible exact ih0 _ _ _ _ _ _ _ _ _)
      | (with_reducible exact ih1 _ _ _ _ _ _ _ _ _ _ _)
      | (with_reducible exact ih2 _ _ _ _ _ _ _ _ _ _)
      | (with_reducible exact lots_Lots.mono _ _ _ _)
      | (with_reducible exact LeO.refl _)
      | (with_reducible exact LeO.none _)
      | (with_reducible refine LeO.ite ?_ ?_)
      | (with_reducible refine LeO.bind ?_ (fun _ => ?_))
      | exact ih0 _ _ _ _ _ _ _ _ _
      | exact ih1 _ _ _ _ _ _ _ _ _ _ _
      | exact ih2 _ _ _ _ _ _ _ _ _ _
      | exact lots_Lots.mono _ _ _ _
      | exact LeO.none _
      | refine LeO.ite ?_ ?_
      | refine LeO.bind ?_ (fun _ => ?_)
def train_Step.T10 : Bool × List (List Nat × List Nat) := (true, [([], []), ([0], [0]), ([], []), ([2], [2]), ([3], [3]), ([1, 4, 3], [1, 4]), ([0, 1, 2, 3, 4, 5], []), ([6, 5, 5, 0, 1, 2, 3, 4, 5], [5, 6])])
def train_Step.B10 : List Nat := [0, 1, 0, 4, 12, 31, 63, 127]
theorem train_Step.tab10 : rtab .any (opsOf Try.f31 10) = train_Step.T10 := by kernel_rfl
theorem train_Step.bits10 : waitsOk train_Step.T10.2 train_Step.B10 = true := by kernel_rfl
def train_Step.T16 : Bool × List (List Nat × List Nat) := (true, [([], []), ([0], [0]), ([], []), ([2], [2]), ([], []), ([3, 4], [3, 4]), ([5], [5]), ([6], [6]), ([7], [7]), ([1, 8, 7], [1, 8]), ([0, 1, 2, 3, 4, 5, 6, 7, 8, 9], []), ([10, 9, 9, 0, 1, 2, 3, 4, 5, 6, 7, 8, 9], [9, 10])])
def train_Step.B16 : List Nat := [0, 1, 0, 4, 0, 28, 60, 124, 252, 511, 1023, 2047]
theorem train_Step.tab16 : rtab .any (opsOf Try.f31 16) = train_Step.T16 := by kernel_rfl
theorem train_Step.bits16 : waitsOk train_Step.T16.2 train_Step.B16 = true := by kernel_rfl
def train_Step.T18 : Bool × List (List Nat × List Nat) := (true, [([], []), ([], []), ([1], [1]), ([], []), ([2, 3], [2, 3]), ([0, 0], [0]), ([4, 5, 0, 1, 2, 3, 4, 5], [4]), ([6, 0, 1, 2, 3, 4, 5, 6], [])])
def train_Step.B18 : List Nat := [0, 0, 2, 0, 14, 1, 63, 127]
theorem train_Step.tab18 : rtab .any (opsOf Try.f31 18) = train_Step.T18 := by kernel_rfl
theorem train_Step.bits18 : waitsOk train_Step.T18.2 train_Step.B18 = true := by kernel_rfl
set_option maxHeartbeats 8000000 in
set_option maxRecDepth 100000 in
theorem train_Step.calls (k : Nat) (a0_0 : Int) (a0_1 : Int) (A0_2 : Option Addr) (c0_2 : Nat) (l0_2 : List (List Int)) (a1_0 : Int) (A1_1 : Option Addr) (c1_1 : Nat) (l1_1 : List Int) (A1_2 : Option Addr) (c1_2 : Nat) (l1_2 : List (List Int)) (a2 : Int) (a3 : Int) (r1 : Int) (r2 : Int) (r3 : List (List Int)) (r4 : Bool) (r5 : Int) (w : World) (hr0_2 : Kd.C (Kd.slice 74 (Kd.int .i16)) w A0_2 l0_2.length l0_2) (hc0_2 : l0_2.length ≤ c0_2) (hr1_1 : Kd.C (Kd.int .i64) w A1_1 l1_1.length l1_1) (hc1_1 : l1_1.length ≤ c1_1) (hr1_2 : Kd.C (Kd.slice 74 (Kd.int .i16)) w A1_2 l1_2.length l1_2) (hc1_2 : l1_2.length ≤ c1_2) (h : train_Step.f k a0_0 a0_1 l0_2 a1_0 l1_1 l1_2 a2 a3 = some (r1, r2, r3, r4, r5)) :
    Calls Try.prog 31 #[.agg #[.int .u64 a0_0, .int .i64 a0_1, .slice A0_2 l0_2.length c0_2], .agg #[.int .i64 a1_0, .slice A1_1 l1_1.length c1_1, .slice A1_2 l1_2.length c1_2], .int .i64 a2, .int .i64 a3] w fun e w' => ∃ v2_ : Value, e = .returned (.tuple #[.agg #[.int .u64 r1, .int .i64 r2, v2_], .bool r4, .int .i64 r5]) ∧ Kd.S (Kd.slice 74 (Kd.int .i16)) 27 w' w.heap.size (fun _ => True) v2_ r3 ∧ Below w.heap.size w w' := by
  have hu39 := Try.underlying39
  have hu25 := Try.underlying25
  have HR0_2 := Aside0.mk hr0_2
  have HC0_2 := Aside0.mk hc0_2
  clear hr0_2 hc0_2
  have HR1_1 := Aside0.mk hr1_1
  have HC1_1 := Aside0.mk hc1_1
  clear hr1_1 hc1_1
  have HR1_2 := Aside0.mk hr1_2
  have HC1_2 := Aside0.mk hc1_2
  clear hr1_2 hc1_2
  have HB := Aside0.mk (Below.refl w.heap.size w)
  have H : ((train_check.f a0_0 a0_1 l0_2 a2 a3).bind fun t302 => (if t302 = 0 then ((h_slots_Check.f a1_0 l1_1 l1_2).bind fun t303 => (train_Step.j0 k a2 a3 (t303 != 0) a0_0 a0_1 l0_2 a1_0 l1_1 l1_2)) else (train_Step.j0 k a2 a3 true a0_0 a0_1 l0_2 a1_0 l1_1 l1_2))) = some (r1, r2, r3, r4, r5) := h
  clear h
  have HC5 := Aside0.mk H
  clear H
  go_enter Try.func31, Try.ntmps31
  go_upto_region 1 with (first | ((with_reducible refine gate_dst (N := 4) rfl ?_); refine box_event ?hg (N := 4) ?hd (cs := #[.int .u64 a0_0, .int .i64 a0_1, .slice A0_2 l0_2.length c0_2]) (t := 39) ?hr ?_; (case hd => rfl); (case hg => rfl); (case hr => first | (go_simp; done) | (go_simp; rfl)); intro gb299 hg w6 hbox hb; have n0_ := Aside0.mk (below_step (by repeat (first | (with_reducible first | exact HB.out | apply below_alloc | apply pw_below_drewN | apply below_drew1) | exact HB.out)) hb); have n1_ := Aside0.mk (hbox); have n2_ := Aside0.mk ((by rw [hg]; exact (below_size (by repeat (first | (with_reducible first | exact HB.out | apply below_alloc | apply pw_below_drewN | apply below_drew1) | exact HB.out))) : w.heap.size ≤ gb299)); have n3_ := Aside0.mk ((by rw [hg]; exact (below_size (by repeat (first | (with_reducible first | exact HB.out | apply below_alloc | apply pw_below_drewN | apply below_drew1) | exact HB.out))) : w.heap.size ≤ gb299)); clear HB; have HB := n0_; have BK299 := n1_; have GW299 := n2_; have GE299 := n3_; clear n0_ n1_ n2_ n3_; clear hb hbox hg) | ((with_reducible refine gate_dst (N := 5) rfl ?_); refine box_event ?hg (N := 5) ?hd (cs := #[.int .i64 a1_0, .slice A1_1 l1_1.length c1_1, .slice A1_2 l1_2.length c1_2]) (t := 25) ?hr ?_; (case hd => rfl); (case hg => rfl); (case hr => first | (go_simp; done) | (go_simp; rfl)); intro gb300 hg w7 hbox hb; have n0_ := Aside0.mk (blk_below (g := gb299) (o := .cells #[.int .u64 a0_0, .int .i64 a0_1, .slice A0_2 l0_2.length c0_2] 39 (0, 0)) (by (with_reducible repeat (first | refine blk_drewN ?_ _ | refine blk_drew ?_ | refine blk_alloc ?_ _)); exact BK299.out) hb); have n1_ := Aside0.mk (below_step (by repeat (first | (with_reducible first | exact HB.out | apply below_alloc | apply pw_below_drewN | apply below_drew1 | refine below_set ?_ GE299.out) | exact HB.out)) hb); have n2_ := Aside0.mk (hbox); have n3_ := Aside0.mk ((by rw [hg]; exact (below_size (by repeat (first | (with_reducible first | exact HB.out | apply below_alloc | apply pw_below_drewN | apply below_drew1 | refine below_set ?_ GE299.out) | exact HB.out))) : w.heap.size ≤ gb300)); have n4_ := Aside0.mk ((by rw [hg]; exact (below_size (by repeat (first | (with_reducible first | exact HB.out | apply below_alloc | apply pw_below_drewN | apply below_drew1 | refine below_set ?_ GE299.out) | exact HB.out))) : w.heap.size ≤ gb300)); have n5_ := Aside0.mk ((by rw [hg]; exact Nat.ne_of_lt (blk_lt (g := gb299) (o := .cells #[.int .u64 a0_0, .int .i64 a0_1, .slice A0_2 l0_2.length c0_2] 39 (0, 0)) (by (with_reducible repeat (first | refine blk_drewN ?_ _ | refine blk_drew ?_ | refine blk_alloc ?_ _)); exact BK299.out)) : gb299 ≠ gb300)); have n6_ := Aside0.mk ((by rw [hg]; exact Nat.ne_of_gt (blk_lt (g := gb299) (o := .cells #[.int .u64 a0_0, .int .i64 a0_1, .slice A0_2 l0_2.length c0_2] 39 (0, 0)) (by (with_reducible repeat (first | refine blk_drewN ?_ _ | refine blk_drew ?_ | refine blk_alloc ?_ _)); exact BK299.out)) : gb300 ≠ gb299)); clear BK299; clear HB; have BK299 := n0_; have HB := n1_; have BK300 := n2_; have GW300 := n3_; have GE300 := n4_; have NB299_300 := n5_; have NB300_299 := n6_; clear n0_ n1_ n2_ n3_ n4_ n5_ n6_; clear hb hbox hg) | ((with_reducible refine gate_dst (N := 8) rfl ?_); refine box_event ?hg (N := 8) ?hd (cs := #[.int .u64 0, .int .i64 0, .slice none 0 0]) (t := 39) ?hr ?_; (case hd => rfl); (case hg => rfl); (case hr => first | (go_simp; done) | (go_simp; rfl)); intro gb301 hg w8 hbox hb; have n0_ := Aside0.mk (blk_below (g := gb299) (o := .cells #[.int .u64 a0_0, .int .i64 a0_1, .slice A0_2 l0_2.length c0_2] 39 (0, 0)) (by (with_reducible repeat (first | refine blk_drewN ?_ _ | refine blk_drew ?_ | refine blk_alloc ?_ _)); exact BK299.out) hb); have n1_ := Aside0.mk (blk_below (g := gb300) (o := .cells #[.int .i64 a1_0, .slice A1_1 l1_1.length c1_1, .slice A1_2 l1_2.length c1_2] 25 (0, 0)) (by (with_reducible repeat (first | refine blk_drewN ?_ _ | refine blk_drew ?_ | refine blk_alloc ?_ _)); exact BK300.out) hb); have n2_ := Aside0.mk (below_step (by repeat (first | (with_reducible first | exact HB.out | apply below_alloc | apply pw_below_drewN | apply below_drew1 | refine below_set ?_ GE299.out | refine below_set ?_ GE300.out) | exact HB.out)) hb); have n3_ := Aside0.mk (hbox); have n4_ := Aside0.mk ((by rw [hg]; exact (below_size (by repeat (first | (with_reducible first | exact HB.out | apply below_alloc | apply pw_below_drewN | apply below_drew1 | refine below_set ?_ GE299.out | refine below_set ?_ GE300.out) | exact HB.out))) : w.heap.size ≤ gb301)); have n5_ := Aside0.mk ((by rw [hg]; exact (below_size (by repeat (first | (with_reducible first | exact HB.out | apply below_alloc | apply pw_below_drewN | apply below_drew1 | refine below_set ?_ GE299.out | refine below_set ?_ GE300.out) | exact HB.out))) : w.heap.size ≤ gb301)); have n6_ := Aside0.mk ((by rw [hg]; exact Nat.ne_of_lt (blk_lt (g := gb299) (o := .cells #[.int .u64 a0_0, .int .i64 a0_1, .slice A0_2 l0_2.length c0_2] 39 (0, 0)) (by (with_reducible repeat (first | refine blk_drewN ?_ _ | refine blk_drew ?_ | refine blk_alloc ?_ _)); exact BK299.out)) : gb299 ≠ gb301)); have n7_ := Aside0.mk ((by rw [hg]; exact Nat.ne_of_gt (blk_lt (g := gb299) (o := .cells #[.int .u64 a0_0, .int .i64 a0_1, .slice A0_2 l0_2.length c0_2] 39 (0, 0)) (by (with_reducible repeat (first | refine blk_drewN ?_ _ | refine blk_drew ?_ | refine blk_alloc ?_ _)); exact BK299.out)) : gb301 ≠ gb299)); have n8_ := Aside0.mk ((by rw [hg]; exact Nat.ne_of_lt (blk_lt (g := gb300) (o := .cells #[.int .i64 a1_0, .slice A1_1 l1_1.length c1_1, .slice A1_2 l1_2.length c1_2] 25 (0, 0)) (by (with_reducible repeat (first | refine blk_drewN ?_ _ | refine blk_drew ?_ | refine blk_alloc ?_ _)); exact BK300.out)) : gb300 ≠ gb301)); have n9_ := Aside0.mk ((by rw [hg]; exact Nat.ne_of_gt (blk_lt (g := gb300) (o := .cells #[.int .i64 a1_0, .slice A1_1 l1_1.length c1_1, .slice A1_2 l1_2.length c1_2] 25 (0, 0)) (by (with_reducible repeat (first | refine blk_drewN ?_ _ | refine blk_drew ?_ | refine blk_alloc ?_ _)); exact BK300.out)) : gb301 ≠ gb300)); clear BK299; clear BK300; clear HB; have BK299 := n0_; have BK300 := n1_; have HB := n2_; have BK301 := n3_; have GW301 := n4_; have GE301 := n5_; have NB299_301 := n6_; have NB301_299 := n7_; have NB300_301 := n8_; have NB301_300 := n9_; clear n0_ n1_ n2_ n3_ n4_ n5_ n6_ n7_ n8_ n9_; clear hb hbox hg))
  (try simp only [Act.put, List.setIfInBounds_toArray, List.set_cons_zero, List.set_cons_succ])
  go_cut [28] (fun v28 wc => ∃ (kq : Nat) (x28_4 : Bool), v28 = .bool x28_4 ∧ Aside0 (train_Step.j0 kq a2 a3 x28_4 a0_0 a0_1 l0_2 a1_0 l1_1 l1_2 = some (r1, r2, r3, r4, r5)) ∧ Aside0 (kq ≤ k) ∧ Aside0 (wc.heap[gb299]? = some (.cells #[.int .u64 a0_0, .int .i64 a0_1, (.slice A0_2 l0_2.length c0_2)] 39 (0, 0))) ∧ Aside0 (wc.heap[gb300]? = some (.cells #[.int .i64 a1_0, (.slice A1_1 l1_1.length c1_1), (.slice A1_2 l1_2.length c1_2)] 25 (0, 0))) ∧ Aside0 (wc.heap[gb301]? = some (.cells #[.int .u64 0, .int .i64 0, (.slice none 0 0)] 39 (0, 0))) ∧ Aside0 (Below w.heap.size w wc))
  case first =>
    have H := HC5.out
    clear HC5
    replace H := Option.bind_eq_some_iff.mp H
    obtain ⟨t302, A90, H⟩ := H
    replace H : (if t302 = 0 then ((h_slots_Check.f a1_0 l1_1 l1_2).bind fun t303 => (train_Step.j0 k a2 a3 (t303 != 0) a0_0 a0_1 l0_2 a1_0 l1_1 l1_2)) else (train_Step.j0 k a2 a3 true a0_0 a0_1 l0_2 a1_0 l1_1 l1_2)) = some (r1, r2, r3, r4, r5) := H
    have A9 := Aside0.mk A90
    clear A90
    by_cases c10 : t302 = 0
    · rw [if_pos c10] at H
      have c10b0 : (t302 == 0) = true := beq_iff_eq.mpr c10
      have c10b1 : (t302 != 0) = false := bne_eq_false_iff_eq.mpr c10
      clear c10
      (first | rw [c10b0] | (simp only [i64_w, i32_w]; rw [c10b0]) | skip)
      replace H := Option.bind_eq_some_iff.mp H
      obtain ⟨t303, A110, H⟩ := H
      replace H : (train_Step.j0 k a2 a3 (t303 != 0) a0_0 a0_1 l0_2 a1_0 l1_1 l1_2) = some (r1, r2, r3, r4, r5) := H
      have A11 := Aside0.mk A110
      clear A110
      have H' := Aside0.mk H
      clear H
      have hnb12 := NB299_300.out
      have hnc12 := NB300_299.out
      have hnb13 := NB299_301.out
      have hnc13 := NB301_299.out
      have hcz14_0 : w8.cell? ⟨gb299, 0, none⟩ = some (.int .u64 a0_0) := (blk_cell BK299.out 0).trans rfl
      have hcz14_1 : w8.cell? ⟨gb299, 1, none⟩ = some (.int .i64 a0_1) := (blk_cell BK299.out 1).trans rfl
      have hcz14_2 : w8.cell? ⟨gb299, 2, none⟩ = some (.slice A0_2 l0_2.length c0_2) := (blk_cell BK299.out 2).trans rfl
      have hfz14_0 := blk_frozen BK299.out 0
      have hfz14_1 := blk_frozen BK299.out 1
      have hfz14_2 := blk_frozen BK299.out 2
      go_wp2_with (first | ((with_reducible refine gate_callee (f := 96) rfl ?_); refine goesL_ (some 22) rfl rfl Try.func96 (by kernel_rfl) rfl #[.agg #[.int .u64 a0_0, .int .i64 a0_1, .slice A0_2 l0_2.length c0_2], .int .i64 a2, .int .i64 a3] rfl (by (try simp only [List.map_toArray, List.map_cons, List.map_nil]); first | done | rfl | (simp only [List.length_drop, List.length_take]; rfl)) ?_; (with_reducible refine (train_check.calls a0_0 a0_1 _ _ l0_2 a2 a3 t302 _ ?side1 ?side2 A9.out).mono ?_); (case side1 => repeat (first | exact (Kd.C_below HR0_2.out HB.out) | (with_reducible refine Kd.C_alloc ?_ _) | (with_reducible refine Kd.C_drewN ?_ _) | (with_reducible refine Kd.C_drew ?_))); (case side2 => exact HC0_2.out); rintro e w15 ⟨rfl, hb⟩; refine ⟨_, rfl, ?_⟩; have n0_ := Aside0.mk (blk_below (g := gb299) (o := .cells #[.int .u64 a0_0, .int .i64 a0_1, .slice A0_2 l0_2.length c0_2] 39 (0, 0)) (by (with_reducible repeat (first | refine blk_drewN ?_ _ | refine blk_drew ?_ | refine blk_alloc ?_ _)); exact BK299.out) hb); have n1_ := Aside0.mk (blk_below (g := gb300) (o := .cells #[.int .i64 a1_0, .slice A1_1 l1_1.length c1_1, .slice A1_2 l1_2.length c1_2] 25 (0, 0)) (by (with_reducible repeat (first | refine blk_drewN ?_ _ | refine blk_drew ?_ | refine blk_alloc ?_ _)); exact BK300.out) hb); have n2_ := Aside0.mk (blk_below (g := gb301) (o := .cells #[.int .u64 0, .int .i64 0, .slice none 0 0] 39 (0, 0)) (by (with_reducible repeat (first | refine blk_drewN ?_ _ | refine blk_drew ?_ | refine blk_alloc ?_ _)); exact BK301.out) hb); have n3_ := Aside0.mk (below_step (by repeat (first | (with_reducible first | exact HB.out | apply below_alloc | apply pw_below_drewN | apply below_drew1 | refine below_set ?_ GE299.out | refine below_set ?_ GE300.out | refine below_set ?_ GE301.out) | exact HB.out)) hb); clear BK299; clear BK300; clear BK301; clear HB; have BK299 := n0_; have BK300 := n1_; have BK301 := n2_; have HB := n3_; clear n0_ n1_ n2_ n3_; (try clear hb); (try clear hb2); (try clear hk); (try clear hi); have hnb16 := NB300_301.out; have hnc16 := NB301_300.out; have hcz17_0 : w15.cell? ⟨gb300, 0, none⟩ = some (.int .i64 a1_0) := (blk_cell BK300.out 0).trans rfl; have hcz17_1 : w15.cell? ⟨gb300, 1, none⟩ = some (.slice A1_1 l1_1.length c1_1) := (blk_cell BK300.out 1).trans rfl; have hcz17_2 : w15.cell? ⟨gb300, 2, none⟩ = some (.slice A1_2 l1_2.length c1_2) := (blk_cell BK300.out 2).trans rfl; have hfz17_0 := blk_frozen BK300.out 0; have hfz17_1 := blk_frozen BK300.out 1; have hfz17_2 := blk_frozen BK300.out 2) | (go_at_call 65; (with_reducible refine (h_slots_Check.calls a1_0 _ _ l1_1 _ _ l1_2 t303 _ ?side1 ?side2 ?side3 ?side4 A11.out).mono ?_); (case side1 => repeat (first | exact (Kd.C_below HR1_1.out HB.out) | (with_reducible refine Kd.C_alloc ?_ _) | (with_reducible refine Kd.C_drewN ?_ _) | (with_reducible refine Kd.C_drew ?_))); (case side2 => exact HC1_1.out); (case side3 => repeat (first | exact (Kd.C_below HR1_2.out HB.out) | (with_reducible refine Kd.C_alloc ?_ _) | (with_reducible refine Kd.C_drewN ?_ _) | (with_reducible refine Kd.C_drew ?_))); (case side4 => exact HC1_2.out); rintro e w18 ⟨rfl, hb⟩; have n0_ := Aside0.mk (blk_below (g := gb299) (o := .cells #[.int .u64 a0_0, .int .i64 a0_1, .slice A0_2 l0_2.length c0_2] 39 (0, 0)) (by (with_reducible repeat (first | refine blk_drewN ?_ _ | refine blk_drew ?_ | refine blk_alloc ?_ _)); exact BK299.out) hb); have n1_ := Aside0.mk (blk_below (g := gb300) (o := .cells #[.int .i64 a1_0, .slice A1_1 l1_1.length c1_1, .slice A1_2 l1_2.length c1_2] 25 (0, 0)) (by (with_reducible repeat (first | refine blk_drewN ?_ _ | refine blk_drew ?_ | refine blk_alloc ?_ _)); exact BK300.out) hb); have n2_ := Aside0.mk (blk_below (g := gb301) (o := .cells #[.int .u64 0, .int .i64 0, .slice none 0 0] 39 (0, 0)) (by (with_reducible repeat (first | refine blk_drewN ?_ _ | refine blk_drew ?_ | refine blk_alloc ?_ _)); exact BK301.out) hb); have n3_ := Aside0.mk (below_step (by repeat (first | (with_reducible first | exact HB.out | apply below_alloc | apply pw_below_drewN | apply below_drew1 | refine below_set ?_ GE299.out | refine below_set ?_ GE300.out | refine below_set ?_ GE301.out) | exact HB.out)) hb); clear BK299; clear BK300; clear BK301; clear HB; have BK299 := n0_; have BK300 := n1_; have BK301 := n2_; have HB := n3_; clear n0_ n1_ n2_ n3_; (try clear hb); (try clear hb2); (try clear hk); (try clear hi)))
      go_meet
      case rel => exact ⟨_, ((t303 != 0)), (by first | rfl | (simp; done) | (simp [*]; done)), H', ⟨by first | omega | exact Nat.le_refl _⟩, ⟨by (with_reducible repeat (first | refine blk_drewN ?_ _ | refine blk_drew ?_ | refine blk_alloc ?_ _)); exact BK299.out⟩, ⟨by (with_reducible repeat (first | refine blk_drewN ?_ _ | refine blk_drew ?_ | refine blk_alloc ?_ _)); exact BK300.out⟩, ⟨by (with_reducible repeat (first | refine blk_drewN ?_ _ | refine blk_drew ?_ | refine blk_alloc ?_ _)); exact BK301.out⟩, ⟨by repeat (first | (with_reducible first | exact HB.out | apply below_alloc | apply pw_below_drewN | apply below_drew1 | refine below_set ?_ GE299.out | refine below_set ?_ GE300.out | refine below_set ?_ GE301.out) | exact HB.out)⟩⟩
    · rw [if_neg c10] at H
      have c10b0 : (t302 == 0) = false := beq_eq_false_iff_ne.mpr c10
      have c10b1 : (t302 != 0) = true := bne_iff_ne.mpr c10
      (first | rw [c10b0] | (simp only [i64_w, i32_w]; rw [c10b0]) | skip)
      have H' := Aside0.mk H
      clear H
      have hnb19 := NB299_300.out
      have hnc19 := NB300_299.out
      have hnb20 := NB299_301.out
      have hnc20 := NB301_299.out
      have hcz21_0 : w8.cell? ⟨gb299, 0, none⟩ = some (.int .u64 a0_0) := (blk_cell BK299.out 0).trans rfl
      have hcz21_1 : w8.cell? ⟨gb299, 1, none⟩ = some (.int .i64 a0_1) := (blk_cell BK299.out 1).trans rfl
      have hcz21_2 : w8.cell? ⟨gb299, 2, none⟩ = some (.slice A0_2 l0_2.length c0_2) := (blk_cell BK299.out 2).trans rfl
      have hfz21_0 := blk_frozen BK299.out 0
      have hfz21_1 := blk_frozen BK299.out 1
      have hfz21_2 := blk_frozen BK299.out 2
      go_wp2_with (first | ((with_reducible refine gate_callee (f := 96) rfl ?_); refine goesL_ (some 22) rfl rfl Try.func96 (by kernel_rfl) rfl #[.agg #[.int .u64 a0_0, .int .i64 a0_1, .slice A0_2 l0_2.length c0_2], .int .i64 a2, .int .i64 a3] rfl (by (try simp only [List.map_toArray, List.map_cons, List.map_nil]); first | done | rfl | (simp only [List.length_drop, List.length_take]; rfl)) ?_; (with_reducible refine (train_check.calls a0_0 a0_1 _ _ l0_2 a2 a3 t302 _ ?side1 ?side2 A9.out).mono ?_); (case side1 => repeat (first | exact (Kd.C_below HR0_2.out HB.out) | (with_reducible refine Kd.C_alloc ?_ _) | (with_reducible refine Kd.C_drewN ?_ _) | (with_reducible refine Kd.C_drew ?_))); (case side2 => exact HC0_2.out); rintro e w22 ⟨rfl, hb⟩; refine ⟨_, rfl, ?_⟩; have n0_ := Aside0.mk (blk_below (g := gb299) (o := .cells #[.int .u64 a0_0, .int .i64 a0_1, .slice A0_2 l0_2.length c0_2] 39 (0, 0)) (by (with_reducible repeat (first | refine blk_drewN ?_ _ | refine blk_drew ?_ | refine blk_alloc ?_ _)); exact BK299.out) hb); have n1_ := Aside0.mk (blk_below (g := gb300) (o := .cells #[.int .i64 a1_0, .slice A1_1 l1_1.length c1_1, .slice A1_2 l1_2.length c1_2] 25 (0, 0)) (by (with_reducible repeat (first | refine blk_drewN ?_ _ | refine blk_drew ?_ | refine blk_alloc ?_ _)); exact BK300.out) hb); have n2_ := Aside0.mk (blk_below (g := gb301) (o := .cells #[.int .u64 0, .int .i64 0, .slice none 0 0] 39 (0, 0)) (by (with_reducible repeat (first | refine blk_drewN ?_ _ | refine blk_drew ?_ | refine blk_alloc ?_ _)); exact BK301.out) hb); have n3_ := Aside0.mk (below_step (by repeat (first | (with_reducible first | exact HB.out | apply below_alloc | apply pw_below_drewN | apply below_drew1 | refine below_set ?_ GE299.out | refine below_set ?_ GE300.out | refine below_set ?_ GE301.out) | exact HB.out)) hb); clear BK299; clear BK300; clear BK301; clear HB; have BK299 := n0_; have BK300 := n1_; have BK301 := n2_; have HB := n3_; clear n0_ n1_ n2_ n3_; (try clear hb); (try clear hb2); (try clear hk); (try clear hi)))
      go_meet
      case rel => exact ⟨_, (true), (by first | rfl | (simp; done) | (simp [*]; done)), H', ⟨by first | omega | exact Nat.le_refl _⟩, ⟨by (with_reducible repeat (first | refine blk_drewN ?_ _ | refine blk_drew ?_ | refine blk_alloc ?_ _)); exact BK299.out⟩, ⟨by (with_reducible repeat (first | refine blk_drewN ?_ _ | refine blk_drew ?_ | refine blk_alloc ?_ _)); exact BK300.out⟩, ⟨by (with_reducible repeat (first | refine blk_drewN ?_ _ | refine blk_drew ?_ | refine blk_alloc ?_ _)); exact BK301.out⟩, ⟨by repeat (first | (with_reducible first | exact HB.out | apply below_alloc | apply pw_below_drewN | apply below_drew1 | refine below_set ?_ GE299.out | refine below_set ?_ GE300.out | refine below_set ?_ GE301.out) | exact HB.out)⟩⟩
  case rest =>
    clear HC5
    try clear c1
    try clear c2
    try clear p2
    try clear c3
    try clear c9
    try clear c10
    try clear c10b0
    try clear c10b1
    try clear c12
    try clear c13
    try clear c16
    try clear c19
    try clear c20
    try clear hcz14_0
    try clear hcz14_1
    try clear hcz14_2
    try clear hcz17_0
    try clear hcz17_1
    try clear hcz17_2
    try clear hcz21_0
    try clear hcz21_1
    try clear hcz21_2
    try clear hfz14_0
    try clear hfz14_1
    try clear hfz14_2
    try clear hfz17_0
    try clear hfz17_1
    try clear hfz17_2
    try clear hfz21_0
    try clear hfz21_1
    try clear hfz21_2
    obtain ⟨kq, x28_4, rfl, HA, HJ4, BK299, BK300, BK301, HB⟩ := hcut
    cases kq with
    | zero => exact absurd HA.out (by simp [train_Step.j0])
    | succ kj4 =>
      have H := HA.out
      clear HA
      simp only [train_Step.j0] at H
      by_cases c23 : x28_4 = true
      · subst c23
        have H1 : (some (0, 0, ([] : List (List Int)), false, 1)) = some (r1, r2, r3, r4, r5) := by rw [if_pos rfl] at H; exact H
        clear H
        have H := H1
        clear H1
        simp only [Option.some.injEq, Prod.mk.injEq] at H
        obtain ⟨rfl, rfl, rfl, rfl, rfl⟩ := H
        have hnb24 := NB301_299.out
        have hnc24 := NB299_301.out
        have hnb25 := NB301_300.out
        have hnc25 := NB300_301.out
        have hcz26_0 : wc.cell? ⟨gb301, 0, none⟩ = some (.int .u64 0) := (blk_cell BK301.out 0).trans rfl
        have hcz26_1 : wc.cell? ⟨gb301, 1, none⟩ = some (.int .i64 0) := (blk_cell BK301.out 1).trans rfl
        have hcz26_2 : wc.cell? ⟨gb301, 2, none⟩ = some (.slice none 0 0) := (blk_cell BK301.out 2).trans rfl
        have hfz26_0 := blk_frozen BK301.out 0
        have hfz26_1 := blk_frozen BK301.out 1
        have hfz26_2 := blk_frozen BK301.out 2
        go_wp2
        refine bodyPost_ret (results_ctt rfl _ _ gb301 39 #[.int .u64 0, .int .i64 0, .slice none 0 0] (0, 0) _ rfl (by (with_reducible repeat (first | refine blk_drewN ?_ _ | refine blk_drew ?_ | refine blk_alloc ?_ _)); refine blk_put (cs := #[.int .u64 0, .int .i64 0, .slice none 0 0]) ?_ 2 _ rfl; (with_reducible repeat (first | refine blk_drewN ?_ _ | refine blk_drew ?_ | refine blk_alloc ?_ _)); refine blk_put (cs := #[.int .u64 0, .int .i64 0, .slice none 0 0]) ?_ 1 _ rfl; (with_reducible repeat (first | refine blk_drewN ?_ _ | refine blk_drew ?_ | refine blk_alloc ?_ _)); refine blk_put (cs := #[.int .u64 0, .int .i64 0, .slice none 0 0]) ?_ 0 _ rfl; (with_reducible repeat (first | refine blk_drewN ?_ _ | refine blk_drew ?_ | refine blk_alloc ?_ _)); exact BK301.out) Try.underlying39 rfl (by kernel_rfl)) rfl ?_
        exact ⟨_, by first | rfl | (simp [errW_none, errW_some] <;> rfl) | (simp [*, errW_none, errW_some] <;> rfl), by first | exact Kd.S_nil _ _ _ _ _ | exact Kd.N_nil _ _ _ _ _ | exact Kd.V_nil _ _ _ _ _ | exact Kd.Q_nil _ _ _ _ _ | exact Kd.R_nil _ _ _ _ _, by repeat (first | (with_reducible first | exact HB.out | apply below_alloc | apply pw_below_drewN | apply below_drew1 | refine below_set ?_ GE299.out | refine below_set ?_ GE300.out | refine below_set ?_ GE301.out) | exact HB.out)⟩
      · replace c23 := Bool.eq_false_iff.mpr c23
        subst c23
        have H1 : ((lots_Lots.f kj4 a0_0 (mn a2 (mx (wrap64 (a3 - a0_1)) 0)) (l1_1.length : Int)).bind fun bt304 => (if bt304.2.2 = 0 then (train_Step.l0 kj4 a3 bt304.1 l0_2 (l0_2.length : Int) 0 a1_0 l1_1 l1_2 bt304.2.1 (wrap64 (a0_1 + (bt304.1.length : Int))) ([] : List (List Int))) else (some (0, 0, ([] : List (List Int)), false, bt304.2.2)))) = some (r1, r2, r3, r4, r5) := by rw [if_neg (show ¬ (false = true) by decide)] at H; exact H
        clear H
        have H := H1
        clear H1
        obtain ⟨ji27, hji27⟩ : ∃ j_ : Int, (mx (wrap64 (a3 - a0_1)) 0) = j_ := ⟨_, rfl⟩
        replace H : ((lots_Lots.f kj4 a0_0 (mn a2 (ji27)) (l1_1.length : Int)).bind fun bt304 => (if bt304.2.2 = 0 then (train_Step.l0 kj4 a3 bt304.1 l0_2 (l0_2.length : Int) 0 a1_0 l1_1 l1_2 bt304.2.1 (wrap64 (a0_1 + (bt304.1.length : Int))) ([] : List (List Int))) else (some (0, 0, ([] : List (List Int)), false, bt304.2.2)))) = some (r1, r2, r3, r4, r5) := by first | (rw [hji27] at H; exact H) | (simp only [hji27] at H ⊢; exact H)
        have hji27_ : (if (wrap64 (a3 - a0_1)) < 0 then 0 else (wrap64 (a3 - a0_1))) = ji27 := hji27
        obtain ⟨ji28, hji28⟩ : ∃ j_ : Int, (mn a2 (ji27)) = j_ := ⟨_, rfl⟩
        replace H : ((lots_Lots.f kj4 a0_0 (ji28) (l1_1.length : Int)).bind fun bt304 => (if bt304.2.2 = 0 then (train_Step.l0 kj4 a3 bt304.1 l0_2 (l0_2.length : Int) 0 a1_0 l1_1 l1_2 bt304.2.1 (wrap64 (a0_1 + (bt304.1.length : Int))) ([] : List (List Int))) else (some (0, 0, ([] : List (List Int)), false, bt304.2.2)))) = some (r1, r2, r3, r4, r5) := by first | (rw [hji28] at H; exact H) | (simp only [hji28] at H ⊢; exact H)
        have hji28_ : (if (ji27) < a2 then (ji27) else a2) = ji28 := hji28
        replace H := Option.bind_eq_some_iff.mp H
        obtain ⟨⟨t304, t305, t306⟩, A290, H⟩ := H
        replace H : (if t306 = 0 then (train_Step.l0 kj4 a3 t304 l0_2 (l0_2.length : Int) 0 a1_0 l1_1 l1_2 t305 (wrap64 (a0_1 + (t304.length : Int))) ([] : List (List Int))) else (some (0, 0, ([] : List (List Int)), false, t306))) = some (r1, r2, r3, r4, r5) := H
        have A29 := Aside0.mk A290
        clear A290
        by_cases c30 : t306 = 0
        · rw [if_pos c30] at H
          have c30b0 : (t306 == 0) = true := beq_iff_eq.mpr c30
          have c30b1 : (t306 != 0) = false := bne_eq_false_iff_eq.mpr c30
          clear c30
          have H' := Aside0.mk H
          clear H
          have hnb31 := NB299_300.out
          have hnc31 := NB300_299.out
          have hnb32 := NB299_301.out
          have hnc32 := NB301_299.out
          have hcz33_0 : wc.cell? ⟨gb299, 0, none⟩ = some (.int .u64 a0_0) := (blk_cell BK299.out 0).trans rfl
          have hcz33_1 : wc.cell? ⟨gb299, 1, none⟩ = some (.int .i64 a0_1) := (blk_cell BK299.out 1).trans rfl
          have hcz33_2 : wc.cell? ⟨gb299, 2, none⟩ = some (.slice A0_2 l0_2.length c0_2) := (blk_cell BK299.out 2).trans rfl
          have hfz33_0 := blk_frozen BK299.out 0
          have hfz33_1 := blk_frozen BK299.out 1
          have hfz33_2 := blk_frozen BK299.out 2
          have hnb34 := NB300_301.out
          have hnc34 := NB301_300.out
          have hcz35_0 : wc.cell? ⟨gb300, 0, none⟩ = some (.int .i64 a1_0) := (blk_cell BK300.out 0).trans rfl
          have hcz35_1 : wc.cell? ⟨gb300, 1, none⟩ = some (.slice A1_1 l1_1.length c1_1) := (blk_cell BK300.out 1).trans rfl
          have hcz35_2 : wc.cell? ⟨gb300, 2, none⟩ = some (.slice A1_2 l1_2.length c1_2) := (blk_cell BK300.out 2).trans rfl
          have hfz35_0 := blk_frozen BK300.out 0
          have hfz35_1 := blk_frozen BK300.out 1
          have hfz35_2 := blk_frozen BK300.out 2
          go_wp2_with (first | ((with_reducible refine gate_callee (f := 97) rfl ?_); refine goesL_ (some 43) rfl rfl Try.func97 (by kernel_rfl) rfl #[.int .u64 a0_0, .int .i64 ji28, .int .i64 (l1_1.length : Int)] rfl (by (try simp only [List.map_toArray, List.map_cons, List.map_nil]); first | done | (simp only [hji28]; rfl) | rfl | (simp only [List.length_drop, List.length_take]; rfl)) ?_; (with_reducible refine (lots_Lots.calls kj4 a0_0 ji28 (l1_1.length : Int) t304 t305 t306 _ A29.out).mono ?_); rintro e w36 ⟨v307, rfl, ho0, hb⟩; refine ⟨_, rfl, ?_⟩; have n0_ := Aside0.mk (Kd.R_lower ho0 (below_size (by repeat (first | (with_reducible first | exact HB.out | apply below_alloc | apply pw_below_drewN | apply below_drew1 | refine below_set ?_ GE299.out | refine below_set ?_ GE300.out | refine below_set ?_ GE301.out) | exact HB.out)))); have n1_ := Aside0.mk (blk_below (g := gb299) (o := .cells #[.int .u64 a0_0, .int .i64 a0_1, .slice A0_2 l0_2.length c0_2] 39 (0, 0)) (by (with_reducible repeat (first | refine blk_drewN ?_ _ | refine blk_drew ?_ | refine blk_alloc ?_ _)); exact BK299.out) hb); have n2_ := Aside0.mk (blk_below (g := gb300) (o := .cells #[.int .i64 a1_0, .slice A1_1 l1_1.length c1_1, .slice A1_2 l1_2.length c1_2] 25 (0, 0)) (by (with_reducible repeat (first | refine blk_drewN ?_ _ | refine blk_drew ?_ | refine blk_alloc ?_ _)); exact BK300.out) hb); have n3_ := Aside0.mk (blk_below (g := gb301) (o := .cells #[.int .u64 0, .int .i64 0, .slice none 0 0] 39 (0, 0)) (by (with_reducible repeat (first | refine blk_drewN ?_ _ | refine blk_drew ?_ | refine blk_alloc ?_ _)); exact BK301.out) hb); have n4_ := Aside0.mk (below_step (by repeat (first | (with_reducible first | exact HB.out | apply below_alloc | apply pw_below_drewN | apply below_drew1 | refine below_set ?_ GE299.out | refine below_set ?_ GE300.out | refine below_set ?_ GE301.out) | exact HB.out)) hb); clear BK299; clear BK300; clear BK301; clear HB; have HO308 := n0_; have BK299 := n1_; have BK300 := n2_; have BK301 := n3_; have HB := n4_; clear n0_ n1_ n2_ n3_ n4_; (try clear hb); (try clear hb2); (try clear hk); (try clear hi); (try clear ho0); have hcz37_0 : w36.cell? ⟨gb299, 0, none⟩ = some (.int .u64 a0_0) := (blk_cell BK299.out 0).trans rfl; have hcz37_1 : w36.cell? ⟨gb299, 1, none⟩ = some (.int .i64 a0_1) := (blk_cell BK299.out 1).trans rfl; have hcz37_2 : w36.cell? ⟨gb299, 2, none⟩ = some (.slice A0_2 l0_2.length c0_2) := (blk_cell BK299.out 2).trans rfl; have hfz37_0 := blk_frozen BK299.out 0; have hfz37_1 := blk_frozen BK299.out 1; have hfz37_2 := blk_frozen BK299.out 2; obtain ⟨Ao38, co38, eo38⟩ := Kd.R_slice HO308.out; subst eo38) | ((with_reducible refine gate_dst (N := 14) rfl ?_); refine box_event ?hg (N := 14) ?hd (cs := #[.int .u64 0, .int .i64 0, .slice none 0 0]) (t := 39) ?hr ?_; (case hd => rfl); (case hg => rfl); (case hr => first | (go_simp; done) | (go_simp; rfl)); intro gb309 hg w39 hbox hb; have n0_ := Aside0.mk (Kd.R_below (by (with_reducible repeat (first | apply Kd.R_alloc | apply Kd.R_drewN | apply Kd.R_drew)); exact HO308.out) hb); have n1_ := Aside0.mk (blk_below (g := gb299) (o := .cells #[.int .u64 a0_0, .int .i64 a0_1, .slice A0_2 l0_2.length c0_2] 39 (0, 0)) (by (with_reducible repeat (first | refine blk_drewN ?_ _ | refine blk_drew ?_ | refine blk_alloc ?_ _)); exact BK299.out) hb); have n2_ := Aside0.mk (blk_below (g := gb300) (o := .cells #[.int .i64 a1_0, .slice A1_1 l1_1.length c1_1, .slice A1_2 l1_2.length c1_2] 25 (0, 0)) (by (with_reducible repeat (first | refine blk_drewN ?_ _ | refine blk_drew ?_ | refine blk_alloc ?_ _)); exact BK300.out) hb); have n3_ := Aside0.mk (blk_below (g := gb301) (o := .cells #[.int .u64 0, .int .i64 0, .slice none 0 0] 39 (0, 0)) (by (with_reducible repeat (first | refine blk_drewN ?_ _ | refine blk_drew ?_ | refine blk_alloc ?_ _)); exact BK301.out) hb); have n4_ := Aside0.mk (below_step (by repeat (first | (with_reducible first | exact HB.out | apply below_alloc | apply pw_below_drewN | apply below_drew1 | refine below_set ?_ GE299.out | refine below_set ?_ GE300.out | refine below_set ?_ GE301.out) | exact HB.out)) hb); have n5_ := Aside0.mk (hbox); have n6_ := Aside0.mk ((by rw [hg]; exact (below_size (by repeat (first | (with_reducible first | exact HB.out | apply below_alloc | apply pw_below_drewN | apply below_drew1 | refine below_set ?_ GE299.out | refine below_set ?_ GE300.out | refine below_set ?_ GE301.out) | exact HB.out))) : w.heap.size ≤ gb309)); have n7_ := Aside0.mk ((by rw [hg]; exact (below_size (by repeat (first | (with_reducible first | exact HB.out | apply below_alloc | apply pw_below_drewN | apply below_drew1 | refine below_set ?_ GE299.out | refine below_set ?_ GE300.out | refine below_set ?_ GE301.out) | exact HB.out))) : w.heap.size ≤ gb309)); have n8_ := Aside0.mk ((by rw [hg]; exact Nat.ne_of_lt (blk_lt (g := gb299) (o := .cells #[.int .u64 a0_0, .int .i64 a0_1, .slice A0_2 l0_2.length c0_2] 39 (0, 0)) (by (with_reducible repeat (first | refine blk_drewN ?_ _ | refine blk_drew ?_ | refine blk_alloc ?_ _)); exact BK299.out)) : gb299 ≠ gb309)); have n9_ := Aside0.mk ((by rw [hg]; exact Nat.ne_of_gt (blk_lt (g := gb299) (o := .cells #[.int .u64 a0_0, .int .i64 a0_1, .slice A0_2 l0_2.length c0_2] 39 (0, 0)) (by (with_reducible repeat (first | refine blk_drewN ?_ _ | refine blk_drew ?_ | refine blk_alloc ?_ _)); exact BK299.out)) : gb309 ≠ gb299)); have n10_ := Aside0.mk ((by rw [hg]; exact Nat.ne_of_lt (blk_lt (g := gb300) (o := .cells #[.int .i64 a1_0, .slice A1_1 l1_1.length c1_1, .slice A1_2 l1_2.length c1_2] 25 (0, 0)) (by (with_reducible repeat (first | refine blk_drewN ?_ _ | refine blk_drew ?_ | refine blk_alloc ?_ _)); exact BK300.out)) : gb300 ≠ gb309)); have n11_ := Aside0.mk ((by rw [hg]; exact Nat.ne_of_gt (blk_lt (g := gb300) (o := .cells #[.int .i64 a1_0, .slice A1_1 l1_1.length c1_1, .slice A1_2 l1_2.length c1_2] 25 (0, 0)) (by (with_reducible repeat (first | refine blk_drewN ?_ _ | refine blk_drew ?_ | refine blk_alloc ?_ _)); exact BK300.out)) : gb309 ≠ gb300)); have n12_ := Aside0.mk ((by rw [hg]; exact Nat.ne_of_lt (blk_lt (g := gb301) (o := .cells #[.int .u64 0, .int .i64 0, .slice none 0 0] 39 (0, 0)) (by (with_reducible repeat (first | refine blk_drewN ?_ _ | refine blk_drew ?_ | refine blk_alloc ?_ _)); exact BK301.out)) : gb301 ≠ gb309)); have n13_ := Aside0.mk ((by rw [hg]; exact Nat.ne_of_gt (blk_lt (g := gb301) (o := .cells #[.int .u64 0, .int .i64 0, .slice none 0 0] 39 (0, 0)) (by (with_reducible repeat (first | refine blk_drewN ?_ _ | refine blk_drew ?_ | refine blk_alloc ?_ _)); exact BK301.out)) : gb309 ≠ gb301)); clear HO308; clear BK299; clear BK300; clear BK301; clear HB; have HO308 := n0_; have BK299 := n1_; have BK300 := n2_; have BK301 := n3_; have HB := n4_; have BK309 := n5_; have GW309 := n6_; have GE309 := n7_; have NB299_309 := n8_; have NB309_299 := n9_; have NB300_309 := n10_; have NB309_300 := n11_; have NB301_309 := n12_; have NB309_301 := n13_; clear n0_ n1_ n2_ n3_ n4_ n5_ n6_ n7_ n8_ n9_ n10_ n11_ n12_ n13_; clear hb hbox hg; have hnb40 := NB309_299.out; have hnc40 := NB299_309.out; have hnb41 := NB309_300.out; have hnc41 := NB300_309.out; have hnb42 := NB309_301.out; have hnc42 := NB301_309.out; have hcz43_0 : w39.cell? ⟨gb309, 0, none⟩ = some (.int .u64 0) := (blk_cell BK309.out 0).trans rfl; have hcz43_1 : w39.cell? ⟨gb309, 1, none⟩ = some (.int .i64 0) := (blk_cell BK309.out 1).trans rfl; have hcz43_2 : w39.cell? ⟨gb309, 2, none⟩ = some (.slice none 0 0) := (blk_cell BK309.out 2).trans rfl; have hfz43_0 := blk_frozen BK309.out 0; have hfz43_1 := blk_frozen BK309.out 1; have hfz43_2 := blk_frozen BK309.out 2; have hcz44_0 : w39.cell? ⟨gb299, 0, none⟩ = some (.int .u64 a0_0) := (blk_cell BK299.out 0).trans rfl; have hcz44_1 : w39.cell? ⟨gb299, 1, none⟩ = some (.int .i64 a0_1) := (blk_cell BK299.out 1).trans rfl; have hcz44_2 : w39.cell? ⟨gb299, 2, none⟩ = some (.slice A0_2 l0_2.length c0_2) := (blk_cell BK299.out 2).trans rfl; have hfz44_0 := blk_frozen BK299.out 0; have hfz44_1 := blk_frozen BK299.out 1; have hfz44_2 := blk_frozen BK299.out 2))
          go_loopg [61] kj4 (fun kq v61 w' => ∃ (x61_2 : Int) (x310002_2 : List (List Int)) (u310002 : Value), v61 = .int .i64 x61_2 ∧ Aside0 (train_Step.l0 kq a3 t304 l0_2 (l0_2.length : Int) x61_2 a1_0 l1_1 l1_2 t305 (wrap64 (a0_1 + (t304.length : Int))) x310002_2 = some (r1, r2, r3, r4, r5)) ∧ Aside0 (kq ≤ kj4) ∧ Aside0 (Kd.R (Kd.int .i64) 3 w' w.heap.size (fun _ => True) (.slice Ao38 t304.length co38) t304) ∧ Aside0 (Kd.S (Kd.slice 74 (Kd.int .i16)) 27 w' w.heap.size (fun _ => True) u310002 x310002_2) ∧ Aside0 (w'.heap[gb299]? = some (.cells #[.int .u64 a0_0, .int .i64 a0_1, (.slice A0_2 l0_2.length c0_2)] 39 (0, 0))) ∧ Aside0 (w'.heap[gb300]? = some (.cells #[.int .i64 a1_0, (.slice A1_1 l1_1.length c1_1), (.slice A1_2 l1_2.length c1_2)] 25 (0, 0))) ∧ Aside0 (w'.heap[gb301]? = some (.cells #[.int .u64 0, .int .i64 0, (.slice none 0 0)] 39 (0, 0))) ∧ Aside0 (w'.heap[gb309]? = some (.cells #[.int .u64 t305, .int .i64 (wrap64 (a0_1 + (t304.length : Int))), u310002] 39 (0, 0))) ∧ Aside0 (Below w.heap.size w w'))
          case atStart => exact ⟨(0), (([] : List (List Int))), (.slice none 0 0), (by first | rfl | (simp; done) | (simp [*]; done)), H', ⟨Nat.le_refl _⟩, ⟨by (with_reducible repeat (first | apply Kd.R_alloc | apply Kd.R_drewN | apply Kd.R_drew)); exact Kd.R_mono (Kd.R_far (p := ⟨gb309, 2, none⟩) (Kd.R_far (p := ⟨gb309, 1, none⟩) (Kd.R_far (p := ⟨gb309, 0, none⟩) (Kd.R_types HO308.out BK309.out (by decide)) (fun _ hk => hk.2) (.int .u64 t305)) (fun _ hk => hk.2) (.int .i64 (wrap64 (a0_1 + (t304.length : Int))))) (fun _ hk => hk.2) (.slice none 0 0)) (fun _ hk => trivial)⟩, ⟨by first | exact Kd.S_nil _ _ _ _ _ | exact Kd.N_nil _ _ _ _ _ | exact Kd.V_nil _ _ _ _ _ | exact Kd.Q_nil _ _ _ _ _ | exact Kd.R_nil _ _ _ _ _⟩, ⟨by (with_reducible repeat (first | refine blk_drewN ?_ _ | refine blk_drew ?_ | refine blk_alloc ?_ _)); refine blk_far ?_ NB299_309.out _; (with_reducible repeat (first | refine blk_drewN ?_ _ | refine blk_drew ?_ | refine blk_alloc ?_ _)); refine blk_far ?_ NB299_309.out _; (with_reducible repeat (first | refine blk_drewN ?_ _ | refine blk_drew ?_ | refine blk_alloc ?_ _)); refine blk_far ?_ NB299_309.out _; (with_reducible repeat (first | refine blk_drewN ?_ _ | refine blk_drew ?_ | refine blk_alloc ?_ _)); exact BK299.out⟩, ⟨by (with_reducible repeat (first | refine blk_drewN ?_ _ | refine blk_drew ?_ | refine blk_alloc ?_ _)); refine blk_far ?_ NB300_309.out _; (with_reducible repeat (first | refine blk_drewN ?_ _ | refine blk_drew ?_ | refine blk_alloc ?_ _)); refine blk_far ?_ NB300_309.out _; (with_reducible repeat (first | refine blk_drewN ?_ _ | refine blk_drew ?_ | refine blk_alloc ?_ _)); refine blk_far ?_ NB300_309.out _; (with_reducible repeat (first | refine blk_drewN ?_ _ | refine blk_drew ?_ | refine blk_alloc ?_ _)); exact BK300.out⟩, ⟨by (with_reducible repeat (first | refine blk_drewN ?_ _ | refine blk_drew ?_ | refine blk_alloc ?_ _)); refine blk_far ?_ NB301_309.out _; (with_reducible repeat (first | refine blk_drewN ?_ _ | refine blk_drew ?_ | refine blk_alloc ?_ _)); refine blk_far ?_ NB301_309.out _; (with_reducible repeat (first | refine blk_drewN ?_ _ | refine blk_drew ?_ | refine blk_alloc ?_ _)); refine blk_far ?_ NB301_309.out _; (with_reducible repeat (first | refine blk_drewN ?_ _ | refine blk_drew ?_ | refine blk_alloc ?_ _)); exact BK301.out⟩, ⟨by (with_reducible repeat (first | refine blk_drewN ?_ _ | refine blk_drew ?_ | refine blk_alloc ?_ _)); refine blk_put (cs := #[.int .u64 t305, .int .i64 (wrap64 (a0_1 + (t304.length : Int))), .slice none 0 0]) ?_ 2 _ rfl; (with_reducible repeat (first | refine blk_drewN ?_ _ | refine blk_drew ?_ | refine blk_alloc ?_ _)); refine blk_put (cs := #[.int .u64 t305, .int .i64 0, .slice none 0 0]) ?_ 1 _ rfl; (with_reducible repeat (first | refine blk_drewN ?_ _ | refine blk_drew ?_ | refine blk_alloc ?_ _)); refine blk_put (cs := #[.int .u64 0, .int .i64 0, .slice none 0 0]) ?_ 0 _ rfl; (with_reducible repeat (first | refine blk_drewN ?_ _ | refine blk_drew ?_ | refine blk_alloc ?_ _)); exact BK309.out⟩, ⟨by repeat (first | (with_reducible first | exact HB.out | apply below_alloc | apply pw_below_drewN | apply below_drew1 | refine below_set ?_ GE299.out | refine below_set ?_ GE300.out | refine below_set ?_ GE301.out | refine below_set ?_ GE309.out) | exact HB.out)⟩⟩
          case round =>
            clear H'
            try clear c1
            try clear c2
            try clear p2
            try clear c3
            try clear c4
            try clear p6
            try clear c9
            try clear c10
            try clear c10b0
            try clear c10b1
            try clear c12
            try clear c13
            try clear c16
            try clear c19
            try clear c20
            try clear c23
            try clear c24
            try clear c25
            try clear c30
            try clear c30b0
            try clear c30b1
            try clear c31
            try clear c32
            try clear c34
            try clear c40
            try clear c41
            try clear c42
            try clear hcz14_0
            try clear hcz14_1
            try clear hcz14_2
            try clear hcz17_0
            try clear hcz17_1
            try clear hcz17_2
            try clear hcz21_0
            try clear hcz21_1
            try clear hcz21_2
            try clear hcz26_0
            try clear hcz26_1
            try clear hcz26_2
            try clear hcz33_0
            try clear hcz33_1
            try clear hcz33_2
            try clear hcz35_0
            try clear hcz35_1
            try clear hcz35_2
            try clear hcz37_0
            try clear hcz37_1
            try clear hcz37_2
            try clear hcz43_0
            try clear hcz43_1
            try clear hcz43_2
            try clear hcz44_0
            try clear hcz44_1
            try clear hcz44_2
            try clear hfz14_0
            try clear hfz14_1
            try clear hfz14_2
            try clear hfz17_0
            try clear hfz17_1
            try clear hfz17_2
            try clear hfz21_0
            try clear hfz21_1
            try clear hfz21_2
            try clear hfz26_0
            try clear hfz26_1
            try clear hfz26_2
            try clear hfz33_0
            try clear hfz33_1
            try clear hfz33_2
            try clear hfz35_0
            try clear hfz35_1
            try clear hfz35_2
            try clear hfz37_0
            try clear hfz37_1
            try clear hfz37_2
            try clear hfz43_0
            try clear hfz43_1
            try clear hfz43_2
            try clear hfz44_0
            try clear hfz44_1
            try clear hfz44_2
            try clear p2
            obtain ⟨x61_2, x310002_2, u310002, rfl, HA, HK2, HO_11, HO_310002, BK299, BK300, BK301, BK309, HB⟩ := hrel
            cases gk with
            | zero => exact absurd HA.out (by simp [train_Step.l0])
            | succ k2 =>
              have H := HA.out
              clear HA
              simp only [train_Step.l0] at H
              by_cases c45 : x61_2 < (l0_2.length : Int)
              · rw [if_pos c45] at H
                have c45b0 : decide (x61_2 < (l0_2.length : Int)) = true := decide_eq_true c45
                clear c45
                by_cases c46 : 0 ≤ x61_2
                · rw [if_pos c46] at H
                  have c46b0 : decide (0 ≤ x61_2) = true := decide_eq_true c46
                  clear c46
                  by_cases c47 : x61_2 < (l0_2.length : Int)
                  · rw [if_pos c47] at H
                    have c47b0 : decide (x61_2 < (l0_2.length : Int)) = true := decide_eq_true c47
                    clear c47
                    replace H := Option.bind_eq_some_iff.mp H
                    obtain ⟨t311, A480, H⟩ := H
                    replace H : (if x310002_2.length < 5864062014805 then (train_Step.l0 k2 a3 t304 l0_2 (l0_2.length : Int) (wrap64 (x61_2 + 1)) a1_0 l1_1 l1_2 t305 (wrap64 (a0_1 + (t304.length : Int))) (x310002_2 ++ [t311])) else (none)) = some (r1, r2, r3, r4, r5) := H
                    have A48 := Aside0.mk A480
                    clear A480
                    by_cases c49 : x310002_2.length < 5864062014805
                    · rw [if_pos c49] at H
                      have LMc49 := Aside0.mk c49
                      clear c49
                      obtain ⟨y314, hy314⟩ : ∃ y_ : List (List Int), y_ = (x310002_2 ++ [t311]) := ⟨_, rfl⟩
                      replace H : (train_Step.l0 k2 a3 t304 l0_2 (l0_2.length : Int) (wrap64 (x61_2 + 1)) a1_0 l1_1 l1_2 t305 (wrap64 (a0_1 + (t304.length : Int))) y314) = some (r1, r2, r3, r4, r5) := by first | (rw [hy314]; with_reducible exact H) | (have H2_ := (Option.bind_some _ _).symm.trans H; rw [hy314]; with_reducible exact H2_) | (have H2_ := (Option.bind_some _ _).symm.trans H; with_reducible exact H2_) | with_reducible exact H | (rw [hy314]; exact H) | exact H
                      have Ny314 := Aside0.mk hy314
                      clear hy314
                      have H' := Aside0.mk H
                      clear H
                      have p310 : 0 ≤ (x61_2 : Int) := of_decide_eq_true (by first | (with_reducible assumption) | assumption)
                      have q310 : x61_2 < (l0_2.length : Int) := of_decide_eq_true (by first | (with_reducible assumption) | assumption)
                      obtain ⟨ad310, A310_0, c310_0, e310, hx310_0, hl310_0, hi310_0⟩ := at_L3 HR0_2.out x61_2 p310 q310
                      cases e310
                      replace hx310_0 := (HB.out.cell (World.block_lt_of_cell? w _ hx310_0)).trans hx310_0
                      have HR310_0 := Aside0.mk hi310_0
                      have HC310_0 := Aside0.mk hl310_0
                      clear hi310_0 hl310_0
                      replace p310 := eq_true p310
                      replace q310 := eq_true q310
                      try go_wp2
                      have n0_ := Aside0.mk (Kd.R_drew HO_11.out)
                      have n1_ := Aside0.mk (Kd.S_drew HO_310002.out)
                      have n2_ := Aside0.mk (blk_drew BK299.out)
                      have n3_ := Aside0.mk (blk_drew BK300.out)
                      have n4_ := Aside0.mk (blk_drew BK301.out)
                      have n5_ := Aside0.mk (blk_drew BK309.out)
                      have n6_ := Aside0.mk (below_drew1 HB.out)
                      clear HO_11
                      clear HO_310002
                      clear BK299
                      clear BK300
                      clear BK301
                      clear BK309
                      clear HB
                      have HO_11 := n0_
                      have HO_310002 := n1_
                      have BK299 := n2_
                      have BK300 := n3_
                      have BK301 := n4_
                      have BK309 := n5_
                      have HB := n6_
                      clear n0_ n1_ n2_ n3_ n4_ n5_ n6_
                      refine start_ (n := 8) (S := fun w' => w'.cell? ⟨gb309, 0, none⟩ = some (.int .u64 t305) ∧ w'.cell? ⟨gb309, 1, none⟩ = some (.int .i64 (wrap64 (a0_1 + (t304.length : Int)))) ∧ w'.cell? ⟨gb309, 2, none⟩ = some (u310002)) (ds := [7]) #[false, false, false, false, false, false, false, false] (by kernel_rfl) rfl rfl ⟨(blk_cell BK309.out 0).trans rfl, (blk_cell BK309.out 1).trans rfl, (blk_cell BK309.out 2).trans rfl⟩ (fun hHeld => ?_); refine with_tabW train_Step.tab10 train_Step.bits10 (fun HT_ HW_ => ?_)
                      generalize wr.drew = w50 at HO_11 HO_310002 BK299 BK300 BK301 BK309 HB hHeld ⊢
                      refine pure_ (i := 0) (N := some 65) (v := ?_) (a' := ?_) #[true, false, false, false, false, false, false, false] rfl rfl (any_of HT_.out (by kernel_rfl)) (fun _ _ _ h => h) (Or.inl ⟨by rfl, ?_⟩) ?_ ?_
                      rotate_left
                      · intro w'
                        go_simp
                        with_reducible rfl
                      rotate_left
                      · simp only [Act.put, List.setIfInBounds_toArray, List.set_cons_zero, List.set_cons_succ, i64_w, i32_w]
                        rfl
                      refine pure_ (i := 2) (N := some 67) (v := ?_) (a' := ?_) #[true, false, true, false, false, false, false, false] rfl rfl (any_of HT_.out (by kernel_rfl)) (fun _ _ _ h => h) (Or.inl ⟨by rfl, ?_⟩) ?_ ?_
                      rotate_left
                      · intro w'
                        go_simp
                        with_reducible rfl
                      rotate_left
                      · simp only [Act.put, List.setIfInBounds_toArray, List.set_cons_zero, List.set_cons_succ, i64_w, i32_w]
                        rfl
                      refine take_ (i := 1) (N := some 66) (v := ?_) (a' := ?_) #[true, true, true, false, false, false, false, false] rfl rfl (take_ofW HT_.out HW_.out (by kernel_rfl)) (fun _ _ _ h => h) (Or.inl ⟨by rfl, ?_⟩) hHeld ?_ ?_
                      rotate_left
                      · rintro w' ⟨s0, s1, s2⟩
                        go_simp
                        with_reducible rfl
                      rotate_left
                      · simp only [Act.put, List.setIfInBounds_toArray, List.set_cons_zero, List.set_cons_succ, i64_w, i32_w]
                        rfl
                      refine one_ (i := 3) (N := some 68) #[true, true, true, true, false, false, false, false] rfl rfl (one_of HT_.out (by kernel_rfl)) (by decide) (fun K hK => ?_)
                      refine goes_ Try.func98 (by kernel_rfl) rfl #[.slice A310_0 (rd_L3 l0_2 x61_2).length c310_0] (by rfl) rfl rfl (by (try simp only [List.map_toArray, List.map_cons, List.map_nil]); first | done | rfl | (simp only [List.length_drop, List.length_take]; rfl)) ?_
                      with_reducible refine (api_Vec_int16_98.calls _ _ (rd_L3 l0_2 x61_2) t311 _ ?side1 ?side2 A48.out).mono ?_
                      (case side1 => repeat (first | exact (Kd.C_below HR310_0.out HB.out) | (with_reducible refine Kd.C_alloc ?_ _) | (with_reducible refine Kd.C_drewN ?_ _) | (with_reducible refine Kd.C_drew ?_)))
                      (case side2 => exact HC310_0.out)
                      rintro e w51 ⟨v312, rfl, ho0, hb⟩
                      refine ⟨_, rfl, ?_⟩
                      have n0_ := Aside0.mk (Kd.R_below (by (with_reducible repeat (first | apply Kd.R_alloc | apply Kd.R_drewN | apply Kd.R_drew)); exact HO_11.out) hb)
                      have n1_ := Aside0.mk (Kd.S_elder' (by (with_reducible repeat (first | apply Kd.S_alloc | apply Kd.S_drewN | apply Kd.S_drew)); exact HO_310002.out) (Kd.R_base ho0) hb)
                      have n2_ := Aside0.mk (Kd.R_lower ho0 (below_size (by repeat (first | (with_reducible first | exact HB.out | apply below_alloc | apply pw_below_drewN | apply below_drew1 | refine below_set ?_ GE299.out | refine below_set ?_ GE300.out | refine below_set ?_ GE301.out | refine below_set ?_ GE309.out) | exact HB.out))))
                      have n3_ := Aside0.mk (blk_below (g := gb299) (o := .cells #[.int .u64 a0_0, .int .i64 a0_1, .slice (some ad310) l0_2.length c0_2] 39 (0, 0)) (by (with_reducible repeat (first | refine blk_drewN ?_ _ | refine blk_drew ?_ | refine blk_alloc ?_ _)); exact BK299.out) hb)
                      have n4_ := Aside0.mk (blk_below (g := gb300) (o := .cells #[.int .i64 a1_0, .slice A1_1 l1_1.length c1_1, .slice A1_2 l1_2.length c1_2] 25 (0, 0)) (by (with_reducible repeat (first | refine blk_drewN ?_ _ | refine blk_drew ?_ | refine blk_alloc ?_ _)); exact BK300.out) hb)
                      have n5_ := Aside0.mk (blk_below (g := gb301) (o := .cells #[.int .u64 0, .int .i64 0, .slice none 0 0] 39 (0, 0)) (by (with_reducible repeat (first | refine blk_drewN ?_ _ | refine blk_drew ?_ | refine blk_alloc ?_ _)); exact BK301.out) hb)
                      have n6_ := Aside0.mk (blk_below (g := gb309) (o := .cells #[.int .u64 t305, .int .i64 (wrap64 (a0_1 + (t304.length : Int))), u310002] 39 (0, 0)) (by (with_reducible repeat (first | refine blk_drewN ?_ _ | refine blk_drew ?_ | refine blk_alloc ?_ _)); exact BK309.out) hb)
                      have n7_ := Aside0.mk (below_step (by repeat (first | (with_reducible first | exact HB.out | apply below_alloc | apply pw_below_drewN | apply below_drew1 | refine below_set ?_ GE299.out | refine below_set ?_ GE300.out | refine below_set ?_ GE301.out | refine below_set ?_ GE309.out) | exact HB.out)) hb)
                      clear HO_11
                      clear HO_310002
                      clear BK299
                      clear BK300
                      clear BK301
                      clear BK309
                      clear HB
                      have HO_11 := n0_
                      have HO_310002 := n1_
                      have HO313 := n2_
                      have BK299 := n3_
                      have BK300 := n4_
                      have BK301 := n5_
                      have BK309 := n6_
                      have HB := n7_
                      clear n0_ n1_ n2_ n3_ n4_ n5_ n6_ n7_
                      (try clear hb)
                      (try clear hb2)
                      (try clear hk)
                      (try clear hi)
                      (try clear ho0)
                      obtain ⟨Ao53, co53, eo53⟩ := Kd.R_slice HO313.out
                      (first | subst eo53 | (injection eo53 with f1_ f2_ f3_; have f4_ := f1_.symm; have f5_ := f3_.symm; clear f1_ f2_ f3_; subst f4_; subst f5_))
                      refine hK.out _ _ ⟨(blk_cell BK309.out 0).trans rfl, (blk_cell BK309.out 1).trans rfl, (blk_cell BK309.out 2).trans rfl⟩ (fun hHeld => ?_)
                      clear hK K
                      refine norm_ (a' := ?_) ?_ ?_
                      rotate_left
                      · show Act.put _ (some 68) _ = _
                        simp only [Act.put, List.setIfInBounds_toArray, List.set_cons_zero, List.set_cons_succ, i64_w, i32_w]
                        rfl
                      refine one_ (i := 4) (N := some 69) #[true, true, true, true, true, false, false, false] rfl rfl (one_of HT_.out (by kernel_rfl)) (by decide) (fun K hK => ?_)
                      refine value_ (w1 := ?_) (v := ?_) (by rfl) rfl ?_ ?_
                      rotate_left 2
                      · go_simp
                        constructor
                        · rfl
                        · rfl
                      refine hK.out _ _ ⟨(blk_cell (blk_alloc BK309.out _) 0).trans rfl, (blk_cell (blk_alloc BK309.out _) 1).trans rfl, (blk_cell (blk_alloc BK309.out _) 2).trans rfl⟩ (fun hHeld => ?_)
                      clear hK K
                      refine norm_ (a' := ?_) ?_ ?_
                      rotate_left
                      · show Act.put _ (some 69) _ = _
                        simp only [Act.put, List.setIfInBounds_toArray, List.set_cons_zero, List.set_cons_succ, i64_w, i32_w]
                        rfl
                      refine one_ (i := 5) (N := some 70) #[true, true, true, true, true, true, false, false] rfl rfl (one_of HT_.out (by kernel_rfl)) (by decide) (fun K hK => ?_)
                      refine Kd.S_append_step (Kd.slice 74 (Kd.int .i16)) (w0 := w) w.heap.size (by rfl) (.tmp 66) (.tmp 69) 23 27 (.slice none 0 0) 24 rfl Try.underlying23 info27 rfl (by decide) (by omega) u310002 x310002_2 t311 [.slice Ao53 t311.length co53] (fun _ => True) (fun k_ => some k_ = (.slice Ao53 t311.length co53 : Value).ownBlock) rfl rfl ?aP (fun k_ hk_ => ((Kd.R_mono (ok' := fun k_ => ((fun _ => True)) k_ ∧ some k_ ≠ (u310002 : Value).ownBlock) (Kd.R_apart' (HO313.out) (Kd.S_typed HO_310002.out) (by decide)) (fun k_ hk => ⟨trivial, hk.2⟩))).1 k_ hk_.symm) ?aF ?aO ?aB ?aS ?aL ?_
                      (case aP => exact Kd.M_row (Kd.R_mono (Kd.R_tight rfl (Kd.R_mono (ok' := fun k_ => ((fun _ => True)) k_ ∧ some k_ ≠ (u310002 : Value).ownBlock) (Kd.R_apart' (HO313.out) (Kd.S_typed HO_310002.out) (by decide)) (fun k_ hk => ⟨trivial, hk.2⟩))) (fun _ h_ => h_)))
                      (case aB => exact (by repeat (first | (with_reducible first | exact HB.out | apply below_alloc | apply pw_below_drewN | apply below_drew1 | refine below_set ?_ GE299.out | refine below_set ?_ GE300.out | refine below_set ?_ GE301.out | refine below_set ?_ GE309.out) | exact HB.out)))
                      (case aF => exact (fun _ _ => trivial))
                      (case aO => exact (by (with_reducible repeat (first | apply Kd.S_alloc | apply Kd.S_drewN | apply Kd.S_drew)); exact Kd.S_mono HO_310002.out (fun k_ hk => ⟨trivial, fun e_ => hk.2 e_⟩)))
                      (case aS => exact (below_size (by repeat (first | (with_reducible first | exact HB.out | apply below_alloc | apply pw_below_drewN | apply below_drew1 | refine below_set ?_ GE299.out | refine below_set ?_ GE300.out | refine below_set ?_ GE301.out | refine below_set ?_ GE309.out) | exact HB.out))))
                      (case aL => have := LMc49.out; omega)
                      intro v315 w52 ho hb hg hat
                      rw [← Ny314.out] at ho
                      have n0_ := Aside0.mk (Kd.R_over' (by (with_reducible repeat (first | apply Kd.R_alloc | apply Kd.R_drewN | apply Kd.R_drew)); exact HO_11.out) (Kd.S_typed (by (with_reducible repeat (first | apply Kd.S_alloc | apply Kd.S_drewN | apply Kd.S_drew)); exact HO_310002.out)) (by decide) hg)
                      have n1_ := Aside0.mk (blk_grown (g := gb299) (o := .cells #[.int .u64 a0_0, .int .i64 a0_1, .slice (some ad310) l0_2.length c0_2] 39 (0, 0)) (by (with_reducible repeat (first | refine blk_drewN ?_ _ | refine blk_drew ?_ | refine blk_alloc ?_ _)); exact BK299.out) hg (Kd.S_ne HO_310002.out BK299.out (by decide)))
                      have n2_ := Aside0.mk (blk_grown (g := gb300) (o := .cells #[.int .i64 a1_0, .slice A1_1 l1_1.length c1_1, .slice A1_2 l1_2.length c1_2] 25 (0, 0)) (by (with_reducible repeat (first | refine blk_drewN ?_ _ | refine blk_drew ?_ | refine blk_alloc ?_ _)); exact BK300.out) hg (Kd.S_ne HO_310002.out BK300.out (by decide)))
                      have n3_ := Aside0.mk (blk_grown (g := gb301) (o := .cells #[.int .u64 0, .int .i64 0, .slice none 0 0] 39 (0, 0)) (by (with_reducible repeat (first | refine blk_drewN ?_ _ | refine blk_drew ?_ | refine blk_alloc ?_ _)); exact BK301.out) hg (Kd.S_ne HO_310002.out BK301.out (by decide)))
                      have n4_ := Aside0.mk (blk_grown (g := gb309) (o := .cells #[.int .u64 t305, .int .i64 (wrap64 (a0_1 + (t304.length : Int))), u310002] 39 (0, 0)) (by (with_reducible repeat (first | refine blk_drewN ?_ _ | refine blk_drew ?_ | refine blk_alloc ?_ _)); exact BK309.out) hg (Kd.S_ne HO_310002.out BK309.out (by decide)))
                      have n5_ := Aside0.mk (hb)
                      have n6_ := Aside0.mk (ho)
                      clear HO_11
                      clear BK299
                      clear BK300
                      clear BK301
                      clear BK309
                      clear HB
                      clear HO_310002
                      clear HO313
                      have HO_11 := n0_
                      have BK299 := n1_
                      have BK300 := n2_
                      have BK301 := n3_
                      have BK309 := n4_
                      have HB := n5_
                      have HO316 := n6_
                      clear n0_ n1_ n2_ n3_ n4_ n5_ n6_
                      clear ho hb hg hat
                      obtain ⟨Ao54, co54, eo54⟩ := Kd.S_slice HO316.out
                      (first | subst eo54 | (injection eo54 with f1_ f2_ f3_; have f4_ := f1_.symm; have f5_ := f3_.symm; clear f1_ f2_ f3_; subst f4_; subst f5_))
                      refine hK.out _ _ ⟨(blk_cell BK309.out 0).trans rfl, (blk_cell BK309.out 1).trans rfl, (blk_cell BK309.out 2).trans rfl⟩ (fun hHeld => ?_)
                      clear hK K
                      refine norm_ (a' := ?_) ?_ ?_
                      rotate_left
                      · show Act.put _ (some 70) _ = _
                        simp only [Act.put, List.setIfInBounds_toArray, List.set_cons_zero, List.set_cons_succ, i64_w, i32_w]
                        rfl
                      refine pure_ (i := 6) (N := some 71) (v := ?_) (a' := ?_) #[true, true, true, true, true, true, true, false] rfl rfl (any_of HT_.out (by kernel_rfl)) (fun _ _ _ h => h) (Or.inl ⟨by rfl, ?_⟩) ?_ ?_
                      rotate_left
                      · intro w'
                        go_simp
                        with_reducible rfl
                      rotate_left
                      · simp only [Act.put, List.setIfInBounds_toArray, List.set_cons_zero, List.set_cons_succ, i64_w, i32_w]
                        rfl
                      refine last_ (i := 7) (N := none) #[true, true, true, true, true, true, true, true] rfl rfl (one_of HT_.out (by kernel_rfl)) (by decide) (fun K hK => ?_)
                      have hs55 : w52.cell? ⟨gb309, 2, none⟩ = some (u310002) := (blk_cell BK309.out 2).trans rfl
                      have hfs55 := blk_frozen BK309.out 2
                      have hns55_0 := NB299_309.out
                      have hns55_1 := NB300_309.out
                      have hns55_2 := NB301_309.out
                      have hms55_0 := NB309_299.out
                      have hms55_1 := NB309_300.out
                      have hms55_2 := NB309_301.out
                      refine skip_ (w1 := ?_) (by rfl) rfl ?_ ?_
                      rotate_left
                      · go_simp
                        rfl
                      refine hK.out _ _ ?_
                      clear hK K
                      refine done_ (done_of HT_.out (by kernel_rfl)) ?_
                      try go_wp2
                      go_roundg k2
                      case measure => have := HJ4.out; have := HK2.out; omega
                      case rel => exact ⟨(wrap64 (x61_2 + 1)), (y314), (.slice Ao54 y314.length co54), (by first | rfl | (simp; done) | (simp [*]; done)), H', ⟨by have := HJ4.out; have := HK2.out; omega⟩, ⟨by (with_reducible repeat (first | apply Kd.R_alloc | apply Kd.R_drewN | apply Kd.R_drew)); exact Kd.R_mono (Kd.R_far (p := ⟨gb309, 2, none⟩) (Kd.R_types HO_11.out BK309.out (by decide)) (fun _ hk => hk.2) (.slice Ao54 y314.length co54)) (fun _ hk => trivial)⟩, ⟨by (with_reducible repeat (first | apply Kd.S_alloc | apply Kd.S_drewN | apply Kd.S_drew)); exact Kd.S_mono (Kd.S_far (p := ⟨gb309, 2, none⟩) (Kd.S_types HO316.out BK309.out (by decide)) (fun _ hk => hk.2) (.slice Ao54 y314.length co54)) (fun _ hk => trivial)⟩, ⟨by (with_reducible repeat (first | refine blk_drewN ?_ _ | refine blk_drew ?_ | refine blk_alloc ?_ _)); refine blk_far ?_ NB299_309.out _; (with_reducible repeat (first | refine blk_drewN ?_ _ | refine blk_drew ?_ | refine blk_alloc ?_ _)); exact BK299.out⟩, ⟨by (with_reducible repeat (first | refine blk_drewN ?_ _ | refine blk_drew ?_ | refine blk_alloc ?_ _)); refine blk_far ?_ NB300_309.out _; (with_reducible repeat (first | refine blk_drewN ?_ _ | refine blk_drew ?_ | refine blk_alloc ?_ _)); exact BK300.out⟩, ⟨by (with_reducible repeat (first | refine blk_drewN ?_ _ | refine blk_drew ?_ | refine blk_alloc ?_ _)); refine blk_far ?_ NB301_309.out _; (with_reducible repeat (first | refine blk_drewN ?_ _ | refine blk_drew ?_ | refine blk_alloc ?_ _)); exact BK301.out⟩, ⟨by (with_reducible repeat (first | refine blk_drewN ?_ _ | refine blk_drew ?_ | refine blk_alloc ?_ _)); refine blk_put (cs := #[.int .u64 t305, .int .i64 (wrap64 (a0_1 + (t304.length : Int))), u310002]) ?_ 2 _ rfl; (with_reducible repeat (first | refine blk_drewN ?_ _ | refine blk_drew ?_ | refine blk_alloc ?_ _)); exact BK309.out⟩, ⟨by repeat (first | (with_reducible first | exact HB.out | apply below_alloc | apply pw_below_drewN | apply below_drew1 | refine below_set ?_ GE299.out | refine below_set ?_ GE300.out | refine below_set ?_ GE301.out | refine below_set ?_ GE309.out) | exact HB.out)⟩⟩
                    · rw [if_neg c49] at H
                      exact absurd H (by simp)
                  · rw [if_neg c47] at H
                    exact absurd H (by simp)
                · rw [if_neg c46] at H
                  exact absurd H (by simp)
              · rw [if_neg c45] at H
                have c45b0 : decide (x61_2 < (l0_2.length : Int)) = false := decide_eq_false c45
                clear c45
                have H' := Aside0.mk H
                clear H
                go_wp2
                go_loopg [75] k2 (fun kq v75 w' => ∃ (x75_3 : Int) (x310002_3 : List (List Int)) (u310002 : Value), v75 = .int .i64 x75_3 ∧ Aside0 (train_Step.l1 kq a3 t304 (t304.length : Int) x75_3 a1_0 l1_1 l1_2 t305 (wrap64 (a0_1 + (t304.length : Int))) x310002_3 = some (r1, r2, r3, r4, r5)) ∧ Aside0 (kq ≤ k2) ∧ Aside0 (Kd.R (Kd.int .i64) 3 w' w.heap.size (fun _ => True) (.slice Ao38 t304.length co38) t304) ∧ Aside0 (Kd.S (Kd.slice 74 (Kd.int .i16)) 27 w' w.heap.size (fun _ => True) u310002 x310002_3) ∧ Aside0 (w'.heap[gb299]? = some (.cells #[.int .u64 a0_0, .int .i64 a0_1, (.slice A0_2 l0_2.length c0_2)] 39 (0, 0))) ∧ Aside0 (w'.heap[gb300]? = some (.cells #[.int .i64 a1_0, (.slice A1_1 l1_1.length c1_1), (.slice A1_2 l1_2.length c1_2)] 25 (0, 0))) ∧ Aside0 (w'.heap[gb301]? = some (.cells #[.int .u64 0, .int .i64 0, (.slice none 0 0)] 39 (0, 0))) ∧ Aside0 (w'.heap[gb309]? = some (.cells #[.int .u64 t305, .int .i64 (wrap64 (a0_1 + (t304.length : Int))), u310002] 39 (0, 0))) ∧ Aside0 (Below w.heap.size w w'))
                case atStart => exact ⟨(0), (x310002_2), (u310002), (by first | rfl | (simp; done) | (simp [*]; done)), H', ⟨Nat.le_refl _⟩, ⟨by (with_reducible repeat (first | apply Kd.R_alloc | apply Kd.R_drewN | apply Kd.R_drew)); exact HO_11.out⟩, ⟨by (with_reducible repeat (first | apply Kd.S_alloc | apply Kd.S_drewN | apply Kd.S_drew)); exact HO_310002.out⟩, ⟨by (with_reducible repeat (first | refine blk_drewN ?_ _ | refine blk_drew ?_ | refine blk_alloc ?_ _)); exact BK299.out⟩, ⟨by (with_reducible repeat (first | refine blk_drewN ?_ _ | refine blk_drew ?_ | refine blk_alloc ?_ _)); exact BK300.out⟩, ⟨by (with_reducible repeat (first | refine blk_drewN ?_ _ | refine blk_drew ?_ | refine blk_alloc ?_ _)); exact BK301.out⟩, ⟨by (with_reducible repeat (first | refine blk_drewN ?_ _ | refine blk_drew ?_ | refine blk_alloc ?_ _)); exact BK309.out⟩, ⟨by repeat (first | (with_reducible first | exact HB.out | apply below_alloc | apply pw_below_drewN | apply below_drew1 | refine below_set ?_ GE299.out | refine below_set ?_ GE300.out | refine below_set ?_ GE301.out | refine below_set ?_ GE309.out) | exact HB.out)⟩⟩
                case round =>
                  clear H'
                  try clear c1
                  try clear c2
                  try clear p2
                  try clear c3
                  try clear p3
                  try clear q3
                  try clear hx3
                  try clear c4
                  try clear p6
                  try clear c9
                  try clear c10
                  try clear c10b0
                  try clear c10b1
                  try clear c12
                  try clear c13
                  try clear c16
                  try clear c19
                  try clear c20
                  try clear c23
                  try clear c24
                  try clear c25
                  try clear c30
                  try clear c30b0
                  try clear c30b1
                  try clear c31
                  try clear p31
                  try clear q31
                  try clear hx31
                  try clear c32
                  try clear c34
                  try clear c40
                  try clear c41
                  try clear c42
                  try clear c45
                  try clear c45b0
                  try clear c46
                  try clear c46b0
                  try clear c47
                  try clear c47b0
                  try clear c49
                  try clear hcz14_0
                  try clear hcz14_1
                  try clear hcz14_2
                  try clear hcz17_0
                  try clear hcz17_1
                  try clear hcz17_2
                  try clear hcz21_0
                  try clear hcz21_1
                  try clear hcz21_2
                  try clear hcz26_0
                  try clear hcz26_1
                  try clear hcz26_2
                  try clear hcz33_0
                  try clear hcz33_1
                  try clear hcz33_2
                  try clear hcz35_0
                  try clear hcz35_1
                  try clear hcz35_2
                  try clear hcz37_0
                  try clear hcz37_1
                  try clear hcz37_2
                  try clear hcz43_0
                  try clear hcz43_1
                  try clear hcz43_2
                  try clear hcz44_0
                  try clear hcz44_1
                  try clear hcz44_2
                  try clear hfz14_0
                  try clear hfz14_1
                  try clear hfz14_2
                  try clear hfz17_0
                  try clear hfz17_1
                  try clear hfz17_2
                  try clear hfz21_0
                  try clear hfz21_1
                  try clear hfz21_2
                  try clear hfz26_0
                  try clear hfz26_1
                  try clear hfz26_2
                  try clear hfz33_0
                  try clear hfz33_1
                  try clear hfz33_2
                  try clear hfz35_0
                  try clear hfz35_1
                  try clear hfz35_2
                  try clear hfz37_0
                  try clear hfz37_1
                  try clear hfz37_2
                  try clear hfz43_0
                  try clear hfz43_1
                  try clear hfz43_2
                  try clear hfz44_0
                  try clear hfz44_1
                  try clear hfz44_2
                  try clear hx310_0
                  try clear p2
                  try clear p310
                  try clear p6
                  try clear q310
                  obtain ⟨x75_3, x310002_3, u310002, rfl, HA, HK3, HO_73, HO_310002, BK299, BK300, BK301, BK309, HB⟩ := hrel
                  cases gk with
                  | zero => exact absurd HA.out (by simp [train_Step.l1])
                  | succ k3 =>
                    have H := HA.out
                    clear HA
                    simp only [train_Step.l1] at H
                    by_cases c56 : x75_3 < (t304.length : Int)
                    · rw [if_pos c56] at H
                      have c56b0 : decide (x75_3 < (t304.length : Int)) = true := decide_eq_true c56
                      clear c56
                      by_cases c57 : 0 ≤ x75_3
                      · rw [if_pos c57] at H
                        have c57b0 : decide (0 ≤ x75_3) = true := decide_eq_true c57
                        clear c57
                        by_cases c58 : x75_3 < (t304.length : Int)
                        · rw [if_pos c58] at H
                          have c58b0 : decide (x75_3 < (t304.length : Int)) = true := decide_eq_true c58
                          clear c58
                          by_cases c59 : 0 ≤ (rd t304 x75_3)
                          · rw [if_pos c59] at H
                            have c59b0 : decide (0 ≤ (rd t304 x75_3)) = true := decide_eq_true c59
                            clear c59
                            by_cases c60 : (rd t304 x75_3) < (l1_1.length : Int)
                            · rw [if_pos c60] at H
                              have c60b0 : decide ((rd t304 x75_3) < (l1_1.length : Int)) = true := decide_eq_true c60
                              clear c60
                              by_cases c61 : (rd l1_1 (rd t304 x75_3)) = (-1)
                              · rw [if_pos c61] at H
                                have c61b0 : ((rd l1_1 (rd t304 x75_3)) == (-1)) = true := beq_iff_eq.mpr c61
                                have c61b1 : ((rd l1_1 (rd t304 x75_3)) != (-1)) = false := bne_eq_false_iff_eq.mpr c61
                                clear c61
                                have H' := Aside0.mk H
                                clear H
                                have p317 : 0 ≤ (x75_3 : Int) := of_decide_eq_true (by first | (with_reducible assumption) | assumption)
                                have q317 : x75_3 < (t304.length : Int) := of_decide_eq_true (by first | (with_reducible assumption) | assumption)
                                obtain ⟨ad317, e317, hx317_0⟩ := Kd.at_int (Kd.R_reads' HO_73.out).2.2 x75_3 p317 q317
                                cases e317
                                replace p317 := eq_true p317
                                replace q317 := eq_true q317
                                have hnb62 := NB300_299.out
                                have hnc62 := NB299_300.out
                                have hnb63 := NB300_301.out
                                have hnc63 := NB301_300.out
                                have hnb64 := NB300_309.out
                                have hnc64 := NB309_300.out
                                have hcz65_0 : wr.cell? ⟨gb300, 0, none⟩ = some (.int .i64 a1_0) := (blk_cell BK300.out 0).trans rfl
                                have hcz65_1 : wr.cell? ⟨gb300, 1, none⟩ = some (.slice A1_1 l1_1.length c1_1) := (blk_cell BK300.out 1).trans rfl
                                have hcz65_2 : wr.cell? ⟨gb300, 2, none⟩ = some (.slice A1_2 l1_2.length c1_2) := (blk_cell BK300.out 2).trans rfl
                                have hfz65_0 := blk_frozen BK300.out 0
                                have hfz65_1 := blk_frozen BK300.out 1
                                have hfz65_2 := blk_frozen BK300.out 2
                                have p318 : 0 ≤ ((rd t304 x75_3) : Int) := of_decide_eq_true (by first | (with_reducible assumption) | assumption)
                                have q318 : (rd t304 x75_3) < (l1_1.length : Int) := of_decide_eq_true (by first | (with_reducible assumption) | assumption)
                                obtain ⟨ad318, e318, hx318_0⟩ := Kd.at_int HR1_1.out (rd t304 x75_3) p318 q318
                                cases e318
                                replace hx318_0 := (HB.out.cell (World.block_lt_of_cell? w _ hx318_0)).trans hx318_0
                                replace p318 := eq_true p318
                                replace q318 := eq_true q318
                                go_wp2
                                go_roundg k3
                                case measure => have := HJ4.out; have := HK2.out; have := HK3.out; omega
                                case rel => exact ⟨(wrap64 (x75_3 + 1)), (x310002_3), (u310002), (by first | rfl | (simp; done) | (simp [*]; done)), H', ⟨by have := HJ4.out; have := HK2.out; have := HK3.out; omega⟩, ⟨by (with_reducible repeat (first | apply Kd.R_alloc | apply Kd.R_drewN | apply Kd.R_drew)); exact HO_73.out⟩, ⟨by (with_reducible repeat (first | apply Kd.S_alloc | apply Kd.S_drewN | apply Kd.S_drew)); exact HO_310002.out⟩, ⟨by (with_reducible repeat (first | refine blk_drewN ?_ _ | refine blk_drew ?_ | refine blk_alloc ?_ _)); exact BK299.out⟩, ⟨by (with_reducible repeat (first | refine blk_drewN ?_ _ | refine blk_drew ?_ | refine blk_alloc ?_ _)); exact BK300.out⟩, ⟨by (with_reducible repeat (first | refine blk_drewN ?_ _ | refine blk_drew ?_ | refine blk_alloc ?_ _)); exact BK301.out⟩, ⟨by (with_reducible repeat (first | refine blk_drewN ?_ _ | refine blk_drew ?_ | refine blk_alloc ?_ _)); exact BK309.out⟩, ⟨by repeat (first | (with_reducible first | exact HB.out | apply below_alloc | apply pw_below_drewN | apply below_drew1 | refine below_set ?_ GE299.out | refine below_set ?_ GE300.out | refine below_set ?_ GE301.out | refine below_set ?_ GE309.out) | exact HB.out)⟩⟩
                              · rw [if_neg c61] at H
                                have c61b0 : ((rd l1_1 (rd t304 x75_3)) == (-1)) = false := beq_eq_false_iff_ne.mpr c61
                                have c61b1 : ((rd l1_1 (rd t304 x75_3)) != (-1)) = true := bne_iff_ne.mpr c61
                                by_cases c66 : (rd t304 x75_3) < (l1_2.length : Int)
                                · rw [if_pos c66] at H
                                  have c66b0 : decide ((rd t304 x75_3) < (l1_2.length : Int)) = true := decide_eq_true c66
                                  clear c66
                                  replace H := Option.bind_eq_some_iff.mp H
                                  obtain ⟨t320, A670, H⟩ := H
                                  replace H : (if x310002_3.length < 5864062014805 then (train_Step.l1 k3 a3 t304 (t304.length : Int) (wrap64 (x75_3 + 1)) a1_0 l1_1 l1_2 t305 (wrap64 (a0_1 + (t304.length : Int))) (x310002_3 ++ [t320])) else (none)) = some (r1, r2, r3, r4, r5) := H
                                  have A67 := Aside0.mk A670
                                  clear A670
                                  by_cases c68 : x310002_3.length < 5864062014805
                                  · rw [if_pos c68] at H
                                    have LMc68 := Aside0.mk c68
                                    clear c68
                                    obtain ⟨y323, hy323⟩ : ∃ y_ : List (List Int), y_ = (x310002_3 ++ [t320]) := ⟨_, rfl⟩
                                    replace H : (train_Step.l1 k3 a3 t304 (t304.length : Int) (wrap64 (x75_3 + 1)) a1_0 l1_1 l1_2 t305 (wrap64 (a0_1 + (t304.length : Int))) y323) = some (r1, r2, r3, r4, r5) := by first | (rw [hy323]; with_reducible exact H) | (have H2_ := (Option.bind_some _ _).symm.trans H; rw [hy323]; with_reducible exact H2_) | (have H2_ := (Option.bind_some _ _).symm.trans H; with_reducible exact H2_) | with_reducible exact H | (rw [hy323]; exact H) | exact H
                                    have Ny323 := Aside0.mk hy323
                                    clear hy323
                                    have H' := Aside0.mk H
                                    clear H
                                    have p317 : 0 ≤ (x75_3 : Int) := of_decide_eq_true (by first | (with_reducible assumption) | assumption)
                                    have q317 : x75_3 < (t304.length : Int) := of_decide_eq_true (by first | (with_reducible assumption) | assumption)
                                    obtain ⟨ad317, e317, hx317_0⟩ := Kd.at_int (Kd.R_reads' HO_73.out).2.2 x75_3 p317 q317
                                    cases e317
                                    replace p317 := eq_true p317
                                    replace q317 := eq_true q317
                                    have hnb69 := NB300_299.out
                                    have hnc69 := NB299_300.out
                                    have hnb70 := NB300_301.out
                                    have hnc70 := NB301_300.out
                                    have hnb71 := NB300_309.out
                                    have hnc71 := NB309_300.out
                                    have hcz72_0 : wr.cell? ⟨gb300, 0, none⟩ = some (.int .i64 a1_0) := (blk_cell BK300.out 0).trans rfl
                                    have hcz72_1 : wr.cell? ⟨gb300, 1, none⟩ = some (.slice A1_1 l1_1.length c1_1) := (blk_cell BK300.out 1).trans rfl
                                    have hcz72_2 : wr.cell? ⟨gb300, 2, none⟩ = some (.slice A1_2 l1_2.length c1_2) := (blk_cell BK300.out 2).trans rfl
                                    have hfz72_0 := blk_frozen BK300.out 0
                                    have hfz72_1 := blk_frozen BK300.out 1
                                    have hfz72_2 := blk_frozen BK300.out 2
                                    have p318 : 0 ≤ ((rd t304 x75_3) : Int) := of_decide_eq_true (by first | (with_reducible assumption) | assumption)
                                    have q318 : (rd t304 x75_3) < (l1_1.length : Int) := of_decide_eq_true (by first | (with_reducible assumption) | assumption)
                                    obtain ⟨ad318, e318, hx318_0⟩ := Kd.at_int HR1_1.out (rd t304 x75_3) p318 q318
                                    cases e318
                                    replace hx318_0 := (HB.out.cell (World.block_lt_of_cell? w _ hx318_0)).trans hx318_0
                                    replace p318 := eq_true p318
                                    replace q318 := eq_true q318
                                    try go_wp2
                                    have n0_ := Aside0.mk (Kd.R_drew HO_73.out)
                                    have n1_ := Aside0.mk (Kd.S_drew HO_310002.out)
                                    have n2_ := Aside0.mk (blk_drew BK299.out)
                                    have n3_ := Aside0.mk (blk_drew BK300.out)
                                    have n4_ := Aside0.mk (blk_drew BK301.out)
                                    have n5_ := Aside0.mk (blk_drew BK309.out)
                                    have n6_ := Aside0.mk (below_drew1 HB.out)
                                    clear HO_73
                                    clear HO_310002
                                    clear BK299
                                    clear BK300
                                    clear BK301
                                    clear BK309
                                    clear HB
                                    have HO_73 := n0_
                                    have HO_310002 := n1_
                                    have BK299 := n2_
                                    have BK300 := n3_
                                    have BK301 := n4_
                                    have BK309 := n5_
                                    have HB := n6_
                                    clear n0_ n1_ n2_ n3_ n4_ n5_ n6_
                                    have p319 : 0 ≤ ((rd t304 x75_3) : Int) := of_decide_eq_true (by first | (with_reducible assumption) | assumption)
                                    have q319 : (rd t304 x75_3) < (l1_2.length : Int) := of_decide_eq_true (by first | (with_reducible assumption) | assumption)
                                    obtain ⟨ad319, A319_0, c319_0, e319, hx319_0, hl319_0, hi319_0⟩ := at_L3 HR1_2.out (rd t304 x75_3) p319 q319
                                    have hw319_0 := hx319_0
                                    cases e319
                                    replace hx319_0 := (HB.out.cell (World.block_lt_of_cell? w _ hx319_0)).trans hx319_0
                                    have HR319_0 := Aside0.mk hi319_0
                                    have HC319_0 := Aside0.mk hl319_0
                                    clear hi319_0 hl319_0
                                    replace p319 := eq_true p319
                                    replace q319 := eq_true q319
                                    refine start_ (n := 12) (S := fun w' => w'.cell? ⟨gb309, 0, none⟩ = some (.int .u64 t305) ∧ w'.cell? ⟨gb309, 1, none⟩ = some (.int .i64 (wrap64 (a0_1 + (t304.length : Int)))) ∧ w'.cell? ⟨gb309, 2, none⟩ = some (u310002) ∧ w'.cell? ⟨gb300, 0, none⟩ = some (.int .i64 a1_0) ∧ w'.cell? ⟨gb300, 1, none⟩ = some (.slice (some ad318) l1_1.length c1_1) ∧ w'.cell? ⟨gb300, 2, none⟩ = some (.slice (some ad319) l1_2.length c1_2) ∧ w'.cell? (ad319.add ((rd t304 x75_3)).toNat) = some (.slice A319_0 (rd_L3 l1_2 (rd t304 x75_3)).length c319_0)) (ds := [11]) #[false, false, false, false, false, false, false, false, false, false, false, false] (by kernel_rfl) rfl rfl ⟨(blk_cell BK309.out 0).trans rfl, (blk_cell BK309.out 1).trans rfl, (blk_cell BK309.out 2).trans rfl, (blk_cell BK300.out 0).trans rfl, (blk_cell BK300.out 1).trans rfl, (blk_cell BK300.out 2).trans rfl, ((HB.out.cell (World.block_lt_of_cell? w _ hw319_0)).trans hw319_0)⟩ (fun hHeld => ?_); refine with_tabW train_Step.tab16 train_Step.bits16 (fun HT_ HW_ => ?_)
                                    generalize wr.drew = w73 at HO_73 HO_310002 BK299 BK300 BK301 BK309 HB HR319_0 hx319_0 hHeld ⊢
                                    refine pure_ (i := 0) (N := some 85) (v := ?_) (a' := ?_) #[true, false, false, false, false, false, false, false, false, false, false, false] rfl rfl (any_of HT_.out (by kernel_rfl)) (fun _ _ _ h => h) (Or.inl ⟨by rfl, ?_⟩) ?_ ?_
                                    rotate_left
                                    · intro w'
                                      go_simp
                                      with_reducible rfl
                                    rotate_left
                                    · simp only [Act.put, List.setIfInBounds_toArray, List.set_cons_zero, List.set_cons_succ, i64_w, i32_w]
                                      rfl
                                    refine pure_ (i := 2) (N := some 87) (v := ?_) (a' := ?_) #[true, false, true, false, false, false, false, false, false, false, false, false] rfl rfl (any_of HT_.out (by kernel_rfl)) (fun _ _ _ h => h) (Or.inl ⟨by rfl, ?_⟩) ?_ ?_
                                    rotate_left
                                    · intro w'
                                      go_simp
                                      with_reducible rfl
                                    rotate_left
                                    · simp only [Act.put, List.setIfInBounds_toArray, List.set_cons_zero, List.set_cons_succ, i64_w, i32_w]
                                      rfl
                                    refine pure_ (i := 4) (N := some 89) (v := ?_) (a' := ?_) #[true, false, true, false, true, false, false, false, false, false, false, false] rfl rfl (any_of HT_.out (by kernel_rfl)) (fun _ _ _ h => h) (Or.inl ⟨by rfl, ?_⟩) ?_ ?_
                                    rotate_left
                                    · intro w'
                                      go_simp
                                      with_reducible rfl
                                    rotate_left
                                    · simp only [Act.put, List.setIfInBounds_toArray, List.set_cons_zero, List.set_cons_succ, i64_w, i32_w]
                                      rfl
                                    refine take_ (i := 1) (N := some 86) (v := ?_) (a' := ?_) #[true, true, true, false, true, false, false, false, false, false, false, false] rfl rfl (take_ofW HT_.out HW_.out (by kernel_rfl)) (fun _ _ _ h => h) (Or.inl ⟨by rfl, ?_⟩) hHeld ?_ ?_
                                    rotate_left
                                    · rintro w' ⟨s0, s1, s2, s3, s4, s5, s6⟩
                                      go_simp
                                      with_reducible rfl
                                    rotate_left
                                    · simp only [Act.put, List.setIfInBounds_toArray, List.set_cons_zero, List.set_cons_succ, i64_w, i32_w]
                                      rfl
                                    refine take_ (i := 3) (N := some 88) (v := ?_) (a' := ?_) #[true, true, true, true, true, false, false, false, false, false, false, false] rfl rfl (take_ofW HT_.out HW_.out (by kernel_rfl)) (fun _ _ _ h => h) (Or.inl ⟨by rfl, ?_⟩) hHeld ?_ ?_
                                    rotate_left
                                    · rintro w' ⟨s0, s1, s2, s3, s4, s5, s6⟩
                                      go_simp
                                      with_reducible rfl
                                    rotate_left
                                    · simp only [Act.put, List.setIfInBounds_toArray, List.set_cons_zero, List.set_cons_succ, i64_w, i32_w]
                                      rfl
                                    refine pure_ (i := 5) (N := some 90) (v := ?_) (a' := ?_) #[true, true, true, true, true, true, false, false, false, false, false, false] rfl rfl (any_of HT_.out (by kernel_rfl)) (fun _ _ _ h => h) (Or.inl ⟨by rfl, ?_⟩) ?_ ?_
                                    rotate_left
                                    · intro w'
                                      go_simp
                                      with_reducible rfl
                                    rotate_left
                                    · simp only [Act.put, List.setIfInBounds_toArray, List.set_cons_zero, List.set_cons_succ, i64_w, i32_w]
                                      rfl
                                    refine take_ (i := 6) (N := some 91) (v := ?_) (a' := ?_) #[true, true, true, true, true, true, true, false, false, false, false, false] rfl rfl (take_ofW HT_.out HW_.out (by kernel_rfl)) (fun _ _ _ h => h) (Or.inl ⟨by rfl, ?_⟩) hHeld ?_ ?_
                                    rotate_left
                                    · rintro w' ⟨s0, s1, s2, s3, s4, s5, s6⟩
                                      go_simp
                                      with_reducible rfl
                                    rotate_left
                                    · simp only [Act.put, List.setIfInBounds_toArray, List.set_cons_zero, List.set_cons_succ, i64_w, i32_w]
                                      rfl
                                    refine one_ (i := 7) (N := some 92) #[true, true, true, true, true, true, true, true, false, false, false, false] rfl rfl (one_of HT_.out (by kernel_rfl)) (by decide) (fun K hK => ?_)
                                    refine goes_ Try.func98 (by kernel_rfl) rfl #[.slice A319_0 (rd_L3 l1_2 (rd t304 x75_3)).length c319_0] (by rfl) rfl rfl (by (try simp only [List.map_toArray, List.map_cons, List.map_nil]); first | done | rfl | (simp only [List.length_drop, List.length_take]; rfl)) ?_
                                    with_reducible refine (api_Vec_int16_98.calls _ _ (rd_L3 l1_2 (rd t304 x75_3)) t320 _ ?side1 ?side2 A67.out).mono ?_
                                    (case side1 => repeat (first | exact (Kd.C_below HR319_0.out HB.out) | (with_reducible refine Kd.C_alloc ?_ _) | (with_reducible refine Kd.C_drewN ?_ _) | (with_reducible refine Kd.C_drew ?_)))
                                    (case side2 => exact HC319_0.out)
                                    rintro e w74 ⟨v321, rfl, ho0, hb⟩
                                    refine ⟨_, rfl, ?_⟩
                                    have n0_ := Aside0.mk (Kd.R_below (by (with_reducible repeat (first | apply Kd.R_alloc | apply Kd.R_drewN | apply Kd.R_drew)); exact HO_73.out) hb)
                                    have n1_ := Aside0.mk (Kd.S_elder' (by (with_reducible repeat (first | apply Kd.S_alloc | apply Kd.S_drewN | apply Kd.S_drew)); exact HO_310002.out) (Kd.R_base ho0) hb)
                                    have n2_ := Aside0.mk (Kd.R_lower ho0 (below_size (by repeat (first | (with_reducible first | exact HB.out | apply below_alloc | apply pw_below_drewN | apply below_drew1 | refine below_set ?_ GE299.out | refine below_set ?_ GE300.out | refine below_set ?_ GE301.out | refine below_set ?_ GE309.out) | exact HB.out))))
                                    have n3_ := Aside0.mk (blk_below (g := gb299) (o := .cells #[.int .u64 a0_0, .int .i64 a0_1, .slice A0_2 l0_2.length c0_2] 39 (0, 0)) (by (with_reducible repeat (first | refine blk_drewN ?_ _ | refine blk_drew ?_ | refine blk_alloc ?_ _)); exact BK299.out) hb)
                                    have n4_ := Aside0.mk (blk_below (g := gb300) (o := .cells #[.int .i64 a1_0, .slice (some ad318) l1_1.length c1_1, .slice (some ad319) l1_2.length c1_2] 25 (0, 0)) (by (with_reducible repeat (first | refine blk_drewN ?_ _ | refine blk_drew ?_ | refine blk_alloc ?_ _)); exact BK300.out) hb)
                                    have n5_ := Aside0.mk (blk_below (g := gb301) (o := .cells #[.int .u64 0, .int .i64 0, .slice none 0 0] 39 (0, 0)) (by (with_reducible repeat (first | refine blk_drewN ?_ _ | refine blk_drew ?_ | refine blk_alloc ?_ _)); exact BK301.out) hb)
                                    have n6_ := Aside0.mk (blk_below (g := gb309) (o := .cells #[.int .u64 t305, .int .i64 (wrap64 (a0_1 + (t304.length : Int))), u310002] 39 (0, 0)) (by (with_reducible repeat (first | refine blk_drewN ?_ _ | refine blk_drew ?_ | refine blk_alloc ?_ _)); exact BK309.out) hb)
                                    have n7_ := Aside0.mk (below_step (by repeat (first | (with_reducible first | exact HB.out | apply below_alloc | apply pw_below_drewN | apply below_drew1 | refine below_set ?_ GE299.out | refine below_set ?_ GE300.out | refine below_set ?_ GE301.out | refine below_set ?_ GE309.out) | exact HB.out)) hb)
                                    clear HO_73
                                    clear HO_310002
                                    clear BK299
                                    clear BK300
                                    clear BK301
                                    clear BK309
                                    clear HB
                                    have HO_73 := n0_
                                    have HO_310002 := n1_
                                    have HO322 := n2_
                                    have BK299 := n3_
                                    have BK300 := n4_
                                    have BK301 := n5_
                                    have BK309 := n6_
                                    have HB := n7_
                                    clear n0_ n1_ n2_ n3_ n4_ n5_ n6_ n7_
                                    (try clear hb)
                                    (try clear hb2)
                                    (try clear hk)
                                    (try clear hi)
                                    (try clear ho0)
                                    obtain ⟨Ao76, co76, eo76⟩ := Kd.R_slice HO322.out
                                    (first | subst eo76 | (injection eo76 with f1_ f2_ f3_; have f4_ := f1_.symm; have f5_ := f3_.symm; clear f1_ f2_ f3_; subst f4_; subst f5_))
                                    refine hK.out _ _ ⟨(blk_cell BK309.out 0).trans rfl, (blk_cell BK309.out 1).trans rfl, (blk_cell BK309.out 2).trans rfl, (blk_cell BK300.out 0).trans rfl, (blk_cell BK300.out 1).trans rfl, (blk_cell BK300.out 2).trans rfl, ((HB.out.cell (World.block_lt_of_cell? w _ hw319_0)).trans hw319_0)⟩ (fun hHeld => ?_)
                                    clear hK K
                                    refine norm_ (a' := ?_) ?_ ?_
                                    rotate_left
                                    · show Act.put _ (some 92) _ = _
                                      simp only [Act.put, List.setIfInBounds_toArray, List.set_cons_zero, List.set_cons_succ, i64_w, i32_w]
                                      rfl
                                    refine one_ (i := 8) (N := some 93) #[true, true, true, true, true, true, true, true, true, false, false, false] rfl rfl (one_of HT_.out (by kernel_rfl)) (by decide) (fun K hK => ?_)
                                    refine value_ (w1 := ?_) (v := ?_) (by rfl) rfl ?_ ?_
                                    rotate_left 2
                                    · go_simp
                                      constructor
                                      · rfl
                                      · rfl
                                    refine hK.out _ _ ⟨(blk_cell (blk_alloc BK309.out _) 0).trans rfl, (blk_cell (blk_alloc BK309.out _) 1).trans rfl, (blk_cell (blk_alloc BK309.out _) 2).trans rfl, (blk_cell (blk_alloc BK300.out _) 0).trans rfl, (blk_cell (blk_alloc BK300.out _) 1).trans rfl, (blk_cell (blk_alloc BK300.out _) 2).trans rfl, (World.cell?_alloc_lt _ _ _ (World.block_lt_of_cell? _ _ (((HB.out.cell (World.block_lt_of_cell? w _ hw319_0)).trans hw319_0)))).trans (((HB.out.cell (World.block_lt_of_cell? w _ hw319_0)).trans hw319_0))⟩ (fun hHeld => ?_)
                                    clear hK K
                                    refine norm_ (a' := ?_) ?_ ?_
                                    rotate_left
                                    · show Act.put _ (some 93) _ = _
                                      simp only [Act.put, List.setIfInBounds_toArray, List.set_cons_zero, List.set_cons_succ, i64_w, i32_w]
                                      rfl
                                    refine one_ (i := 9) (N := some 94) #[true, true, true, true, true, true, true, true, true, true, false, false] rfl rfl (one_of HT_.out (by kernel_rfl)) (by decide) (fun K hK => ?_)
                                    refine Kd.S_append_step (Kd.slice 74 (Kd.int .i16)) (w0 := w) w.heap.size (by rfl) (.tmp 86) (.tmp 93) 23 27 (.slice none 0 0) 24 rfl Try.underlying23 info27 rfl (by decide) (by omega) u310002 x310002_3 t320 [.slice Ao76 t320.length co76] (fun _ => True) (fun k_ => some k_ = (.slice Ao76 t320.length co76 : Value).ownBlock) rfl rfl ?aP (fun k_ hk_ => ((Kd.R_mono (ok' := fun k_ => ((fun _ => True)) k_ ∧ some k_ ≠ (u310002 : Value).ownBlock) (Kd.R_apart' (HO322.out) (Kd.S_typed HO_310002.out) (by decide)) (fun k_ hk => ⟨trivial, hk.2⟩))).1 k_ hk_.symm) ?aF ?aO ?aB ?aS ?aL ?_
                                    (case aP => exact Kd.M_row (Kd.R_mono (Kd.R_tight rfl (Kd.R_mono (ok' := fun k_ => ((fun _ => True)) k_ ∧ some k_ ≠ (u310002 : Value).ownBlock) (Kd.R_apart' (HO322.out) (Kd.S_typed HO_310002.out) (by decide)) (fun k_ hk => ⟨trivial, hk.2⟩))) (fun _ h_ => h_)))
                                    (case aB => exact (by repeat (first | (with_reducible first | exact HB.out | apply below_alloc | apply pw_below_drewN | apply below_drew1 | refine below_set ?_ GE299.out | refine below_set ?_ GE300.out | refine below_set ?_ GE301.out | refine below_set ?_ GE309.out) | exact HB.out)))
                                    (case aF => exact (fun _ _ => trivial))
                                    (case aO => exact (by (with_reducible repeat (first | apply Kd.S_alloc | apply Kd.S_drewN | apply Kd.S_drew)); exact Kd.S_mono HO_310002.out (fun k_ hk => ⟨trivial, fun e_ => hk.2 e_⟩)))
                                    (case aS => exact (below_size (by repeat (first | (with_reducible first | exact HB.out | apply below_alloc | apply pw_below_drewN | apply below_drew1 | refine below_set ?_ GE299.out | refine below_set ?_ GE300.out | refine below_set ?_ GE301.out | refine below_set ?_ GE309.out) | exact HB.out))))
                                    (case aL => have := LMc68.out; omega)
                                    intro v324 w75 ho hb hg hat
                                    rw [← Ny323.out] at ho
                                    have n0_ := Aside0.mk (Kd.R_over' (by (with_reducible repeat (first | apply Kd.R_alloc | apply Kd.R_drewN | apply Kd.R_drew)); exact HO_73.out) (Kd.S_typed (by (with_reducible repeat (first | apply Kd.S_alloc | apply Kd.S_drewN | apply Kd.S_drew)); exact HO_310002.out)) (by decide) hg)
                                    have n1_ := Aside0.mk (blk_grown (g := gb299) (o := .cells #[.int .u64 a0_0, .int .i64 a0_1, .slice A0_2 l0_2.length c0_2] 39 (0, 0)) (by (with_reducible repeat (first | refine blk_drewN ?_ _ | refine blk_drew ?_ | refine blk_alloc ?_ _)); exact BK299.out) hg (Kd.S_ne HO_310002.out BK299.out (by decide)))
                                    have n2_ := Aside0.mk (blk_grown (g := gb300) (o := .cells #[.int .i64 a1_0, .slice (some ad318) l1_1.length c1_1, .slice (some ad319) l1_2.length c1_2] 25 (0, 0)) (by (with_reducible repeat (first | refine blk_drewN ?_ _ | refine blk_drew ?_ | refine blk_alloc ?_ _)); exact BK300.out) hg (Kd.S_ne HO_310002.out BK300.out (by decide)))
                                    have n3_ := Aside0.mk (blk_grown (g := gb301) (o := .cells #[.int .u64 0, .int .i64 0, .slice none 0 0] 39 (0, 0)) (by (with_reducible repeat (first | refine blk_drewN ?_ _ | refine blk_drew ?_ | refine blk_alloc ?_ _)); exact BK301.out) hg (Kd.S_ne HO_310002.out BK301.out (by decide)))
                                    have n4_ := Aside0.mk (blk_grown (g := gb309) (o := .cells #[.int .u64 t305, .int .i64 (wrap64 (a0_1 + (t304.length : Int))), u310002] 39 (0, 0)) (by (with_reducible repeat (first | refine blk_drewN ?_ _ | refine blk_drew ?_ | refine blk_alloc ?_ _)); exact BK309.out) hg (Kd.S_ne HO_310002.out BK309.out (by decide)))
                                    have n5_ := Aside0.mk (hb)
                                    have n6_ := Aside0.mk (ho)
                                    clear HO_73
                                    clear BK299
                                    clear BK300
                                    clear BK301
                                    clear BK309
                                    clear HB
                                    clear HO_310002
                                    clear HO322
                                    have HO_73 := n0_
                                    have BK299 := n1_
                                    have BK300 := n2_
                                    have BK301 := n3_
                                    have BK309 := n4_
                                    have HB := n5_
                                    have HO325 := n6_
                                    clear n0_ n1_ n2_ n3_ n4_ n5_ n6_
                                    clear ho hb hg hat
                                    obtain ⟨Ao77, co77, eo77⟩ := Kd.S_slice HO325.out
                                    (first | subst eo77 | (injection eo77 with f1_ f2_ f3_; have f4_ := f1_.symm; have f5_ := f3_.symm; clear f1_ f2_ f3_; subst f4_; subst f5_))
                                    refine hK.out _ _ ⟨(blk_cell BK309.out 0).trans rfl, (blk_cell BK309.out 1).trans rfl, (blk_cell BK309.out 2).trans rfl, (blk_cell BK300.out 0).trans rfl, (blk_cell BK300.out 1).trans rfl, (blk_cell BK300.out 2).trans rfl, ((HB.out.cell (World.block_lt_of_cell? w _ hw319_0)).trans hw319_0)⟩ (fun hHeld => ?_)
                                    clear hK K
                                    refine norm_ (a' := ?_) ?_ ?_
                                    rotate_left
                                    · show Act.put _ (some 94) _ = _
                                      simp only [Act.put, List.setIfInBounds_toArray, List.set_cons_zero, List.set_cons_succ, i64_w, i32_w]
                                      rfl
                                    refine pure_ (i := 10) (N := some 95) (v := ?_) (a' := ?_) #[true, true, true, true, true, true, true, true, true, true, true, false] rfl rfl (any_of HT_.out (by kernel_rfl)) (fun _ _ _ h => h) (Or.inl ⟨by rfl, ?_⟩) ?_ ?_
                                    rotate_left
                                    · intro w'
                                      go_simp
                                      with_reducible rfl
                                    rotate_left
                                    · simp only [Act.put, List.setIfInBounds_toArray, List.set_cons_zero, List.set_cons_succ, i64_w, i32_w]
                                      rfl
                                    refine last_ (i := 11) (N := none) #[true, true, true, true, true, true, true, true, true, true, true, true] rfl rfl (one_of HT_.out (by kernel_rfl)) (by decide) (fun K hK => ?_)
                                    have hs78 : w75.cell? ⟨gb309, 2, none⟩ = some (u310002) := (blk_cell BK309.out 2).trans rfl
                                    have hfs78 := blk_frozen BK309.out 2
                                    have hns78_0 := NB299_309.out
                                    have hns78_1 := NB300_309.out
                                    have hns78_2 := NB301_309.out
                                    have hms78_0 := NB309_299.out
                                    have hms78_1 := NB309_300.out
                                    have hms78_2 := NB309_301.out
                                    refine skip_ (w1 := ?_) (by rfl) rfl ?_ ?_
                                    rotate_left
                                    · go_simp
                                      rfl
                                    refine hK.out _ _ ?_
                                    clear hK K
                                    refine done_ (done_of HT_.out (by kernel_rfl)) ?_
                                    try go_wp2
                                    go_roundg k3
                                    case measure => have := HJ4.out; have := HK2.out; have := HK3.out; omega
                                    case rel => exact ⟨(wrap64 (x75_3 + 1)), (y323), (.slice Ao77 y323.length co77), (by first | rfl | (simp; done) | (simp [*]; done)), H', ⟨by have := HJ4.out; have := HK2.out; have := HK3.out; omega⟩, ⟨by (with_reducible repeat (first | apply Kd.R_alloc | apply Kd.R_drewN | apply Kd.R_drew)); exact Kd.R_mono (Kd.R_far (p := ⟨gb309, 2, none⟩) (Kd.R_types HO_73.out BK309.out (by decide)) (fun _ hk => hk.2) (.slice Ao77 y323.length co77)) (fun _ hk => trivial)⟩, ⟨by (with_reducible repeat (first | apply Kd.S_alloc | apply Kd.S_drewN | apply Kd.S_drew)); exact Kd.S_mono (Kd.S_far (p := ⟨gb309, 2, none⟩) (Kd.S_types HO325.out BK309.out (by decide)) (fun _ hk => hk.2) (.slice Ao77 y323.length co77)) (fun _ hk => trivial)⟩, ⟨by (with_reducible repeat (first | refine blk_drewN ?_ _ | refine blk_drew ?_ | refine blk_alloc ?_ _)); refine blk_far ?_ NB299_309.out _; (with_reducible repeat (first | refine blk_drewN ?_ _ | refine blk_drew ?_ | refine blk_alloc ?_ _)); exact BK299.out⟩, ⟨by (with_reducible repeat (first | refine blk_drewN ?_ _ | refine blk_drew ?_ | refine blk_alloc ?_ _)); refine blk_far ?_ NB300_309.out _; (with_reducible repeat (first | refine blk_drewN ?_ _ | refine blk_drew ?_ | refine blk_alloc ?_ _)); exact BK300.out⟩, ⟨by (with_reducible repeat (first | refine blk_drewN ?_ _ | refine blk_drew ?_ | refine blk_alloc ?_ _)); refine blk_far ?_ NB301_309.out _; (with_reducible repeat (first | refine blk_drewN ?_ _ | refine blk_drew ?_ | refine blk_alloc ?_ _)); exact BK301.out⟩, ⟨by (with_reducible repeat (first | refine blk_drewN ?_ _ | refine blk_drew ?_ | refine blk_alloc ?_ _)); refine blk_put (cs := #[.int .u64 t305, .int .i64 (wrap64 (a0_1 + (t304.length : Int))), u310002]) ?_ 2 _ rfl; (with_reducible repeat (first | refine blk_drewN ?_ _ | refine blk_drew ?_ | refine blk_alloc ?_ _)); exact BK309.out⟩, ⟨by repeat (first | (with_reducible first | exact HB.out | apply below_alloc | apply pw_below_drewN | apply below_drew1 | refine below_set ?_ GE299.out | refine below_set ?_ GE300.out | refine below_set ?_ GE301.out | refine below_set ?_ GE309.out) | exact HB.out)⟩⟩
                                  · rw [if_neg c68] at H
                                    exact absurd H (by simp)
                                · rw [if_neg c66] at H
                                  exact absurd H (by simp)
                            · rw [if_neg c60] at H
                              exact absurd H (by simp)
                          · rw [if_neg c59] at H
                            exact absurd H (by simp)
                        · rw [if_neg c58] at H
                          exact absurd H (by simp)
                      · rw [if_neg c57] at H
                        exact absurd H (by simp)
                    · rw [if_neg c56] at H
                      have c56b0 : decide (x75_3 < (t304.length : Int)) = false := decide_eq_false c56
                      clear c56
                      simp only [Option.some.injEq, Prod.mk.injEq] at H
                      obtain ⟨rfl, rfl, rfl, rfl, rfl⟩ := H
                      try go_wp2
                      have n0_ := Aside0.mk (Kd.R_drew HO_73.out)
                      have n1_ := Aside0.mk (Kd.S_drew HO_310002.out)
                      have n2_ := Aside0.mk (blk_drew BK299.out)
                      have n3_ := Aside0.mk (blk_drew BK300.out)
                      have n4_ := Aside0.mk (blk_drew BK301.out)
                      have n5_ := Aside0.mk (blk_drew BK309.out)
                      have n6_ := Aside0.mk (below_drew1 HB.out)
                      clear HO_73
                      clear HO_310002
                      clear BK299
                      clear BK300
                      clear BK301
                      clear BK309
                      clear HB
                      have HO_73 := n0_
                      have HO_310002 := n1_
                      have BK299 := n2_
                      have BK300 := n3_
                      have BK301 := n4_
                      have BK309 := n5_
                      have HB := n6_
                      clear n0_ n1_ n2_ n3_ n4_ n5_ n6_
                      obtain ⟨Ao82, co82, eo82⟩ := Kd.S_slice HO_310002.out
                      (first | subst eo82 | (injection eo82 with f1_ f2_ f3_; have f4_ := f1_.symm; have f5_ := f3_.symm; clear f1_ f2_ f3_; subst f4_; subst f5_))
                      refine start_ (n := 8) (S := fun w' => w'.cell? ⟨gb309, 0, none⟩ = some (.int .u64 t305) ∧ w'.cell? ⟨gb309, 1, none⟩ = some (.int .i64 (wrap64 (a0_1 + (t304.length : Int)))) ∧ w'.cell? ⟨gb309, 2, none⟩ = some (.slice Ao82 x310002_3.length co82)) (ds := []) #[false, false, false, false, false, false, false, false] (by kernel_rfl) rfl rfl ⟨(blk_cell BK309.out 0).trans rfl, (blk_cell BK309.out 1).trans rfl, (blk_cell BK309.out 2).trans rfl⟩ (fun hHeld => ?_); refine with_tabW train_Step.tab18 train_Step.bits18 (fun HT_ HW_ => ?_)
                      generalize wr.drew = w79 at HO_73 HO_310002 BK299 BK300 BK301 BK309 HB hHeld ⊢
                      refine pure_ (i := 1) (N := some 98) (v := ?_) (a' := ?_) #[false, true, false, false, false, false, false, false] rfl rfl (any_of HT_.out (by kernel_rfl)) (fun _ _ _ h => h) (Or.inl ⟨by rfl, ?_⟩) ?_ ?_
                      rotate_left
                      · intro w'
                        go_simp
                        with_reducible rfl
                      rotate_left
                      · simp only [Act.put, List.setIfInBounds_toArray, List.set_cons_zero, List.set_cons_succ, i64_w, i32_w]
                        rfl
                      refine pure_ (i := 3) (N := some 100) (v := ?_) (a' := ?_) #[false, true, false, true, false, false, false, false] rfl rfl (any_of HT_.out (by kernel_rfl)) (fun _ _ _ h => h) (Or.inl ⟨by rfl, ?_⟩) ?_ ?_
                      rotate_left
                      · intro w'
                        go_simp
                        with_reducible rfl
                      rotate_left
                      · simp only [Act.put, List.setIfInBounds_toArray, List.set_cons_zero, List.set_cons_succ, i64_w, i32_w]
                        rfl
                      refine take_ (i := 0) (N := some 97) (v := ?_) (a' := ?_) #[true, true, false, true, false, false, false, false] rfl rfl (take_ofW HT_.out HW_.out (by kernel_rfl)) (fun _ _ _ h => h) (Or.inl ⟨by rfl, ?_⟩) hHeld ?_ ?_
                      rotate_left
                      · rintro w' ⟨s0, s1, s2⟩
                        go_simp
                        with_reducible rfl
                      rotate_left
                      · simp only [Act.put, List.setIfInBounds_toArray, List.set_cons_zero, List.set_cons_succ, i64_w, i32_w]
                        rfl
                      refine take_ (i := 2) (N := some 99) (v := ?_) (a' := ?_) #[true, true, true, true, false, false, false, false] rfl rfl (take_ofW HT_.out HW_.out (by kernel_rfl)) (fun _ _ _ h => h) (Or.inl ⟨by rfl, ?_⟩) hHeld ?_ ?_
                      rotate_left
                      · rintro w' ⟨s0, s1, s2⟩
                        go_simp
                        with_reducible rfl
                      rotate_left
                      · simp only [Act.put, List.setIfInBounds_toArray, List.set_cons_zero, List.set_cons_succ, i64_w, i32_w]
                        rfl
                      refine pure_ (i := 4) (N := some 101) (v := ?_) (a' := ?_) #[true, true, true, true, true, false, false, false] rfl rfl (any_of HT_.out (by kernel_rfl)) (fun _ _ _ h => h) (Or.inl ⟨by rfl, ?_⟩) ?_ ?_
                      rotate_left
                      · intro w'
                        go_simp
                        with_reducible rfl
                      rotate_left
                      · simp only [Act.put, List.setIfInBounds_toArray, List.set_cons_zero, List.set_cons_succ, i64_w, i32_w]
                        rfl
                      refine one_ (i := 5) (N := none) #[true, true, true, true, true, true, false, false] rfl rfl (one_of HT_.out (by kernel_rfl)) (by decide) (fun K hK => ?_)
                      have hs80 : w79.cell? ⟨gb301, 0, none⟩ = some (.int .u64 0) := (blk_cell BK301.out 0).trans rfl
                      have hfs80 := blk_frozen BK301.out 0
                      have hns80_0 := NB299_301.out
                      have hns80_1 := NB300_301.out
                      have hns80_3 := NB309_301.out
                      have hms80_0 := NB301_299.out
                      have hms80_1 := NB301_300.out
                      have hms80_3 := NB301_309.out
                      have hs81 : w79.cell? ⟨gb301, 1, none⟩ = some (.int .i64 0) := (blk_cell BK301.out 1).trans rfl
                      have hfs81 := blk_frozen BK301.out 1
                      have hns81_0 := NB299_301.out
                      have hns81_1 := NB300_301.out
                      have hns81_3 := NB309_301.out
                      have hms81_0 := NB301_299.out
                      have hms81_1 := NB301_300.out
                      have hms81_3 := NB301_309.out
                      have hs83 : w79.cell? ⟨gb301, 2, none⟩ = some (.slice none 0 0) := (blk_cell BK301.out 2).trans rfl
                      have hfs83 := blk_frozen BK301.out 2
                      have hns83_0 := NB299_301.out
                      have hns83_1 := NB300_301.out
                      have hns83_3 := NB309_301.out
                      have hms83_0 := NB301_299.out
                      have hms83_1 := NB301_300.out
                      have hms83_3 := NB301_309.out
                      refine skip_ (w1 := ?_) (by rfl) rfl ?_ ?_
                      rotate_left
                      · go_simp
                        rfl
                      refine hK.out _ _ ⟨((cell_far (p := ⟨gb301, _, none⟩) NB309_301.out _).trans (((cell_far (p := ⟨gb301, _, none⟩) NB309_301.out _).trans (((cell_far (p := ⟨gb301, _, none⟩) NB309_301.out _).trans (hHeld.1)))))), ((cell_far (p := ⟨gb301, _, none⟩) NB309_301.out _).trans (((cell_far (p := ⟨gb301, _, none⟩) NB309_301.out _).trans (((cell_far (p := ⟨gb301, _, none⟩) NB309_301.out _).trans (hHeld.2.1)))))), ((cell_far (p := ⟨gb301, _, none⟩) NB309_301.out _).trans (((cell_far (p := ⟨gb301, _, none⟩) NB309_301.out _).trans (((cell_far (p := ⟨gb301, _, none⟩) NB309_301.out _).trans (hHeld.2.2))))))⟩ (fun hHeld => ?_)
                      clear hK K
                      refine pure_ (i := 6) (N := some 9) (v := ?_) (a' := ?_) #[true, true, true, true, true, true, true, false] rfl rfl (any_of HT_.out (by kernel_rfl)) (fun _ _ _ h => h) (Or.inl ⟨by rfl, ?_⟩) ?_ ?_
                      rotate_left
                      · intro w'
                        go_simp
                        with_reducible rfl
                      rotate_left
                      · simp only [Act.put, List.setIfInBounds_toArray, List.set_cons_zero, List.set_cons_succ, i64_w, i32_w]
                        rfl
                      refine pure_ (i := 7) (N := some 10) (v := ?_) (a' := ?_) #[true, true, true, true, true, true, true, true] rfl rfl (any_of HT_.out (by kernel_rfl)) (fun _ _ _ h => h) (Or.inl ⟨by rfl, ?_⟩) ?_ ?_
                      rotate_left
                      · intro w'
                        go_simp
                        with_reducible rfl
                      rotate_left
                      · simp only [Act.put, List.setIfInBounds_toArray, List.set_cons_zero, List.set_cons_succ, i64_w, i32_w]
                        rfl
                      refine done_ (done_of HT_.out (by kernel_rfl)) ?_
                      try go_wp2
                      refine bodyPost_ret (results_ctt rfl _ _ gb301 39 #[.int .u64 t305, .int .i64 (wrap64 (a0_1 + (t304.length : Int))), .slice Ao82 x310002_3.length co82] (0, 0) _ rfl (by (with_reducible repeat (first | refine blk_drewN ?_ _ | refine blk_drew ?_ | refine blk_alloc ?_ _)); refine blk_put (cs := #[.int .u64 t305, .int .i64 (wrap64 (a0_1 + (t304.length : Int))), .slice none 0 0]) ?_ 2 _ rfl; (with_reducible repeat (first | refine blk_drewN ?_ _ | refine blk_drew ?_ | refine blk_alloc ?_ _)); refine blk_put (cs := #[.int .u64 t305, .int .i64 0, .slice none 0 0]) ?_ 1 _ rfl; (with_reducible repeat (first | refine blk_drewN ?_ _ | refine blk_drew ?_ | refine blk_alloc ?_ _)); refine blk_put (cs := #[.int .u64 0, .int .i64 0, .slice none 0 0]) ?_ 0 _ rfl; (with_reducible repeat (first | refine blk_drewN ?_ _ | refine blk_drew ?_ | refine blk_alloc ?_ _)); exact BK301.out) Try.underlying39 rfl (by kernel_rfl)) rfl ?_
                      exact ⟨_, by first | rfl | (simp [errW_none, errW_some] <;> rfl) | (simp only [← hji27, ← hji28]; first | rfl | (simp [errW_none, errW_some] <;> rfl)) | (simp [*, errW_none, errW_some] <;> rfl), by (with_reducible repeat (first | apply Kd.S_alloc | apply Kd.S_drewN | apply Kd.S_drew)); exact Kd.S_mono (Kd.S_far (p := ⟨gb301, 2, none⟩) (Kd.S_far (p := ⟨gb301, 1, none⟩) (Kd.S_far (p := ⟨gb301, 0, none⟩) (Kd.S_types HO_310002.out BK301.out (by decide)) (fun _ hk => hk.2) (.int .u64 t305)) (fun _ hk => hk.2) (.int .i64 (wrap64 (a0_1 + (t304.length : Int))))) (fun _ hk => hk.2) (.slice Ao82 x310002_3.length co82)) (fun _ hk => trivial), by repeat (first | (with_reducible first | exact HB.out | apply below_alloc | apply pw_below_drewN | apply below_drew1 | refine below_set ?_ GE299.out | refine below_set ?_ GE300.out | refine below_set ?_ GE301.out | refine below_set ?_ GE309.out) | exact HB.out)⟩
        · rw [if_neg c30] at H
          have c30b0 : (t306 == 0) = false := beq_eq_false_iff_ne.mpr c30
          have c30b1 : (t306 != 0) = true := bne_iff_ne.mpr c30
          simp only [Option.some.injEq, Prod.mk.injEq] at H
          obtain ⟨rfl, rfl, rfl, rfl, rfl⟩ := H
          have hnb84 := NB299_300.out
          have hnc84 := NB300_299.out
          have hnb85 := NB299_301.out
          have hnc85 := NB301_299.out
          have hcz86_0 : wc.cell? ⟨gb299, 0, none⟩ = some (.int .u64 a0_0) := (blk_cell BK299.out 0).trans rfl
          have hcz86_1 : wc.cell? ⟨gb299, 1, none⟩ = some (.int .i64 a0_1) := (blk_cell BK299.out 1).trans rfl
          have hcz86_2 : wc.cell? ⟨gb299, 2, none⟩ = some (.slice A0_2 l0_2.length c0_2) := (blk_cell BK299.out 2).trans rfl
          have hfz86_0 := blk_frozen BK299.out 0
          have hfz86_1 := blk_frozen BK299.out 1
          have hfz86_2 := blk_frozen BK299.out 2
          have hnb87 := NB300_301.out
          have hnc87 := NB301_300.out
          have hcz88_0 : wc.cell? ⟨gb300, 0, none⟩ = some (.int .i64 a1_0) := (blk_cell BK300.out 0).trans rfl
          have hcz88_1 : wc.cell? ⟨gb300, 1, none⟩ = some (.slice A1_1 l1_1.length c1_1) := (blk_cell BK300.out 1).trans rfl
          have hcz88_2 : wc.cell? ⟨gb300, 2, none⟩ = some (.slice A1_2 l1_2.length c1_2) := (blk_cell BK300.out 2).trans rfl
          have hfz88_0 := blk_frozen BK300.out 0
          have hfz88_1 := blk_frozen BK300.out 1
          have hfz88_2 := blk_frozen BK300.out 2
          go_wp2_with (first | ((with_reducible refine gate_callee (f := 97) rfl ?_); refine goesL_ (some 43) rfl rfl Try.func97 (by kernel_rfl) rfl #[.int .u64 a0_0, .int .i64 ji28, .int .i64 (l1_1.length : Int)] rfl (by (try simp only [List.map_toArray, List.map_cons, List.map_nil]); first | done | (simp only [hji28]; rfl) | rfl | (simp only [List.length_drop, List.length_take]; rfl)) ?_; (with_reducible refine (lots_Lots.calls kj4 a0_0 ji28 (l1_1.length : Int) t304 t305 t306 _ A29.out).mono ?_); rintro e w89 ⟨v307, rfl, ho0, hb⟩; refine ⟨_, rfl, ?_⟩; have n0_ := Aside0.mk (Kd.R_lower ho0 (below_size (by repeat (first | (with_reducible first | exact HB.out | apply below_alloc | apply pw_below_drewN | apply below_drew1 | refine below_set ?_ GE299.out | refine below_set ?_ GE300.out | refine below_set ?_ GE301.out) | exact HB.out)))); have n1_ := Aside0.mk (blk_below (g := gb299) (o := .cells #[.int .u64 a0_0, .int .i64 a0_1, .slice A0_2 l0_2.length c0_2] 39 (0, 0)) (by (with_reducible repeat (first | refine blk_drewN ?_ _ | refine blk_drew ?_ | refine blk_alloc ?_ _)); exact BK299.out) hb); have n2_ := Aside0.mk (blk_below (g := gb300) (o := .cells #[.int .i64 a1_0, .slice A1_1 l1_1.length c1_1, .slice A1_2 l1_2.length c1_2] 25 (0, 0)) (by (with_reducible repeat (first | refine blk_drewN ?_ _ | refine blk_drew ?_ | refine blk_alloc ?_ _)); exact BK300.out) hb); have n3_ := Aside0.mk (blk_below (g := gb301) (o := .cells #[.int .u64 0, .int .i64 0, .slice none 0 0] 39 (0, 0)) (by (with_reducible repeat (first | refine blk_drewN ?_ _ | refine blk_drew ?_ | refine blk_alloc ?_ _)); exact BK301.out) hb); have n4_ := Aside0.mk (below_step (by repeat (first | (with_reducible first | exact HB.out | apply below_alloc | apply pw_below_drewN | apply below_drew1 | refine below_set ?_ GE299.out | refine below_set ?_ GE300.out | refine below_set ?_ GE301.out) | exact HB.out)) hb); clear BK299; clear BK300; clear BK301; clear HB; have HO308 := n0_; have BK299 := n1_; have BK300 := n2_; have BK301 := n3_; have HB := n4_; clear n0_ n1_ n2_ n3_ n4_; (try clear hb); (try clear hb2); (try clear hk); (try clear hi); (try clear ho0); have hcz90_0 : w89.cell? ⟨gb301, 0, none⟩ = some (.int .u64 0) := (blk_cell BK301.out 0).trans rfl; have hcz90_1 : w89.cell? ⟨gb301, 1, none⟩ = some (.int .i64 0) := (blk_cell BK301.out 1).trans rfl; have hcz90_2 : w89.cell? ⟨gb301, 2, none⟩ = some (.slice none 0 0) := (blk_cell BK301.out 2).trans rfl; have hfz90_0 := blk_frozen BK301.out 0; have hfz90_1 := blk_frozen BK301.out 1; have hfz90_2 := blk_frozen BK301.out 2))
          refine bodyPost_ret (results_ctt rfl _ _ gb301 39 #[.int .u64 0, .int .i64 0, .slice none 0 0] (0, 0) _ rfl (by (with_reducible repeat (first | refine blk_drewN ?_ _ | refine blk_drew ?_ | refine blk_alloc ?_ _)); refine blk_put (cs := #[.int .u64 0, .int .i64 0, .slice none 0 0]) ?_ 2 _ rfl; (with_reducible repeat (first | refine blk_drewN ?_ _ | refine blk_drew ?_ | refine blk_alloc ?_ _)); refine blk_put (cs := #[.int .u64 0, .int .i64 0, .slice none 0 0]) ?_ 1 _ rfl; (with_reducible repeat (first | refine blk_drewN ?_ _ | refine blk_drew ?_ | refine blk_alloc ?_ _)); refine blk_put (cs := #[.int .u64 0, .int .i64 0, .slice none 0 0]) ?_ 0 _ rfl; (with_reducible repeat (first | refine blk_drewN ?_ _ | refine blk_drew ?_ | refine blk_alloc ?_ _)); exact BK301.out) Try.underlying39 rfl (by kernel_rfl)) rfl ?_
          exact ⟨_, by first | rfl | (simp [errW_none, errW_some] <;> rfl) | (simp only [← hji27, ← hji28]; first | rfl | (simp [errW_none, errW_some] <;> rfl)) | (simp [*, errW_none, errW_some] <;> rfl), by first | exact Kd.S_nil _ _ _ _ _ | exact Kd.N_nil _ _ _ _ _ | exact Kd.V_nil _ _ _ _ _ | exact Kd.Q_nil _ _ _ _ _ | exact Kd.R_nil _ _ _ _ _, by repeat (first | (with_reducible first | exact HB.out | apply below_alloc | apply pw_below_drewN | apply below_drew1 | refine below_set ?_ GE299.out | refine below_set ?_ GE300.out | refine below_set ?_ GE301.out) | exact HB.out)⟩

end Go.Proofs.Ytkjibgfgbfacdaa.P
end
/-! part: HEqualFunc -/
section
namespace Go.Proofs.Ytkjibgfgbfacdaa.P
open Go.RowKit Go.Proofs.YtkjibgfgbfacdaaW.PrintWords Go.Proofs.YtkjibgfgbfacdaaW.PrintLast Go.Proofs.YtkjibgfgbfacdaaW.PrintMore
set_option linter.unusedVariables false
set_option linter.unusedSimpArgs false

/-- What the function value at g tells of two vectors: whether they are the same. -/
def EqV (g : Nat) (lb : Array Value) (w : World) : Prop :=
  ∀ (W : World) (x y : List Int) (A B : Option Addr) (c d : Nat), Below w.heap.size w W → Kd.C (Kd.int .i16) W A x.length x → x.length ≤ c → Kd.C (Kd.int .i16) W B y.length y → y.length ≤ d →
    Calls Try.prog g (#[.slice A x.length c, .slice B y.length d] ++ lb) W fun e W' => e = .returned (.bool (decide (x = y))) ∧ Below w.heap.size w W'
theorem ne_of_len {α : Type} [DecidableEq α] {a b : List α} (h : ¬ ((a.length : Int) = (b.length : Int))) : decide (a = b) = false := by
  rw [decide_eq_false_iff_not]
  rintro rfl
  exact h rfl
set_option maxHeartbeats 4000000 in
set_option maxRecDepth 100000 in
theorem equalFunc_vecs (g : Nat) (lb : Array Value) (A0 A1 : Option Addr) (c0 c1 : Nat) (l0 l1 : List (List Int)) (w : World)
    (eg : ∀ args w, (callFunc g args).run Try.prog w = .ok (.enter g args) w) (hp : EqV g lb w)
    (hr0 : Kd.C (Kd.slice 74 (Kd.int .i16)) w A0 l0.length l0) (hc0 : l0.length ≤ c0) (hr1 : Kd.C (Kd.slice 74 (Kd.int .i16)) w A1 l1.length l1) (hc1 : l1.length ≤ c1) :
    Calls Try.prog 99 #[.slice A0 l0.length c0, .slice A1 l1.length c1, .func (.func g) #[] lb] w fun e w' => e = .returned (.bool (decide (l0 = l1))) ∧ Below w.heap.size w w' := by
  have HR0 := Aside0.mk hr0
  have HR1 := Aside0.mk hr1
  have HP := Aside0.mk hp
  have hmax : l0.length ≤ 9223372036854775807 := hr0.2.1
  clear hr0 hr1 hp
  by_cases hlen : (l0.length : Int) = (l1.length : Int)
  · have HL := Aside0.mk hlen
    have c3b0 : ((l0.length : Int) == (l1.length : Int)) = true := beq_iff_eq.mpr hlen
    have c3b1 : ((l0.length : Int) != (l1.length : Int)) = false := bne_eq_false_iff_eq.mpr hlen
    have c3b2 : (l0.length == l1.length) = true := by first | simpa using hlen | (simp at hlen ⊢; omega)
    clear hlen
    go_enter Try.func99, Try.ntmps99
    go_wp2
    repeat (go_quiet (fail); try go_wp2)
    go_loopg [7, 8, 9, 17] l0.length (fun kq v7 v8 v9 v17 w' => ∃ (i : Int), v17 = .int .i64 i ∧ Aside0 (decide (l0.drop i.toNat = l1.drop i.toNat) = decide (l0 = l1)) ∧ Aside0 (0 ≤ i ∧ i ≤ (l0.length : Int) ∧ (l0.length : Int) - i ≤ (kq : Int)) ∧ Aside0 (Below w.heap.size w w'))
    case atStart => exact ⟨0, rfl, ⟨rfl⟩, ⟨by omega, by omega, by omega⟩, ⟨by repeat (first | exact Below.refl _ _ | apply below_drew | apply pw_below_drewN)⟩⟩
    case round =>
      clear c3b0 c3b1 c3b2
      obtain ⟨i, rfl, HI, HK, HB⟩ := hrel
      obtain ⟨h0, h1, h2⟩ := HK.out
      have hL := HL.out
      by_cases hlt : i < (l0.length : Int)
      · have hlt1 : i < (l1.length : Int) := by omega
        have hdr := drop_rdV l0 i h0 hlt
        have hdr1 := drop_rdV l1 i h0 hlt1
        obtain ⟨ad, B0, d0, e1, hx, hl0, hC0⟩ := Kd.at_sl (Kd.C_below HR0.out HB.out) i h0 hlt
        obtain ⟨ad1, B1, d1, e2, hx1, hl1, hC1⟩ := Kd.at_sl (Kd.C_below HR1.out HB.out) i h0 hlt1
        cases e1
        cases e2
        have hI := HI.out
        rw [hdr, hdr1] at hI
        have hcall := fun W hb hCx hCy => HP.out W (l0.getD i.toNat []) (l1.getD i.toNat []) B0 B1 d0 d1 hb hCx hl0 hCy hl1
        generalize (l0.getD i.toNat []) = x at *
        generalize (l1.getD i.toNat []) = y at *
        have HC0 := Aside0.mk hC0
        have HC1 := Aside0.mk hC1
        clear hdr hdr1 HI hC0 hC1 hL
        by_cases hxy : x = y
        · rw [decide_eq_true hxy] at hcall
          have hI' : decide (l0.drop (i + 1).toNat = l1.drop (i + 1).toNat) = decide (l0 = l1) := by rw [← hI, hxy]; simp
          have HCALL := Aside0.mk hcall
          have HI2 := Aside0.mk hI'
          clear hI hI' hcall hxy
          go_wp2_with (go_at_fn g; refine (HCALL.out _ (by first | exact HB.out | exact HB.out.drew) HC0.out HC1.out).mono ?_; rintro e w' ⟨rfl, hb'⟩)
          have HB2 := Aside0.mk hb'
          clear hb'
          cases gk with
          | zero => exact absurd h2 (by omega)
          | succ gk1 =>
            go_roundg gk1
            case measure => omega
            case rel => exact ⟨i + 1, rfl, ⟨HI2.out⟩, ⟨by omega, by omega, by omega⟩, HB2⟩
        · rw [decide_eq_false hxy] at hcall
          have hI' : decide (l0 = l1) = false := by rw [← hI]; simp [hxy]
          have HCALL := Aside0.mk hcall
          have HI2 := Aside0.mk hI'
          clear hI hI' hcall hxy
          go_wp2_with (go_at_fn g; refine (HCALL.out _ (by first | exact HB.out | exact HB.out.drew) HC0.out HC1.out).mono ?_; rintro e w' ⟨rfl, hb'⟩)
          go_ret
          exact ⟨by rw [HI2.out]; rfl, hb'⟩
      · have hI := HI.out
        rw [List.drop_eq_nil_of_le (by omega), List.drop_eq_nil_of_le (by omega)] at hI
        have HI2 := Aside0.mk hI
        clear hI HI hL
        go_wp2
        go_ret
        exact ⟨by rw [← HI2.out]; rfl, HB.out⟩
  · have HE := Aside0.mk (ne_of_len hlen)
    have c3b0 : ((l0.length : Int) == (l1.length : Int)) = false := beq_eq_false_iff_ne.mpr hlen
    have c3b1 : ((l0.length : Int) != (l1.length : Int)) = true := bne_iff_ne.mpr hlen
    have c3b2 : (l0.length == l1.length) = false := by first | simpa using hlen | (simp at hlen ⊢; omega)
    clear hlen
    go_enter Try.func99, Try.ntmps99
    go_wp2
    repeat (go_quiet (fail); try go_wp2)
    go_ret
    exact ⟨by rw [HE.out]; rfl, by repeat (first | exact Below.refl _ _ | apply below_drew | apply pw_below_drewN)⟩
set_option maxHeartbeats 4000000 in
set_option maxRecDepth 100000 in
theorem equalFunc_cuts (g : Nat) (lb : Array Value) (A0 A1 : Option Addr) (c0 c1 : Nat) (l0 l1 : List (List Int)) (w : World)
    (eg : ∀ args w, (callFunc g args).run Try.prog w = .ok (.enter g args) w) (hp : EqV g lb w)
    (hr0 : Kd.C (Kd.slice 74 (Kd.int .i16)) w A0 l0.length l0) (hc0 : l0.length ≤ c0) (hr1 : Kd.C (Kd.slice 74 (Kd.int .i16)) w A1 l1.length l1) (hc1 : l1.length ≤ c1) :
    Calls Try.prog 109 #[.slice A0 l0.length c0, .slice A1 l1.length c1, .func (.func g) #[] lb] w fun e w' => e = .returned (.bool (decide (l0 = l1))) ∧ Below w.heap.size w w' := by
  have HR0 := Aside0.mk hr0
  have HR1 := Aside0.mk hr1
  have HP := Aside0.mk hp
  have hmax : l0.length ≤ 9223372036854775807 := hr0.2.1
  clear hr0 hr1 hp
  by_cases hlen : (l0.length : Int) = (l1.length : Int)
  · have HL := Aside0.mk hlen
    have c3b0 : ((l0.length : Int) == (l1.length : Int)) = true := beq_iff_eq.mpr hlen
    have c3b1 : ((l0.length : Int) != (l1.length : Int)) = false := bne_eq_false_iff_eq.mpr hlen
    have c3b2 : (l0.length == l1.length) = true := by first | simpa using hlen | (simp at hlen ⊢; omega)
    clear hlen
    go_enter Try.func109, Try.ntmps109
    go_wp2
    repeat (go_quiet (fail); try go_wp2)
    go_loopg [7, 8, 9, 17] l0.length (fun kq v7 v8 v9 v17 w' => ∃ (i : Int), v17 = .int .i64 i ∧ Aside0 (decide (l0.drop i.toNat = l1.drop i.toNat) = decide (l0 = l1)) ∧ Aside0 (0 ≤ i ∧ i ≤ (l0.length : Int) ∧ (l0.length : Int) - i ≤ (kq : Int)) ∧ Aside0 (Below w.heap.size w w'))
    case atStart => exact ⟨0, rfl, ⟨rfl⟩, ⟨by omega, by omega, by omega⟩, ⟨by repeat (first | exact Below.refl _ _ | apply below_drew | apply pw_below_drewN)⟩⟩
    case round =>
      clear c3b0 c3b1 c3b2
      obtain ⟨i, rfl, HI, HK, HB⟩ := hrel
      obtain ⟨h0, h1, h2⟩ := HK.out
      have hL := HL.out
      by_cases hlt : i < (l0.length : Int)
      · have hlt1 : i < (l1.length : Int) := by omega
        have hdr := drop_rdV l0 i h0 hlt
        have hdr1 := drop_rdV l1 i h0 hlt1
        obtain ⟨ad, B0, d0, e1, hx, hl0, hC0⟩ := Kd.at_sl (Kd.C_below HR0.out HB.out) i h0 hlt
        obtain ⟨ad1, B1, d1, e2, hx1, hl1, hC1⟩ := Kd.at_sl (Kd.C_below HR1.out HB.out) i h0 hlt1
        cases e1
        cases e2
        have hI := HI.out
        rw [hdr, hdr1] at hI
        have hcall := fun W hb hCx hCy => HP.out W (l0.getD i.toNat []) (l1.getD i.toNat []) B0 B1 d0 d1 hb hCx hl0 hCy hl1
        generalize (l0.getD i.toNat []) = x at *
        generalize (l1.getD i.toNat []) = y at *
        have HC0 := Aside0.mk hC0
        have HC1 := Aside0.mk hC1
        clear hdr hdr1 HI hC0 hC1 hL
        by_cases hxy : x = y
        · rw [decide_eq_true hxy] at hcall
          have hI' : decide (l0.drop (i + 1).toNat = l1.drop (i + 1).toNat) = decide (l0 = l1) := by rw [← hI, hxy]; simp
          have HCALL := Aside0.mk hcall
          have HI2 := Aside0.mk hI'
          clear hI hI' hcall hxy
          go_wp2_with (go_at_fn g; refine (HCALL.out _ (by first | exact HB.out | exact HB.out.drew) HC0.out HC1.out).mono ?_; rintro e w' ⟨rfl, hb'⟩)
          have HB2 := Aside0.mk hb'
          clear hb'
          cases gk with
          | zero => exact absurd h2 (by omega)
          | succ gk1 =>
            go_roundg gk1
            case measure => omega
            case rel => exact ⟨i + 1, rfl, ⟨HI2.out⟩, ⟨by omega, by omega, by omega⟩, HB2⟩
        · rw [decide_eq_false hxy] at hcall
          have hI' : decide (l0 = l1) = false := by rw [← hI]; simp [hxy]
          have HCALL := Aside0.mk hcall
          have HI2 := Aside0.mk hI'
          clear hI hI' hcall hxy
          go_wp2_with (go_at_fn g; refine (HCALL.out _ (by first | exact HB.out | exact HB.out.drew) HC0.out HC1.out).mono ?_; rintro e w' ⟨rfl, hb'⟩)
          go_ret
          exact ⟨by rw [HI2.out]; rfl, hb'⟩
      · have hI := HI.out
        rw [List.drop_eq_nil_of_le (by omega), List.drop_eq_nil_of_le (by omega)] at hI
        have HI2 := Aside0.mk hI
        clear hI HI hL
        go_wp2
        go_ret
        exact ⟨by rw [← HI2.out]; rfl, HB.out⟩
  · have HE := Aside0.mk (ne_of_len hlen)
    have c3b0 : ((l0.length : Int) == (l1.length : Int)) = false := beq_eq_false_iff_ne.mpr hlen
    have c3b1 : ((l0.length : Int) != (l1.length : Int)) = true := bne_iff_ne.mpr hlen
    have c3b2 : (l0.length == l1.length) = false := by first | simpa using hlen | (simp at hlen ⊢; omega)
    clear hlen
    go_enter Try.func109, Try.ntmps109
    go_wp2
    repeat (go_quiet (fail); try go_wp2)
    go_ret
    exact ⟨by rw [HE.out]; rfl, by repeat (first | exact Below.refl _ _ | apply below_drew | apply pw_below_drewN)⟩
end Go.Proofs.Ytkjibgfgbfacdaa.P
end
/-! part: F110 -/
section
namespace Go.Proofs.Ytkjibgfgbfacdaa.P
open Go.RowKit Go.Proofs.YtkjibgfgbfacdaaW.PrintWords Go.Proofs.YtkjibgfgbfacdaaW.PrintLast Go.Proofs.YtkjibgfgbfacdaaW.PrintMore
attribute [local go_sem] max2_int min2_int max_two min_two max_three min_three max_four min_four   -- for this text's walks alone
set_option linter.unusedVariables false
set_option linter.unusedSimpArgs false

/-! ### slices_Equal_int16_int16: function 110 -/
def slices_Equal_int16_int16.l0 : Nat → List Int → List Int → Int → Int → Option (Bool)
  | 0, _, _, _, _ => none
  | k + 1, x0, x1, x12, x13 => if x13 < x12 then (if 0 ≤ x13 then (if x13 < (x0.length : Int) then (if x13 < (x1.length : Int) then (if (rd x0 x13) = (rd x1 x13) then (slices_Equal_int16_int16.l0 k x0 x1 x12 (wrap64 (x13 + 1))) else (some false)) else (none)) else (none)) else (none)) else (some true)
def slices_Equal_int16_int16.f (k : Nat) (l0 : List Int) (l1 : List Int) : Option (Bool) := if (l0.length : Int) = (l1.length : Int) then (slices_Equal_int16_int16.l0 k l0 l1 (l0.length : Int) 0) else (some false)
theorem slices_Equal_int16_int16.mono_l : ∀ k, (∀ y0 y1 y2 y3, LeO (slices_Equal_int16_int16.l0 k y0 y1 y2 y3) (slices_Equal_int16_int16.l0 (k + 1) y0 y1 y2 y3))
  | 0 => fun _ _ _ _ r h => by simp [slices_Equal_int16_int16.l0] at h
  | k + 1 => by
    have ih0 := slices_Equal_int16_int16.mono_l k
    · intro y0 y1 y2 y3
      unfold slices_Equal_int16_int16.l0
      repeat' first
      | (with_reducible exact ih0 _ _ _ _)
      | (with_reducible exact LeO.refl _)
      | (with_reducible exact LeO.none _)
      | (with_reducible refine LeO.ite ?_ ?_)
      | (with_reducible refine LeO.bind ?_ (fun _ => ?_))
      | exact ih0 _ _ _ _
      | exact LeO.none _
      | refine LeO.ite ?_ ?_
      | refine LeO.bind ?_ (fun _ => ?_)
theorem slices_Equal_int16_int16.mono : ∀ a0 a1 k, LeO (slices_Equal_int16_int16.f k a0 a1) (slices_Equal_int16_int16.f (k + 1) a0 a1) := by
  intro a0 a1 k
  have ih0 := slices_Equal_int16_int16.mono_l k
  unfold slices_Equal_int16_int16.f
  repeat' first
      | (with_reducible exact ih0 _ _ _ _)
      | (with_reducible exact LeO.refl _)
      | (with_reducible exact LeO.none _)
      | (with_reducible refine LeO.ite ?_ ?_)
      | (with_reducible refine LeO.bind ?_ (fun _ => ?_))
      | exact ih0 _ _ _ _
      | exact LeO.none _
      | refine LeO.ite ?_ ?_
      | refine LeO.bind ?_ (fun _ => ?_)
set_option maxHeartbeats 8000000 in
set_option maxRecDepth 100000 in
theorem slices_Equal_int16_int16.calls (k : Nat) (A0 : Option Addr) (c0 : Nat) (l0 : List Int) (A1 : Option Addr) (c1 : Nat) (l1 : List Int) (r : Bool) (w : World) (hr0 : Kd.C (Kd.int .i16) w A0 l0.length l0) (hc0 : l0.length ≤ c0) (hr1 : Kd.C (Kd.int .i16) w A1 l1.length l1) (hc1 : l1.length ≤ c1) (h : slices_Equal_int16_int16.f k l0 l1 = some r) :
    Calls Try.prog 110 #[.slice A0 l0.length c0, .slice A1 l1.length c1] w fun e w' => e = .returned (.bool r) ∧ Drawn0 w w' := by
  have HR0 := Aside0.mk hr0
  have HC0 := Aside0.mk hc0
  clear hr0 hc0
  have HR1 := Aside0.mk hr1
  have HC1 := Aside0.mk hc1
  clear hr1 hc1
  have H : (if (l0.length : Int) = (l1.length : Int) then (slices_Equal_int16_int16.l0 k l0 l1 (l0.length : Int) 0) else (some false)) = some r := h
  clear h
  by_cases c3 : (l0.length : Int) = (l1.length : Int)
  · rw [if_pos c3] at H
    have c3b0 : ((l0.length : Int) == (l1.length : Int)) = true := beq_iff_eq.mpr c3
    have c3b1 : ((l0.length : Int) != (l1.length : Int)) = false := bne_eq_false_iff_eq.mpr c3
    have c3b2 : (l0.length == l1.length) = true := by first | simpa using c3 | (simp at c3 ⊢; omega)
    clear c3
    have H' := Aside0.mk H
    clear H
    go_enter Try.func110, Try.ntmps110
    go_wp2
    repeat (go_quiet (fail); try go_wp2)
    go_loopg [13] k (fun kq v13 w' => ∃ (x13_1 : Int), v13 = .int .i64 x13_1 ∧ Aside0 (slices_Equal_int16_int16.l0 kq l0 l1 (l0.length : Int) x13_1 = some r) ∧ Aside0 (kq ≤ k) ∧ Drawn0 w w')
    case atStart => exact ⟨(0), (by first | rfl | (simp; done) | (simp [*]; done)), H', ⟨Nat.le_refl _⟩, by repeat (first | exact Drawn0.refl _ | apply Drawn0.step)⟩
    case round =>
      clear H'
      try clear c1
      try clear p2
      try clear c3
      try clear c3b0
      try clear c3b1
      try clear c3b2
      obtain ⟨x13_1, rfl, HA, HK1, ⟨m1, rfl⟩⟩ := hrel
      cases gk with
      | zero => exact absurd HA.out (by simp [slices_Equal_int16_int16.l0])
      | succ k1 =>
        have H := HA.out
        clear HA
        simp only [slices_Equal_int16_int16.l0] at H
        by_cases c4 : x13_1 < (l0.length : Int)
        · rw [if_pos c4] at H
          have c4b0 : decide (x13_1 < (l0.length : Int)) = true := decide_eq_true c4
          clear c4
          by_cases c5 : 0 ≤ x13_1
          · rw [if_pos c5] at H
            have c5b0 : decide (0 ≤ x13_1) = true := decide_eq_true c5
            clear c5
            by_cases c6 : x13_1 < (l0.length : Int)
            · rw [if_pos c6] at H
              have c6b0 : decide (x13_1 < (l0.length : Int)) = true := decide_eq_true c6
              clear c6
              by_cases c7 : x13_1 < (l1.length : Int)
              · rw [if_pos c7] at H
                have c7b0 : decide (x13_1 < (l1.length : Int)) = true := decide_eq_true c7
                clear c7
                by_cases c8 : (rd l0 x13_1) = (rd l1 x13_1)
                · rw [if_pos c8] at H
                  have c8b0 : ((rd l0 x13_1) == (rd l1 x13_1)) = true := beq_iff_eq.mpr c8
                  have c8b1 : ((rd l0 x13_1) != (rd l1 x13_1)) = false := bne_eq_false_iff_eq.mpr c8
                  clear c8
                  have H' := Aside0.mk H
                  clear H
                  have p117 : 0 ≤ (x13_1 : Int) := of_decide_eq_true (by first | (with_reducible assumption) | assumption)
                  have q117 : x13_1 < (l0.length : Int) := of_decide_eq_true (by first | (with_reducible assumption) | assumption)
                  obtain ⟨ad117, e117, hx117_0⟩ := Kd.at_int HR0.out x13_1 p117 q117
                  cases e117
                  replace p117 := eq_true p117
                  replace q117 := eq_true q117
                  have p118 : 0 ≤ (x13_1 : Int) := of_decide_eq_true (by first | (with_reducible assumption) | assumption)
                  have q118 : x13_1 < (l1.length : Int) := of_decide_eq_true (by first | (with_reducible assumption) | assumption)
                  obtain ⟨ad118, e118, hx118_0⟩ := Kd.at_int HR1.out x13_1 p118 q118
                  cases e118
                  replace p118 := eq_true p118
                  replace q118 := eq_true q118
                  go_wp2
                  repeat (go_quiet (fail); try go_wp2)
                  go_roundg k1
                  case measure => have := HK1.out; omega
                  case rel => exact ⟨(wrap64 (x13_1 + 1)), (by first | rfl | (simp; done) | (simp [*]; done)), H', ⟨by have := HK1.out; omega⟩, by repeat (first | exact Drawn0.refl _ | apply Drawn0.step)⟩
                · rw [if_neg c8] at H
                  have c8b0 : ((rd l0 x13_1) == (rd l1 x13_1)) = false := beq_eq_false_iff_ne.mpr c8
                  have c8b1 : ((rd l0 x13_1) != (rd l1 x13_1)) = true := bne_iff_ne.mpr c8
                  obtain rfl := Option.some.inj H
                  have p117 : 0 ≤ (x13_1 : Int) := of_decide_eq_true (by first | (with_reducible assumption) | assumption)
                  have q117 : x13_1 < (l0.length : Int) := of_decide_eq_true (by first | (with_reducible assumption) | assumption)
                  obtain ⟨ad117, e117, hx117_0⟩ := Kd.at_int HR0.out x13_1 p117 q117
                  cases e117
                  replace p117 := eq_true p117
                  replace q117 := eq_true q117
                  have p118 : 0 ≤ (x13_1 : Int) := of_decide_eq_true (by first | (with_reducible assumption) | assumption)
                  have q118 : x13_1 < (l1.length : Int) := of_decide_eq_true (by first | (with_reducible assumption) | assumption)
                  obtain ⟨ad118, e118, hx118_0⟩ := Kd.at_int HR1.out x13_1 p118 q118
                  cases e118
                  replace p118 := eq_true p118
                  replace q118 := eq_true q118
                  go_wp2
                  repeat (go_quiet (fail); try go_wp2)
                  go_ret
                  exact ⟨by first | rfl | (simp; done) | (simp [*]; done), by repeat (first | exact Drawn0.refl _ | apply Drawn0.step)⟩
              · rw [if_neg c7] at H
                exact absurd H (by simp)
            · rw [if_neg c6] at H
              exact absurd H (by simp)
          · rw [if_neg c5] at H
            exact absurd H (by simp)
        · rw [if_neg c4] at H
          have c4b0 : decide (x13_1 < (l0.length : Int)) = false := decide_eq_false c4
          clear c4
          obtain rfl := Option.some.inj H
          go_wp2
          repeat (go_quiet (fail); try go_wp2)
          go_ret
          exact ⟨by first | rfl | (simp; done) | (simp [*]; done), by repeat (first | exact Drawn0.refl _ | apply Drawn0.step)⟩
  · rw [if_neg c3] at H
    have c3b0 : ((l0.length : Int) == (l1.length : Int)) = false := beq_eq_false_iff_ne.mpr c3
    have c3b1 : ((l0.length : Int) != (l1.length : Int)) = true := bne_iff_ne.mpr c3
    have c3b2 : (l0.length == l1.length) = false := by first | simpa using c3 | (simp at c3 ⊢; omega)
    obtain rfl := Option.some.inj H
    go_enter Try.func110, Try.ntmps110
    go_wp2
    repeat (go_quiet (fail); try go_wp2)
    go_ret
    exact ⟨by first | rfl | (simp; done) | (simp [*]; done), by repeat (first | exact Drawn0.refl _ | apply Drawn0.step)⟩

end Go.Proofs.Ytkjibgfgbfacdaa.P
end
/-! part: HEqFns -/
section
namespace Go.Proofs.Ytkjibgfgbfacdaa.P
open Go.RowKit Go.Proofs.YtkjibgfgbfacdaaW.PrintWords Go.Proofs.YtkjibgfgbfacdaaW.PrintLast Go.Proofs.YtkjibgfgbfacdaaW.PrintMore
theorem h_EqVecs.calls (A0 : Option Addr) (c0 : Nat) (l0 : List (List Int)) (A1 : Option Addr) (c1 : Nat) (l1 : List (List Int)) (r : Bool) (w : World) (hr0 : Kd.C (Kd.slice 74 (Kd.int .i16)) w A0 l0.length l0) (hc0 : l0.length ≤ c0)
    (hr1 : Kd.C (Kd.slice 74 (Kd.int .i16)) w A1 l1.length l1) (hc1 : l1.length ≤ c1) (h : h_EqVecs.f l0 l1 = some r) :
    Calls Try.prog 99 #[.slice A0 l0.length c0, .slice A1 l1.length c1, .func (.func 100) #[] #[]] w fun e w' => e = .returned (.bool r) ∧ Below w.heap.size w w' := by
  obtain rfl := Option.some.inj h
  refine equalFunc_vecs 100 #[] A0 A1 c0 c1 l0 l1 w (enters_of Try.func100 (by kernel_rfl) rfl) ?_ hr0 hc0 hr1 hc1
  intro W x y A B c d hb hC hl hD hl2
  refine (vec_Same.calls (x.length + 1) A c x B d y _ W hC hl hD hl2 (equalVec x y hC.2.1 _ (by omega))).mono ?_
  rintro e W' ⟨he, hd⟩
  exact ⟨he, hb.trans (hd.below.mono hb.size)⟩
theorem equalCuts (xs ys : List Int) (hm : xs.length ≤ 9223372036854775807) (k : Nat) (hk : xs.length < k) : slices_Equal_int16_int16.f k xs ys = some (decide (xs = ys)) := by
  unfold slices_Equal_int16_int16.f
  exact eqLoop0 0 slices_Equal_int16_int16.l0 (fun k xs ys n i => by simp only [slices_Equal_int16_int16.l0]; rfl) xs ys hm k hk
theorem h_EqCuts.calls (A0 : Option Addr) (c0 : Nat) (l0 : List (List Int)) (A1 : Option Addr) (c1 : Nat) (l1 : List (List Int)) (r : Bool) (w : World) (hr0 : Kd.C (Kd.slice 74 (Kd.int .i16)) w A0 l0.length l0) (hc0 : l0.length ≤ c0)
    (hr1 : Kd.C (Kd.slice 74 (Kd.int .i16)) w A1 l1.length l1) (hc1 : l1.length ≤ c1) (h : h_EqCuts.f l0 l1 = some r) :
    Calls Try.prog 109 #[.slice A0 l0.length c0, .slice A1 l1.length c1, .func (.func 110) #[] #[]] w fun e w' => e = .returned (.bool r) ∧ Below w.heap.size w w' := by
  obtain rfl := Option.some.inj h
  refine equalFunc_cuts 110 #[] A0 A1 c0 c1 l0 l1 w (enters_of Try.func110 (by kernel_rfl) rfl) ?_ hr0 hc0 hr1 hc1
  intro W x y A B c d hb hC hl hD hl2
  refine (slices_Equal_int16_int16.calls (x.length + 1) A c x B d y _ W hC hl hD hl2 (equalCuts x y hC.2.1 _ (by omega))).mono ?_
  rintro e W' ⟨he, hd⟩
  exact ⟨he, hb.trans (hd.below.mono hb.size)⟩
end Go.Proofs.Ytkjibgfgbfacdaa.P
end
