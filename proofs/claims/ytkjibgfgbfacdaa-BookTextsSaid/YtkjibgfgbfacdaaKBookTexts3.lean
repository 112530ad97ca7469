/- The law BookTexts of this seat answers true for every input, and its arguments read as they did. Conditions: none. This file holds a part of what the proof needs. -/
import Derived.Test.YtkjibgfgbfacdaaKBookTexts0
import Derived.Test.YtkjibgfgbfacdaaKBookTexts1
import Derived.Test.YtkjibgfgbfacdaaKBookTexts2
/-! part: F39 -/
section
set_option linter.unusedVariables false
set_option linter.unusedSimpArgs false
namespace Go.Proofs.Ytkjibgfgbfacdaa.P
open Go.RowKit Go.Proofs.YtkjibgfgbfacdaaW.PrintWords Go.Proofs.YtkjibgfgbfacdaaW.PrintLast Go.Proofs.YtkjibgfgbfacdaaW.PrintMore
attribute [local go_sem] max2_int min2_int max_two min_two max_three min_three max_four min_four   -- for this text's walks alone
set_option linter.unusedVariables false
set_option linter.unusedSimpArgs false

/-! ### book_From: function 39 -/
mutual
def book_From.j0 : Nat → List Int → Int → Int → List Int → Bool → Option (Int × (List (List Int)) × Int)
  | 0, _, _, _, _, _ => none
  | k + 1, x4, x7, x8, x9, x54 => if x54 = true then (some (0, ([] : List (List Int)), 2)) else (if 0 < (x4.length : Int) then (if 0 ≤ x7 then (if (x7 : Int).toNat ≤ 11728124029610 then ((some (List.replicate (x7 : Int).toNat [] : List (List Int))).bind fun y573 => (book_From.l0 k x8 x9 (y573.length : Int) 0 (rd x4 0) y573)) else (none)) else (none)) else (none))
def book_From.l0 : Nat → Int → List Int → Int → Int → Int → List (List Int) → Option (Int × (List (List Int)) × Int)
  | 0, _, _, _, _, _, _ => none
  | k + 1, x8, x9, x64, x65, x577000, x577001 => if x65 < x64 then (if 0 ≤ x8 then (if (x8 : Int).toNat ≤ 140737488355328 then ((some (List.replicate (x8 : Int).toNat 0 : List Int)).bind fun y578 => (book_From.l1 k x8 x9 x65 y578 x64 x65 (y578.length : Int) 0 x577000 x577001)) else (none)) else (none)) else ((h_quant_Check.f x577000 x577001).bind fun t577 => (if t577 = 0 then (some (x577000, x577001, 0)) else (some (0, ([] : List (List Int)), 2))))
def book_From.l1 : Nat → Int → List Int → Int → List Int → Int → Int → Int → Int → Int → List (List Int) → Option (Int × (List (List Int)) × Int)
  | 0, _, _, _, _, _, _, _, _, _, _ => none
  | k + 1, x8, x9, x13, x14, x64, x65, x71, x72, x577000, x577001 => if x72 < x71 then (if 0 ≤ (wrap64 ((wrap64 (x13 * x8)) + x72)) then (if (wrap64 ((wrap64 (x13 * x8)) + x72)) < (x9.length : Int) then (if 0 ≤ x72 then (if x72 < (x14.length : Int) then (book_From.l1 k x8 x9 x13 (x14.set (x72 : Int).toNat (IntKind.i16.wrap (rd x9 (wrap64 ((wrap64 (x13 * x8)) + x72))))) x64 x65 x71 (wrap64 (x72 + 1)) x577000 x577001) else (none)) else (none)) else (none)) else (none)) else (if 0 ≤ x13 then (if x13 < (x577001.length : Int) then (book_From.l0 k x8 x9 x64 (wrap64 (x65 + 1)) x577000 (x577001.set (x13 : Int).toNat x14)) else (none)) else (none))
end
def book_From.f (k : Nat) (l0 : List Int) : Option (Int × (List (List Int)) × Int) := if (l0.length : Int) < 10 then (some (0, ([] : List (List Int)), 2)) else ((pack_Take.f k l0 8 1).bind fun bt555 => (if 8 < (l0.length : Int) then (if 9 < (l0.length : Int) then (if 10 ≤ (l0.length : Int) then ((pack_Take.f k (l0.drop 10) 2 (wrap64 ((wrap64 (rd l0 8)) * (wrap64 (rd l0 9))))).bind fun bt565 => (if bt555.2.2 = 0 then (if bt565.2.2 = 0 then (book_From.j0 k bt555.1 (wrap64 (rd l0 8)) (wrap64 (rd l0 9)) bt565.1 (decide ((bt565.2.1.length : Int) > 0))) else (book_From.j0 k bt555.1 (wrap64 (rd l0 8)) (wrap64 (rd l0 9)) bt565.1 true)) else (book_From.j0 k bt555.1 (wrap64 (rd l0 8)) (wrap64 (rd l0 9)) bt565.1 true))) else (none)) else (none)) else (none)))
theorem book_From.mono_l : ∀ k, (∀ y0 y1 y2 y3 y4, LeO (book_From.j0 k y0 y1 y2 y3 y4) (book_From.j0 (k + 1) y0 y1 y2 y3 y4)) ∧ (∀ y0 y1 y2 y3 y4 y5, LeO (book_From.l0 k y0 y1 y2 y3 y4 y5) (book_From.l0 (k + 1) y0 y1 y2 y3 y4 y5)) ∧ (∀ y0 y1 y2 y3 y4 y5 y6 y7 y8 y9, LeO (book_From.l1 k y0 y1 y2 y3 y4 y5 y6 y7 y8 y9) (book_From.l1 (k + 1) y0 y1 y2 y3 y4 y5 y6 y7 y8 y9))
  | 0 => ⟨fun _ _ _ _ _ r h => by simp [book_From.j0] at h, fun _ _ _ _ _ _ r h => by simp [book_From.l0] at h, fun _ _ _ _ _ _ _ _ _ _ r h => by simp [book_From.l1] at h⟩
  | k + 1 => by
    obtain ⟨ih0, ih1, ih2⟩ := book_From.mono_l k
    refine ⟨?_, ?_, ?_⟩
    · intro y0 y1 y2 y3 y4
      unfold book_From.j0
      repeat' first
      | (with_reducible exact ih0 _ _ _ _ _)
      | (with_reducible exact ih1 _ _ _ _ _ _)
      | (with_reducible exact ih2 _ _ _ _ _ _ _ _ _ _)
      | (with_reducible exact pack_Take.mono _ _ _ _)
      | (with_reducible exact LeO.refl _)
      | (with_reducible exact LeO.none _)
      | (with_reducible refine LeO.ite ?_ ?_)
      | (with_reducible refine LeO.bind ?_ (fun _ => ?_))
      | exact ih0 _ _ _ _ _
      | exact ih1 _ _ _ _ _ _
      | exact ih2 _ _ _ _ _ _ _ _ _ _
      | exact pack_Take.mono _ _ _ _
      | exact LeO.none _
      | refine LeO.ite ?_ ?_
      | refine LeO.bind ?_ (fun _ => ?_)
    · intro y0 y1 y2 y3 y4 y5
      unfold book_From.l0
      repeat' first
      | (with_reducible exact ih0 _ _ _ _ _)
      | (with_reducible exact ih1 _ _ _ _ _ _)
      | (with_reducible exact ih2 _ _ _ _ _ _ _ _ _ _)
      | (with_reducible exact pack_Take.mono _ _ _ _)
      | (with_reducible exact LeO.refl _)
      | (with_reducible exact LeO.none _)
      | (with_reducible refine LeO.ite ?_ ?_)
      | (with_reducible refine LeO.bind ?_ (fun _ => ?_))
      | exact ih0 _ _ _ _ _
      | exact ih1 _ _ _ _ _ _
      | exact ih2 _ _ _ _ _ _ _ _ _ _
      | exact pack_Take.mono _ _ _ _
      | exact LeO.none _
      | refine LeO.ite ?_ ?_
      | refine LeO.bind ?_ (fun _ => ?_)
    · intro y0 y1 y2 y3 y4 y5 y6 y7 y8 y9
      unfold book_From.l1
      repeat' first
      | (with_reducible exact ih0 _ _ _ _ _)
      | (with_reducible exact ih1 _ _ _ _ _ _)
      | (with_reducible exact ih2 _ _ _ _ _ _ _ _ _ _)
      | (with_reducible exact pack_Take.mono _ _ _ _)
      | (with_reducible exact LeO.refl _)
      | (with_reducible exact LeO.none _)
      | (with_reducible refine LeO.ite ?_ ?_)
      | (with_reducible refine LeO.bind ?_ (fun _ => ?_))
      | exact ih0 _ _ _ _ _
      | exact ih1 _ _ _ _ _ _
      | exact ih2 _ _ _ _ _ _ _ _ _ _
      | exact pack_Take.mono _ _ _ _
      | exact LeO.none _
      | refine LeO.ite ?_ ?_
      | refine LeO.bind ?_ (fun _ => ?_)
theorem book_From.mono : ∀ a0 k, LeO (book_From.f k a0) (book_From.f (k + 1) a0) := by
  intro a0 k
  obtain ⟨ih0, ih1, ih2⟩ := book_From.mono_l k
  unfold book_From.f
  repeat' first
      | (with_reducible exact ih0 _ _ _ _ _)
      | (with_reducible exact ih1 _ _ _ _ _ _)
      | (with_reducible exact ih2 _ _ _ _ _ _ _ _ _ _)
      | (with_reducible exact pack_Take.mono _ _ _ _)
      | (with_reducible exact LeO.refl _)
      | (with_reducible exact LeO.none _)
      | (with_reducible refine LeO.ite ?_ ?_)
      | (with_reducible refine LeO.bind ?_ (fun _ => ?_))
      | exact ih0 _ _ _ _ _
      | exact ih1 _ _ _ _ _ _
      | exact ih2 _ _ _ _ _ _ _ _ _ _
      | exact pack_Take.mono _ _ _ _
      | exact LeO.none _
      | refine LeO.ite ?_ ?_
      | refine LeO.bind ?_ (fun _ => ?_)
def book_From.T4 : Bool × List (List Nat × List Nat) := (true, [([], []), ([0], [0]), ([1], [1]), ([2], [2]), ([], []), ([4], [4]), ([5], [5]), ([6], [6]), ([3, 0, 1, 2, 3], [3]), ([7, 8, 0, 1, 2, 3, 4, 5, 6, 7, 8], [7])])
def book_From.B4 : List Nat := [0, 1, 3, 7, 0, 16, 48, 112, 15, 511]
theorem book_From.tab4 : rtab .any (opsOf Try.f39 4) = book_From.T4 := by kernel_rfl
theorem book_From.bits4 : waitsOk book_From.T4.2 book_From.B4 = true := by kernel_rfl
def book_From.T8 : Bool × List (List Nat × List Nat) := (true, [([], []), ([0], [0]), ([1], [1]), ([], []), ([3, 3], [3]), ([2, 4], [2, 4]), ([], []), ([6, 5, 0, 1, 2, 3, 4, 5, 6], [5, 6])])
def book_From.B8 : List Nat := [0, 1, 3, 0, 8, 31, 0, 127]
theorem book_From.tab8 : rtab .any (opsOf Try.f39 8) = book_From.T8 := by kernel_rfl
theorem book_From.bits8 : waitsOk book_From.T8.2 book_From.B8 = true := by kernel_rfl
set_option maxHeartbeats 8000000 in
set_option maxRecDepth 100000 in
theorem book_From.calls (k : Nat) (A0 : Option Addr) (c0 : Nat) (l0 : List Int) (r1 : Int) (r2 : List (List Int)) (r3 : Int) (w : World) (hr0 : Kd.C (Kd.int .u8) w A0 l0.length l0) (hc0 : l0.length ≤ c0) (h : book_From.f k l0 = some (r1, r2, r3)) :
    Calls Try.prog 39 #[.slice A0 l0.length c0] w fun e w' => ∃ v1_ : Value, e = .returned (.tuple #[.agg #[.int .i64 r1, v1_], .int .i64 r3]) ∧ Kd.S (Kd.slice 74 (Kd.int .i16)) 26 w' w.heap.size (fun _ => True) v1_ r2 ∧ Below w.heap.size w w' := by
  have hu49 := Try.underlying49
  have HR0 := Aside0.mk hr0
  have HC0 := Aside0.mk hc0
  clear hr0 hc0
  have HB := Aside0.mk (Below.refl w.heap.size w)
  have H : (if (l0.length : Int) < 10 then (some (0, ([] : List (List Int)), 2)) else ((pack_Take.f k l0 8 1).bind fun bt555 => (if 8 < (l0.length : Int) then (if 9 < (l0.length : Int) then (if 10 ≤ (l0.length : Int) then ((pack_Take.f k (l0.drop 10) 2 (wrap64 ((wrap64 (rd l0 8)) * (wrap64 (rd l0 9))))).bind fun bt565 => (if bt555.2.2 = 0 then (if bt565.2.2 = 0 then (book_From.j0 k bt555.1 (wrap64 (rd l0 8)) (wrap64 (rd l0 9)) bt565.1 (decide ((bt565.2.1.length : Int) > 0))) else (book_From.j0 k bt555.1 (wrap64 (rd l0 8)) (wrap64 (rd l0 9)) bt565.1 true)) else (book_From.j0 k bt555.1 (wrap64 (rd l0 8)) (wrap64 (rd l0 9)) bt565.1 true))) else (none)) else (none)) else (none)))) = some (r1, r2, r3) := h
  clear h
  by_cases c2 : (l0.length : Int) < 10
  · rw [if_pos c2] at H
    have c2b0 : decide ((l0.length : Int) < 10) = true := decide_eq_true c2
    have c2b1 : decide (l0.length < 10) = true := decide_eq_true (by omega)
    clear c2
    simp only [Option.some.injEq, Prod.mk.injEq] at H
    obtain ⟨rfl, rfl, rfl⟩ := H
    go_enter Try.func39, Try.ntmps39
    go_wp2_with (first | ((with_reducible refine gate_dst (N := 2) rfl ?_); (try (refine gate_guard (by rfl) ?_; dsimp only)); refine box_event ?hg (N := 2) ?hd (cs := #[.int .i64 0, .slice none 0 0]) (t := 49) ?hr ?_; (case hd => rfl); (case hg => rfl); (case hr => first | (go_simp; done) | (go_simp; rfl)); intro gb554 hg w3 hbox hb; have n0_ := Aside0.mk (below_step (by repeat (first | (with_reducible first | exact HB.out | apply below_alloc | apply pw_below_drewN | apply below_drew1) | exact HB.out)) hb); have n1_ := Aside0.mk (hbox); have n2_ := Aside0.mk ((by rw [hg]; exact (below_size (by repeat (first | (with_reducible first | exact HB.out | apply below_alloc | apply pw_below_drewN | apply below_drew1) | exact HB.out))) : w.heap.size ≤ gb554)); have n3_ := Aside0.mk ((by rw [hg]; exact (below_size (by repeat (first | (with_reducible first | exact HB.out | apply below_alloc | apply pw_below_drewN | apply below_drew1) | exact HB.out))) : w.heap.size ≤ gb554)); clear HB; have HB := n0_; have BK554 := n1_; have GW554 := n2_; have GE554 := n3_; clear n0_ n1_ n2_ n3_; clear hb hbox hg; have hcz4_0 : w3.cell? ⟨gb554, 0, none⟩ = some (.int .i64 0) := (blk_cell BK554.out 0).trans rfl; have hcz4_1 : w3.cell? ⟨gb554, 1, none⟩ = some (.slice none 0 0) := (blk_cell BK554.out 1).trans rfl; have hfz4_0 := blk_frozen BK554.out 0; have hfz4_1 := blk_frozen BK554.out 1))
    refine bodyPost_ret (results_ct rfl _ _ gb554 49 #[.int .i64 0, .slice none 0 0] (0, 0) _ rfl (by (with_reducible repeat (first | refine blk_drewN ?_ _ | refine blk_drew ?_ | refine blk_alloc ?_ _)); refine blk_put (cs := #[.int .i64 0, .slice none 0 0]) ?_ 1 _ rfl; (with_reducible repeat (first | refine blk_drewN ?_ _ | refine blk_drew ?_ | refine blk_alloc ?_ _)); refine blk_put (cs := #[.int .i64 0, .slice none 0 0]) ?_ 0 _ rfl; (with_reducible repeat (first | refine blk_drewN ?_ _ | refine blk_drew ?_ | refine blk_alloc ?_ _)); exact BK554.out) Try.underlying49 rfl (by kernel_rfl)) rfl ?_
    exact ⟨_, by first | rfl | (simp [errW_none, errW_some] <;> rfl) | (simp [*, errW_none, errW_some] <;> rfl), by first | exact Kd.S_nil _ _ _ _ _ | exact Kd.N_nil _ _ _ _ _ | exact Kd.V_nil _ _ _ _ _ | exact Kd.Q_nil _ _ _ _ _ | exact Kd.R_nil _ _ _ _ _, by repeat (first | (with_reducible first | exact HB.out | apply below_alloc | apply pw_below_drewN | apply below_drew1 | refine below_set ?_ GE554.out) | exact HB.out)⟩
  · rw [if_neg c2] at H
    have c2b0 : decide ((l0.length : Int) < 10) = false := decide_eq_false c2
    have c2b1 : decide (l0.length < 10) = false := decide_eq_false (by omega)
    clear c2
    replace H := Option.bind_eq_some_iff.mp H
    obtain ⟨⟨t555, t558, t561⟩, A50, H⟩ := H
    replace H : (if 8 < (l0.length : Int) then (if 9 < (l0.length : Int) then (if 10 ≤ (l0.length : Int) then ((pack_Take.f k (l0.drop 10) 2 (wrap64 ((wrap64 (rd l0 8)) * (wrap64 (rd l0 9))))).bind fun bt565 => (if t561 = 0 then (if bt565.2.2 = 0 then (book_From.j0 k t555 (wrap64 (rd l0 8)) (wrap64 (rd l0 9)) bt565.1 (decide ((bt565.2.1.length : Int) > 0))) else (book_From.j0 k t555 (wrap64 (rd l0 8)) (wrap64 (rd l0 9)) bt565.1 true)) else (book_From.j0 k t555 (wrap64 (rd l0 8)) (wrap64 (rd l0 9)) bt565.1 true))) else (none)) else (none)) else (none)) = some (r1, r2, r3) := H
    have A5 := Aside0.mk A50
    clear A50
    by_cases c6 : 8 < (l0.length : Int)
    · rw [if_pos c6] at H
      have c6b0 : decide (8 < (l0.length : Int)) = true := decide_eq_true c6
      have c6b1 : decide (8 < l0.length) = true := decide_eq_true (by omega)
      clear c6
      by_cases c7 : 9 < (l0.length : Int)
      · rw [if_pos c7] at H
        have c7b0 : decide (9 < (l0.length : Int)) = true := decide_eq_true c7
        have c7b1 : decide (9 < l0.length) = true := decide_eq_true (by omega)
        clear c7
        by_cases c8 : 10 ≤ (l0.length : Int)
        · rw [if_pos c8] at H
          have c8b0 := eq_true c8
          have c8b1 : decide (10 ≤ (l0.length : Int)) = true := decide_eq_true c8
          clear c8
          replace H := Option.bind_eq_some_iff.mp H
          obtain ⟨⟨t565, t568, t571⟩, A90, H⟩ := H
          replace H : (if t561 = 0 then (if t571 = 0 then (book_From.j0 k t555 (wrap64 (rd l0 8)) (wrap64 (rd l0 9)) t565 (decide ((t568.length : Int) > 0))) else (book_From.j0 k t555 (wrap64 (rd l0 8)) (wrap64 (rd l0 9)) t565 true)) else (book_From.j0 k t555 (wrap64 (rd l0 8)) (wrap64 (rd l0 9)) t565 true)) = some (r1, r2, r3) := H
          have A9 := Aside0.mk A90
          clear A90
          have HC10 := Aside0.mk H
          clear H
          go_enter Try.func39, Try.ntmps39
          try go_wp2_with (first | ((with_reducible refine gate_dst (N := 2) rfl ?_); (try (refine gate_guard (by rfl) ?_; dsimp only)); refine box_event ?hg (N := 2) ?hd (cs := #[.int .i64 0, .slice none 0 0]) (t := 49) ?hr ?_; (case hd => rfl); (case hg => rfl); (case hr => first | (go_simp; done) | (go_simp; rfl)); intro gb554 hg w11 hbox hb; have n0_ := Aside0.mk (below_step (by repeat (first | (with_reducible first | exact HB.out | apply below_alloc | apply pw_below_drewN | apply below_drew1) | exact HB.out)) hb); have n1_ := Aside0.mk (hbox); have n2_ := Aside0.mk ((by rw [hg]; exact (below_size (by repeat (first | (with_reducible first | exact HB.out | apply below_alloc | apply pw_below_drewN | apply below_drew1) | exact HB.out))) : w.heap.size ≤ gb554)); have n3_ := Aside0.mk ((by rw [hg]; exact (below_size (by repeat (first | (with_reducible first | exact HB.out | apply below_alloc | apply pw_below_drewN | apply below_drew1) | exact HB.out))) : w.heap.size ≤ gb554)); clear HB; have HB := n0_; have BK554 := n1_; have GW554 := n2_; have GE554 := n3_; clear n0_ n1_ n2_ n3_; clear hb hbox hg) | ((with_reducible refine gate_callee (f := 105) rfl ?_); refine goesL_ (some 22) rfl rfl Try.func105 (by kernel_rfl) rfl #[.slice A0 l0.length c0, .int .i64 8, .int .i64 1] rfl (by (try simp only [List.map_toArray, List.map_cons, List.map_nil]); first | done | rfl | (simp only [List.length_drop, List.length_take]; rfl)) ?_; (with_reducible refine (pack_Take.calls k (fun k_ => k_ < w.heap.size) _ _ l0 8 1 t555 t558 t561 _ ?side1 A5.out).mono ?_); (case side1 => exact Kd.V_mk HC0.out (Kd.F_below (Kd.C_F (Kd.heap_int .u8) HR0.out) (by repeat (first | (with_reducible first | exact HB.out | apply below_alloc | apply pw_below_drewN | apply below_drew1 | refine below_set ?_ GE554.out) | exact HB.out)))); rintro e w12 ⟨v556, v559, rfl, ho0, ho1, hb⟩; refine ⟨_, rfl, ?_⟩; have n0_ := Aside0.mk (Kd.R_lower (Kd.R_mono (ok' := fun k_ => True) ho0 (fun _ hk_ => trivial)) (below_size (by repeat (first | (with_reducible first | exact HB.out | apply below_alloc | apply pw_below_drewN | apply below_drew1 | refine below_set ?_ GE554.out) | exact HB.out)))); have n1_ := Aside0.mk (Kd.R_lower (Kd.R_mono (ok' := fun k_ => True) ho1 (fun _ hk_ => trivial)) (below_size (by repeat (first | (with_reducible first | exact HB.out | apply below_alloc | apply pw_below_drewN | apply below_drew1 | refine below_set ?_ GE554.out) | exact HB.out)))); have n2_ := Aside0.mk (blk_below (g := gb554) (o := .cells #[.int .i64 0, .slice none 0 0] 49 (0, 0)) (by (with_reducible repeat (first | refine blk_drewN ?_ _ | refine blk_drew ?_ | refine blk_alloc ?_ _)); exact BK554.out) hb); have n3_ := Aside0.mk (below_step (by repeat (first | (with_reducible first | exact HB.out | apply below_alloc | apply pw_below_drewN | apply below_drew1 | refine below_set ?_ GE554.out) | exact HB.out)) hb); clear BK554; clear HB; have HO557 := n0_; have HO560 := n1_; have BK554 := n2_; have HB := n3_; clear n0_ n1_ n2_ n3_; (try clear hb); (try clear hb2); (try clear hk); (try clear hi); (try clear ho0); (try clear ho1)))
          have n0_ := Aside0.mk (Kd.R_drew HO557.out)
          have n1_ := Aside0.mk (Kd.R_drew HO560.out)
          have n2_ := Aside0.mk (blk_drew BK554.out)
          have n3_ := Aside0.mk (below_drew1 HB.out)
          clear HO557
          clear HO560
          clear BK554
          clear HB
          have HO557 := n0_
          have HO560 := n1_
          have BK554 := n2_
          have HB := n3_
          clear n0_ n1_ n2_ n3_
          have p562 : 0 ≤ (8 : Int) := (by omega)
          have q562 : 8 < (l0.length : Int) := of_decide_eq_true (by first | (with_reducible assumption) | assumption)
          obtain ⟨ad562, e562, hx562_0⟩ := Kd.at_int HR0.out 8 p562 q562
          have hw562_0 := hx562_0
          (try rw [show ((8 : Int)).toNat = 8 from rfl] at hw562_0)
          (try rw [show 8 * 1 = 8 from rfl] at hw562_0)
          (try simp only [Nat.reduceMul, Nat.reduceEqDiff, Go.Addr.add, ↓reduceIte] at hw562_0)
          cases e562
          (try simp only [show (8 : Int).toNat = 8 from rfl, Nat.reduceMul, Nat.reduceEqDiff, Go.Addr.add, ↓reduceIte] at hx562_0)
          have qi562 : (8 < l0.length) = True := eq_true (by omega)
          (try rw [show ((8 : Int)).toNat = 8 from rfl] at hx562_0)
          (try replace hx562_0 := (HB.out.cell (World.block_lt_of_cell? w _ hx562_0)).trans hx562_0)
          replace p562 := eq_true p562
          replace q562 := eq_true q562
          have p563 : 0 ≤ (9 : Int) := (by omega)
          have q563 : 9 < (l0.length : Int) := of_decide_eq_true (by first | (with_reducible assumption) | assumption)
          obtain ⟨ad563, e563, hx563_0⟩ := Kd.at_int HR0.out 9 p563 q563
          have hw563_0 := hx563_0
          (try rw [show ((9 : Int)).toNat = 9 from rfl] at hw563_0)
          (try rw [show 9 * 1 = 9 from rfl] at hw563_0)
          (try simp only [Nat.reduceMul, Nat.reduceEqDiff, Go.Addr.add, ↓reduceIte] at hw563_0)
          obtain rfl : ad562 = ad563 := (by injection e563)
          (try simp only [show (9 : Int).toNat = 9 from rfl, Nat.reduceMul, Nat.reduceEqDiff, Go.Addr.add, ↓reduceIte] at hx563_0)
          have qi563 : (9 < l0.length) = True := eq_true (by omega)
          (try rw [show ((9 : Int)).toNat = 9 from rfl] at hx563_0)
          (try replace hx563_0 := (HB.out.cell (World.block_lt_of_cell? w _ hx563_0)).trans hx563_0)
          replace p563 := eq_true p563
          replace q563 := eq_true q563
          refine start_ (n := 10) (S := fun w' => w'.cell? ⟨ad562.block, ad562.off + 8, none⟩ = some (.int .u8 (rd l0 8)) ∧ w'.cell? ⟨ad562.block, ad562.off + 9, none⟩ = some (.int .u8 (rd l0 9))) (ds := []) #[false, false, false, false, false, false, false, false, false, false] (by kernel_rfl) rfl rfl ⟨((HB.out.cell (World.block_lt_of_cell? w _ hw562_0)).trans hw562_0), ((HB.out.cell (World.block_lt_of_cell? w _ hw563_0)).trans hw563_0)⟩ (fun hHeld => ?_); refine with_tabW book_From.tab4 book_From.bits4 (fun HT_ HW_ => ?_)
          generalize w12.drew = w13 at HO557 HO560 BK554 HB hx562_0 hx563_0 hHeld ⊢
          refine pure_ (i := 0) (N := some 26) (v := ?_) (a' := ?_) #[true, false, false, false, false, false, false, false, false, false] rfl rfl (any_of HT_.out (by kernel_rfl)) (fun _ _ _ h => h) (Or.inl ⟨by rfl, ?_⟩) ?_ ?_
          rotate_left
          · intro w'
            go_simp
            with_reducible rfl
          rotate_left
          · simp only [Act.put, List.setIfInBounds_toArray, List.set_cons_zero, List.set_cons_succ, i64_w, i32_w]
            rfl
          refine pure_ (i := 1) (N := some 27) (v := ?_) (a' := ?_) #[true, true, false, false, false, false, false, false, false, false] rfl rfl (any_of HT_.out (by kernel_rfl)) (fun _ _ _ h => h) (Or.inl ⟨by rfl, ?_⟩) ?_ ?_
          rotate_left
          · intro w'
            go_simp
            with_reducible rfl
          rotate_left
          · simp only [Act.put, List.setIfInBounds_toArray, List.set_cons_zero, List.set_cons_succ, i64_w, i32_w]
            rfl
          refine pure_ (i := 4) (N := some 30) (v := ?_) (a' := ?_) #[true, true, false, false, true, false, false, false, false, false] rfl rfl (any_of HT_.out (by kernel_rfl)) (fun _ _ _ h => h) (Or.inl ⟨by rfl, ?_⟩) ?_ ?_
          rotate_left
          · intro w'
            go_simp
            with_reducible rfl
          rotate_left
          · simp only [Act.put, List.setIfInBounds_toArray, List.set_cons_zero, List.set_cons_succ, i64_w, i32_w]
            rfl
          refine pure_ (i := 5) (N := some 31) (v := ?_) (a' := ?_) #[true, true, false, false, true, true, false, false, false, false] rfl rfl (any_of HT_.out (by kernel_rfl)) (fun _ _ _ h => h) (Or.inl ⟨by rfl, ?_⟩) ?_ ?_
          rotate_left
          · intro w'
            go_simp
            with_reducible rfl
          rotate_left
          · simp only [Act.put, List.setIfInBounds_toArray, List.set_cons_zero, List.set_cons_succ, i64_w, i32_w]
            rfl
          refine take_ (i := 2) (N := some 28) (v := ?_) (a' := ?_) #[true, true, true, false, true, true, false, false, false, false] rfl rfl (take_ofW HT_.out HW_.out (by kernel_rfl)) (fun _ _ _ h => h) (Or.inl ⟨by rfl, ?_⟩) hHeld ?_ ?_
          rotate_left
          · rintro w' ⟨s0, s1⟩
            go_simp
            with_reducible rfl
          rotate_left
          · simp only [Act.put, List.setIfInBounds_toArray, List.set_cons_zero, List.set_cons_succ, i64_w, i32_w]
            rfl
          refine pure_ (i := 3) (N := some 29) (v := ?_) (a' := ?_) #[true, true, true, true, true, true, false, false, false, false] rfl rfl (any_of HT_.out (by kernel_rfl)) (fun _ _ _ h => h) (Or.inl ⟨by rfl, ?_⟩) ?_ ?_
          rotate_left
          · intro w'
            go_simp
            with_reducible rfl
          rotate_left
          · simp only [Act.put, List.setIfInBounds_toArray, List.set_cons_zero, List.set_cons_succ, i64_w, i32_w]
            rfl
          refine pure_ (i := 8) (N := some 7) (v := ?_) (a' := ?_) #[true, true, true, true, true, true, false, false, true, false] rfl rfl (any_of HT_.out (by kernel_rfl)) (fun _ _ _ h => h) (Or.inl ⟨by rfl, ?_⟩) ?_ ?_
          rotate_left
          · intro w'
            go_simp
            with_reducible rfl
          rotate_left
          · simp only [Act.put, List.setIfInBounds_toArray, List.set_cons_zero, List.set_cons_succ, i64_w, i32_w]
            rfl
          refine take_ (i := 6) (N := some 32) (v := ?_) (a' := ?_) #[true, true, true, true, true, true, true, false, true, false] rfl rfl (take_ofW HT_.out HW_.out (by kernel_rfl)) (fun _ _ _ h => h) (Or.inl ⟨by rfl, ?_⟩) hHeld ?_ ?_
          rotate_left
          · rintro w' ⟨s0, s1⟩
            go_simp
            with_reducible rfl
          rotate_left
          · simp only [Act.put, List.setIfInBounds_toArray, List.set_cons_zero, List.set_cons_succ, i64_w, i32_w]
            rfl
          refine pure_ (i := 7) (N := some 33) (v := ?_) (a' := ?_) #[true, true, true, true, true, true, true, true, true, false] rfl rfl (any_of HT_.out (by kernel_rfl)) (fun _ _ _ h => h) (Or.inl ⟨by rfl, ?_⟩) ?_ ?_
          rotate_left
          · intro w'
            go_simp
            with_reducible rfl
          rotate_left
          · simp only [Act.put, List.setIfInBounds_toArray, List.set_cons_zero, List.set_cons_succ, i64_w, i32_w]
            rfl
          refine pure_ (i := 9) (N := some 8) (v := ?_) (a' := ?_) #[true, true, true, true, true, true, true, true, true, true] rfl rfl (any_of HT_.out (by kernel_rfl)) (fun _ _ _ h => h) (Or.inl ⟨by rfl, ?_⟩) ?_ ?_
          rotate_left
          · intro w'
            go_simp
            with_reducible rfl
          rotate_left
          · simp only [Act.put, List.setIfInBounds_toArray, List.set_cons_zero, List.set_cons_succ, i64_w, i32_w]
            rfl
          refine done_ (done_of HT_.out (by kernel_rfl)) ?_
          obtain ⟨i014, hi014, _, hsz14, _⟩ := info_parts info5
          obtain ⟨A14, hcut14, hA14, hC14⟩ := print_drop_of (P := Try.prog) (Value.int .u8) 0 50 5 .i64 Try.underlying50 hi014 hsz14 (some ad562) c0 l0 10 (by omega) (of_decide_eq_true (by first | (with_reducible assumption) | assumption)) HC0.out
          have HR564 := Aside0.mk (Kd.C_of_reads (h1 := fun _ => rfl) (hA14 _ (Kd.reads_of_C HR0.out)))
          have HC564 := Aside0.mk hC14
          clear hA14 hC14 hi014 hsz14
          go_upto_region 6 with (first | ((with_reducible refine gate_callee (f := 105) rfl ?_); refine goesL_ (some 40) rfl rfl Try.func105 (by kernel_rfl) rfl #[.slice A14 (l0.drop 10).length (c0 - 10), .int .i64 2, .int .i64 (wrap64 ((wrap64 (rd l0 8)) * (wrap64 (rd l0 9))))] rfl (by (try simp only [List.map_toArray, List.map_cons, List.map_nil]); first | done | (rw [show (l0.drop 10).length = (l0.length - 10) from List.length_drop] <;> rfl) | rfl | (simp only [List.length_drop, List.length_take]; rfl)) ?_; (with_reducible refine (pack_Take.calls k (fun k_ => k_ < w.heap.size) _ _ (l0.drop 10) 2 (wrap64 ((wrap64 (rd l0 8)) * (wrap64 (rd l0 9)))) t565 t568 t571 _ ?side1 A9.out).mono ?_); (case side1 => exact Kd.V_mk HC564.out (Kd.F_below (Kd.C_F (Kd.heap_int .u8) HR564.out) (by repeat (first | (with_reducible first | exact HB.out | apply below_alloc | apply pw_below_drewN | apply below_drew1 | refine below_set ?_ GE554.out) | exact HB.out)))); rintro e w15 ⟨v566, v569, rfl, ho0, ho1, hb⟩; refine ⟨_, rfl, ?_⟩; have n0_ := Aside0.mk (Kd.R_elder' (by (with_reducible repeat (first | apply Kd.R_alloc | apply Kd.R_drewN | apply Kd.R_drew)); exact HO557.out) (Kd.R_base ho0) hb); have n1_ := Aside0.mk (Kd.R_elder' (by (with_reducible repeat (first | apply Kd.R_alloc | apply Kd.R_drewN | apply Kd.R_drew)); exact HO560.out) (Kd.R_base ho1) hb); have n2_ := Aside0.mk (Kd.R_lower (Kd.R_new' (Kd.R_mono (ok' := fun k_ => True) ho0 (fun _ hk_ => trivial)) (Kd.R_lt (by (with_reducible repeat (first | apply Kd.R_alloc | apply Kd.R_drewN | apply Kd.R_drew)); exact HO557.out))) (below_size (by repeat (first | (with_reducible first | exact HB.out | apply below_alloc | apply pw_below_drewN | apply below_drew1 | refine below_set ?_ GE554.out) | exact HB.out)))); have n3_ := Aside0.mk (Kd.R_lower (Kd.R_new' (Kd.R_mono (ok' := fun k_ => True) ho1 (fun _ hk_ => trivial)) (Kd.R_lt (by (with_reducible repeat (first | apply Kd.R_alloc | apply Kd.R_drewN | apply Kd.R_drew)); exact HO560.out))) (below_size (by repeat (first | (with_reducible first | exact HB.out | apply below_alloc | apply pw_below_drewN | apply below_drew1 | refine below_set ?_ GE554.out) | exact HB.out)))); have n4_ := Aside0.mk (blk_below (g := gb554) (o := .cells #[.int .i64 0, .slice none 0 0] 49 (0, 0)) (by (with_reducible repeat (first | refine blk_drewN ?_ _ | refine blk_drew ?_ | refine blk_alloc ?_ _)); exact BK554.out) hb); have n5_ := Aside0.mk (below_step (by repeat (first | (with_reducible first | exact HB.out | apply below_alloc | apply pw_below_drewN | apply below_drew1 | refine below_set ?_ GE554.out) | exact HB.out)) hb); clear HO557; clear HO560; clear BK554; clear HB; have HO557 := n0_; have HO560 := n1_; have HO567 := n2_; have HO570 := n3_; have BK554 := n4_; have HB := n5_; clear n0_ n1_ n2_ n3_ n4_ n5_; (try clear hb); (try clear hb2); (try clear hk); (try clear hi); (try clear ho0); (try clear ho1)))
          (try simp only [Act.put, List.setIfInBounds_toArray, List.set_cons_zero, List.set_cons_succ])
          go_cut [54] (fun v54 wc => ∃ (kq : Nat) (x54_9 : Bool), v54 = .bool x54_9 ∧ Aside0 (book_From.j0 kq t555 (wrap64 (rd l0 8)) (wrap64 (rd l0 9)) t565 x54_9 = some (r1, r2, r3)) ∧ Aside0 (kq ≤ k) ∧ Aside0 (Kd.R (Kd.int .i64) 2 wc w.heap.size (fun k_ => some k_ ≠ (v566 : Value).ownBlock) v556 t555) ∧ Aside0 (Kd.R (Kd.int .i64) 2 wc w.heap.size (fun k_ => some k_ ≠ (v556 : Value).ownBlock) v566 t565) ∧ Aside0 (wc.heap[gb554]? = some (.cells #[.int .i64 0, (.slice none 0 0)] 49 (0, 0))) ∧ Aside0 (Below w.heap.size w wc))
          case first =>
            have H := HC10.out
            clear HC10
            by_cases c16 : t561 = 0
            · rw [if_pos c16] at H
              have c16b0 : (t561 == 0) = true := beq_iff_eq.mpr c16
              have c16b1 : (t561 != 0) = false := bne_eq_false_iff_eq.mpr c16
              clear c16
              (first | rw [c16b0] | (simp only [i64_w, i32_w]; rw [c16b0]) | skip)
              by_cases c17 : t571 = 0
              · rw [if_pos c17] at H
                have c17b0 : (t571 == 0) = true := beq_iff_eq.mpr c17
                have c17b1 : (t571 != 0) = false := bne_eq_false_iff_eq.mpr c17
                clear c17
                have H' := Aside0.mk H
                clear H
                obtain ⟨Ao18, co18, eo18⟩ := Kd.R_slice HO570.out
                subst eo18
                go_wp2
                go_meet
                case rel => exact ⟨_, (decide ((t568.length : Int) > 0)), (by first | rfl | (simp; done) | (simp [*]; done)), (by first | exact H' | (rw [hji22]; exact H') | (rw [hji38]; exact H') | (rw [hji45]; exact H')), ⟨by first | omega | exact Nat.le_refl _⟩, ⟨by (with_reducible repeat (first | apply Kd.R_alloc | apply Kd.R_drewN | apply Kd.R_drew)); exact Kd.R_mono HO557.out (fun _ hk => hk.2)⟩, ⟨by (with_reducible repeat (first | apply Kd.R_alloc | apply Kd.R_drewN | apply Kd.R_drew)); exact Kd.R_mono HO567.out (fun _ hk => hk.2)⟩, ⟨by (with_reducible repeat (first | refine blk_drewN ?_ _ | refine blk_drew ?_ | refine blk_alloc ?_ _)); exact BK554.out⟩, ⟨by repeat (first | (with_reducible first | exact HB.out | apply below_alloc | apply pw_below_drewN | apply below_drew1 | refine below_set ?_ GE554.out) | exact HB.out)⟩⟩
              · rw [if_neg c17] at H
                have c17b0 : (t571 == 0) = false := beq_eq_false_iff_ne.mpr c17
                have c17b1 : (t571 != 0) = true := bne_iff_ne.mpr c17
                have H' := Aside0.mk H
                clear H
                go_wp2
                go_meet
                case rel => exact ⟨_, (true), (by first | rfl | (simp; done) | (simp [*]; done)), (by first | exact H' | (rw [hji22]; exact H') | (rw [hji38]; exact H') | (rw [hji45]; exact H')), ⟨by first | omega | exact Nat.le_refl _⟩, ⟨by (with_reducible repeat (first | apply Kd.R_alloc | apply Kd.R_drewN | apply Kd.R_drew)); exact Kd.R_mono HO557.out (fun _ hk => hk.2)⟩, ⟨by (with_reducible repeat (first | apply Kd.R_alloc | apply Kd.R_drewN | apply Kd.R_drew)); exact Kd.R_mono HO567.out (fun _ hk => hk.2)⟩, ⟨by (with_reducible repeat (first | refine blk_drewN ?_ _ | refine blk_drew ?_ | refine blk_alloc ?_ _)); exact BK554.out⟩, ⟨by repeat (first | (with_reducible first | exact HB.out | apply below_alloc | apply pw_below_drewN | apply below_drew1 | refine below_set ?_ GE554.out) | exact HB.out)⟩⟩
            · rw [if_neg c16] at H
              have c16b0 : (t561 == 0) = false := beq_eq_false_iff_ne.mpr c16
              have c16b1 : (t561 != 0) = true := bne_iff_ne.mpr c16
              (first | rw [c16b0] | (simp only [i64_w, i32_w]; rw [c16b0]) | skip)
              have H' := Aside0.mk H
              clear H
              go_wp2
              go_meet
              case rel => exact ⟨_, (true), (by first | rfl | (simp; done) | (simp [*]; done)), (by first | exact H' | (rw [hji22]; exact H') | (rw [hji38]; exact H') | (rw [hji45]; exact H')), ⟨by first | omega | exact Nat.le_refl _⟩, ⟨by (with_reducible repeat (first | apply Kd.R_alloc | apply Kd.R_drewN | apply Kd.R_drew)); exact Kd.R_mono HO557.out (fun _ hk => hk.2)⟩, ⟨by (with_reducible repeat (first | apply Kd.R_alloc | apply Kd.R_drewN | apply Kd.R_drew)); exact Kd.R_mono HO567.out (fun _ hk => hk.2)⟩, ⟨by (with_reducible repeat (first | refine blk_drewN ?_ _ | refine blk_drew ?_ | refine blk_alloc ?_ _)); exact BK554.out⟩, ⟨by repeat (first | (with_reducible first | exact HB.out | apply below_alloc | apply pw_below_drewN | apply below_drew1 | refine below_set ?_ GE554.out) | exact HB.out)⟩⟩
          case rest =>
            clear HC10
            try clear c1
            try clear c2
            try clear c2b0
            try clear c2b1
            try clear p2
            try clear c3
            try clear p5
            try clear q5
            try clear hx5
            try clear qi5
            try clear c6
            try clear c6b0
            try clear c6b1
            try clear p6
            try clear c7
            try clear c7b0
            try clear c7b1
            try clear c8
            try clear c8b0
            try clear c8b1
            try clear c10
            try clear c16
            try clear c16b0
            try clear c16b1
            try clear c17
            try clear c17b0
            try clear c17b1
            try clear hcz4_0
            try clear hcz4_1
            try clear hfz4_0
            try clear hfz4_1
            try clear hx562_0
            try clear hx563_0
            try clear p562
            try clear p563
            try clear q562
            try clear q563
            obtain ⟨kq, x54_9, rfl, HA, HJ9, HO_4, HO_9, BK554, HB⟩ := hcut
            cases kq with
            | zero => exact absurd HA.out (by simp [book_From.j0])
            | succ kj9 =>
              have H := HA.out
              clear HA
              simp only [book_From.j0] at H
              by_cases c19 : x54_9 = true
              · subst c19
                have H1 : (some (0, ([] : List (List Int)), 2)) = some (r1, r2, r3) := by rw [if_pos rfl] at H; exact H
                clear H
                have H := H1
                clear H1
                simp only [Option.some.injEq, Prod.mk.injEq] at H
                obtain ⟨rfl, rfl, rfl⟩ := H
                have hcz20_0 : wc.cell? ⟨gb554, 0, none⟩ = some (.int .i64 0) := (blk_cell BK554.out 0).trans rfl
                have hcz20_1 : wc.cell? ⟨gb554, 1, none⟩ = some (.slice none 0 0) := (blk_cell BK554.out 1).trans rfl
                have hfz20_0 := blk_frozen BK554.out 0
                have hfz20_1 := blk_frozen BK554.out 1
                go_wp2
                refine bodyPost_ret (results_ct rfl _ _ gb554 49 #[.int .i64 0, .slice none 0 0] (0, 0) _ rfl (by (with_reducible repeat (first | refine blk_drewN ?_ _ | refine blk_drew ?_ | refine blk_alloc ?_ _)); refine blk_put (cs := #[.int .i64 0, .slice none 0 0]) ?_ 1 _ rfl; (with_reducible repeat (first | refine blk_drewN ?_ _ | refine blk_drew ?_ | refine blk_alloc ?_ _)); refine blk_put (cs := #[.int .i64 0, .slice none 0 0]) ?_ 0 _ rfl; (with_reducible repeat (first | refine blk_drewN ?_ _ | refine blk_drew ?_ | refine blk_alloc ?_ _)); exact BK554.out) Try.underlying49 rfl (by kernel_rfl)) rfl ?_
                exact ⟨_, by first | rfl | (simp [errW_none, errW_some] <;> rfl) | (simp [*, errW_none, errW_some] <;> rfl), by first | exact Kd.S_nil _ _ _ _ _ | exact Kd.N_nil _ _ _ _ _ | exact Kd.V_nil _ _ _ _ _ | exact Kd.Q_nil _ _ _ _ _ | exact Kd.R_nil _ _ _ _ _, by repeat (first | (with_reducible first | exact HB.out | apply below_alloc | apply pw_below_drewN | apply below_drew1 | refine below_set ?_ GE554.out) | exact HB.out)⟩
              · replace c19 := Bool.eq_false_iff.mpr c19
                subst c19
                have H1 : (if 0 < (t555.length : Int) then (if 0 ≤ (wrap64 (rd l0 8)) then (if ((wrap64 (rd l0 8)) : Int).toNat ≤ 11728124029610 then ((some (List.replicate ((wrap64 (rd l0 8)) : Int).toNat [] : List (List Int))).bind fun y573 => (book_From.l0 kj9 (wrap64 (rd l0 9)) t565 (y573.length : Int) 0 (rd t555 0) y573)) else (none)) else (none)) else (none)) = some (r1, r2, r3) := by rw [if_neg (show ¬ (false = true) by decide)] at H; exact H
                clear H
                have H := H1
                clear H1
                by_cases c21 : 0 < (t555.length : Int)
                · rw [if_pos c21] at H
                  have c21b0 : decide (0 < (t555.length : Int)) = true := decide_eq_true c21
                  have c21b1 : decide (0 < t555.length) = true := decide_eq_true (by omega)
                  clear c21
                  obtain ⟨ji22, hji22⟩ : ∃ j_ : Int, (wrap64 (rd l0 8)) = j_ := ⟨_, rfl⟩
                  replace H : (if 0 ≤ (ji22) then (if ((ji22) : Int).toNat ≤ 11728124029610 then ((some (List.replicate ((ji22) : Int).toNat [] : List (List Int))).bind fun y573 => (book_From.l0 kj9 (wrap64 (rd l0 9)) t565 (y573.length : Int) 0 (rd t555 0) y573)) else (none)) else (none)) = some (r1, r2, r3) := by first | (rw [hji22] at H; exact H) | (simp only [hji22] at H ⊢; exact H)
                  have hji22w : (IntKind.i64.wrap (rd l0 8)) = ji22 := (i64_w _).trans hji22
                  by_cases c23 : 0 ≤ (ji22)
                  · rw [if_pos c23] at H
                    have c23b0 := eq_true c23
                    have c23b1 : decide (0 ≤ (ji22)) = true := decide_eq_true c23
                    clear c23
                    by_cases c24 : ((ji22) : Int).toNat ≤ 11728124029610
                    · rw [if_pos c24] at H
                      have c24b0 := eq_true c24
                      have c24b1 : decide (((ji22) : Int).toNat ≤ 11728124029610) = true := decide_eq_true c24
                      clear c24
                      obtain ⟨y573, hy573⟩ : ∃ y_ : List (List Int), y_ = (List.replicate ((ji22) : Int).toNat []) := ⟨_, rfl⟩
                      replace H : (book_From.l0 kj9 (wrap64 (rd l0 9)) t565 (y573.length : Int) 0 (rd t555 0) y573) = some (r1, r2, r3) := by first | (rw [hy573]; with_reducible exact H) | (have H2_ := (Option.bind_some _ _).symm.trans H; rw [hy573]; with_reducible exact H2_) | (have H2_ := (Option.bind_some _ _).symm.trans H; with_reducible exact H2_) | with_reducible exact H | (rw [hy573]; exact H) | exact H
                      have Ny573 := Aside0.mk hy573
                      clear hy573
                      have H' := Aside0.mk H
                      clear H
                      try go_wp2
                      have n0_ := Aside0.mk (Kd.R_drew HO_4.out)
                      have n1_ := Aside0.mk (Kd.R_drew HO_9.out)
                      have n2_ := Aside0.mk (blk_drew BK554.out)
                      have n3_ := Aside0.mk (below_drew1 HB.out)
                      clear HO_4
                      clear HO_9
                      clear BK554
                      clear HB
                      have HO_4 := n0_
                      have HO_9 := n1_
                      have BK554 := n2_
                      have HB := n3_
                      clear n0_ n1_ n2_ n3_
                      obtain ⟨Ao26, co26, eo26⟩ := Kd.R_slice HO_4.out
                      (first | subst eo26 | (injection eo26 with f1_ f2_ f3_; have f4_ := f1_.symm; have f5_ := f3_.symm; clear f1_ f2_ f3_; subst f4_; subst f5_))
                      have p572 : 0 ≤ (0 : Int) := (by omega)
                      have q572 : 0 < (t555.length : Int) := of_decide_eq_true (by first | (with_reducible assumption) | assumption)
                      obtain ⟨ad572, e572, hx572_0⟩ := Kd.at_int (Kd.R_reads' HO_4.out).2.2 0 p572 q572
                      cases e572
                      have qi572 : (0 < t555.length) = True := eq_true (by omega)
                      (try rw [show ((0 : Int)).toNat = 0 from rfl] at hx572_0)
                      (try rw [Addr.add_zero'] at hx572_0)
                      replace p572 := eq_true p572
                      replace q572 := eq_true q572
                      refine start_ (n := 8) (S := fun w' => w'.cell? ad572 = some (.int .i64 (rd t555 0))) (ds := []) #[false, false, false, false, false, false, false, false] (by kernel_rfl) rfl rfl (hx572_0) (fun hHeld => ?_); refine with_tabW book_From.tab8 book_From.bits8 (fun HT_ HW_ => ?_)
                      generalize wc.drew = w25 at HO_4 HO_9 BK554 HB hx572_0 hHeld ⊢
                      refine pure_ (i := 0) (N := some 56) (v := ?_) (a' := ?_) #[true, false, false, false, false, false, false, false] rfl rfl (any_of HT_.out (by kernel_rfl)) (fun _ _ _ h => h) (Or.inl ⟨by rfl, ?_⟩) ?_ ?_
                      rotate_left
                      · intro w'
                        go_simp
                        with_reducible rfl
                      rotate_left
                      · simp only [Act.put, List.setIfInBounds_toArray, List.set_cons_zero, List.set_cons_succ, i64_w, i32_w]
                        rfl
                      refine pure_ (i := 1) (N := some 57) (v := ?_) (a' := ?_) #[true, true, false, false, false, false, false, false] rfl rfl (any_of HT_.out (by kernel_rfl)) (fun _ _ _ h => h) (Or.inl ⟨by rfl, ?_⟩) ?_ ?_
                      rotate_left
                      · intro w'
                        go_simp
                        with_reducible rfl
                      rotate_left
                      · simp only [Act.put, List.setIfInBounds_toArray, List.set_cons_zero, List.set_cons_succ, i64_w, i32_w]
                        rfl
                      refine pure_ (i := 3) (N := some 59) (v := ?_) (a' := ?_) #[true, true, false, true, false, false, false, false] rfl rfl (any_of HT_.out (by kernel_rfl)) (fun _ _ _ h => h) (Or.inl ⟨by rfl, ?_⟩) ?_ ?_
                      rotate_left
                      · intro w'
                        go_simp
                        with_reducible rfl
                      rotate_left
                      · simp only [Act.put, List.setIfInBounds_toArray, List.set_cons_zero, List.set_cons_succ, i64_w, i32_w]
                        rfl
                      refine take_ (i := 2) (N := some 58) (v := ?_) (a' := ?_) #[true, true, true, true, false, false, false, false] rfl rfl (take_ofW HT_.out HW_.out (by kernel_rfl)) (fun _ _ _ h => h) (Or.inl ⟨by rfl, ?_⟩) hHeld ?_ ?_
                      rotate_left
                      · intro w' s0
                        go_simp
                        with_reducible rfl
                      rotate_left
                      · simp only [Act.put, List.setIfInBounds_toArray, List.set_cons_zero, List.set_cons_succ, i64_w, i32_w]
                        rfl
                      refine join_ (σ := Value × Nat) 1 #[true, true, true, true, true, true, true, false] (fun s_ => [(60, s_.1), (12, .pointer (some ⟨s_.2, 0, none⟩)), (61, .agg #[.int .i64 (rd t555 0), s_.1])]) (fun s_ w' => (w'.cell? ad572 = some (.int .i64 (rd t555 0))) ∧ (Kd.S (Kd.slice 74 (Kd.int .i16)) 26 w' w.heap.size (fun _ => True) s_.1 y573) ∧ (Kd.R (Kd.int .i64) 2 w' w.heap.size (fun k_ => some k_ ≠ (v566 : Value).ownBlock) (.slice (some ad572) t555.length co26) t555) ∧ (Kd.R (Kd.int .i64) 2 w' w.heap.size (fun k_ => some k_ ≠ (.slice (some ad572) t555.length co26 : Value).ownBlock) v566 t565) ∧ (w'.heap[gb554]? = some (.cells #[.int .i64 0, .slice none 0 0] 49 (0, 0))) ∧ (w'.heap[s_.2]? = some (.cells #[.int .i64 0, .slice none 0 0] 49 (0, 0))) ∧ (w.heap.size ≤ s_.2) ∧ (w.heap.size ≤ s_.2) ∧ (gb554 ≠ s_.2) ∧ (s_.2 ≠ gb554) ∧ (Below w.heap.size w w')) ?_ ?_
                      rotate_left
                      · intro hCont
                        refine two_ (i := 4) (j := 6) (Ni := some 60) (Nj := some 12) #[true, true, true, true, true, false, false, false] #[true, true, true, true, false, false, true, false] rfl rfl rfl rfl (two_of HT_.out (by kernel_rfl)) (by decide) (by decide) (fun K hK => ?_) (fun K hK => ?_)
                        · skip
                          refine Kd.S_make_step (Kd.slice 74 (Kd.int .i16)) _ 26 (by rfl) (N := 60) rfl 47 _ _ rfl (ji22) (by first | rfl | (rw [← hji22]; rfl)) (by first | rfl | (rw [← hji22]; rfl)) Try.underlying47 (.slice none 0 0) 24 info26 rfl (by decide) (by omega) [] (ok := fun _ => True) (okp := fun _ => True) ⟨_, rfl, Kd.R_nil _ _ _ _ _⟩ (fun _ hk => hk) trivial (of_decide_eq_true (by first | (with_reducible assumption) | assumption)) (Nat.le_trans (Nat.mul_le_mul_right _ (of_decide_eq_true (by first | (with_reducible assumption) | assumption) : (ji22).toNat ≤ 11728124029610)) (by omega)) (Below.refl _ _) (Nat.le_refl _) ?_
                          intro v574 w27 ho28 hb hg_ hnew_
                          have HS0_ := (hb.cell (World.block_lt_of_cell? _ _ (hHeld))).trans (hHeld)
                          clear hg_ hnew_
                          (first | rw [← Ny573.out] at ho28 | (simp only [Int.reduceToNat] at ho28; rw [← Ny573.out] at ho28))
                          have n0_ := Aside0.mk (Kd.R_below (by (with_reducible repeat (first | apply Kd.R_alloc | apply Kd.R_drewN | apply Kd.R_drew)); exact HO_4.out) hb)
                          have n1_ := Aside0.mk (Kd.R_below (by (with_reducible repeat (first | apply Kd.R_alloc | apply Kd.R_drewN | apply Kd.R_drew)); exact HO_9.out) hb)
                          have n2_ := Aside0.mk (Kd.S_lower ho28 (below_size (by repeat (first | (with_reducible first | exact HB.out | apply below_alloc | apply pw_below_drewN | apply below_drew1 | refine below_set ?_ GE554.out) | exact HB.out))))
                          have n3_ := Aside0.mk (blk_below (g := gb554) (o := .cells #[.int .i64 0, .slice none 0 0] 49 (0, 0)) (by (with_reducible repeat (first | refine blk_drewN ?_ _ | refine blk_drew ?_ | refine blk_alloc ?_ _)); exact BK554.out) hb)
                          have n4_ := Aside0.mk (below_step (by repeat (first | (with_reducible first | exact HB.out | apply below_alloc | apply pw_below_drewN | apply below_drew1 | refine below_set ?_ GE554.out) | exact HB.out)) hb)
                          clear HO_4
                          clear HO_9
                          clear BK554
                          clear HB
                          have HO_4 := n0_
                          have HO_9 := n1_
                          have HO575 := n2_
                          have BK554 := n3_
                          have HB := n4_
                          clear n0_ n1_ n2_ n3_ n4_
                          clear hb ho28
                          obtain ⟨Ao29, co29, eo29⟩ := Kd.S_slice HO575.out
                          (first | subst eo29 | (injection eo29 with f1_ f2_ f3_; have f4_ := f1_.symm; have f5_ := f3_.symm; clear f1_ f2_ f3_; subst f4_; subst f5_))
                          refine hK.out _ _ (HS0_) (fun hHeld => ?_)
                          clear hK K
                          refine norm_ (a' := ?_) ?_ ?_
                          rotate_left
                          · show Act.put _ (some 60) _ = _
                            simp only [Act.put, List.setIfInBounds_toArray, List.set_cons_zero, List.set_cons_succ, i64_w, i32_w]
                            rfl
                          refine pure_ (i := 5) (N := some 61) (v := ?_) (a' := ?_) #[true, true, true, true, true, true, false, false] rfl rfl (any_of HT_.out (by kernel_rfl)) (fun _ _ _ h => h) (Or.inl ⟨by rfl, ?_⟩) ?_ ?_
                          rotate_left
                          · intro w'
                            go_simp
                            with_reducible rfl
                          rotate_left
                          · simp only [Act.put, List.setIfInBounds_toArray, List.set_cons_zero, List.set_cons_succ, i64_w, i32_w]
                            rfl
                          refine one_ (i := 6) (N := some 12) #[true, true, true, true, true, true, true, false] rfl rfl (one_of HT_.out (by kernel_rfl)) (by decide) (fun K hK => ?_)
                          refine box_step ?hg (N := 12) ?hd (cs := #[.int .i64 0, .slice none 0 0]) (t := 49) ?hr ?_; (case hd => rfl); (case hg => rfl); (case hr => first | (go_simp; done) | (go_simp; rfl))
                          intro gb576 hg w30 hbox hb
                          have HS0_ := (hb.cell (World.block_lt_of_cell? _ _ (hHeld))).trans (hHeld)
                          have n0_ := Aside0.mk (Kd.R_below (by (with_reducible repeat (first | apply Kd.R_alloc | apply Kd.R_drewN | apply Kd.R_drew)); exact HO_4.out) hb)
                          have n1_ := Aside0.mk (Kd.R_below (by (with_reducible repeat (first | apply Kd.R_alloc | apply Kd.R_drewN | apply Kd.R_drew)); exact HO_9.out) hb)
                          have n2_ := Aside0.mk (Kd.S_below (by (with_reducible repeat (first | apply Kd.S_alloc | apply Kd.S_drewN | apply Kd.S_drew)); exact HO575.out) hb)
                          have n3_ := Aside0.mk (blk_below (g := gb554) (o := .cells #[.int .i64 0, .slice none 0 0] 49 (0, 0)) (by (with_reducible repeat (first | refine blk_drewN ?_ _ | refine blk_drew ?_ | refine blk_alloc ?_ _)); exact BK554.out) hb)
                          have n4_ := Aside0.mk (below_step (by repeat (first | (with_reducible first | exact HB.out | apply below_alloc | apply pw_below_drewN | apply below_drew1 | refine below_set ?_ GE554.out) | exact HB.out)) hb)
                          have n5_ := Aside0.mk (hbox)
                          have n6_ := Aside0.mk ((by rw [hg]; exact (below_size (by repeat (first | (with_reducible first | exact HB.out | apply below_alloc | apply pw_below_drewN | apply below_drew1 | refine below_set ?_ GE554.out) | exact HB.out))) : w.heap.size ≤ gb576))
                          have n7_ := Aside0.mk ((by rw [hg]; exact (below_size (by repeat (first | (with_reducible first | exact HB.out | apply below_alloc | apply pw_below_drewN | apply below_drew1 | refine below_set ?_ GE554.out) | exact HB.out))) : w.heap.size ≤ gb576))
                          have n8_ := Aside0.mk ((by rw [hg]; exact Nat.ne_of_lt (blk_lt (g := gb554) (o := .cells #[.int .i64 0, .slice none 0 0] 49 (0, 0)) (by (with_reducible repeat (first | refine blk_drewN ?_ _ | refine blk_drew ?_ | refine blk_alloc ?_ _)); exact BK554.out)) : gb554 ≠ gb576))
                          have n9_ := Aside0.mk ((by rw [hg]; exact Nat.ne_of_gt (blk_lt (g := gb554) (o := .cells #[.int .i64 0, .slice none 0 0] 49 (0, 0)) (by (with_reducible repeat (first | refine blk_drewN ?_ _ | refine blk_drew ?_ | refine blk_alloc ?_ _)); exact BK554.out)) : gb576 ≠ gb554))
                          clear HO_4
                          clear HO_9
                          clear HO575
                          clear BK554
                          clear HB
                          have HO_4 := n0_
                          have HO_9 := n1_
                          have HO575 := n2_
                          have BK554 := n3_
                          have HB := n4_
                          have BK576 := n5_
                          have GW576 := n6_
                          have GE576 := n7_
                          have NB554_576 := n8_
                          have NB576_554 := n9_
                          clear n0_ n1_ n2_ n3_ n4_ n5_ n6_ n7_ n8_ n9_
                          clear hb hbox hg
                          refine hK.out _ _ (HS0_) (fun hHeld => ?_)
                          clear hK K
                          refine norm_ (a' := ?_) ?_ ?_
                          rotate_left
                          · show Act.put _ (some 12) _ = _
                            simp only [Act.put, List.setIfInBounds_toArray, List.set_cons_zero, List.set_cons_succ, i64_w, i32_w]
                            rfl
                          exact norm_ (by simp only [putAll, Act.put, List.setIfInBounds_toArray, List.set_cons_zero, List.set_cons_succ]) (hCont (.slice Ao29 y573.length co29, gb576) _ ⟨hHeld, (by (with_reducible repeat (first | apply Kd.S_alloc | apply Kd.S_drewN | apply Kd.S_drew)); exact HO575.out), (by (with_reducible repeat (first | apply Kd.R_alloc | apply Kd.R_drewN | apply Kd.R_drew)); exact HO_4.out), (by (with_reducible repeat (first | apply Kd.R_alloc | apply Kd.R_drewN | apply Kd.R_drew)); exact HO_9.out), (by (with_reducible repeat (first | refine blk_drewN ?_ _ | refine blk_drew ?_ | refine blk_alloc ?_ _)); exact BK554.out), (by (with_reducible repeat (first | refine blk_drewN ?_ _ | refine blk_drew ?_ | refine blk_alloc ?_ _)); exact BK576.out), GW576.out, GE576.out, NB554_576.out, NB576_554.out, (by repeat (first | (with_reducible first | exact HB.out | apply below_alloc | apply pw_below_drewN | apply below_drew1 | refine below_set ?_ GE554.out | refine below_set ?_ GE576.out) | exact HB.out))⟩)
                        · skip
                          refine box_step ?hg (N := 12) ?hd (cs := #[.int .i64 0, .slice none 0 0]) (t := 49) ?hr ?_; (case hd => rfl); (case hg => rfl); (case hr => first | (go_simp; done) | (go_simp; rfl))
                          intro gb576 hg w27 hbox hb
                          have HS0_ := (hb.cell (World.block_lt_of_cell? _ _ (hHeld))).trans (hHeld)
                          have n0_ := Aside0.mk (Kd.R_below (by (with_reducible repeat (first | apply Kd.R_alloc | apply Kd.R_drewN | apply Kd.R_drew)); exact HO_4.out) hb)
                          have n1_ := Aside0.mk (Kd.R_below (by (with_reducible repeat (first | apply Kd.R_alloc | apply Kd.R_drewN | apply Kd.R_drew)); exact HO_9.out) hb)
                          have n2_ := Aside0.mk (blk_below (g := gb554) (o := .cells #[.int .i64 0, .slice none 0 0] 49 (0, 0)) (by (with_reducible repeat (first | refine blk_drewN ?_ _ | refine blk_drew ?_ | refine blk_alloc ?_ _)); exact BK554.out) hb)
                          have n3_ := Aside0.mk (below_step (by repeat (first | (with_reducible first | exact HB.out | apply below_alloc | apply pw_below_drewN | apply below_drew1 | refine below_set ?_ GE554.out) | exact HB.out)) hb)
                          have n4_ := Aside0.mk (hbox)
                          have n5_ := Aside0.mk ((by rw [hg]; exact (below_size (by repeat (first | (with_reducible first | exact HB.out | apply below_alloc | apply pw_below_drewN | apply below_drew1 | refine below_set ?_ GE554.out) | exact HB.out))) : w.heap.size ≤ gb576))
                          have n6_ := Aside0.mk ((by rw [hg]; exact (below_size (by repeat (first | (with_reducible first | exact HB.out | apply below_alloc | apply pw_below_drewN | apply below_drew1 | refine below_set ?_ GE554.out) | exact HB.out))) : w.heap.size ≤ gb576))
                          have n7_ := Aside0.mk ((by rw [hg]; exact Nat.ne_of_lt (blk_lt (g := gb554) (o := .cells #[.int .i64 0, .slice none 0 0] 49 (0, 0)) (by (with_reducible repeat (first | refine blk_drewN ?_ _ | refine blk_drew ?_ | refine blk_alloc ?_ _)); exact BK554.out)) : gb554 ≠ gb576))
                          have n8_ := Aside0.mk ((by rw [hg]; exact Nat.ne_of_gt (blk_lt (g := gb554) (o := .cells #[.int .i64 0, .slice none 0 0] 49 (0, 0)) (by (with_reducible repeat (first | refine blk_drewN ?_ _ | refine blk_drew ?_ | refine blk_alloc ?_ _)); exact BK554.out)) : gb576 ≠ gb554))
                          clear HO_4
                          clear HO_9
                          clear BK554
                          clear HB
                          have HO_4 := n0_
                          have HO_9 := n1_
                          have BK554 := n2_
                          have HB := n3_
                          have BK576 := n4_
                          have GW576 := n5_
                          have GE576 := n6_
                          have NB554_576 := n7_
                          have NB576_554 := n8_
                          clear n0_ n1_ n2_ n3_ n4_ n5_ n6_ n7_ n8_
                          clear hb hbox hg
                          refine hK.out _ _ (HS0_) (fun hHeld => ?_)
                          clear hK K
                          refine norm_ (a' := ?_) ?_ ?_
                          rotate_left
                          · show Act.put _ (some 12) _ = _
                            simp only [Act.put, List.setIfInBounds_toArray, List.set_cons_zero, List.set_cons_succ, i64_w, i32_w]
                            rfl
                          refine one_ (i := 4) (N := some 60) #[true, true, true, true, true, false, true, false] rfl rfl (one_of HT_.out (by kernel_rfl)) (by decide) (fun K hK => ?_)
                          refine Kd.S_make_step (Kd.slice 74 (Kd.int .i16)) _ 26 (by rfl) (N := 60) rfl 47 _ _ rfl (ji22) (by first | rfl | (rw [← hji22]; rfl)) (by first | rfl | (rw [← hji22]; rfl)) Try.underlying47 (.slice none 0 0) 24 info26 rfl (by decide) (by omega) [] (ok := fun _ => True) (okp := fun _ => True) ⟨_, rfl, Kd.R_nil _ _ _ _ _⟩ (fun _ hk => hk) trivial (of_decide_eq_true (by first | (with_reducible assumption) | assumption)) (Nat.le_trans (Nat.mul_le_mul_right _ (of_decide_eq_true (by first | (with_reducible assumption) | assumption) : (ji22).toNat ≤ 11728124029610)) (by omega)) (Below.refl _ _) (Nat.le_refl _) ?_
                          intro v574 w28 ho29 hb hg_ hnew_
                          have HS0_ := (hb.cell (World.block_lt_of_cell? _ _ (hHeld))).trans (hHeld)
                          clear hg_ hnew_
                          (first | rw [← Ny573.out] at ho29 | (simp only [Int.reduceToNat] at ho29; rw [← Ny573.out] at ho29))
                          have n0_ := Aside0.mk (Kd.R_below (by (with_reducible repeat (first | apply Kd.R_alloc | apply Kd.R_drewN | apply Kd.R_drew)); exact HO_4.out) hb)
                          have n1_ := Aside0.mk (Kd.R_below (by (with_reducible repeat (first | apply Kd.R_alloc | apply Kd.R_drewN | apply Kd.R_drew)); exact HO_9.out) hb)
                          have n2_ := Aside0.mk (Kd.S_lower ho29 (below_size (by repeat (first | (with_reducible first | exact HB.out | apply below_alloc | apply pw_below_drewN | apply below_drew1 | refine below_set ?_ GE554.out | refine below_set ?_ GE576.out) | exact HB.out))))
                          have n3_ := Aside0.mk (blk_below (g := gb554) (o := .cells #[.int .i64 0, .slice none 0 0] 49 (0, 0)) (by (with_reducible repeat (first | refine blk_drewN ?_ _ | refine blk_drew ?_ | refine blk_alloc ?_ _)); exact BK554.out) hb)
                          have n4_ := Aside0.mk (blk_below (g := gb576) (o := .cells #[.int .i64 0, .slice none 0 0] 49 (0, 0)) (by (with_reducible repeat (first | refine blk_drewN ?_ _ | refine blk_drew ?_ | refine blk_alloc ?_ _)); exact BK576.out) hb)
                          have n5_ := Aside0.mk (below_step (by repeat (first | (with_reducible first | exact HB.out | apply below_alloc | apply pw_below_drewN | apply below_drew1 | refine below_set ?_ GE554.out | refine below_set ?_ GE576.out) | exact HB.out)) hb)
                          clear HO_4
                          clear HO_9
                          clear BK554
                          clear BK576
                          clear HB
                          have HO_4 := n0_
                          have HO_9 := n1_
                          have HO575 := n2_
                          have BK554 := n3_
                          have BK576 := n4_
                          have HB := n5_
                          clear n0_ n1_ n2_ n3_ n4_ n5_
                          clear hb ho29
                          obtain ⟨Ao30, co30, eo30⟩ := Kd.S_slice HO575.out
                          (first | subst eo30 | (injection eo30 with f1_ f2_ f3_; have f4_ := f1_.symm; have f5_ := f3_.symm; clear f1_ f2_ f3_; subst f4_; subst f5_))
                          refine hK.out _ _ (HS0_) (fun hHeld => ?_)
                          clear hK K
                          refine norm_ (a' := ?_) ?_ ?_
                          rotate_left
                          · show Act.put _ (some 60) _ = _
                            simp only [Act.put, List.setIfInBounds_toArray, List.set_cons_zero, List.set_cons_succ, i64_w, i32_w]
                            rfl
                          refine pure_ (i := 5) (N := some 61) (v := ?_) (a' := ?_) #[true, true, true, true, true, true, true, false] rfl rfl (any_of HT_.out (by kernel_rfl)) (fun _ _ _ h => h) (Or.inl ⟨by rfl, ?_⟩) ?_ ?_
                          rotate_left
                          · intro w'
                            go_simp
                            with_reducible rfl
                          rotate_left
                          · simp only [Act.put, List.setIfInBounds_toArray, List.set_cons_zero, List.set_cons_succ, i64_w, i32_w]
                            rfl
                          exact norm_ (by simp only [putAll, Act.put, List.setIfInBounds_toArray, List.set_cons_zero, List.set_cons_succ]) (hCont (.slice Ao30 y573.length co30, gb576) _ ⟨hHeld, (by (with_reducible repeat (first | apply Kd.S_alloc | apply Kd.S_drewN | apply Kd.S_drew)); exact HO575.out), (by (with_reducible repeat (first | apply Kd.R_alloc | apply Kd.R_drewN | apply Kd.R_drew)); exact HO_4.out), (by (with_reducible repeat (first | apply Kd.R_alloc | apply Kd.R_drewN | apply Kd.R_drew)); exact HO_9.out), (by (with_reducible repeat (first | refine blk_drewN ?_ _ | refine blk_drew ?_ | refine blk_alloc ?_ _)); exact BK554.out), (by (with_reducible repeat (first | refine blk_drewN ?_ _ | refine blk_drew ?_ | refine blk_alloc ?_ _)); exact BK576.out), GW576.out, GE576.out, NB554_576.out, NB576_554.out, (by repeat (first | (with_reducible first | exact HB.out | apply below_alloc | apply pw_below_drewN | apply below_drew1 | refine below_set ?_ GE554.out | refine below_set ?_ GE576.out) | exact HB.out))⟩)
                      rintro ⟨v574, gb576⟩ w31 ⟨hS_, h0_, h1_, h2_, h3_, h4_, h5_, h6_, h7_, h8_, h9_⟩
                      have n0_ : Aside0 (Kd.S (Kd.slice 74 (Kd.int .i16)) 26 w31 w.heap.size (fun _ => True) v574 y573) := ⟨h0_⟩
                      have n1_ : Aside0 (Kd.R (Kd.int .i64) 2 w31 w.heap.size (fun k_ => some k_ ≠ (v566 : Value).ownBlock) (.slice (some ad572) t555.length co26) t555) := ⟨h1_⟩
                      have n2_ : Aside0 (Kd.R (Kd.int .i64) 2 w31 w.heap.size (fun k_ => some k_ ≠ (.slice (some ad572) t555.length co26 : Value).ownBlock) v566 t565) := ⟨h2_⟩
                      have n3_ : Aside0 (w31.heap[gb554]? = some (.cells #[.int .i64 0, .slice none 0 0] 49 (0, 0))) := ⟨h3_⟩
                      have n4_ : Aside0 (w31.heap[gb576]? = some (.cells #[.int .i64 0, .slice none 0 0] 49 (0, 0))) := ⟨h4_⟩
                      have n5_ : Aside0 (w.heap.size ≤ gb576) := ⟨h5_⟩
                      have n6_ : Aside0 (w.heap.size ≤ gb576) := ⟨h6_⟩
                      have n7_ : Aside0 (gb554 ≠ gb576) := ⟨h7_⟩
                      have n8_ : Aside0 (gb576 ≠ gb554) := ⟨h8_⟩
                      have n9_ : Aside0 (Below w.heap.size w w31) := ⟨h9_⟩
                      clear HO_4
                      clear HO_9
                      clear BK554
                      clear HB
                      clear h0_ h1_ h2_ h3_ h4_ h5_ h6_ h7_ h8_ h9_
                      have HO575 := n0_
                      have HO_4 := n1_
                      have HO_9 := n2_
                      have BK554 := n3_
                      have BK576 := n4_
                      have GW576 := n5_
                      have GE576 := n6_
                      have NB554_576 := n7_
                      have NB576_554 := n8_
                      have HB := n9_
                      clear n0_ n1_ n2_ n3_ n4_ n5_ n6_ n7_ n8_ n9_
                      have hHeld : w31.cell? ad572 = some (.int .i64 (rd t555 0)) := hS_
                      obtain ⟨Ao32, co32, eo32⟩ := Kd.S_slice HO575.out
                      (first | subst eo32 | (injection eo32 with f1_ f2_ f3_; have f4_ := f1_.symm; have f5_ := f3_.symm; clear f1_ f2_ f3_; subst f4_; subst f5_))
                      refine norm_ (a' := ?_) ?_ ?_
                      rotate_left
                      · simp only [putAll, Act.put, List.setIfInBounds_toArray, List.set_cons_zero, List.set_cons_succ]
                        rfl
                      refine one_ (i := 7) (N := none) #[true, true, true, true, true, true, true, true] rfl rfl (one_of HT_.out (by kernel_rfl)) (by decide) (fun K hK => ?_)
                      have hs33 : w31.cell? ⟨gb576, 0, none⟩ = some (.int .i64 0) := (blk_cell BK576.out 0).trans rfl
                      have hfs33 := blk_frozen BK576.out 0
                      have hns33_0 := NB554_576.out
                      have hms33_0 := NB576_554.out
                      have hs34 : w31.cell? ⟨gb576, 1, none⟩ = some (.slice none 0 0) := (blk_cell BK576.out 1).trans rfl
                      have hfs34 := blk_frozen BK576.out 1
                      have hns34_0 := NB554_576.out
                      have hms34_0 := NB576_554.out
                      refine skip_ (w1 := ?_) (by rfl) rfl ?_ ?_
                      rotate_left
                      · go_simp
                        rfl
                      refine hK.out _ _ (((cell_far (p := ⟨gb576, _, none⟩) (by first | exact Kd.own_blk (Kd.R_ne HO_4.out BK576.out (by decide)) | (rw [add_block]; exact Kd.own_blk (Kd.R_ne HO_4.out BK576.out (by decide))) | (show (Addr.add _ _).block ≠ _; rw [add_block]; exact Kd.own_blk (Kd.R_ne HO_4.out BK576.out (by decide))) | (dsimp only; exact Kd.own_blk (Kd.R_ne HO_4.out BK576.out (by decide)))) _).trans (((cell_far (p := ⟨gb576, _, none⟩) (by first | exact Kd.own_blk (Kd.R_ne HO_4.out BK576.out (by decide)) | (rw [add_block]; exact Kd.own_blk (Kd.R_ne HO_4.out BK576.out (by decide))) | (show (Addr.add _ _).block ≠ _; rw [add_block]; exact Kd.own_blk (Kd.R_ne HO_4.out BK576.out (by decide))) | (dsimp only; exact Kd.own_blk (Kd.R_ne HO_4.out BK576.out (by decide)))) _).trans (hHeld))))) (fun hHeld => ?_)
                      clear hK K
                      refine done_ (done_of HT_.out (by kernel_rfl)) ?_
                      have hnb35 := NB576_554.out
                      have hnc35 := NB554_576.out
                      have hcz36_0 : w31.cell? ⟨gb576, 0, none⟩ = some (.int .i64 0) := (blk_cell BK576.out 0).trans rfl
                      have hcz36_1 : w31.cell? ⟨gb576, 1, none⟩ = some (.slice none 0 0) := (blk_cell BK576.out 1).trans rfl
                      have hfz36_0 := blk_frozen BK576.out 0
                      have hfz36_1 := blk_frozen BK576.out 1
                      try go_wp2
                      go_loopg [65] kj9 (fun kq v65 w' => ∃ (x65_2 : Int) (x577001_2 : List (List Int)) (u577001 : Value), v65 = .int .i64 x65_2 ∧ Aside0 (book_From.l0 kq (wrap64 (rd l0 9)) t565 (y573.length : Int) x65_2 (rd t555 0) x577001_2 = some (r1, r2, r3)) ∧ Aside0 (kq ≤ kj9) ∧ Aside0 (Kd.R (Kd.int .i64) 2 w' w.heap.size (fun _ => True) v566 t565) ∧ Aside0 (Kd.S (Kd.slice 74 (Kd.int .i16)) 26 w' w.heap.size (fun _ => True) u577001 x577001_2) ∧ Aside0 (w'.heap[gb554]? = some (.cells #[.int .i64 0, (.slice none 0 0)] 49 (0, 0))) ∧ Aside0 (w'.heap[gb576]? = some (.cells #[.int .i64 (rd t555 0), u577001] 49 (0, 0))) ∧ Aside0 (Below w.heap.size w w'))
                      case atStart => exact ⟨(0), (y573), (.slice Ao32 y573.length co32), (by first | rfl | (simp; done) | (simp [*]; done)), H', ⟨Nat.le_refl _⟩, ⟨by (with_reducible repeat (first | apply Kd.R_alloc | apply Kd.R_drewN | apply Kd.R_drew)); exact Kd.R_mono (Kd.R_far (p := ⟨gb576, 1, none⟩) (Kd.R_far (p := ⟨gb576, 0, none⟩) (Kd.R_types HO_9.out BK576.out (by decide)) (fun _ hk => hk.2) (.int .i64 (rd t555 0))) (fun _ hk => hk.2) (.slice Ao32 y573.length co32)) (fun _ hk => trivial)⟩, ⟨by (with_reducible repeat (first | apply Kd.S_alloc | apply Kd.S_drewN | apply Kd.S_drew)); exact Kd.S_mono (Kd.S_far (p := ⟨gb576, 1, none⟩) (Kd.S_far (p := ⟨gb576, 0, none⟩) (Kd.S_types HO575.out BK576.out (by decide)) (fun _ hk => hk.2) (.int .i64 (rd t555 0))) (fun _ hk => hk.2) (.slice Ao32 y573.length co32)) (fun _ hk => trivial)⟩, ⟨by (with_reducible repeat (first | refine blk_drewN ?_ _ | refine blk_drew ?_ | refine blk_alloc ?_ _)); refine blk_far ?_ NB554_576.out _; (with_reducible repeat (first | refine blk_drewN ?_ _ | refine blk_drew ?_ | refine blk_alloc ?_ _)); refine blk_far ?_ NB554_576.out _; (with_reducible repeat (first | refine blk_drewN ?_ _ | refine blk_drew ?_ | refine blk_alloc ?_ _)); exact BK554.out⟩, ⟨by (with_reducible repeat (first | refine blk_drewN ?_ _ | refine blk_drew ?_ | refine blk_alloc ?_ _)); refine blk_put (cs := #[.int .i64 (rd t555 0), .slice none 0 0]) ?_ 1 _ rfl; (with_reducible repeat (first | refine blk_drewN ?_ _ | refine blk_drew ?_ | refine blk_alloc ?_ _)); refine blk_put (cs := #[.int .i64 0, .slice none 0 0]) ?_ 0 _ rfl; (with_reducible repeat (first | refine blk_drewN ?_ _ | refine blk_drew ?_ | refine blk_alloc ?_ _)); exact BK576.out⟩, ⟨by repeat (first | (with_reducible first | exact HB.out | apply below_alloc | apply pw_below_drewN | apply below_drew1 | refine below_set ?_ GE554.out | refine below_set ?_ GE576.out) | exact HB.out)⟩⟩
                      case round =>
                        clear H'
                        try clear c1
                        try clear c2
                        try clear c2b0
                        try clear c2b1
                        try clear p2
                        try clear c3
                        try clear p5
                        try clear q5
                        try clear hx5
                        try clear qi5
                        try clear c6
                        try clear c6b0
                        try clear c6b1
                        try clear p6
                        try clear c7
                        try clear c7b0
                        try clear c7b1
                        try clear c8
                        try clear c8b0
                        try clear c8b1
                        try clear c10
                        try clear c16
                        try clear c16b0
                        try clear c16b1
                        try clear c17
                        try clear c17b0
                        try clear c17b1
                        try clear c19
                        try clear c21
                        try clear c21b0
                        try clear c21b1
                        try clear c23
                        try clear c23b0
                        try clear c23b1
                        try clear c24
                        try clear c24b0
                        try clear c24b1
                        try clear c35
                        try clear hcz20_0
                        try clear hcz20_1
                        try clear hcz36_0
                        try clear hcz36_1
                        try clear hcz4_0
                        try clear hcz4_1
                        try clear hfz20_0
                        try clear hfz20_1
                        try clear hfz36_0
                        try clear hfz36_1
                        try clear hfz4_0
                        try clear hfz4_1
                        try clear hx562_0
                        try clear hx563_0
                        try clear hx572_0
                        try clear p2
                        try clear p5
                        try clear p562
                        try clear p563
                        try clear p572
                        try clear p6
                        try clear q5
                        try clear q562
                        try clear q563
                        try clear q572
                        obtain ⟨x65_2, x577001_2, u577001, rfl, HA, HK2, HO_9, HO_577001, BK554, BK576, HB⟩ := hrel
                        cases gk with
                        | zero => exact absurd HA.out (by simp [book_From.l0])
                        | succ k2 =>
                          have H := HA.out
                          clear HA
                          simp only [book_From.l0] at H
                          by_cases c37 : x65_2 < (y573.length : Int)
                          · rw [if_pos c37] at H
                            have c37b0 : decide (x65_2 < (y573.length : Int)) = true := decide_eq_true c37
                            clear c37
                            obtain ⟨ji38, hji38⟩ : ∃ j_ : Int, (wrap64 (rd l0 9)) = j_ := ⟨_, rfl⟩
                            replace H : (if 0 ≤ (ji38) then (if ((ji38) : Int).toNat ≤ 140737488355328 then ((some (List.replicate ((ji38) : Int).toNat 0 : List Int)).bind fun y578 => (book_From.l1 k2 (ji38) t565 x65_2 y578 (y573.length : Int) x65_2 (y578.length : Int) 0 (rd t555 0) x577001_2)) else (none)) else (none)) = some (r1, r2, r3) := by first | (rw [hji38] at H; exact H) | (simp only [hji38] at H ⊢; exact H)
                            have hji38w : (IntKind.i64.wrap (rd l0 9)) = ji38 := (i64_w _).trans hji38
                            by_cases c39 : 0 ≤ (ji38)
                            · rw [if_pos c39] at H
                              have c39b0 := eq_true c39
                              have c39b1 : decide (0 ≤ (ji38)) = true := decide_eq_true c39
                              clear c39
                              by_cases c40 : ((ji38) : Int).toNat ≤ 140737488355328
                              · rw [if_pos c40] at H
                                have c40b0 := eq_true c40
                                have c40b1 : decide (((ji38) : Int).toNat ≤ 140737488355328) = true := decide_eq_true c40
                                clear c40
                                obtain ⟨y578, hy578⟩ : ∃ y_ : List Int, y_ = (List.replicate ((ji38) : Int).toNat 0) := ⟨_, rfl⟩
                                replace H : (book_From.l1 k2 (ji38) t565 x65_2 y578 (y573.length : Int) x65_2 (y578.length : Int) 0 (rd t555 0) x577001_2) = some (r1, r2, r3) := by first | (rw [hy578]; with_reducible exact H) | (have H2_ := (Option.bind_some _ _).symm.trans H; rw [hy578]; with_reducible exact H2_) | (have H2_ := (Option.bind_some _ _).symm.trans H; with_reducible exact H2_) | with_reducible exact H | (rw [hy578]; exact H) | exact H
                                have Ny578 := Aside0.mk hy578
                                clear hy578
                                have H' := Aside0.mk H
                                clear H
                                go_wp2_with (first | ((with_reducible refine gate_dst (N := 69) rfl ?_); (try (refine gate_guard (by rfl) ?_; dsimp only)); refine Kd.R_make (Kd.int .i16) _ 74 rfl (N := 69) rfl 26 _ _ rfl (ji38) (by first | rfl | (rw [← hji38]; rfl)) (by first | rfl | (rw [← hji38]; rfl)) Try.underlying26 (.int .i16 0) 2 info74 rfl (by decide) (by omega) 0 (ok := fun _ => True) (okp := fun _ => True) rfl (fun _ hk => hk) trivial (of_decide_eq_true (by first | (with_reducible assumption) | assumption)) (Nat.le_trans (Nat.mul_le_mul_right _ (of_decide_eq_true (by first | (with_reducible assumption) | assumption) : (ji38).toNat ≤ 140737488355328)) (by omega)) (Below.refl _ _) (Nat.le_refl _) ?_; intro v579 w41 ho42 hb hg_ hnew_; clear hg_ hnew_; (first | rw [← Ny578.out] at ho42 | (simp only [Int.reduceToNat] at ho42; rw [← Ny578.out] at ho42)); have n0_ := Aside0.mk (Kd.R_below (by (with_reducible repeat (first | apply Kd.R_alloc | apply Kd.R_drewN | apply Kd.R_drew)); exact HO_9.out) hb); have n1_ := Aside0.mk (Kd.S_elder' (by (with_reducible repeat (first | apply Kd.S_alloc | apply Kd.S_drewN | apply Kd.S_drew)); exact HO_577001.out) (Kd.R_base ho42) hb); have n2_ := Aside0.mk (Kd.R_lower ho42 (below_size (by repeat (first | (with_reducible first | exact HB.out | apply below_alloc | apply pw_below_drewN | apply below_drew1 | refine below_set ?_ GE554.out | refine below_set ?_ GE576.out) | exact HB.out)))); have n3_ := Aside0.mk (blk_below (g := gb554) (o := .cells #[.int .i64 0, .slice none 0 0] 49 (0, 0)) (by (with_reducible repeat (first | refine blk_drewN ?_ _ | refine blk_drew ?_ | refine blk_alloc ?_ _)); exact BK554.out) hb); have n4_ := Aside0.mk (blk_below (g := gb576) (o := .cells #[.int .i64 (rd t555 0), u577001] 49 (0, 0)) (by (with_reducible repeat (first | refine blk_drewN ?_ _ | refine blk_drew ?_ | refine blk_alloc ?_ _)); exact BK576.out) hb); have n5_ := Aside0.mk (below_step (by repeat (first | (with_reducible first | exact HB.out | apply below_alloc | apply pw_below_drewN | apply below_drew1 | refine below_set ?_ GE554.out | refine below_set ?_ GE576.out) | exact HB.out)) hb); clear HO_9; clear HO_577001; clear BK554; clear BK576; clear HB; have HO_9 := n0_; have HO_577001 := n1_; have HO580 := n2_; have BK554 := n3_; have BK576 := n4_; have HB := n5_; clear n0_ n1_ n2_ n3_ n4_ n5_; clear hb ho42; obtain ⟨Ao43, co43, eo43⟩ := Kd.R_slice HO580.out; subst eo43))
                                go_loopg [72] k2 (fun kq v72 w' => ∃ (x14_3 : List Int) (x72_3 : Int), v72 = .int .i64 x72_3 ∧ Aside0 (book_From.l1 kq (ji38) t565 x65_2 x14_3 (y573.length : Int) x65_2 (y578.length : Int) x72_3 (rd t555 0) x577001_2 = some (r1, r2, r3)) ∧ Aside0 (kq ≤ k2) ∧ Aside0 (Kd.R (Kd.int .i64) 2 w' w.heap.size (fun _ => True) v566 t565) ∧ Aside0 (Kd.R (Kd.int .i16) 74 w' w.heap.size (fun _ => True) (.slice Ao43 y578.length co43) x14_3) ∧ Aside0 (Kd.S (Kd.slice 74 (Kd.int .i16)) 26 w' w.heap.size (fun k_ => some k_ ≠ ((.slice Ao43 y578.length co43) : Value).ownBlock) u577001 x577001_2) ∧ Aside0 (w'.heap[gb554]? = some (.cells #[.int .i64 0, (.slice none 0 0)] 49 (0, 0))) ∧ Aside0 (w'.heap[gb576]? = some (.cells #[.int .i64 (rd t555 0), u577001] 49 (0, 0))) ∧ Aside0 (Below w.heap.size w w'))
                                case atStart => exact ⟨(y578), (0), (by first | rfl | (simp; done) | (simp [*]; done)), H', ⟨Nat.le_refl _⟩, ⟨by (with_reducible repeat (first | apply Kd.R_alloc | apply Kd.R_drewN | apply Kd.R_drew)); exact HO_9.out⟩, ⟨by (with_reducible repeat (first | apply Kd.R_alloc | apply Kd.R_drewN | apply Kd.R_drew)); exact HO580.out⟩, ⟨by (with_reducible repeat (first | apply Kd.S_alloc | apply Kd.S_drewN | apply Kd.S_drew)); exact Kd.S_mono HO_577001.out (fun _ hk => hk.2)⟩, ⟨by (with_reducible repeat (first | refine blk_drewN ?_ _ | refine blk_drew ?_ | refine blk_alloc ?_ _)); exact BK554.out⟩, ⟨by (with_reducible repeat (first | refine blk_drewN ?_ _ | refine blk_drew ?_ | refine blk_alloc ?_ _)); exact BK576.out⟩, ⟨by repeat (first | (with_reducible first | exact HB.out | apply below_alloc | apply pw_below_drewN | apply below_drew1 | refine below_set ?_ GE554.out | refine below_set ?_ GE576.out) | exact HB.out)⟩⟩
                                case round =>
                                  clear H'
                                  try clear c1
                                  try clear c2
                                  try clear c2b0
                                  try clear c2b1
                                  try clear p2
                                  try clear c3
                                  try clear c4
                                  try clear p5
                                  try clear q5
                                  try clear hx5
                                  try clear qi5
                                  try clear c6
                                  try clear c6b0
                                  try clear c6b1
                                  try clear p6
                                  try clear c7
                                  try clear c7b0
                                  try clear c7b1
                                  try clear c8
                                  try clear c8b0
                                  try clear c8b1
                                  try clear c10
                                  try clear c16
                                  try clear c16b0
                                  try clear c16b1
                                  try clear c17
                                  try clear c17b0
                                  try clear c17b1
                                  try clear c19
                                  try clear c21
                                  try clear c21b0
                                  try clear c21b1
                                  try clear c23
                                  try clear c23b0
                                  try clear c23b1
                                  try clear c24
                                  try clear c24b0
                                  try clear c24b1
                                  try clear c35
                                  try clear c37
                                  try clear c37b0
                                  try clear c39
                                  try clear c39b0
                                  try clear c39b1
                                  try clear c40
                                  try clear c40b0
                                  try clear c40b1
                                  try clear hcz20_0
                                  try clear hcz20_1
                                  try clear hcz36_0
                                  try clear hcz36_1
                                  try clear hcz4_0
                                  try clear hcz4_1
                                  try clear hfz20_0
                                  try clear hfz20_1
                                  try clear hfz36_0
                                  try clear hfz36_1
                                  try clear hfz4_0
                                  try clear hfz4_1
                                  try clear hx562_0
                                  try clear hx563_0
                                  try clear hx572_0
                                  try clear p2
                                  try clear p5
                                  try clear p562
                                  try clear p563
                                  try clear p572
                                  try clear p6
                                  try clear q5
                                  try clear q562
                                  try clear q563
                                  try clear q572
                                  obtain ⟨x14_3, x72_3, rfl, HA, HK3, HO_9, HO_14, HO_577001, BK554, BK576, HB⟩ := hrel
                                  have hl14_3 := (Kd.R_reads' HO_14.out).1
                                  rw [hl14_3] at HO_14
                                  (try simp only [hl14_3])
                                  (try simp only [hl14_3] at BK554)
                                  (try simp only [hl14_3] at BK576)
                                  (try simp only [hl14_3] at HO_9)
                                  (try simp only [hl14_3] at HO_577001)
                                  cases gk with
                                  | zero => exact absurd HA.out (by simp [book_From.l1])
                                  | succ k3 =>
                                    have H := HA.out
                                    clear HA
                                    simp only [book_From.l1] at H
                                    by_cases c44 : x72_3 < (y578.length : Int)
                                    · rw [if_pos c44] at H
                                      have c44b0 : decide (x72_3 < (y578.length : Int)) = true := decide_eq_true c44
                                      clear c44
                                      obtain ⟨ji45, hji45⟩ : ∃ j_ : Int, (wrap64 ((wrap64 (x65_2 * (ji38))) + x72_3)) = j_ := ⟨_, rfl⟩
                                      replace H : (if 0 ≤ (ji45) then (if (ji45) < (t565.length : Int) then (if 0 ≤ x72_3 then (if x72_3 < (x14_3.length : Int) then (book_From.l1 k3 (ji38) t565 x65_2 (x14_3.set (x72_3 : Int).toNat (IntKind.i16.wrap (rd t565 (ji45)))) (y573.length : Int) x65_2 (y578.length : Int) (wrap64 (x72_3 + 1)) (rd t555 0) x577001_2) else (none)) else (none)) else (none)) else (none)) = some (r1, r2, r3) := by first | (rw [hji45] at H; exact H) | (simp only [hji45] at H ⊢; exact H)
                                      have hji45w : (IntKind.i64.wrap ((wrap64 (x65_2 * (ji38))) + x72_3)) = ji45 := (i64_w _).trans hji45
                                      by_cases c46 : 0 ≤ (ji45)
                                      · rw [if_pos c46] at H
                                        have c46b0 : decide (0 ≤ (ji45)) = true := decide_eq_true c46
                                        clear c46
                                        by_cases c47 : (ji45) < (t565.length : Int)
                                        · rw [if_pos c47] at H
                                          have c47b0 : decide ((ji45) < (t565.length : Int)) = true := decide_eq_true c47
                                          clear c47
                                          by_cases c48 : 0 ≤ x72_3
                                          · rw [if_pos c48] at H
                                            have c48b0 : decide (0 ≤ x72_3) = true := decide_eq_true c48
                                            clear c48
                                            by_cases c49 : x72_3 < (x14_3.length : Int)
                                            · rw [if_pos c49] at H
                                              have c49b0 : decide (x72_3 < (x14_3.length : Int)) = true := decide_eq_true c49
                                              clear c49
                                              obtain ⟨y582, hy582⟩ : ∃ y_ : List Int, y_ = (x14_3.set (x72_3 : Int).toNat (IntKind.i16.wrap (rd t565 (ji45)))) := ⟨_, rfl⟩
                                              replace H : (book_From.l1 k3 (ji38) t565 x65_2 y582 (y573.length : Int) x65_2 (y578.length : Int) (wrap64 (x72_3 + 1)) (rd t555 0) x577001_2) = some (r1, r2, r3) := by first | (rw [hy582]; with_reducible exact H) | (have H2_ := (Option.bind_some _ _).symm.trans H; rw [hy582]; with_reducible exact H2_) | (have H2_ := (Option.bind_some _ _).symm.trans H; with_reducible exact H2_) | with_reducible exact H | (rw [hy582]; exact H) | exact H
                                              have Ny582 := Aside0.mk hy582
                                              clear hy582
                                              have H' := Aside0.mk H
                                              clear H
                                              obtain ⟨Ao51, co51, eo51⟩ := Kd.R_slice HO_9.out
                                              subst eo51
                                              have p581 : 0 ≤ ((ji45) : Int) := of_decide_eq_true (by first | (with_reducible assumption) | assumption)
                                              have q581 : (ji45) < (t565.length : Int) := of_decide_eq_true (by first | (with_reducible assumption) | assumption)
                                              obtain ⟨ad581, e581, hx581_0⟩ := Kd.at_int (Kd.R_reads' HO_9.out).2.2 (ji45) p581 q581
                                              cases e581
                                              replace p581 := eq_true p581
                                              replace q581 := eq_true q581
                                              have p50 : 0 ≤ (x72_3 : Int) := of_decide_eq_true (by first | (with_reducible assumption) | assumption)
                                              have q50 : (x72_3 : Int) < ((x14_3.length : Int) : Int) := of_decide_eq_true (by first | (with_reducible assumption) | assumption)
                                              obtain ⟨go50, co50, eo50, gb50, gl50, cl50, HG50⟩ := Kd.R_form HO_14.out (by omega)
                                              (first | cases eo50 | (injection eo50 with ea_ en_ ec_; (first | subst ea_ | (injection ea_ with ea_; subst ea_)); subst ec_; clear en_))
                                              have GB50 := Aside0.mk gb50
                                              have GG50 := Aside0.mk HG50
                                              clear gb50 gl50 HG50
                                              obtain ⟨hx50_0, hf50_0⟩ := Kd.R_celln 0 HO_14.out (x72_3 : Int) p50 q50
                                              replace p50 := eq_true p50
                                              replace q50 := eq_true q50
                                              have HP52 := Kd.R_putg HO_14.out (x72_3 : Int) (IntKind.i16.wrap (rd t565 (ji45)))
                                              go_wp2_with (first | ((with_reducible refine gate_store (t := 74) (p := 86) rfl ?_); refine store_event (t := 74) (p := 86) (v := ?vo_w53) (w1 := (wr.setCell ⟨go50, (x72_3 : Int).toNat, none⟩ (.int .i16 (IntKind.i16.wrap (rd t565 (ji45)))))) ?hg ?ho ?hn ?hr ?_; (case ho => rfl); (case hg => rfl); (case hn => rfl); (case hr => first | (go_simp; done) | (go_simp; rfl)); intro w53 hw; have hg : wr.grownBy w53 (some go50) := (by rw [hw]; exact HP52.2); have hp_ : Kd.R (Kd.int .i16) 74 w53 w.heap.size (fun _ => True) (.slice (some ⟨go50, 0, none⟩) x14_3.length co43) y582 := (by rw [hw, Ny582.out]; exact HP52.1); clear HP52; have n0_ := Aside0.mk (Kd.R_over' (v := (.slice (some ⟨go50, 0, none⟩) x14_3.length co43)) (by (with_reducible repeat (first | apply Kd.R_alloc | apply Kd.R_drewN | apply Kd.R_drew)); exact HO_9.out) (Kd.R_typed HO_14.out) (by decide) hg); have n1_ := Aside0.mk (hp_); have n2_ := Aside0.mk (Kd.S_after (v := (.slice (some ⟨go50, 0, none⟩) x14_3.length co43)) (v1 := (.slice (some ⟨go50, 0, none⟩) x14_3.length co43)) (ok := (fun _ => True)) (by (with_reducible repeat (first | apply Kd.S_alloc | apply Kd.S_drewN | apply Kd.S_drew)); exact Kd.S_mono HO_577001.out (fun _ hk => ⟨trivial, hk⟩)) hg (.inl rfl)); have n3_ := Aside0.mk (blk_grown (g := gb554) (o := .cells #[.int .i64 0, .slice none 0 0] 49 (0, 0)) (by (with_reducible repeat (first | refine blk_drewN ?_ _ | refine blk_drew ?_ | refine blk_alloc ?_ _)); exact BK554.out) hg (Kd.R_ne HO_14.out BK554.out (by decide))); have n4_ := Aside0.mk (blk_grown (g := gb576) (o := .cells #[.int .i64 (rd t555 0), u577001] 49 (0, 0)) (by (with_reducible repeat (first | refine blk_drewN ?_ _ | refine blk_drew ?_ | refine blk_alloc ?_ _)); exact BK576.out) hg (Kd.R_ne HO_14.out BK576.out (by decide))); have n5_ := Aside0.mk ((by rw [hw]; exact below_set (HB.out) GB50.out : Below w.heap.size w w53)); clear HO_9; clear HO_14; clear HO_577001; clear BK554; clear BK576; clear HB; have HO_9 := n0_; have HO_14 := n1_; have HO_577001 := n2_; have BK554 := n3_; have BK576 := n4_; have HB := n5_; clear n0_ n1_ n2_ n3_ n4_ n5_; clear hg hw hp_))
                                              (try simp only [← hl14_3])
                                              first | go_roundg k3 | (simp only [← hji45]; go_roundg k3) | (simp only [← hji38, ← hji45]; go_roundg k3) | (simp only [← hji22, ← hji38, ← hji45]; go_roundg k3)
                                              case measure => have := HJ9.out; have := HK2.out; have := HK3.out; omega
                                              case rel => exact ⟨(y582), (wrap64 (x72_3 + 1)), (by first | rfl | (simp; done) | (simp [*]; done)), (by first | exact H' | (rw [hji22]; exact H') | (rw [hji38]; exact H') | (rw [hji45]; exact H')), ⟨by have := HJ9.out; have := HK2.out; have := HK3.out; omega⟩, ⟨by (try simp only [hl14_3]); (with_reducible repeat (first | apply Kd.R_alloc | apply Kd.R_drewN | apply Kd.R_drew)); exact HO_9.out⟩, ⟨by (try simp only [hl14_3]); (with_reducible repeat (first | apply Kd.R_alloc | apply Kd.R_drewN | apply Kd.R_drew)); exact HO_14.out⟩, ⟨by (try simp only [hl14_3]); (with_reducible repeat (first | apply Kd.S_alloc | apply Kd.S_drewN | apply Kd.S_drew)); exact Kd.S_mono HO_577001.out (fun _ hk => hk.2)⟩, ⟨by (try simp only [hl14_3]); (with_reducible repeat (first | refine blk_drewN ?_ _ | refine blk_drew ?_ | refine blk_alloc ?_ _)); exact BK554.out⟩, ⟨by (try simp only [hl14_3]); (with_reducible repeat (first | refine blk_drewN ?_ _ | refine blk_drew ?_ | refine blk_alloc ?_ _)); exact BK576.out⟩, ⟨by repeat (first | (with_reducible first | exact HB.out | apply below_alloc | apply pw_below_drewN | apply below_drew1 | refine below_set ?_ GE554.out | refine below_set ?_ GE576.out) | exact HB.out)⟩⟩
                                            · rw [if_neg c49] at H
                                              exact absurd H (by simp)
                                          · rw [if_neg c48] at H
                                            exact absurd H (by simp)
                                        · rw [if_neg c47] at H
                                          exact absurd H (by simp)
                                      · rw [if_neg c46] at H
                                        exact absurd H (by simp)
                                    · rw [if_neg c44] at H
                                      have c44b0 : decide (x72_3 < (y578.length : Int)) = false := decide_eq_false c44
                                      (try simp only [hl14_3] at c44b0)
                                      clear c44
                                      by_cases c54 : 0 ≤ x65_2
                                      · rw [if_pos c54] at H
                                        have c54b0 : decide (0 ≤ x65_2) = true := decide_eq_true c54
                                        clear c54
                                        by_cases c55 : x65_2 < (x577001_2.length : Int)
                                        · rw [if_pos c55] at H
                                          have c55b0 : decide (x65_2 < (x577001_2.length : Int)) = true := decide_eq_true c55
                                          clear c55
                                          obtain ⟨y583, hy583⟩ : ∃ y_ : List (List Int), y_ = (x577001_2.set (x65_2 : Int).toNat x14_3) := ⟨_, rfl⟩
                                          replace H : (book_From.l0 k3 (ji38) t565 (y573.length : Int) (wrap64 (x65_2 + 1)) (rd t555 0) y583) = some (r1, r2, r3) := by first | (rw [hy583]; with_reducible exact H) | (have H2_ := (Option.bind_some _ _).symm.trans H; rw [hy583]; with_reducible exact H2_) | (have H2_ := (Option.bind_some _ _).symm.trans H; with_reducible exact H2_) | with_reducible exact H | (rw [hy583]; exact H) | exact H
                                          have Ny583 := Aside0.mk hy583
                                          clear hy583
                                          have H' := Aside0.mk H
                                          clear H
                                          have hnb57 := NB576_554.out
                                          have hnc57 := NB554_576.out
                                          have hcz58_0 : wr.cell? ⟨gb576, 0, none⟩ = some (.int .i64 (rd t555 0)) := (blk_cell BK576.out 0).trans rfl
                                          have hcz58_1 : wr.cell? ⟨gb576, 1, none⟩ = some (u577001) := (blk_cell BK576.out 1).trans rfl
                                          have hfz58_0 := blk_frozen BK576.out 0
                                          have hfz58_1 := blk_frozen BK576.out 1
                                          have p56 : 0 ≤ (x65_2 : Int) := of_decide_eq_true (by first | (with_reducible assumption) | assumption)
                                          have q56 : (x65_2 : Int) < ((x577001_2.length : Int) : Int) := of_decide_eq_true (by first | (with_reducible assumption) | assumption)
                                          obtain ⟨go56, co56, eo56, gb56, gl56, cl56, HG56⟩ := Kd.S_form HO_577001.out (by omega)
                                          (first | cases eo56 | (injection eo56 with ea_ en_ ec_; (first | subst ea_ | (injection ea_ with ea_; subst ea_)); subst ec_; clear en_))
                                          have GB56 := Aside0.mk gb56
                                          have GG56 := Aside0.mk HG56
                                          clear gb56 gl56 HG56
                                          obtain ⟨_, ce56, hcl56, hM56, hcc56, hfr56, _, _⟩ := Kd.S_elem HO_577001.out [] (x65_2 : Int) p56 q56
                                          obtain ⟨ve56_0, rfl, ge56_0⟩ := hM56
                                          have hx56_0 := hcc56 0 _ rfl
                                          have hf56_0 := hfr56 0
                                          (try simp only [show ((Kd.slice 74 (Kd.int .i16))).sz = 1 from rfl, Nat.mul_one, Nat.add_zero] at hx56_0)
                                          (try simp only [show ((Kd.slice 74 (Kd.int .i16))).sz = 1 from rfl, Nat.mul_one, Nat.add_zero] at hf56_0)
                                          clear hcl56 hcc56 hfr56 
                                          try clear hM56
                                          replace p56 := eq_true p56
                                          replace q56 := eq_true q56
                                          have HX59 := Aside0.mk (show Kd.S (Kd.slice 74 (Kd.int .i16)) 26 wr w.heap.size (fun k_ => ((fun _ => True)) k_ ∧ ¬ ((fun k_ => some k_ = (.slice Ao43 x14_3.length co43 : Value).ownBlock)) k_) (.slice (some ⟨go56, 0, none⟩) x577001_2.length co56) x577001_2 from (by (with_reducible repeat (first | apply Kd.S_alloc | apply Kd.S_drewN | apply Kd.S_drew)); exact Kd.S_mono HO_577001.out (fun k_ hk => ⟨trivial, fun e_ => hk e_⟩)))
                                          obtain ⟨oki59, ce59, hcl59, hM59, hcc59, hfr59, hoki59, hH59⟩ := Kd.S_elem HX59.out [] (x65_2 : Int) (of_decide_eq_true (by first | (with_reducible assumption) | assumption)) (by have h_ : (x65_2 : Int) < ((x577001_2.length : Int) : Int) := of_decide_eq_true (by first | (with_reducible assumption) | assumption); first | exact h_ | (have e_ := (Kd.S_reads' HO_577001.out).1; omega) | simpa using h_)
                                          obtain ⟨ve59_0, rfl, ge59_0⟩ := hM59
                                          have HP59 := Kd.S_seg hH59 (of_decide_eq_true (by first | (with_reducible assumption) | assumption)) (by have h_ : (x65_2 : Int) < ((x577001_2.length : Int) : Int) := of_decide_eq_true (by first | (with_reducible assumption) | assumption); first | exact h_ | (have e_ := (Kd.S_reads' HO_577001.out).1; omega) | simpa using h_) (seg := [.slice Ao43 x14_3.length co43]) (j := 0) (show 1 ≤ 1 from by decide) (x' := x14_3) (Kd.M_row (Kd.R_mono (Kd.R_tight rfl (Kd.R_mono (ok' := fun k_ => ((fun _ => True)) k_ ∧ k_ ≠ go56) (Kd.R_apart' (HO_14.out) (Kd.S_typed HO_577001.out) (by decide)) (fun k_ hk => ⟨trivial, fun e_ => (hk.2) (by rw [e_]; rfl)⟩))) (fun _ h_ => Or.inr (h_)))) (fun _ hk => hk) (fun k_ hk_ => ((Kd.R_mono (ok' := fun k_ => ((fun _ => True)) k_ ∧ k_ ≠ go56) (Kd.R_apart' (HO_14.out) (Kd.S_typed HO_577001.out) (by decide)) (fun k_ hk => ⟨trivial, fun e_ => (hk.2) (by rw [e_]; rfl)⟩))).1 k_ hk_.symm)
                                          have hx59_0 := hcc59 0 _ rfl
                                          (try simp only [show ((Kd.slice 74 (Kd.int .i16))).sz = 1 from rfl, Nat.mul_one, Nat.add_zero] at hx59_0)
                                          have hf59_0 := hfr59 0
                                          (try simp only [show ((Kd.slice 74 (Kd.int .i16))).sz = 1 from rfl, Nat.mul_one, Nat.add_zero] at hf59_0)
                                          clear hcl59 hcc59 hfr59  hoki59 hH59
                                          try clear hM59
                                          (try simp only [show ((Kd.slice 74 (Kd.int .i16))).sz = 1 from rfl, Nat.mul_one, Nat.add_zero] at HP59)
                                          go_wp2_with (first | ((with_reducible refine gate_store (t := 26) (p := 92) rfl ?_); refine store_event (t := 26) (p := 92) (v := ?vo_w60) (w1 := (wr.setCell ⟨go56, (x65_2 : Int).toNat, none⟩ (.slice Ao43 x14_3.length co43))) ?hg ?ho ?hn ?hr ?_; (case ho => rfl); (case hg => rfl); (case hn => rfl); (case hr => first | (go_simp; done) | (go_simp; rfl)); intro w60 hw; have hg : wr.grownBy w60 (some go56) := (by rw [hw]; exact HP59.2); have hp_ : Kd.S (Kd.slice 74 (Kd.int .i16)) 26 w60 w.heap.size (fun _ => True) (.slice (some ⟨go56, 0, none⟩) x577001_2.length co56) y583 := (by rw [hw, Ny583.out]; exact HP59.1); clear HP59; have n0_ := Aside0.mk (Kd.R_over' (v := (.slice (some ⟨go56, 0, none⟩) x577001_2.length co56)) (by (with_reducible repeat (first | apply Kd.R_alloc | apply Kd.R_drewN | apply Kd.R_drew)); exact HO_9.out) (Kd.S_typed HO_577001.out) (by decide) hg); have n1_ := Aside0.mk (hp_); have n2_ := Aside0.mk (blk_grown (g := gb554) (o := .cells #[.int .i64 0, .slice none 0 0] 49 (0, 0)) (by (with_reducible repeat (first | refine blk_drewN ?_ _ | refine blk_drew ?_ | refine blk_alloc ?_ _)); exact BK554.out) hg (Kd.S_ne HO_577001.out BK554.out (by decide))); have n3_ := Aside0.mk (blk_grown (g := gb576) (o := .cells #[.int .i64 (rd t555 0), .slice (some ⟨go56, 0, none⟩) x577001_2.length co56] 49 (0, 0)) (by (with_reducible repeat (first | refine blk_drewN ?_ _ | refine blk_drew ?_ | refine blk_alloc ?_ _)); exact BK576.out) hg (Kd.S_ne HO_577001.out BK576.out (by decide))); have n4_ := Aside0.mk ((by rw [hw]; exact below_set (HB.out) GB56.out : Below w.heap.size w w60)); clear HO_9; clear HO_577001; clear BK554; clear BK576; clear HB; clear HO_14; have HO_9 := n0_; have HO_577001 := n1_; have BK554 := n2_; have BK576 := n3_; have HB := n4_; clear n0_ n1_ n2_ n3_ n4_; clear hg hw hp_))
                                          (try simp only [← hl14_3])
                                          first | go_roundg k3 | (simp only [← hji38]; go_roundg k3) | (simp only [← hji22, ← hji38]; go_roundg k3)
                                          case measure => have := HJ9.out; have := HK2.out; have := HK3.out; omega
                                          case rel => exact ⟨(wrap64 (x65_2 + 1)), (y583), (.slice (some ⟨go56, 0, none⟩) x577001_2.length co56), (by first | rfl | (simp; done) | (simp [*]; done)), (by first | exact H' | (rw [hji22]; exact H') | (rw [hji38]; exact H') | (rw [hji45]; exact H')), ⟨by have := HJ9.out; have := HK2.out; have := HK3.out; omega⟩, ⟨by (try simp only [hl14_3]); (with_reducible repeat (first | apply Kd.R_alloc | apply Kd.R_drewN | apply Kd.R_drew)); exact HO_9.out⟩, ⟨by (try simp only [hl14_3]); (with_reducible repeat (first | apply Kd.S_alloc | apply Kd.S_drewN | apply Kd.S_drew)); exact HO_577001.out⟩, ⟨by (try simp only [hl14_3]); (with_reducible repeat (first | refine blk_drewN ?_ _ | refine blk_drew ?_ | refine blk_alloc ?_ _)); exact BK554.out⟩, ⟨by (try simp only [hl14_3]); (with_reducible repeat (first | refine blk_drewN ?_ _ | refine blk_drew ?_ | refine blk_alloc ?_ _)); exact BK576.out⟩, ⟨by repeat (first | (with_reducible first | exact HB.out | apply below_alloc | apply pw_below_drewN | apply below_drew1 | refine below_set ?_ GE554.out | refine below_set ?_ GE576.out) | exact HB.out)⟩⟩
                                        · rw [if_neg c55] at H
                                          exact absurd H (by simp)
                                      · rw [if_neg c54] at H
                                        exact absurd H (by simp)
                              · rw [if_neg c40] at H
                                exact absurd H (by simp)
                            · rw [if_neg c39] at H
                              exact absurd H (by simp)
                          · rw [if_neg c37] at H
                            have c37b0 : decide (x65_2 < (y573.length : Int)) = false := decide_eq_false c37
                            (try simp only [hl14_3] at c37b0)
                            clear c37
                            replace H := Option.bind_eq_some_iff.mp H
                            obtain ⟨t577, A610, H⟩ := H
                            replace H : (if t577 = 0 then (some ((rd t555 0), x577001_2, 0)) else (some (0, ([] : List (List Int)), 2))) = some (r1, r2, r3) := H
                            have A61 := Aside0.mk A610
                            clear A610
                            by_cases c62 : t577 = 0
                            · rw [if_pos c62] at H
                              have c62b0 : (t577 == 0) = true := beq_iff_eq.mpr c62
                              have c62b1 : (t577 != 0) = false := bne_eq_false_iff_eq.mpr c62
                              clear c62
                              simp only [Option.some.injEq, Prod.mk.injEq] at H
                              obtain ⟨rfl, rfl, rfl⟩ := H
                              have hnb63 := NB576_554.out
                              have hnc63 := NB554_576.out
                              have hcz64_0 : wr.cell? ⟨gb576, 0, none⟩ = some (.int .i64 (rd t555 0)) := (blk_cell BK576.out 0).trans rfl
                              have hcz64_1 : wr.cell? ⟨gb576, 1, none⟩ = some (u577001) := (blk_cell BK576.out 1).trans rfl
                              have hfz64_0 := blk_frozen BK576.out 0
                              have hfz64_1 := blk_frozen BK576.out 1
                              obtain ⟨Ao65, co65, eo65⟩ := Kd.S_slice HO_577001.out
                              subst eo65
                              go_wp2_with (first | ((with_reducible refine gate_callee (f := 48) rfl ?_); refine goesL_ (some 95) rfl rfl Try.func48 (by kernel_rfl) rfl #[.agg #[.int .i64 (rd t555 0), .slice Ao65 x577001_2.length co65]] rfl (by (try simp only [List.map_toArray, List.map_cons, List.map_nil]); first | done | rfl | (simp only [List.length_drop, List.length_take]; rfl)) ?_; (with_reducible refine (h_quant_Check.calls (rd t555 0) _ _ x577001_2 t577 _ ?side1 ?side2 A61.out).mono ?_); (case side1 => repeat (first | exact (Kd.S_reads' HO_577001.out).2.2 | (with_reducible refine Kd.C_alloc ?_ _) | (with_reducible refine Kd.C_drewN ?_ _) | (with_reducible refine Kd.C_drew ?_))); (case side2 => exact (Kd.S_reads' HO_577001.out).2.1); rintro e w66 ⟨rfl, hb⟩; refine ⟨_, rfl, ?_⟩; have n0_ := Aside0.mk (Kd.R_below (by (with_reducible repeat (first | apply Kd.R_alloc | apply Kd.R_drewN | apply Kd.R_drew)); exact HO_9.out) hb); have n1_ := Aside0.mk (Kd.S_below (by (with_reducible repeat (first | apply Kd.S_alloc | apply Kd.S_drewN | apply Kd.S_drew)); exact HO_577001.out) hb); have n2_ := Aside0.mk (blk_below (g := gb554) (o := .cells #[.int .i64 0, .slice none 0 0] 49 (0, 0)) (by (with_reducible repeat (first | refine blk_drewN ?_ _ | refine blk_drew ?_ | refine blk_alloc ?_ _)); exact BK554.out) hb); have n3_ := Aside0.mk (blk_below (g := gb576) (o := .cells #[.int .i64 (rd t555 0), .slice Ao65 x577001_2.length co65] 49 (0, 0)) (by (with_reducible repeat (first | refine blk_drewN ?_ _ | refine blk_drew ?_ | refine blk_alloc ?_ _)); exact BK576.out) hb); have n4_ := Aside0.mk (below_step (by repeat (first | (with_reducible first | exact HB.out | apply below_alloc | apply pw_below_drewN | apply below_drew1 | refine below_set ?_ GE554.out | refine below_set ?_ GE576.out) | exact HB.out)) hb); clear HO_9; clear HO_577001; clear BK554; clear BK576; clear HB; have HO_9 := n0_; have HO_577001 := n1_; have BK554 := n2_; have BK576 := n3_; have HB := n4_; clear n0_ n1_ n2_ n3_ n4_; (try clear hb); (try clear hb2); (try clear hk); (try clear hi); have hcz67_0 : w66.cell? ⟨gb576, 0, none⟩ = some (.int .i64 (rd t555 0)) := (blk_cell BK576.out 0).trans rfl; have hcz67_1 : w66.cell? ⟨gb576, 1, none⟩ = some (.slice Ao65 x577001_2.length co65) := (blk_cell BK576.out 1).trans rfl; have hfz67_0 := blk_frozen BK576.out 0; have hfz67_1 := blk_frozen BK576.out 1; have hcz68_0 : w66.cell? ⟨gb554, 0, none⟩ = some (.int .i64 0) := (blk_cell BK554.out 0).trans rfl; have hcz68_1 : w66.cell? ⟨gb554, 1, none⟩ = some (.slice none 0 0) := (blk_cell BK554.out 1).trans rfl; have hfz68_0 := blk_frozen BK554.out 0; have hfz68_1 := blk_frozen BK554.out 1))
                              refine bodyPost_ret (results_ct rfl _ _ gb554 49 #[.int .i64 (rd t555 0), .slice Ao65 x577001_2.length co65] (0, 0) _ rfl (by (with_reducible repeat (first | refine blk_drewN ?_ _ | refine blk_drew ?_ | refine blk_alloc ?_ _)); refine blk_put (cs := #[.int .i64 (rd t555 0), .slice none 0 0]) ?_ 1 _ rfl; (with_reducible repeat (first | refine blk_drewN ?_ _ | refine blk_drew ?_ | refine blk_alloc ?_ _)); refine blk_put (cs := #[.int .i64 0, .slice none 0 0]) ?_ 0 _ rfl; (with_reducible repeat (first | refine blk_drewN ?_ _ | refine blk_drew ?_ | refine blk_alloc ?_ _)); exact BK554.out) Try.underlying49 rfl (by kernel_rfl)) rfl ?_
                              exact ⟨_, by first | rfl | (simp [errW_none, errW_some] <;> rfl) | (simp only [← hji22]; first | rfl | (simp [errW_none, errW_some] <;> rfl)) | (simp [*, errW_none, errW_some] <;> rfl), by (with_reducible repeat (first | apply Kd.S_alloc | apply Kd.S_drewN | apply Kd.S_drew)); exact Kd.S_mono (Kd.S_far (p := ⟨gb554, 1, none⟩) (Kd.S_far (p := ⟨gb554, 0, none⟩) (Kd.S_types HO_577001.out BK554.out (by decide)) (fun _ hk => hk.2) (.int .i64 (rd t555 0))) (fun _ hk => hk.2) (.slice Ao65 x577001_2.length co65)) (fun _ hk => trivial), by repeat (first | (with_reducible first | exact HB.out | apply below_alloc | apply pw_below_drewN | apply below_drew1 | refine below_set ?_ GE554.out | refine below_set ?_ GE576.out) | exact HB.out)⟩
                            · rw [if_neg c62] at H
                              have c62b0 : (t577 == 0) = false := beq_eq_false_iff_ne.mpr c62
                              have c62b1 : (t577 != 0) = true := bne_iff_ne.mpr c62
                              simp only [Option.some.injEq, Prod.mk.injEq] at H
                              obtain ⟨rfl, rfl, rfl⟩ := H
                              have hnb69 := NB576_554.out
                              have hnc69 := NB554_576.out
                              have hcz70_0 : wr.cell? ⟨gb576, 0, none⟩ = some (.int .i64 (rd t555 0)) := (blk_cell BK576.out 0).trans rfl
                              have hcz70_1 : wr.cell? ⟨gb576, 1, none⟩ = some (u577001) := (blk_cell BK576.out 1).trans rfl
                              have hfz70_0 := blk_frozen BK576.out 0
                              have hfz70_1 := blk_frozen BK576.out 1
                              obtain ⟨Ao71, co71, eo71⟩ := Kd.S_slice HO_577001.out
                              subst eo71
                              go_wp2_with (first | ((with_reducible refine gate_callee (f := 48) rfl ?_); refine goesL_ (some 95) rfl rfl Try.func48 (by kernel_rfl) rfl #[.agg #[.int .i64 (rd t555 0), .slice Ao71 x577001_2.length co71]] rfl (by (try simp only [List.map_toArray, List.map_cons, List.map_nil]); first | done | rfl | (simp only [List.length_drop, List.length_take]; rfl)) ?_; (with_reducible refine (h_quant_Check.calls (rd t555 0) _ _ x577001_2 t577 _ ?side1 ?side2 A61.out).mono ?_); (case side1 => repeat (first | exact (Kd.S_reads' HO_577001.out).2.2 | (with_reducible refine Kd.C_alloc ?_ _) | (with_reducible refine Kd.C_drewN ?_ _) | (with_reducible refine Kd.C_drew ?_))); (case side2 => exact (Kd.S_reads' HO_577001.out).2.1); rintro e w72 ⟨rfl, hb⟩; refine ⟨_, rfl, ?_⟩; have n0_ := Aside0.mk (Kd.R_below (by (with_reducible repeat (first | apply Kd.R_alloc | apply Kd.R_drewN | apply Kd.R_drew)); exact HO_9.out) hb); have n1_ := Aside0.mk (Kd.S_below (by (with_reducible repeat (first | apply Kd.S_alloc | apply Kd.S_drewN | apply Kd.S_drew)); exact HO_577001.out) hb); have n2_ := Aside0.mk (blk_below (g := gb554) (o := .cells #[.int .i64 0, .slice none 0 0] 49 (0, 0)) (by (with_reducible repeat (first | refine blk_drewN ?_ _ | refine blk_drew ?_ | refine blk_alloc ?_ _)); exact BK554.out) hb); have n3_ := Aside0.mk (blk_below (g := gb576) (o := .cells #[.int .i64 (rd t555 0), .slice Ao71 x577001_2.length co71] 49 (0, 0)) (by (with_reducible repeat (first | refine blk_drewN ?_ _ | refine blk_drew ?_ | refine blk_alloc ?_ _)); exact BK576.out) hb); have n4_ := Aside0.mk (below_step (by repeat (first | (with_reducible first | exact HB.out | apply below_alloc | apply pw_below_drewN | apply below_drew1 | refine below_set ?_ GE554.out | refine below_set ?_ GE576.out) | exact HB.out)) hb); clear HO_9; clear HO_577001; clear BK554; clear BK576; clear HB; have HO_9 := n0_; have HO_577001 := n1_; have BK554 := n2_; have BK576 := n3_; have HB := n4_; clear n0_ n1_ n2_ n3_ n4_; (try clear hb); (try clear hb2); (try clear hk); (try clear hi); have hcz73_0 : w72.cell? ⟨gb554, 0, none⟩ = some (.int .i64 0) := (blk_cell BK554.out 0).trans rfl; have hcz73_1 : w72.cell? ⟨gb554, 1, none⟩ = some (.slice none 0 0) := (blk_cell BK554.out 1).trans rfl; have hfz73_0 := blk_frozen BK554.out 0; have hfz73_1 := blk_frozen BK554.out 1))
                              refine bodyPost_ret (results_ct rfl _ _ gb554 49 #[.int .i64 0, .slice none 0 0] (0, 0) _ rfl (by (with_reducible repeat (first | refine blk_drewN ?_ _ | refine blk_drew ?_ | refine blk_alloc ?_ _)); refine blk_put (cs := #[.int .i64 0, .slice none 0 0]) ?_ 1 _ rfl; (with_reducible repeat (first | refine blk_drewN ?_ _ | refine blk_drew ?_ | refine blk_alloc ?_ _)); refine blk_put (cs := #[.int .i64 0, .slice none 0 0]) ?_ 0 _ rfl; (with_reducible repeat (first | refine blk_drewN ?_ _ | refine blk_drew ?_ | refine blk_alloc ?_ _)); exact BK554.out) Try.underlying49 rfl (by kernel_rfl)) rfl ?_
                              exact ⟨_, by first | rfl | (simp [errW_none, errW_some] <;> rfl) | (simp only [← hji22]; first | rfl | (simp [errW_none, errW_some] <;> rfl)) | (simp [*, errW_none, errW_some] <;> rfl), by first | exact Kd.S_nil _ _ _ _ _ | exact Kd.N_nil _ _ _ _ _ | exact Kd.V_nil _ _ _ _ _ | exact Kd.Q_nil _ _ _ _ _ | exact Kd.R_nil _ _ _ _ _, by repeat (first | (with_reducible first | exact HB.out | apply below_alloc | apply pw_below_drewN | apply below_drew1 | refine below_set ?_ GE554.out | refine below_set ?_ GE576.out) | exact HB.out)⟩
                    · rw [if_neg c24] at H
                      exact absurd H (by simp)
                  · rw [if_neg c23] at H
                    exact absurd H (by simp)
                · rw [if_neg c21] at H
                  exact absurd H (by simp)
        · rw [if_neg c8] at H
          exact absurd H (by simp)
      · rw [if_neg c7] at H
        exact absurd H (by simp)
    · rw [if_neg c6] at H
      exact absurd H (by simp)

end Go.Proofs.Ytkjibgfgbfacdaa.P
end
/-! part: F106 -/
section
set_option linter.unusedVariables false
set_option linter.unusedSimpArgs false
namespace Go.Proofs.Ytkjibgfgbfacdaa.P
open Go.RowKit Go.Proofs.YtkjibgfgbfacdaaW.PrintWords Go.Proofs.YtkjibgfgbfacdaaW.PrintLast Go.Proofs.YtkjibgfgbfacdaaW.PrintMore
attribute [local go_sem] max2_int min2_int max_two min_two max_three min_three max_four min_four   -- for this text's walks alone
set_option linter.unusedVariables false
set_option linter.unusedSimpArgs false

/-! ### cuvetteref03_Take: function 106 -/
mutual
def cuvetteref03_Take.j0 : Nat → List Int → Int → Int → Bool → Option (List Int × List Int × Int)
  | 0, _, _, _, _ => none
  | k + 1, x0, x1, x2, x26 => if x26 = true then (some (([] : List Int), ([] : List Int), 1)) else (if (x0.length : Int) < (wrap64 (x2 * x1)) then (some (([] : List Int), ([] : List Int), 2)) else (cuvetteref03_Take.l0 k x0 x1 x2 ([] : List Int) x2 0))
def cuvetteref03_Take.l0 : Nat → List Int → Int → Int → List Int → Int → Int → Option (List Int × List Int × Int)
  | 0, _, _, _, _, _, _ => none
  | k + 1, x0, x1, x2, x9, x33, x34 => if x34 < x33 then (if 0 ≤ (wrap64 ((wrap64 ((wrap64 (x34 * x1)) + x1)) - 1)) then (if (wrap64 ((wrap64 ((wrap64 (x34 * x1)) + x1)) - 1)) < (x0.length : Int) then (if (rd x0 (wrap64 ((wrap64 ((wrap64 (x34 * x1)) + x1)) - 1))) ≥ 128 then (cuvetteref03_Take.j2 k x0 x1 x2 x9 x34 18446744073709551615 x33 x34) else (cuvetteref03_Take.j2 k x0 x1 x2 x9 x34 0 x33 x34)) else (none)) else (none)) else (if 0 ≤ (wrap64 (x2 * x1)) then (if (wrap64 (x2 * x1)) ≤ (x0.length : Int) then (if ([] : List Int).length + (x0.drop ((wrap64 (x2 * x1)) : Int).toNat).length < 140737488355328 then (some (x9, (([] : List Int) ++ (x0.drop ((wrap64 (x2 * x1)) : Int).toNat)), 0)) else (none)) else (none)) else (none))
def cuvetteref03_Take.j2 : Nat → List Int → Int → Int → List Int → Int → Int → Int → Int → Option (List Int × List Int × Int)
  | 0, _, _, _, _, _, _, _, _ => none
  | k + 1, x0, x1, x2, x9, x10, x11, x33, x34 => cuvetteref03_Take.l1 k x0 x1 x2 x9 x10 x11 (wrap64 (x1 - 1)) x33 x34
def cuvetteref03_Take.l1 : Nat → List Int → Int → Int → List Int → Int → Int → Int → Int → Int → Option (List Int × List Int × Int)
  | 0, _, _, _, _, _, _, _, _, _ => none
  | k + 1, x0, x1, x2, x9, x10, x11, x12, x33, x34 => if x12 ≥ 0 then (if 0 ≤ (wrap64 ((wrap64 (x10 * x1)) + x12)) then (if (wrap64 ((wrap64 (x10 * x1)) + x12)) < (x0.length : Int) then (cuvetteref03_Take.l1 k x0 x1 x2 x9 x10 (IntKind.u64.wrap ((IntKind.u64.wrap (256 * x11)) + (IntKind.u64.wrap (rd x0 (wrap64 ((wrap64 (x10 * x1)) + x12)))))) (wrap64 (x12 - 1)) x33 x34) else (none)) else (none)) else (if x9.length < 17592186044416 then (cuvetteref03_Take.l0 k x0 x1 x2 (x9 ++ [wrap64 (x11)]) x33 (wrap64 (x34 + 1))) else (none))
end
def cuvetteref03_Take.f (k : Nat) (l0 : List Int) (a1 : Int) (a2 : Int) : Option (List Int × List Int × Int) := if a1 < 1 then (cuvetteref03_Take.j0 k l0 a1 a2 true) else (if a1 > 8 then (cuvetteref03_Take.j0 k l0 a1 a2 true) else (if a2 < 0 then (cuvetteref03_Take.j0 k l0 a1 a2 true) else (cuvetteref03_Take.j0 k l0 a1 a2 (decide (a2 > 65536)))))
theorem cuvetteref03_Take.mono_l : ∀ k, (∀ y0 y1 y2 y3, LeO (cuvetteref03_Take.j0 k y0 y1 y2 y3) (cuvetteref03_Take.j0 (k + 1) y0 y1 y2 y3)) ∧ (∀ y0 y1 y2 y3 y4 y5, LeO (cuvetteref03_Take.l0 k y0 y1 y2 y3 y4 y5) (cuvetteref03_Take.l0 (k + 1) y0 y1 y2 y3 y4 y5)) ∧ (∀ y0 y1 y2 y3 y4 y5 y6 y7, LeO (cuvetteref03_Take.j2 k y0 y1 y2 y3 y4 y5 y6 y7) (cuvetteref03_Take.j2 (k + 1) y0 y1 y2 y3 y4 y5 y6 y7)) ∧ (∀ y0 y1 y2 y3 y4 y5 y6 y7 y8, LeO (cuvetteref03_Take.l1 k y0 y1 y2 y3 y4 y5 y6 y7 y8) (cuvetteref03_Take.l1 (k + 1) y0 y1 y2 y3 y4 y5 y6 y7 y8))
  | 0 => ⟨fun _ _ _ _ r h => by simp [cuvetteref03_Take.j0] at h, fun _ _ _ _ _ _ r h => by simp [cuvetteref03_Take.l0] at h, fun _ _ _ _ _ _ _ _ r h => by simp [cuvetteref03_Take.j2] at h, fun _ _ _ _ _ _ _ _ _ r h => by simp [cuvetteref03_Take.l1] at h⟩
  | k + 1 => by
    obtain ⟨ih0, ih1, ih2, ih3⟩ := cuvetteref03_Take.mono_l k
    refine ⟨?_, ?_, ?_, ?_⟩
    · intro y0 y1 y2 y3
      unfold cuvetteref03_Take.j0
      repeat' first
      | (with_reducible exact ih0 _ _ _ _)
      | (with_reducible exact ih1 _ _ _ _ _ _)
      | (with_reducible exact ih2 _ _ _ _ _ _ _ _)
      | (with_reducible exact ih3 _ _ _ _ _ _ _ _ _)
      | (with_reducible exact LeO.refl _)
      | (with_reducible exact LeO.none _)
      | (with_reducible refine LeO.ite ?_ ?_)
      | (with_reducible refine LeO.bind ?_ (fun _ => ?_))
      | exact ih0 _ _ _ _
      | exact ih1 _ _ _ _ _ _
      | exact ih2 _ _ _ _ _ _ _ _
      | exact ih3 _ _ _ _ _ _ _ _ _
      | exact LeO.none _
      | refine LeO.ite ?_ ?_
      | refine LeO.bind ?_ (fun _ => ?_)
    · intro y0 y1 y2 y3 y4 y5
      unfold cuvetteref03_Take.l0
      repeat' first
      | (with_reducible exact ih0 _ _ _ _)
      | (with_reducible exact ih1 _ _ _ _ _ _)
      | (with_reducible exact ih2 _ _ _ _ _ _ _ _)
      | (with_reducible exact ih3 _ _ _ _ _ _ _ _ _)
      | (with_reducible exact LeO.refl _)
      | (with_reducible exact LeO.none _)
      | (with_reducible refine LeO.ite ?_ ?_)
      | (with_reducible refine LeO.bind ?_ (fun _ => ?_))
      | exact ih0 _ _ _ _
      | exact ih1 _ _ _ _ _ _
      | exact ih2 _ _ _ _ _ _ _ _
      | exact ih3 _ _ _ _ _ _ _ _ _
      | exact LeO.none _
      | refine LeO.ite ?_ ?_
      | refine LeO.bind ?_ (fun _ => ?_)
    · intro y0 y1 y2 y3 y4 y5 y6 y7
      unfold cuvetteref03_Take.j2
      repeat' first
      | (with_reducible exact ih0 _ _ _ _)
      | (with_reducible exact ih1 _ _ _ _ _ _)
      | (with_reducible exact ih2 _ _ _ _ _ _ _ _)
      | (with_reducible exact ih3 _ _ _ _ _ _ _ _ _)
      | (with_reducible exact LeO.refl _)
      | (with_reducible exact LeO.none _)
      | (with_reducible refine LeO.ite ?_ ?_)
      | (with_reducible refine LeO.bind ?_ (fun _ => ?_))
      | exact ih0 _ _ _ _
      | exact ih1 _ _ _ _ _ _
      | exact ih2 _ _ _ _ _ _ _ _
      | exact ih3 _ _ _ _ _ _ _ _ _
      | exact LeO.none _
      | refine LeO.ite ?_ ?_
      | refine LeO.bind ?_ (fun _ => ?_)
    · intro y0 y1 y2 y3 y4 y5 y6 y7 y8
      unfold cuvetteref03_Take.l1
      repeat' first
      | (with_reducible exact ih0 _ _ _ _)
      | (with_reducible exact ih1 _ _ _ _ _ _)
      | (with_reducible exact ih2 _ _ _ _ _ _ _ _)
      | (with_reducible exact ih3 _ _ _ _ _ _ _ _ _)
      | (with_reducible exact LeO.refl _)
      | (with_reducible exact LeO.none _)
      | (with_reducible refine LeO.ite ?_ ?_)
      | (with_reducible refine LeO.bind ?_ (fun _ => ?_))
      | exact ih0 _ _ _ _
      | exact ih1 _ _ _ _ _ _
      | exact ih2 _ _ _ _ _ _ _ _
      | exact ih3 _ _ _ _ _ _ _ _ _
      | exact LeO.none _
      | refine LeO.ite ?_ ?_
      | refine LeO.bind ?_ (fun _ => ?_)
theorem cuvetteref03_Take.mono : ∀ a0 a1 a2 k, LeO (cuvetteref03_Take.f k a0 a1 a2) (cuvetteref03_Take.f (k + 1) a0 a1 a2) := by
  intro a0 a1 a2 k
  obtain ⟨ih0, ih1, ih2, ih3⟩ := cuvetteref03_Take.mono_l k
  unfold cuvetteref03_Take.f
  repeat' first
      | (with_reducible exact ih0 _ _ _ _)
      | (with_reducible exact ih1 _ _ _ _ _ _)
      | (with_reducible exact ih2 _ _ _ _ _ _ _ _)
      | (with_reducible exact ih3 _ _ _ _ _ _ _ _ _)
      | (with_reducible exact LeO.refl _)
      | (with_reducible exact LeO.none _)
      | (with_reducible refine LeO.ite ?_ ?_)
      | (with_reducible refine LeO.bind ?_ (fun _ => ?_))
      | exact ih0 _ _ _ _
      | exact ih1 _ _ _ _ _ _
      | exact ih2 _ _ _ _ _ _ _ _
      | exact ih3 _ _ _ _ _ _ _ _ _
      | exact LeO.none _
      | refine LeO.ite ?_ ?_
      | refine LeO.bind ?_ (fun _ => ?_)
set_option maxHeartbeats 8000000 in
set_option maxRecDepth 100000 in
theorem cuvetteref03_Take.calls (k : Nat) (A0 : Option Addr) (c0 : Nat) (l0 : List Int) (a1 : Int) (a2 : Int) (r1 : List Int) (r2 : List Int) (r3 : Int) (w : World) (hr0 : Kd.C (Kd.int .u8) w A0 l0.length l0) (hc0 : l0.length ≤ c0) (h : cuvetteref03_Take.f k l0 a1 a2 = some (r1, r2, r3)) :
    Calls Try.prog 106 #[.slice A0 l0.length c0, .int .i64 a1, .int .i64 a2] w fun e w' => ∃ v0_ v1_ : Value, e = .returned (.tuple #[v0_, v1_, .int .i64 r3]) ∧ Kd.R (Kd.int .i64) 2 w' w.heap.size (fun _ => True) v0_ r1 ∧ Kd.R (Kd.int .u8) 5 w' w.heap.size (fun _ => True) v1_ r2 ∧ Below w.heap.size w w' := by
  have HR0 := Aside0.mk hr0
  have HC0 := Aside0.mk hc0
  clear hr0 hc0
  have HB := Aside0.mk (Below.refl w.heap.size w)
  have H : (if a1 < 1 then (cuvetteref03_Take.j0 k l0 a1 a2 true) else (if a1 > 8 then (cuvetteref03_Take.j0 k l0 a1 a2 true) else (if a2 < 0 then (cuvetteref03_Take.j0 k l0 a1 a2 true) else (cuvetteref03_Take.j0 k l0 a1 a2 (decide (a2 > 65536)))))) = some (r1, r2, r3) := h
  clear h
  have HC4 := Aside0.mk H
  clear H
  go_enter Try.func106, Try.ntmps106
  go_upto_region 1 with (fail)
  go_cut [26] (fun v26 wc => ∃ (kq : Nat) (x26_3 : Bool), v26 = .bool x26_3 ∧ Aside0 (cuvetteref03_Take.j0 kq l0 a1 a2 x26_3 = some (r1, r2, r3)) ∧ Aside0 (kq ≤ k) ∧ Aside0 (Below w.heap.size w wc))
  case first =>
    have H := HC4.out
    clear HC4
    by_cases c5 : a1 < 1
    · rw [if_pos c5] at H
      have c5b0 : decide (a1 < 1) = true := decide_eq_true c5
      clear c5
      (first | rw [c5b0] | (simp only [i64_w, i32_w]; rw [c5b0]) | skip)
      have H' := Aside0.mk H
      clear H
      go_wp2
      go_meet
      case rel => exact ⟨_, (true), (by first | rfl | (simp; done) | (simp [*]; done)), (by first | exact H' | (rw [hji11]; exact H') | (rw [hji17]; exact H') | (rw [hji22]; exact H')), ⟨by first | omega | exact Nat.le_refl _⟩, ⟨by repeat (first | (with_reducible first | exact HB.out | apply below_alloc | apply pw_below_drewN | apply below_drew1) | exact HB.out)⟩⟩
    · rw [if_neg c5] at H
      have c5b0 : decide (a1 < 1) = false := decide_eq_false c5
      clear c5
      (first | rw [c5b0] | (simp only [i64_w, i32_w]; rw [c5b0]) | skip)
      by_cases c6 : a1 > 8
      · rw [if_pos c6] at H
        have c6b0 : decide (8 < a1) = true := decide_eq_true c6
        clear c6
        have H' := Aside0.mk H
        clear H
        go_wp2
        go_meet
        case rel => exact ⟨_, (true), (by first | rfl | (simp; done) | (simp [*]; done)), (by first | exact H' | (rw [hji11]; exact H') | (rw [hji17]; exact H') | (rw [hji22]; exact H')), ⟨by first | omega | exact Nat.le_refl _⟩, ⟨by repeat (first | (with_reducible first | exact HB.out | apply below_alloc | apply pw_below_drewN | apply below_drew1) | exact HB.out)⟩⟩
      · rw [if_neg c6] at H
        have c6b0 : decide (8 < a1) = false := decide_eq_false c6
        clear c6
        by_cases c7 : a2 < 0
        · rw [if_pos c7] at H
          have c7b0 : decide (a2 < 0) = true := decide_eq_true c7
          clear c7
          have H' := Aside0.mk H
          clear H
          go_wp2
          go_meet
          case rel => exact ⟨_, (true), (by first | rfl | (simp; done) | (simp [*]; done)), (by first | exact H' | (rw [hji11]; exact H') | (rw [hji17]; exact H') | (rw [hji22]; exact H')), ⟨by first | omega | exact Nat.le_refl _⟩, ⟨by repeat (first | (with_reducible first | exact HB.out | apply below_alloc | apply pw_below_drewN | apply below_drew1) | exact HB.out)⟩⟩
        · rw [if_neg c7] at H
          have c7b0 : decide (a2 < 0) = false := decide_eq_false c7
          clear c7
          have H' := Aside0.mk H
          clear H
          go_wp2
          go_meet
          case rel => exact ⟨_, (decide (a2 > 65536)), (by first | rfl | (simp; done) | (simp [*]; done)), (by first | exact H' | (rw [hji11]; exact H') | (rw [hji17]; exact H') | (rw [hji22]; exact H')), ⟨by first | omega | exact Nat.le_refl _⟩, ⟨by repeat (first | (with_reducible first | exact HB.out | apply below_alloc | apply pw_below_drewN | apply below_drew1) | exact HB.out)⟩⟩
  case rest =>
    clear HC4
    try clear c1
    try clear p2
    try clear c5
    try clear c5b0
    try clear c6
    try clear c6b0
    try clear c7
    try clear c7b0
    obtain ⟨kq, x26_3, rfl, HA, HJ3, HB⟩ := hcut
    cases kq with
    | zero => exact absurd HA.out (by simp [cuvetteref03_Take.j0])
    | succ kj3 =>
      have H := HA.out
      clear HA
      simp only [cuvetteref03_Take.j0] at H
      by_cases c8 : x26_3 = true
      · subst c8
        have H1 : (some (([] : List Int), ([] : List Int), 1)) = some (r1, r2, r3) := by rw [if_pos rfl] at H; exact H
        clear H
        have H := H1
        clear H1
        simp only [Option.some.injEq, Prod.mk.injEq] at H
        obtain ⟨rfl, rfl, rfl⟩ := H
        go_wp2
        go_ret3
        exact ⟨_, _, by first | rfl | (simp [errW_none, errW_some] <;> rfl) | (simp [*, errW_none, errW_some] <;> rfl), by first | exact Kd.R_nil _ _ _ _ _ | exact Kd.N_nil _ _ _ _ _ | exact Kd.V_nil _ _ _ _ _ | exact Kd.Q_nil _ _ _ _ _ | exact Kd.S_nil _ _ _ _ _, by first | exact Kd.R_nil _ _ _ _ _ | exact Kd.N_nil _ _ _ _ _ | exact Kd.V_nil _ _ _ _ _ | exact Kd.Q_nil _ _ _ _ _ | exact Kd.S_nil _ _ _ _ _, by repeat (first | (with_reducible first | exact HB.out | apply below_alloc | apply pw_below_drewN | apply below_drew1) | exact HB.out)⟩
      · replace c8 := Bool.eq_false_iff.mpr c8
        subst c8
        have H1 : (if (l0.length : Int) < (wrap64 (a2 * a1)) then (some (([] : List Int), ([] : List Int), 2)) else (cuvetteref03_Take.l0 kj3 l0 a1 a2 ([] : List Int) a2 0)) = some (r1, r2, r3) := by rw [if_neg (show ¬ (false = true) by decide)] at H; exact H
        clear H
        have H := H1
        clear H1
        by_cases c9 : (l0.length : Int) < (wrap64 (a2 * a1))
        · rw [if_pos c9] at H
          have c9b0 : decide ((l0.length : Int) < (wrap64 (a2 * a1))) = true := decide_eq_true c9
          clear c9
          simp only [Option.some.injEq, Prod.mk.injEq] at H
          obtain ⟨rfl, rfl, rfl⟩ := H
          go_wp2
          go_ret3
          exact ⟨_, _, by first | rfl | (simp [errW_none, errW_some] <;> rfl) | (simp [*, errW_none, errW_some] <;> rfl), by first | exact Kd.R_nil _ _ _ _ _ | exact Kd.N_nil _ _ _ _ _ | exact Kd.V_nil _ _ _ _ _ | exact Kd.Q_nil _ _ _ _ _ | exact Kd.S_nil _ _ _ _ _, by first | exact Kd.R_nil _ _ _ _ _ | exact Kd.N_nil _ _ _ _ _ | exact Kd.V_nil _ _ _ _ _ | exact Kd.Q_nil _ _ _ _ _ | exact Kd.S_nil _ _ _ _ _, by repeat (first | (with_reducible first | exact HB.out | apply below_alloc | apply pw_below_drewN | apply below_drew1) | exact HB.out)⟩
        · rw [if_neg c9] at H
          have c9b0 : decide ((l0.length : Int) < (wrap64 (a2 * a1))) = false := decide_eq_false c9
          clear c9
          have H' := Aside0.mk H
          clear H
          go_wp2
          go_loopg [9, 34] kj3 (fun kq v9 v34 w' => ∃ (x9_2 : List Int) (x34_2 : Int), v34 = .int .i64 x34_2 ∧ Aside0 (cuvetteref03_Take.l0 kq l0 a1 a2 x9_2 a2 x34_2 = some (r1, r2, r3)) ∧ Aside0 (kq ≤ kj3) ∧ Aside0 (Kd.R (Kd.int .i64) 2 w' w.heap.size (fun _ => True) v9 x9_2) ∧ Aside0 (Below w.heap.size w w'))
          case atStart => exact ⟨(([] : List Int)), (0), (by first | rfl | (simp; done) | (simp [*]; done)), H', ⟨Nat.le_refl _⟩, ⟨by first | exact Kd.R_nil _ _ _ _ _ | exact Kd.N_nil _ _ _ _ _ | exact Kd.V_nil _ _ _ _ _ | exact Kd.Q_nil _ _ _ _ _ | exact Kd.S_nil _ _ _ _ _⟩, ⟨by repeat (first | (with_reducible first | exact HB.out | apply below_alloc | apply pw_below_drewN | apply below_drew1) | exact HB.out)⟩⟩
          case round =>
            clear H'
            try clear c1
            try clear p2
            try clear c5
            try clear c5b0
            try clear c6
            try clear c6b0
            try clear p6
            try clear c7
            try clear c7b0
            try clear c8
            try clear c9
            try clear c9b0
            try clear p2
            obtain ⟨x9_2, x34_2, rfl, HA, HK2, HO_9, HB⟩ := hrel
            cases gk with
            | zero => exact absurd HA.out (by simp [cuvetteref03_Take.l0])
            | succ k2 =>
              have H := HA.out
              clear HA
              simp only [cuvetteref03_Take.l0] at H
              by_cases c10 : x34_2 < a2
              · rw [if_pos c10] at H
                have c10b0 : decide (x34_2 < a2) = true := decide_eq_true c10
                clear c10
                obtain ⟨ji11, hji11⟩ : ∃ j_ : Int, (wrap64 ((wrap64 ((wrap64 (x34_2 * a1)) + a1)) - 1)) = j_ := ⟨_, rfl⟩
                replace H : (if 0 ≤ (ji11) then (if (ji11) < (l0.length : Int) then (if (rd l0 (ji11)) ≥ 128 then (cuvetteref03_Take.j2 k2 l0 a1 a2 x9_2 x34_2 18446744073709551615 a2 x34_2) else (cuvetteref03_Take.j2 k2 l0 a1 a2 x9_2 x34_2 0 a2 x34_2)) else (none)) else (none)) = some (r1, r2, r3) := by first | (rw [hji11] at H; exact H) | (simp only [hji11] at H ⊢; exact H)
                have hji11w : (IntKind.i64.wrap ((wrap64 ((wrap64 (x34_2 * a1)) + a1)) - 1)) = ji11 := (i64_w _).trans hji11
                by_cases c12 : 0 ≤ (ji11)
                · rw [if_pos c12] at H
                  have c12b0 : decide (0 ≤ (ji11)) = true := decide_eq_true c12
                  clear c12
                  by_cases c13 : (ji11) < (l0.length : Int)
                  · rw [if_pos c13] at H
                    have c13b0 : decide ((ji11) < (l0.length : Int)) = true := decide_eq_true c13
                    clear c13
                    have HC14 := Aside0.mk H
                    clear H
                    have p588 : 0 ≤ ((ji11) : Int) := of_decide_eq_true (by first | (with_reducible assumption) | assumption)
                    have q588 : (ji11) < (l0.length : Int) := of_decide_eq_true (by first | (with_reducible assumption) | assumption)
                    obtain ⟨ad588, e588, hx588_0⟩ := Kd.at_int HR0.out (ji11) p588 q588
                    cases e588
                    (try replace hx588_0 := (HB.out.cell (World.block_lt_of_cell? w _ hx588_0)).trans hx588_0)
                    replace p588 := eq_true p588
                    replace q588 := eq_true q588
                    go_upto_if 46 with (fail)
                    go_cut [11] (fun v11 wc => ∃ (kq : Nat) (x11_13 : Int), v11 = .int .u64 x11_13 ∧ Aside0 (cuvetteref03_Take.j2 kq l0 a1 a2 x9_2 x34_2 x11_13 a2 x34_2 = some (r1, r2, r3)) ∧ Aside0 (kq ≤ k2) ∧ Aside0 (Kd.R (Kd.int .i64) 2 wc w.heap.size (fun _ => True) u9 x9_2) ∧ Aside0 (Below w.heap.size w wc))
                    case first =>
                      have H := HC14.out
                      clear HC14
                      by_cases c15 : (rd l0 (ji11)) ≥ 128
                      · rw [if_pos c15] at H
                        have c15b0 : decide (128 ≤ (rd l0 (ji11))) = true := decide_eq_true c15
                        clear c15
                        (first | rw [c15b0] | (simp only [i64_w, i32_w]; rw [c15b0]) | skip)
                        have H' := Aside0.mk H
                        clear H
                        go_wp2
                        go_meet
                        case rel => exact ⟨_, (18446744073709551615), (by first | rfl | (simp; done) | (simp [*]; done)), (by first | exact H' | (rw [hji11]; exact H') | (rw [hji17]; exact H') | (rw [hji22]; exact H')), ⟨by have := HJ3.out; have := HK2.out; first | omega | exact Nat.le_refl _⟩, ⟨by (with_reducible repeat (first | apply Kd.R_alloc | apply Kd.R_drewN | apply Kd.R_drew)); exact HO_9.out⟩, ⟨by repeat (first | (with_reducible first | exact HB.out | apply below_alloc | apply pw_below_drewN | apply below_drew1) | exact HB.out)⟩⟩
                      · rw [if_neg c15] at H
                        have c15b0 : decide (128 ≤ (rd l0 (ji11))) = false := decide_eq_false c15
                        clear c15
                        (first | rw [c15b0] | (simp only [i64_w, i32_w]; rw [c15b0]) | skip)
                        have H' := Aside0.mk H
                        clear H
                        go_wp2
                        go_meet
                        case rel => exact ⟨_, (0), (by first | rfl | (simp; done) | (simp [*]; done)), (by first | exact H' | (rw [hji11]; exact H') | (rw [hji17]; exact H') | (rw [hji22]; exact H')), ⟨by have := HJ3.out; have := HK2.out; first | omega | exact Nat.le_refl _⟩, ⟨by (with_reducible repeat (first | apply Kd.R_alloc | apply Kd.R_drewN | apply Kd.R_drew)); exact HO_9.out⟩, ⟨by repeat (first | (with_reducible first | exact HB.out | apply below_alloc | apply pw_below_drewN | apply below_drew1) | exact HB.out)⟩⟩
                    case rest =>
                      clear HC14
                      try clear c1
                      try clear p2
                      try clear c5
                      try clear c5b0
                      try clear p5
                      try clear q5
                      try clear hx5
                      try clear c6
                      try clear c6b0
                      try clear p6
                      try clear c7
                      try clear c7b0
                      try clear c8
                      try clear c9
                      try clear c9b0
                      try clear c10
                      try clear c10b0
                      try clear c12
                      try clear c12b0
                      try clear c13
                      try clear c13b0
                      try clear c15
                      try clear c15b0
                      try clear hx588_0
                      try clear p2
                      try clear p588
                      try clear p6
                      try clear q588
                      obtain ⟨kq, x11_13, rfl, HA, HJ13, HO_9, HB⟩ := hcut
                      cases kq with
                      | zero => exact absurd HA.out (by simp [cuvetteref03_Take.j2])
                      | succ kj13 =>
                        have H := HA.out
                        clear HA
                        simp only [cuvetteref03_Take.j2] at H
                        have H' := Aside0.mk H
                        clear H
                        go_wp2
                        go_loopg [11, 12] kj13 (fun kq v11 v12 w' => ∃ (x11_4 : Int) (x12_4 : Int), v11 = .int .u64 x11_4 ∧ v12 = .int .i64 x12_4 ∧ Aside0 (cuvetteref03_Take.l1 kq l0 a1 a2 x9_2 x34_2 x11_4 x12_4 a2 x34_2 = some (r1, r2, r3)) ∧ Aside0 (kq ≤ kj13) ∧ Aside0 (Kd.R (Kd.int .i64) 2 w' w.heap.size (fun _ => True) u9 x9_2) ∧ Aside0 (Below w.heap.size w w'))
                        case atStart => exact ⟨(x11_13), (wrap64 (a1 - 1)), (by first | rfl | (simp; done) | (simp [*]; done)), (by first | rfl | (simp; done) | (simp [*]; done)), H', ⟨Nat.le_refl _⟩, ⟨by (with_reducible repeat (first | apply Kd.R_alloc | apply Kd.R_drewN | apply Kd.R_drew)); exact HO_9.out⟩, ⟨by repeat (first | (with_reducible first | exact HB.out | apply below_alloc | apply pw_below_drewN | apply below_drew1) | exact HB.out)⟩⟩
                        case round =>
                          clear H'
                          try clear c1
                          try clear p2
                          try clear c5
                          try clear c5b0
                          try clear p5
                          try clear q5
                          try clear hx5
                          try clear c6
                          try clear c6b0
                          try clear p6
                          try clear c7
                          try clear c7b0
                          try clear c8
                          try clear c9
                          try clear c9b0
                          try clear c10
                          try clear c10b0
                          try clear c12
                          try clear c12b0
                          try clear c13
                          try clear c13b0
                          try clear c15
                          try clear c15b0
                          try clear hx588_0
                          try clear p2
                          try clear p5
                          try clear p588
                          try clear p6
                          try clear q5
                          try clear q588
                          obtain ⟨x11_4, x12_4, rfl, rfl, HA, HK4, HO_9, HB⟩ := hrel
                          cases gk with
                          | zero => exact absurd HA.out (by simp [cuvetteref03_Take.l1])
                          | succ k4 =>
                            have H := HA.out
                            clear HA
                            simp only [cuvetteref03_Take.l1] at H
                            by_cases c16 : x12_4 ≥ 0
                            · rw [if_pos c16] at H
                              have c16b0 : decide (0 ≤ x12_4) = true := decide_eq_true c16
                              clear c16
                              obtain ⟨ji17, hji17⟩ : ∃ j_ : Int, (wrap64 ((wrap64 (x34_2 * a1)) + x12_4)) = j_ := ⟨_, rfl⟩
                              replace H : (if 0 ≤ (ji17) then (if (ji17) < (l0.length : Int) then (cuvetteref03_Take.l1 k4 l0 a1 a2 x9_2 x34_2 (IntKind.u64.wrap ((IntKind.u64.wrap (256 * x11_4)) + (IntKind.u64.wrap (rd l0 (ji17))))) (wrap64 (x12_4 - 1)) a2 x34_2) else (none)) else (none)) = some (r1, r2, r3) := by first | (rw [hji17] at H; exact H) | (simp only [hji17] at H ⊢; exact H)
                              have hji17w : (IntKind.i64.wrap ((wrap64 (x34_2 * a1)) + x12_4)) = ji17 := (i64_w _).trans hji17
                              by_cases c18 : 0 ≤ (ji17)
                              · rw [if_pos c18] at H
                                have c18b0 : decide (0 ≤ (ji17)) = true := decide_eq_true c18
                                clear c18
                                by_cases c19 : (ji17) < (l0.length : Int)
                                · rw [if_pos c19] at H
                                  have c19b0 : decide ((ji17) < (l0.length : Int)) = true := decide_eq_true c19
                                  clear c19
                                  have H' := Aside0.mk H
                                  clear H
                                  have p589 : 0 ≤ ((ji17) : Int) := of_decide_eq_true (by first | (with_reducible assumption) | assumption)
                                  have q589 : (ji17) < (l0.length : Int) := of_decide_eq_true (by first | (with_reducible assumption) | assumption)
                                  obtain ⟨ad589, e589, hx589_0⟩ := Kd.at_int HR0.out (ji17) p589 q589
                                  obtain rfl : ad588 = ad589 := (by injection e589)
                                  (try replace hx589_0 := (HB.out.cell (World.block_lt_of_cell? w _ hx589_0)).trans hx589_0)
                                  replace p589 := eq_true p589
                                  replace q589 := eq_true q589
                                  go_wp2
                                  first | go_roundg k4 | (simp only [← hji17]; go_roundg k4) | (simp only [← hji11, ← hji17]; go_roundg k4)
                                  case measure => have := HJ3.out; have := HK2.out; have := HJ13.out; have := HK4.out; omega
                                  case rel => exact ⟨(IntKind.u64.wrap ((IntKind.u64.wrap (256 * x11_4)) + (IntKind.u64.wrap (rd l0 (ji17))))), (wrap64 (x12_4 - 1)), (by first | rfl | (simp; done) | (simp only [← hji17] <;> (first | rfl | simp)) | (simp [*]; done)), (by first | rfl | (simp; done) | (simp [*]; done)), (by first | exact H' | (rw [hji11]; exact H') | (rw [hji17]; exact H') | (rw [hji22]; exact H')), ⟨by have := HJ3.out; have := HK2.out; have := HJ13.out; have := HK4.out; omega⟩, ⟨by (with_reducible repeat (first | apply Kd.R_alloc | apply Kd.R_drewN | apply Kd.R_drew)); exact HO_9.out⟩, ⟨by repeat (first | (with_reducible first | exact HB.out | apply below_alloc | apply pw_below_drewN | apply below_drew1) | exact HB.out)⟩⟩
                                · rw [if_neg c19] at H
                                  exact absurd H (by simp)
                              · rw [if_neg c18] at H
                                exact absurd H (by simp)
                            · rw [if_neg c16] at H
                              have c16b0 : decide (0 ≤ x12_4) = false := decide_eq_false c16
                              clear c16
                              by_cases c20 : x9_2.length < 17592186044416
                              · rw [if_pos c20] at H
                                have LMc20 := Aside0.mk c20
                                clear c20
                                obtain ⟨y590, hy590⟩ : ∃ y_ : List Int, y_ = (x9_2 ++ [wrap64 (x11_4)]) := ⟨_, rfl⟩
                                replace H : (cuvetteref03_Take.l0 k4 l0 a1 a2 y590 a2 (wrap64 (x34_2 + 1))) = some (r1, r2, r3) := by first | (rw [hy590]; with_reducible exact H) | (have H2_ := (Option.bind_some _ _).symm.trans H; rw [hy590]; with_reducible exact H2_) | (have H2_ := (Option.bind_some _ _).symm.trans H; with_reducible exact H2_) | with_reducible exact H | (rw [hy590]; exact H) | exact H
                                have Ny590 := Aside0.mk hy590
                                clear hy590
                                have H' := Aside0.mk H
                                clear H
                                go_wp2_with (first | ((with_reducible refine gate_builtin (b := .append) (xs := #[.tmp 65, .tmp 68]) rfl ?_); at_builtin; refine Kd.R_append (Kd.int .i64) (w0 := w) w.heap.size rfl (.tmp 65) (.tmp 68) 22 2 (.int .i64 0) 8 rfl Try.underlying22 info2 rfl (by decide) (by omega) u9 x9_2 (wrap64 (x11_4)) [.int .i64 (wrap64 (x11_4))] (fun _ => True) (fun _ => False) rfl rfl ?aP (fun _ hk => hk.elim) ?aF ?aO ?aB ?aS ?aL ?_; (case aP => exact rfl); (case aB => exact (by repeat (first | (with_reducible first | exact HB.out | apply below_alloc | apply pw_below_drewN | apply below_drew1) | exact HB.out))); (case aF => exact (fun _ _ => trivial)); (case aO => exact (by (with_reducible repeat (first | apply Kd.R_alloc | apply Kd.R_drewN | apply Kd.R_drew)); exact HO_9.out)); (case aS => exact (below_size (by repeat (first | (with_reducible first | exact HB.out | apply below_alloc | apply pw_below_drewN | apply below_drew1) | exact HB.out)))); (case aL => have := LMc20.out; omega); intro v591 w21 ho hb hg hat; rw [← Ny590.out] at ho; have n0_ := Aside0.mk (hb); have n1_ := Aside0.mk (ho); clear HB; clear HO_9; have HB := n0_; have HO592 := n1_; clear n0_ n1_; clear ho hb hg hat))
                                first | go_roundg k4 | (simp only [← hji11]; go_roundg k4)
                                case measure => have := HJ3.out; have := HK2.out; have := HJ13.out; have := HK4.out; omega
                                case rel => exact ⟨(y590), (wrap64 (x34_2 + 1)), (by first | rfl | (simp; done) | (simp [*]; done)), (by first | exact H' | (rw [hji11]; exact H') | (rw [hji17]; exact H') | (rw [hji22]; exact H')), ⟨by have := HJ3.out; have := HK2.out; have := HJ13.out; have := HK4.out; omega⟩, ⟨by (with_reducible repeat (first | apply Kd.R_alloc | apply Kd.R_drewN | apply Kd.R_drew)); exact HO592.out⟩, ⟨by repeat (first | (with_reducible first | exact HB.out | apply below_alloc | apply pw_below_drewN | apply below_drew1) | exact HB.out)⟩⟩
                              · rw [if_neg c20] at H
                                exact absurd H (by simp)
                  · rw [if_neg c13] at H
                    exact absurd H (by simp)
                · rw [if_neg c12] at H
                  exact absurd H (by simp)
              · rw [if_neg c10] at H
                have c10b0 : decide (x34_2 < a2) = false := decide_eq_false c10
                clear c10
                obtain ⟨ji22, hji22⟩ : ∃ j_ : Int, (wrap64 (a2 * a1)) = j_ := ⟨_, rfl⟩
                replace H : (if 0 ≤ (ji22) then (if (ji22) ≤ (l0.length : Int) then (if ([] : List Int).length + (l0.drop ((ji22) : Int).toNat).length < 140737488355328 then (some (x9_2, (([] : List Int) ++ (l0.drop ((ji22) : Int).toNat)), 0)) else (none)) else (none)) else (none)) = some (r1, r2, r3) := by first | (rw [hji22] at H; exact H) | (simp only [hji22] at H ⊢; exact H)
                (try rw [hji22] at c9b0)
                have hji22w : (IntKind.i64.wrap (a2 * a1)) = ji22 := (i64_w _).trans hji22
                by_cases c23 : 0 ≤ (ji22)
                · rw [if_pos c23] at H
                  have c23b0 := eq_true c23
                  have c23b1 : decide (0 ≤ (ji22)) = true := decide_eq_true c23
                  clear c23
                  by_cases c24 : (ji22) ≤ (l0.length : Int)
                  · rw [if_pos c24] at H
                    have c24b0 := eq_true c24
                    have c24b1 : decide ((ji22) ≤ (l0.length : Int)) = true := decide_eq_true c24
                    clear c24
                    by_cases c25 : ([] : List Int).length + (l0.drop ((ji22) : Int).toNat).length < 140737488355328
                    · rw [if_pos c25] at H
                      have LMc25 := Aside0.mk c25
                      clear c25
                      obtain ⟨y585, hy585⟩ : ∃ y_ : List Int, y_ = (([] : List Int) ++ (l0.drop ((ji22) : Int).toNat)) := ⟨_, rfl⟩
                      replace H : (some (x9_2, y585, 0)) = some (r1, r2, r3) := by first | (rw [hy585]; with_reducible exact H) | (have H2_ := (Option.bind_some _ _).symm.trans H; rw [hy585]; with_reducible exact H2_) | (have H2_ := (Option.bind_some _ _).symm.trans H; with_reducible exact H2_) | with_reducible exact H | (rw [hy585]; exact H) | exact H
                      have Ny585 := Aside0.mk hy585
                      clear hy585
                      simp only [Option.some.injEq, Prod.mk.injEq] at H
                      obtain ⟨rfl, rfl, rfl⟩ := H
                      obtain ⟨i026, hi026, _, hsz26, _⟩ := info_parts info5
                      obtain ⟨A26, hcut26, hA26, hC26⟩ := print_drop_of (P := Try.prog) (Value.int .u8) 0 50 5 .i64 Try.underlying50 hi026 hsz26 A0 c0 l0 (ji22) (of_decide_eq_true (by first | (with_reducible assumption) | assumption)) (of_decide_eq_true (by first | (with_reducible assumption) | assumption)) HC0.out
                      have HR584 := Aside0.mk (Kd.C_of_reads (h1 := fun _ => rfl) (hA26 _ (Kd.reads_of_C HR0.out)))
                      have HC584 := Aside0.mk hC26
                      clear hA26 hC26 hi026 hsz26
                      go_wp2_with (first | ((with_reducible refine gate_builtin (b := .append) (xs := #[.const (.slice none 0 0), .tmp 76]) rfl ?_); at_builtin; refine Kd.R_append_rows (Kd.int .u8) (w0 := w) w.heap.size rfl (.const (.slice none 0 0)) (.tmp 76) 50 5 (.int .u8 0) 1 rfl Try.underlying50 info5 rfl (by decide) (by omega) (.slice none 0 0) ([] : List Int) (l0.drop ((ji22) : Int).toNat) _ _ _ (fun _ => True) (fun _ => False) rfl rfl ?aO ?aR (fun _ _ h => h) (fun _ h => h.elim) ?aF ?aB ?aS ?aL ?_; (case aR => first | (rw [← show (l0.drop ((ji22) : Int).toNat).length = (l0.length - (ji22).toNat) from List.length_drop]; repeat (first | exact (Kd.C_below HR584.out HB.out) | (with_reducible refine Kd.C_alloc ?_ _) | (with_reducible refine Kd.C_drewN ?_ _) | (with_reducible refine Kd.C_drew ?_))) | (repeat (first | exact (Kd.C_below HR584.out HB.out) | (with_reducible refine Kd.C_alloc ?_ _) | (with_reducible refine Kd.C_drewN ?_ _) | (with_reducible refine Kd.C_drew ?_)))); (case aB => exact (by repeat (first | (with_reducible first | exact HB.out | apply below_alloc | apply pw_below_drewN | apply below_drew1) | exact HB.out))); (case aF => exact (fun _ _ => trivial)); (case aO => exact ((Kd.R_nil _ _ _ _ (fun _ => True)))); (case aS => exact (below_size (by repeat (first | (with_reducible first | exact HB.out | apply below_alloc | apply pw_below_drewN | apply below_drew1) | exact HB.out)))); (case aL => have := LMc25.out; have hlx_ := (show (l0.drop ((ji22) : Int).toNat).length = (l0.length - (ji22).toNat) from List.length_drop); omega); intro v586 w27 ho hb hg hat; rw [← Ny585.out] at ho; have n0_ := Aside0.mk (Kd.R_grown (by (with_reducible repeat (first | apply Kd.R_alloc | apply Kd.R_drewN | apply Kd.R_drew)); exact HO_9.out) hg (fun _ _ => by simp [Value.ownBlock])); have n1_ := Aside0.mk (hb); have n2_ := Aside0.mk (ho); clear HO_9; clear HB; have HO_9 := n0_; have HB := n1_; have HO587 := n2_; clear n0_ n1_ n2_; clear ho hb hg hat))
                      go_ret3
                      exact ⟨_, _, by first | rfl | (simp [errW_none, errW_some] <;> rfl) | (simp only [← hji22]; first | rfl | (simp [errW_none, errW_some] <;> rfl)) | (simp [*, errW_none, errW_some] <;> rfl), by (with_reducible repeat (first | apply Kd.R_alloc | apply Kd.R_drewN | apply Kd.R_drew)); exact HO_9.out, by (with_reducible repeat (first | apply Kd.R_alloc | apply Kd.R_drewN | apply Kd.R_drew)); exact HO587.out, by repeat (first | (with_reducible first | exact HB.out | apply below_alloc | apply pw_below_drewN | apply below_drew1) | exact HB.out)⟩
                    · rw [if_neg c25] at H
                      exact absurd H (by simp)
                  · rw [if_neg c24] at H
                    exact absurd H (by simp)
                · rw [if_neg c23] at H
                  exact absurd H (by simp)

end Go.Proofs.Ytkjibgfgbfacdaa.P
end
/-! part: F40 -/
section
set_option linter.unusedVariables false
set_option linter.unusedSimpArgs false
namespace Go.Proofs.Ytkjibgfgbfacdaa.P
open Go.RowKit Go.Proofs.YtkjibgfgbfacdaaW.PrintWords Go.Proofs.YtkjibgfgbfacdaaW.PrintLast Go.Proofs.YtkjibgfgbfacdaaW.PrintMore
attribute [local go_sem] max2_int min2_int max_two min_two max_three min_three max_four min_four   -- for this text's walks alone
set_option linter.unusedVariables false
set_option linter.unusedSimpArgs false

/-! ### cuvetteref08_From: function 40 -/
mutual
def cuvetteref08_From.j0 : Nat → List Int → Int → Int → List Int → Bool → Option (Int × (List (List Int)) × Int)
  | 0, _, _, _, _, _ => none
  | k + 1, x4, x7, x8, x9, x51 => if x51 = true then (some (0, ([] : List (List Int)), 2)) else (if 0 < (x4.length : Int) then (cuvetteref08_From.l0 k x8 x9 x7 0 (rd x4 0) ([] : List (List Int))) else (none))
def cuvetteref08_From.l0 : Nat → Int → List Int → Int → Int → Int → List (List Int) → Option (Int × (List (List Int)) × Int)
  | 0, _, _, _, _, _, _ => none
  | k + 1, x8, x9, x57, x58, x613000, x613001 => if x58 < x57 then (if 0 ≤ (wrap64 (x58 * x8)) then (if (wrap64 (x58 * x8)) ≤ (wrap64 ((wrap64 (x58 + 1)) * x8)) then (if (wrap64 ((wrap64 (x58 + 1)) * x8)) ≤ (x9.length : Int) then ((some ((x9.take ((wrap64 ((wrap64 (x58 + 1)) * x8)) : Int).toNat).drop ((wrap64 (x58 * x8)) : Int).toNat : List Int)).bind fun y614 => (cuvetteref08_From.l1 k x8 x9 ([] : List Int) x57 x58 y614 (y614.length : Int) 0 x613000 x613001)) else (none)) else (none)) else (none)) else ((cuvetteref07_Check.f k x613000 x613001).bind fun t613 => (if t613 = 0 then (some (x613000, x613001, 0)) else (some (0, ([] : List (List Int)), 2))))
def cuvetteref08_From.l1 : Nat → Int → List Int → List Int → Int → Int → List Int → Int → Int → Int → List (List Int) → Option (Int × (List (List Int)) × Int)
  | 0, _, _, _, _, _, _, _, _, _, _ => none
  | k + 1, x8, x9, x14, x57, x58, x69, x70, x71, x613000, x613001 => if x71 < x70 then (if 0 ≤ x71 then (if x71 < (x69.length : Int) then (if x14.length < 70368744177664 then (cuvetteref08_From.l1 k x8 x9 (x14 ++ [IntKind.i16.wrap (rd x69 x71)]) x57 x58 x69 x70 (wrap64 (x71 + 1)) x613000 x613001) else (none)) else (none)) else (none)) else (if x613001.length < 5864062014805 then (cuvetteref08_From.l0 k x8 x9 x57 (wrap64 (x58 + 1)) x613000 (x613001 ++ [x14])) else (none))
end
def cuvetteref08_From.f (k : Nat) (l0 : List Int) : Option (Int × (List (List Int)) × Int) := if (l0.length : Int) < 10 then (some (0, ([] : List (List Int)), 2)) else ((cuvetteref03_Take.f k l0 8 1).bind fun bt594 => (if 8 < (l0.length : Int) then (if 9 < (l0.length : Int) then (if 10 ≤ (l0.length : Int) then ((cuvetteref03_Take.f k (l0.drop 10) 2 (wrap64 ((wrap64 (rd l0 8)) * (wrap64 (rd l0 9))))).bind fun bt604 => (if bt604.2.2 = 0 then (cuvetteref08_From.j0 k bt594.1 (wrap64 (rd l0 8)) (wrap64 (rd l0 9)) bt604.1 ((bt604.2.1.length : Int) != 0)) else (cuvetteref08_From.j0 k bt594.1 (wrap64 (rd l0 8)) (wrap64 (rd l0 9)) bt604.1 true))) else (none)) else (none)) else (none)))
theorem cuvetteref08_From.mono_l : ∀ k, (∀ y0 y1 y2 y3 y4, LeO (cuvetteref08_From.j0 k y0 y1 y2 y3 y4) (cuvetteref08_From.j0 (k + 1) y0 y1 y2 y3 y4)) ∧ (∀ y0 y1 y2 y3 y4 y5, LeO (cuvetteref08_From.l0 k y0 y1 y2 y3 y4 y5) (cuvetteref08_From.l0 (k + 1) y0 y1 y2 y3 y4 y5)) ∧ (∀ y0 y1 y2 y3 y4 y5 y6 y7 y8 y9, LeO (cuvetteref08_From.l1 k y0 y1 y2 y3 y4 y5 y6 y7 y8 y9) (cuvetteref08_From.l1 (k + 1) y0 y1 y2 y3 y4 y5 y6 y7 y8 y9))
  | 0 => ⟨fun _ _ _ _ _ r h => by simp [cuvetteref08_From.j0] at h, fun _ _ _ _ _ _ r h => by simp [cuvetteref08_From.l0] at h, fun _ _ _ _ _ _ _ _ _ _ r h => by simp [cuvetteref08_From.l1] at h⟩
  | k + 1 => by
    obtain ⟨ih0, ih1, ih2⟩ := cuvetteref08_From.mono_l k
    refine ⟨?_, ?_, ?_⟩
    · intro y0 y1 y2 y3 y4
      unfold cuvetteref08_From.j0
      repeat' first
      | (with_reducible exact ih0 _ _ _ _ _)
      | (with_reducible exact ih1 _ _ _ _ _ _)
      | (with_reducible exact ih2 _ _ _ _ _ _ _ _ _ _)
      | (with_reducible exact cuvetteref03_Take.mono _ _ _ _)
      | (with_reducible exact cuvetteref07_Check.mono _ _ _)
      | (with_reducible exact LeO.refl _)
      | (with_reducible exact LeO.none _)
      | (with_reducible refine LeO.ite ?_ ?_)
      | (with_reducible refine LeO.bind ?_ (fun _ => ?_))
      | exact ih0 _ _ _ _ _
      | exact ih1 _ _ _ _ _ _
      | exact ih2 _ _ _ _ _ _ _ _ _ _
      | exact cuvetteref03_Take.mono _ _ _ _
      | exact cuvetteref07_Check.mono _ _ _
      | exact LeO.none _
      | refine LeO.ite ?_ ?_
      | refine LeO.bind ?_ (fun _ => ?_)
    · intro y0 y1 y2 y3 y4 y5
      unfold cuvetteref08_From.l0
      repeat' first
      | (with_reducible exact ih0 _ _ _ _ _)
      | (with_reducible exact ih1 _ _ _ _ _ _)
      | (with_reducible exact ih2 _ _ _ _ _ _ _ _ _ _)
      | (with_reducible exact cuvetteref03_Take.mono _ _ _ _)
      | (with_reducible exact cuvetteref07_Check.mono _ _ _)
      | (with_reducible exact LeO.refl _)
      | (with_reducible exact LeO.none _)
      | (with_reducible refine LeO.ite ?_ ?_)
      | (with_reducible refine LeO.bind ?_ (fun _ => ?_))
      | exact ih0 _ _ _ _ _
      | exact ih1 _ _ _ _ _ _
      | exact ih2 _ _ _ _ _ _ _ _ _ _
      | exact cuvetteref03_Take.mono _ _ _ _
      | exact cuvetteref07_Check.mono _ _ _
      | exact LeO.none _
      | refine LeO.ite ?_ ?_
      | refine LeO.bind ?_ (fun _ => ?_)
    · intro y0 y1 y2 y3 y4 y5 y6 y7 y8 y9
      unfold cuvetteref08_From.l1
      repeat' first
      | (with_reducible exact ih0 _ _ _ _ _)
      | (with_reducible exact ih1 _ _ _ _ _ _)
      | (with_reducible exact ih2 _ _ _ _ _ _ _ _ _ _)
      | (with_reducible exact cuvetteref03_Take.mono _ _ _ _)
      | (with_reducible exact cuvetteref07_Check.mono _ _ _)
      | (with_reducible exact LeO.refl _)
      | (with_reducible exact LeO.none _)
      | (with_reducible refine LeO.ite ?_ ?_)
      | (with_reducible refine LeO.bind ?_ (fun _ => ?_))
      | exact ih0 _ _ _ _ _
      | exact ih1 _ _ _ _ _ _
      | exact ih2 _ _ _ _ _ _ _ _ _ _
      | exact cuvetteref03_Take.mono _ _ _ _
      | exact cuvetteref07_Check.mono _ _ _
      | exact LeO.none _
      | refine LeO.ite ?_ ?_
      | refine LeO.bind ?_ (fun _ => ?_)
theorem cuvetteref08_From.mono : ∀ a0 k, LeO (cuvetteref08_From.f k a0) (cuvetteref08_From.f (k + 1) a0) := by
  intro a0 k
  obtain ⟨ih0, ih1, ih2⟩ := cuvetteref08_From.mono_l k
  unfold cuvetteref08_From.f
  repeat' first
      | (with_reducible exact ih0 _ _ _ _ _)
      | (with_reducible exact ih1 _ _ _ _ _ _)
      | (with_reducible exact ih2 _ _ _ _ _ _ _ _ _ _)
      | (with_reducible exact cuvetteref03_Take.mono _ _ _ _)
      | (with_reducible exact cuvetteref07_Check.mono _ _ _)
      | (with_reducible exact LeO.refl _)
      | (with_reducible exact LeO.none _)
      | (with_reducible refine LeO.ite ?_ ?_)
      | (with_reducible refine LeO.bind ?_ (fun _ => ?_))
      | exact ih0 _ _ _ _ _
      | exact ih1 _ _ _ _ _ _
      | exact ih2 _ _ _ _ _ _ _ _ _ _
      | exact cuvetteref03_Take.mono _ _ _ _
      | exact cuvetteref07_Check.mono _ _ _
      | exact LeO.none _
      | refine LeO.ite ?_ ?_
      | refine LeO.bind ?_ (fun _ => ?_)
set_option maxHeartbeats 8000000 in
set_option maxRecDepth 100000 in
theorem cuvetteref08_From.calls (k : Nat) (A0 : Option Addr) (c0 : Nat) (l0 : List Int) (r1 : Int) (r2 : List (List Int)) (r3 : Int) (w : World) (hr0 : Kd.C (Kd.int .u8) w A0 l0.length l0) (hc0 : l0.length ≤ c0) (h : cuvetteref08_From.f k l0 = some (r1, r2, r3)) :
    Calls Try.prog 40 #[.slice A0 l0.length c0] w fun e w' => ∃ v1_ : Value, e = .returned (.tuple #[.agg #[.int .i64 r1, v1_], .int .i64 r3]) ∧ Kd.S (Kd.slice 74 (Kd.int .i16)) 26 w' w.heap.size (fun _ => True) v1_ r2 ∧ Below w.heap.size w w' := by
  have hu49 := Try.underlying49
  have HR0 := Aside0.mk hr0
  have HC0 := Aside0.mk hc0
  clear hr0 hc0
  have HB := Aside0.mk (Below.refl w.heap.size w)
  have H : (if (l0.length : Int) < 10 then (some (0, ([] : List (List Int)), 2)) else ((cuvetteref03_Take.f k l0 8 1).bind fun bt594 => (if 8 < (l0.length : Int) then (if 9 < (l0.length : Int) then (if 10 ≤ (l0.length : Int) then ((cuvetteref03_Take.f k (l0.drop 10) 2 (wrap64 ((wrap64 (rd l0 8)) * (wrap64 (rd l0 9))))).bind fun bt604 => (if bt604.2.2 = 0 then (cuvetteref08_From.j0 k bt594.1 (wrap64 (rd l0 8)) (wrap64 (rd l0 9)) bt604.1 ((bt604.2.1.length : Int) != 0)) else (cuvetteref08_From.j0 k bt594.1 (wrap64 (rd l0 8)) (wrap64 (rd l0 9)) bt604.1 true))) else (none)) else (none)) else (none)))) = some (r1, r2, r3) := h
  clear h
  by_cases c2 : (l0.length : Int) < 10
  · rw [if_pos c2] at H
    have c2b0 : decide ((l0.length : Int) < 10) = true := decide_eq_true c2
    have c2b1 : decide (l0.length < 10) = true := decide_eq_true (by omega)
    clear c2
    simp only [Option.some.injEq, Prod.mk.injEq] at H
    obtain ⟨rfl, rfl, rfl⟩ := H
    go_enter Try.func40, Try.ntmps40
    go_wp2_with (first | ((with_reducible refine gate_dst (N := 2) rfl ?_); (try (refine gate_guard (by rfl) ?_; dsimp only)); refine box_event ?hg (N := 2) ?hd (cs := #[.int .i64 0, .slice none 0 0]) (t := 49) ?hr ?_; (case hd => rfl); (case hg => rfl); (case hr => first | (go_simp; done) | (go_simp; rfl)); intro gb593 hg w3 hbox hb; have n0_ := Aside0.mk (below_step (by repeat (first | (with_reducible first | exact HB.out | apply below_alloc | apply pw_below_drewN | apply below_drew1) | exact HB.out)) hb); have n1_ := Aside0.mk (hbox); have n2_ := Aside0.mk ((by rw [hg]; exact (below_size (by repeat (first | (with_reducible first | exact HB.out | apply below_alloc | apply pw_below_drewN | apply below_drew1) | exact HB.out))) : w.heap.size ≤ gb593)); have n3_ := Aside0.mk ((by rw [hg]; exact (below_size (by repeat (first | (with_reducible first | exact HB.out | apply below_alloc | apply pw_below_drewN | apply below_drew1) | exact HB.out))) : w.heap.size ≤ gb593)); clear HB; have HB := n0_; have BK593 := n1_; have GW593 := n2_; have GE593 := n3_; clear n0_ n1_ n2_ n3_; clear hb hbox hg; have hcz4_0 : w3.cell? ⟨gb593, 0, none⟩ = some (.int .i64 0) := (blk_cell BK593.out 0).trans rfl; have hcz4_1 : w3.cell? ⟨gb593, 1, none⟩ = some (.slice none 0 0) := (blk_cell BK593.out 1).trans rfl; have hfz4_0 := blk_frozen BK593.out 0; have hfz4_1 := blk_frozen BK593.out 1))
    refine bodyPost_ret (results_ct rfl _ _ gb593 49 #[.int .i64 0, .slice none 0 0] (0, 0) _ rfl (by (with_reducible repeat (first | refine blk_drewN ?_ _ | refine blk_drew ?_ | refine blk_alloc ?_ _)); refine blk_put (cs := #[.int .i64 0, .slice none 0 0]) ?_ 1 _ rfl; (with_reducible repeat (first | refine blk_drewN ?_ _ | refine blk_drew ?_ | refine blk_alloc ?_ _)); refine blk_put (cs := #[.int .i64 0, .slice none 0 0]) ?_ 0 _ rfl; (with_reducible repeat (first | refine blk_drewN ?_ _ | refine blk_drew ?_ | refine blk_alloc ?_ _)); exact BK593.out) Try.underlying49 rfl (by kernel_rfl)) rfl ?_
    exact ⟨_, by first | rfl | (simp [errW_none, errW_some] <;> rfl) | (simp [*, errW_none, errW_some] <;> rfl), by first | exact Kd.S_nil _ _ _ _ _ | exact Kd.N_nil _ _ _ _ _ | exact Kd.V_nil _ _ _ _ _ | exact Kd.Q_nil _ _ _ _ _ | exact Kd.R_nil _ _ _ _ _, by repeat (first | (with_reducible first | exact HB.out | apply below_alloc | apply pw_below_drewN | apply below_drew1 | refine below_set ?_ GE593.out) | exact HB.out)⟩
  · rw [if_neg c2] at H
    have c2b0 : decide ((l0.length : Int) < 10) = false := decide_eq_false c2
    have c2b1 : decide (l0.length < 10) = false := decide_eq_false (by omega)
    clear c2
    replace H := Option.bind_eq_some_iff.mp H
    obtain ⟨⟨t594, t595, t596⟩, A50, H⟩ := H
    replace H : (if 8 < (l0.length : Int) then (if 9 < (l0.length : Int) then (if 10 ≤ (l0.length : Int) then ((cuvetteref03_Take.f k (l0.drop 10) 2 (wrap64 ((wrap64 (rd l0 8)) * (wrap64 (rd l0 9))))).bind fun bt604 => (if bt604.2.2 = 0 then (cuvetteref08_From.j0 k t594 (wrap64 (rd l0 8)) (wrap64 (rd l0 9)) bt604.1 ((bt604.2.1.length : Int) != 0)) else (cuvetteref08_From.j0 k t594 (wrap64 (rd l0 8)) (wrap64 (rd l0 9)) bt604.1 true))) else (none)) else (none)) else (none)) = some (r1, r2, r3) := H
    have A5 := Aside0.mk A50
    clear A50
    by_cases c6 : 8 < (l0.length : Int)
    · rw [if_pos c6] at H
      have c6b0 : decide (8 < (l0.length : Int)) = true := decide_eq_true c6
      have c6b1 : decide (8 < l0.length) = true := decide_eq_true (by omega)
      clear c6
      by_cases c7 : 9 < (l0.length : Int)
      · rw [if_pos c7] at H
        have c7b0 : decide (9 < (l0.length : Int)) = true := decide_eq_true c7
        have c7b1 : decide (9 < l0.length) = true := decide_eq_true (by omega)
        clear c7
        by_cases c8 : 10 ≤ (l0.length : Int)
        · rw [if_pos c8] at H
          have c8b0 := eq_true c8
          have c8b1 : decide (10 ≤ (l0.length : Int)) = true := decide_eq_true c8
          clear c8
          replace H := Option.bind_eq_some_iff.mp H
          obtain ⟨⟨t604, t605, t606⟩, A90, H⟩ := H
          replace H : (if t606 = 0 then (cuvetteref08_From.j0 k t594 (wrap64 (rd l0 8)) (wrap64 (rd l0 9)) t604 ((t605.length : Int) != 0)) else (cuvetteref08_From.j0 k t594 (wrap64 (rd l0 8)) (wrap64 (rd l0 9)) t604 true)) = some (r1, r2, r3) := H
          have A9 := Aside0.mk A90
          clear A90
          have HC10 := Aside0.mk H
          clear H
          go_enter Try.func40, Try.ntmps40
          go_upto_region 7 with (first | ((with_reducible refine gate_dst (N := 2) rfl ?_); (try (refine gate_guard (by rfl) ?_; dsimp only)); refine box_event ?hg (N := 2) ?hd (cs := #[.int .i64 0, .slice none 0 0]) (t := 49) ?hr ?_; (case hd => rfl); (case hg => rfl); (case hr => first | (go_simp; done) | (go_simp; rfl)); intro gb593 hg w11 hbox hb; have n0_ := Aside0.mk (below_step (by repeat (first | (with_reducible first | exact HB.out | apply below_alloc | apply pw_below_drewN | apply below_drew1) | exact HB.out)) hb); have n1_ := Aside0.mk (hbox); have n2_ := Aside0.mk ((by rw [hg]; exact (below_size (by repeat (first | (with_reducible first | exact HB.out | apply below_alloc | apply pw_below_drewN | apply below_drew1) | exact HB.out))) : w.heap.size ≤ gb593)); have n3_ := Aside0.mk ((by rw [hg]; exact (below_size (by repeat (first | (with_reducible first | exact HB.out | apply below_alloc | apply pw_below_drewN | apply below_drew1) | exact HB.out))) : w.heap.size ≤ gb593)); clear HB; have HB := n0_; have BK593 := n1_; have GW593 := n2_; have GE593 := n3_; clear n0_ n1_ n2_ n3_; clear hb hbox hg) | ((with_reducible refine gate_callee (f := 106) rfl ?_); refine goesL_ (some 23) rfl rfl Try.func106 (by kernel_rfl) rfl #[.slice A0 l0.length c0, .int .i64 8, .int .i64 1] rfl (by (try simp only [List.map_toArray, List.map_cons, List.map_nil]); first | done | rfl | (simp only [List.length_drop, List.length_take]; rfl)) ?_; (with_reducible refine (cuvetteref03_Take.calls k _ _ l0 8 1 t594 t595 t596 _ ?side1 ?side2 A5.out).mono ?_); (case side1 => repeat (first | exact (Kd.C_below HR0.out HB.out) | (with_reducible refine Kd.C_alloc ?_ _) | (with_reducible refine Kd.C_drewN ?_ _) | (with_reducible refine Kd.C_drew ?_))); (case side2 => exact HC0.out); rintro e w12 ⟨v597, v599, rfl, ho0, ho1, hb⟩; refine ⟨_, rfl, ?_⟩; have n0_ := Aside0.mk (Kd.R_lower ho0 (below_size (by repeat (first | (with_reducible first | exact HB.out | apply below_alloc | apply pw_below_drewN | apply below_drew1 | refine below_set ?_ GE593.out) | exact HB.out)))); have n1_ := Aside0.mk (Kd.R_lower ho1 (below_size (by repeat (first | (with_reducible first | exact HB.out | apply below_alloc | apply pw_below_drewN | apply below_drew1 | refine below_set ?_ GE593.out) | exact HB.out)))); have n2_ := Aside0.mk (blk_below (g := gb593) (o := .cells #[.int .i64 0, .slice none 0 0] 49 (0, 0)) (by (with_reducible repeat (first | refine blk_drewN ?_ _ | refine blk_drew ?_ | refine blk_alloc ?_ _)); exact BK593.out) hb); have n3_ := Aside0.mk (below_step (by repeat (first | (with_reducible first | exact HB.out | apply below_alloc | apply pw_below_drewN | apply below_drew1 | refine below_set ?_ GE593.out) | exact HB.out)) hb); clear BK593; clear HB; have HO598 := n0_; have HO600 := n1_; have BK593 := n2_; have HB := n3_; clear n0_ n1_ n2_ n3_; (try clear hb); (try clear hb2); (try clear hk); (try clear hi); (try clear ho0); (try clear ho1); have p601 : 0 ≤ (8 : Int) := (by omega); have q601 : 8 < (l0.length : Int) := of_decide_eq_true (by first | (with_reducible assumption) | assumption); obtain ⟨ad601, e601, hx601_0⟩ := Kd.at_int HR0.out 8 p601 q601; cases e601; (try simp only [show (8 : Int).toNat = 8 from rfl, Nat.reduceMul, Nat.reduceEqDiff, Go.Addr.add, ↓reduceIte] at hx601_0); have qi601 : (8 < l0.length) = True := eq_true (by omega); (try rw [show ((8 : Int)).toNat = 8 from rfl] at hx601_0); replace hx601_0 := (HB.out.cell (World.block_lt_of_cell? w _ hx601_0)).trans hx601_0; replace p601 := eq_true p601; replace q601 := eq_true q601; have p602 : 0 ≤ (9 : Int) := (by omega); have q602 : 9 < (l0.length : Int) := of_decide_eq_true (by first | (with_reducible assumption) | assumption); obtain ⟨ad602, e602, hx602_0⟩ := Kd.at_int HR0.out 9 p602 q602; obtain rfl : ad601 = ad602 := (by injection e602); (try simp only [show (9 : Int).toNat = 9 from rfl, Nat.reduceMul, Nat.reduceEqDiff, Go.Addr.add, ↓reduceIte] at hx602_0); have qi602 : (9 < l0.length) = True := eq_true (by omega); (try rw [show ((9 : Int)).toNat = 9 from rfl] at hx602_0); replace hx602_0 := (HB.out.cell (World.block_lt_of_cell? w _ hx602_0)).trans hx602_0; replace p602 := eq_true p602; replace q602 := eq_true q602; obtain ⟨i013, hi013, _, hsz13, _⟩ := info_parts info5; obtain ⟨A13, hcut13, hA13, hC13⟩ := print_drop_of (P := Try.prog) (Value.int .u8) 0 50 5 .i64 Try.underlying50 hi013 hsz13 (some ad601) c0 l0 10 (by omega) (of_decide_eq_true (by first | (with_reducible assumption) | assumption)) HC0.out; have HR603 := Aside0.mk (Kd.C_of_reads (h1 := fun _ => rfl) (hA13 _ (Kd.reads_of_C HR0.out))); have HC603 := Aside0.mk hC13; clear hA13 hC13 hi013 hsz13) | ((with_reducible refine gate_callee (f := 106) rfl ?_); refine goesL_ (some 41) rfl rfl Try.func106 (by kernel_rfl) rfl #[.slice A13 (l0.drop 10).length (c0 - 10), .int .i64 2, .int .i64 (wrap64 ((wrap64 (rd l0 8)) * (wrap64 (rd l0 9))))] rfl (by (try simp only [List.map_toArray, List.map_cons, List.map_nil]); first | done | (rw [show (l0.drop 10).length = (l0.length - 10) from List.length_drop] <;> rfl) | rfl | (simp only [List.length_drop, List.length_take]; rfl)) ?_; (with_reducible refine (cuvetteref03_Take.calls k _ _ (l0.drop 10) 2 (wrap64 ((wrap64 (rd l0 8)) * (wrap64 (rd l0 9)))) t604 t605 t606 _ ?side1 ?side2 A9.out).mono ?_); (case side1 => repeat (first | exact (Kd.C_below HR603.out HB.out) | (with_reducible refine Kd.C_alloc ?_ _) | (with_reducible refine Kd.C_drewN ?_ _) | (with_reducible refine Kd.C_drew ?_))); (case side2 => exact HC603.out); rintro e w14 ⟨v607, v609, rfl, ho0, ho1, hb⟩; refine ⟨_, rfl, ?_⟩; have n0_ := Aside0.mk (Kd.R_elder' (by (with_reducible repeat (first | apply Kd.R_alloc | apply Kd.R_drewN | apply Kd.R_drew)); exact HO598.out) (Kd.R_base ho0) hb); have n1_ := Aside0.mk (Kd.R_elder' (by (with_reducible repeat (first | apply Kd.R_alloc | apply Kd.R_drewN | apply Kd.R_drew)); exact HO600.out) (Kd.R_base ho1) hb); have n2_ := Aside0.mk (Kd.R_lower (Kd.R_new' ho0 (Kd.R_lt (by (with_reducible repeat (first | apply Kd.R_alloc | apply Kd.R_drewN | apply Kd.R_drew)); exact HO598.out))) (below_size (by repeat (first | (with_reducible first | exact HB.out | apply below_alloc | apply pw_below_drewN | apply below_drew1 | refine below_set ?_ GE593.out) | exact HB.out)))); have n3_ := Aside0.mk (Kd.R_lower (Kd.R_new' ho1 (Kd.R_lt (by (with_reducible repeat (first | apply Kd.R_alloc | apply Kd.R_drewN | apply Kd.R_drew)); exact HO600.out))) (below_size (by repeat (first | (with_reducible first | exact HB.out | apply below_alloc | apply pw_below_drewN | apply below_drew1 | refine below_set ?_ GE593.out) | exact HB.out)))); have n4_ := Aside0.mk (blk_below (g := gb593) (o := .cells #[.int .i64 0, .slice none 0 0] 49 (0, 0)) (by (with_reducible repeat (first | refine blk_drewN ?_ _ | refine blk_drew ?_ | refine blk_alloc ?_ _)); exact BK593.out) hb); have n5_ := Aside0.mk (below_step (by repeat (first | (with_reducible first | exact HB.out | apply below_alloc | apply pw_below_drewN | apply below_drew1 | refine below_set ?_ GE593.out) | exact HB.out)) hb); clear HO598; clear HO600; clear BK593; clear HB; have HO598 := n0_; have HO600 := n1_; have HO608 := n2_; have HO610 := n3_; have BK593 := n4_; have HB := n5_; clear n0_ n1_ n2_ n3_ n4_ n5_; (try clear hb); (try clear hb2); (try clear hk); (try clear hi); (try clear ho0); (try clear ho1)))
          (try simp only [Act.put, List.setIfInBounds_toArray, List.set_cons_zero, List.set_cons_succ])
          go_cut [51] (fun v51 wc => ∃ (kq : Nat) (x51_9 : Bool), v51 = .bool x51_9 ∧ Aside0 (cuvetteref08_From.j0 kq t594 (wrap64 (rd l0 8)) (wrap64 (rd l0 9)) t604 x51_9 = some (r1, r2, r3)) ∧ Aside0 (kq ≤ k) ∧ Aside0 (Kd.R (Kd.int .i64) 2 wc w.heap.size (fun k_ => some k_ ≠ (v607 : Value).ownBlock) v597 t594) ∧ Aside0 (Kd.R (Kd.int .i64) 2 wc w.heap.size (fun k_ => some k_ ≠ (v597 : Value).ownBlock) v607 t604) ∧ Aside0 (wc.heap[gb593]? = some (.cells #[.int .i64 0, (.slice none 0 0)] 49 (0, 0))) ∧ Aside0 (Below w.heap.size w wc))
          case first =>
            have H := HC10.out
            clear HC10
            by_cases c15 : t606 = 0
            · rw [if_pos c15] at H
              have c15b0 : (t606 == 0) = true := beq_iff_eq.mpr c15
              have c15b1 : (t606 != 0) = false := bne_eq_false_iff_eq.mpr c15
              clear c15
              (first | rw [c15b0] | (simp only [i64_w, i32_w]; rw [c15b0]) | skip)
              have H' := Aside0.mk H
              clear H
              obtain ⟨Ao16, co16, eo16⟩ := Kd.R_slice HO610.out
              subst eo16
              go_wp2
              go_meet
              case rel => exact ⟨_, (((t605.length : Int) != 0)), (by first | rfl | (simp; done) | (simp [*]; done)), (by first | exact H' | (rw [hji25]; exact H')), ⟨by first | omega | exact Nat.le_refl _⟩, ⟨by (with_reducible repeat (first | apply Kd.R_alloc | apply Kd.R_drewN | apply Kd.R_drew)); exact Kd.R_mono HO598.out (fun _ hk => hk.2)⟩, ⟨by (with_reducible repeat (first | apply Kd.R_alloc | apply Kd.R_drewN | apply Kd.R_drew)); exact Kd.R_mono HO608.out (fun _ hk => hk.2)⟩, ⟨by (with_reducible repeat (first | refine blk_drewN ?_ _ | refine blk_drew ?_ | refine blk_alloc ?_ _)); exact BK593.out⟩, ⟨by repeat (first | (with_reducible first | exact HB.out | apply below_alloc | apply pw_below_drewN | apply below_drew1 | refine below_set ?_ GE593.out) | exact HB.out)⟩⟩
            · rw [if_neg c15] at H
              have c15b0 : (t606 == 0) = false := beq_eq_false_iff_ne.mpr c15
              have c15b1 : (t606 != 0) = true := bne_iff_ne.mpr c15
              (first | rw [c15b0] | (simp only [i64_w, i32_w]; rw [c15b0]) | skip)
              have H' := Aside0.mk H
              clear H
              go_wp2
              go_meet
              case rel => exact ⟨_, (true), (by first | rfl | (simp; done) | (simp [*]; done)), (by first | exact H' | (rw [hji25]; exact H')), ⟨by first | omega | exact Nat.le_refl _⟩, ⟨by (with_reducible repeat (first | apply Kd.R_alloc | apply Kd.R_drewN | apply Kd.R_drew)); exact Kd.R_mono HO598.out (fun _ hk => hk.2)⟩, ⟨by (with_reducible repeat (first | apply Kd.R_alloc | apply Kd.R_drewN | apply Kd.R_drew)); exact Kd.R_mono HO608.out (fun _ hk => hk.2)⟩, ⟨by (with_reducible repeat (first | refine blk_drewN ?_ _ | refine blk_drew ?_ | refine blk_alloc ?_ _)); exact BK593.out⟩, ⟨by repeat (first | (with_reducible first | exact HB.out | apply below_alloc | apply pw_below_drewN | apply below_drew1 | refine below_set ?_ GE593.out) | exact HB.out)⟩⟩
          case rest =>
            clear HC10
            try clear c1
            try clear c2
            try clear c2b0
            try clear c2b1
            try clear p2
            try clear c4
            try clear c6
            try clear c6b0
            try clear c6b1
            try clear p6
            try clear q6
            try clear hx6
            try clear qi6
            try clear c7
            try clear c7b0
            try clear c7b1
            try clear c8
            try clear c8b0
            try clear c8b1
            try clear c10
            try clear c15
            try clear c15b0
            try clear c15b1
            try clear hcz4_0
            try clear hcz4_1
            try clear hfz4_0
            try clear hfz4_1
            try clear hx601_0
            try clear hx602_0
            try clear p601
            try clear p602
            try clear q601
            try clear q602
            obtain ⟨kq, x51_9, rfl, HA, HJ9, HO_4, HO_9, BK593, HB⟩ := hcut
            cases kq with
            | zero => exact absurd HA.out (by simp [cuvetteref08_From.j0])
            | succ kj9 =>
              have H := HA.out
              clear HA
              simp only [cuvetteref08_From.j0] at H
              by_cases c17 : x51_9 = true
              · subst c17
                have H1 : (some (0, ([] : List (List Int)), 2)) = some (r1, r2, r3) := by rw [if_pos rfl] at H; exact H
                clear H
                have H := H1
                clear H1
                simp only [Option.some.injEq, Prod.mk.injEq] at H
                obtain ⟨rfl, rfl, rfl⟩ := H
                have hcz18_0 : wc.cell? ⟨gb593, 0, none⟩ = some (.int .i64 0) := (blk_cell BK593.out 0).trans rfl
                have hcz18_1 : wc.cell? ⟨gb593, 1, none⟩ = some (.slice none 0 0) := (blk_cell BK593.out 1).trans rfl
                have hfz18_0 := blk_frozen BK593.out 0
                have hfz18_1 := blk_frozen BK593.out 1
                go_wp2
                refine bodyPost_ret (results_ct rfl _ _ gb593 49 #[.int .i64 0, .slice none 0 0] (0, 0) _ rfl (by (with_reducible repeat (first | refine blk_drewN ?_ _ | refine blk_drew ?_ | refine blk_alloc ?_ _)); refine blk_put (cs := #[.int .i64 0, .slice none 0 0]) ?_ 1 _ rfl; (with_reducible repeat (first | refine blk_drewN ?_ _ | refine blk_drew ?_ | refine blk_alloc ?_ _)); refine blk_put (cs := #[.int .i64 0, .slice none 0 0]) ?_ 0 _ rfl; (with_reducible repeat (first | refine blk_drewN ?_ _ | refine blk_drew ?_ | refine blk_alloc ?_ _)); exact BK593.out) Try.underlying49 rfl (by kernel_rfl)) rfl ?_
                exact ⟨_, by first | rfl | (simp [errW_none, errW_some] <;> rfl) | (simp [*, errW_none, errW_some] <;> rfl), by first | exact Kd.S_nil _ _ _ _ _ | exact Kd.N_nil _ _ _ _ _ | exact Kd.V_nil _ _ _ _ _ | exact Kd.Q_nil _ _ _ _ _ | exact Kd.R_nil _ _ _ _ _, by repeat (first | (with_reducible first | exact HB.out | apply below_alloc | apply pw_below_drewN | apply below_drew1 | refine below_set ?_ GE593.out) | exact HB.out)⟩
              · replace c17 := Bool.eq_false_iff.mpr c17
                subst c17
                have H1 : (if 0 < (t594.length : Int) then (cuvetteref08_From.l0 kj9 (wrap64 (rd l0 9)) t604 (wrap64 (rd l0 8)) 0 (rd t594 0) ([] : List (List Int))) else (none)) = some (r1, r2, r3) := by rw [if_neg (show ¬ (false = true) by decide)] at H; exact H
                clear H
                have H := H1
                clear H1
                by_cases c19 : 0 < (t594.length : Int)
                · rw [if_pos c19] at H
                  have c19b0 : decide (0 < (t594.length : Int)) = true := decide_eq_true c19
                  have c19b1 : decide (0 < t594.length) = true := decide_eq_true (by omega)
                  clear c19
                  have H' := Aside0.mk H
                  clear H
                  obtain ⟨Ao20, co20, eo20⟩ := Kd.R_slice HO_4.out
                  subst eo20
                  have p611 : 0 ≤ (0 : Int) := (by omega)
                  have q611 : 0 < (t594.length : Int) := of_decide_eq_true (by first | (with_reducible assumption) | assumption)
                  obtain ⟨ad611, e611, hx611_0⟩ := Kd.at_int (Kd.R_reads' HO_4.out).2.2 0 p611 q611
                  cases e611
                  have qi611 : (0 < t594.length) = True := eq_true (by omega)
                  (try rw [show ((0 : Int)).toNat = 0 from rfl] at hx611_0)
                  (try rw [Addr.add_zero'] at hx611_0)
                  replace p611 := eq_true p611
                  replace q611 := eq_true q611
                  go_wp2_with (first | ((with_reducible refine gate_dst (N := 12) rfl ?_); (try (refine gate_guard (by rfl) ?_; dsimp only)); refine box_event ?hg (N := 12) ?hd (cs := #[.int .i64 0, .slice none 0 0]) (t := 49) ?hr ?_; (case hd => rfl); (case hg => rfl); (case hr => first | (go_simp; done) | (go_simp; rfl)); intro gb612 hg w21 hbox hb; have n0_ := Aside0.mk (Kd.R_below (by (with_reducible repeat (first | apply Kd.R_alloc | apply Kd.R_drewN | apply Kd.R_drew)); exact HO_4.out) hb); have n1_ := Aside0.mk (Kd.R_below (by (with_reducible repeat (first | apply Kd.R_alloc | apply Kd.R_drewN | apply Kd.R_drew)); exact HO_9.out) hb); have n2_ := Aside0.mk (blk_below (g := gb593) (o := .cells #[.int .i64 0, .slice none 0 0] 49 (0, 0)) (by (with_reducible repeat (first | refine blk_drewN ?_ _ | refine blk_drew ?_ | refine blk_alloc ?_ _)); exact BK593.out) hb); have n3_ := Aside0.mk (below_step (by repeat (first | (with_reducible first | exact HB.out | apply below_alloc | apply pw_below_drewN | apply below_drew1 | refine below_set ?_ GE593.out) | exact HB.out)) hb); have n4_ := Aside0.mk (hbox); have n5_ := Aside0.mk ((by rw [hg]; exact (below_size (by repeat (first | (with_reducible first | exact HB.out | apply below_alloc | apply pw_below_drewN | apply below_drew1 | refine below_set ?_ GE593.out) | exact HB.out))) : w.heap.size ≤ gb612)); have n6_ := Aside0.mk ((by rw [hg]; exact (below_size (by repeat (first | (with_reducible first | exact HB.out | apply below_alloc | apply pw_below_drewN | apply below_drew1 | refine below_set ?_ GE593.out) | exact HB.out))) : w.heap.size ≤ gb612)); have n7_ := Aside0.mk ((by rw [hg]; exact Nat.ne_of_lt (blk_lt (g := gb593) (o := .cells #[.int .i64 0, .slice none 0 0] 49 (0, 0)) (by (with_reducible repeat (first | refine blk_drewN ?_ _ | refine blk_drew ?_ | refine blk_alloc ?_ _)); exact BK593.out)) : gb593 ≠ gb612)); have n8_ := Aside0.mk ((by rw [hg]; exact Nat.ne_of_gt (blk_lt (g := gb593) (o := .cells #[.int .i64 0, .slice none 0 0] 49 (0, 0)) (by (with_reducible repeat (first | refine blk_drewN ?_ _ | refine blk_drew ?_ | refine blk_alloc ?_ _)); exact BK593.out)) : gb612 ≠ gb593)); clear HO_4; clear HO_9; clear BK593; clear HB; have HO_4 := n0_; have HO_9 := n1_; have BK593 := n2_; have HB := n3_; have BK612 := n4_; have GW612 := n5_; have GE612 := n6_; have NB593_612 := n7_; have NB612_593 := n8_; clear n0_ n1_ n2_ n3_ n4_ n5_ n6_ n7_ n8_; clear hb hbox hg; have hnb22 := NB612_593.out; have hnc22 := NB593_612.out; have hcz23_0 : w21.cell? ⟨gb612, 0, none⟩ = some (.int .i64 0) := (blk_cell BK612.out 0).trans rfl; have hcz23_1 : w21.cell? ⟨gb612, 1, none⟩ = some (.slice none 0 0) := (blk_cell BK612.out 1).trans rfl; have hfz23_0 := blk_frozen BK612.out 0; have hfz23_1 := blk_frozen BK612.out 1))
                  go_loopg [58] kj9 (fun kq v58 w' => ∃ (x58_2 : Int) (x613001_2 : List (List Int)) (u613001 : Value), v58 = .int .i64 x58_2 ∧ Aside0 (cuvetteref08_From.l0 kq (wrap64 (rd l0 9)) t604 (wrap64 (rd l0 8)) x58_2 (rd t594 0) x613001_2 = some (r1, r2, r3)) ∧ Aside0 (kq ≤ kj9) ∧ Aside0 (Kd.R (Kd.int .i64) 2 w' w.heap.size (fun _ => True) v607 t604) ∧ Aside0 (Kd.S (Kd.slice 74 (Kd.int .i16)) 26 w' w.heap.size (fun _ => True) u613001 x613001_2) ∧ Aside0 (w'.heap[gb593]? = some (.cells #[.int .i64 0, (.slice none 0 0)] 49 (0, 0))) ∧ Aside0 (w'.heap[gb612]? = some (.cells #[.int .i64 (rd t594 0), u613001] 49 (0, 0))) ∧ Aside0 (Below w.heap.size w w'))
                  case atStart => exact ⟨(0), (([] : List (List Int))), (.slice none 0 0), (by first | rfl | (simp; done) | (simp [*]; done)), H', ⟨Nat.le_refl _⟩, ⟨by (with_reducible repeat (first | apply Kd.R_alloc | apply Kd.R_drewN | apply Kd.R_drew)); exact Kd.R_mono (Kd.R_far (p := ⟨gb612, 1, none⟩) (Kd.R_far (p := ⟨gb612, 0, none⟩) (Kd.R_types HO_9.out BK612.out (by decide)) (fun _ hk => hk.2) (.int .i64 (rd t594 0))) (fun _ hk => hk.2) (.slice none 0 0)) (fun _ hk => trivial)⟩, ⟨by first | exact Kd.S_nil _ _ _ _ _ | exact Kd.N_nil _ _ _ _ _ | exact Kd.V_nil _ _ _ _ _ | exact Kd.Q_nil _ _ _ _ _ | exact Kd.R_nil _ _ _ _ _⟩, ⟨by (with_reducible repeat (first | refine blk_drewN ?_ _ | refine blk_drew ?_ | refine blk_alloc ?_ _)); refine blk_far ?_ NB593_612.out _; (with_reducible repeat (first | refine blk_drewN ?_ _ | refine blk_drew ?_ | refine blk_alloc ?_ _)); refine blk_far ?_ NB593_612.out _; (with_reducible repeat (first | refine blk_drewN ?_ _ | refine blk_drew ?_ | refine blk_alloc ?_ _)); exact BK593.out⟩, ⟨by (with_reducible repeat (first | refine blk_drewN ?_ _ | refine blk_drew ?_ | refine blk_alloc ?_ _)); refine blk_put (cs := #[.int .i64 (rd t594 0), .slice none 0 0]) ?_ 1 _ rfl; (with_reducible repeat (first | refine blk_drewN ?_ _ | refine blk_drew ?_ | refine blk_alloc ?_ _)); refine blk_put (cs := #[.int .i64 0, .slice none 0 0]) ?_ 0 _ rfl; (with_reducible repeat (first | refine blk_drewN ?_ _ | refine blk_drew ?_ | refine blk_alloc ?_ _)); exact BK612.out⟩, ⟨by repeat (first | (with_reducible first | exact HB.out | apply below_alloc | apply pw_below_drewN | apply below_drew1 | refine below_set ?_ GE593.out | refine below_set ?_ GE612.out) | exact HB.out)⟩⟩
                  case round =>
                    clear H'
                    try clear c1
                    try clear c2
                    try clear c2b0
                    try clear c2b1
                    try clear p2
                    try clear c4
                    try clear c6
                    try clear c6b0
                    try clear c6b1
                    try clear p6
                    try clear q6
                    try clear hx6
                    try clear qi6
                    try clear c7
                    try clear c7b0
                    try clear c7b1
                    try clear c8
                    try clear c8b0
                    try clear c8b1
                    try clear c10
                    try clear c15
                    try clear c15b0
                    try clear c15b1
                    try clear c17
                    try clear c19
                    try clear c19b0
                    try clear c19b1
                    try clear c22
                    try clear hcz18_0
                    try clear hcz18_1
                    try clear hcz23_0
                    try clear hcz23_1
                    try clear hcz4_0
                    try clear hcz4_1
                    try clear hfz18_0
                    try clear hfz18_1
                    try clear hfz23_0
                    try clear hfz23_1
                    try clear hfz4_0
                    try clear hfz4_1
                    try clear hx601_0
                    try clear hx602_0
                    try clear hx611_0
                    try clear p2
                    try clear p6
                    try clear p601
                    try clear p602
                    try clear p611
                    try clear q6
                    try clear q601
                    try clear q602
                    try clear q611
                    obtain ⟨x58_2, x613001_2, u613001, rfl, HA, HK2, HO_9, HO_613001, BK593, BK612, HB⟩ := hrel
                    cases gk with
                    | zero => exact absurd HA.out (by simp [cuvetteref08_From.l0])
                    | succ k2 =>
                      have H := HA.out
                      clear HA
                      simp only [cuvetteref08_From.l0] at H
                      by_cases c24 : x58_2 < (wrap64 (rd l0 8))
                      · rw [if_pos c24] at H
                        have c24b0 : decide (x58_2 < (wrap64 (rd l0 8))) = true := decide_eq_true c24
                        clear c24
                        obtain ⟨ji25, hji25⟩ : ∃ j_ : Int, (wrap64 (x58_2 * (wrap64 (rd l0 9)))) = j_ := ⟨_, rfl⟩
                        replace H : (if 0 ≤ (ji25) then (if (ji25) ≤ (wrap64 ((wrap64 (x58_2 + 1)) * (wrap64 (rd l0 9)))) then (if (wrap64 ((wrap64 (x58_2 + 1)) * (wrap64 (rd l0 9)))) ≤ (t604.length : Int) then ((some ((t604.take ((wrap64 ((wrap64 (x58_2 + 1)) * (wrap64 (rd l0 9)))) : Int).toNat).drop ((ji25) : Int).toNat : List Int)).bind fun y614 => (cuvetteref08_From.l1 k2 (wrap64 (rd l0 9)) t604 ([] : List Int) (wrap64 (rd l0 8)) x58_2 y614 (y614.length : Int) 0 (rd t594 0) x613001_2)) else (none)) else (none)) else (none)) = some (r1, r2, r3) := by first | (rw [hji25] at H; exact H) | (simp only [hji25] at H ⊢; exact H)
                        have hji25w : (IntKind.i64.wrap (x58_2 * (wrap64 (rd l0 9)))) = ji25 := (i64_w _).trans hji25
                        by_cases c26 : 0 ≤ (ji25)
                        · rw [if_pos c26] at H
                          have c26b0 := eq_true c26
                          have c26b1 : decide (0 ≤ (ji25)) = true := decide_eq_true c26
                          clear c26
                          by_cases c27 : (ji25) ≤ (wrap64 ((wrap64 (x58_2 + 1)) * (wrap64 (rd l0 9))))
                          · rw [if_pos c27] at H
                            have c27b0 := eq_true c27
                            have c27b1 : decide ((ji25) ≤ (wrap64 ((wrap64 (x58_2 + 1)) * (wrap64 (rd l0 9))))) = true := decide_eq_true c27
                            by_cases c28 : (wrap64 ((wrap64 (x58_2 + 1)) * (wrap64 (rd l0 9)))) ≤ (t604.length : Int)
                            · rw [if_pos c28] at H
                              have c28b0 := eq_true c28
                              have c28b1 : decide ((wrap64 ((wrap64 (x58_2 + 1)) * (wrap64 (rd l0 9)))) ≤ (t604.length : Int)) = true := decide_eq_true c28
                              obtain ⟨y614, hy614⟩ : ∃ y_ : List Int, y_ = ((t604.take ((wrap64 ((wrap64 (x58_2 + 1)) * (wrap64 (rd l0 9)))) : Int).toNat).drop ((ji25) : Int).toNat) := ⟨_, rfl⟩
                              replace H : (cuvetteref08_From.l1 k2 (wrap64 (rd l0 9)) t604 ([] : List Int) (wrap64 (rd l0 8)) x58_2 y614 (y614.length : Int) 0 (rd t594 0) x613001_2) = some (r1, r2, r3) := by first | (rw [hy614]; with_reducible exact H) | (have H2_ := (Option.bind_some _ _).symm.trans H; rw [hy614]; with_reducible exact H2_) | (have H2_ := (Option.bind_some _ _).symm.trans H; with_reducible exact H2_) | with_reducible exact H | (rw [hy614]; exact H) | exact H
                              have Ny614 := Aside0.mk hy614
                              clear hy614
                              have H' := Aside0.mk H
                              clear H
                              obtain ⟨Ao30, co30, eo30⟩ := Kd.R_slice HO_9.out
                              subst eo30
                              have q29 : ((wrap64 ((wrap64 (x58_2 + 1)) * (wrap64 (rd l0 9)))) : Int) ≤ ((t604.length : Int) : Int) := of_decide_eq_true (by first | (with_reducible assumption) | assumption)
                              obtain ⟨i029, hi029, _, hsz29, _⟩ := info_parts info2
                              have hroom29 : t604.length ≤ co30 := (Kd.R_reads' HO_9.out).2.1
                              have hC29 : Kd.C (Kd.int .i64) _ Ao30 t604.length t604 := (Kd.R_reads' HO_9.out).2.2
                              have ql29 : ((ji25) : Int) ≤ ((wrap64 ((wrap64 (x58_2 + 1)) * (wrap64 (rd l0 9)))) : Int) := of_decide_eq_true (by first | (with_reducible assumption) | assumption)
                              have q029 : (0 : Int) ≤ ((ji25) : Int) := of_decide_eq_true (by first | (with_reducible assumption) | assumption)
                              have hcut29 := cut_mid (P := Try.prog) 22 2 .i64 .i64 Try.underlying22 hi029 1 hsz29 Ao30 t604.length co30 (ji25) (wrap64 ((wrap64 (x58_2 + 1)) * (wrap64 (rd l0 9)))) q029 ql29 q29 hroom29
                              have hr29 := Kd.C_mid (lo := ((ji25) : Int).toNat) (hi := ((wrap64 ((wrap64 (x58_2 + 1)) * (wrap64 (rd l0 9)))) : Int).toNat) (c := co30) hC29 (by omega) (by omega) hroom29
                              obtain ⟨A29, hA29⟩ : ∃ A1, A1 = (if co30 = ((ji25) : Int).toNat then Ao30 else (Ao30 : Option Addr).map (·.add (((ji25) : Int).toNat * 1))) := ⟨_, rfl⟩
                              obtain ⟨c29, hc29⟩ : ∃ c1, c1 = co30 - ((ji25) : Int).toNat := ⟨_, rfl⟩
                              have hy29 : y614.length = ((wrap64 ((wrap64 (x58_2 + 1)) * (wrap64 (rd l0 9)))) : Int).toNat - ((ji25) : Int).toNat := (by rw [Ny614.out, List.length_drop, List.length_take] <;> omega)
                              rw [show ((t604).take ((wrap64 ((wrap64 (x58_2 + 1)) * (wrap64 (rd l0 9)))) : Int).toNat).drop ((ji25) : Int).toNat = y614 from Ny614.out.symm] at hr29
                              replace hr29 : Kd.C (Kd.int .i64) _ A29 y614.length y614 := (by rw [hA29]; exact hr29)
                              rw [← hy29, ← hA29, ← hc29] at hcut29
                              have HR617 := Aside0.mk hr29
                              have HC617 := Aside0.mk (show y614.length ≤ c29 from by rw [hy29, hc29]; exact Nat.sub_le_sub_right (Nat.le_trans (by omega) hroom29) _)
                              clear hr29 hC29 hroom29 hi029 hsz29 hc29
                              have KY29 := Aside0.mk hy29
                              have KA29 := Aside0.mk hA29
                              clear hy29 hA29
                              have KL29 := Aside0.mk (show ((wrap64 ((wrap64 (x58_2 + 1)) * (wrap64 (rd l0 9)))) : Int).toNat ≤ t604.length from by omega)
                              have KM29 := Aside0.mk (show ((ji25) : Int).toNat ≤ ((wrap64 ((wrap64 (x58_2 + 1)) * (wrap64 (rd l0 9)))) : Int).toNat from by omega)
                              replace q29 := eq_true q29
                              go_wp2
                              go_loopg [14, 71] k2 (fun kq v14 v71 w' => ∃ (x14_3 : List Int) (x71_3 : Int), v71 = .int .i64 x71_3 ∧ Aside0 (cuvetteref08_From.l1 kq (wrap64 (rd l0 9)) t604 x14_3 (wrap64 (rd l0 8)) x58_2 y614 (y614.length : Int) x71_3 (rd t594 0) x613001_2 = some (r1, r2, r3)) ∧ Aside0 (kq ≤ k2) ∧ Aside0 (Kd.R (Kd.int .i64) 2 w' w.heap.size (fun _ => True) (.slice Ao30 t604.length co30) t604) ∧ Aside0 (Kd.R (Kd.int .i16) 74 w' w.heap.size (fun _ => True) v14 x14_3) ∧ Aside0 (Kd.S (Kd.slice 74 (Kd.int .i16)) 26 w' w.heap.size (fun k_ => some k_ ≠ (v14 : Value).ownBlock) u613001 x613001_2) ∧ Aside0 (w'.heap[gb593]? = some (.cells #[.int .i64 0, (.slice none 0 0)] 49 (0, 0))) ∧ Aside0 (w'.heap[gb612]? = some (.cells #[.int .i64 (rd t594 0), u613001] 49 (0, 0))) ∧ Aside0 (Kd.C (Kd.int .i64) w' A29 y614.length y614) ∧ Aside0 (Below w.heap.size w w'))
                              case atStart => exact ⟨(([] : List Int)), (0), (by first | rfl | (simp; done) | (simp [*]; done)), H', ⟨Nat.le_refl _⟩, ⟨by (with_reducible repeat (first | apply Kd.R_alloc | apply Kd.R_drewN | apply Kd.R_drew)); exact HO_9.out⟩, ⟨by first | exact Kd.R_nil _ _ _ _ _ | exact Kd.N_nil _ _ _ _ _ | exact Kd.V_nil _ _ _ _ _ | exact Kd.Q_nil _ _ _ _ _ | exact Kd.S_nil _ _ _ _ _⟩, ⟨by (with_reducible repeat (first | apply Kd.S_alloc | apply Kd.S_drewN | apply Kd.S_drew)); exact Kd.S_mono HO_613001.out (fun _ hk => (by simp [Value.ownBlock]))⟩, ⟨by (with_reducible repeat (first | refine blk_drewN ?_ _ | refine blk_drew ?_ | refine blk_alloc ?_ _)); exact BK593.out⟩, ⟨by (with_reducible repeat (first | refine blk_drewN ?_ _ | refine blk_drew ?_ | refine blk_alloc ?_ _)); exact BK612.out⟩, ⟨by repeat (first | (with_reducible exact HR617.out) | (with_reducible refine Kd.C_alloc ?_ _) | (with_reducible refine Kd.C_drewN ?_ _) | (with_reducible refine Kd.C_drew ?_) | exact HR617.out)⟩, ⟨by repeat (first | (with_reducible first | exact HB.out | apply below_alloc | apply pw_below_drewN | apply below_drew1 | refine below_set ?_ GE593.out | refine below_set ?_ GE612.out) | exact HB.out)⟩⟩
                              case round =>
                                clear H'
                                try clear c1
                                try clear c2
                                try clear c2b0
                                try clear c2b1
                                try clear p2
                                try clear q2
                                try clear c4
                                try clear c6
                                try clear c6b0
                                try clear c6b1
                                try clear p6
                                try clear q6
                                try clear hx6
                                try clear qi6
                                try clear c7
                                try clear c7b0
                                try clear c7b1
                                try clear c8
                                try clear c8b0
                                try clear c8b1
                                try clear c10
                                try clear c15
                                try clear c15b0
                                try clear c15b1
                                try clear c17
                                try clear c19
                                try clear c19b0
                                try clear c19b1
                                try clear c22
                                try clear c24
                                try clear c24b0
                                try clear c26
                                try clear c26b0
                                try clear c26b1
                                try clear c27
                                try clear c27b0
                                try clear c27b1
                                try clear c28
                                try clear c28b0
                                try clear c28b1
                                try clear c29
                                try clear q29
                                try clear hcz18_0
                                try clear hcz18_1
                                try clear hcz23_0
                                try clear hcz23_1
                                try clear hcz4_0
                                try clear hcz4_1
                                try clear hfz18_0
                                try clear hfz18_1
                                try clear hfz23_0
                                try clear hfz23_1
                                try clear hfz4_0
                                try clear hfz4_1
                                try clear hx601_0
                                try clear hx602_0
                                try clear hx611_0
                                try clear p2
                                try clear p6
                                try clear p601
                                try clear p602
                                try clear p611
                                try clear q029
                                try clear q29
                                try clear q6
                                try clear q601
                                try clear q602
                                try clear q611
                                obtain ⟨x14_3, x71_3, rfl, HA, HK3, HO_9, HO_14, HO_613001, BK593, BK612, HR617, HB⟩ := hrel
                                cases gk with
                                | zero => exact absurd HA.out (by simp [cuvetteref08_From.l1])
                                | succ k3 =>
                                  have H := HA.out
                                  clear HA
                                  simp only [cuvetteref08_From.l1] at H
                                  by_cases c31 : x71_3 < (y614.length : Int)
                                  · rw [if_pos c31] at H
                                    have c31b0 : decide (x71_3 < (y614.length : Int)) = true := decide_eq_true c31
                                    clear c31
                                    by_cases c32 : 0 ≤ x71_3
                                    · rw [if_pos c32] at H
                                      have c32b0 : decide (0 ≤ x71_3) = true := decide_eq_true c32
                                      clear c32
                                      by_cases c33 : x71_3 < (y614.length : Int)
                                      · rw [if_pos c33] at H
                                        have c33b0 : decide (x71_3 < (y614.length : Int)) = true := decide_eq_true c33
                                        clear c33
                                        by_cases c34 : x14_3.length < 70368744177664
                                        · rw [if_pos c34] at H
                                          have LMc34 := Aside0.mk c34
                                          clear c34
                                          obtain ⟨y619, hy619⟩ : ∃ y_ : List Int, y_ = (x14_3 ++ [IntKind.i16.wrap (rd y614 x71_3)]) := ⟨_, rfl⟩
                                          replace H : (cuvetteref08_From.l1 k3 (wrap64 (rd l0 9)) t604 y619 (wrap64 (rd l0 8)) x58_2 y614 (y614.length : Int) (wrap64 (x71_3 + 1)) (rd t594 0) x613001_2) = some (r1, r2, r3) := by first | (rw [hy619]; with_reducible exact H) | (have H2_ := (Option.bind_some _ _).symm.trans H; rw [hy619]; with_reducible exact H2_) | (have H2_ := (Option.bind_some _ _).symm.trans H; with_reducible exact H2_) | with_reducible exact H | (rw [hy619]; exact H) | exact H
                                          have Ny619 := Aside0.mk hy619
                                          clear hy619
                                          have H' := Aside0.mk H
                                          clear H
                                          have p618 : 0 ≤ (x71_3 : Int) := of_decide_eq_true (by first | (with_reducible assumption) | assumption)
                                          have q618 : x71_3 < (y614.length : Int) := of_decide_eq_true (by first | (with_reducible assumption) | assumption)
                                          obtain ⟨ad618, e618, hx618_0⟩ := Kd.at_int HR617.out x71_3 p618 q618
                                          cases e618
                                          (try replace hx618_0 := (HB.out.cell (World.block_lt_of_cell? w _ hx618_0)).trans hx618_0)
                                          replace p618 := eq_true p618
                                          replace q618 := eq_true q618
                                          go_wp2_with (first | ((with_reducible refine gate_builtin (b := .append) (xs := #[.tmp 75, .tmp 78]) rfl ?_); (try (refine gate_guard (by rfl) ?_; dsimp only)); at_builtin; refine Kd.R_append (Kd.int .i16) (w0 := w) w.heap.size rfl (.tmp 75) (.tmp 78) 26 74 (.int .i16 0) 2 rfl Try.underlying26 info74 rfl (by decide) (by omega) u14 x14_3 (IntKind.i16.wrap (rd y614 x71_3)) [.int .i16 (IntKind.i16.wrap (rd y614 x71_3))] (fun _ => True) (fun _ => False) rfl rfl ?aP (fun _ hk => hk.elim) ?aF ?aO ?aB ?aS ?aL ?_; (case aP => exact rfl); (case aB => exact (by repeat (first | (with_reducible first | exact HB.out | apply below_alloc | apply pw_below_drewN | apply below_drew1 | refine below_set ?_ GE593.out | refine below_set ?_ GE612.out) | exact HB.out))); (case aF => exact (fun _ _ => trivial)); (case aO => exact (by (with_reducible repeat (first | apply Kd.R_alloc | apply Kd.R_drewN | apply Kd.R_drew)); exact HO_14.out)); (case aS => exact (below_size (by repeat (first | (with_reducible first | exact HB.out | apply below_alloc | apply pw_below_drewN | apply below_drew1 | refine below_set ?_ GE593.out | refine below_set ?_ GE612.out) | exact HB.out)))); (case aL => have := LMc34.out; omega); intro v620 w35 ho hb hg hat; rw [← Ny619.out] at ho; have n0_ := Aside0.mk (Kd.R_over' (by (with_reducible repeat (first | apply Kd.R_alloc | apply Kd.R_drewN | apply Kd.R_drew)); exact HO_9.out) (Kd.R_typed (by (with_reducible repeat (first | apply Kd.R_alloc | apply Kd.R_drewN | apply Kd.R_drew)); exact HO_14.out)) (by decide) hg); have n1_ := Aside0.mk (Kd.S_after (ok := (fun _ => True)) (by (with_reducible repeat (first | apply Kd.S_alloc | apply Kd.S_drewN | apply Kd.S_drew)); exact Kd.S_mono HO_613001.out (fun _ hk => ⟨trivial, hk⟩)) hg hat); have n2_ := Aside0.mk (blk_grown (g := gb593) (o := .cells #[.int .i64 0, .slice none 0 0] 49 (0, 0)) (by (with_reducible repeat (first | refine blk_drewN ?_ _ | refine blk_drew ?_ | refine blk_alloc ?_ _)); exact BK593.out) hg (Kd.R_ne HO_14.out BK593.out (by decide))); have n3_ := Aside0.mk (blk_grown (g := gb612) (o := .cells #[.int .i64 (rd t594 0), u613001] 49 (0, 0)) (by (with_reducible repeat (first | refine blk_drewN ?_ _ | refine blk_drew ?_ | refine blk_alloc ?_ _)); exact BK612.out) hg (Kd.R_ne HO_14.out BK612.out (by decide))); have n4_ := Aside0.mk (hb); have n5_ := Aside0.mk ((show Kd.C (Kd.int .i64) w35 (some ad618) y614.length y614 from by rw [Ny614.out, KA29.out]; exact Kd.C_mid (lo := ((ji25) : Int).toNat) (hi := ((wrap64 ((wrap64 (x58_2 + 1)) * (wrap64 (rd l0 9)))) : Int).toNat) (c := co30) ((Kd.R_reads' (Kd.R_over' (by (with_reducible repeat (first | apply Kd.R_alloc | apply Kd.R_drewN | apply Kd.R_drew)); exact HO_9.out) (Kd.R_typed (by (with_reducible repeat (first | apply Kd.R_alloc | apply Kd.R_drewN | apply Kd.R_drew)); exact HO_14.out)) (by decide) hg)).2.2) KM29.out KL29.out ((Kd.R_reads' (Kd.R_over' (by (with_reducible repeat (first | apply Kd.R_alloc | apply Kd.R_drewN | apply Kd.R_drew)); exact HO_9.out) (Kd.R_typed (by (with_reducible repeat (first | apply Kd.R_alloc | apply Kd.R_drewN | apply Kd.R_drew)); exact HO_14.out)) (by decide) hg)).2.1))); have n6_ := Aside0.mk (ho); clear HO_9; clear HO_613001; clear BK593; clear BK612; clear HB; clear HR617; clear HO_14; have HO_9 := n0_; have HO_613001 := n1_; have BK593 := n2_; have BK612 := n3_; have HB := n4_; have HR617 := n5_; have HO621 := n6_; clear n0_ n1_ n2_ n3_ n4_ n5_ n6_; clear ho hb hg hat))
                                          first | go_roundg k3 | (simp only [← hji25]; go_roundg k3)
                                          case measure => have := HJ9.out; have := HK2.out; have := HK3.out; omega
                                          case rel => exact ⟨(y619), (wrap64 (x71_3 + 1)), (by first | rfl | (simp; done) | (simp [*]; done)), (by first | exact H' | (rw [hji25]; exact H')), ⟨by have := HJ9.out; have := HK2.out; have := HK3.out; omega⟩, ⟨by (with_reducible repeat (first | apply Kd.R_alloc | apply Kd.R_drewN | apply Kd.R_drew)); exact HO_9.out⟩, ⟨by (with_reducible repeat (first | apply Kd.R_alloc | apply Kd.R_drewN | apply Kd.R_drew)); exact HO621.out⟩, ⟨by (with_reducible repeat (first | apply Kd.S_alloc | apply Kd.S_drewN | apply Kd.S_drew)); exact Kd.S_mono HO_613001.out (fun _ hk => hk.2)⟩, ⟨by (with_reducible repeat (first | refine blk_drewN ?_ _ | refine blk_drew ?_ | refine blk_alloc ?_ _)); exact BK593.out⟩, ⟨by (with_reducible repeat (first | refine blk_drewN ?_ _ | refine blk_drew ?_ | refine blk_alloc ?_ _)); exact BK612.out⟩, ⟨by repeat (first | (with_reducible exact HR617.out) | (with_reducible refine Kd.C_alloc ?_ _) | (with_reducible refine Kd.C_drewN ?_ _) | (with_reducible refine Kd.C_drew ?_) | exact HR617.out)⟩, ⟨by repeat (first | (with_reducible first | exact HB.out | apply below_alloc | apply pw_below_drewN | apply below_drew1 | refine below_set ?_ GE593.out | refine below_set ?_ GE612.out) | exact HB.out)⟩⟩
                                        · rw [if_neg c34] at H
                                          exact absurd H (by simp)
                                      · rw [if_neg c33] at H
                                        exact absurd H (by simp)
                                    · rw [if_neg c32] at H
                                      exact absurd H (by simp)
                                  · rw [if_neg c31] at H
                                    have c31b0 : decide (x71_3 < (y614.length : Int)) = false := decide_eq_false c31
                                    clear c31
                                    by_cases c36 : x613001_2.length < 5864062014805
                                    · rw [if_pos c36] at H
                                      have LMc36 := Aside0.mk c36
                                      clear c36
                                      obtain ⟨y622, hy622⟩ : ∃ y_ : List (List Int), y_ = (x613001_2 ++ [x14_3]) := ⟨_, rfl⟩
                                      replace H : (cuvetteref08_From.l0 k3 (wrap64 (rd l0 9)) t604 (wrap64 (rd l0 8)) (wrap64 (x58_2 + 1)) (rd t594 0) y622) = some (r1, r2, r3) := by first | (rw [hy622]; with_reducible exact H) | (have H2_ := (Option.bind_some _ _).symm.trans H; rw [hy622]; with_reducible exact H2_) | (have H2_ := (Option.bind_some _ _).symm.trans H; with_reducible exact H2_) | with_reducible exact H | (rw [hy622]; exact H) | exact H
                                      have Ny622 := Aside0.mk hy622
                                      clear hy622
                                      have H' := Aside0.mk H
                                      clear H
                                      have hnb37 := NB612_593.out
                                      have hnc37 := NB593_612.out
                                      have hcz38_0 : wr.cell? ⟨gb612, 0, none⟩ = some (.int .i64 (rd t594 0)) := (blk_cell BK612.out 0).trans rfl
                                      have hcz38_1 : wr.cell? ⟨gb612, 1, none⟩ = some (u613001) := (blk_cell BK612.out 1).trans rfl
                                      have hfz38_0 := blk_frozen BK612.out 0
                                      have hfz38_1 := blk_frozen BK612.out 1
                                      obtain ⟨Ao40, co40, eo40⟩ := Kd.R_slice HO_14.out
                                      subst eo40
                                      go_wp2_with (first | ((with_reducible refine gate_builtin (b := .append) (xs := #[.tmp 82, .tmp 84]) rfl ?_); (try (refine gate_guard (by rfl) ?_; dsimp only)); at_builtin; refine Kd.S_append (Kd.slice 74 (Kd.int .i16)) (w0 := w) w.heap.size rfl (.tmp 82) (.tmp 84) 47 26 (.slice none 0 0) 24 rfl Try.underlying47 info26 rfl (by decide) (by omega) u613001 x613001_2 x14_3 [.slice Ao40 x14_3.length co40] (fun _ => True) (fun k_ => some k_ = (.slice Ao40 x14_3.length co40 : Value).ownBlock) rfl rfl ?aP (fun k_ hk_ => ((Kd.R_mono (ok' := fun k_ => ((fun _ => True)) k_ ∧ some k_ ≠ (u613001 : Value).ownBlock) (Kd.R_apart' (HO_14.out) (Kd.S_typed HO_613001.out) (by decide)) (fun k_ hk => ⟨trivial, hk.2⟩))).1 k_ hk_.symm) ?aF ?aO ?aB ?aS ?aL ?_; (case aP => exact Kd.M_row (Kd.R_mono (Kd.R_tight rfl (Kd.R_mono (ok' := fun k_ => ((fun _ => True)) k_ ∧ some k_ ≠ (u613001 : Value).ownBlock) (Kd.R_apart' (HO_14.out) (Kd.S_typed HO_613001.out) (by decide)) (fun k_ hk => ⟨trivial, hk.2⟩))) (fun _ h_ => h_))); (case aB => exact (by repeat (first | (with_reducible first | exact HB.out | apply below_alloc | apply pw_below_drewN | apply below_drew1 | refine below_set ?_ GE593.out | refine below_set ?_ GE612.out) | exact HB.out))); (case aF => exact (fun _ _ => trivial)); (case aO => exact (by (with_reducible repeat (first | apply Kd.S_alloc | apply Kd.S_drewN | apply Kd.S_drew)); exact Kd.S_mono HO_613001.out (fun k_ hk => ⟨trivial, fun e_ => hk e_⟩))); (case aS => exact (below_size (by repeat (first | (with_reducible first | exact HB.out | apply below_alloc | apply pw_below_drewN | apply below_drew1 | refine below_set ?_ GE593.out | refine below_set ?_ GE612.out) | exact HB.out)))); (case aL => have := LMc36.out; omega); intro v623 w39 ho hb hg hat; rw [← Ny622.out] at ho; have n0_ := Aside0.mk (Kd.R_over' (by (with_reducible repeat (first | apply Kd.R_alloc | apply Kd.R_drewN | apply Kd.R_drew)); exact HO_9.out) (Kd.S_typed (by (with_reducible repeat (first | apply Kd.S_alloc | apply Kd.S_drewN | apply Kd.S_drew)); exact HO_613001.out)) (by decide) hg); have n1_ := Aside0.mk (blk_grown (g := gb593) (o := .cells #[.int .i64 0, .slice none 0 0] 49 (0, 0)) (by (with_reducible repeat (first | refine blk_drewN ?_ _ | refine blk_drew ?_ | refine blk_alloc ?_ _)); exact BK593.out) hg (Kd.S_ne HO_613001.out BK593.out (by decide))); have n2_ := Aside0.mk (blk_grown (g := gb612) (o := .cells #[.int .i64 (rd t594 0), u613001] 49 (0, 0)) (by (with_reducible repeat (first | refine blk_drewN ?_ _ | refine blk_drew ?_ | refine blk_alloc ?_ _)); exact BK612.out) hg (Kd.S_ne HO_613001.out BK612.out (by decide))); have n3_ := Aside0.mk (hb); have n4_ := Aside0.mk ((show Kd.C (Kd.int .i64) w39 A29 y614.length y614 from by rw [Ny614.out, KA29.out]; exact Kd.C_mid (lo := ((ji25) : Int).toNat) (hi := ((wrap64 ((wrap64 (x58_2 + 1)) * (wrap64 (rd l0 9)))) : Int).toNat) (c := co30) ((Kd.R_reads' (Kd.R_over' (by (with_reducible repeat (first | apply Kd.R_alloc | apply Kd.R_drewN | apply Kd.R_drew)); exact HO_9.out) (Kd.S_typed (by (with_reducible repeat (first | apply Kd.S_alloc | apply Kd.S_drewN | apply Kd.S_drew)); exact HO_613001.out)) (by decide) hg)).2.2) KM29.out KL29.out ((Kd.R_reads' (Kd.R_over' (by (with_reducible repeat (first | apply Kd.R_alloc | apply Kd.R_drewN | apply Kd.R_drew)); exact HO_9.out) (Kd.S_typed (by (with_reducible repeat (first | apply Kd.S_alloc | apply Kd.S_drewN | apply Kd.S_drew)); exact HO_613001.out)) (by decide) hg)).2.1))); have n5_ := Aside0.mk (ho); clear HO_9; clear BK593; clear BK612; clear HB; clear HR617; clear HO_613001; clear HO_14; have HO_9 := n0_; have BK593 := n1_; have BK612 := n2_; have HB := n3_; have HR617 := n4_; have HO624 := n5_; clear n0_ n1_ n2_ n3_ n4_ n5_; clear ho hb hg hat; obtain ⟨Ao41, co41, eo41⟩ := Kd.S_slice HO624.out; subst eo41; have hcz42_0 : w39.cell? ⟨gb612, 0, none⟩ = some (.int .i64 (rd t594 0)) := (blk_cell BK612.out 0).trans rfl; have hcz42_1 : w39.cell? ⟨gb612, 1, none⟩ = some (u613001) := (blk_cell BK612.out 1).trans rfl; have hfz42_0 := blk_frozen BK612.out 0; have hfz42_1 := blk_frozen BK612.out 1))
                                      first | go_roundg k3 | (simp only [← hji25]; go_roundg k3)
                                      case measure => have := HJ9.out; have := HK2.out; have := HK3.out; omega
                                      case rel => exact ⟨(wrap64 (x58_2 + 1)), (y622), (.slice Ao41 y622.length co41), (by first | rfl | (simp; done) | (simp [*]; done)), (by first | exact H' | (rw [hji25]; exact H')), ⟨by have := HJ9.out; have := HK2.out; have := HK3.out; omega⟩, ⟨by (with_reducible repeat (first | apply Kd.R_alloc | apply Kd.R_drewN | apply Kd.R_drew)); exact Kd.R_mono (Kd.R_far (p := ⟨gb612, 1, none⟩) (Kd.R_types HO_9.out BK612.out (by decide)) (fun _ hk => hk.2) (.slice Ao41 y622.length co41)) (fun _ hk => trivial)⟩, ⟨by (with_reducible repeat (first | apply Kd.S_alloc | apply Kd.S_drewN | apply Kd.S_drew)); exact Kd.S_mono (Kd.S_far (p := ⟨gb612, 1, none⟩) (Kd.S_types HO624.out BK612.out (by decide)) (fun _ hk => hk.2) (.slice Ao41 y622.length co41)) (fun _ hk => trivial)⟩, ⟨by (with_reducible repeat (first | refine blk_drewN ?_ _ | refine blk_drew ?_ | refine blk_alloc ?_ _)); refine blk_far ?_ NB593_612.out _; (with_reducible repeat (first | refine blk_drewN ?_ _ | refine blk_drew ?_ | refine blk_alloc ?_ _)); exact BK593.out⟩, ⟨by (with_reducible repeat (first | refine blk_drewN ?_ _ | refine blk_drew ?_ | refine blk_alloc ?_ _)); refine blk_put (cs := #[.int .i64 (rd t594 0), u613001]) ?_ 1 _ rfl; (with_reducible repeat (first | refine blk_drewN ?_ _ | refine blk_drew ?_ | refine blk_alloc ?_ _)); exact BK612.out⟩, ⟨by repeat (first | (with_reducible first | exact HB.out | apply below_alloc | apply pw_below_drewN | apply below_drew1 | refine below_set ?_ GE593.out | refine below_set ?_ GE612.out) | exact HB.out)⟩⟩
                                    · rw [if_neg c36] at H
                                      exact absurd H (by simp)
                            · rw [if_neg c28] at H
                              exact absurd H (by simp)
                          · rw [if_neg c27] at H
                            exact absurd H (by simp)
                        · rw [if_neg c26] at H
                          exact absurd H (by simp)
                      · rw [if_neg c24] at H
                        have c24b0 : decide (x58_2 < (wrap64 (rd l0 8))) = false := decide_eq_false c24
                        clear c24
                        replace H := Option.bind_eq_some_iff.mp H
                        obtain ⟨t613, A430, H⟩ := H
                        replace H : (if t613 = 0 then (some ((rd t594 0), x613001_2, 0)) else (some (0, ([] : List (List Int)), 2))) = some (r1, r2, r3) := H
                        have A43 := Aside0.mk A430
                        clear A430
                        by_cases c44 : t613 = 0
                        · rw [if_pos c44] at H
                          have c44b0 : (t613 == 0) = true := beq_iff_eq.mpr c44
                          have c44b1 : (t613 != 0) = false := bne_eq_false_iff_eq.mpr c44
                          clear c44
                          simp only [Option.some.injEq, Prod.mk.injEq] at H
                          obtain ⟨rfl, rfl, rfl⟩ := H
                          have hnb45 := NB612_593.out
                          have hnc45 := NB593_612.out
                          have hcz46_0 : wr.cell? ⟨gb612, 0, none⟩ = some (.int .i64 (rd t594 0)) := (blk_cell BK612.out 0).trans rfl
                          have hcz46_1 : wr.cell? ⟨gb612, 1, none⟩ = some (u613001) := (blk_cell BK612.out 1).trans rfl
                          have hfz46_0 := blk_frozen BK612.out 0
                          have hfz46_1 := blk_frozen BK612.out 1
                          obtain ⟨Ao47, co47, eo47⟩ := Kd.S_slice HO_613001.out
                          subst eo47
                          go_wp2_with (first | ((with_reducible refine gate_callee (f := 103) rfl ?_); refine goesL_ (some 89) rfl rfl Try.func103 (by kernel_rfl) rfl #[.agg #[.int .i64 (rd t594 0), .slice Ao47 x613001_2.length co47]] rfl (by (try simp only [List.map_toArray, List.map_cons, List.map_nil]); first | done | rfl | (simp only [List.length_drop, List.length_take]; rfl)) ?_; (with_reducible refine (cuvetteref07_Check.calls k2 (rd t594 0) _ _ x613001_2 t613 _ ?side1 ?side2 A43.out).mono ?_); (case side1 => repeat (first | exact (Kd.S_reads' HO_613001.out).2.2 | (with_reducible refine Kd.C_alloc ?_ _) | (with_reducible refine Kd.C_drewN ?_ _) | (with_reducible refine Kd.C_drew ?_))); (case side2 => exact (Kd.S_reads' HO_613001.out).2.1); rintro e w48 ⟨rfl, hb⟩; refine ⟨_, rfl, ?_⟩; have n0_ := Aside0.mk (Kd.R_below (by (with_reducible repeat (first | apply Kd.R_alloc | apply Kd.R_drewN | apply Kd.R_drew)); exact HO_9.out) hb); have n1_ := Aside0.mk (Kd.S_below (by (with_reducible repeat (first | apply Kd.S_alloc | apply Kd.S_drewN | apply Kd.S_drew)); exact HO_613001.out) hb); have n2_ := Aside0.mk (blk_below (g := gb593) (o := .cells #[.int .i64 0, .slice none 0 0] 49 (0, 0)) (by (with_reducible repeat (first | refine blk_drewN ?_ _ | refine blk_drew ?_ | refine blk_alloc ?_ _)); exact BK593.out) hb); have n3_ := Aside0.mk (blk_below (g := gb612) (o := .cells #[.int .i64 (rd t594 0), .slice Ao47 x613001_2.length co47] 49 (0, 0)) (by (with_reducible repeat (first | refine blk_drewN ?_ _ | refine blk_drew ?_ | refine blk_alloc ?_ _)); exact BK612.out) hb); have n4_ := Aside0.mk (below_step (by repeat (first | (with_reducible first | exact HB.out | apply below_alloc | apply pw_below_drewN | apply below_drew1 | refine below_set ?_ GE593.out | refine below_set ?_ GE612.out) | exact HB.out)) hb); clear HO_9; clear HO_613001; clear BK593; clear BK612; clear HB; have HO_9 := n0_; have HO_613001 := n1_; have BK593 := n2_; have BK612 := n3_; have HB := n4_; clear n0_ n1_ n2_ n3_ n4_; (try clear hb); (try clear hb2); (try clear hk); (try clear hi); have hcz49_0 : w48.cell? ⟨gb612, 0, none⟩ = some (.int .i64 (rd t594 0)) := (blk_cell BK612.out 0).trans rfl; have hcz49_1 : w48.cell? ⟨gb612, 1, none⟩ = some (.slice Ao47 x613001_2.length co47) := (blk_cell BK612.out 1).trans rfl; have hfz49_0 := blk_frozen BK612.out 0; have hfz49_1 := blk_frozen BK612.out 1; have hcz50_0 : w48.cell? ⟨gb593, 0, none⟩ = some (.int .i64 0) := (blk_cell BK593.out 0).trans rfl; have hcz50_1 : w48.cell? ⟨gb593, 1, none⟩ = some (.slice none 0 0) := (blk_cell BK593.out 1).trans rfl; have hfz50_0 := blk_frozen BK593.out 0; have hfz50_1 := blk_frozen BK593.out 1))
                          refine bodyPost_ret (results_ct rfl _ _ gb593 49 #[.int .i64 (rd t594 0), .slice Ao47 x613001_2.length co47] (0, 0) _ rfl (by (with_reducible repeat (first | refine blk_drewN ?_ _ | refine blk_drew ?_ | refine blk_alloc ?_ _)); refine blk_put (cs := #[.int .i64 (rd t594 0), .slice none 0 0]) ?_ 1 _ rfl; (with_reducible repeat (first | refine blk_drewN ?_ _ | refine blk_drew ?_ | refine blk_alloc ?_ _)); refine blk_put (cs := #[.int .i64 0, .slice none 0 0]) ?_ 0 _ rfl; (with_reducible repeat (first | refine blk_drewN ?_ _ | refine blk_drew ?_ | refine blk_alloc ?_ _)); exact BK593.out) Try.underlying49 rfl (by kernel_rfl)) rfl ?_
                          exact ⟨_, by first | rfl | (simp [errW_none, errW_some] <;> rfl) | (simp [*, errW_none, errW_some] <;> rfl), by (with_reducible repeat (first | apply Kd.S_alloc | apply Kd.S_drewN | apply Kd.S_drew)); exact Kd.S_mono (Kd.S_far (p := ⟨gb593, 1, none⟩) (Kd.S_far (p := ⟨gb593, 0, none⟩) (Kd.S_types HO_613001.out BK593.out (by decide)) (fun _ hk => hk.2) (.int .i64 (rd t594 0))) (fun _ hk => hk.2) (.slice Ao47 x613001_2.length co47)) (fun _ hk => trivial), by repeat (first | (with_reducible first | exact HB.out | apply below_alloc | apply pw_below_drewN | apply below_drew1 | refine below_set ?_ GE593.out | refine below_set ?_ GE612.out) | exact HB.out)⟩
                        · rw [if_neg c44] at H
                          have c44b0 : (t613 == 0) = false := beq_eq_false_iff_ne.mpr c44
                          have c44b1 : (t613 != 0) = true := bne_iff_ne.mpr c44
                          simp only [Option.some.injEq, Prod.mk.injEq] at H
                          obtain ⟨rfl, rfl, rfl⟩ := H
                          have hnb51 := NB612_593.out
                          have hnc51 := NB593_612.out
                          have hcz52_0 : wr.cell? ⟨gb612, 0, none⟩ = some (.int .i64 (rd t594 0)) := (blk_cell BK612.out 0).trans rfl
                          have hcz52_1 : wr.cell? ⟨gb612, 1, none⟩ = some (u613001) := (blk_cell BK612.out 1).trans rfl
                          have hfz52_0 := blk_frozen BK612.out 0
                          have hfz52_1 := blk_frozen BK612.out 1
                          obtain ⟨Ao53, co53, eo53⟩ := Kd.S_slice HO_613001.out
                          subst eo53
                          go_wp2_with (first | ((with_reducible refine gate_callee (f := 103) rfl ?_); refine goesL_ (some 89) rfl rfl Try.func103 (by kernel_rfl) rfl #[.agg #[.int .i64 (rd t594 0), .slice Ao53 x613001_2.length co53]] rfl (by (try simp only [List.map_toArray, List.map_cons, List.map_nil]); first | done | rfl | (simp only [List.length_drop, List.length_take]; rfl)) ?_; (with_reducible refine (cuvetteref07_Check.calls k2 (rd t594 0) _ _ x613001_2 t613 _ ?side1 ?side2 A43.out).mono ?_); (case side1 => repeat (first | exact (Kd.S_reads' HO_613001.out).2.2 | (with_reducible refine Kd.C_alloc ?_ _) | (with_reducible refine Kd.C_drewN ?_ _) | (with_reducible refine Kd.C_drew ?_))); (case side2 => exact (Kd.S_reads' HO_613001.out).2.1); rintro e w54 ⟨rfl, hb⟩; refine ⟨_, rfl, ?_⟩; have n0_ := Aside0.mk (Kd.R_below (by (with_reducible repeat (first | apply Kd.R_alloc | apply Kd.R_drewN | apply Kd.R_drew)); exact HO_9.out) hb); have n1_ := Aside0.mk (Kd.S_below (by (with_reducible repeat (first | apply Kd.S_alloc | apply Kd.S_drewN | apply Kd.S_drew)); exact HO_613001.out) hb); have n2_ := Aside0.mk (blk_below (g := gb593) (o := .cells #[.int .i64 0, .slice none 0 0] 49 (0, 0)) (by (with_reducible repeat (first | refine blk_drewN ?_ _ | refine blk_drew ?_ | refine blk_alloc ?_ _)); exact BK593.out) hb); have n3_ := Aside0.mk (blk_below (g := gb612) (o := .cells #[.int .i64 (rd t594 0), .slice Ao53 x613001_2.length co53] 49 (0, 0)) (by (with_reducible repeat (first | refine blk_drewN ?_ _ | refine blk_drew ?_ | refine blk_alloc ?_ _)); exact BK612.out) hb); have n4_ := Aside0.mk (below_step (by repeat (first | (with_reducible first | exact HB.out | apply below_alloc | apply pw_below_drewN | apply below_drew1 | refine below_set ?_ GE593.out | refine below_set ?_ GE612.out) | exact HB.out)) hb); clear HO_9; clear HO_613001; clear BK593; clear BK612; clear HB; have HO_9 := n0_; have HO_613001 := n1_; have BK593 := n2_; have BK612 := n3_; have HB := n4_; clear n0_ n1_ n2_ n3_ n4_; (try clear hb); (try clear hb2); (try clear hk); (try clear hi); have hcz55_0 : w54.cell? ⟨gb593, 0, none⟩ = some (.int .i64 0) := (blk_cell BK593.out 0).trans rfl; have hcz55_1 : w54.cell? ⟨gb593, 1, none⟩ = some (.slice none 0 0) := (blk_cell BK593.out 1).trans rfl; have hfz55_0 := blk_frozen BK593.out 0; have hfz55_1 := blk_frozen BK593.out 1))
                          refine bodyPost_ret (results_ct rfl _ _ gb593 49 #[.int .i64 0, .slice none 0 0] (0, 0) _ rfl (by (with_reducible repeat (first | refine blk_drewN ?_ _ | refine blk_drew ?_ | refine blk_alloc ?_ _)); refine blk_put (cs := #[.int .i64 0, .slice none 0 0]) ?_ 1 _ rfl; (with_reducible repeat (first | refine blk_drewN ?_ _ | refine blk_drew ?_ | refine blk_alloc ?_ _)); refine blk_put (cs := #[.int .i64 0, .slice none 0 0]) ?_ 0 _ rfl; (with_reducible repeat (first | refine blk_drewN ?_ _ | refine blk_drew ?_ | refine blk_alloc ?_ _)); exact BK593.out) Try.underlying49 rfl (by kernel_rfl)) rfl ?_
                          exact ⟨_, by first | rfl | (simp [errW_none, errW_some] <;> rfl) | (simp [*, errW_none, errW_some] <;> rfl), by first | exact Kd.S_nil _ _ _ _ _ | exact Kd.N_nil _ _ _ _ _ | exact Kd.V_nil _ _ _ _ _ | exact Kd.Q_nil _ _ _ _ _ | exact Kd.R_nil _ _ _ _ _, by repeat (first | (with_reducible first | exact HB.out | apply below_alloc | apply pw_below_drewN | apply below_drew1 | refine below_set ?_ GE593.out | refine below_set ?_ GE612.out) | exact HB.out)⟩
                · rw [if_neg c19] at H
                  exact absurd H (by simp)
        · rw [if_neg c8] at H
          exact absurd H (by simp)
      · rw [if_neg c7] at H
        exact absurd H (by simp)
    · rw [if_neg c6] at H
      exact absurd H (by simp)

end Go.Proofs.Ytkjibgfgbfacdaa.P
end
/-! part: F108 -/
section
set_option linter.unusedVariables false
set_option linter.unusedSimpArgs false
namespace Go.Proofs.Ytkjibgfgbfacdaa.P
open Go.RowKit Go.Proofs.YtkjibgfgbfacdaaW.PrintWords Go.Proofs.YtkjibgfgbfacdaaW.PrintLast Go.Proofs.YtkjibgfgbfacdaaW.PrintMore
attribute [local go_sem] max2_int min2_int max_two min_two max_three min_three max_four min_four   -- for this text's walks alone
set_option linter.unusedVariables false
set_option linter.unusedSimpArgs false

/-! ### cuvetteref08_sizes: function 108 -/
def cuvetteref08_sizes.f (a0 : Int) (a1 : Int) : Option (Bool) := if a0 ≥ 1 then (if a0 ≤ 64 then (if a1 ≥ 1 then (some (decide (a1 ≤ 16))) else (some false)) else (some false)) else (some false)
set_option maxHeartbeats 8000000 in
set_option maxRecDepth 100000 in
theorem cuvetteref08_sizes.calls (a0 : Int) (a1 : Int) (r : Bool) (w : World) (h : cuvetteref08_sizes.f a0 a1 = some r) :
    Calls Try.prog 108 #[.int .i64 a0, .int .i64 a1] w fun e w' => e = .returned (.bool r) ∧ Drawn0 w w' := by
  have H : (if a0 ≥ 1 then (if a0 ≤ 64 then (if a1 ≥ 1 then (some (decide (a1 ≤ 16))) else (some false)) else (some false)) else (some false)) = some r := h
  clear h
  by_cases c3 : a0 ≥ 1
  · rw [if_pos c3] at H
    have c3b0 : decide (1 ≤ a0) = true := decide_eq_true c3
    clear c3
    by_cases c4 : a0 ≤ 64
    · rw [if_pos c4] at H
      have c4b0 : decide (a0 ≤ 64) = true := decide_eq_true c4
      clear c4
      by_cases c5 : a1 ≥ 1
      · rw [if_pos c5] at H
        have c5b0 : decide (1 ≤ a1) = true := decide_eq_true c5
        clear c5
        obtain rfl := Option.some.inj H
        go_enter Try.func108, Try.ntmps108
        go_wp2
        go_ret
        exact ⟨by first | rfl | (simp; done) | (simp [*]; done), by repeat (first | exact Drawn0.refl _ | apply Drawn0.step)⟩
      · rw [if_neg c5] at H
        have c5b0 : decide (1 ≤ a1) = false := decide_eq_false c5
        clear c5
        obtain rfl := Option.some.inj H
        go_enter Try.func108, Try.ntmps108
        go_wp2
        go_ret
        exact ⟨by first | rfl | (simp; done) | (simp [*]; done), by repeat (first | exact Drawn0.refl _ | apply Drawn0.step)⟩
    · rw [if_neg c4] at H
      have c4b0 : decide (a0 ≤ 64) = false := decide_eq_false c4
      clear c4
      obtain rfl := Option.some.inj H
      go_enter Try.func108, Try.ntmps108
      go_wp2
      go_ret
      exact ⟨by first | rfl | (simp; done) | (simp [*]; done), by repeat (first | exact Drawn0.refl _ | apply Drawn0.step)⟩
  · rw [if_neg c3] at H
    have c3b0 : decide (1 ≤ a0) = false := decide_eq_false c3
    clear c3
    obtain rfl := Option.some.inj H
    go_enter Try.func108, Try.ntmps108
    go_wp2
    go_ret
    exact ⟨by first | rfl | (simp; done) | (simp [*]; done), by repeat (first | exact Drawn0.refl _ | apply Drawn0.step)⟩

end Go.Proofs.Ytkjibgfgbfacdaa.P
end
/-! part: F42 -/
section
set_option linter.unusedVariables false
set_option linter.unusedSimpArgs false
namespace Go.Proofs.Ytkjibgfgbfacdaa.P
open Go.RowKit Go.Proofs.YtkjibgfgbfacdaaW.PrintWords Go.Proofs.YtkjibgfgbfacdaaW.PrintLast Go.Proofs.YtkjibgfgbfacdaaW.PrintMore
attribute [local go_sem] max2_int min2_int max_two min_two max_three min_three max_four min_four   -- for this text's walks alone
set_option linter.unusedVariables false
set_option linter.unusedSimpArgs false

/-! ### cuvetteref08_Plain: function 42 -/
mutual
def cuvetteref08_Plain.l0 : Nat → Int → Int → Int → Int → List (List Int) → Option (Int × (List (List Int)) × Int)
  | 0, _, _, _, _, _ => none
  | k + 1, x1, x15, x16, x628000, x628001 => if x16 < x15 then (cuvetteref08_Plain.l1 k x1 ([] : List Int) 1 x15 x16 x628000 x628001) else (some (x628000, x628001, 0))
def cuvetteref08_Plain.l1 : Nat → Int → List Int → Int → Int → Int → Int → List (List Int) → Option (Int × (List (List Int)) × Int)
  | 0, _, _, _, _, _, _, _ => none
  | k + 1, x1, x7, x8, x15, x16, x628000, x628001 => if x8 < x1 then (if x1 = 0 then (none) else (if x7.length < 70368744177664 then (cuvetteref08_Plain.l1 k x1 (x7 ++ [IntKind.i16.wrap (wrap64 ((wrap64 (Int.tdiv (wrap64 (65536 * x8)) x1)) - 32768))]) (wrap64 (x8 + 1)) x15 x16 x628000 x628001) else (none))) else (if x628001.length < 5864062014805 then (cuvetteref08_Plain.l0 k x1 x15 (wrap64 (x16 + 1)) x628000 (x628001 ++ [x7])) else (none))
end
def cuvetteref08_Plain.f (k : Nat) (a0 : Int) (a1 : Int) : Option (Int × (List (List Int)) × Int) := (cuvetteref08_sizes.f a0 a1).bind fun t626 => (if t626 = true then (cuvetteref08_Plain.l0 k a1 a0 0 0 ([] : List (List Int))) else (some (0, ([] : List (List Int)), 1)))
theorem cuvetteref08_Plain.mono_l : ∀ k, (∀ y0 y1 y2 y3 y4, LeO (cuvetteref08_Plain.l0 k y0 y1 y2 y3 y4) (cuvetteref08_Plain.l0 (k + 1) y0 y1 y2 y3 y4)) ∧ (∀ y0 y1 y2 y3 y4 y5 y6, LeO (cuvetteref08_Plain.l1 k y0 y1 y2 y3 y4 y5 y6) (cuvetteref08_Plain.l1 (k + 1) y0 y1 y2 y3 y4 y5 y6))
  | 0 => ⟨fun _ _ _ _ _ r h => by simp [cuvetteref08_Plain.l0] at h, fun _ _ _ _ _ _ _ r h => by simp [cuvetteref08_Plain.l1] at h⟩
  | k + 1 => by
    obtain ⟨ih0, ih1⟩ := cuvetteref08_Plain.mono_l k
    refine ⟨?_, ?_⟩
    · intro y0 y1 y2 y3 y4
      unfold cuvetteref08_Plain.l0
      repeat' first
      | (with_reducible exact ih0 _ _ _ _ _)
      | (with_reducible exact ih1 _ _ _ _ _ _ _)
      | (with_reducible exact LeO.refl _)
      | (with_reducible exact LeO.none _)
      | (with_reducible refine LeO.ite ?_ ?_)
      | (with_reducible refine LeO.bind ?_ (fun _ => ?_))
      | exact ih0 _ _ _ _ _
      | exact ih1 _ _ _ _ _ _ _
      | exact LeO.none _
      | refine LeO.ite ?_ ?_
      | refine LeO.bind ?_ (fun _ => ?_)
    · intro y0 y1 y2 y3 y4 y5 y6
      unfold cuvetteref08_Plain.l1
      repeat' first
      | (with_reducible exact ih0 _ _ _ _ _)
      | (with_reducible exact ih1 _ _ _ _ _ _ _)
      | (with_reducible exact LeO.refl _)
      | (with_reducible exact LeO.none _)
      | (with_reducible refine LeO.ite ?_ ?_)
      | (with_reducible refine LeO.bind ?_ (fun _ => ?_))
      | exact ih0 _ _ _ _ _
      | exact ih1 _ _ _ _ _ _ _
      | exact LeO.none _
      | refine LeO.ite ?_ ?_
      | refine LeO.bind ?_ (fun _ => ?_)
theorem cuvetteref08_Plain.mono : ∀ a0 a1 k, LeO (cuvetteref08_Plain.f k a0 a1) (cuvetteref08_Plain.f (k + 1) a0 a1) := by
  intro a0 a1 k
  obtain ⟨ih0, ih1⟩ := cuvetteref08_Plain.mono_l k
  unfold cuvetteref08_Plain.f
  repeat' first
      | (with_reducible exact ih0 _ _ _ _ _)
      | (with_reducible exact ih1 _ _ _ _ _ _ _)
      | (with_reducible exact LeO.refl _)
      | (with_reducible exact LeO.none _)
      | (with_reducible refine LeO.ite ?_ ?_)
      | (with_reducible refine LeO.bind ?_ (fun _ => ?_))
      | exact ih0 _ _ _ _ _
      | exact ih1 _ _ _ _ _ _ _
      | exact LeO.none _
      | refine LeO.ite ?_ ?_
      | refine LeO.bind ?_ (fun _ => ?_)
set_option maxHeartbeats 8000000 in
set_option maxRecDepth 100000 in
theorem cuvetteref08_Plain.calls (k : Nat) (a0 : Int) (a1 : Int) (r1 : Int) (r2 : List (List Int)) (r3 : Int) (w : World) (h : cuvetteref08_Plain.f k a0 a1 = some (r1, r2, r3)) :
    Calls Try.prog 42 #[.int .i64 a0, .int .i64 a1] w fun e w' => ∃ v1_ : Value, e = .returned (.tuple #[.agg #[.int .i64 r1, v1_], .int .i64 r3]) ∧ Kd.S (Kd.slice 74 (Kd.int .i16)) 26 w' w.heap.size (fun _ => True) v1_ r2 ∧ Below w.heap.size w w' := by
  have hu49 := Try.underlying49
  have HB := Aside0.mk (Below.refl w.heap.size w)
  have H : ((cuvetteref08_sizes.f a0 a1).bind fun t626 => (if t626 = true then (cuvetteref08_Plain.l0 k a1 a0 0 0 ([] : List (List Int))) else (some (0, ([] : List (List Int)), 1)))) = some (r1, r2, r3) := h
  clear h
  replace H := Option.bind_eq_some_iff.mp H
  obtain ⟨t626, A30, H⟩ := H
  replace H : (if t626 = true then (cuvetteref08_Plain.l0 k a1 a0 0 0 ([] : List (List Int))) else (some (0, ([] : List (List Int)), 1))) = some (r1, r2, r3) := H
  have A3 := Aside0.mk A30
  clear A30
  by_cases c4 : t626 = true
  · subst c4
    have H1 : (cuvetteref08_Plain.l0 k a1 a0 0 0 ([] : List (List Int))) = some (r1, r2, r3) := by rw [if_pos rfl] at H; exact H
    clear H
    have H := H1
    clear H1
    have H' := Aside0.mk H
    clear H
    go_enter Try.func42, Try.ntmps42
    go_wp2_with (first | ((with_reducible refine gate_dst (N := 4) rfl ?_); refine box_event ?hg (N := 4) ?hd (cs := #[.int .i64 0, .slice none 0 0]) (t := 49) ?hr ?_; (case hd => rfl); (case hg => rfl); (case hr => first | (go_simp; done) | (go_simp; rfl)); intro gb625 hg w5 hbox hb; have n0_ := Aside0.mk (below_step (by repeat (first | (with_reducible first | exact HB.out | apply below_alloc | apply pw_below_drewN | apply below_drew1) | exact HB.out)) hb); have n1_ := Aside0.mk (hbox); have n2_ := Aside0.mk ((by rw [hg]; exact (below_size (by repeat (first | (with_reducible first | exact HB.out | apply below_alloc | apply pw_below_drewN | apply below_drew1) | exact HB.out))) : w.heap.size ≤ gb625)); have n3_ := Aside0.mk ((by rw [hg]; exact (below_size (by repeat (first | (with_reducible first | exact HB.out | apply below_alloc | apply pw_below_drewN | apply below_drew1) | exact HB.out))) : w.heap.size ≤ gb625)); clear HB; have HB := n0_; have BK625 := n1_; have GW625 := n2_; have GE625 := n3_; clear n0_ n1_ n2_ n3_; clear hb hbox hg) | ((with_reducible refine gate_callee (f := 108) rfl ?_); refine goesL_ (some 11) rfl rfl Try.func108 (by kernel_rfl) rfl #[.int .i64 a0, .int .i64 a1] rfl (by (try simp only [List.map_toArray, List.map_cons, List.map_nil]); first | done | rfl | (simp only [List.length_drop, List.length_take]; rfl)) ?_; (with_reducible refine (cuvetteref08_sizes.calls a0 a1 true _ A3.out).mono ?_); rintro e w' ⟨rfl, ⟨nd, rfl⟩⟩; refine ⟨_, rfl, ?_⟩; (try (rw [drewN_self w5]; generalize hq_ : World.drewN w5 _ = w5; have n0_ : Aside0 (w5.heap[gb625]? = some (.cells #[.int .i64 0, .slice none 0 0] 49 (0, 0))) := ⟨by rw [← hq_]; exact (by (with_reducible repeat (first | refine blk_drewN ?_ _ | refine blk_drew ?_ | refine blk_alloc ?_ _)); exact BK625.out)⟩; have n1_ : Aside0 (Below w.heap.size w w5) := ⟨by rw [← hq_]; exact (by repeat (first | (with_reducible first | exact HB.out | apply below_alloc | apply pw_below_drewN | apply below_drew1 | refine below_set ?_ GE625.out) | exact HB.out))⟩; clear BK625 HB hq_; have BK625 := n0_; have HB := n1_; clear n0_ n1_))) | ((with_reducible refine gate_dst (N := 6) rfl ?_); refine box_event ?hg (N := 6) ?hd (cs := #[.int .i64 0, .slice none 0 0]) (t := 49) ?hr ?_; (case hd => rfl); (case hg => rfl); (case hr => first | (go_simp; done) | (go_simp; rfl)); intro gb627 hg w6 hbox hb; have n0_ := Aside0.mk (blk_below (g := gb625) (o := .cells #[.int .i64 0, .slice none 0 0] 49 (0, 0)) (by (with_reducible repeat (first | refine blk_drewN ?_ _ | refine blk_drew ?_ | refine blk_alloc ?_ _)); exact BK625.out) hb); have n1_ := Aside0.mk (below_step (by repeat (first | (with_reducible first | exact HB.out | apply below_alloc | apply pw_below_drewN | apply below_drew1 | refine below_set ?_ GE625.out) | exact HB.out)) hb); have n2_ := Aside0.mk (hbox); have n3_ := Aside0.mk ((by rw [hg]; exact (below_size (by repeat (first | (with_reducible first | exact HB.out | apply below_alloc | apply pw_below_drewN | apply below_drew1 | refine below_set ?_ GE625.out) | exact HB.out))) : w.heap.size ≤ gb627)); have n4_ := Aside0.mk ((by rw [hg]; exact (below_size (by repeat (first | (with_reducible first | exact HB.out | apply below_alloc | apply pw_below_drewN | apply below_drew1 | refine below_set ?_ GE625.out) | exact HB.out))) : w.heap.size ≤ gb627)); have n5_ := Aside0.mk ((by rw [hg]; exact Nat.ne_of_lt (blk_lt (g := gb625) (o := .cells #[.int .i64 0, .slice none 0 0] 49 (0, 0)) (by (with_reducible repeat (first | refine blk_drewN ?_ _ | refine blk_drew ?_ | refine blk_alloc ?_ _)); exact BK625.out)) : gb625 ≠ gb627)); have n6_ := Aside0.mk ((by rw [hg]; exact Nat.ne_of_gt (blk_lt (g := gb625) (o := .cells #[.int .i64 0, .slice none 0 0] 49 (0, 0)) (by (with_reducible repeat (first | refine blk_drewN ?_ _ | refine blk_drew ?_ | refine blk_alloc ?_ _)); exact BK625.out)) : gb627 ≠ gb625)); clear BK625; clear HB; have BK625 := n0_; have HB := n1_; have BK627 := n2_; have GW627 := n3_; have GE627 := n4_; have NB625_627 := n5_; have NB627_625 := n6_; clear n0_ n1_ n2_ n3_ n4_ n5_ n6_; clear hb hbox hg; have hnb7 := NB627_625.out; have hnc7 := NB625_627.out; have hcz8_0 : w6.cell? ⟨gb627, 0, none⟩ = some (.int .i64 0) := (blk_cell BK627.out 0).trans rfl; have hcz8_1 : w6.cell? ⟨gb627, 1, none⟩ = some (.slice none 0 0) := (blk_cell BK627.out 1).trans rfl; have hfz8_0 := blk_frozen BK627.out 0; have hfz8_1 := blk_frozen BK627.out 1))
    go_loopg [16] k (fun kq v16 w' => ∃ (x16_1 : Int) (x628001_1 : List (List Int)) (u628001 : Value), v16 = .int .i64 x16_1 ∧ Aside0 (cuvetteref08_Plain.l0 kq a1 a0 x16_1 0 x628001_1 = some (r1, r2, r3)) ∧ Aside0 (kq ≤ k) ∧ Aside0 (Kd.S (Kd.slice 74 (Kd.int .i16)) 26 w' w.heap.size (fun _ => True) u628001 x628001_1) ∧ Aside0 (w'.heap[gb625]? = some (.cells #[.int .i64 0, (.slice none 0 0)] 49 (0, 0))) ∧ Aside0 (w'.heap[gb627]? = some (.cells #[.int .i64 0, u628001] 49 (0, 0))) ∧ Aside0 (Below w.heap.size w w'))
    case atStart => exact ⟨(0), (([] : List (List Int))), (.slice none 0 0), (by first | rfl | (simp; done) | (simp [*]; done)), H', ⟨Nat.le_refl _⟩, ⟨by first | exact Kd.S_nil _ _ _ _ _ | exact Kd.N_nil _ _ _ _ _ | exact Kd.V_nil _ _ _ _ _ | exact Kd.Q_nil _ _ _ _ _ | exact Kd.R_nil _ _ _ _ _⟩, ⟨by (with_reducible repeat (first | refine blk_drewN ?_ _ | refine blk_drew ?_ | refine blk_alloc ?_ _)); refine blk_far ?_ NB625_627.out _; (with_reducible repeat (first | refine blk_drewN ?_ _ | refine blk_drew ?_ | refine blk_alloc ?_ _)); refine blk_far ?_ NB625_627.out _; (with_reducible repeat (first | refine blk_drewN ?_ _ | refine blk_drew ?_ | refine blk_alloc ?_ _)); exact BK625.out⟩, ⟨by (with_reducible repeat (first | refine blk_drewN ?_ _ | refine blk_drew ?_ | refine blk_alloc ?_ _)); refine blk_put (cs := #[.int .i64 0, .slice none 0 0]) ?_ 1 _ rfl; (with_reducible repeat (first | refine blk_drewN ?_ _ | refine blk_drew ?_ | refine blk_alloc ?_ _)); refine blk_put (cs := #[.int .i64 0, .slice none 0 0]) ?_ 0 _ rfl; (with_reducible repeat (first | refine blk_drewN ?_ _ | refine blk_drew ?_ | refine blk_alloc ?_ _)); exact BK627.out⟩, ⟨by repeat (first | (with_reducible first | exact HB.out | apply below_alloc | apply pw_below_drewN | apply below_drew1 | refine below_set ?_ GE625.out | refine below_set ?_ GE627.out) | exact HB.out)⟩⟩
    case round =>
      clear H'
      try clear c1
      try clear p2
      try clear c4
      try clear c7
      try clear hcz8_0
      try clear hcz8_1
      try clear hfz8_0
      try clear hfz8_1
      obtain ⟨x16_1, x628001_1, u628001, rfl, HA, HK1, HO_628001, BK625, BK627, HB⟩ := hrel
      cases gk with
      | zero => exact absurd HA.out (by simp [cuvetteref08_Plain.l0])
      | succ k1 =>
        have H := HA.out
        clear HA
        simp only [cuvetteref08_Plain.l0] at H
        by_cases c9 : x16_1 < a0
        · rw [if_pos c9] at H
          have c9b0 : decide (x16_1 < a0) = true := decide_eq_true c9
          clear c9
          have H' := Aside0.mk H
          clear H
          go_wp2
          go_loopg [7, 8] k1 (fun kq v7 v8 w' => ∃ (x7_2 : List Int) (x8_2 : Int), v8 = .int .i64 x8_2 ∧ Aside0 (cuvetteref08_Plain.l1 kq a1 x7_2 x8_2 a0 x16_1 0 x628001_1 = some (r1, r2, r3)) ∧ Aside0 (kq ≤ k1) ∧ Aside0 (Kd.R (Kd.int .i16) 74 w' w.heap.size (fun _ => True) v7 x7_2) ∧ Aside0 (Kd.S (Kd.slice 74 (Kd.int .i16)) 26 w' w.heap.size (fun k_ => some k_ ≠ (v7 : Value).ownBlock) u628001 x628001_1) ∧ Aside0 (w'.heap[gb625]? = some (.cells #[.int .i64 0, (.slice none 0 0)] 49 (0, 0))) ∧ Aside0 (w'.heap[gb627]? = some (.cells #[.int .i64 0, u628001] 49 (0, 0))) ∧ Aside0 (Below w.heap.size w w'))
          case atStart => exact ⟨(([] : List Int)), (1), (by first | rfl | (simp; done) | (simp [*]; done)), H', ⟨Nat.le_refl _⟩, ⟨by first | exact Kd.R_nil _ _ _ _ _ | exact Kd.N_nil _ _ _ _ _ | exact Kd.V_nil _ _ _ _ _ | exact Kd.Q_nil _ _ _ _ _ | exact Kd.S_nil _ _ _ _ _⟩, ⟨by (with_reducible repeat (first | apply Kd.S_alloc | apply Kd.S_drewN | apply Kd.S_drew)); exact Kd.S_mono HO_628001.out (fun _ hk => (by simp [Value.ownBlock]))⟩, ⟨by (with_reducible repeat (first | refine blk_drewN ?_ _ | refine blk_drew ?_ | refine blk_alloc ?_ _)); exact BK625.out⟩, ⟨by (with_reducible repeat (first | refine blk_drewN ?_ _ | refine blk_drew ?_ | refine blk_alloc ?_ _)); exact BK627.out⟩, ⟨by repeat (first | (with_reducible first | exact HB.out | apply below_alloc | apply pw_below_drewN | apply below_drew1 | refine below_set ?_ GE625.out | refine below_set ?_ GE627.out) | exact HB.out)⟩⟩
          case round =>
            clear H'
            try clear c1
            try clear p2
            try clear c4
            try clear c7
            try clear c9
            try clear c9b0
            try clear hcz8_0
            try clear hcz8_1
            try clear hfz8_0
            try clear hfz8_1
            try clear p2
            obtain ⟨x7_2, x8_2, rfl, HA, HK2, HO_7, HO_628001, BK625, BK627, HB⟩ := hrel
            cases gk with
            | zero => exact absurd HA.out (by simp [cuvetteref08_Plain.l1])
            | succ k2 =>
              have H := HA.out
              clear HA
              simp only [cuvetteref08_Plain.l1] at H
              by_cases c10 : x8_2 < a1
              · rw [if_pos c10] at H
                have c10b0 : decide (x8_2 < a1) = true := decide_eq_true c10
                clear c10
                by_cases c11 : a1 = 0
                · rw [if_pos c11] at H
                  exact absurd H (by simp)
                · rw [if_neg c11] at H
                  have c11b0 : (a1 == 0) = false := beq_eq_false_iff_ne.mpr c11
                  have c11b1 : (a1 != 0) = true := bne_iff_ne.mpr c11
                  by_cases c12 : x7_2.length < 70368744177664
                  · rw [if_pos c12] at H
                    have LMc12 := Aside0.mk c12
                    clear c12
                    obtain ⟨y628, hy628⟩ : ∃ y_ : List Int, y_ = (x7_2 ++ [IntKind.i16.wrap (wrap64 ((wrap64 (Int.tdiv (wrap64 (65536 * x8_2)) a1)) - 32768))]) := ⟨_, rfl⟩
                    replace H : (cuvetteref08_Plain.l1 k2 a1 y628 (wrap64 (x8_2 + 1)) a0 x16_1 0 x628001_1) = some (r1, r2, r3) := by first | (rw [hy628]; with_reducible exact H) | (have H2_ := (Option.bind_some _ _).symm.trans H; rw [hy628]; with_reducible exact H2_) | (have H2_ := (Option.bind_some _ _).symm.trans H; with_reducible exact H2_) | with_reducible exact H | (rw [hy628]; exact H) | exact H
                    have Ny628 := Aside0.mk hy628
                    clear hy628
                    have H' := Aside0.mk H
                    clear H
                    go_wp2_with (first | ((with_reducible refine gate_builtin (b := .append) (xs := #[.tmp 23, .tmp 30]) rfl ?_); at_builtin; refine Kd.R_append (Kd.int .i16) (w0 := w) w.heap.size rfl (.tmp 23) (.tmp 30) 26 74 (.int .i16 0) 2 rfl Try.underlying26 info74 rfl (by decide) (by omega) u7 x7_2 (IntKind.i16.wrap (wrap64 ((wrap64 (Int.tdiv (wrap64 (65536 * x8_2)) a1)) - 32768))) [.int .i16 (IntKind.i16.wrap (wrap64 ((wrap64 (Int.tdiv (wrap64 (65536 * x8_2)) a1)) - 32768)))] (fun _ => True) (fun _ => False) rfl rfl ?aP (fun _ hk => hk.elim) ?aF ?aO ?aB ?aS ?aL ?_; (case aP => exact rfl); (case aB => exact (by repeat (first | (with_reducible first | exact HB.out | apply below_alloc | apply pw_below_drewN | apply below_drew1 | refine below_set ?_ GE625.out | refine below_set ?_ GE627.out) | exact HB.out))); (case aF => exact (fun _ _ => trivial)); (case aO => exact (by (with_reducible repeat (first | apply Kd.R_alloc | apply Kd.R_drewN | apply Kd.R_drew)); exact HO_7.out)); (case aS => exact (below_size (by repeat (first | (with_reducible first | exact HB.out | apply below_alloc | apply pw_below_drewN | apply below_drew1 | refine below_set ?_ GE625.out | refine below_set ?_ GE627.out) | exact HB.out)))); (case aL => have := LMc12.out; omega); intro v629 w13 ho hb hg hat; rw [← Ny628.out] at ho; have n0_ := Aside0.mk (Kd.S_after (ok := (fun _ => True)) (by (with_reducible repeat (first | apply Kd.S_alloc | apply Kd.S_drewN | apply Kd.S_drew)); exact Kd.S_mono HO_628001.out (fun _ hk => ⟨trivial, hk⟩)) hg hat); have n1_ := Aside0.mk (blk_grown (g := gb625) (o := .cells #[.int .i64 0, .slice none 0 0] 49 (0, 0)) (by (with_reducible repeat (first | refine blk_drewN ?_ _ | refine blk_drew ?_ | refine blk_alloc ?_ _)); exact BK625.out) hg (Kd.R_ne HO_7.out BK625.out (by decide))); have n2_ := Aside0.mk (blk_grown (g := gb627) (o := .cells #[.int .i64 0, u628001] 49 (0, 0)) (by (with_reducible repeat (first | refine blk_drewN ?_ _ | refine blk_drew ?_ | refine blk_alloc ?_ _)); exact BK627.out) hg (Kd.R_ne HO_7.out BK627.out (by decide))); have n3_ := Aside0.mk (hb); have n4_ := Aside0.mk (ho); clear HO_628001; clear BK625; clear BK627; clear HB; clear HO_7; have HO_628001 := n0_; have BK625 := n1_; have BK627 := n2_; have HB := n3_; have HO630 := n4_; clear n0_ n1_ n2_ n3_ n4_; clear ho hb hg hat))
                    go_roundg k2
                    case measure => have := HK1.out; have := HK2.out; omega
                    case rel => exact ⟨(y628), (wrap64 (x8_2 + 1)), (by first | rfl | (simp; done) | (simp [*]; done)), H', ⟨by have := HK1.out; have := HK2.out; omega⟩, ⟨by (with_reducible repeat (first | apply Kd.R_alloc | apply Kd.R_drewN | apply Kd.R_drew)); exact HO630.out⟩, ⟨by (with_reducible repeat (first | apply Kd.S_alloc | apply Kd.S_drewN | apply Kd.S_drew)); exact Kd.S_mono HO_628001.out (fun _ hk => hk.2)⟩, ⟨by (with_reducible repeat (first | refine blk_drewN ?_ _ | refine blk_drew ?_ | refine blk_alloc ?_ _)); exact BK625.out⟩, ⟨by (with_reducible repeat (first | refine blk_drewN ?_ _ | refine blk_drew ?_ | refine blk_alloc ?_ _)); exact BK627.out⟩, ⟨by repeat (first | (with_reducible first | exact HB.out | apply below_alloc | apply pw_below_drewN | apply below_drew1 | refine below_set ?_ GE625.out | refine below_set ?_ GE627.out) | exact HB.out)⟩⟩
                  · rw [if_neg c12] at H
                    exact absurd H (by simp)
              · rw [if_neg c10] at H
                have c10b0 : decide (x8_2 < a1) = false := decide_eq_false c10
                clear c10
                by_cases c14 : x628001_1.length < 5864062014805
                · rw [if_pos c14] at H
                  have LMc14 := Aside0.mk c14
                  clear c14
                  obtain ⟨y631, hy631⟩ : ∃ y_ : List (List Int), y_ = (x628001_1 ++ [x7_2]) := ⟨_, rfl⟩
                  replace H : (cuvetteref08_Plain.l0 k2 a1 a0 (wrap64 (x16_1 + 1)) 0 y631) = some (r1, r2, r3) := by first | (rw [hy631]; with_reducible exact H) | (have H2_ := (Option.bind_some _ _).symm.trans H; rw [hy631]; with_reducible exact H2_) | (have H2_ := (Option.bind_some _ _).symm.trans H; with_reducible exact H2_) | with_reducible exact H | (rw [hy631]; exact H) | exact H
                  have Ny631 := Aside0.mk hy631
                  clear hy631
                  have H' := Aside0.mk H
                  clear H
                  have hnb15 := NB627_625.out
                  have hnc15 := NB625_627.out
                  have hcz16_0 : wr.cell? ⟨gb627, 0, none⟩ = some (.int .i64 0) := (blk_cell BK627.out 0).trans rfl
                  have hcz16_1 : wr.cell? ⟨gb627, 1, none⟩ = some (u628001) := (blk_cell BK627.out 1).trans rfl
                  have hfz16_0 := blk_frozen BK627.out 0
                  have hfz16_1 := blk_frozen BK627.out 1
                  obtain ⟨Ao18, co18, eo18⟩ := Kd.R_slice HO_7.out
                  subst eo18
                  go_wp2_with (first | ((with_reducible refine gate_builtin (b := .append) (xs := #[.tmp 33, .tmp 35]) rfl ?_); at_builtin; refine Kd.S_append (Kd.slice 74 (Kd.int .i16)) (w0 := w) w.heap.size rfl (.tmp 33) (.tmp 35) 47 26 (.slice none 0 0) 24 rfl Try.underlying47 info26 rfl (by decide) (by omega) u628001 x628001_1 x7_2 [.slice Ao18 x7_2.length co18] (fun _ => True) (fun k_ => some k_ = (.slice Ao18 x7_2.length co18 : Value).ownBlock) rfl rfl ?aP (fun k_ hk_ => ((Kd.R_mono (ok' := fun k_ => ((fun _ => True)) k_ ∧ some k_ ≠ (u628001 : Value).ownBlock) (Kd.R_apart' (HO_7.out) (Kd.S_typed HO_628001.out) (by decide)) (fun k_ hk => ⟨trivial, hk.2⟩))).1 k_ hk_.symm) ?aF ?aO ?aB ?aS ?aL ?_; (case aP => exact Kd.M_row (Kd.R_mono (Kd.R_tight rfl (Kd.R_mono (ok' := fun k_ => ((fun _ => True)) k_ ∧ some k_ ≠ (u628001 : Value).ownBlock) (Kd.R_apart' (HO_7.out) (Kd.S_typed HO_628001.out) (by decide)) (fun k_ hk => ⟨trivial, hk.2⟩))) (fun _ h_ => h_))); (case aB => exact (by repeat (first | (with_reducible first | exact HB.out | apply below_alloc | apply pw_below_drewN | apply below_drew1 | refine below_set ?_ GE625.out | refine below_set ?_ GE627.out) | exact HB.out))); (case aF => exact (fun _ _ => trivial)); (case aO => exact (by (with_reducible repeat (first | apply Kd.S_alloc | apply Kd.S_drewN | apply Kd.S_drew)); exact Kd.S_mono HO_628001.out (fun k_ hk => ⟨trivial, fun e_ => hk e_⟩))); (case aS => exact (below_size (by repeat (first | (with_reducible first | exact HB.out | apply below_alloc | apply pw_below_drewN | apply below_drew1 | refine below_set ?_ GE625.out | refine below_set ?_ GE627.out) | exact HB.out)))); (case aL => have := LMc14.out; omega); intro v632 w17 ho hb hg hat; rw [← Ny631.out] at ho; have n0_ := Aside0.mk (blk_grown (g := gb625) (o := .cells #[.int .i64 0, .slice none 0 0] 49 (0, 0)) (by (with_reducible repeat (first | refine blk_drewN ?_ _ | refine blk_drew ?_ | refine blk_alloc ?_ _)); exact BK625.out) hg (Kd.S_ne HO_628001.out BK625.out (by decide))); have n1_ := Aside0.mk (blk_grown (g := gb627) (o := .cells #[.int .i64 0, u628001] 49 (0, 0)) (by (with_reducible repeat (first | refine blk_drewN ?_ _ | refine blk_drew ?_ | refine blk_alloc ?_ _)); exact BK627.out) hg (Kd.S_ne HO_628001.out BK627.out (by decide))); have n2_ := Aside0.mk (hb); have n3_ := Aside0.mk (ho); clear BK625; clear BK627; clear HB; clear HO_628001; clear HO_7; have BK625 := n0_; have BK627 := n1_; have HB := n2_; have HO633 := n3_; clear n0_ n1_ n2_ n3_; clear ho hb hg hat; obtain ⟨Ao19, co19, eo19⟩ := Kd.S_slice HO633.out; subst eo19; have hcz20_0 : w17.cell? ⟨gb627, 0, none⟩ = some (.int .i64 0) := (blk_cell BK627.out 0).trans rfl; have hcz20_1 : w17.cell? ⟨gb627, 1, none⟩ = some (u628001) := (blk_cell BK627.out 1).trans rfl; have hfz20_0 := blk_frozen BK627.out 0; have hfz20_1 := blk_frozen BK627.out 1))
                  go_roundg k2
                  case measure => have := HK1.out; have := HK2.out; omega
                  case rel => exact ⟨(wrap64 (x16_1 + 1)), (y631), (.slice Ao19 y631.length co19), (by first | rfl | (simp; done) | (simp [*]; done)), H', ⟨by have := HK1.out; have := HK2.out; omega⟩, ⟨by (with_reducible repeat (first | apply Kd.S_alloc | apply Kd.S_drewN | apply Kd.S_drew)); exact Kd.S_mono (Kd.S_far (p := ⟨gb627, 1, none⟩) (Kd.S_types HO633.out BK627.out (by decide)) (fun _ hk => hk.2) (.slice Ao19 y631.length co19)) (fun _ hk => trivial)⟩, ⟨by (with_reducible repeat (first | refine blk_drewN ?_ _ | refine blk_drew ?_ | refine blk_alloc ?_ _)); refine blk_far ?_ NB625_627.out _; (with_reducible repeat (first | refine blk_drewN ?_ _ | refine blk_drew ?_ | refine blk_alloc ?_ _)); exact BK625.out⟩, ⟨by (with_reducible repeat (first | refine blk_drewN ?_ _ | refine blk_drew ?_ | refine blk_alloc ?_ _)); refine blk_put (cs := #[.int .i64 0, u628001]) ?_ 1 _ rfl; (with_reducible repeat (first | refine blk_drewN ?_ _ | refine blk_drew ?_ | refine blk_alloc ?_ _)); exact BK627.out⟩, ⟨by repeat (first | (with_reducible first | exact HB.out | apply below_alloc | apply pw_below_drewN | apply below_drew1 | refine below_set ?_ GE625.out | refine below_set ?_ GE627.out) | exact HB.out)⟩⟩
                · rw [if_neg c14] at H
                  exact absurd H (by simp)
        · rw [if_neg c9] at H
          have c9b0 : decide (x16_1 < a0) = false := decide_eq_false c9
          clear c9
          simp only [Option.some.injEq, Prod.mk.injEq] at H
          obtain ⟨rfl, rfl, rfl⟩ := H
          have hnb21 := NB627_625.out
          have hnc21 := NB625_627.out
          have hcz22_0 : wr.cell? ⟨gb627, 0, none⟩ = some (.int .i64 0) := (blk_cell BK627.out 0).trans rfl
          have hcz22_1 : wr.cell? ⟨gb627, 1, none⟩ = some (u628001) := (blk_cell BK627.out 1).trans rfl
          have hfz22_0 := blk_frozen BK627.out 0
          have hfz22_1 := blk_frozen BK627.out 1
          have hcz23_0 : wr.cell? ⟨gb625, 0, none⟩ = some (.int .i64 0) := (blk_cell BK625.out 0).trans rfl
          have hcz23_1 : wr.cell? ⟨gb625, 1, none⟩ = some (.slice none 0 0) := (blk_cell BK625.out 1).trans rfl
          have hfz23_0 := blk_frozen BK625.out 0
          have hfz23_1 := blk_frozen BK625.out 1
          obtain ⟨Ao24, co24, eo24⟩ := Kd.S_slice HO_628001.out
          subst eo24
          go_wp2
          refine bodyPost_ret (results_ct rfl _ _ gb625 49 #[.int .i64 0, .slice Ao24 x628001_1.length co24] (0, 0) _ rfl (by (with_reducible repeat (first | refine blk_drewN ?_ _ | refine blk_drew ?_ | refine blk_alloc ?_ _)); refine blk_put (cs := #[.int .i64 0, .slice none 0 0]) ?_ 1 _ rfl; (with_reducible repeat (first | refine blk_drewN ?_ _ | refine blk_drew ?_ | refine blk_alloc ?_ _)); refine blk_put (cs := #[.int .i64 0, .slice none 0 0]) ?_ 0 _ rfl; (with_reducible repeat (first | refine blk_drewN ?_ _ | refine blk_drew ?_ | refine blk_alloc ?_ _)); exact BK625.out) Try.underlying49 rfl (by kernel_rfl)) rfl ?_
          exact ⟨_, by first | rfl | (simp [errW_none, errW_some] <;> rfl) | (simp [*, errW_none, errW_some] <;> rfl), by (with_reducible repeat (first | apply Kd.S_alloc | apply Kd.S_drewN | apply Kd.S_drew)); exact Kd.S_mono (Kd.S_far (p := ⟨gb625, 1, none⟩) (Kd.S_far (p := ⟨gb625, 0, none⟩) (Kd.S_types HO_628001.out BK625.out (by decide)) (fun _ hk => hk.2) (.int .i64 0)) (fun _ hk => hk.2) (.slice Ao24 x628001_1.length co24)) (fun _ hk => trivial), by repeat (first | (with_reducible first | exact HB.out | apply below_alloc | apply pw_below_drewN | apply below_drew1 | refine below_set ?_ GE625.out | refine below_set ?_ GE627.out) | exact HB.out)⟩
  · replace c4 := Bool.eq_false_iff.mpr c4
    subst c4
    have H1 : (some (0, ([] : List (List Int)), 1)) = some (r1, r2, r3) := by rw [if_neg (show ¬ (false = true) by decide)] at H; exact H
    clear H
    have H := H1
    clear H1
    simp only [Option.some.injEq, Prod.mk.injEq] at H
    obtain ⟨rfl, rfl, rfl⟩ := H
    go_enter Try.func42, Try.ntmps42
    go_wp2_with (first | ((with_reducible refine gate_dst (N := 4) rfl ?_); refine box_event ?hg (N := 4) ?hd (cs := #[.int .i64 0, .slice none 0 0]) (t := 49) ?hr ?_; (case hd => rfl); (case hg => rfl); (case hr => first | (go_simp; done) | (go_simp; rfl)); intro gb625 hg w25 hbox hb; have n0_ := Aside0.mk (below_step (by repeat (first | (with_reducible first | exact HB.out | apply below_alloc | apply pw_below_drewN | apply below_drew1) | exact HB.out)) hb); have n1_ := Aside0.mk (hbox); have n2_ := Aside0.mk ((by rw [hg]; exact (below_size (by repeat (first | (with_reducible first | exact HB.out | apply below_alloc | apply pw_below_drewN | apply below_drew1) | exact HB.out))) : w.heap.size ≤ gb625)); have n3_ := Aside0.mk ((by rw [hg]; exact (below_size (by repeat (first | (with_reducible first | exact HB.out | apply below_alloc | apply pw_below_drewN | apply below_drew1) | exact HB.out))) : w.heap.size ≤ gb625)); clear HB; have HB := n0_; have BK625 := n1_; have GW625 := n2_; have GE625 := n3_; clear n0_ n1_ n2_ n3_; clear hb hbox hg) | ((with_reducible refine gate_callee (f := 108) rfl ?_); refine goesL_ (some 11) rfl rfl Try.func108 (by kernel_rfl) rfl #[.int .i64 a0, .int .i64 a1] rfl (by (try simp only [List.map_toArray, List.map_cons, List.map_nil]); first | done | rfl | (simp only [List.length_drop, List.length_take]; rfl)) ?_; (with_reducible refine (cuvetteref08_sizes.calls a0 a1 false _ A3.out).mono ?_); rintro e w' ⟨rfl, ⟨nd, rfl⟩⟩; refine ⟨_, rfl, ?_⟩; (try (rw [drewN_self w25]; generalize hq_ : World.drewN w25 _ = w25; have n0_ : Aside0 (w25.heap[gb625]? = some (.cells #[.int .i64 0, .slice none 0 0] 49 (0, 0))) := ⟨by rw [← hq_]; exact (by (with_reducible repeat (first | refine blk_drewN ?_ _ | refine blk_drew ?_ | refine blk_alloc ?_ _)); exact BK625.out)⟩; have n1_ : Aside0 (Below w.heap.size w w25) := ⟨by rw [← hq_]; exact (by repeat (first | (with_reducible first | exact HB.out | apply below_alloc | apply pw_below_drewN | apply below_drew1 | refine below_set ?_ GE625.out) | exact HB.out))⟩; clear BK625 HB hq_; have BK625 := n0_; have HB := n1_; clear n0_ n1_)); have hcz26_0 : w25.cell? ⟨gb625, 0, none⟩ = some (.int .i64 0) := (blk_cell BK625.out 0).trans rfl; have hcz26_1 : w25.cell? ⟨gb625, 1, none⟩ = some (.slice none 0 0) := (blk_cell BK625.out 1).trans rfl; have hfz26_0 := blk_frozen BK625.out 0; have hfz26_1 := blk_frozen BK625.out 1))
    refine bodyPost_ret (results_ct rfl _ _ gb625 49 #[.int .i64 0, .slice none 0 0] (0, 0) _ rfl (by (with_reducible repeat (first | refine blk_drewN ?_ _ | refine blk_drew ?_ | refine blk_alloc ?_ _)); refine blk_put (cs := #[.int .i64 0, .slice none 0 0]) ?_ 1 _ rfl; (with_reducible repeat (first | refine blk_drewN ?_ _ | refine blk_drew ?_ | refine blk_alloc ?_ _)); refine blk_put (cs := #[.int .i64 0, .slice none 0 0]) ?_ 0 _ rfl; (with_reducible repeat (first | refine blk_drewN ?_ _ | refine blk_drew ?_ | refine blk_alloc ?_ _)); exact BK625.out) Try.underlying49 rfl (by kernel_rfl)) rfl ?_
    exact ⟨_, by first | rfl | (simp [errW_none, errW_some] <;> rfl) | (simp [*, errW_none, errW_some] <;> rfl), by first | exact Kd.S_nil _ _ _ _ _ | exact Kd.N_nil _ _ _ _ _ | exact Kd.V_nil _ _ _ _ _ | exact Kd.Q_nil _ _ _ _ _ | exact Kd.R_nil _ _ _ _ _, by repeat (first | (with_reducible first | exact HB.out | apply below_alloc | apply pw_below_drewN | apply below_drew1 | refine below_set ?_ GE625.out) | exact HB.out)⟩

end Go.Proofs.Ytkjibgfgbfacdaa.P
end
/-! part: F43 -/
section
set_option linter.unusedVariables false
set_option linter.unusedSimpArgs false
namespace Go.Proofs.Ytkjibgfgbfacdaa.P
open Go.RowKit Go.Proofs.YtkjibgfgbfacdaaW.PrintWords Go.Proofs.YtkjibgfgbfacdaaW.PrintLast Go.Proofs.YtkjibgfgbfacdaaW.PrintMore
attribute [local go_sem] max2_int min2_int max_two min_two max_three min_three max_four min_four   -- for this text's walks alone
set_option linter.unusedVariables false
set_option linter.unusedSimpArgs false

/-! ### book_Size: function 43 -/
def book_Size.f (a0 : Int) (a1 : Int) : Option (Int × Int) := (book_within.f a0 a1).bind fun t634 => (if t634 = true then (some (wrap64 (10 + (wrap64 ((wrap64 (2 * a0)) * (wrap64 (a1 - 1))))), 0)) else (some (0, 1)))
set_option maxHeartbeats 8000000 in
set_option maxRecDepth 100000 in
theorem book_Size.calls (a0 : Int) (a1 : Int) (r1 : Int) (r2 : Int) (w : World) (h : book_Size.f a0 a1 = some (r1, r2)) :
    Calls Try.prog 43 #[.int .i64 a0, .int .i64 a1] w fun e w' => e = .returned (.tuple #[.int .i64 r1, .int .i64 r2]) ∧ Below w.heap.size w w' := by
  have HB := Aside0.mk (Below.refl w.heap.size w)
  have H : ((book_within.f a0 a1).bind fun t634 => (if t634 = true then (some (wrap64 (10 + (wrap64 ((wrap64 (2 * a0)) * (wrap64 (a1 - 1))))), 0)) else (some (0, 1)))) = some (r1, r2) := h
  clear h
  replace H := Option.bind_eq_some_iff.mp H
  obtain ⟨t634, A30, H⟩ := H
  replace H : (if t634 = true then (some (wrap64 (10 + (wrap64 ((wrap64 (2 * a0)) * (wrap64 (a1 - 1))))), 0)) else (some (0, 1))) = some (r1, r2) := H
  have A3 := Aside0.mk A30
  clear A30
  by_cases c4 : t634 = true
  · subst c4
    have H1 : (some (wrap64 (10 + (wrap64 ((wrap64 (2 * a0)) * (wrap64 (a1 - 1))))), 0)) = some (r1, r2) := by rw [if_pos rfl] at H; exact H
    clear H
    have H := H1
    clear H1
    simp only [Option.some.injEq, Prod.mk.injEq] at H
    obtain ⟨rfl, rfl⟩ := H
    go_enter Try.func43, Try.ntmps43
    go_wp2_with (first | ((with_reducible refine gate_callee (f := 107) rfl ?_); refine goesL_ (some 8) rfl rfl Try.func107 (by kernel_rfl) rfl #[.int .i64 a0, .int .i64 a1] rfl (by (try simp only [List.map_toArray, List.map_cons, List.map_nil]); first | done | rfl | (simp only [List.length_drop, List.length_take]; rfl)) ?_; (with_reducible refine (book_within.calls a0 a1 true _ A3.out).mono ?_); rintro e w5 ⟨rfl, hb⟩; refine ⟨_, rfl, ?_⟩; have n0_ := Aside0.mk (below_step (by repeat (first | (with_reducible first | exact HB.out | apply below_alloc | apply pw_below_drewN | apply below_drew1) | exact HB.out)) hb); clear HB; have HB := n0_; clear n0_; (try clear hb); (try clear hb2); (try clear hk); (try clear hi)))
    go_ret2
    exact ⟨by first | rfl | (simp [errW_none, errW_some] <;> rfl) | (simp [*, errW_none, errW_some] <;> rfl), by repeat (first | (with_reducible first | exact HB.out | apply below_alloc | apply pw_below_drewN | apply below_drew1) | exact HB.out)⟩
  · replace c4 := Bool.eq_false_iff.mpr c4
    subst c4
    have H1 : (some (0, 1)) = some (r1, r2) := by rw [if_neg (show ¬ (false = true) by decide)] at H; exact H
    clear H
    have H := H1
    clear H1
    simp only [Option.some.injEq, Prod.mk.injEq] at H
    obtain ⟨rfl, rfl⟩ := H
    go_enter Try.func43, Try.ntmps43
    go_wp2_with (first | ((with_reducible refine gate_callee (f := 107) rfl ?_); refine goesL_ (some 8) rfl rfl Try.func107 (by kernel_rfl) rfl #[.int .i64 a0, .int .i64 a1] rfl (by (try simp only [List.map_toArray, List.map_cons, List.map_nil]); first | done | rfl | (simp only [List.length_drop, List.length_take]; rfl)) ?_; (with_reducible refine (book_within.calls a0 a1 false _ A3.out).mono ?_); rintro e w6 ⟨rfl, hb⟩; refine ⟨_, rfl, ?_⟩; have n0_ := Aside0.mk (below_step (by repeat (first | (with_reducible first | exact HB.out | apply below_alloc | apply pw_below_drewN | apply below_drew1) | exact HB.out)) hb); clear HB; have HB := n0_; clear n0_; (try clear hb); (try clear hb2); (try clear hk); (try clear hi)))
    go_ret2
    exact ⟨by first | rfl | (simp [errW_none, errW_some] <;> rfl) | (simp [*, errW_none, errW_some] <;> rfl), by repeat (first | (with_reducible first | exact HB.out | apply below_alloc | apply pw_below_drewN | apply below_drew1) | exact HB.out)⟩

end Go.Proofs.Ytkjibgfgbfacdaa.P
end
/-! part: F44 -/
section
set_option linter.unusedVariables false
set_option linter.unusedSimpArgs false
namespace Go.Proofs.Ytkjibgfgbfacdaa.P
open Go.RowKit Go.Proofs.YtkjibgfgbfacdaaW.PrintWords Go.Proofs.YtkjibgfgbfacdaaW.PrintLast Go.Proofs.YtkjibgfgbfacdaaW.PrintMore
attribute [local go_sem] max2_int min2_int max_two min_two max_three min_three max_four min_four   -- for this text's walks alone
set_option linter.unusedVariables false
set_option linter.unusedSimpArgs false

/-! ### cuvetteref08_Size: function 44 -/
def cuvetteref08_Size.f (a0 : Int) (a1 : Int) : Option (Int × Int) := (cuvetteref08_sizes.f a0 a1).bind fun t635 => (if t635 = true then (some (wrap64 (10 + (wrap64 ((wrap64 (2 * a0)) * (wrap64 (a1 - 1))))), 0)) else (some (0, 1)))
set_option maxHeartbeats 8000000 in
set_option maxRecDepth 100000 in
theorem cuvetteref08_Size.calls (a0 : Int) (a1 : Int) (r1 : Int) (r2 : Int) (w : World) (h : cuvetteref08_Size.f a0 a1 = some (r1, r2)) :
    Calls Try.prog 44 #[.int .i64 a0, .int .i64 a1] w fun e w' => e = .returned (.tuple #[.int .i64 r1, .int .i64 r2]) ∧ Drawn0 w w' := by
  have H : ((cuvetteref08_sizes.f a0 a1).bind fun t635 => (if t635 = true then (some (wrap64 (10 + (wrap64 ((wrap64 (2 * a0)) * (wrap64 (a1 - 1))))), 0)) else (some (0, 1)))) = some (r1, r2) := h
  clear h
  replace H := Option.bind_eq_some_iff.mp H
  obtain ⟨t635, A30, H⟩ := H
  replace H : (if t635 = true then (some (wrap64 (10 + (wrap64 ((wrap64 (2 * a0)) * (wrap64 (a1 - 1))))), 0)) else (some (0, 1))) = some (r1, r2) := H
  have A3 := Aside0.mk A30
  clear A30
  by_cases c4 : t635 = true
  · subst c4
    have H1 : (some (wrap64 (10 + (wrap64 ((wrap64 (2 * a0)) * (wrap64 (a1 - 1))))), 0)) = some (r1, r2) := by rw [if_pos rfl] at H; exact H
    clear H
    have H := H1
    clear H1
    simp only [Option.some.injEq, Prod.mk.injEq] at H
    obtain ⟨rfl, rfl⟩ := H
    go_enter Try.func44, Try.ntmps44
    go_wp2_with (first | ((with_reducible refine gate_callee (f := 108) rfl ?_); refine goesL_ (some 8) rfl rfl Try.func108 (by kernel_rfl) rfl #[.int .i64 a0, .int .i64 a1] rfl (by (try simp only [List.map_toArray, List.map_cons, List.map_nil]); first | done | rfl | (simp only [List.length_drop, List.length_take]; rfl)) ?_; (with_reducible refine (cuvetteref08_sizes.calls a0 a1 true _ A3.out).mono ?_); rintro e w' ⟨rfl, ⟨nd, rfl⟩⟩; refine ⟨_, rfl, ?_⟩))
    go_ret2
    exact ⟨by first | rfl | (simp; done) | (simp [*]; done), by repeat (first | exact Drawn0.refl _ | apply Drawn0.step)⟩
  · replace c4 := Bool.eq_false_iff.mpr c4
    subst c4
    have H1 : (some (0, 1)) = some (r1, r2) := by rw [if_neg (show ¬ (false = true) by decide)] at H; exact H
    clear H
    have H := H1
    clear H1
    simp only [Option.some.injEq, Prod.mk.injEq] at H
    obtain ⟨rfl, rfl⟩ := H
    go_enter Try.func44, Try.ntmps44
    go_wp2_with (first | ((with_reducible refine gate_callee (f := 108) rfl ?_); refine goesL_ (some 8) rfl rfl Try.func108 (by kernel_rfl) rfl #[.int .i64 a0, .int .i64 a1] rfl (by (try simp only [List.map_toArray, List.map_cons, List.map_nil]); first | done | rfl | (simp only [List.length_drop, List.length_take]; rfl)) ?_; (with_reducible refine (cuvetteref08_sizes.calls a0 a1 false _ A3.out).mono ?_); rintro e w' ⟨rfl, ⟨nd, rfl⟩⟩; refine ⟨_, rfl, ?_⟩))
    go_ret2
    exact ⟨by first | rfl | (simp; done) | (simp [*]; done), by repeat (first | exact Drawn0.refl _ | apply Drawn0.step)⟩

end Go.Proofs.Ytkjibgfgbfacdaa.P
end
/-! part: F45 -/
section
set_option linter.unusedVariables false
set_option linter.unusedSimpArgs false
namespace Go.Proofs.Ytkjibgfgbfacdaa.P
open Go.RowKit Go.Proofs.YtkjibgfgbfacdaaW.PrintWords Go.Proofs.YtkjibgfgbfacdaaW.PrintLast Go.Proofs.YtkjibgfgbfacdaaW.PrintMore
attribute [local go_sem] max2_int min2_int max_two min_two max_three min_three max_four min_four   -- for this text's walks alone
set_option linter.unusedVariables false
set_option linter.unusedSimpArgs false

/-! ### cuvetteref01_SameBytes: function 45 -/
def cuvetteref01_SameBytes.f (l0 : List Int) (l1 : List Int) : Option (Bool) := some ((strOfNums l0).toList == (strOfNums l1).toList)
set_option maxHeartbeats 8000000 in
set_option maxRecDepth 100000 in
theorem cuvetteref01_SameBytes.calls (A0 : Option Addr) (c0 : Nat) (l0 : List Int) (A1 : Option Addr) (c1 : Nat) (l1 : List Int) (r : Bool) (w : World) (hr0 : Kd.C (Kd.int .u8) w A0 l0.length l0) (hc0 : l0.length ≤ c0) (hr1 : Kd.C (Kd.int .u8) w A1 l1.length l1) (hc1 : l1.length ≤ c1) (h : cuvetteref01_SameBytes.f l0 l1 = some r) :
    Calls Try.prog 45 #[.slice A0 l0.length c0, .slice A1 l1.length c1] w fun e w' => e = .returned (.bool r) ∧ Drawn0 w w' := by
  have HR0 := Aside0.mk hr0
  have HC0 := Aside0.mk hc0
  clear hr0 hc0
  have HR1 := Aside0.mk hr1
  have HC1 := Aside0.mk hc1
  clear hr1 hc1
  have H : (some ((strOfNums l0).toList == (strOfNums l1).toList)) = some r := h
  clear h
  obtain rfl := Option.some.inj H
  have hcv3 := Kd.C_string (P := Try.prog) (A := A0) (c := c0) Try.underlying50 Try.underlying5 Try.underlying9 HR0.out
  have hcv4 := Kd.C_string (P := Try.prog) (A := A1) (c := c1) Try.underlying50 Try.underlying5 Try.underlying9 HR1.out
  go_enter Try.func45, Try.ntmps45
  go_wp2
  go_ret
  exact ⟨by first | rfl | (simp; done) | (simp [*]; done), by repeat (first | exact Drawn0.refl _ | apply Drawn0.step)⟩

end Go.Proofs.Ytkjibgfgbfacdaa.P
end
