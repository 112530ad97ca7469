/- The law RankCounts of this seat answers true for every input, and its arguments read as they did. Conditions: none. -/
import Derived.KernelRfl
import Derived.Test.YtkjibgfgbfacdaaRows
import Derived.Test.YtkjibgfgbfacdaaKRankCounts0
import Derived.Test.YtkjibgfgbfacdaaKRankCounts1
import Derived.Test.YtkjibgfgbfacdaaKRankCounts2
/-! part: F39 -/
section
set_option linter.unusedVariables false
set_option linter.unusedSimpArgs false
namespace Go.Proofs.Ytkjibgfgbfacdaa.P
open Go.RowKit Go.Proofs.YtkjibgfgbfacdaaW.PrintWords Go.Proofs.YtkjibgfgbfacdaaW.PrintLast Go.Proofs.YtkjibgfgbfacdaaW.PrintMore
attribute [local go_sem] max2_int min2_int max_two min_two max_three min_three max_four min_four   -- for this text's walks alone
set_option linter.unusedVariables false
set_option linter.unusedSimpArgs false

/-! ### book_From: function 39 -/
mutual
def book_From.j0 : Nat → List Int → Int → Int → List Int → Bool → Option (Int × (List (List Int)) × Int)
  | 0, _, _, _, _, _ => none
  | k + 1, x4, x7, x8, x9, x54 => if x54 = true then (some (0, ([] : List (List Int)), 2)) else (if 0 < (x4.length : Int) then (if 0 ≤ x7 then (if (x7 : Int).toNat ≤ 11728124029610 then ((some (List.replicate (x7 : Int).toNat [] : List (List Int))).bind fun y573 => (book_From.l0 k x8 x9 (y573.length : Int) 0 (rd x4 0) y573)) else (none)) else (none)) else (none))
def book_From.l0 : Nat → Int → List Int → Int → Int → Int → List (List Int) → Option (Int × (List (List Int)) × Int)
  | 0, _, _, _, _, _, _ => none
  | k + 1, x8, x9, x64, x65, x577000, x577001 => if x65 < x64 then (if 0 ≤ x8 then (if (x8 : Int).toNat ≤ 140737488355328 then ((some (List.replicate (x8 : Int).toNat 0 : List Int)).bind fun y578 => (book_From.l1 k x8 x9 x65 y578 x64 x65 (y578.length : Int) 0 x577000 x577001)) else (none)) else (none)) else ((h_quant_Check.f x577000 x577001).bind fun t577 => (if t577 = 0 then (some (x577000, x577001, 0)) else (some (0, ([] : List (List Int)), 2))))
def book_From.l1 : Nat → Int → List Int → Int → List Int → Int → Int → Int → Int → Int → List (List Int) → Option (Int × (List (List Int)) × Int)
  | 0, _, _, _, _, _, _, _, _, _, _ => none
  | k + 1, x8, x9, x13, x14, x64, x65, x71, x72, x577000, x577001 => if x72 < x71 then (if 0 ≤ (wrap64 ((wrap64 (x13 * x8)) + x72)) then (if (wrap64 ((wrap64 (x13 * x8)) + x72)) < (x9.length : Int) then (if 0 ≤ x72 then (if x72 < (x14.length : Int) then (book_From.l1 k x8 x9 x13 (x14.set (x72 : Int).toNat (IntKind.i16.wrap (rd x9 (wrap64 ((wrap64 (x13 * x8)) + x72))))) x64 x65 x71 (wrap64 (x72 + 1)) x577000 x577001) else (none)) else (none)) else (none)) else (none)) else (if 0 ≤ x13 then (if x13 < (x577001.length : Int) then (book_From.l0 k x8 x9 x64 (wrap64 (x65 + 1)) x577000 (x577001.set (x13 : Int).toNat x14)) else (none)) else (none))
end
def book_From.f (k : Nat) (l0 : List Int) : Option (Int × (List (List Int)) × Int) := if (l0.length : Int) < 10 then (some (0, ([] : List (List Int)), 2)) else ((pack_Take.f k l0 8 1).bind fun bt555 => (if 8 < (l0.length : Int) then (if 9 < (l0.length : Int) then (if 10 ≤ (l0.length : Int) then ((pack_Take.f k (l0.drop 10) 2 (wrap64 ((wrap64 (rd l0 8)) * (wrap64 (rd l0 9))))).bind fun bt565 => (if bt555.2.2 = 0 then (if bt565.2.2 = 0 then (book_From.j0 k bt555.1 (wrap64 (rd l0 8)) (wrap64 (rd l0 9)) bt565.1 (decide ((bt565.2.1.length : Int) > 0))) else (book_From.j0 k bt555.1 (wrap64 (rd l0 8)) (wrap64 (rd l0 9)) bt565.1 true)) else (book_From.j0 k bt555.1 (wrap64 (rd l0 8)) (wrap64 (rd l0 9)) bt565.1 true))) else (none)) else (none)) else (none)))
theorem book_From.mono_l : ∀ k, (∀ y0 y1 y2 y3 y4, LeO (book_From.j0 k y0 y1 y2 y3 y4) (book_From.j0 (k + 1) y0 y1 y2 y3 y4)) ∧ (∀ y0 y1 y2 y3 y4 y5, LeO (book_From.l0 k y0 y1 y2 y3 y4 y5) (book_From.l0 (k + 1) y0 y1 y2 y3 y4 y5)) ∧ (∀ y0 y1 y2 y3 y4 y5 y6 y7 y8 y9, LeO (book_From.l1 k y0 y1 y2 y3 y4 y5 y6 y7 y8 y9) (book_From.l1 (k + 1) y0 y1 y2 y3 y4 y5 y6 y7 y8 y9))
  | 0 => ⟨fun _ _ _ _ _ r h => by simp [book_From.j0] at h, fun _ _ _ _ _ _ r h => by simp [book_From.l0] at h, fun _ _ _ _ _ _ _ _ _ _ r h => by simp [book_From.l1] at h⟩
  | k + 1 => by
    obtain ⟨ih0, ih1, ih2⟩ := book_From.mono_l k
    refine ⟨?_, ?_, ?_⟩
    · intro y0 y1 y2 y3 y4
      unfold book_From.j0
      repeat' first
      | (with_reducible exact ih0 _ _ _ _ _)
      | (with_reducible exact ih1 _ _ _ _ _ _)
      | (with_reducible exact ih2 _ _ _ _ _ _ _ _ _ _)
      | (with_reducible exact pack_Take.mono _ _ _ _)
      | (with_reducible exact LeO.refl _)
      | (with_reducible exact LeO.none _)
      | (with_reducible refine LeO.ite ?_ ?_)
      | (with_reducible refine LeO.bind ?_ (fun _ => ?_))
      | exact ih0 _ _ _ _ _
      | exact ih1 _ _ _ _ _ _
      | exact ih2 _ _ _ _ _ _ _ _ _ _
      | exact pack_Take.mono _ _ _ _
      | exact LeO.none _
      | refine LeO.ite ?_ ?_
      | refine LeO.bind ?_ (fun _ => ?_)
    · intro y0 y1 y2 y3 y4 y5
      unfold book_From.l0
      repeat' first
      | (with_reducible exact ih0 _ _ _ _ _)
      | (with_reducible exact ih1 _ _ _ _ _ _)
      | (with_reducible exact ih2 _ _ _ _ _ _ _ _ _ _)
      | (with_reducible exact pack_Take.mono _ _ _ _)
      | (with_reducible exact LeO.refl _)
      | (with_reducible exact LeO.none _)
      | (with_reducible refine LeO.ite ?_ ?_)
      | (with_reducible refine LeO.bind ?_ (fun _ => ?_))
      | exact ih0 _ _ _ _ _
      | exact ih1 _ _ _ _ _ _
      | exact ih2 _ _ _ _ _ _ _ _ _ _
      | exact pack_Take.mono _ _ _ _
      | exact LeO.none _
      | refine LeO.ite ?_ ?_
      | refine LeO.bind ?_ (fun _ => ?_)
    · intro y0 y1 y2 y3 y4 y5 y6 y7 y8 y9
      unfold book_From.l1
      repeat' first
      | (with_reducible exact ih0 _ _ _ _ _)
      | (with_reducible exact ih1 _ _ _ _ _ _)
      | (with_reducible exact ih2 _ _ _ _ _ _ _ _ _ _)
      | (with_reducible exact pack_Take.mono _ _ _ _)
      | (with_reducible exact LeO.refl _)
      | (with_reducible exact LeO.none _)
      | (with_reducible refine LeO.ite ?_ ?_)
      | (with_reducible refine LeO.bind ?_ (fun _ => ?_))
      | exact ih0 _ _ _ _ _
      | exact ih1 _ _ _ _ _ _
      | exact ih2 _ _ _ _ _ _ _ _ _ _
      | exact pack_Take.mono _ _ _ _
      | exact LeO.none _
      | refine LeO.ite ?_ ?_
      | refine LeO.bind ?_ (fun _ => ?_)
theorem book_From.mono : ∀ a0 k, LeO (book_From.f k a0) (book_From.f (k + 1) a0) := by
  intro a0 k
  obtain ⟨ih0, ih1, ih2⟩ := book_From.mono_l k
  unfold book_From.f
  repeat' first
      | (with_reducible exact ih0 _ _ _ _ _)
      | (with_reducible exact ih1 _ _ _ _ _ _)
      | (with_reducible exact ih2 _ _ _ _ _ _ _ _ _ _)
      | (with_reducible exact pack_Take.mono _ _ _ _)
      | (with_reducible exact LeO.refl _)
      | (with_reducible exact LeO.none _)
      | (with_reducible refine LeO.ite ?_ ?_)
      | (with_reducible refine LeO.bind ?_ (fun _ => ?_))
      | exact ih0 _ _ _ _ _
      | exact ih1 _ _ _ _ _ _
      | exact ih2 _ _ _ _ _ _ _ _ _ _
      | exact pack_Take.mono _ _ _ _
      | exact LeO.none _
      | refine LeO.ite ?_ ?_
      | refine LeO.bind ?_ (fun _ => ?_)
def book_From.T4 : Bool × List (List Nat × List Nat) := (true, [([], []), ([0], [0]), ([1], [1]), ([2], [2]), ([], []), ([4], [4]), ([5], [5]), ([6], [6]), ([3, 0, 1, 2, 3], [3]), ([7, 8, 0, 1, 2, 3, 4, 5, 6, 7, 8], [7])])
def book_From.B4 : List Nat := [0, 1, 3, 7, 0, 16, 48, 112, 15, 511]
theorem book_From.tab4 : rtab .any (opsOf Try.f39 4) = book_From.T4 := by kernel_rfl
theorem book_From.bits4 : waitsOk book_From.T4.2 book_From.B4 = true := by kernel_rfl
def book_From.T8 : Bool × List (List Nat × List Nat) := (true, [([], []), ([0], [0]), ([1], [1]), ([], []), ([3, 3], [3]), ([2, 4], [2, 4]), ([], []), ([6, 5, 0, 1, 2, 3, 4, 5, 6], [5, 6])])
def book_From.B8 : List Nat := [0, 1, 3, 0, 8, 31, 0, 127]
theorem book_From.tab8 : rtab .any (opsOf Try.f39 8) = book_From.T8 := by kernel_rfl
theorem book_From.bits8 : waitsOk book_From.T8.2 book_From.B8 = true := by kernel_rfl
set_option maxHeartbeats 8000000 in
set_option maxRecDepth 100000 in
theorem book_From.calls (k : Nat) (A0 : Option Addr) (c0 : Nat) (l0 : List Int) (r1 : Int) (r2 : List (List Int)) (r3 : Int) (w : World) (hr0 : Kd.C (Kd.int .u8) w A0 l0.length l0) (hc0 : l0.length ≤ c0) (h : book_From.f k l0 = some (r1, r2, r3)) :
    Calls Try.prog 39 #[.slice A0 l0.length c0] w fun e w' => ∃ v1_ : Value, e = .returned (.tuple #[.agg #[.int .i64 r1, v1_], .int .i64 r3]) ∧ Kd.S (Kd.slice 74 (Kd.int .i16)) 26 w' w.heap.size (fun _ => True) v1_ r2 ∧ Below w.heap.size w w' := by
  have hu49 := Try.underlying49
  have HR0 := Aside0.mk hr0
  have HC0 := Aside0.mk hc0
  clear hr0 hc0
  have HB := Aside0.mk (Below.refl w.heap.size w)
  have H : (if (l0.length : Int) < 10 then (some (0, ([] : List (List Int)), 2)) else ((pack_Take.f k l0 8 1).bind fun bt555 => (if 8 < (l0.length : Int) then (if 9 < (l0.length : Int) then (if 10 ≤ (l0.length : Int) then ((pack_Take.f k (l0.drop 10) 2 (wrap64 ((wrap64 (rd l0 8)) * (wrap64 (rd l0 9))))).bind fun bt565 => (if bt555.2.2 = 0 then (if bt565.2.2 = 0 then (book_From.j0 k bt555.1 (wrap64 (rd l0 8)) (wrap64 (rd l0 9)) bt565.1 (decide ((bt565.2.1.length : Int) > 0))) else (book_From.j0 k bt555.1 (wrap64 (rd l0 8)) (wrap64 (rd l0 9)) bt565.1 true)) else (book_From.j0 k bt555.1 (wrap64 (rd l0 8)) (wrap64 (rd l0 9)) bt565.1 true))) else (none)) else (none)) else (none)))) = some (r1, r2, r3) := h
  clear h
  by_cases c2 : (l0.length : Int) < 10
  · rw [if_pos c2] at H
    have c2b0 : decide ((l0.length : Int) < 10) = true := decide_eq_true c2
    have c2b1 : decide (l0.length < 10) = true := decide_eq_true (by omega)
    clear c2
    simp only [Option.some.injEq, Prod.mk.injEq] at H
    obtain ⟨rfl, rfl, rfl⟩ := H
    go_enter Try.func39, Try.ntmps39
    go_wp2_with (first | ((with_reducible refine gate_dst (N := 2) rfl ?_); (try (refine gate_guard (by rfl) ?_; dsimp only)); refine box_event ?hg (N := 2) ?hd (cs := #[.int .i64 0, .slice none 0 0]) (t := 49) ?hr ?_; (case hd => rfl); (case hg => rfl); (case hr => first | (go_simp; done) | (go_simp; rfl)); intro gb554 hg w3 hbox hb; have n0_ := Aside0.mk (below_step (by repeat (first | (with_reducible first | exact HB.out | apply below_alloc | apply pw_below_drewN | apply below_drew1) | exact HB.out)) hb); have n1_ := Aside0.mk (hbox); have n2_ := Aside0.mk ((by rw [hg]; exact (below_size (by repeat (first | (with_reducible first | exact HB.out | apply below_alloc | apply pw_below_drewN | apply below_drew1) | exact HB.out))) : w.heap.size ≤ gb554)); have n3_ := Aside0.mk ((by rw [hg]; exact (below_size (by repeat (first | (with_reducible first | exact HB.out | apply below_alloc | apply pw_below_drewN | apply below_drew1) | exact HB.out))) : w.heap.size ≤ gb554)); clear HB; have HB := n0_; have BK554 := n1_; have GW554 := n2_; have GE554 := n3_; clear n0_ n1_ n2_ n3_; clear hb hbox hg; have hcz4_0 : w3.cell? ⟨gb554, 0, none⟩ = some (.int .i64 0) := (blk_cell BK554.out 0).trans rfl; have hcz4_1 : w3.cell? ⟨gb554, 1, none⟩ = some (.slice none 0 0) := (blk_cell BK554.out 1).trans rfl; have hfz4_0 := blk_frozen BK554.out 0; have hfz4_1 := blk_frozen BK554.out 1))
    refine bodyPost_ret (results_ct rfl _ _ gb554 49 #[.int .i64 0, .slice none 0 0] (0, 0) _ rfl (by (with_reducible repeat (first | refine blk_drewN ?_ _ | refine blk_drew ?_ | refine blk_alloc ?_ _)); refine blk_put (cs := #[.int .i64 0, .slice none 0 0]) ?_ 1 _ rfl; (with_reducible repeat (first | refine blk_drewN ?_ _ | refine blk_drew ?_ | refine blk_alloc ?_ _)); refine blk_put (cs := #[.int .i64 0, .slice none 0 0]) ?_ 0 _ rfl; (with_reducible repeat (first | refine blk_drewN ?_ _ | refine blk_drew ?_ | refine blk_alloc ?_ _)); exact BK554.out) Try.underlying49 rfl (by kernel_rfl)) rfl ?_
    exact ⟨_, by first | rfl | (simp [errW_none, errW_some] <;> rfl) | (simp [*, errW_none, errW_some] <;> rfl), by first | exact Kd.S_nil _ _ _ _ _ | exact Kd.N_nil _ _ _ _ _ | exact Kd.V_nil _ _ _ _ _ | exact Kd.Q_nil _ _ _ _ _ | exact Kd.R_nil _ _ _ _ _, by repeat (first | (with_reducible first | exact HB.out | apply below_alloc | apply pw_below_drewN | apply below_drew1 | refine below_set ?_ GE554.out) | exact HB.out)⟩
  · rw [if_neg c2] at H
    have c2b0 : decide ((l0.length : Int) < 10) = false := decide_eq_false c2
    have c2b1 : decide (l0.length < 10) = false := decide_eq_false (by omega)
    clear c2
    replace H := Option.bind_eq_some_iff.mp H
    obtain ⟨⟨t555, t558, t561⟩, A50, H⟩ := H
    replace H : (if 8 < (l0.length : Int) then (if 9 < (l0.length : Int) then (if 10 ≤ (l0.length : Int) then ((pack_Take.f k (l0.drop 10) 2 (wrap64 ((wrap64 (rd l0 8)) * (wrap64 (rd l0 9))))).bind fun bt565 => (if t561 = 0 then (if bt565.2.2 = 0 then (book_From.j0 k t555 (wrap64 (rd l0 8)) (wrap64 (rd l0 9)) bt565.1 (decide ((bt565.2.1.length : Int) > 0))) else (book_From.j0 k t555 (wrap64 (rd l0 8)) (wrap64 (rd l0 9)) bt565.1 true)) else (book_From.j0 k t555 (wrap64 (rd l0 8)) (wrap64 (rd l0 9)) bt565.1 true))) else (none)) else (none)) else (none)) = some (r1, r2, r3) := H
    have A5 := Aside0.mk A50
    clear A50
    by_cases c6 : 8 < (l0.length : Int)
    · rw [if_pos c6] at H
      have c6b0 : decide (8 < (l0.length : Int)) = true := decide_eq_true c6
      have c6b1 : decide (8 < l0.length) = true := decide_eq_true (by omega)
      clear c6
      by_cases c7 : 9 < (l0.length : Int)
      · rw [if_pos c7] at H
        have c7b0 : decide (9 < (l0.length : Int)) = true := decide_eq_true c7
        have c7b1 : decide (9 < l0.length) = true := decide_eq_true (by omega)
        clear c7
        by_cases c8 : 10 ≤ (l0.length : Int)
        · rw [if_pos c8] at H
          have c8b0 := eq_true c8
          have c8b1 : decide (10 ≤ (l0.length : Int)) = true := decide_eq_true c8
          clear c8
          replace H := Option.bind_eq_some_iff.mp H
          obtain ⟨⟨t565, t568, t571⟩, A90, H⟩ := H
          replace H : (if t561 = 0 then (if t571 = 0 then (book_From.j0 k t555 (wrap64 (rd l0 8)) (wrap64 (rd l0 9)) t565 (decide ((t568.length : Int) > 0))) else (book_From.j0 k t555 (wrap64 (rd l0 8)) (wrap64 (rd l0 9)) t565 true)) else (book_From.j0 k t555 (wrap64 (rd l0 8)) (wrap64 (rd l0 9)) t565 true)) = some (r1, r2, r3) := H
          have A9 := Aside0.mk A90
          clear A90
          have HC10 := Aside0.mk H
          clear H
          go_enter Try.func39, Try.ntmps39
          try go_wp2_with (first | ((with_reducible refine gate_dst (N := 2) rfl ?_); (try (refine gate_guard (by rfl) ?_; dsimp only)); refine box_event ?hg (N := 2) ?hd (cs := #[.int .i64 0, .slice none 0 0]) (t := 49) ?hr ?_; (case hd => rfl); (case hg => rfl); (case hr => first | (go_simp; done) | (go_simp; rfl)); intro gb554 hg w11 hbox hb; have n0_ := Aside0.mk (below_step (by repeat (first | (with_reducible first | exact HB.out | apply below_alloc | apply pw_below_drewN | apply below_drew1) | exact HB.out)) hb); have n1_ := Aside0.mk (hbox); have n2_ := Aside0.mk ((by rw [hg]; exact (below_size (by repeat (first | (with_reducible first | exact HB.out | apply below_alloc | apply pw_below_drewN | apply below_drew1) | exact HB.out))) : w.heap.size ≤ gb554)); have n3_ := Aside0.mk ((by rw [hg]; exact (below_size (by repeat (first | (with_reducible first | exact HB.out | apply below_alloc | apply pw_below_drewN | apply below_drew1) | exact HB.out))) : w.heap.size ≤ gb554)); clear HB; have HB := n0_; have BK554 := n1_; have GW554 := n2_; have GE554 := n3_; clear n0_ n1_ n2_ n3_; clear hb hbox hg) | ((with_reducible refine gate_callee (f := 105) rfl ?_); refine goesL_ (some 22) rfl rfl Try.func105 (by kernel_rfl) rfl #[.slice A0 l0.length c0, .int .i64 8, .int .i64 1] rfl (by (try simp only [List.map_toArray, List.map_cons, List.map_nil]); first | done | rfl | (simp only [List.length_drop, List.length_take]; rfl)) ?_; (with_reducible refine (pack_Take.calls k (fun k_ => k_ < w.heap.size) _ _ l0 8 1 t555 t558 t561 _ ?side1 A5.out).mono ?_); (case side1 => exact Kd.V_mk HC0.out (Kd.F_below (Kd.C_F (Kd.heap_int .u8) HR0.out) (by repeat (first | (with_reducible first | exact HB.out | apply below_alloc | apply pw_below_drewN | apply below_drew1 | refine below_set ?_ GE554.out) | exact HB.out)))); rintro e w12 ⟨v556, v559, rfl, ho0, ho1, hb⟩; refine ⟨_, rfl, ?_⟩; have n0_ := Aside0.mk (Kd.R_lower (Kd.R_mono (ok' := fun k_ => True) ho0 (fun _ hk_ => trivial)) (below_size (by repeat (first | (with_reducible first | exact HB.out | apply below_alloc | apply pw_below_drewN | apply below_drew1 | refine below_set ?_ GE554.out) | exact HB.out)))); have n1_ := Aside0.mk (Kd.R_lower (Kd.R_mono (ok' := fun k_ => True) ho1 (fun _ hk_ => trivial)) (below_size (by repeat (first | (with_reducible first | exact HB.out | apply below_alloc | apply pw_below_drewN | apply below_drew1 | refine below_set ?_ GE554.out) | exact HB.out)))); have n2_ := Aside0.mk (blk_below (g := gb554) (o := .cells #[.int .i64 0, .slice none 0 0] 49 (0, 0)) (by (with_reducible repeat (first | refine blk_drewN ?_ _ | refine blk_drew ?_ | refine blk_alloc ?_ _)); exact BK554.out) hb); have n3_ := Aside0.mk (below_step (by repeat (first | (with_reducible first | exact HB.out | apply below_alloc | apply pw_below_drewN | apply below_drew1 | refine below_set ?_ GE554.out) | exact HB.out)) hb); clear BK554; clear HB; have HO557 := n0_; have HO560 := n1_; have BK554 := n2_; have HB := n3_; clear n0_ n1_ n2_ n3_; (try clear hb); (try clear hb2); (try clear hk); (try clear hi); (try clear ho0); (try clear ho1)))
          have n0_ := Aside0.mk (Kd.R_drew HO557.out)
          have n1_ := Aside0.mk (Kd.R_drew HO560.out)
          have n2_ := Aside0.mk (blk_drew BK554.out)
          have n3_ := Aside0.mk (below_drew1 HB.out)
          clear HO557
          clear HO560
          clear BK554
          clear HB
          have HO557 := n0_
          have HO560 := n1_
          have BK554 := n2_
          have HB := n3_
          clear n0_ n1_ n2_ n3_
          have p562 : 0 ≤ (8 : Int) := (by omega)
          have q562 : 8 < (l0.length : Int) := of_decide_eq_true (by first | (with_reducible assumption) | assumption)
          obtain ⟨ad562, e562, hx562_0⟩ := Kd.at_int HR0.out 8 p562 q562
          have hw562_0 := hx562_0
          (try rw [show ((8 : Int)).toNat = 8 from rfl] at hw562_0)
          (try rw [show 8 * 1 = 8 from rfl] at hw562_0)
          (try simp only [Nat.reduceMul, Nat.reduceEqDiff, Go.Addr.add, ↓reduceIte] at hw562_0)
          cases e562
          (try simp only [show (8 : Int).toNat = 8 from rfl, Nat.reduceMul, Nat.reduceEqDiff, Go.Addr.add, ↓reduceIte] at hx562_0)
          have qi562 : (8 < l0.length) = True := eq_true (by omega)
          (try rw [show ((8 : Int)).toNat = 8 from rfl] at hx562_0)
          (try replace hx562_0 := (HB.out.cell (World.block_lt_of_cell? w _ hx562_0)).trans hx562_0)
          replace p562 := eq_true p562
          replace q562 := eq_true q562
          have p563 : 0 ≤ (9 : Int) := (by omega)
          have q563 : 9 < (l0.length : Int) := of_decide_eq_true (by first | (with_reducible assumption) | assumption)
          obtain ⟨ad563, e563, hx563_0⟩ := Kd.at_int HR0.out 9 p563 q563
          have hw563_0 := hx563_0
          (try rw [show ((9 : Int)).toNat = 9 from rfl] at hw563_0)
          (try rw [show 9 * 1 = 9 from rfl] at hw563_0)
          (try simp only [Nat.reduceMul, Nat.reduceEqDiff, Go.Addr.add, ↓reduceIte] at hw563_0)
          obtain rfl : ad562 = ad563 := (by injection e563)
          (try simp only [show (9 : Int).toNat = 9 from rfl, Nat.reduceMul, Nat.reduceEqDiff, Go.Addr.add, ↓reduceIte] at hx563_0)
          have qi563 : (9 < l0.length) = True := eq_true (by omega)
          (try rw [show ((9 : Int)).toNat = 9 from rfl] at hx563_0)
          (try replace hx563_0 := (HB.out.cell (World.block_lt_of_cell? w _ hx563_0)).trans hx563_0)
          replace p563 := eq_true p563
          replace q563 := eq_true q563
          refine start_ (n := 10) (S := fun w' => w'.cell? ⟨ad562.block, ad562.off + 8, none⟩ = some (.int .u8 (rd l0 8)) ∧ w'.cell? ⟨ad562.block, ad562.off + 9, none⟩ = some (.int .u8 (rd l0 9))) (ds := []) #[false, false, false, false, false, false, false, false, false, false] (by kernel_rfl) rfl rfl ⟨((HB.out.cell (World.block_lt_of_cell? w _ hw562_0)).trans hw562_0), ((HB.out.cell (World.block_lt_of_cell? w _ hw563_0)).trans hw563_0)⟩ (fun hHeld => ?_); refine with_tabW book_From.tab4 book_From.bits4 (fun HT_ HW_ => ?_)
          generalize w12.drew = w13 at HO557 HO560 BK554 HB hx562_0 hx563_0 hHeld ⊢
          refine pure_ (i := 0) (N := some 26) (v := ?_) (a' := ?_) #[true, false, false, false, false, false, false, false, false, false] rfl rfl (any_of HT_.out (by kernel_rfl)) (fun _ _ _ h => h) (Or.inl ⟨by rfl, ?_⟩) ?_ ?_
          rotate_left
          · intro w'
            go_simp
            with_reducible rfl
          rotate_left
          · simp only [Act.put, List.setIfInBounds_toArray, List.set_cons_zero, List.set_cons_succ, i64_w, i32_w]
            rfl
          refine pure_ (i := 1) (N := some 27) (v := ?_) (a' := ?_) #[true, true, false, false, false, false, false, false, false, false] rfl rfl (any_of HT_.out (by kernel_rfl)) (fun _ _ _ h => h) (Or.inl ⟨by rfl, ?_⟩) ?_ ?_
          rotate_left
          · intro w'
            go_simp
            with_reducible rfl
          rotate_left
          · simp only [Act.put, List.setIfInBounds_toArray, List.set_cons_zero, List.set_cons_succ, i64_w, i32_w]
            rfl
          refine pure_ (i := 4) (N := some 30) (v := ?_) (a' := ?_) #[true, true, false, false, true, false, false, false, false, false] rfl rfl (any_of HT_.out (by kernel_rfl)) (fun _ _ _ h => h) (Or.inl ⟨by rfl, ?_⟩) ?_ ?_
          rotate_left
          · intro w'
            go_simp
            with_reducible rfl
          rotate_left
          · simp only [Act.put, List.setIfInBounds_toArray, List.set_cons_zero, List.set_cons_succ, i64_w, i32_w]
            rfl
          refine pure_ (i := 5) (N := some 31) (v := ?_) (a' := ?_) #[true, true, false, false, true, true, false, false, false, false] rfl rfl (any_of HT_.out (by kernel_rfl)) (fun _ _ _ h => h) (Or.inl ⟨by rfl, ?_⟩) ?_ ?_
          rotate_left
          · intro w'
            go_simp
            with_reducible rfl
          rotate_left
          · simp only [Act.put, List.setIfInBounds_toArray, List.set_cons_zero, List.set_cons_succ, i64_w, i32_w]
            rfl
          refine take_ (i := 2) (N := some 28) (v := ?_) (a' := ?_) #[true, true, true, false, true, true, false, false, false, false] rfl rfl (take_ofW HT_.out HW_.out (by kernel_rfl)) (fun _ _ _ h => h) (Or.inl ⟨by rfl, ?_⟩) hHeld ?_ ?_
          rotate_left
          · rintro w' ⟨s0, s1⟩
            go_simp
            with_reducible rfl
          rotate_left
          · simp only [Act.put, List.setIfInBounds_toArray, List.set_cons_zero, List.set_cons_succ, i64_w, i32_w]
            rfl
          refine pure_ (i := 3) (N := some 29) (v := ?_) (a' := ?_) #[true, true, true, true, true, true, false, false, false, false] rfl rfl (any_of HT_.out (by kernel_rfl)) (fun _ _ _ h => h) (Or.inl ⟨by rfl, ?_⟩) ?_ ?_
          rotate_left
          · intro w'
            go_simp
            with_reducible rfl
          rotate_left
          · simp only [Act.put, List.setIfInBounds_toArray, List.set_cons_zero, List.set_cons_succ, i64_w, i32_w]
            rfl
          refine pure_ (i := 8) (N := some 7) (v := ?_) (a' := ?_) #[true, true, true, true, true, true, false, false, true, false] rfl rfl (any_of HT_.out (by kernel_rfl)) (fun _ _ _ h => h) (Or.inl ⟨by rfl, ?_⟩) ?_ ?_
          rotate_left
          · intro w'
            go_simp
            with_reducible rfl
          rotate_left
          · simp only [Act.put, List.setIfInBounds_toArray, List.set_cons_zero, List.set_cons_succ, i64_w, i32_w]
            rfl
          refine take_ (i := 6) (N := some 32) (v := ?_) (a' := ?_) #[true, true, true, true, true, true, true, false, true, false] rfl rfl (take_ofW HT_.out HW_.out (by kernel_rfl)) (fun _ _ _ h => h) (Or.inl ⟨by rfl, ?_⟩) hHeld ?_ ?_
          rotate_left
          · rintro w' ⟨s0, s1⟩
            go_simp
            with_reducible rfl
          rotate_left
          · simp only [Act.put, List.setIfInBounds_toArray, List.set_cons_zero, List.set_cons_succ, i64_w, i32_w]
            rfl
          refine pure_ (i := 7) (N := some 33) (v := ?_) (a' := ?_) #[true, true, true, true, true, true, true, true, true, false] rfl rfl (any_of HT_.out (by kernel_rfl)) (fun _ _ _ h => h) (Or.inl ⟨by rfl, ?_⟩) ?_ ?_
          rotate_left
          · intro w'
            go_simp
            with_reducible rfl
          rotate_left
          · simp only [Act.put, List.setIfInBounds_toArray, List.set_cons_zero, List.set_cons_succ, i64_w, i32_w]
            rfl
          refine pure_ (i := 9) (N := some 8) (v := ?_) (a' := ?_) #[true, true, true, true, true, true, true, true, true, true] rfl rfl (any_of HT_.out (by kernel_rfl)) (fun _ _ _ h => h) (Or.inl ⟨by rfl, ?_⟩) ?_ ?_
          rotate_left
          · intro w'
            go_simp
            with_reducible rfl
          rotate_left
          · simp only [Act.put, List.setIfInBounds_toArray, List.set_cons_zero, List.set_cons_succ, i64_w, i32_w]
            rfl
          refine done_ (done_of HT_.out (by kernel_rfl)) ?_
          obtain ⟨i014, hi014, _, hsz14, _⟩ := info_parts info5
          obtain ⟨A14, hcut14, hA14, hC14⟩ := print_drop_of (P := Try.prog) (Value.int .u8) 0 50 5 .i64 Try.underlying50 hi014 hsz14 (some ad562) c0 l0 10 (by omega) (of_decide_eq_true (by first | (with_reducible assumption) | assumption)) HC0.out
          have HR564 := Aside0.mk (Kd.C_of_reads (h1 := fun _ => rfl) (hA14 _ (Kd.reads_of_C HR0.out)))
          have HC564 := Aside0.mk hC14
          clear hA14 hC14 hi014 hsz14
          go_upto_region 6 with (first | ((with_reducible refine gate_callee (f := 105) rfl ?_); refine goesL_ (some 40) rfl rfl Try.func105 (by kernel_rfl) rfl #[.slice A14 (l0.drop 10).length (c0 - 10), .int .i64 2, .int .i64 (wrap64 ((wrap64 (rd l0 8)) * (wrap64 (rd l0 9))))] rfl (by (try simp only [List.map_toArray, List.map_cons, List.map_nil]); first | done | (rw [show (l0.drop 10).length = (l0.length - 10) from List.length_drop] <;> rfl) | rfl | (simp only [List.length_drop, List.length_take]; rfl)) ?_; (with_reducible refine (pack_Take.calls k (fun k_ => k_ < w.heap.size) _ _ (l0.drop 10) 2 (wrap64 ((wrap64 (rd l0 8)) * (wrap64 (rd l0 9)))) t565 t568 t571 _ ?side1 A9.out).mono ?_); (case side1 => exact Kd.V_mk HC564.out (Kd.F_below (Kd.C_F (Kd.heap_int .u8) HR564.out) (by repeat (first | (with_reducible first | exact HB.out | apply below_alloc | apply pw_below_drewN | apply below_drew1 | refine below_set ?_ GE554.out) | exact HB.out)))); rintro e w15 ⟨v566, v569, rfl, ho0, ho1, hb⟩; refine ⟨_, rfl, ?_⟩; have n0_ := Aside0.mk (Kd.R_elder' (by (with_reducible repeat (first | apply Kd.R_alloc | apply Kd.R_drewN | apply Kd.R_drew)); exact HO557.out) (Kd.R_base ho0) hb); have n1_ := Aside0.mk (Kd.R_elder' (by (with_reducible repeat (first | apply Kd.R_alloc | apply Kd.R_drewN | apply Kd.R_drew)); exact HO560.out) (Kd.R_base ho1) hb); have n2_ := Aside0.mk (Kd.R_lower (Kd.R_new' (Kd.R_mono (ok' := fun k_ => True) ho0 (fun _ hk_ => trivial)) (Kd.R_lt (by (with_reducible repeat (first | apply Kd.R_alloc | apply Kd.R_drewN | apply Kd.R_drew)); exact HO557.out))) (below_size (by repeat (first | (with_reducible first | exact HB.out | apply below_alloc | apply pw_below_drewN | apply below_drew1 | refine below_set ?_ GE554.out) | exact HB.out)))); have n3_ := Aside0.mk (Kd.R_lower (Kd.R_new' (Kd.R_mono (ok' := fun k_ => True) ho1 (fun _ hk_ => trivial)) (Kd.R_lt (by (with_reducible repeat (first | apply Kd.R_alloc | apply Kd.R_drewN | apply Kd.R_drew)); exact HO560.out))) (below_size (by repeat (first | (with_reducible first | exact HB.out | apply below_alloc | apply pw_below_drewN | apply below_drew1 | refine below_set ?_ GE554.out) | exact HB.out)))); have n4_ := Aside0.mk (blk_below (g := gb554) (o := .cells #[.int .i64 0, .slice none 0 0] 49 (0, 0)) (by (with_reducible repeat (first | refine blk_drewN ?_ _ | refine blk_drew ?_ | refine blk_alloc ?_ _)); exact BK554.out) hb); have n5_ := Aside0.mk (below_step (by repeat (first | (with_reducible first | exact HB.out | apply below_alloc | apply pw_below_drewN | apply below_drew1 | refine below_set ?_ GE554.out) | exact HB.out)) hb); clear HO557; clear HO560; clear BK554; clear HB; have HO557 := n0_; have HO560 := n1_; have HO567 := n2_; have HO570 := n3_; have BK554 := n4_; have HB := n5_; clear n0_ n1_ n2_ n3_ n4_ n5_; (try clear hb); (try clear hb2); (try clear hk); (try clear hi); (try clear ho0); (try clear ho1)))
          (try simp only [Act.put, List.setIfInBounds_toArray, List.set_cons_zero, List.set_cons_succ])
          go_cut [54] (fun v54 wc => ∃ (kq : Nat) (x54_9 : Bool), v54 = .bool x54_9 ∧ Aside0 (book_From.j0 kq t555 (wrap64 (rd l0 8)) (wrap64 (rd l0 9)) t565 x54_9 = some (r1, r2, r3)) ∧ Aside0 (kq ≤ k) ∧ Aside0 (Kd.R (Kd.int .i64) 2 wc w.heap.size (fun k_ => some k_ ≠ (v566 : Value).ownBlock) v556 t555) ∧ Aside0 (Kd.R (Kd.int .i64) 2 wc w.heap.size (fun k_ => some k_ ≠ (v556 : Value).ownBlock) v566 t565) ∧ Aside0 (wc.heap[gb554]? = some (.cells #[.int .i64 0, (.slice none 0 0)] 49 (0, 0))) ∧ Aside0 (Below w.heap.size w wc))
          case first =>
            have H := HC10.out
            clear HC10
            by_cases c16 : t561 = 0
            · rw [if_pos c16] at H
              have c16b0 : (t561 == 0) = true := beq_iff_eq.mpr c16
              have c16b1 : (t561 != 0) = false := bne_eq_false_iff_eq.mpr c16
              clear c16
              (first | rw [c16b0] | (simp only [i64_w, i32_w]; rw [c16b0]) | skip)
              by_cases c17 : t571 = 0
              · rw [if_pos c17] at H
                have c17b0 : (t571 == 0) = true := beq_iff_eq.mpr c17
                have c17b1 : (t571 != 0) = false := bne_eq_false_iff_eq.mpr c17
                clear c17
                have H' := Aside0.mk H
                clear H
                obtain ⟨Ao18, co18, eo18⟩ := Kd.R_slice HO570.out
                subst eo18
                go_wp2
                go_meet
                case rel => exact ⟨_, (decide ((t568.length : Int) > 0)), (by first | rfl | (simp; done) | (simp [*]; done)), (by first | exact H' | (rw [hji22]; exact H') | (rw [hji38]; exact H') | (rw [hji45]; exact H')), ⟨by first | omega | exact Nat.le_refl _⟩, ⟨by (with_reducible repeat (first | apply Kd.R_alloc | apply Kd.R_drewN | apply Kd.R_drew)); exact Kd.R_mono HO557.out (fun _ hk => hk.2)⟩, ⟨by (with_reducible repeat (first | apply Kd.R_alloc | apply Kd.R_drewN | apply Kd.R_drew)); exact Kd.R_mono HO567.out (fun _ hk => hk.2)⟩, ⟨by (with_reducible repeat (first | refine blk_drewN ?_ _ | refine blk_drew ?_ | refine blk_alloc ?_ _)); exact BK554.out⟩, ⟨by repeat (first | (with_reducible first | exact HB.out | apply below_alloc | apply pw_below_drewN | apply below_drew1 | refine below_set ?_ GE554.out) | exact HB.out)⟩⟩
              · rw [if_neg c17] at H
                have c17b0 : (t571 == 0) = false := beq_eq_false_iff_ne.mpr c17
                have c17b1 : (t571 != 0) = true := bne_iff_ne.mpr c17
                have H' := Aside0.mk H
                clear H
                go_wp2
                go_meet
                case rel => exact ⟨_, (true), (by first | rfl | (simp; done) | (simp [*]; done)), (by first | exact H' | (rw [hji22]; exact H') | (rw [hji38]; exact H') | (rw [hji45]; exact H')), ⟨by first | omega | exact Nat.le_refl _⟩, ⟨by (with_reducible repeat (first | apply Kd.R_alloc | apply Kd.R_drewN | apply Kd.R_drew)); exact Kd.R_mono HO557.out (fun _ hk => hk.2)⟩, ⟨by (with_reducible repeat (first | apply Kd.R_alloc | apply Kd.R_drewN | apply Kd.R_drew)); exact Kd.R_mono HO567.out (fun _ hk => hk.2)⟩, ⟨by (with_reducible repeat (first | refine blk_drewN ?_ _ | refine blk_drew ?_ | refine blk_alloc ?_ _)); exact BK554.out⟩, ⟨by repeat (first | (with_reducible first | exact HB.out | apply below_alloc | apply pw_below_drewN | apply below_drew1 | refine below_set ?_ GE554.out) | exact HB.out)⟩⟩
            · rw [if_neg c16] at H
              have c16b0 : (t561 == 0) = false := beq_eq_false_iff_ne.mpr c16
              have c16b1 : (t561 != 0) = true := bne_iff_ne.mpr c16
              (first | rw [c16b0] | (simp only [i64_w, i32_w]; rw [c16b0]) | skip)
              have H' := Aside0.mk H
              clear H
              go_wp2
              go_meet
              case rel => exact ⟨_, (true), (by first | rfl | (simp; done) | (simp [*]; done)), (by first | exact H' | (rw [hji22]; exact H') | (rw [hji38]; exact H') | (rw [hji45]; exact H')), ⟨by first | omega | exact Nat.le_refl _⟩, ⟨by (with_reducible repeat (first | apply Kd.R_alloc | apply Kd.R_drewN | apply Kd.R_drew)); exact Kd.R_mono HO557.out (fun _ hk => hk.2)⟩, ⟨by (with_reducible repeat (first | apply Kd.R_alloc | apply Kd.R_drewN | apply Kd.R_drew)); exact Kd.R_mono HO567.out (fun _ hk => hk.2)⟩, ⟨by (with_reducible repeat (first | refine blk_drewN ?_ _ | refine blk_drew ?_ | refine blk_alloc ?_ _)); exact BK554.out⟩, ⟨by repeat (first | (with_reducible first | exact HB.out | apply below_alloc | apply pw_below_drewN | apply below_drew1 | refine below_set ?_ GE554.out) | exact HB.out)⟩⟩
          case rest =>
            clear HC10
            try clear c1
            try clear c2
            try clear c2b0
            try clear c2b1
            try clear p2
            try clear c3
            try clear p5
            try clear q5
            try clear hx5
            try clear qi5
            try clear c6
            try clear c6b0
            try clear c6b1
            try clear p6
            try clear c7
            try clear c7b0
            try clear c7b1
            try clear c8
            try clear c8b0
            try clear c8b1
            try clear c10
            try clear c16
            try clear c16b0
            try clear c16b1
            try clear c17
            try clear c17b0
            try clear c17b1
            try clear hcz4_0
            try clear hcz4_1
            try clear hfz4_0
            try clear hfz4_1
            try clear hx562_0
            try clear hx563_0
            try clear p562
            try clear p563
            try clear q562
            try clear q563
            obtain ⟨kq, x54_9, rfl, HA, HJ9, HO_4, HO_9, BK554, HB⟩ := hcut
            cases kq with
            | zero => exact absurd HA.out (by simp [book_From.j0])
            | succ kj9 =>
              have H := HA.out
              clear HA
              simp only [book_From.j0] at H
              by_cases c19 : x54_9 = true
              · subst c19
                have H1 : (some (0, ([] : List (List Int)), 2)) = some (r1, r2, r3) := by first | (rw [if_pos rfl] at H; exact H) | (rw [if_pos trivial] at H; exact H)
                clear H
                have H := H1
                clear H1
                simp only [Option.some.injEq, Prod.mk.injEq] at H
                obtain ⟨rfl, rfl, rfl⟩ := H
                have hcz20_0 : wc.cell? ⟨gb554, 0, none⟩ = some (.int .i64 0) := (blk_cell BK554.out 0).trans rfl
                have hcz20_1 : wc.cell? ⟨gb554, 1, none⟩ = some (.slice none 0 0) := (blk_cell BK554.out 1).trans rfl
                have hfz20_0 := blk_frozen BK554.out 0
                have hfz20_1 := blk_frozen BK554.out 1
                go_wp2
                refine bodyPost_ret (results_ct rfl _ _ gb554 49 #[.int .i64 0, .slice none 0 0] (0, 0) _ rfl (by (with_reducible repeat (first | refine blk_drewN ?_ _ | refine blk_drew ?_ | refine blk_alloc ?_ _)); refine blk_put (cs := #[.int .i64 0, .slice none 0 0]) ?_ 1 _ rfl; (with_reducible repeat (first | refine blk_drewN ?_ _ | refine blk_drew ?_ | refine blk_alloc ?_ _)); refine blk_put (cs := #[.int .i64 0, .slice none 0 0]) ?_ 0 _ rfl; (with_reducible repeat (first | refine blk_drewN ?_ _ | refine blk_drew ?_ | refine blk_alloc ?_ _)); exact BK554.out) Try.underlying49 rfl (by kernel_rfl)) rfl ?_
                exact ⟨_, by first | rfl | (simp [errW_none, errW_some] <;> rfl) | (simp [*, errW_none, errW_some] <;> rfl), by first | exact Kd.S_nil _ _ _ _ _ | exact Kd.N_nil _ _ _ _ _ | exact Kd.V_nil _ _ _ _ _ | exact Kd.Q_nil _ _ _ _ _ | exact Kd.R_nil _ _ _ _ _, by repeat (first | (with_reducible first | exact HB.out | apply below_alloc | apply pw_below_drewN | apply below_drew1 | refine below_set ?_ GE554.out) | exact HB.out)⟩
              · replace c19 := Bool.eq_false_iff.mpr c19
                subst c19
                have H1 : (if 0 < (t555.length : Int) then (if 0 ≤ (wrap64 (rd l0 8)) then (if ((wrap64 (rd l0 8)) : Int).toNat ≤ 11728124029610 then ((some (List.replicate ((wrap64 (rd l0 8)) : Int).toNat [] : List (List Int))).bind fun y573 => (book_From.l0 kj9 (wrap64 (rd l0 9)) t565 (y573.length : Int) 0 (rd t555 0) y573)) else (none)) else (none)) else (none)) = some (r1, r2, r3) := by rw [if_neg (show ¬ (false = true) by decide)] at H; exact H
                clear H
                have H := H1
                clear H1
                by_cases c21 : 0 < (t555.length : Int)
                · rw [if_pos c21] at H
                  have c21b0 : decide (0 < (t555.length : Int)) = true := decide_eq_true c21
                  have c21b1 : decide (0 < t555.length) = true := decide_eq_true (by omega)
                  clear c21
                  obtain ⟨ji22, hji22⟩ : ∃ j_ : Int, (wrap64 (rd l0 8)) = j_ := ⟨_, rfl⟩
                  replace H : (if 0 ≤ (ji22) then (if ((ji22) : Int).toNat ≤ 11728124029610 then ((some (List.replicate ((ji22) : Int).toNat [] : List (List Int))).bind fun y573 => (book_From.l0 kj9 (wrap64 (rd l0 9)) t565 (y573.length : Int) 0 (rd t555 0) y573)) else (none)) else (none)) = some (r1, r2, r3) := by first | (rw [hji22] at H; exact H) | (simp only [hji22] at H ⊢; exact H)
                  have hji22w : (IntKind.i64.wrap (rd l0 8)) = ji22 := (i64_w _).trans hji22
                  by_cases c23 : 0 ≤ (ji22)
                  · rw [if_pos c23] at H
                    have c23b0 := eq_true c23
                    have c23b1 : decide (0 ≤ (ji22)) = true := decide_eq_true c23
                    clear c23
                    by_cases c24 : ((ji22) : Int).toNat ≤ 11728124029610
                    · rw [if_pos c24] at H
                      have c24b0 := eq_true c24
                      have c24b1 : decide (((ji22) : Int).toNat ≤ 11728124029610) = true := decide_eq_true c24
                      clear c24
                      obtain ⟨y573, hy573⟩ : ∃ y_ : List (List Int), y_ = (List.replicate ((ji22) : Int).toNat []) := ⟨_, rfl⟩
                      replace H : (book_From.l0 kj9 (wrap64 (rd l0 9)) t565 (y573.length : Int) 0 (rd t555 0) y573) = some (r1, r2, r3) := by first | (rw [hy573]; with_reducible exact H) | (have H2_ := (Option.bind_some _ _).symm.trans H; rw [hy573]; with_reducible exact H2_) | (have H2_ := (Option.bind_some _ _).symm.trans H; with_reducible exact H2_) | with_reducible exact H | (rw [hy573]; exact H) | exact H
                      have Ny573 := Aside0.mk hy573
                      clear hy573
                      have H' := Aside0.mk H
                      clear H
                      try go_wp2
                      have n0_ := Aside0.mk (Kd.R_drew HO_4.out)
                      have n1_ := Aside0.mk (Kd.R_drew HO_9.out)
                      have n2_ := Aside0.mk (blk_drew BK554.out)
                      have n3_ := Aside0.mk (below_drew1 HB.out)
                      clear HO_4
                      clear HO_9
                      clear BK554
                      clear HB
                      have HO_4 := n0_
                      have HO_9 := n1_
                      have BK554 := n2_
                      have HB := n3_
                      clear n0_ n1_ n2_ n3_
                      obtain ⟨Ao26, co26, eo26⟩ := Kd.R_slice HO_4.out
                      (first | subst eo26 | (injection eo26 with f1_ f2_ f3_; have f4_ := f1_.symm; have f5_ := f3_.symm; clear f1_ f2_ f3_; subst f4_; subst f5_))
                      have p572 : 0 ≤ (0 : Int) := (by omega)
                      have q572 : 0 < (t555.length : Int) := of_decide_eq_true (by first | (with_reducible assumption) | assumption)
                      obtain ⟨ad572, e572, hx572_0⟩ := Kd.at_int (Kd.R_reads' HO_4.out).2.2 0 p572 q572
                      cases e572
                      have qi572 : (0 < t555.length) = True := eq_true (by omega)
                      (try rw [show ((0 : Int)).toNat = 0 from rfl] at hx572_0)
                      (try rw [Addr.add_zero'] at hx572_0)
                      replace p572 := eq_true p572
                      replace q572 := eq_true q572
                      refine start_ (n := 8) (S := fun w' => w'.cell? ad572 = some (.int .i64 (rd t555 0))) (ds := []) #[false, false, false, false, false, false, false, false] (by kernel_rfl) rfl rfl (hx572_0) (fun hHeld => ?_); refine with_tabW book_From.tab8 book_From.bits8 (fun HT_ HW_ => ?_)
                      generalize wc.drew = w25 at HO_4 HO_9 BK554 HB hx572_0 hHeld ⊢
                      refine pure_ (i := 0) (N := some 56) (v := ?_) (a' := ?_) #[true, false, false, false, false, false, false, false] rfl rfl (any_of HT_.out (by kernel_rfl)) (fun _ _ _ h => h) (Or.inl ⟨by rfl, ?_⟩) ?_ ?_
                      rotate_left
                      · intro w'
                        go_simp
                        with_reducible rfl
                      rotate_left
                      · simp only [Act.put, List.setIfInBounds_toArray, List.set_cons_zero, List.set_cons_succ, i64_w, i32_w]
                        rfl
                      refine pure_ (i := 1) (N := some 57) (v := ?_) (a' := ?_) #[true, true, false, false, false, false, false, false] rfl rfl (any_of HT_.out (by kernel_rfl)) (fun _ _ _ h => h) (Or.inl ⟨by rfl, ?_⟩) ?_ ?_
                      rotate_left
                      · intro w'
                        go_simp
                        with_reducible rfl
                      rotate_left
                      · simp only [Act.put, List.setIfInBounds_toArray, List.set_cons_zero, List.set_cons_succ, i64_w, i32_w]
                        rfl
                      refine pure_ (i := 3) (N := some 59) (v := ?_) (a' := ?_) #[true, true, false, true, false, false, false, false] rfl rfl (any_of HT_.out (by kernel_rfl)) (fun _ _ _ h => h) (Or.inl ⟨by rfl, ?_⟩) ?_ ?_
                      rotate_left
                      · intro w'
                        go_simp
                        with_reducible rfl
                      rotate_left
                      · simp only [Act.put, List.setIfInBounds_toArray, List.set_cons_zero, List.set_cons_succ, i64_w, i32_w]
                        rfl
                      refine take_ (i := 2) (N := some 58) (v := ?_) (a' := ?_) #[true, true, true, true, false, false, false, false] rfl rfl (take_ofW HT_.out HW_.out (by kernel_rfl)) (fun _ _ _ h => h) (Or.inl ⟨by rfl, ?_⟩) hHeld ?_ ?_
                      rotate_left
                      · intro w' s0
                        go_simp
                        with_reducible rfl
                      rotate_left
                      · simp only [Act.put, List.setIfInBounds_toArray, List.set_cons_zero, List.set_cons_succ, i64_w, i32_w]
                        rfl
                      refine join_ (σ := Value × Nat) 1 #[true, true, true, true, true, true, true, false] (fun s_ => [(60, s_.1), (12, .pointer (some ⟨s_.2, 0, none⟩)), (61, .agg #[.int .i64 (rd t555 0), s_.1])]) (fun s_ w' => (w'.cell? ad572 = some (.int .i64 (rd t555 0))) ∧ (Kd.S (Kd.slice 74 (Kd.int .i16)) 26 w' w.heap.size (fun _ => True) s_.1 y573) ∧ (Kd.R (Kd.int .i64) 2 w' w.heap.size (fun k_ => some k_ ≠ (v566 : Value).ownBlock) (.slice (some ad572) t555.length co26) t555) ∧ (Kd.R (Kd.int .i64) 2 w' w.heap.size (fun k_ => some k_ ≠ (.slice (some ad572) t555.length co26 : Value).ownBlock) v566 t565) ∧ (w'.heap[gb554]? = some (.cells #[.int .i64 0, .slice none 0 0] 49 (0, 0))) ∧ (w'.heap[s_.2]? = some (.cells #[.int .i64 0, .slice none 0 0] 49 (0, 0))) ∧ (w.heap.size ≤ s_.2) ∧ (w.heap.size ≤ s_.2) ∧ (gb554 ≠ s_.2) ∧ (s_.2 ≠ gb554) ∧ (Below w.heap.size w w')) ?_ ?_
                      rotate_left
                      · intro hCont
                        refine two_ (i := 4) (j := 6) (Ni := some 60) (Nj := some 12) #[true, true, true, true, true, false, false, false] #[true, true, true, true, false, false, true, false] rfl rfl rfl rfl (two_of HT_.out (by kernel_rfl)) (by decide) (by decide) (fun K hK => ?_) (fun K hK => ?_)
                        · skip
                          refine Kd.S_make_step (Kd.slice 74 (Kd.int .i16)) _ 26 (by rfl) (N := 60) rfl 47 _ _ rfl (ji22) (by first | rfl | (rw [← hji22]; rfl)) (by first | rfl | (rw [← hji22]; rfl)) Try.underlying47 (.slice none 0 0) 24 info26 rfl (by decide) (by omega) [] (ok := fun _ => True) (okp := fun _ => True) ⟨_, rfl, Kd.R_nil _ _ _ _ _⟩ (fun _ hk => hk) trivial (of_decide_eq_true (by first | (with_reducible assumption) | assumption)) (Nat.le_trans (Nat.mul_le_mul_right _ (of_decide_eq_true (by first | (with_reducible assumption) | assumption) : (ji22).toNat ≤ 11728124029610)) (by omega)) (Below.refl _ _) (Nat.le_refl _) ?_
                          intro v574 w27 ho28 hb hg_ hnew_
                          have HS0_ := (hb.cell (World.block_lt_of_cell? _ _ (hHeld))).trans (hHeld)
                          clear hg_ hnew_
                          (first | rw [← Ny573.out] at ho28 | (simp only [Int.reduceToNat] at ho28; rw [← Ny573.out] at ho28))
                          have n0_ := Aside0.mk (Kd.R_below (by (with_reducible repeat (first | apply Kd.R_alloc | apply Kd.R_drewN | apply Kd.R_drew)); exact HO_4.out) hb)
                          have n1_ := Aside0.mk (Kd.R_below (by (with_reducible repeat (first | apply Kd.R_alloc | apply Kd.R_drewN | apply Kd.R_drew)); exact HO_9.out) hb)
                          have n2_ := Aside0.mk (Kd.S_lower ho28 (below_size (by repeat (first | (with_reducible first | exact HB.out | apply below_alloc | apply pw_below_drewN | apply below_drew1 | refine below_set ?_ GE554.out) | exact HB.out))))
                          have n3_ := Aside0.mk (blk_below (g := gb554) (o := .cells #[.int .i64 0, .slice none 0 0] 49 (0, 0)) (by (with_reducible repeat (first | refine blk_drewN ?_ _ | refine blk_drew ?_ | refine blk_alloc ?_ _)); exact BK554.out) hb)
                          have n4_ := Aside0.mk (below_step (by repeat (first | (with_reducible first | exact HB.out | apply below_alloc | apply pw_below_drewN | apply below_drew1 | refine below_set ?_ GE554.out) | exact HB.out)) hb)
                          clear HO_4
                          clear HO_9
                          clear BK554
                          clear HB
                          have HO_4 := n0_
                          have HO_9 := n1_
                          have HO575 := n2_
                          have BK554 := n3_
                          have HB := n4_
                          clear n0_ n1_ n2_ n3_ n4_
                          clear hb ho28
                          obtain ⟨Ao29, co29, eo29⟩ := Kd.S_slice HO575.out
                          (first | subst eo29 | (injection eo29 with f1_ f2_ f3_; have f4_ := f1_.symm; have f5_ := f3_.symm; clear f1_ f2_ f3_; subst f4_; subst f5_))
                          refine hK.out _ _ (HS0_) (fun hHeld => ?_)
                          clear hK K
                          refine norm_ (a' := ?_) ?_ ?_
                          rotate_left
                          · show Act.put _ (some 60) _ = _
                            simp only [Act.put, List.setIfInBounds_toArray, List.set_cons_zero, List.set_cons_succ, i64_w, i32_w]
                            rfl
                          refine pure_ (i := 5) (N := some 61) (v := ?_) (a' := ?_) #[true, true, true, true, true, true, false, false] rfl rfl (any_of HT_.out (by kernel_rfl)) (fun _ _ _ h => h) (Or.inl ⟨by rfl, ?_⟩) ?_ ?_
                          rotate_left
                          · intro w'
                            go_simp
                            with_reducible rfl
                          rotate_left
                          · simp only [Act.put, List.setIfInBounds_toArray, List.set_cons_zero, List.set_cons_succ, i64_w, i32_w]
                            rfl
                          refine one_ (i := 6) (N := some 12) #[true, true, true, true, true, true, true, false] rfl rfl (one_of HT_.out (by kernel_rfl)) (by decide) (fun K hK => ?_)
                          refine box_step ?hg (N := 12) ?hd (cs := #[.int .i64 0, .slice none 0 0]) (t := 49) ?hr ?_; (case hd => rfl); (case hg => rfl); (case hr => first | (go_simp; done) | (go_simp; rfl))
                          intro gb576 hg w30 hbox hb
                          have HS0_ := (hb.cell (World.block_lt_of_cell? _ _ (hHeld))).trans (hHeld)
                          have n0_ := Aside0.mk (Kd.R_below (by (with_reducible repeat (first | apply Kd.R_alloc | apply Kd.R_drewN | apply Kd.R_drew)); exact HO_4.out) hb)
                          have n1_ := Aside0.mk (Kd.R_below (by (with_reducible repeat (first | apply Kd.R_alloc | apply Kd.R_drewN | apply Kd.R_drew)); exact HO_9.out) hb)
                          have n2_ := Aside0.mk (Kd.S_below (by (with_reducible repeat (first | apply Kd.S_alloc | apply Kd.S_drewN | apply Kd.S_drew)); exact HO575.out) hb)
                          have n3_ := Aside0.mk (blk_below (g := gb554) (o := .cells #[.int .i64 0, .slice none 0 0] 49 (0, 0)) (by (with_reducible repeat (first | refine blk_drewN ?_ _ | refine blk_drew ?_ | refine blk_alloc ?_ _)); exact BK554.out) hb)
                          have n4_ := Aside0.mk (below_step (by repeat (first | (with_reducible first | exact HB.out | apply below_alloc | apply pw_below_drewN | apply below_drew1 | refine below_set ?_ GE554.out) | exact HB.out)) hb)
                          have n5_ := Aside0.mk (hbox)
                          have n6_ := Aside0.mk ((by rw [hg]; exact (below_size (by repeat (first | (with_reducible first | exact HB.out | apply below_alloc | apply pw_below_drewN | apply below_drew1 | refine below_set ?_ GE554.out) | exact HB.out))) : w.heap.size ≤ gb576))
                          have n7_ := Aside0.mk ((by rw [hg]; exact (below_size (by repeat (first | (with_reducible first | exact HB.out | apply below_alloc | apply pw_below_drewN | apply below_drew1 | refine below_set ?_ GE554.out) | exact HB.out))) : w.heap.size ≤ gb576))
                          have n8_ := Aside0.mk ((by rw [hg]; exact Nat.ne_of_lt (blk_lt (g := gb554) (o := .cells #[.int .i64 0, .slice none 0 0] 49 (0, 0)) (by (with_reducible repeat (first | refine blk_drewN ?_ _ | refine blk_drew ?_ | refine blk_alloc ?_ _)); exact BK554.out)) : gb554 ≠ gb576))
                          have n9_ := Aside0.mk ((by rw [hg]; exact Nat.ne_of_gt (blk_lt (g := gb554) (o := .cells #[.int .i64 0, .slice none 0 0] 49 (0, 0)) (by (with_reducible repeat (first | refine blk_drewN ?_ _ | refine blk_drew ?_ | refine blk_alloc ?_ _)); exact BK554.out)) : gb576 ≠ gb554))
                          clear HO_4
                          clear HO_9
                          clear HO575
                          clear BK554
                          clear HB
                          have HO_4 := n0_
                          have HO_9 := n1_
                          have HO575 := n2_
                          have BK554 := n3_
                          have HB := n4_
                          have BK576 := n5_
                          have GW576 := n6_
                          have GE576 := n7_
                          have NB554_576 := n8_
                          have NB576_554 := n9_
                          clear n0_ n1_ n2_ n3_ n4_ n5_ n6_ n7_ n8_ n9_
                          clear hb hbox hg
                          refine hK.out _ _ (HS0_) (fun hHeld => ?_)
                          clear hK K
                          refine norm_ (a' := ?_) ?_ ?_
                          rotate_left
                          · show Act.put _ (some 12) _ = _
                            simp only [Act.put, List.setIfInBounds_toArray, List.set_cons_zero, List.set_cons_succ, i64_w, i32_w]
                            rfl
                          exact norm_ (by simp only [putAll, Act.put, List.setIfInBounds_toArray, List.set_cons_zero, List.set_cons_succ]) (hCont (.slice Ao29 y573.length co29, gb576) _ ⟨hHeld, (by (with_reducible repeat (first | apply Kd.S_alloc | apply Kd.S_drewN | apply Kd.S_drew)); exact HO575.out), (by (with_reducible repeat (first | apply Kd.R_alloc | apply Kd.R_drewN | apply Kd.R_drew)); exact HO_4.out), (by (with_reducible repeat (first | apply Kd.R_alloc | apply Kd.R_drewN | apply Kd.R_drew)); exact HO_9.out), (by (with_reducible repeat (first | refine blk_drewN ?_ _ | refine blk_drew ?_ | refine blk_alloc ?_ _)); exact BK554.out), (by (with_reducible repeat (first | refine blk_drewN ?_ _ | refine blk_drew ?_ | refine blk_alloc ?_ _)); exact BK576.out), GW576.out, GE576.out, NB554_576.out, NB576_554.out, (by repeat (first | (with_reducible first | exact HB.out | apply below_alloc | apply pw_below_drewN | apply below_drew1 | refine below_set ?_ GE554.out | refine below_set ?_ GE576.out) | exact HB.out))⟩)
                        · skip
                          refine box_step ?hg (N := 12) ?hd (cs := #[.int .i64 0, .slice none 0 0]) (t := 49) ?hr ?_; (case hd => rfl); (case hg => rfl); (case hr => first | (go_simp; done) | (go_simp; rfl))
                          intro gb576 hg w27 hbox hb
                          have HS0_ := (hb.cell (World.block_lt_of_cell? _ _ (hHeld))).trans (hHeld)
                          have n0_ := Aside0.mk (Kd.R_below (by (with_reducible repeat (first | apply Kd.R_alloc | apply Kd.R_drewN | apply Kd.R_drew)); exact HO_4.out) hb)
                          have n1_ := Aside0.mk (Kd.R_below (by (with_reducible repeat (first | apply Kd.R_alloc | apply Kd.R_drewN | apply Kd.R_drew)); exact HO_9.out) hb)
                          have n2_ := Aside0.mk (blk_below (g := gb554) (o := .cells #[.int .i64 0, .slice none 0 0] 49 (0, 0)) (by (with_reducible repeat (first | refine blk_drewN ?_ _ | refine blk_drew ?_ | refine blk_alloc ?_ _)); exact BK554.out) hb)
                          have n3_ := Aside0.mk (below_step (by repeat (first | (with_reducible first | exact HB.out | apply below_alloc | apply pw_below_drewN | apply below_drew1 | refine below_set ?_ GE554.out) | exact HB.out)) hb)
                          have n4_ := Aside0.mk (hbox)
                          have n5_ := Aside0.mk ((by rw [hg]; exact (below_size (by repeat (first | (with_reducible first | exact HB.out | apply below_alloc | apply pw_below_drewN | apply below_drew1 | refine below_set ?_ GE554.out) | exact HB.out))) : w.heap.size ≤ gb576))
                          have n6_ := Aside0.mk ((by rw [hg]; exact (below_size (by repeat (first | (with_reducible first | exact HB.out | apply below_alloc | apply pw_below_drewN | apply below_drew1 | refine below_set ?_ GE554.out) | exact HB.out))) : w.heap.size ≤ gb576))
                          have n7_ := Aside0.mk ((by rw [hg]; exact Nat.ne_of_lt (blk_lt (g := gb554) (o := .cells #[.int .i64 0, .slice none 0 0] 49 (0, 0)) (by (with_reducible repeat (first | refine blk_drewN ?_ _ | refine blk_drew ?_ | refine blk_alloc ?_ _)); exact BK554.out)) : gb554 ≠ gb576))
                          have n8_ := Aside0.mk ((by rw [hg]; exact Nat.ne_of_gt (blk_lt (g := gb554) (o := .cells #[.int .i64 0, .slice none 0 0] 49 (0, 0)) (by (with_reducible repeat (first | refine blk_drewN ?_ _ | refine blk_drew ?_ | refine blk_alloc ?_ _)); exact BK554.out)) : gb576 ≠ gb554))
                          clear HO_4
                          clear HO_9
                          clear BK554
                          clear HB
                          have HO_4 := n0_
                          have HO_9 := n1_
                          have BK554 := n2_
                          have HB := n3_
                          have BK576 := n4_
                          have GW576 := n5_
                          have GE576 := n6_
                          have NB554_576 := n7_
                          have NB576_554 := n8_
                          clear n0_ n1_ n2_ n3_ n4_ n5_ n6_ n7_ n8_
                          clear hb hbox hg
                          refine hK.out _ _ (HS0_) (fun hHeld => ?_)
                          clear hK K
                          refine norm_ (a' := ?_) ?_ ?_
                          rotate_left
                          · show Act.put _ (some 12) _ = _
                            simp only [Act.put, List.setIfInBounds_toArray, List.set_cons_zero, List.set_cons_succ, i64_w, i32_w]
                            rfl
                          refine one_ (i := 4) (N := some 60) #[true, true, true, true, true, false, true, false] rfl rfl (one_of HT_.out (by kernel_rfl)) (by decide) (fun K hK => ?_)
                          refine Kd.S_make_step (Kd.slice 74 (Kd.int .i16)) _ 26 (by rfl) (N := 60) rfl 47 _ _ rfl (ji22) (by first | rfl | (rw [← hji22]; rfl)) (by first | rfl | (rw [← hji22]; rfl)) Try.underlying47 (.slice none 0 0) 24 info26 rfl (by decide) (by omega) [] (ok := fun _ => True) (okp := fun _ => True) ⟨_, rfl, Kd.R_nil _ _ _ _ _⟩ (fun _ hk => hk) trivial (of_decide_eq_true (by first | (with_reducible assumption) | assumption)) (Nat.le_trans (Nat.mul_le_mul_right _ (of_decide_eq_true (by first | (with_reducible assumption) | assumption) : (ji22).toNat ≤ 11728124029610)) (by omega)) (Below.refl _ _) (Nat.le_refl _) ?_
                          intro v574 w28 ho29 hb hg_ hnew_
                          have HS0_ := (hb.cell (World.block_lt_of_cell? _ _ (hHeld))).trans (hHeld)
                          clear hg_ hnew_
                          (first | rw [← Ny573.out] at ho29 | (simp only [Int.reduceToNat] at ho29; rw [← Ny573.out] at ho29))
                          have n0_ := Aside0.mk (Kd.R_below (by (with_reducible repeat (first | apply Kd.R_alloc | apply Kd.R_drewN | apply Kd.R_drew)); exact HO_4.out) hb)
                          have n1_ := Aside0.mk (Kd.R_below (by (with_reducible repeat (first | apply Kd.R_alloc | apply Kd.R_drewN | apply Kd.R_drew)); exact HO_9.out) hb)
                          have n2_ := Aside0.mk (Kd.S_lower ho29 (below_size (by repeat (first | (with_reducible first | exact HB.out | apply below_alloc | apply pw_below_drewN | apply below_drew1 | refine below_set ?_ GE554.out | refine below_set ?_ GE576.out) | exact HB.out))))
                          have n3_ := Aside0.mk (blk_below (g := gb554) (o := .cells #[.int .i64 0, .slice none 0 0] 49 (0, 0)) (by (with_reducible repeat (first | refine blk_drewN ?_ _ | refine blk_drew ?_ | refine blk_alloc ?_ _)); exact BK554.out) hb)
                          have n4_ := Aside0.mk (blk_below (g := gb576) (o := .cells #[.int .i64 0, .slice none 0 0] 49 (0, 0)) (by (with_reducible repeat (first | refine blk_drewN ?_ _ | refine blk_drew ?_ | refine blk_alloc ?_ _)); exact BK576.out) hb)
                          have n5_ := Aside0.mk (below_step (by repeat (first | (with_reducible first | exact HB.out | apply below_alloc | apply pw_below_drewN | apply below_drew1 | refine below_set ?_ GE554.out | refine below_set ?_ GE576.out) | exact HB.out)) hb)
                          clear HO_4
                          clear HO_9
                          clear BK554
                          clear BK576
                          clear HB
                          have HO_4 := n0_
                          have HO_9 := n1_
                          have HO575 := n2_
                          have BK554 := n3_
                          have BK576 := n4_
                          have HB := n5_
                          clear n0_ n1_ n2_ n3_ n4_ n5_
                          clear hb ho29
                          obtain ⟨Ao30, co30, eo30⟩ := Kd.S_slice HO575.out
                          (first | subst eo30 | (injection eo30 with f1_ f2_ f3_; have f4_ := f1_.symm; have f5_ := f3_.symm; clear f1_ f2_ f3_; subst f4_; subst f5_))
                          refine hK.out _ _ (HS0_) (fun hHeld => ?_)
                          clear hK K
                          refine norm_ (a' := ?_) ?_ ?_
                          rotate_left
                          · show Act.put _ (some 60) _ = _
                            simp only [Act.put, List.setIfInBounds_toArray, List.set_cons_zero, List.set_cons_succ, i64_w, i32_w]
                            rfl
                          refine pure_ (i := 5) (N := some 61) (v := ?_) (a' := ?_) #[true, true, true, true, true, true, true, false] rfl rfl (any_of HT_.out (by kernel_rfl)) (fun _ _ _ h => h) (Or.inl ⟨by rfl, ?_⟩) ?_ ?_
                          rotate_left
                          · intro w'
                            go_simp
                            with_reducible rfl
                          rotate_left
                          · simp only [Act.put, List.setIfInBounds_toArray, List.set_cons_zero, List.set_cons_succ, i64_w, i32_w]
                            rfl
                          exact norm_ (by simp only [putAll, Act.put, List.setIfInBounds_toArray, List.set_cons_zero, List.set_cons_succ]) (hCont (.slice Ao30 y573.length co30, gb576) _ ⟨hHeld, (by (with_reducible repeat (first | apply Kd.S_alloc | apply Kd.S_drewN | apply Kd.S_drew)); exact HO575.out), (by (with_reducible repeat (first | apply Kd.R_alloc | apply Kd.R_drewN | apply Kd.R_drew)); exact HO_4.out), (by (with_reducible repeat (first | apply Kd.R_alloc | apply Kd.R_drewN | apply Kd.R_drew)); exact HO_9.out), (by (with_reducible repeat (first | refine blk_drewN ?_ _ | refine blk_drew ?_ | refine blk_alloc ?_ _)); exact BK554.out), (by (with_reducible repeat (first | refine blk_drewN ?_ _ | refine blk_drew ?_ | refine blk_alloc ?_ _)); exact BK576.out), GW576.out, GE576.out, NB554_576.out, NB576_554.out, (by repeat (first | (with_reducible first | exact HB.out | apply below_alloc | apply pw_below_drewN | apply below_drew1 | refine below_set ?_ GE554.out | refine below_set ?_ GE576.out) | exact HB.out))⟩)
                      rintro ⟨v574, gb576⟩ w31 ⟨hS_, h0_, h1_, h2_, h3_, h4_, h5_, h6_, h7_, h8_, h9_⟩
                      have n0_ : Aside0 (Kd.S (Kd.slice 74 (Kd.int .i16)) 26 w31 w.heap.size (fun _ => True) v574 y573) := ⟨h0_⟩
                      have n1_ : Aside0 (Kd.R (Kd.int .i64) 2 w31 w.heap.size (fun k_ => some k_ ≠ (v566 : Value).ownBlock) (.slice (some ad572) t555.length co26) t555) := ⟨h1_⟩
                      have n2_ : Aside0 (Kd.R (Kd.int .i64) 2 w31 w.heap.size (fun k_ => some k_ ≠ (.slice (some ad572) t555.length co26 : Value).ownBlock) v566 t565) := ⟨h2_⟩
                      have n3_ : Aside0 (w31.heap[gb554]? = some (.cells #[.int .i64 0, .slice none 0 0] 49 (0, 0))) := ⟨h3_⟩
                      have n4_ : Aside0 (w31.heap[gb576]? = some (.cells #[.int .i64 0, .slice none 0 0] 49 (0, 0))) := ⟨h4_⟩
                      have n5_ : Aside0 (w.heap.size ≤ gb576) := ⟨h5_⟩
                      have n6_ : Aside0 (w.heap.size ≤ gb576) := ⟨h6_⟩
                      have n7_ : Aside0 (gb554 ≠ gb576) := ⟨h7_⟩
                      have n8_ : Aside0 (gb576 ≠ gb554) := ⟨h8_⟩
                      have n9_ : Aside0 (Below w.heap.size w w31) := ⟨h9_⟩
                      clear HO_4
                      clear HO_9
                      clear BK554
                      clear HB
                      clear h0_ h1_ h2_ h3_ h4_ h5_ h6_ h7_ h8_ h9_
                      have HO575 := n0_
                      have HO_4 := n1_
                      have HO_9 := n2_
                      have BK554 := n3_
                      have BK576 := n4_
                      have GW576 := n5_
                      have GE576 := n6_
                      have NB554_576 := n7_
                      have NB576_554 := n8_
                      have HB := n9_
                      clear n0_ n1_ n2_ n3_ n4_ n5_ n6_ n7_ n8_ n9_
                      have hHeld : w31.cell? ad572 = some (.int .i64 (rd t555 0)) := hS_
                      obtain ⟨Ao32, co32, eo32⟩ := Kd.S_slice HO575.out
                      (first | subst eo32 | (injection eo32 with f1_ f2_ f3_; have f4_ := f1_.symm; have f5_ := f3_.symm; clear f1_ f2_ f3_; subst f4_; subst f5_))
                      refine norm_ (a' := ?_) ?_ ?_
                      rotate_left
                      · simp only [putAll, Act.put, List.setIfInBounds_toArray, List.set_cons_zero, List.set_cons_succ]
                        rfl
                      refine one_ (i := 7) (N := none) #[true, true, true, true, true, true, true, true] rfl rfl (one_of HT_.out (by kernel_rfl)) (by decide) (fun K hK => ?_)
                      have hs33 : w31.cell? ⟨gb576, 0, none⟩ = some (.int .i64 0) := (blk_cell BK576.out 0).trans rfl
                      have hfs33 := blk_frozen BK576.out 0
                      have hns33_0 := NB554_576.out
                      have hms33_0 := NB576_554.out
                      have hs34 : w31.cell? ⟨gb576, 1, none⟩ = some (.slice none 0 0) := (blk_cell BK576.out 1).trans rfl
                      have hfs34 := blk_frozen BK576.out 1
                      have hns34_0 := NB554_576.out
                      have hms34_0 := NB576_554.out
                      refine skip_ (w1 := ?_) (by rfl) rfl ?_ ?_
                      rotate_left
                      · go_simp
                        rfl
                      refine hK.out _ _ (((cell_far (p := ⟨gb576, _, none⟩) (by first | exact Kd.own_blk (Kd.R_ne HO_4.out BK576.out (by decide)) | (rw [add_block]; exact Kd.own_blk (Kd.R_ne HO_4.out BK576.out (by decide))) | (show (Addr.add _ _).block ≠ _; rw [add_block]; exact Kd.own_blk (Kd.R_ne HO_4.out BK576.out (by decide))) | (dsimp only; exact Kd.own_blk (Kd.R_ne HO_4.out BK576.out (by decide)))) _).trans (((cell_far (p := ⟨gb576, _, none⟩) (by first | exact Kd.own_blk (Kd.R_ne HO_4.out BK576.out (by decide)) | (rw [add_block]; exact Kd.own_blk (Kd.R_ne HO_4.out BK576.out (by decide))) | (show (Addr.add _ _).block ≠ _; rw [add_block]; exact Kd.own_blk (Kd.R_ne HO_4.out BK576.out (by decide))) | (dsimp only; exact Kd.own_blk (Kd.R_ne HO_4.out BK576.out (by decide)))) _).trans (hHeld))))) (fun hHeld => ?_)
                      clear hK K
                      refine done_ (done_of HT_.out (by kernel_rfl)) ?_
                      have hnb35 := NB576_554.out
                      have hnc35 := NB554_576.out
                      have hcz36_0 : w31.cell? ⟨gb576, 0, none⟩ = some (.int .i64 0) := (blk_cell BK576.out 0).trans rfl
                      have hcz36_1 : w31.cell? ⟨gb576, 1, none⟩ = some (.slice none 0 0) := (blk_cell BK576.out 1).trans rfl
                      have hfz36_0 := blk_frozen BK576.out 0
                      have hfz36_1 := blk_frozen BK576.out 1
                      try go_wp2
                      go_loopg [65] kj9 (fun kq v65 w' => ∃ (x65_2 : Int) (x577001_2 : List (List Int)) (u577001 : Value), v65 = .int .i64 x65_2 ∧ Aside0 (book_From.l0 kq (wrap64 (rd l0 9)) t565 (y573.length : Int) x65_2 (rd t555 0) x577001_2 = some (r1, r2, r3)) ∧ Aside0 (kq ≤ kj9) ∧ Aside0 (Kd.R (Kd.int .i64) 2 w' w.heap.size (fun _ => True) v566 t565) ∧ Aside0 (Kd.S (Kd.slice 74 (Kd.int .i16)) 26 w' w.heap.size (fun _ => True) u577001 x577001_2) ∧ Aside0 (w'.heap[gb554]? = some (.cells #[.int .i64 0, (.slice none 0 0)] 49 (0, 0))) ∧ Aside0 (w'.heap[gb576]? = some (.cells #[.int .i64 (rd t555 0), u577001] 49 (0, 0))) ∧ Aside0 (Below w.heap.size w w'))
                      case atStart => exact ⟨(0), (y573), (.slice Ao32 y573.length co32), (by first | rfl | (simp; done) | (simp [*]; done)), H', ⟨Nat.le_refl _⟩, ⟨by (with_reducible repeat (first | apply Kd.R_alloc | apply Kd.R_drewN | apply Kd.R_drew)); exact Kd.R_mono (Kd.R_far (p := ⟨gb576, 1, none⟩) (Kd.R_far (p := ⟨gb576, 0, none⟩) (Kd.R_types HO_9.out BK576.out (by decide)) (fun _ hk => hk.2) (.int .i64 (rd t555 0))) (fun _ hk => hk.2) (.slice Ao32 y573.length co32)) (fun _ hk => trivial)⟩, ⟨by (with_reducible repeat (first | apply Kd.S_alloc | apply Kd.S_drewN | apply Kd.S_drew)); exact Kd.S_mono (Kd.S_far (p := ⟨gb576, 1, none⟩) (Kd.S_far (p := ⟨gb576, 0, none⟩) (Kd.S_types HO575.out BK576.out (by decide)) (fun _ hk => hk.2) (.int .i64 (rd t555 0))) (fun _ hk => hk.2) (.slice Ao32 y573.length co32)) (fun _ hk => trivial)⟩, ⟨by (with_reducible repeat (first | refine blk_drewN ?_ _ | refine blk_drew ?_ | refine blk_alloc ?_ _)); refine blk_far ?_ NB554_576.out _; (with_reducible repeat (first | refine blk_drewN ?_ _ | refine blk_drew ?_ | refine blk_alloc ?_ _)); refine blk_far ?_ NB554_576.out _; (with_reducible repeat (first | refine blk_drewN ?_ _ | refine blk_drew ?_ | refine blk_alloc ?_ _)); exact BK554.out⟩, ⟨by (with_reducible repeat (first | refine blk_drewN ?_ _ | refine blk_drew ?_ | refine blk_alloc ?_ _)); refine blk_put (cs := #[.int .i64 (rd t555 0), .slice none 0 0]) ?_ 1 _ rfl; (with_reducible repeat (first | refine blk_drewN ?_ _ | refine blk_drew ?_ | refine blk_alloc ?_ _)); refine blk_put (cs := #[.int .i64 0, .slice none 0 0]) ?_ 0 _ rfl; (with_reducible repeat (first | refine blk_drewN ?_ _ | refine blk_drew ?_ | refine blk_alloc ?_ _)); exact BK576.out⟩, ⟨by repeat (first | (with_reducible first | exact HB.out | apply below_alloc | apply pw_below_drewN | apply below_drew1 | refine below_set ?_ GE554.out | refine below_set ?_ GE576.out) | exact HB.out)⟩⟩
                      case round =>
                        clear H'
                        try clear c1
                        try clear c2
                        try clear c2b0
                        try clear c2b1
                        try clear p2
                        try clear c3
                        try clear p5
                        try clear q5
                        try clear hx5
                        try clear qi5
                        try clear c6
                        try clear c6b0
                        try clear c6b1
                        try clear p6
                        try clear c7
                        try clear c7b0
                        try clear c7b1
                        try clear c8
                        try clear c8b0
                        try clear c8b1
                        try clear c10
                        try clear c16
                        try clear c16b0
                        try clear c16b1
                        try clear c17
                        try clear c17b0
                        try clear c17b1
                        try clear c19
                        try clear c21
                        try clear c21b0
                        try clear c21b1
                        try clear c23
                        try clear c23b0
                        try clear c23b1
                        try clear c24
                        try clear c24b0
                        try clear c24b1
                        try clear c35
                        try clear hcz20_0
                        try clear hcz20_1
                        try clear hcz36_0
                        try clear hcz36_1
                        try clear hcz4_0
                        try clear hcz4_1
                        try clear hfz20_0
                        try clear hfz20_1
                        try clear hfz36_0
                        try clear hfz36_1
                        try clear hfz4_0
                        try clear hfz4_1
                        try clear hx562_0
                        try clear hx563_0
                        try clear hx572_0
                        try clear p2
                        try clear p5
                        try clear p562
                        try clear p563
                        try clear p572
                        try clear p6
                        try clear q5
                        try clear q562
                        try clear q563
                        try clear q572
                        obtain ⟨x65_2, x577001_2, u577001, rfl, HA, HK2, HO_9, HO_577001, BK554, BK576, HB⟩ := hrel
                        cases gk with
                        | zero => exact absurd HA.out (by simp [book_From.l0])
                        | succ k2 =>
                          have H := HA.out
                          clear HA
                          simp only [book_From.l0] at H
                          by_cases c37 : x65_2 < (y573.length : Int)
                          · rw [if_pos c37] at H
                            have c37b0 : decide (x65_2 < (y573.length : Int)) = true := decide_eq_true c37
                            clear c37
                            obtain ⟨ji38, hji38⟩ : ∃ j_ : Int, (wrap64 (rd l0 9)) = j_ := ⟨_, rfl⟩
                            replace H : (if 0 ≤ (ji38) then (if ((ji38) : Int).toNat ≤ 140737488355328 then ((some (List.replicate ((ji38) : Int).toNat 0 : List Int)).bind fun y578 => (book_From.l1 k2 (ji38) t565 x65_2 y578 (y573.length : Int) x65_2 (y578.length : Int) 0 (rd t555 0) x577001_2)) else (none)) else (none)) = some (r1, r2, r3) := by first | (rw [hji38] at H; exact H) | (simp only [hji38] at H ⊢; exact H)
                            have hji38w : (IntKind.i64.wrap (rd l0 9)) = ji38 := (i64_w _).trans hji38
                            by_cases c39 : 0 ≤ (ji38)
                            · rw [if_pos c39] at H
                              have c39b0 := eq_true c39
                              have c39b1 : decide (0 ≤ (ji38)) = true := decide_eq_true c39
                              clear c39
                              by_cases c40 : ((ji38) : Int).toNat ≤ 140737488355328
                              · rw [if_pos c40] at H
                                have c40b0 := eq_true c40
                                have c40b1 : decide (((ji38) : Int).toNat ≤ 140737488355328) = true := decide_eq_true c40
                                clear c40
                                obtain ⟨y578, hy578⟩ : ∃ y_ : List Int, y_ = (List.replicate ((ji38) : Int).toNat 0) := ⟨_, rfl⟩
                                replace H : (book_From.l1 k2 (ji38) t565 x65_2 y578 (y573.length : Int) x65_2 (y578.length : Int) 0 (rd t555 0) x577001_2) = some (r1, r2, r3) := by first | (rw [hy578]; with_reducible exact H) | (have H2_ := (Option.bind_some _ _).symm.trans H; rw [hy578]; with_reducible exact H2_) | (have H2_ := (Option.bind_some _ _).symm.trans H; with_reducible exact H2_) | with_reducible exact H | (rw [hy578]; exact H) | exact H
                                have Ny578 := Aside0.mk hy578
                                clear hy578
                                have H' := Aside0.mk H
                                clear H
                                go_wp2_with (first | ((with_reducible refine gate_dst (N := 69) rfl ?_); (try (refine gate_guard (by rfl) ?_; dsimp only)); refine Kd.R_make (Kd.int .i16) _ 74 rfl (N := 69) rfl 26 _ _ rfl (ji38) (by first | rfl | (rw [← hji38]; rfl)) (by first | rfl | (rw [← hji38]; rfl)) Try.underlying26 (.int .i16 0) 2 info74 rfl (by decide) (by omega) 0 (ok := fun _ => True) (okp := fun _ => True) rfl (fun _ hk => hk) trivial (of_decide_eq_true (by first | (with_reducible assumption) | assumption)) (Nat.le_trans (Nat.mul_le_mul_right _ (of_decide_eq_true (by first | (with_reducible assumption) | assumption) : (ji38).toNat ≤ 140737488355328)) (by omega)) (Below.refl _ _) (Nat.le_refl _) ?_; intro v579 w41 ho42 hb hg_ hnew_; clear hg_ hnew_; (first | rw [← Ny578.out] at ho42 | (simp only [Int.reduceToNat] at ho42; rw [← Ny578.out] at ho42)); have n0_ := Aside0.mk (Kd.R_below (by (with_reducible repeat (first | apply Kd.R_alloc | apply Kd.R_drewN | apply Kd.R_drew)); exact HO_9.out) hb); have n1_ := Aside0.mk (Kd.S_elder' (by (with_reducible repeat (first | apply Kd.S_alloc | apply Kd.S_drewN | apply Kd.S_drew)); exact HO_577001.out) (Kd.R_base ho42) hb); have n2_ := Aside0.mk (Kd.R_lower ho42 (below_size (by repeat (first | (with_reducible first | exact HB.out | apply below_alloc | apply pw_below_drewN | apply below_drew1 | refine below_set ?_ GE554.out | refine below_set ?_ GE576.out) | exact HB.out)))); have n3_ := Aside0.mk (blk_below (g := gb554) (o := .cells #[.int .i64 0, .slice none 0 0] 49 (0, 0)) (by (with_reducible repeat (first | refine blk_drewN ?_ _ | refine blk_drew ?_ | refine blk_alloc ?_ _)); exact BK554.out) hb); have n4_ := Aside0.mk (blk_below (g := gb576) (o := .cells #[.int .i64 (rd t555 0), u577001] 49 (0, 0)) (by (with_reducible repeat (first | refine blk_drewN ?_ _ | refine blk_drew ?_ | refine blk_alloc ?_ _)); exact BK576.out) hb); have n5_ := Aside0.mk (below_step (by repeat (first | (with_reducible first | exact HB.out | apply below_alloc | apply pw_below_drewN | apply below_drew1 | refine below_set ?_ GE554.out | refine below_set ?_ GE576.out) | exact HB.out)) hb); clear HO_9; clear HO_577001; clear BK554; clear BK576; clear HB; have HO_9 := n0_; have HO_577001 := n1_; have HO580 := n2_; have BK554 := n3_; have BK576 := n4_; have HB := n5_; clear n0_ n1_ n2_ n3_ n4_ n5_; clear hb ho42; obtain ⟨Ao43, co43, eo43⟩ := Kd.R_slice HO580.out; subst eo43))
                                go_loopg [72] k2 (fun kq v72 w' => ∃ (x14_3 : List Int) (x72_3 : Int), v72 = .int .i64 x72_3 ∧ Aside0 (book_From.l1 kq (ji38) t565 x65_2 x14_3 (y573.length : Int) x65_2 (y578.length : Int) x72_3 (rd t555 0) x577001_2 = some (r1, r2, r3)) ∧ Aside0 (kq ≤ k2) ∧ Aside0 (Kd.R (Kd.int .i64) 2 w' w.heap.size (fun _ => True) v566 t565) ∧ Aside0 (Kd.R (Kd.int .i16) 74 w' w.heap.size (fun _ => True) (.slice Ao43 y578.length co43) x14_3) ∧ Aside0 (Kd.S (Kd.slice 74 (Kd.int .i16)) 26 w' w.heap.size (fun k_ => some k_ ≠ ((.slice Ao43 y578.length co43) : Value).ownBlock) u577001 x577001_2) ∧ Aside0 (w'.heap[gb554]? = some (.cells #[.int .i64 0, (.slice none 0 0)] 49 (0, 0))) ∧ Aside0 (w'.heap[gb576]? = some (.cells #[.int .i64 (rd t555 0), u577001] 49 (0, 0))) ∧ Aside0 (Below w.heap.size w w'))
                                case atStart => exact ⟨(y578), (0), (by first | rfl | (simp; done) | (simp [*]; done)), H', ⟨Nat.le_refl _⟩, ⟨by (with_reducible repeat (first | apply Kd.R_alloc | apply Kd.R_drewN | apply Kd.R_drew)); exact HO_9.out⟩, ⟨by (with_reducible repeat (first | apply Kd.R_alloc | apply Kd.R_drewN | apply Kd.R_drew)); exact HO580.out⟩, ⟨by (with_reducible repeat (first | apply Kd.S_alloc | apply Kd.S_drewN | apply Kd.S_drew)); exact Kd.S_mono HO_577001.out (fun _ hk => hk.2)⟩, ⟨by (with_reducible repeat (first | refine blk_drewN ?_ _ | refine blk_drew ?_ | refine blk_alloc ?_ _)); exact BK554.out⟩, ⟨by (with_reducible repeat (first | refine blk_drewN ?_ _ | refine blk_drew ?_ | refine blk_alloc ?_ _)); exact BK576.out⟩, ⟨by repeat (first | (with_reducible first | exact HB.out | apply below_alloc | apply pw_below_drewN | apply below_drew1 | refine below_set ?_ GE554.out | refine below_set ?_ GE576.out) | exact HB.out)⟩⟩
                                case round =>
                                  clear H'
                                  try clear c1
                                  try clear c2
                                  try clear c2b0
                                  try clear c2b1
                                  try clear p2
                                  try clear c3
                                  try clear c4
                                  try clear p5
                                  try clear q5
                                  try clear hx5
                                  try clear qi5
                                  try clear c6
                                  try clear c6b0
                                  try clear c6b1
                                  try clear p6
                                  try clear c7
                                  try clear c7b0
                                  try clear c7b1
                                  try clear c8
                                  try clear c8b0
                                  try clear c8b1
                                  try clear c10
                                  try clear c16
                                  try clear c16b0
                                  try clear c16b1
                                  try clear c17
                                  try clear c17b0
                                  try clear c17b1
                                  try clear c19
                                  try clear c21
                                  try clear c21b0
                                  try clear c21b1
                                  try clear c23
                                  try clear c23b0
                                  try clear c23b1
                                  try clear c24
                                  try clear c24b0
                                  try clear c24b1
                                  try clear c35
                                  try clear c37
                                  try clear c37b0
                                  try clear c39
                                  try clear c39b0
                                  try clear c39b1
                                  try clear c40
                                  try clear c40b0
                                  try clear c40b1
                                  try clear hcz20_0
                                  try clear hcz20_1
                                  try clear hcz36_0
                                  try clear hcz36_1
                                  try clear hcz4_0
                                  try clear hcz4_1
                                  try clear hfz20_0
                                  try clear hfz20_1
                                  try clear hfz36_0
                                  try clear hfz36_1
                                  try clear hfz4_0
                                  try clear hfz4_1
                                  try clear hx562_0
                                  try clear hx563_0
                                  try clear hx572_0
                                  try clear p2
                                  try clear p5
                                  try clear p562
                                  try clear p563
                                  try clear p572
                                  try clear p6
                                  try clear q5
                                  try clear q562
                                  try clear q563
                                  try clear q572
                                  obtain ⟨x14_3, x72_3, rfl, HA, HK3, HO_9, HO_14, HO_577001, BK554, BK576, HB⟩ := hrel
                                  have hl14_3 := (Kd.R_reads' HO_14.out).1
                                  rw [hl14_3] at HO_14
                                  (try simp only [hl14_3])
                                  (try simp only [hl14_3] at BK554)
                                  (try simp only [hl14_3] at BK576)
                                  (try simp only [hl14_3] at HO_9)
                                  (try simp only [hl14_3] at HO_577001)
                                  cases gk with
                                  | zero => exact absurd HA.out (by simp [book_From.l1])
                                  | succ k3 =>
                                    have H := HA.out
                                    clear HA
                                    simp only [book_From.l1] at H
                                    by_cases c44 : x72_3 < (y578.length : Int)
                                    · rw [if_pos c44] at H
                                      have c44b0 : decide (x72_3 < (y578.length : Int)) = true := decide_eq_true c44
                                      clear c44
                                      obtain ⟨ji45, hji45⟩ : ∃ j_ : Int, (wrap64 ((wrap64 (x65_2 * (ji38))) + x72_3)) = j_ := ⟨_, rfl⟩
                                      replace H : (if 0 ≤ (ji45) then (if (ji45) < (t565.length : Int) then (if 0 ≤ x72_3 then (if x72_3 < (x14_3.length : Int) then (book_From.l1 k3 (ji38) t565 x65_2 (x14_3.set (x72_3 : Int).toNat (IntKind.i16.wrap (rd t565 (ji45)))) (y573.length : Int) x65_2 (y578.length : Int) (wrap64 (x72_3 + 1)) (rd t555 0) x577001_2) else (none)) else (none)) else (none)) else (none)) = some (r1, r2, r3) := by first | (rw [hji45] at H; exact H) | (simp only [hji45] at H ⊢; exact H)
                                      have hji45w : (IntKind.i64.wrap ((wrap64 (x65_2 * (ji38))) + x72_3)) = ji45 := (i64_w _).trans hji45
                                      by_cases c46 : 0 ≤ (ji45)
                                      · rw [if_pos c46] at H
                                        have c46b0 : decide (0 ≤ (ji45)) = true := decide_eq_true c46
                                        clear c46
                                        by_cases c47 : (ji45) < (t565.length : Int)
                                        · rw [if_pos c47] at H
                                          have c47b0 : decide ((ji45) < (t565.length : Int)) = true := decide_eq_true c47
                                          clear c47
                                          by_cases c48 : 0 ≤ x72_3
                                          · rw [if_pos c48] at H
                                            have c48b0 : decide (0 ≤ x72_3) = true := decide_eq_true c48
                                            clear c48
                                            by_cases c49 : x72_3 < (x14_3.length : Int)
                                            · rw [if_pos c49] at H
                                              have c49b0 : decide (x72_3 < (x14_3.length : Int)) = true := decide_eq_true c49
                                              clear c49
                                              obtain ⟨y582, hy582⟩ : ∃ y_ : List Int, y_ = (x14_3.set (x72_3 : Int).toNat (IntKind.i16.wrap (rd t565 (ji45)))) := ⟨_, rfl⟩
                                              replace H : (book_From.l1 k3 (ji38) t565 x65_2 y582 (y573.length : Int) x65_2 (y578.length : Int) (wrap64 (x72_3 + 1)) (rd t555 0) x577001_2) = some (r1, r2, r3) := by first | (rw [hy582]; with_reducible exact H) | (have H2_ := (Option.bind_some _ _).symm.trans H; rw [hy582]; with_reducible exact H2_) | (have H2_ := (Option.bind_some _ _).symm.trans H; with_reducible exact H2_) | with_reducible exact H | (rw [hy582]; exact H) | exact H
                                              have Ny582 := Aside0.mk hy582
                                              clear hy582
                                              have H' := Aside0.mk H
                                              clear H
                                              obtain ⟨Ao51, co51, eo51⟩ := Kd.R_slice HO_9.out
                                              subst eo51
                                              have p581 : 0 ≤ ((ji45) : Int) := of_decide_eq_true (by first | (with_reducible assumption) | assumption)
                                              have q581 : (ji45) < (t565.length : Int) := of_decide_eq_true (by first | (with_reducible assumption) | assumption)
                                              obtain ⟨ad581, e581, hx581_0⟩ := Kd.at_int (Kd.R_reads' HO_9.out).2.2 (ji45) p581 q581
                                              cases e581
                                              replace p581 := eq_true p581
                                              replace q581 := eq_true q581
                                              have p50 : 0 ≤ (x72_3 : Int) := of_decide_eq_true (by first | (with_reducible assumption) | assumption)
                                              have q50 : (x72_3 : Int) < ((x14_3.length : Int) : Int) := of_decide_eq_true (by first | (with_reducible assumption) | assumption)
                                              obtain ⟨go50, co50, eo50, gb50, gl50, cl50, HG50⟩ := Kd.R_form HO_14.out (by omega)
                                              (first | cases eo50 | (injection eo50 with ea_ en_ ec_; (first | subst ea_ | (injection ea_ with ea_; subst ea_)); subst ec_; clear en_))
                                              have GB50 := Aside0.mk gb50
                                              have GG50 := Aside0.mk HG50
                                              clear gb50 gl50 HG50
                                              obtain ⟨hx50_0, hf50_0⟩ := Kd.R_celln 0 HO_14.out (x72_3 : Int) p50 q50
                                              replace p50 := eq_true p50
                                              replace q50 := eq_true q50
                                              have HP52 := Kd.R_putg HO_14.out (x72_3 : Int) (IntKind.i16.wrap (rd t565 (ji45)))
                                              go_wp2_with (first | ((with_reducible refine gate_store (t := 74) (p := 86) rfl ?_); refine store_event (t := 74) (p := 86) (v := ?vo_w53) (w1 := (wr.setCell ⟨go50, (x72_3 : Int).toNat, none⟩ (.int .i16 (IntKind.i16.wrap (rd t565 (ji45)))))) ?hg ?ho ?hn ?hr ?_; (case ho => rfl); (case hg => rfl); (case hn => rfl); (case hr => first | (go_simp; done) | (go_simp; rfl)); intro w53 hw; have hg : wr.grownBy w53 (some go50) := (by rw [hw]; exact HP52.2); have hp_ : Kd.R (Kd.int .i16) 74 w53 w.heap.size (fun _ => True) (.slice (some ⟨go50, 0, none⟩) x14_3.length co43) y582 := (by rw [hw, Ny582.out]; exact HP52.1); clear HP52; have n0_ := Aside0.mk (Kd.R_over' (v := (.slice (some ⟨go50, 0, none⟩) x14_3.length co43)) (by (with_reducible repeat (first | apply Kd.R_alloc | apply Kd.R_drewN | apply Kd.R_drew)); exact HO_9.out) (Kd.R_typed HO_14.out) (by decide) hg); have n1_ := Aside0.mk (hp_); have n2_ := Aside0.mk (Kd.S_after (v := (.slice (some ⟨go50, 0, none⟩) x14_3.length co43)) (v1 := (.slice (some ⟨go50, 0, none⟩) x14_3.length co43)) (ok := (fun _ => True)) (by (with_reducible repeat (first | apply Kd.S_alloc | apply Kd.S_drewN | apply Kd.S_drew)); exact Kd.S_mono HO_577001.out (fun _ hk => ⟨trivial, hk⟩)) hg (.inl rfl)); have n3_ := Aside0.mk (blk_grown (g := gb554) (o := .cells #[.int .i64 0, .slice none 0 0] 49 (0, 0)) (by (with_reducible repeat (first | refine blk_drewN ?_ _ | refine blk_drew ?_ | refine blk_alloc ?_ _)); exact BK554.out) hg (Kd.R_ne HO_14.out BK554.out (by decide))); have n4_ := Aside0.mk (blk_grown (g := gb576) (o := .cells #[.int .i64 (rd t555 0), u577001] 49 (0, 0)) (by (with_reducible repeat (first | refine blk_drewN ?_ _ | refine blk_drew ?_ | refine blk_alloc ?_ _)); exact BK576.out) hg (Kd.R_ne HO_14.out BK576.out (by decide))); have n5_ := Aside0.mk ((by rw [hw]; exact below_set (HB.out) GB50.out : Below w.heap.size w w53)); clear HO_9; clear HO_14; clear HO_577001; clear BK554; clear BK576; clear HB; have HO_9 := n0_; have HO_14 := n1_; have HO_577001 := n2_; have BK554 := n3_; have BK576 := n4_; have HB := n5_; clear n0_ n1_ n2_ n3_ n4_ n5_; clear hg hw hp_))
                                              (try simp only [← hl14_3])
                                              first | go_roundg k3 | (simp only [← hji45]; go_roundg k3) | (simp only [← hji38, ← hji45]; go_roundg k3) | (simp only [← hji22, ← hji38, ← hji45]; go_roundg k3)
                                              case measure => have := HJ9.out; have := HK2.out; have := HK3.out; omega
                                              case rel => exact ⟨(y582), (wrap64 (x72_3 + 1)), (by first | rfl | (simp; done) | (simp [*]; done)), (by first | exact H' | (rw [hji22]; exact H') | (rw [hji38]; exact H') | (rw [hji45]; exact H')), ⟨by have := HJ9.out; have := HK2.out; have := HK3.out; omega⟩, ⟨by (try simp only [hl14_3]); (with_reducible repeat (first | apply Kd.R_alloc | apply Kd.R_drewN | apply Kd.R_drew)); exact HO_9.out⟩, ⟨by (try simp only [hl14_3]); (with_reducible repeat (first | apply Kd.R_alloc | apply Kd.R_drewN | apply Kd.R_drew)); exact HO_14.out⟩, ⟨by (try simp only [hl14_3]); (with_reducible repeat (first | apply Kd.S_alloc | apply Kd.S_drewN | apply Kd.S_drew)); exact Kd.S_mono HO_577001.out (fun _ hk => hk.2)⟩, ⟨by (try simp only [hl14_3]); (with_reducible repeat (first | refine blk_drewN ?_ _ | refine blk_drew ?_ | refine blk_alloc ?_ _)); exact BK554.out⟩, ⟨by (try simp only [hl14_3]); (with_reducible repeat (first | refine blk_drewN ?_ _ | refine blk_drew ?_ | refine blk_alloc ?_ _)); exact BK576.out⟩, ⟨by repeat (first | (with_reducible first | exact HB.out | apply below_alloc | apply pw_below_drewN | apply below_drew1 | refine below_set ?_ GE554.out | refine below_set ?_ GE576.out) | exact HB.out)⟩⟩
                                            · rw [if_neg c49] at H
                                              exact absurd H (by simp)
                                          · rw [if_neg c48] at H
                                            exact absurd H (by simp)
                                        · rw [if_neg c47] at H
                                          exact absurd H (by simp)
                                      · rw [if_neg c46] at H
                                        exact absurd H (by simp)
                                    · rw [if_neg c44] at H
                                      have c44b0 : decide (x72_3 < (y578.length : Int)) = false := decide_eq_false c44
                                      (try simp only [hl14_3] at c44b0)
                                      clear c44
                                      by_cases c54 : 0 ≤ x65_2
                                      · rw [if_pos c54] at H
                                        have c54b0 : decide (0 ≤ x65_2) = true := decide_eq_true c54
                                        clear c54
                                        by_cases c55 : x65_2 < (x577001_2.length : Int)
                                        · rw [if_pos c55] at H
                                          have c55b0 : decide (x65_2 < (x577001_2.length : Int)) = true := decide_eq_true c55
                                          clear c55
                                          obtain ⟨y583, hy583⟩ : ∃ y_ : List (List Int), y_ = (x577001_2.set (x65_2 : Int).toNat x14_3) := ⟨_, rfl⟩
                                          replace H : (book_From.l0 k3 (ji38) t565 (y573.length : Int) (wrap64 (x65_2 + 1)) (rd t555 0) y583) = some (r1, r2, r3) := by first | (rw [hy583]; with_reducible exact H) | (have H2_ := (Option.bind_some _ _).symm.trans H; rw [hy583]; with_reducible exact H2_) | (have H2_ := (Option.bind_some _ _).symm.trans H; with_reducible exact H2_) | with_reducible exact H | (rw [hy583]; exact H) | exact H
                                          have Ny583 := Aside0.mk hy583
                                          clear hy583
                                          have H' := Aside0.mk H
                                          clear H
                                          have hnb57 := NB576_554.out
                                          have hnc57 := NB554_576.out
                                          have hcz58_0 : wr.cell? ⟨gb576, 0, none⟩ = some (.int .i64 (rd t555 0)) := (blk_cell BK576.out 0).trans rfl
                                          have hcz58_1 : wr.cell? ⟨gb576, 1, none⟩ = some (u577001) := (blk_cell BK576.out 1).trans rfl
                                          have hfz58_0 := blk_frozen BK576.out 0
                                          have hfz58_1 := blk_frozen BK576.out 1
                                          have p56 : 0 ≤ (x65_2 : Int) := of_decide_eq_true (by first | (with_reducible assumption) | assumption)
                                          have q56 : (x65_2 : Int) < ((x577001_2.length : Int) : Int) := of_decide_eq_true (by first | (with_reducible assumption) | assumption)
                                          obtain ⟨go56, co56, eo56, gb56, gl56, cl56, HG56⟩ := Kd.S_form HO_577001.out (by omega)
                                          (first | cases eo56 | (injection eo56 with ea_ en_ ec_; (first | subst ea_ | (injection ea_ with ea_; subst ea_)); subst ec_; clear en_))
                                          have GB56 := Aside0.mk gb56
                                          have GG56 := Aside0.mk HG56
                                          clear gb56 gl56 HG56
                                          obtain ⟨_, ce56, hcl56, hM56, hcc56, hfr56, _, _⟩ := Kd.S_elem HO_577001.out [] (x65_2 : Int) p56 q56
                                          obtain ⟨ve56_0, rfl, ge56_0⟩ := hM56
                                          have hx56_0 := hcc56 0 _ rfl
                                          have hf56_0 := hfr56 0
                                          (try simp only [show ((Kd.slice 74 (Kd.int .i16))).sz = 1 from rfl, Nat.mul_one, Nat.add_zero] at hx56_0)
                                          (try simp only [show ((Kd.slice 74 (Kd.int .i16))).sz = 1 from rfl, Nat.mul_one, Nat.add_zero] at hf56_0)
                                          clear hcl56 hcc56 hfr56 
                                          try clear hM56
                                          replace p56 := eq_true p56
                                          replace q56 := eq_true q56
                                          have HX59 := Aside0.mk (show Kd.S (Kd.slice 74 (Kd.int .i16)) 26 wr w.heap.size (fun k_ => ((fun _ => True)) k_ ∧ ¬ ((fun k_ => some k_ = (.slice Ao43 x14_3.length co43 : Value).ownBlock)) k_) (.slice (some ⟨go56, 0, none⟩) x577001_2.length co56) x577001_2 from (by (with_reducible repeat (first | apply Kd.S_alloc | apply Kd.S_drewN | apply Kd.S_drew)); exact Kd.S_mono HO_577001.out (fun k_ hk => ⟨trivial, fun e_ => hk e_⟩)))
                                          obtain ⟨oki59, ce59, hcl59, hM59, hcc59, hfr59, hoki59, hH59⟩ := Kd.S_elem HX59.out [] (x65_2 : Int) (of_decide_eq_true (by first | (with_reducible assumption) | assumption)) (by have h_ : (x65_2 : Int) < ((x577001_2.length : Int) : Int) := of_decide_eq_true (by first | (with_reducible assumption) | assumption); first | exact h_ | (have e_ := (Kd.S_reads' HO_577001.out).1; omega) | simpa using h_)
                                          obtain ⟨ve59_0, rfl, ge59_0⟩ := hM59
                                          have HP59 := Kd.S_seg hH59 (of_decide_eq_true (by first | (with_reducible assumption) | assumption)) (by have h_ : (x65_2 : Int) < ((x577001_2.length : Int) : Int) := of_decide_eq_true (by first | (with_reducible assumption) | assumption); first | exact h_ | (have e_ := (Kd.S_reads' HO_577001.out).1; omega) | simpa using h_) (seg := [.slice Ao43 x14_3.length co43]) (j := 0) (show 1 ≤ 1 from by decide) (x' := x14_3) (Kd.M_row (Kd.R_mono (Kd.R_tight rfl (Kd.R_mono (ok' := fun k_ => ((fun _ => True)) k_ ∧ k_ ≠ go56) (Kd.R_apart' (HO_14.out) (Kd.S_typed HO_577001.out) (by decide)) (fun k_ hk => ⟨trivial, fun e_ => (hk.2) (by rw [e_]; rfl)⟩))) (fun _ h_ => Or.inr (h_)))) (fun _ hk => hk) (fun k_ hk_ => ((Kd.R_mono (ok' := fun k_ => ((fun _ => True)) k_ ∧ k_ ≠ go56) (Kd.R_apart' (HO_14.out) (Kd.S_typed HO_577001.out) (by decide)) (fun k_ hk => ⟨trivial, fun e_ => (hk.2) (by rw [e_]; rfl)⟩))).1 k_ hk_.symm)
                                          have hx59_0 := hcc59 0 _ rfl
                                          (try simp only [show ((Kd.slice 74 (Kd.int .i16))).sz = 1 from rfl, Nat.mul_one, Nat.add_zero] at hx59_0)
                                          have hf59_0 := hfr59 0
                                          (try simp only [show ((Kd.slice 74 (Kd.int .i16))).sz = 1 from rfl, Nat.mul_one, Nat.add_zero] at hf59_0)
                                          clear hcl59 hcc59 hfr59  hoki59 hH59
                                          try clear hM59
                                          (try simp only [show ((Kd.slice 74 (Kd.int .i16))).sz = 1 from rfl, Nat.mul_one, Nat.add_zero] at HP59)
                                          go_wp2_with (first | ((with_reducible refine gate_store (t := 26) (p := 92) rfl ?_); refine store_event (t := 26) (p := 92) (v := ?vo_w60) (w1 := (wr.setCell ⟨go56, (x65_2 : Int).toNat, none⟩ (.slice Ao43 x14_3.length co43))) ?hg ?ho ?hn ?hr ?_; (case ho => rfl); (case hg => rfl); (case hn => rfl); (case hr => first | (go_simp; done) | (go_simp; rfl)); intro w60 hw; have hg : wr.grownBy w60 (some go56) := (by rw [hw]; exact HP59.2); have hp_ : Kd.S (Kd.slice 74 (Kd.int .i16)) 26 w60 w.heap.size (fun _ => True) (.slice (some ⟨go56, 0, none⟩) x577001_2.length co56) y583 := (by rw [hw, Ny583.out]; exact HP59.1); clear HP59; have n0_ := Aside0.mk (Kd.R_over' (v := (.slice (some ⟨go56, 0, none⟩) x577001_2.length co56)) (by (with_reducible repeat (first | apply Kd.R_alloc | apply Kd.R_drewN | apply Kd.R_drew)); exact HO_9.out) (Kd.S_typed HO_577001.out) (by decide) hg); have n1_ := Aside0.mk (hp_); have n2_ := Aside0.mk (blk_grown (g := gb554) (o := .cells #[.int .i64 0, .slice none 0 0] 49 (0, 0)) (by (with_reducible repeat (first | refine blk_drewN ?_ _ | refine blk_drew ?_ | refine blk_alloc ?_ _)); exact BK554.out) hg (Kd.S_ne HO_577001.out BK554.out (by decide))); have n3_ := Aside0.mk (blk_grown (g := gb576) (o := .cells #[.int .i64 (rd t555 0), .slice (some ⟨go56, 0, none⟩) x577001_2.length co56] 49 (0, 0)) (by (with_reducible repeat (first | refine blk_drewN ?_ _ | refine blk_drew ?_ | refine blk_alloc ?_ _)); exact BK576.out) hg (Kd.S_ne HO_577001.out BK576.out (by decide))); have n4_ := Aside0.mk ((by rw [hw]; exact below_set (HB.out) GB56.out : Below w.heap.size w w60)); clear HO_9; clear HO_577001; clear BK554; clear BK576; clear HB; clear HO_14; have HO_9 := n0_; have HO_577001 := n1_; have BK554 := n2_; have BK576 := n3_; have HB := n4_; clear n0_ n1_ n2_ n3_ n4_; clear hg hw hp_))
                                          (try simp only [← hl14_3])
                                          first | go_roundg k3 | (simp only [← hji38]; go_roundg k3) | (simp only [← hji22, ← hji38]; go_roundg k3)
                                          case measure => have := HJ9.out; have := HK2.out; have := HK3.out; omega
                                          case rel => exact ⟨(wrap64 (x65_2 + 1)), (y583), (.slice (some ⟨go56, 0, none⟩) x577001_2.length co56), (by first | rfl | (simp; done) | (simp [*]; done)), (by first | exact H' | (rw [hji22]; exact H') | (rw [hji38]; exact H') | (rw [hji45]; exact H')), ⟨by have := HJ9.out; have := HK2.out; have := HK3.out; omega⟩, ⟨by (try simp only [hl14_3]); (with_reducible repeat (first | apply Kd.R_alloc | apply Kd.R_drewN | apply Kd.R_drew)); exact HO_9.out⟩, ⟨by (try simp only [hl14_3]); (with_reducible repeat (first | apply Kd.S_alloc | apply Kd.S_drewN | apply Kd.S_drew)); exact HO_577001.out⟩, ⟨by (try simp only [hl14_3]); (with_reducible repeat (first | refine blk_drewN ?_ _ | refine blk_drew ?_ | refine blk_alloc ?_ _)); exact BK554.out⟩, ⟨by (try simp only [hl14_3]); (with_reducible repeat (first | refine blk_drewN ?_ _ | refine blk_drew ?_ | refine blk_alloc ?_ _)); exact BK576.out⟩, ⟨by repeat (first | (with_reducible first | exact HB.out | apply below_alloc | apply pw_below_drewN | apply below_drew1 | refine below_set ?_ GE554.out | refine below_set ?_ GE576.out) | exact HB.out)⟩⟩
                                        · rw [if_neg c55] at H
                                          exact absurd H (by simp)
                                      · rw [if_neg c54] at H
                                        exact absurd H (by simp)
                              · rw [if_neg c40] at H
                                exact absurd H (by simp)
                            · rw [if_neg c39] at H
                              exact absurd H (by simp)
                          · rw [if_neg c37] at H
                            have c37b0 : decide (x65_2 < (y573.length : Int)) = false := decide_eq_false c37
                            (try simp only [hl14_3] at c37b0)
                            clear c37
                            replace H := Option.bind_eq_some_iff.mp H
                            obtain ⟨t577, A610, H⟩ := H
                            replace H : (if t577 = 0 then (some ((rd t555 0), x577001_2, 0)) else (some (0, ([] : List (List Int)), 2))) = some (r1, r2, r3) := H
                            have A61 := Aside0.mk A610
                            clear A610
                            by_cases c62 : t577 = 0
                            · rw [if_pos c62] at H
                              have c62b0 : (t577 == 0) = true := beq_iff_eq.mpr c62
                              have c62b1 : (t577 != 0) = false := bne_eq_false_iff_eq.mpr c62
                              clear c62
                              simp only [Option.some.injEq, Prod.mk.injEq] at H
                              obtain ⟨rfl, rfl, rfl⟩ := H
                              have hnb63 := NB576_554.out
                              have hnc63 := NB554_576.out
                              have hcz64_0 : wr.cell? ⟨gb576, 0, none⟩ = some (.int .i64 (rd t555 0)) := (blk_cell BK576.out 0).trans rfl
                              have hcz64_1 : wr.cell? ⟨gb576, 1, none⟩ = some (u577001) := (blk_cell BK576.out 1).trans rfl
                              have hfz64_0 := blk_frozen BK576.out 0
                              have hfz64_1 := blk_frozen BK576.out 1
                              obtain ⟨Ao65, co65, eo65⟩ := Kd.S_slice HO_577001.out
                              subst eo65
                              go_wp2_with (first | ((with_reducible refine gate_callee (f := 48) rfl ?_); refine goesL_ (some 95) rfl rfl Try.func48 (by kernel_rfl) rfl #[.agg #[.int .i64 (rd t555 0), .slice Ao65 x577001_2.length co65]] rfl (by (try simp only [List.map_toArray, List.map_cons, List.map_nil]); first | done | rfl | (simp only [List.length_drop, List.length_take]; rfl)) ?_; (with_reducible refine (h_quant_Check.calls (rd t555 0) _ _ x577001_2 t577 _ ?side1 ?side2 A61.out).mono ?_); (case side1 => repeat (first | exact (Kd.S_reads' HO_577001.out).2.2 | (with_reducible refine Kd.C_alloc ?_ _) | (with_reducible refine Kd.C_drewN ?_ _) | (with_reducible refine Kd.C_drew ?_))); (case side2 => exact (Kd.S_reads' HO_577001.out).2.1); rintro e w66 ⟨rfl, hb⟩; refine ⟨_, rfl, ?_⟩; have n0_ := Aside0.mk (Kd.R_below (by (with_reducible repeat (first | apply Kd.R_alloc | apply Kd.R_drewN | apply Kd.R_drew)); exact HO_9.out) hb); have n1_ := Aside0.mk (Kd.S_below (by (with_reducible repeat (first | apply Kd.S_alloc | apply Kd.S_drewN | apply Kd.S_drew)); exact HO_577001.out) hb); have n2_ := Aside0.mk (blk_below (g := gb554) (o := .cells #[.int .i64 0, .slice none 0 0] 49 (0, 0)) (by (with_reducible repeat (first | refine blk_drewN ?_ _ | refine blk_drew ?_ | refine blk_alloc ?_ _)); exact BK554.out) hb); have n3_ := Aside0.mk (blk_below (g := gb576) (o := .cells #[.int .i64 (rd t555 0), .slice Ao65 x577001_2.length co65] 49 (0, 0)) (by (with_reducible repeat (first | refine blk_drewN ?_ _ | refine blk_drew ?_ | refine blk_alloc ?_ _)); exact BK576.out) hb); have n4_ := Aside0.mk (below_step (by repeat (first | (with_reducible first | exact HB.out | apply below_alloc | apply pw_below_drewN | apply below_drew1 | refine below_set ?_ GE554.out | refine below_set ?_ GE576.out) | exact HB.out)) hb); clear HO_9; clear HO_577001; clear BK554; clear BK576; clear HB; have HO_9 := n0_; have HO_577001 := n1_; have BK554 := n2_; have BK576 := n3_; have HB := n4_; clear n0_ n1_ n2_ n3_ n4_; (try clear hb); (try clear hb2); (try clear hk); (try clear hi); have hcz67_0 : w66.cell? ⟨gb576, 0, none⟩ = some (.int .i64 (rd t555 0)) := (blk_cell BK576.out 0).trans rfl; have hcz67_1 : w66.cell? ⟨gb576, 1, none⟩ = some (.slice Ao65 x577001_2.length co65) := (blk_cell BK576.out 1).trans rfl; have hfz67_0 := blk_frozen BK576.out 0; have hfz67_1 := blk_frozen BK576.out 1; have hcz68_0 : w66.cell? ⟨gb554, 0, none⟩ = some (.int .i64 0) := (blk_cell BK554.out 0).trans rfl; have hcz68_1 : w66.cell? ⟨gb554, 1, none⟩ = some (.slice none 0 0) := (blk_cell BK554.out 1).trans rfl; have hfz68_0 := blk_frozen BK554.out 0; have hfz68_1 := blk_frozen BK554.out 1))
                              refine bodyPost_ret (results_ct rfl _ _ gb554 49 #[.int .i64 (rd t555 0), .slice Ao65 x577001_2.length co65] (0, 0) _ rfl (by (with_reducible repeat (first | refine blk_drewN ?_ _ | refine blk_drew ?_ | refine blk_alloc ?_ _)); refine blk_put (cs := #[.int .i64 (rd t555 0), .slice none 0 0]) ?_ 1 _ rfl; (with_reducible repeat (first | refine blk_drewN ?_ _ | refine blk_drew ?_ | refine blk_alloc ?_ _)); refine blk_put (cs := #[.int .i64 0, .slice none 0 0]) ?_ 0 _ rfl; (with_reducible repeat (first | refine blk_drewN ?_ _ | refine blk_drew ?_ | refine blk_alloc ?_ _)); exact BK554.out) Try.underlying49 rfl (by kernel_rfl)) rfl ?_
                              exact ⟨_, by first | rfl | (simp [errW_none, errW_some] <;> rfl) | (simp only [← hji22]; first | rfl | (simp [errW_none, errW_some] <;> rfl)) | (simp [*, errW_none, errW_some] <;> rfl), by (with_reducible repeat (first | apply Kd.S_alloc | apply Kd.S_drewN | apply Kd.S_drew)); exact Kd.S_mono (Kd.S_far (p := ⟨gb554, 1, none⟩) (Kd.S_far (p := ⟨gb554, 0, none⟩) (Kd.S_types HO_577001.out BK554.out (by decide)) (fun _ hk => hk.2) (.int .i64 (rd t555 0))) (fun _ hk => hk.2) (.slice Ao65 x577001_2.length co65)) (fun _ hk => trivial), by repeat (first | (with_reducible first | exact HB.out | apply below_alloc | apply pw_below_drewN | apply below_drew1 | refine below_set ?_ GE554.out | refine below_set ?_ GE576.out) | exact HB.out)⟩
                            · rw [if_neg c62] at H
                              have c62b0 : (t577 == 0) = false := beq_eq_false_iff_ne.mpr c62
                              have c62b1 : (t577 != 0) = true := bne_iff_ne.mpr c62
                              simp only [Option.some.injEq, Prod.mk.injEq] at H
                              obtain ⟨rfl, rfl, rfl⟩ := H
                              have hnb69 := NB576_554.out
                              have hnc69 := NB554_576.out
                              have hcz70_0 : wr.cell? ⟨gb576, 0, none⟩ = some (.int .i64 (rd t555 0)) := (blk_cell BK576.out 0).trans rfl
                              have hcz70_1 : wr.cell? ⟨gb576, 1, none⟩ = some (u577001) := (blk_cell BK576.out 1).trans rfl
                              have hfz70_0 := blk_frozen BK576.out 0
                              have hfz70_1 := blk_frozen BK576.out 1
                              obtain ⟨Ao71, co71, eo71⟩ := Kd.S_slice HO_577001.out
                              subst eo71
                              go_wp2_with (first | ((with_reducible refine gate_callee (f := 48) rfl ?_); refine goesL_ (some 95) rfl rfl Try.func48 (by kernel_rfl) rfl #[.agg #[.int .i64 (rd t555 0), .slice Ao71 x577001_2.length co71]] rfl (by (try simp only [List.map_toArray, List.map_cons, List.map_nil]); first | done | rfl | (simp only [List.length_drop, List.length_take]; rfl)) ?_; (with_reducible refine (h_quant_Check.calls (rd t555 0) _ _ x577001_2 t577 _ ?side1 ?side2 A61.out).mono ?_); (case side1 => repeat (first | exact (Kd.S_reads' HO_577001.out).2.2 | (with_reducible refine Kd.C_alloc ?_ _) | (with_reducible refine Kd.C_drewN ?_ _) | (with_reducible refine Kd.C_drew ?_))); (case side2 => exact (Kd.S_reads' HO_577001.out).2.1); rintro e w72 ⟨rfl, hb⟩; refine ⟨_, rfl, ?_⟩; have n0_ := Aside0.mk (Kd.R_below (by (with_reducible repeat (first | apply Kd.R_alloc | apply Kd.R_drewN | apply Kd.R_drew)); exact HO_9.out) hb); have n1_ := Aside0.mk (Kd.S_below (by (with_reducible repeat (first | apply Kd.S_alloc | apply Kd.S_drewN | apply Kd.S_drew)); exact HO_577001.out) hb); have n2_ := Aside0.mk (blk_below (g := gb554) (o := .cells #[.int .i64 0, .slice none 0 0] 49 (0, 0)) (by (with_reducible repeat (first | refine blk_drewN ?_ _ | refine blk_drew ?_ | refine blk_alloc ?_ _)); exact BK554.out) hb); have n3_ := Aside0.mk (blk_below (g := gb576) (o := .cells #[.int .i64 (rd t555 0), .slice Ao71 x577001_2.length co71] 49 (0, 0)) (by (with_reducible repeat (first | refine blk_drewN ?_ _ | refine blk_drew ?_ | refine blk_alloc ?_ _)); exact BK576.out) hb); have n4_ := Aside0.mk (below_step (by repeat (first | (with_reducible first | exact HB.out | apply below_alloc | apply pw_below_drewN | apply below_drew1 | refine below_set ?_ GE554.out | refine below_set ?_ GE576.out) | exact HB.out)) hb); clear HO_9; clear HO_577001; clear BK554; clear BK576; clear HB; have HO_9 := n0_; have HO_577001 := n1_; have BK554 := n2_; have BK576 := n3_; have HB := n4_; clear n0_ n1_ n2_ n3_ n4_; (try clear hb); (try clear hb2); (try clear hk); (try clear hi); have hcz73_0 : w72.cell? ⟨gb554, 0, none⟩ = some (.int .i64 0) := (blk_cell BK554.out 0).trans rfl; have hcz73_1 : w72.cell? ⟨gb554, 1, none⟩ = some (.slice none 0 0) := (blk_cell BK554.out 1).trans rfl; have hfz73_0 := blk_frozen BK554.out 0; have hfz73_1 := blk_frozen BK554.out 1))
                              refine bodyPost_ret (results_ct rfl _ _ gb554 49 #[.int .i64 0, .slice none 0 0] (0, 0) _ rfl (by (with_reducible repeat (first | refine blk_drewN ?_ _ | refine blk_drew ?_ | refine blk_alloc ?_ _)); refine blk_put (cs := #[.int .i64 0, .slice none 0 0]) ?_ 1 _ rfl; (with_reducible repeat (first | refine blk_drewN ?_ _ | refine blk_drew ?_ | refine blk_alloc ?_ _)); refine blk_put (cs := #[.int .i64 0, .slice none 0 0]) ?_ 0 _ rfl; (with_reducible repeat (first | refine blk_drewN ?_ _ | refine blk_drew ?_ | refine blk_alloc ?_ _)); exact BK554.out) Try.underlying49 rfl (by kernel_rfl)) rfl ?_
                              exact ⟨_, by first | rfl | (simp [errW_none, errW_some] <;> rfl) | (simp only [← hji22]; first | rfl | (simp [errW_none, errW_some] <;> rfl)) | (simp [*, errW_none, errW_some] <;> rfl), by first | exact Kd.S_nil _ _ _ _ _ | exact Kd.N_nil _ _ _ _ _ | exact Kd.V_nil _ _ _ _ _ | exact Kd.Q_nil _ _ _ _ _ | exact Kd.R_nil _ _ _ _ _, by repeat (first | (with_reducible first | exact HB.out | apply below_alloc | apply pw_below_drewN | apply below_drew1 | refine below_set ?_ GE554.out | refine below_set ?_ GE576.out) | exact HB.out)⟩
                    · rw [if_neg c24] at H
                      exact absurd H (by simp)
                  · rw [if_neg c23] at H
                    exact absurd H (by simp)
                · rw [if_neg c21] at H
                  exact absurd H (by simp)
        · rw [if_neg c8] at H
          exact absurd H (by simp)
      · rw [if_neg c7] at H
        exact absurd H (by simp)
    · rw [if_neg c6] at H
      exact absurd H (by simp)

end Go.Proofs.Ytkjibgfgbfacdaa.P
end
/-! part: PBook -/
section
set_option linter.unusedVariables false
set_option linter.unusedSimpArgs false
namespace Go.Proofs.Ytkjibgfgbfacdaa.P
open Go.RowKit Go.Proofs.YtkjibgfgbfacdaaW.PrintWords Go.Proofs.YtkjibgfgbfacdaaW.PrintLast Go.Proofs.YtkjibgfgbfacdaaW.PrintMore
set_option linter.unusedVariables false

/-! ### small -/
theorem idxCast (j : Nat) (h : j < 9223372036854775807) : wrap64 ((j : Int) + 1) = ((j + 1 : Nat) : Int) := by unfold wrap64; omega
theorem rdI (l : List Int) (j : Nat) (h : j < l.length) : l.drop j = (l.getD j 0) :: l.drop (j + 1) := by
  have := rdO 0 l j (by omega) (by omega)
  rwa [Int.toNat_natCast, show ((j : Int) + 1).toNat = j + 1 by omega] at this
/-! ### book.Bytes -/
def i16L (l : List Int) : Prop := ∀ x ∈ l, -32768 ≤ x ∧ x ≤ 32767
def i16LL (l : List (List Int)) : Prop := ∀ c ∈ l, i16L c
/-- A book's text. -/
def bytesB (way : Int) (cuts : List (List Int)) : List Int := enc 8 way ++ [(cuts.length : Int), ((cuts.getD 0 []).length : Int)] ++ cuts.flatMap (fun c => c.flatMap (enc 2))
end Go.Proofs.Ytkjibgfgbfacdaa.P
end
/-! part: PBookF -/
section
set_option linter.unusedVariables false
set_option linter.unusedSimpArgs false
namespace Go.Proofs.Ytkjibgfgbfacdaa.P
open Go.RowKit Go.Proofs.YtkjibgfgbfacdaaW.PrintWords Go.Proofs.YtkjibgfgbfacdaaW.PrintLast Go.Proofs.YtkjibgfgbfacdaaW.PrintMore
set_option linter.unusedVariables false

/-- A list cut into D rows of M. -/
def rowsOf (M : Nat) : Nat → List Int → List (List Int)
  | 0, _ => []
  | D + 1, l => l.take M :: rowsOf M D (l.drop M)
/-! ### book.From -/
/-- What a text tells: its way, numbers, cuts. -/
def fromP (t : List Int) : Int × List (List Int) × Int :=
  if t.length < 10 then (0, [], 2) else
    if t.length = 10 + (t.getD 8 0).toNat * (t.getD 9 0).toNat * 2 then
      (if bookOk (dec 8 (t.take 8)) (rowsOf (t.getD 9 0).toNat (t.getD 8 0).toNat (decs 2 ((t.getD 8 0).toNat * (t.getD 9 0).toNat) (t.drop 10))) = true then
        (dec 8 (t.take 8), rowsOf (t.getD 9 0).toNat (t.getD 8 0).toNat (decs 2 ((t.getD 8 0).toNat * (t.getD 9 0).toNat) (t.drop 10)), 0) else (0, [], 2))
    else (0, [], 2)
end Go.Proofs.Ytkjibgfgbfacdaa.P
end
/-! part: F59 -/
section
set_option linter.unusedVariables false
set_option linter.unusedSimpArgs false
namespace Go.Proofs.Ytkjibgfgbfacdaa.P
open Go.RowKit Go.Proofs.YtkjibgfgbfacdaaW.PrintWords Go.Proofs.YtkjibgfgbfacdaaW.PrintLast Go.Proofs.YtkjibgfgbfacdaaW.PrintMore
attribute [local go_sem] max2_int min2_int max_two min_two max_three min_three max_four min_four   -- for this text's walks alone
set_option linter.unusedVariables false
set_option linter.unusedSimpArgs false

/-! ### rank_Span: function 59 -/
mutual
def rank_Span.j0 : Nat → List Int → Int → Bool → Option (Int × Int × Int)
  | 0, _, _, _ => none
  | k + 1, x0, x1, x19 => if x19 = true then (some (0, 0, 1)) else (if x1 > 0 then (if 0 ≤ (wrap64 (x1 - 1)) then (if (wrap64 (x1 - 1)) < (x0.length : Int) then (rank_Span.j1 k x0 x1 (rd x0 (wrap64 (x1 - 1))) 32767) else (none)) else (none)) else (rank_Span.j1 k x0 x1 (-32767) 32767))
def rank_Span.j1 : Nat → List Int → Int → Int → Int → Option (Int × Int × Int)
  | 0, _, _, _, _ => none
  | k + 1, x0, x1, x4, x5 => if x1 < (x0.length : Int) then (if 0 ≤ x1 then (if (rd x0 x1) ≤ x4 then (some (0, 0, 5)) else (some (x4, IntKind.i16.wrap ((rd x0 x1) - 1), 0))) else (none)) else (some (x4, x5, 0))
end
def rank_Span.f (k : Nat) (l0 : List Int) (a1 : Int) : Option (Int × Int × Int) := (rank_Check.f k l0).bind fun t1002 => (if t1002 = 0 then (if a1 < 0 then (rank_Span.j0 k l0 a1 true) else (rank_Span.j0 k l0 a1 (decide (a1 > (l0.length : Int))))) else (rank_Span.j0 k l0 a1 true))
theorem rank_Span.mono_l : ∀ k, (∀ y0 y1 y2, LeO (rank_Span.j0 k y0 y1 y2) (rank_Span.j0 (k + 1) y0 y1 y2)) ∧ (∀ y0 y1 y2 y3, LeO (rank_Span.j1 k y0 y1 y2 y3) (rank_Span.j1 (k + 1) y0 y1 y2 y3))
  | 0 => ⟨fun _ _ _ r h => by simp [rank_Span.j0] at h, fun _ _ _ _ r h => by simp [rank_Span.j1] at h⟩
  | k + 1 => by
    obtain ⟨ih0, ih1⟩ := rank_Span.mono_l k
    refine ⟨?_, ?_⟩
    · intro y0 y1 y2
      unfold rank_Span.j0
      repeat' first
      | (with_reducible exact ih0 _ _ _)
      | (with_reducible exact ih1 _ _ _ _)
      | (with_reducible exact rank_Check.mono _ _)
      | (with_reducible exact LeO.refl _)
      | (with_reducible exact LeO.none _)
      | (with_reducible refine LeO.ite ?_ ?_)
      | (with_reducible refine LeO.bind ?_ (fun _ => ?_))
      | exact ih0 _ _ _
      | exact ih1 _ _ _ _
      | exact rank_Check.mono _ _
      | exact LeO.none _
      | refine LeO.ite ?_ ?_
      | refine LeO.bind ?_ (fun _ => ?_)
    · intro y0 y1 y2 y3
      unfold rank_Span.j1
      repeat' first
      | (with_reducible exact ih0 _ _ _)
      | (with_reducible exact ih1 _ _ _ _)
      | (with_reducible exact rank_Check.mono _ _)
      | (with_reducible exact LeO.refl _)
      | (with_reducible exact LeO.none _)
      | (with_reducible refine LeO.ite ?_ ?_)
      | (with_reducible refine LeO.bind ?_ (fun _ => ?_))
      | exact ih0 _ _ _
      | exact ih1 _ _ _ _
      | exact rank_Check.mono _ _
      | exact LeO.none _
      | refine LeO.ite ?_ ?_
      | refine LeO.bind ?_ (fun _ => ?_)
theorem rank_Span.mono : ∀ a0 a1 k, LeO (rank_Span.f k a0 a1) (rank_Span.f (k + 1) a0 a1) := by
  intro a0 a1 k
  obtain ⟨ih0, ih1⟩ := rank_Span.mono_l k
  unfold rank_Span.f
  repeat' first
      | (with_reducible exact ih0 _ _ _)
      | (with_reducible exact ih1 _ _ _ _)
      | (with_reducible exact rank_Check.mono _ _)
      | (with_reducible exact LeO.refl _)
      | (with_reducible exact LeO.none _)
      | (with_reducible refine LeO.ite ?_ ?_)
      | (with_reducible refine LeO.bind ?_ (fun _ => ?_))
      | exact ih0 _ _ _
      | exact ih1 _ _ _ _
      | exact rank_Check.mono _ _
      | exact LeO.none _
      | refine LeO.ite ?_ ?_
      | refine LeO.bind ?_ (fun _ => ?_)
set_option maxHeartbeats 8000000 in
set_option maxRecDepth 100000 in
theorem rank_Span.calls (k : Nat) (A0 : Option Addr) (c0 : Nat) (l0 : List Int) (a1 : Int) (r1 : Int) (r2 : Int) (r3 : Int) (w : World) (hr0 : Kd.C (Kd.int .i16) w A0 l0.length l0) (hc0 : l0.length ≤ c0) (h : rank_Span.f k l0 a1 = some (r1, r2, r3)) :
    Calls Try.prog 59 #[.slice A0 l0.length c0, .int .i64 a1] w fun e w' => e = .returned (.tuple #[.int .i16 r1, .int .i16 r2, .int .i64 r3]) ∧ Drawn0 w w' := by
  have HR0 := Aside0.mk hr0
  have HC0 := Aside0.mk hc0
  clear hr0 hc0
  have H : ((rank_Check.f k l0).bind fun t1002 => (if t1002 = 0 then (if a1 < 0 then (rank_Span.j0 k l0 a1 true) else (rank_Span.j0 k l0 a1 (decide (a1 > (l0.length : Int))))) else (rank_Span.j0 k l0 a1 true))) = some (r1, r2, r3) := h
  clear h
  have HC3 := Aside0.mk H
  clear H
  go_enter Try.func59, Try.ntmps59
  go_upto_region 1 with (fail)
  go_cut [19] (fun v19 wc => ∃ (kq : Nat) (x19_2 : Bool), v19 = .bool x19_2 ∧ Aside0 (rank_Span.j0 kq l0 a1 x19_2 = some (r1, r2, r3)) ∧ Aside0 (kq ≤ k) ∧ Drawn0 w wc)
  case first =>
    have H := HC3.out
    clear HC3
    replace H := Option.bind_eq_some_iff.mp H
    obtain ⟨t1002, A40, H⟩ := H
    replace H : (if t1002 = 0 then (if a1 < 0 then (rank_Span.j0 k l0 a1 true) else (rank_Span.j0 k l0 a1 (decide (a1 > (l0.length : Int))))) else (rank_Span.j0 k l0 a1 true)) = some (r1, r2, r3) := H
    have A4 := Aside0.mk A40
    clear A40
    by_cases c5 : t1002 = 0
    · rw [if_pos c5] at H
      have c5b0 : (t1002 == 0) = true := beq_iff_eq.mpr c5
      have c5b1 : (t1002 != 0) = false := bne_eq_false_iff_eq.mpr c5
      clear c5
      (first | rw [c5b0] | (simp only [i64_w, i32_w]; rw [c5b0]) | skip)
      by_cases c6 : a1 < 0
      · rw [if_pos c6] at H
        have c6b0 : decide (a1 < 0) = true := decide_eq_true c6
        clear c6
        have H' := Aside0.mk H
        clear H
        go_wp2_with (first | ((with_reducible refine gate_callee (f := 61) rfl ?_); refine goesL_ (some 8) rfl rfl Try.func61 (by kernel_rfl) rfl #[.slice A0 l0.length c0] rfl (by (try simp only [List.map_toArray, List.map_cons, List.map_nil]); first | done | rfl | (simp only [List.length_drop, List.length_take]; rfl)) ?_; (with_reducible refine (rank_Check.calls k _ _ l0 t1002 _ ?side1 ?side2 A4.out).mono ?_); (case side1 => repeat (first | exact HR0.out | (with_reducible refine Kd.C_alloc ?_ _) | (with_reducible refine Kd.C_drewN ?_ _) | (with_reducible refine Kd.C_drew ?_))); (case side2 => exact HC0.out); rintro e w' ⟨rfl, ⟨nd, rfl⟩⟩; refine ⟨_, rfl, ?_⟩))
        go_meet
        case rel => exact ⟨_, (true), (by first | rfl | (simp; done) | (simp [*]; done)), (by first | exact H' | (rw [hji10]; exact H')), ⟨by first | omega | exact Nat.le_refl _⟩, by repeat (first | exact Drawn0.refl _ | apply Drawn0.step)⟩
      · rw [if_neg c6] at H
        have c6b0 : decide (a1 < 0) = false := decide_eq_false c6
        clear c6
        have H' := Aside0.mk H
        clear H
        go_wp2_with (first | ((with_reducible refine gate_callee (f := 61) rfl ?_); refine goesL_ (some 8) rfl rfl Try.func61 (by kernel_rfl) rfl #[.slice A0 l0.length c0] rfl (by (try simp only [List.map_toArray, List.map_cons, List.map_nil]); first | done | rfl | (simp only [List.length_drop, List.length_take]; rfl)) ?_; (with_reducible refine (rank_Check.calls k _ _ l0 t1002 _ ?side1 ?side2 A4.out).mono ?_); (case side1 => repeat (first | exact HR0.out | (with_reducible refine Kd.C_alloc ?_ _) | (with_reducible refine Kd.C_drewN ?_ _) | (with_reducible refine Kd.C_drew ?_))); (case side2 => exact HC0.out); rintro e w' ⟨rfl, ⟨nd, rfl⟩⟩; refine ⟨_, rfl, ?_⟩))
        go_meet
        case rel => exact ⟨_, (decide (a1 > (l0.length : Int))), (by first | rfl | (simp; done) | (simp [*]; done)), (by first | exact H' | (rw [hji10]; exact H')), ⟨by first | omega | exact Nat.le_refl _⟩, by repeat (first | exact Drawn0.refl _ | apply Drawn0.step)⟩
    · rw [if_neg c5] at H
      have c5b0 : (t1002 == 0) = false := beq_eq_false_iff_ne.mpr c5
      have c5b1 : (t1002 != 0) = true := bne_iff_ne.mpr c5
      (first | rw [c5b0] | (simp only [i64_w, i32_w]; rw [c5b0]) | skip)
      have H' := Aside0.mk H
      clear H
      go_wp2_with (first | ((with_reducible refine gate_callee (f := 61) rfl ?_); refine goesL_ (some 8) rfl rfl Try.func61 (by kernel_rfl) rfl #[.slice A0 l0.length c0] rfl (by (try simp only [List.map_toArray, List.map_cons, List.map_nil]); first | done | rfl | (simp only [List.length_drop, List.length_take]; rfl)) ?_; (with_reducible refine (rank_Check.calls k _ _ l0 t1002 _ ?side1 ?side2 A4.out).mono ?_); (case side1 => repeat (first | exact HR0.out | (with_reducible refine Kd.C_alloc ?_ _) | (with_reducible refine Kd.C_drewN ?_ _) | (with_reducible refine Kd.C_drew ?_))); (case side2 => exact HC0.out); rintro e w' ⟨rfl, ⟨nd, rfl⟩⟩; refine ⟨_, rfl, ?_⟩))
      go_meet
      case rel => exact ⟨_, (true), (by first | rfl | (simp; done) | (simp [*]; done)), (by first | exact H' | (rw [hji10]; exact H')), ⟨by first | omega | exact Nat.le_refl _⟩, by repeat (first | exact Drawn0.refl _ | apply Drawn0.step)⟩
  case rest =>
    clear HC3
    try clear p2
    try clear c5
    try clear c5b0
    try clear c5b1
    try clear c6
    try clear c6b0
    obtain ⟨kq, x19_2, rfl, HA, HJ2, ⟨mc2, rfl⟩⟩ := hcut
    cases kq with
    | zero => exact absurd HA.out (by simp [rank_Span.j0])
    | succ kj2 =>
      have H := HA.out
      clear HA
      simp only [rank_Span.j0] at H
      by_cases c7 : x19_2 = true
      · subst c7
        have H1 : (some (0, 0, 1)) = some (r1, r2, r3) := by first | (rw [if_pos rfl] at H; exact H) | (rw [if_pos trivial] at H; exact H)
        clear H
        have H := H1
        clear H1
        simp only [Option.some.injEq, Prod.mk.injEq] at H
        obtain ⟨rfl, rfl, rfl⟩ := H
        go_wp2
        go_ret3
        exact ⟨by first | rfl | (simp; done) | (simp [*]; done), by repeat (first | exact Drawn0.refl _ | apply Drawn0.step)⟩
      · replace c7 := Bool.eq_false_iff.mpr c7
        subst c7
        have H1 : (if a1 > 0 then (if 0 ≤ (wrap64 (a1 - 1)) then (if (wrap64 (a1 - 1)) < (l0.length : Int) then (rank_Span.j1 kj2 l0 a1 (rd l0 (wrap64 (a1 - 1))) 32767) else (none)) else (none)) else (rank_Span.j1 kj2 l0 a1 (-32767) 32767)) = some (r1, r2, r3) := by rw [if_neg (show ¬ (false = true) by decide)] at H; exact H
        clear H
        have H := H1
        clear H1
        have HC8 := Aside0.mk H
        clear H
        go_upto_if 21 with (fail)
        go_cut [4] (fun v4 wc => ∃ (kq : Nat) (x4_7 : Int), v4 = .int .i16 x4_7 ∧ Aside0 (rank_Span.j1 kq l0 a1 x4_7 32767 = some (r1, r2, r3)) ∧ Aside0 (kq ≤ kj2) ∧ Drawn0 w wc)
        case first =>
          have H := HC8.out
          clear HC8
          by_cases c9 : a1 > 0
          · rw [if_pos c9] at H
            have c9b0 : decide (0 < a1) = true := decide_eq_true c9
            clear c9
            (first | rw [c9b0] | (simp only [i64_w, i32_w]; rw [c9b0]) | skip)
            obtain ⟨ji10, hji10⟩ : ∃ j_ : Int, (wrap64 (a1 - 1)) = j_ := ⟨_, rfl⟩
            replace H : (if 0 ≤ (ji10) then (if (ji10) < (l0.length : Int) then (rank_Span.j1 kj2 l0 a1 (rd l0 (ji10)) 32767) else (none)) else (none)) = some (r1, r2, r3) := by first | (rw [hji10] at H; exact H) | (simp only [hji10] at H ⊢; exact H)
            have hji10w : (IntKind.i64.wrap (a1 - 1)) = ji10 := (i64_w _).trans hji10
            by_cases c11 : 0 ≤ (ji10)
            · rw [if_pos c11] at H
              have c11b0 : decide (0 ≤ (ji10)) = true := decide_eq_true c11
              clear c11
              by_cases c12 : (ji10) < (l0.length : Int)
              · rw [if_pos c12] at H
                have c12b0 : decide ((ji10) < (l0.length : Int)) = true := decide_eq_true c12
                clear c12
                have H' := Aside0.mk H
                clear H
                have p1003 : 0 ≤ ((ji10) : Int) := of_decide_eq_true (by first | (with_reducible assumption) | assumption)
                have q1003 : (ji10) < (l0.length : Int) := of_decide_eq_true (by first | (with_reducible assumption) | assumption)
                obtain ⟨ad1003, e1003, hx1003_0⟩ := Kd.at_int HR0.out (ji10) p1003 q1003
                cases e1003
                replace p1003 := eq_true p1003
                replace q1003 := eq_true q1003
                go_wp2
                go_meet
                case rel => exact ⟨_, (rd l0 (ji10)), (by first | rfl | (simp; done) | (simp only [← hji10] <;> (first | rfl | simp)) | (simp [*]; done)), (by first | exact H' | (rw [hji10]; exact H')), ⟨by have := HJ2.out; first | omega | exact Nat.le_refl _⟩, by repeat (first | exact Drawn0.refl _ | apply Drawn0.step)⟩
              · rw [if_neg c12] at H
                exact absurd H (by simp)
            · rw [if_neg c11] at H
              exact absurd H (by simp)
          · rw [if_neg c9] at H
            have c9b0 : decide (0 < a1) = false := decide_eq_false c9
            clear c9
            (first | rw [c9b0] | (simp only [i64_w, i32_w]; rw [c9b0]) | skip)
            have H' := Aside0.mk H
            clear H
            go_wp2
            go_meet
            case rel => exact ⟨_, ((-32767)), (by first | rfl | (simp; done) | (simp [*]; done)), (by first | exact H' | (rw [hji10]; exact H')), ⟨by have := HJ2.out; first | omega | exact Nat.le_refl _⟩, by repeat (first | exact Drawn0.refl _ | apply Drawn0.step)⟩
        case rest =>
          clear HC8
          try clear c1
          try clear p1
          try clear q1
          try clear hx1
          try clear c2
          try clear p2
          try clear c5
          try clear c5b0
          try clear c5b1
          try clear c6
          try clear c6b0
          try clear p6
          try clear c7
          try clear c9
          try clear c9b0
          try clear p10
          try clear q10
          try clear hx10
          try clear c11
          try clear c11b0
          try clear c12
          try clear c12b0
          try clear hx1003_0
          try clear p1003
          try clear p2
          try clear q1003
          obtain ⟨kq, x4_7, rfl, HA, HJ7, ⟨mc7, rfl⟩⟩ := hcut
          cases kq with
          | zero => exact absurd HA.out (by simp [rank_Span.j1])
          | succ kj7 =>
            have H := HA.out
            clear HA
            simp only [rank_Span.j1] at H
            by_cases c13 : a1 < (l0.length : Int)
            · rw [if_pos c13] at H
              have c13b0 : decide (a1 < (l0.length : Int)) = true := decide_eq_true c13
              clear c13
              by_cases c14 : 0 ≤ a1
              · rw [if_pos c14] at H
                have c14b0 : decide (0 ≤ a1) = true := decide_eq_true c14
                clear c14
                by_cases c15 : (rd l0 a1) ≤ x4_7
                · rw [if_pos c15] at H
                  have c15b0 : decide ((rd l0 a1) ≤ x4_7) = true := decide_eq_true c15
                  clear c15
                  simp only [Option.some.injEq, Prod.mk.injEq] at H
                  obtain ⟨rfl, rfl, rfl⟩ := H
                  have p1004 : 0 ≤ (a1 : Int) := of_decide_eq_true (by first | (with_reducible assumption) | assumption)
                  have q1004 : a1 < (l0.length : Int) := of_decide_eq_true (by first | (with_reducible assumption) | assumption)
                  obtain ⟨ad1004, e1004, hx1004_0⟩ := Kd.at_int HR0.out a1 p1004 q1004
                  cases e1004
                  replace p1004 := eq_true p1004
                  replace q1004 := eq_true q1004
                  go_wp2
                  go_ret3
                  exact ⟨by first | rfl | (simp; done) | (simp [*]; done), by repeat (first | exact Drawn0.refl _ | apply Drawn0.step)⟩
                · rw [if_neg c15] at H
                  have c15b0 : decide ((rd l0 a1) ≤ x4_7) = false := decide_eq_false c15
                  clear c15
                  simp only [Option.some.injEq, Prod.mk.injEq] at H
                  obtain ⟨rfl, rfl, rfl⟩ := H
                  have p1004 : 0 ≤ (a1 : Int) := of_decide_eq_true (by first | (with_reducible assumption) | assumption)
                  have q1004 : a1 < (l0.length : Int) := of_decide_eq_true (by first | (with_reducible assumption) | assumption)
                  obtain ⟨ad1004, e1004, hx1004_0⟩ := Kd.at_int HR0.out a1 p1004 q1004
                  cases e1004
                  replace p1004 := eq_true p1004
                  replace q1004 := eq_true q1004
                  go_wp2
                  go_ret3
                  exact ⟨by first | rfl | (simp; done) | (simp [*]; done), by repeat (first | exact Drawn0.refl _ | apply Drawn0.step)⟩
              · rw [if_neg c14] at H
                exact absurd H (by simp)
            · rw [if_neg c13] at H
              have c13b0 : decide (a1 < (l0.length : Int)) = false := decide_eq_false c13
              clear c13
              simp only [Option.some.injEq, Prod.mk.injEq] at H
              obtain ⟨rfl, rfl, rfl⟩ := H
              go_wp2
              go_ret3
              exact ⟨by first | rfl | (simp; done) | (simp [*]; done), by repeat (first | exact Drawn0.refl _ | apply Drawn0.step)⟩

end Go.Proofs.Ytkjibgfgbfacdaa.P
end
/-! part: PRank -/
section
set_option linter.unusedVariables false
set_option linter.unusedSimpArgs false
namespace Go.Proofs.Ytkjibgfgbfacdaa.P
open Go.RowKit Go.Proofs.YtkjibgfgbfacdaaW.PrintWords Go.Proofs.YtkjibgfgbfacdaaW.PrintLast Go.Proofs.YtkjibgfgbfacdaaW.PrintMore
set_option linter.unusedVariables false

theorem countP_iff (x : Int) : ∀ l : List Int, (∀ a b : Nat, a ≤ b → b < l.length → l.getD a 0 ≤ l.getD b 0) → ∀ i, i < l.length → (l.getD i 0 ≤ x ↔ i < l.countP (fun c => decide (c ≤ x))) := by
  intro l
  induction l with
  | nil => intro _ i hi; simp at hi
  | cons a t ih =>
    intro hm i hi
    have hm' : ∀ p q : Nat, p ≤ q → q < t.length → t.getD p 0 ≤ t.getD q 0 := by
      intro p q hpq hq
      have := hm (p + 1) (q + 1) (by omega) (by simp; omega)
      simpa using this
    by_cases ha : a ≤ x
    · rw [List.countP_cons_of_pos (by simpa using ha)]
      cases i with
      | zero => simp [ha]
      | succ i =>
        have := ih hm' i (by simpa using hi)
        simp only [List.getD_cons_succ]
        rw [this]
        omega
    · have h0 : (a :: t).countP (fun c => decide (c ≤ x)) = 0 := by
        rw [List.countP_eq_zero]
        intro c hc
        obtain ⟨j, hj, e⟩ := List.getElem_of_mem hc
        have := hm 0 j (by omega) hj
        simp only [List.getD_cons_zero] at this
        rw [List.getD_eq_getElem?_getD, List.getElem?_eq_getElem hj, Option.getD_some, e] at this
        simp
        omega
      rw [h0]
      have := hm 0 i (by omega) hi
      simp only [List.getD_cons_zero] at this
      constructor
      · intro h; omega
      · intro h; omega
theorem cellOf_nat (l : List Int) (x : Int) : ∃ n : Nat, cellOf l x = (n : Int) ∧ n ≤ l.length ∧ (cutsOk l = true → ∀ i, i < l.length → (l.getD i 0 ≤ x ↔ i < n)) :=
  ⟨l.countP (fun c => decide (c ≤ x)), rfl, List.countP_le_length, fun h => countP_iff x l (sorted_mono h)⟩
/-- Which numbers are in a cell. -/
def spanP (l : List Int) (c : Nat) : Int × Int × Int :=
  let low := if c = 0 then -32767 else l.getD (c - 1) 0
  if c < l.length then (if l.getD c 0 ≤ low then (0, 0, 5) else (low, l.getD c 0 - 1, 0)) else (low, 32767, 0)
end Go.Proofs.Ytkjibgfgbfacdaa.P
end
/-! part: PCount -/
section
set_option linter.unusedVariables false
set_option linter.unusedSimpArgs false
namespace Go.Proofs.Ytkjibgfgbfacdaa.P
open Go.RowKit Go.Proofs.YtkjibgfgbfacdaaW.PrintWords Go.Proofs.YtkjibgfgbfacdaaW.PrintLast Go.Proofs.YtkjibgfgbfacdaaW.PrintMore
set_option linter.unusedVariables false
/-- How many of l are in cell c. -/
def cntAt (cuts l : List Int) (c : Nat) : Int := ((l.countP (fun x => decide (cellOf cuts x = (c : Int))) : Nat) : Int)
def cntOf (cuts l : List Int) : List Int := (List.range (cuts.length + 1)).map (cntAt cuts l)
def countP_ (cuts l : List Int) : List Int × Int := if cutsOk cuts = true ∧ l.all (fun x => decide (-32767 ≤ x)) = true then (cntOf cuts l, 0) else ([], 1)
theorem cntOf_length (cuts l : List Int) : (cntOf cuts l).length = cuts.length + 1 := by simp [cntOf]
theorem cntOf_getD (cuts l : List Int) (c : Nat) (h : c < cuts.length + 1) : (cntOf cuts l).getD c 0 = cntAt cuts l c := by
  unfold cntOf
  simp [List.getD_eq_getElem?_getD, h]
theorem cntAt_snoc (cuts l : List Int) (x : Int) (c : Nat) : cntAt cuts (l ++ [x]) c = cntAt cuts l c + (if cellOf cuts x = (c : Int) then 1 else 0) := by
  unfold cntAt
  rw [List.countP_append]
  by_cases h : cellOf cuts x = (c : Int)
  · rw [if_pos h]; simp [h]
  · rw [if_neg h]; simp [h]
theorem sum_ind (f : Nat → Int) (n : Nat) : ∀ m : Nat, ((List.range m).map (fun c => f c + (if (n : Int) = (c : Int) then 1 else 0))).sum = ((List.range m).map f).sum + (if n < m then 1 else 0) := by
  intro m
  induction m with
  | zero => simp
  | succ m ih =>
    rw [List.range_succ, List.map_append, List.map_append, List.sum_append, List.sum_append, ih]
    simp only [List.map_cons, List.map_nil, List.sum_cons, List.sum_nil]
    by_cases h1 : n < m
    · rw [if_pos h1, if_neg (by omega), if_pos (by omega)]; omega
    · by_cases h2 : n = m
      · rw [if_neg h1, if_pos (by omega), if_pos (by omega)]; omega
      · rw [if_neg h1, if_neg (by omega), if_neg (by omega)]; omega
theorem cntOf_sum (cuts l : List Int) : (cntOf cuts l).sum = (l.length : Int) := by
  have : ∀ r : List Int, (cntOf cuts r.reverse).sum = (r.length : Int) := by
    intro r
    induction r with
    | nil =>
      unfold cntOf
      have : ∀ m : Nat, ((List.range m).map (cntAt cuts [])).sum = 0 := by
        intro m
        induction m with
        | zero => rfl
        | succ m ih => rw [List.range_succ, List.map_append, List.sum_append, ih]; simp [cntAt]
      simpa using this (cuts.length + 1)
    | cons x t ih =>
      obtain ⟨n, hn, hnl, _⟩ := cellOf_nat cuts x
      rw [List.reverse_cons]
      unfold cntOf
      have e : (List.range (cuts.length + 1)).map (cntAt cuts (t.reverse ++ [x])) = (List.range (cuts.length + 1)).map (fun c => cntAt cuts t.reverse c + (if (n : Int) = (c : Int) then 1 else 0)) :=
        List.map_congr_left fun c _ => by rw [cntAt_snoc, hn]
      rw [e, sum_ind, if_pos (by omega)]
      unfold cntOf at ih
      rw [ih]
      simp
  have := this l.reverse
  simpa using this
theorem cntOf_take (cuts l : List Int) (c : Nat) : 0 ≤ ((cntOf cuts l).take c).sum ∧ ((cntOf cuts l).take c).sum ≤ (cntOf cuts l).sum := by
  have pos : ∀ s : List Int, (∀ x ∈ s, 0 ≤ x) → 0 ≤ s.sum := by
    intro s
    induction s with
    | nil => intro _; simp
    | cons x t ih =>
      intro h
      rw [List.sum_cons]
      have := ih fun y hy => h y (List.mem_cons_of_mem _ hy)
      have := h x (by simp)
      omega
  have hx : ∀ x ∈ cntOf cuts l, 0 ≤ x := by
    intro x hx
    unfold cntOf at hx
    obtain ⟨c, _, rfl⟩ := List.mem_map.1 hx
    unfold cntAt
    omega
  have h1 := pos _ fun x h => hx x (List.mem_of_mem_take (i := c) h)
  have h2 := pos _ fun x h => hx x (List.mem_of_mem_drop (i := c) h)
  have h3 : (cntOf cuts l).sum = ((cntOf cuts l).take c).sum + ((cntOf cuts l).drop c).sum := by
    rw [← List.sum_append, List.take_append_drop]
  omega
theorem count_l0 (cuts l : List Int) (hc : cutsOk cuts = true) (hl : l.length ≤ 4096) (d : Nat) : ∀ i : Nat, i + d = l.length →
    Ev (fun k => rank_Count.l0 k cuts (cntOf cuts (l.take i)) l (l.length : Int) i) (if (l.drop i).all (fun x => decide (-32767 ≤ x)) = true then (cntOf cuts l, 0) else ([], 1)) := by
  have hlen := cutsLen hc
  induction d with
  | zero =>
    intro i hi
    rw [List.take_of_length_le (by omega), List.drop_eq_nil_of_le (by omega)]
    refine Ev.step (g' := fun _ => _) (fun k => ?_) (Ev.const _)
    simp only [rank_Count.l0]
    rw [if_neg (by omega)]
    rfl
  | succ d ih =>
    intro i hi
    have hnext := ih (i + 1) (by omega)
    have hlt : i < l.length := by omega
    have er : rd l (i : Int) = l.getD i 0 := by show l.getD ((i : Int)).toNat 0 = _; rw [Int.toNat_natCast]
    rw [rdI l i hlt, List.all_cons]
    by_cases hx : -32767 ≤ l.getD i 0
    · rw [decide_eq_true hx, Bool.true_and]
      obtain ⟨n, hn, hnl, _⟩ := cellOf_nat cuts (l.getD i 0)
      have etk : l.take (i + 1) = l.take i ++ [l.getD i 0] := by
        rw [List.take_succ_eq_append_getElem hlt]
        simp [List.getD_eq_getElem?_getD, hlt]
      have ecn : rd (cntOf cuts (l.take i)) (n : Int) = cntAt cuts (l.take i) n := by
        show (cntOf cuts (l.take i)).getD ((n : Int)).toNat 0 = _
        rw [Int.toNat_natCast]
        exact cntOf_getD cuts _ n (by omega)
      have hb : 0 ≤ cntAt cuts (l.take i) n ∧ cntAt cuts (l.take i) n ≤ 4096 := by
        unfold cntAt
        have := List.countP_le_length (p := fun x => decide (cellOf cuts x = (n : Int))) (l := l.take i)
        rw [List.length_take] at this
        omega
      have hset : (cntOf cuts (l.take i)).set n (cntAt cuts (l.take i) n + 1) = cntOf cuts (l.take (i + 1)) := by
        apply List.ext_getElem
        · rw [List.length_set, cntOf_length, cntOf_length]
        · intro j h1 h2
          rw [List.length_set, cntOf_length] at h1
          have g1 : (cntOf cuts (l.take (i + 1)))[j] = cntAt cuts (l.take (i + 1)) j := by
            have := cntOf_getD cuts (l.take (i + 1)) j h1
            rw [List.getD_eq_getElem?_getD, List.getElem?_eq_getElem h2] at this
            simpa using this
          have h3 : j < (cntOf cuts (l.take i)).length := by rw [cntOf_length]; exact h1
          have g2 : (cntOf cuts (l.take i))[j] = cntAt cuts (l.take i) j := by
            have := cntOf_getD cuts (l.take i) j h1
            rw [List.getD_eq_getElem?_getD, List.getElem?_eq_getElem h3] at this
            simpa using this
          rw [g1, etk, cntAt_snoc, hn, List.getElem_set]
          by_cases e : n = j
          · subst e
            rw [if_pos rfl, if_pos rfl]
          · rw [if_neg e, if_neg (by omega), g2]
            omega
      refine Ev.step (fun k => ?_) hnext
      simp only [rank_Count.l0]
      unfold h_rank_Cell.f
      rw [if_pos (by omega), if_pos (by omega), if_pos (by omega), er, if_pos ⟨hc, hx⟩]
      simp only [Option.bind_some, if_true]
      rw [hn, if_pos (by omega), if_pos (by rw [cntOf_length]; omega), ecn, w64 (by omega) (by omega), Int.toNat_natCast, hset, idxCast i (by omega)]
    · rw [decide_eq_false hx, Bool.false_and]
      refine Ev.step (g' := fun _ => _) (fun k => ?_) (Ev.const _)
      simp only [rank_Count.l0]
      unfold h_rank_Cell.f
      rw [if_pos (by omega), if_pos (by omega), if_pos (by omega), er, if_neg (fun z => hx z.2)]
      rfl
theorem count_ev (cuts l : List Int) (hl : l.length ≤ 4096) : Ev (fun k => rank_Count.f k cuts l) (countP_ cuts l) := by
  have hc1 : Ev (fun k => rank_Check.f k cuts) (if cutsOk cuts = true then 0 else 1) := ⟨17, fun k hk => rankCheck cuts k hk⟩
  unfold rank_Count.f countP_
  simp only [if_neg (show ¬ ((l.length : Int) > 4096) by omega)]
  refine Ev.bind hc1 ?_
  by_cases hc : cutsOk cuts = true
  · have hlen := cutsLen hc
    have e1 : wrap64 ((cuts.length : Int) + 1) = ((cuts.length + 1 : Nat) : Int) := by unfold wrap64; omega
    simp only [if_pos hc, if_true, e1, if_pos (show (0 : Int) ≤ ((cuts.length + 1 : Nat) : Int) by omega), Int.toNat_natCast, if_pos (show cuts.length + 1 ≤ 35184372088832 by omega)]
    have e2 : List.replicate (cuts.length + 1) (0 : Int) = cntOf cuts (l.take 0) := by
      unfold cntOf
      rw [List.take_zero]
      apply List.ext_getElem
      · simp
      · intro j h1 h2
        simp [cntAt]
    rw [e2]
    have hg := count_l0 cuts l hc hl l.length 0 (by omega)
    rw [List.drop_zero] at hg
    have e3 : (if cutsOk cuts = true ∧ l.all (fun x => decide (-32767 ≤ x)) = true then (cntOf cuts l, (0 : Int)) else ([], 1)) = (if l.all (fun x => decide (-32767 ≤ x)) = true then (cntOf cuts l, 0) else ([], 1)) := by
      simp [hc]
    rw [e3]
    exact hg
  · simp only [if_neg hc, if_neg (show ¬ ((1 : Int) = 0) by decide)]
    rw [if_neg (fun z => hc z.1)]
    exact Ev.const _
end Go.Proofs.Ytkjibgfgbfacdaa.P
end
/-! part: PLive06 -/
section
set_option linter.unusedVariables false
set_option linter.unusedSimpArgs false
namespace Go.Proofs.Ytkjibgfgbfacdaa.P
open Go.RowKit Go.Proofs.YtkjibgfgbfacdaaW.PrintWords Go.Proofs.YtkjibgfgbfacdaaW.PrintLast Go.Proofs.YtkjibgfgbfacdaaW.PrintMore
theorem sort16_eq {l s : List Int} (hp : l.Perm s) (hs : s.Pairwise (fun a b => decide (a ≤ b) = true)) : sort16 l = s := by
  have tr : ∀ a b c : Int, decide (a ≤ b) = true → decide (b ≤ c) = true → decide (a ≤ c) = true := fun a b c h1 h2 => by simp only [decide_eq_true_eq] at *; omega
  have tot : ∀ a b : Int, (decide (a ≤ b) || decide (b ≤ a)) = true := fun a b => by simp only [Bool.or_eq_true, decide_eq_true_eq]; omega
  refine List.Perm.eq_of_pairwise (le := fun a b => decide (a ≤ b) = true) (fun a b _ _ h1 h2 => ?_) (List.pairwise_mergeSort tr tot _) hs ((List.mergeSort_perm _ _).trans hp)
  simp only [decide_eq_true_eq] at h1 h2
  omega
theorem live06_0 : cuvettelaw06_live.f0 = some true := by
  have e1 : h_rank_Cuts.f [1, 5, 9, 3] 2 = some ([5], 0) := by
    unfold h_rank_Cuts.f
    rw [sort16_eq (s := [1, 3, 5, 9]) (by decide) (by decide)]
    rfl
  unfold cuvettelaw06_live.f0
  rw [e1]
  rfl
theorem live06 : cuvettelaw06_live.f = some true := by
  unfold cuvettelaw06_live.f
  rw [if_pos live06_0]
end Go.Proofs.Ytkjibgfgbfacdaa.P
end
/-! part: PureRankCounts -/
section
set_option linter.unusedVariables false
set_option linter.unusedSimpArgs false
namespace Go.Proofs.Ytkjibgfgbfacdaa.P
open Go.RowKit Go.Proofs.YtkjibgfgbfacdaaW.PrintWords Go.Proofs.YtkjibgfgbfacdaaW.PrintLast Go.Proofs.YtkjibgfgbfacdaaW.PrintMore
set_option linter.unusedVariables false
theorem counts_l0 (cuts l m : List Int) (hcl : cuts.length < 16) (hl : l.length ≤ 600) (hm : m.length ≤ 600) (d : Nat) : ∀ c : Nat, c + d = cuts.length + 1 →
    Ev (fun k => cuvettelaw06_RankCounts.l0 k cuts l m true (cntOf cuts l) (cntOf cuts m) (cntOf cuts (l ++ m)) 0 (((cntOf cuts (l ++ m)).take c).sum) (cntOf cuts (l ++ m)) ((cntOf cuts (l ++ m)).length : Int) c) true := by
  have la := cntOf_length cuts l
  have lb := cntOf_length cuts m
  have lc := cntOf_length cuts (l ++ m)
  induction d with
  | zero =>
    intro c hc
    rw [List.take_of_length_le (by omega), cntOf_sum]
    refine Ev.step (g' := fun _ => _) (fun k => ?_) (Ev.const _)
    simp only [cuvettelaw06_RankCounts.l0]
    have e1 : wrap64 ((l.length : Int) + (m.length : Int)) = (((l ++ m).length : Nat) : Int) := by rw [List.length_append]; unfold wrap64; omega
    have e2 : wrap64 ((cuts.length : Int) + 1) = ((cuts.length + 1 : Nat) : Int) := by unfold wrap64; omega
    rw [if_neg (by omega), if_pos trivial, if_pos trivial, e1, if_pos rfl, e2, lc]
    simp
  | succ d ih =>
    intro c hc
    have hnext := ih (c + 1) (by omega)
    have hlt : c < (cntOf cuts (l ++ m)).length := by omega
    have ec : ∀ s : List Int, rd (cntOf cuts s) (c : Int) = cntAt cuts s c := by
      intro s
      show (cntOf cuts s).getD ((c : Int)).toNat 0 = _
      rw [Int.toNat_natCast]
      exact cntOf_getD cuts s c (by omega)
    have hb : ∀ s : List Int, 0 ≤ cntAt cuts s c ∧ cntAt cuts s c ≤ (s.length : Int) := by
      intro s
      unfold cntAt
      have := List.countP_le_length (p := fun x => decide (cellOf cuts x = (c : Int))) (l := s)
      omega
    have hsum : 0 ≤ ((cntOf cuts (l ++ m)).take c).sum ∧ ((cntOf cuts (l ++ m)).take c).sum ≤ 1200 := by
      obtain ⟨s0, s1⟩ := cntOf_take cuts (l ++ m) c
      have := cntOf_sum cuts (l ++ m)
      rw [List.length_append] at this
      omega
    have h1 := hb l
    have h2 := hb m
    have e3 : cntAt cuts (l ++ m) c = cntAt cuts l c + cntAt cuts m c := by unfold cntAt; rw [List.countP_append]; simp
    have e4 : ((cntOf cuts (l ++ m)).take (c + 1)).sum = ((cntOf cuts (l ++ m)).take c).sum + cntAt cuts (l ++ m) c := by
      rw [List.take_succ_eq_append_getElem hlt, List.sum_append]
      have : (cntOf cuts (l ++ m))[c] = cntAt cuts (l ++ m) c := by
        have := cntOf_getD cuts (l ++ m) c (by omega)
        rw [List.getD_eq_getElem?_getD, List.getElem?_eq_getElem hlt] at this
        simpa using this
      rw [this]
      simp
    refine Ev.step (fun k => ?_) hnext
    simp only [cuvettelaw06_RankCounts.l0]
    rw [if_pos (by omega), if_pos (by omega), if_pos (by omega), if_neg (by omega), if_neg (by omega), if_pos (by omega), if_pos (by omega), ec, ec, ec, w64 (i := cntAt cuts l c + cntAt cuts m c) (by omega) (by omega), if_pos e3, idxCast c (by omega), e4, w64 (by omega) (by omega)]
theorem pure_RankCounts (l0 : List Int) (l1 : List Int) (l2 : List Int) (w0 : okI .i16 l0) (w1 : okI .i16 l1) (w2 : okI .i16 l2) : ∃ k, cuvettelaw06_RankCounts.f k l0 l1 l2 = some true := by
  refine Ev.some (g := fun k => cuvettelaw06_RankCounts.f k l0 l1 l2) ?_
  unfold cuvettelaw06_RankCounts.f
  rw [live06]
  simp only [Option.bind_some, if_true]
  have stop : Ev (fun k => cuvettelaw06_RankCounts.j0 k l0 l1 l2 true true) true := Ev.step (g' := fun _ => some true) (fun k => by simp [cuvettelaw06_RankCounts.j0]) (Ev.const _)
  by_cases h0 : (l0.length : Int) > 300
  · simp only [if_pos h0]; exact stop
  simp only [if_neg h0]
  by_cases h1 : (l1.length : Int) > 600
  · simp only [if_pos h1]; exact stop
  simp only [if_neg h1]
  by_cases h2 : (l2.length : Int) > 600
  · rw [decide_eq_true h2]; exact stop
  rw [decide_eq_false h2]
  refine Ev.step (g' := fun k => (rank_Count.f k l0 l1).bind fun bt1033 => ((rank_Count.f k l0 l2).bind fun bt1037 => (if ([] : List Int).length + l1.length < 70368744177664 then ((some (([] : List Int) ++ l1 : List Int)).bind fun y1041 => (if y1041.length + l2.length < 70368744177664 then ((rank_Count.f k l0 (y1041 ++ l2)).bind fun bt1047 => (if bt1033.2 = 0 then (cuvettelaw06_RankCounts.j1 k l0 l1 l2 true bt1033.1 bt1037.1 bt1047.1 bt1047.2 (bt1037.2 != 0)) else (cuvettelaw06_RankCounts.j1 k l0 l1 l2 true bt1033.1 bt1037.1 bt1047.1 bt1047.2 true))) else (none))) else (none)))) (fun k => by simp only [cuvettelaw06_RankCounts.j0]; rw [if_neg (by decide)]) ?_
  refine Ev.bind (count_ev l0 l1 (by omega)) (Ev.bind (count_ev l0 l2 (by omega)) ?_)
  simp only [List.length_nil, Nat.zero_add, if_pos (show l1.length < 70368744177664 by omega), List.nil_append, Option.bind_some, if_pos (show l1.length + l2.length < 70368744177664 by omega)]
  refine Ev.bind (count_ev l0 (l1 ++ l2) (by rw [List.length_append]; omega)) ?_
  have bad : ∀ a b c e, e ≠ (0 : Int) → Ev (fun k => cuvettelaw06_RankCounts.j1 k l0 l1 l2 true a b c e true) true := by
    intro a b c e he
    refine Ev.step (g' := fun _ => _) (fun k => ?_) (Ev.const _)
    simp [cuvettelaw06_RankCounts.j1, he]
  by_cases hc : cutsOk l0 = true
  · have hlen := cutsLen hc
    by_cases ha : l1.all (fun x => decide (-32767 ≤ x)) = true
    · by_cases hb : l2.all (fun x => decide (-32767 ≤ x)) = true
      · have hab : (l1 ++ l2).all (fun x => decide (-32767 ≤ x)) = true := by rw [List.all_append, ha, hb]; rfl
        unfold countP_
        rw [if_pos ⟨hc, ha⟩, if_pos ⟨hc, hb⟩, if_pos ⟨hc, hab⟩]
        have hg := counts_l0 l0 l1 l2 hlen (by omega) (by omega) (l0.length + 1) 0 (by omega)
        simp only [if_true]
        refine Ev.step (fun k => ?_) hg
        simp [cuvettelaw06_RankCounts.j1]
      · have hab : ¬ (cutsOk l0 = true ∧ (l1 ++ l2).all (fun x => decide (-32767 ≤ x)) = true) := fun z => hb (by have := z.2; rw [List.all_append, Bool.and_eq_true] at this; exact this.2)
        unfold countP_
        rw [if_pos ⟨hc, ha⟩, if_neg (fun z => hb z.2), if_neg hab]
        simp only [if_true]
        exact bad _ _ _ _ (by decide)
    · have hab : ¬ (cutsOk l0 = true ∧ (l1 ++ l2).all (fun x => decide (-32767 ≤ x)) = true) := fun z => ha (by have := z.2; rw [List.all_append, Bool.and_eq_true] at this; exact this.1)
      unfold countP_
      rw [if_neg (fun z => ha z.2), if_neg hab]
      simp only [if_neg (show ¬ ((1 : Int) = 0) by decide)]
      exact bad _ _ _ _ (by decide)
  · unfold countP_
    rw [if_neg (fun z => hc z.1), if_neg (fun z => hc z.1), if_neg (fun z => hc z.1)]
    simp only [if_neg (show ¬ ((1 : Int) = 0) by decide)]
    exact bad _ _ _ _ (by decide)
end Go.Proofs.Ytkjibgfgbfacdaa.P
end
/-! part: LawRankCounts -/
section
set_option linter.unusedVariables false
set_option linter.unusedSimpArgs false
namespace Go.Proofs.Ytkjibgfgbfacdaa.rankCounts
open Go.ChangeShapes Go.WideShapes Go.ChangeAt Go.RowKit Go.Joins Go.Proofs.YtkjibgfgbfacdaaW.PrintWords
set_option linter.unusedVariables false
theorem own : ownKnob Try.prog.godebug = none := by kernel_rfl
theorem laidOut : laidOutB Try.prog = true := RFacts.f2
set_option maxRecDepth 100000 in
theorem lifted (os : Os) (started : os.Started) (H : Type) (enc : TypeId × Value → H) :
    ReturnsInHanded {} Try.checked os 13 .any (Rows.rankCountsSpec.pre6 enc Try.prog Try.f13 Rows.rankCountsRow.domain false) (Rows.rankCountsSpec.post enc Try.prog Try.f13 false true false false) := by
  refine returnsInHanded_of_change_sized (C := Try.checked) own started (by kernel_rfl) Try.func13
    (ChangeSpec.witness6 (enc := enc) (C := Try.checked) false ⟨#[], #[.slice none 0 0, .slice none 0 0, .slice none 0 0], []⟩ 8 (by kernel_rfl) (by kernel_rfl) (by kernel_rfl) (by kernel_rfl)) ?_
  intro W base args ds gs before hval0 hW hcnd hsz0 _
  clear hsz0
  have hval : ∀ (j : Nat) t v, Try.f13.params[j]? = some t → args[j]? = some v → Value.okWide Try.prog W .any base t v := hval0
  have hW' := hW
  obtain ⟨p, q, hA0, hV, rfl, hfz, hnd⟩ := hW
  have hA : DataW.TrodAll enc Try.prog W 0 (fun _ => true) true Try.f13.params.toList args.toList ds p := hA0
  rw [Try.params13] at hA hval
  obtain ⟨v0, vs0, d0, ds0, p0, q0, hargs, rfl, rfl, h0, r0⟩ := trodAll_cons hA
  obtain ⟨v1, vs1, d1, ds1, p1, q1, rfl, rfl, rfl, h1, r1⟩ := trodAll_cons r0
  obtain ⟨v2, vs2, d2, ds2, p2, q2, rfl, rfl, rfl, h2, r2⟩ := trodAll_cons r1
  obtain ⟨rfl, rfl, rfl⟩ := trodAll_nil r2
  obtain rfl : args = #[v0, v1, v2] := by cases args; simp_all
  obtain ⟨rfl, rfl⟩ := trodVars_none hV
  have k0 := h0
  have lt0 : ∀ x ∈ p0, x.block < W.heap.size := by obtain ⟨m, hm⟩ := k0; exact DataW.trod_lt m _ _ _ hm
  obtain ⟨aa0, len0, cap0, rfl⟩ := okWide_slice Try.underlying26 (hval 0 26 v0 rfl rfl)
  obtain ⟨fuel0, hf0⟩ := h0
  obtain ⟨A0, c0, l0, ev0, hc0, hr0, w0⟩ := R.openI Try.underlying26 Try.underlying74 (by kernel_rfl) (by simpa [Value.cells] using hf0)
  rw [ev0] at hW' hval k0 ⊢
  have k1 := h1
  have lt1 : ∀ x ∈ p1, x.block < W.heap.size := by obtain ⟨m, hm⟩ := k1; exact DataW.trod_lt m _ _ _ hm
  obtain ⟨aa1, len1, cap1, rfl⟩ := okWide_slice Try.underlying26 (hval 1 26 v1 rfl rfl)
  obtain ⟨fuel1, hf1⟩ := h1
  obtain ⟨A1, c1, l1, ev1, hc1, hr1, w1⟩ := R.openI Try.underlying26 Try.underlying74 (by kernel_rfl) (by simpa [Value.cells] using hf1)
  rw [ev1] at hW' hval k1 ⊢
  have k2 := h2
  have lt2 : ∀ x ∈ p2, x.block < W.heap.size := by obtain ⟨m, hm⟩ := k2; exact DataW.trod_lt m _ _ _ hm
  obtain ⟨aa2, len2, cap2, rfl⟩ := okWide_slice Try.underlying26 (hval 2 26 v2 rfl rfl)
  obtain ⟨fuel2, hf2⟩ := h2
  obtain ⟨A2, c2, l2, ev2, hc2, hr2, w2⟩ := R.openI Try.underlying26 Try.underlying74 (by kernel_rfl) (by simpa [Value.cells] using hf2)
  rw [ev2] at hW' hval k2 ⊢
  clear hA0 hval0
  obtain ⟨k, hp⟩ := P.pure_RankCounts l0 l1 l2 w0 w1 w2
  refine (P.cuvettelaw06_RankCounts.calls k A0 c0 l0 A1 c1 l1 A2 c2 l2 true W hr0 hc0 hr1 hc1 hr2 hc2 hp rfl).mono fun e W' ⟨he, bel⟩ => ?_
  subst he
  exact ⟨_, rfl, _, _, _, [], _, [], hW', trodAll_mk1 (shut_bool Try.underlying4 _), (trodAll_cons_mk (Below.trod laidOut (by kernel_rfl) (of_decide_eq_true (by kernel_rfl)) k0 bel lt0) (trodAll_cons_mk (Below.trod laidOut (by kernel_rfl) (of_decide_eq_true (by kernel_rfl)) k1 bel lt1) (trodAll_cons_mk (Below.trod laidOut (by kernel_rfl) (of_decide_eq_true (by kernel_rfl)) k2 bel lt2) trodAll_mk0))), rfl, bel.frame _, fun h => by cases h⟩
set_option maxHeartbeats 0 in
theorem facts : joinedFacts Try.pinned.checked.prog 13 Try.f13 Rows.rankCountsSpec Rows.rankCountsRow = true := by
  unfold joinedFacts
  simp only [Bool.and_eq_true]
  repeat' apply And.intro
  · as_aux_lemma => kernel_rfl
  · exact RFacts.f2
  · exact RFacts.f3
  · as_aux_lemma => kernel_rfl
  · as_aux_lemma => kernel_rfl
  · as_aux_lemma => kernel_rfl
  · as_aux_lemma => kernel_rfl
  · as_aux_lemma => kernel_rfl
  · as_aux_lemma => kernel_rfl
  · as_aux_lemma => kernel_rfl
  · as_aux_lemma => kernel_rfl
  · as_aux_lemma => kernel_rfl
  · as_aux_lemma => kernel_rfl
  · as_aux_lemma => kernel_rfl
  · as_aux_lemma => kernel_rfl
  · as_aux_lemma => kernel_rfl
  · as_aux_lemma => kernel_rfl
  · as_aux_lemma => kernel_rfl
  · as_aux_lemma => kernel_rfl
  · as_aux_lemma => kernel_rfl
  · as_aux_lemma => kernel_rfl
  · as_aux_lemma => kernel_rfl
  · exact RFacts.f23
  · as_aux_lemma => kernel_rfl
  · exact RFacts.f25
  · exact RFacts.f26
  · exact RFacts.f27
  · exact RFacts.f28
  · as_aux_lemma => kernel_rfl
  · as_aux_lemma => kernel_rfl
  · as_aux_lemma => kernel_rfl
  · as_aux_lemma => kernel_rfl
theorem over : Rows.rankCountsRow.holds Try.pinned (OpenSpec.ofChange Rows.rankCountsSpec) :=
  OpenClaim.holds_of_wide 13 Try.f13 rfl rfl rfl rfl rfl rfl rfl ⟨rfl, rfl, rfl, rfl, rfl⟩ rfl rfl rfl rfl rfl (by as_aux_lemma => kernel_rfl) Try.func13 facts
    (of_decide_eq_true (by as_aux_lemma => kernel_rfl)) (by unfold Func.isWrapper; first | (rw [if_pos (by decide +kernel)]; kernel_rfl) | (rw [if_neg (by decide +kernel)]; exact ⟨rfl, rfl⟩))
    (fun os started H enc _ => lifted os started H enc)
theorem proved : Rows.RankCountsSaid := over
#print axioms proved
end Go.Proofs.Ytkjibgfgbfacdaa.rankCounts
namespace Go.Proofs.Ytkjibgfgbfacdaa
/-- The row, under a short name, for the claim. -/
theorem rankCounts_holds : Rows.RankCountsSaid := rankCounts.proved
end Go.Proofs.Ytkjibgfgbfacdaa
end
