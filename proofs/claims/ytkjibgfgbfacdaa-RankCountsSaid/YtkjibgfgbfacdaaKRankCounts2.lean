/- The law RankCounts of this seat answers true for every input, and its arguments read as they did. Conditions: none. This file holds a part of what the proof needs. -/
import Derived.Laws.BitsLemmas
import Derived.Test.YtkjibgfgbfacdaaKRankCounts0
import Derived.Test.YtkjibgfgbfacdaaKRankCounts1
/-! part: F13 -/
section
set_option linter.unusedVariables false
set_option linter.unusedSimpArgs false
namespace Go.Proofs.Ytkjibgfgbfacdaa.P
open Go.RowKit Go.Proofs.YtkjibgfgbfacdaaW.PrintWords Go.Proofs.YtkjibgfgbfacdaaW.PrintLast Go.Proofs.YtkjibgfgbfacdaaW.PrintMore
attribute [local go_sem] max2_int min2_int max_two min_two max_three min_three max_four min_four   -- for this text's walks alone
set_option linter.unusedVariables false
set_option linter.unusedSimpArgs false

/-! ### cuvettelaw06_RankCounts: function 13 -/
mutual
def cuvettelaw06_RankCounts.j0 : Nat → List Int → List Int → List Int → Bool → Bool → Option (Bool)
  | 0, _, _, _, _, _ => none
  | k + 1, x0, x1, x2, x7, x32 => if x32 = true then (some x7) else ((rank_Count.f k x0 x1).bind fun bt1033 => ((rank_Count.f k x0 x2).bind fun bt1037 => (if ([] : List Int).length + x1.length < 70368744177664 then ((some (([] : List Int) ++ x1 : List Int)).bind fun y1041 => (if y1041.length + x2.length < 70368744177664 then ((rank_Count.f k x0 (y1041 ++ x2)).bind fun bt1047 => (if bt1033.2 = 0 then (cuvettelaw06_RankCounts.j1 k x0 x1 x2 x7 bt1033.1 bt1037.1 bt1047.1 bt1047.2 (bt1037.2 != 0)) else (cuvettelaw06_RankCounts.j1 k x0 x1 x2 x7 bt1033.1 bt1037.1 bt1047.1 bt1047.2 true))) else (none))) else (none))))
def cuvettelaw06_RankCounts.j1 : Nat → List Int → List Int → List Int → Bool → List Int → List Int → List Int → Int → Bool → Option (Bool)
  | 0, _, _, _, _, _, _, _, _, _ => none
  | k + 1, x0, x1, x2, x7, x8, x10, x12, x13, x60 => if x60 = true then (if x7 = true then (some (x13 != 0)) else (some false)) else (cuvettelaw06_RankCounts.l0 k x0 x1 x2 x7 x8 x10 x12 x13 0 x12 (x12.length : Int) 0)
def cuvettelaw06_RankCounts.l0 : Nat → List Int → List Int → List Int → Bool → List Int → List Int → List Int → Int → Int → List Int → Int → Int → Option (Bool)
  | 0, _, _, _, _, _, _, _, _, _, _, _, _ => none
  | k + 1, x0, x1, x2, x7, x8, x10, x12, x13, x14, x66, x67, x68 => if x68 < x67 then (if 0 ≤ x68 then (if x68 < (x66.length : Int) then (if x68 ≥ (x8.length : Int) then (some false) else (if x68 ≥ (x10.length : Int) then (some false) else (if x68 < (x8.length : Int) then (if x68 < (x10.length : Int) then (if (rd x66 x68) = (wrap64 ((rd x8 x68) + (rd x10 x68))) then (cuvettelaw06_RankCounts.l0 k x0 x1 x2 x7 x8 x10 x12 x13 (wrap64 (x14 + (rd x66 x68))) x66 x67 (wrap64 (x68 + 1))) else (some false)) else (none)) else (none)))) else (none)) else (none)) else (if x7 = true then (if x13 = 0 then (if x14 = (wrap64 ((x1.length : Int) + (x2.length : Int))) then (some ((x12.length : Int) == (wrap64 ((x0.length : Int) + 1)))) else (some false)) else (some false)) else (some false))
end
def cuvettelaw06_RankCounts.f (k : Nat) (l0 : List Int) (l1 : List Int) (l2 : List Int) : Option (Bool) := (cuvettelaw06_live.f).bind fun t1032 => (if t1032 = true then (if (l0.length : Int) > 300 then (cuvettelaw06_RankCounts.j0 k l0 l1 l2 t1032 true) else (if (l1.length : Int) > 600 then (cuvettelaw06_RankCounts.j0 k l0 l1 l2 t1032 true) else (cuvettelaw06_RankCounts.j0 k l0 l1 l2 t1032 (decide ((l2.length : Int) > 600))))) else (some false))
theorem cuvettelaw06_RankCounts.mono_l : ∀ k, (∀ y0 y1 y2 y3 y4, LeO (cuvettelaw06_RankCounts.j0 k y0 y1 y2 y3 y4) (cuvettelaw06_RankCounts.j0 (k + 1) y0 y1 y2 y3 y4)) ∧ (∀ y0 y1 y2 y3 y4 y5 y6 y7 y8, LeO (cuvettelaw06_RankCounts.j1 k y0 y1 y2 y3 y4 y5 y6 y7 y8) (cuvettelaw06_RankCounts.j1 (k + 1) y0 y1 y2 y3 y4 y5 y6 y7 y8)) ∧ (∀ y0 y1 y2 y3 y4 y5 y6 y7 y8 y9 y10 y11, LeO (cuvettelaw06_RankCounts.l0 k y0 y1 y2 y3 y4 y5 y6 y7 y8 y9 y10 y11) (cuvettelaw06_RankCounts.l0 (k + 1) y0 y1 y2 y3 y4 y5 y6 y7 y8 y9 y10 y11))
  | 0 => ⟨fun _ _ _ _ _ r h => by simp [cuvettelaw06_RankCounts.j0] at h, fun _ _ _ _ _ _ _ _ _ r h => by simp [cuvettelaw06_RankCounts.j1] at h, fun _ _ _ _ _ _ _ _ _ _ _ _ r h => by simp [cuvettelaw06_RankCounts.l0] at h⟩
  | k + 1 => by
    obtain ⟨ih0, ih1, ih2⟩ := cuvettelaw06_RankCounts.mono_l k
    refine ⟨?_, ?_, ?_⟩
    · intro y0 y1 y2 y3 y4
      unfold cuvettelaw06_RankCounts.j0
      repeat' first
      | (with_reducible exact ih0 _ _ _ _ _)
      | (with_reducible exact ih1 _ _ _ _ _ _ _ _ _)
      | (with_reducible exact ih2 _ _ _ _ _ _ _ _ _ _ _ _)
      | (with_reducible exact rank_Count.mono _ _ _)
      | (with_reducible exact LeO.refl _)
      | (with_reducible exact LeO.none _)
      | (with_reducible refine LeO.ite ?_ ?_)
      | (with_reducible refine LeO.bind ?_ (fun _ => ?_))
      | exact ih0 _ _ _ _ _
      | exact ih1 _ _ _ _ _ _ _ _ _
      | exact ih2 _ _ _ _ _ _ _ _ _ _ _ _
      | exact rank_Count.mono _ _ _
      | exact LeO.none _
      | refine LeO.ite ?_ ?_
      | refine LeO.bind ?_ (fun _ => ?_)
    · intro y0 y1 y2 y3 y4 y5 y6 y7 y8
      unfold cuvettelaw06_RankCounts.j1
      repeat' first
      | (with_reducible exact ih0 _ _ _ _ _)
      | (with_reducible exact ih1 _ _ _ _ _ _ _ _ _)
      | (with_reducible exact ih2 _ _ _ _ _ _ _ _ _ _ _ _)
      | (with_reducible exact rank_Count.mono _ _ _)
      | (with_reducible exact LeO.refl _)
      | (with_reducible exact LeO.none _)
      | (with_reducible refine LeO.ite ?_ ?_)
      | (with_reducible refine LeO.bind ?_ (fun _ => ?_))
      | exact ih0 _ _ _ _ _
      | exact ih1 _ _ _ _ _ _ _ _ _
      | exact ih2 _ _ _ _ _ _ _ _ _ _ _ _
      | exact rank_Count.mono _ _ _
      | exact LeO.none _
      | refine LeO.ite ?_ ?_
      | refine LeO.bind ?_ (fun _ => ?_)
    · intro y0 y1 y2 y3 y4 y5 y6 y7 y8 y9 y10 y11
      unfold cuvettelaw06_RankCounts.l0
      repeat' first
      | (with_reducible exact ih0 _ _ _ _ _)
      | (with_reducible exact ih1 _ _ _ _ _ _ _ _ _)
      | (with_reducible exact ih2 _ _ _ _ _ _ _ _ _ _ _ _)
      | (with_reducible exact rank_Count.mono _ _ _)
      | (with_reducible exact LeO.refl _)
      | (with_reducible exact LeO.none _)
      | (with_reducible refine LeO.ite ?_ ?_)
      | (with_reducible refine LeO.bind ?_ (fun _ => ?_))
      | exact ih0 _ _ _ _ _
      | exact ih1 _ _ _ _ _ _ _ _ _
      | exact ih2 _ _ _ _ _ _ _ _ _ _ _ _
      | exact rank_Count.mono _ _ _
      | exact LeO.none _
      | refine LeO.ite ?_ ?_
      | refine LeO.bind ?_ (fun _ => ?_)
theorem cuvettelaw06_RankCounts.mono : ∀ a0 a1 a2 k, LeO (cuvettelaw06_RankCounts.f k a0 a1 a2) (cuvettelaw06_RankCounts.f (k + 1) a0 a1 a2) := by
  intro a0 a1 a2 k
  obtain ⟨ih0, ih1, ih2⟩ := cuvettelaw06_RankCounts.mono_l k
  unfold cuvettelaw06_RankCounts.f
  repeat' first
      | (with_reducible exact ih0 _ _ _ _ _)
      | (with_reducible exact ih1 _ _ _ _ _ _ _ _ _)
      | (with_reducible exact ih2 _ _ _ _ _ _ _ _ _ _ _ _)
      | (with_reducible exact rank_Count.mono _ _ _)
      | (with_reducible exact LeO.refl _)
      | (with_reducible exact LeO.none _)
      | (with_reducible refine LeO.ite ?_ ?_)
      | (with_reducible refine LeO.bind ?_ (fun _ => ?_))
      | exact ih0 _ _ _ _ _
      | exact ih1 _ _ _ _ _ _ _ _ _
      | exact ih2 _ _ _ _ _ _ _ _ _ _ _ _
      | exact rank_Count.mono _ _ _
      | exact LeO.none _
      | refine LeO.ite ?_ ?_
      | refine LeO.bind ?_ (fun _ => ?_)
set_option maxHeartbeats 8000000 in
set_option maxRecDepth 100000 in
theorem cuvettelaw06_RankCounts.calls (k : Nat) (A0 : Option Addr) (c0 : Nat) (l0 : List Int) (A1 : Option Addr) (c1 : Nat) (l1 : List Int) (A2 : Option Addr) (c2 : Nat) (l2 : List Int) (r : Bool) (w : World) (hr0 : Kd.C (Kd.int .i16) w A0 l0.length l0) (hc0 : l0.length ≤ c0) (hr1 : Kd.C (Kd.int .i16) w A1 l1.length l1) (hc1 : l1.length ≤ c1) (hr2 : Kd.C (Kd.int .i16) w A2 l2.length l2) (hc2 : l2.length ≤ c2) (h : cuvettelaw06_RankCounts.f k l0 l1 l2 = some r) (hT_ : r = true) :
    Calls Try.prog 13 #[.slice A0 l0.length c0, .slice A1 l1.length c1, .slice A2 l2.length c2] w fun e w' => e = .returned (.bool r) ∧ Below w.heap.size w w' := by
  have HR0 := Aside0.mk hr0
  have HC0 := Aside0.mk hc0
  clear hr0 hc0
  have HR1 := Aside0.mk hr1
  have HC1 := Aside0.mk hc1
  clear hr1 hc1
  have HR2 := Aside0.mk hr2
  have HC2 := Aside0.mk hc2
  clear hr2 hc2
  have HB := Aside0.mk (Below.refl w.heap.size w)
  have H : ((cuvettelaw06_live.f).bind fun t1032 => (if t1032 = true then (if (l0.length : Int) > 300 then (cuvettelaw06_RankCounts.j0 k l0 l1 l2 t1032 true) else (if (l1.length : Int) > 600 then (cuvettelaw06_RankCounts.j0 k l0 l1 l2 t1032 true) else (cuvettelaw06_RankCounts.j0 k l0 l1 l2 t1032 (decide ((l2.length : Int) > 600))))) else (some false))) = some r := h
  clear h
  replace H := Option.bind_eq_some_iff.mp H
  obtain ⟨t1032, A40, H⟩ := H
  replace H : (if t1032 = true then (if (l0.length : Int) > 300 then (cuvettelaw06_RankCounts.j0 k l0 l1 l2 t1032 true) else (if (l1.length : Int) > 600 then (cuvettelaw06_RankCounts.j0 k l0 l1 l2 t1032 true) else (cuvettelaw06_RankCounts.j0 k l0 l1 l2 t1032 (decide ((l2.length : Int) > 600))))) else (some false)) = some r := H
  have A4 := Aside0.mk A40
  clear A40
  by_cases c5 : t1032 = true
  · subst c5
    have H1 : (if (l0.length : Int) > 300 then (cuvettelaw06_RankCounts.j0 k l0 l1 l2 true true) else (if (l1.length : Int) > 600 then (cuvettelaw06_RankCounts.j0 k l0 l1 l2 true true) else (cuvettelaw06_RankCounts.j0 k l0 l1 l2 true (decide ((l2.length : Int) > 600))))) = some r := by first | (rw [if_pos rfl] at H; exact H) | (rw [if_pos trivial] at H; exact H)
    clear H
    have H := H1
    clear H1
    have HC6 := Aside0.mk H
    clear H
    go_enter Try.func13, Try.ntmps13
    go_upto_region 4 with (first | (go_at_call 55; (with_reducible refine (cuvettelaw06_live.calls  true _ A4.out).mono ?_); rintro e w7 ⟨rfl, hb⟩; have n0_ := Aside0.mk (below_step (by repeat (first | (with_reducible first | exact HB.out | apply below_alloc | apply pw_below_drewN | apply below_drew1) | exact HB.out)) hb); clear HB; have HB := n0_; clear n0_; (try clear hb); (try clear hb2); (try clear hk); (try clear hi)))
    repeat (go_quiet (first | (go_at_call 55; (with_reducible refine (cuvettelaw06_live.calls  true _ A4.out).mono ?_); rintro e w7 ⟨rfl, hb⟩; have n0_ := Aside0.mk (below_step (by repeat (first | (with_reducible first | exact HB.out | apply below_alloc | apply pw_below_drewN | apply below_drew1) | exact HB.out)) hb); clear HB; have HB := n0_; clear n0_; (try clear hb); (try clear hb2); (try clear hk); (try clear hi))); go_upto_region 4 with (first | (go_at_call 55; (with_reducible refine (cuvettelaw06_live.calls  true _ A4.out).mono ?_); rintro e w7 ⟨rfl, hb⟩; have n0_ := Aside0.mk (below_step (by repeat (first | (with_reducible first | exact HB.out | apply below_alloc | apply pw_below_drewN | apply below_drew1) | exact HB.out)) hb); clear HB; have HB := n0_; clear n0_; (try clear hb); (try clear hb2); (try clear hk); (try clear hi))))
    (try simp only [Act.put, List.setIfInBounds_toArray, List.set_cons_zero, List.set_cons_succ])
    go_cut [32] (fun v32 wc => ∃ (kq : Nat) (x32_5 : Bool), v32 = .bool x32_5 ∧ Aside0 (cuvettelaw06_RankCounts.j0 kq l0 l1 l2 true x32_5 = some r) ∧ Aside0 (kq ≤ k) ∧ Aside0 (Below w.heap.size w wc))
    case first =>
      have H := HC6.out
      clear HC6
      by_cases c8 : (l0.length : Int) > 300
      · rw [if_pos c8] at H
        have c8b0 : decide (300 < (l0.length : Int)) = true := decide_eq_true c8
        have c8b1 : decide (300 < l0.length) = true := decide_eq_true (by omega)
        clear c8
        (first | rw [c8b0] | (simp only [i64_w, i32_w]; rw [c8b0]) | skip)
        have H' := Aside0.mk H
        clear H
        go_wp2
        repeat (go_quiet (fail); try go_wp2)
        go_meet
        case rel => exact ⟨_, (true), (by first | rfl | (simp; done) | (simp [*]; done)), H', ⟨by first | omega | exact Nat.le_refl _⟩, ⟨by repeat (first | (with_reducible first | exact HB.out | apply below_alloc | apply pw_below_drewN | apply below_drew1) | exact HB.out)⟩⟩
      · rw [if_neg c8] at H
        have c8b0 : decide (300 < (l0.length : Int)) = false := decide_eq_false c8
        have c8b1 : decide (300 < l0.length) = false := decide_eq_false (by omega)
        clear c8
        (first | rw [c8b0] | (simp only [i64_w, i32_w]; rw [c8b0]) | skip)
        by_cases c9 : (l1.length : Int) > 600
        · rw [if_pos c9] at H
          have c9b0 : decide (600 < (l1.length : Int)) = true := decide_eq_true c9
          have c9b1 : decide (600 < l1.length) = true := decide_eq_true (by omega)
          clear c9
          have H' := Aside0.mk H
          clear H
          go_wp2
          repeat (go_quiet (fail); try go_wp2)
          go_meet
          case rel => exact ⟨_, (true), (by first | rfl | (simp; done) | (simp [*]; done)), H', ⟨by first | omega | exact Nat.le_refl _⟩, ⟨by repeat (first | (with_reducible first | exact HB.out | apply below_alloc | apply pw_below_drewN | apply below_drew1) | exact HB.out)⟩⟩
        · rw [if_neg c9] at H
          have c9b0 : decide (600 < (l1.length : Int)) = false := decide_eq_false c9
          have c9b1 : decide (600 < l1.length) = false := decide_eq_false (by omega)
          clear c9
          have H' := Aside0.mk H
          clear H
          go_wp2
          repeat (go_quiet (fail); try go_wp2)
          go_meet
          case rel => exact ⟨_, (decide ((l2.length : Int) > 600)), (by first | rfl | (simp; done) | (simp [*]; done)), H', ⟨by first | omega | exact Nat.le_refl _⟩, ⟨by repeat (first | (with_reducible first | exact HB.out | apply below_alloc | apply pw_below_drewN | apply below_drew1) | exact HB.out)⟩⟩
    case rest =>
      clear HC6
      try clear c1
      try clear c2
      try clear p2
      try clear c5
      try clear c8
      try clear c8b0
      try clear c8b1
      try clear c9
      try clear c9b0
      try clear c9b1
      obtain ⟨kq, x32_5, rfl, HA, HJ5, HB⟩ := hcut
      cases kq with
      | zero => exact absurd HA.out (by simp [cuvettelaw06_RankCounts.j0])
      | succ kj5 =>
        have H := HA.out
        clear HA
        simp only [cuvettelaw06_RankCounts.j0] at H
        by_cases c10 : x32_5 = true
        · subst c10
          have H1 : (some true) = some r := by first | (rw [if_pos rfl] at H; exact H) | (rw [if_pos trivial] at H; exact H)
          clear H
          have H := H1
          clear H1
          obtain rfl := Option.some.inj H
          go_wp2
          repeat (go_quiet (fail); try go_wp2)
          go_ret
          exact ⟨by first | rfl | (simp [errW_none, errW_some] <;> rfl) | (simp [*, errW_none, errW_some] <;> rfl), by repeat (first | (with_reducible first | exact HB.out | apply below_alloc | apply pw_below_drewN | apply below_drew1) | exact HB.out)⟩
        · replace c10 := Bool.eq_false_iff.mpr c10
          subst c10
          have H1 : ((rank_Count.f kj5 l0 l1).bind fun bt1033 => ((rank_Count.f kj5 l0 l2).bind fun bt1037 => (if ([] : List Int).length + l1.length < 70368744177664 then ((some (([] : List Int) ++ l1 : List Int)).bind fun y1041 => (if y1041.length + l2.length < 70368744177664 then ((rank_Count.f kj5 l0 (y1041 ++ l2)).bind fun bt1047 => (if bt1033.2 = 0 then (cuvettelaw06_RankCounts.j1 kj5 l0 l1 l2 true bt1033.1 bt1037.1 bt1047.1 bt1047.2 (bt1037.2 != 0)) else (cuvettelaw06_RankCounts.j1 kj5 l0 l1 l2 true bt1033.1 bt1037.1 bt1047.1 bt1047.2 true))) else (none))) else (none)))) = some r := by rw [if_neg (show ¬ (false = true) by decide)] at H; exact H
          clear H
          have H := H1
          clear H1
          replace H := Option.bind_eq_some_iff.mp H
          obtain ⟨⟨t1033, t1034⟩, A110, H⟩ := H
          replace H : ((rank_Count.f kj5 l0 l2).bind fun bt1037 => (if ([] : List Int).length + l1.length < 70368744177664 then ((some (([] : List Int) ++ l1 : List Int)).bind fun y1041 => (if y1041.length + l2.length < 70368744177664 then ((rank_Count.f kj5 l0 (y1041 ++ l2)).bind fun bt1047 => (if t1034 = 0 then (cuvettelaw06_RankCounts.j1 kj5 l0 l1 l2 true t1033 bt1037.1 bt1047.1 bt1047.2 (bt1037.2 != 0)) else (cuvettelaw06_RankCounts.j1 kj5 l0 l1 l2 true t1033 bt1037.1 bt1047.1 bt1047.2 true))) else (none))) else (none))) = some r := H
          have A11 := Aside0.mk A110
          clear A110
          replace H := Option.bind_eq_some_iff.mp H
          obtain ⟨⟨t1037, t1038⟩, A120, H⟩ := H
          replace H : (if ([] : List Int).length + l1.length < 70368744177664 then ((some (([] : List Int) ++ l1 : List Int)).bind fun y1041 => (if y1041.length + l2.length < 70368744177664 then ((rank_Count.f kj5 l0 (y1041 ++ l2)).bind fun bt1047 => (if t1034 = 0 then (cuvettelaw06_RankCounts.j1 kj5 l0 l1 l2 true t1033 t1037 bt1047.1 bt1047.2 (t1038 != 0)) else (cuvettelaw06_RankCounts.j1 kj5 l0 l1 l2 true t1033 t1037 bt1047.1 bt1047.2 true))) else (none))) else (none)) = some r := H
          have A12 := Aside0.mk A120
          clear A120
          by_cases c13 : ([] : List Int).length + l1.length < 70368744177664
          · rw [if_pos c13] at H
            have LMc13 := Aside0.mk c13
            clear c13
            obtain ⟨y1041, hy1041⟩ : ∃ y_ : List Int, y_ = (([] : List Int) ++ l1) := ⟨_, rfl⟩
            replace H : (if y1041.length + l2.length < 70368744177664 then ((rank_Count.f kj5 l0 (y1041 ++ l2)).bind fun bt1047 => (if t1034 = 0 then (cuvettelaw06_RankCounts.j1 kj5 l0 l1 l2 true t1033 t1037 bt1047.1 bt1047.2 (t1038 != 0)) else (cuvettelaw06_RankCounts.j1 kj5 l0 l1 l2 true t1033 t1037 bt1047.1 bt1047.2 true))) else (none)) = some r := by first | (rw [hy1041]; with_reducible exact H) | (have H2_ := (Option.bind_some _ _).symm.trans H; rw [hy1041]; with_reducible exact H2_) | (have H2_ := (Option.bind_some _ _).symm.trans H; with_reducible exact H2_) | with_reducible exact H | (rw [hy1041]; exact H) | exact H
            have Ny1041 := Aside0.mk hy1041
            clear hy1041
            by_cases c14 : y1041.length + l2.length < 70368744177664
            · rw [if_pos c14] at H
              have LMc14 := Aside0.mk c14
              clear c14
              obtain ⟨y1044, hy1044⟩ : ∃ y_ : List Int, y_ = (y1041 ++ l2) := ⟨_, rfl⟩
              replace H : ((rank_Count.f kj5 l0 y1044).bind fun bt1047 => (if t1034 = 0 then (cuvettelaw06_RankCounts.j1 kj5 l0 l1 l2 true t1033 t1037 bt1047.1 bt1047.2 (t1038 != 0)) else (cuvettelaw06_RankCounts.j1 kj5 l0 l1 l2 true t1033 t1037 bt1047.1 bt1047.2 true))) = some r := by first | (rw [hy1044]; with_reducible exact H) | (have H2_ := (Option.bind_some _ _).symm.trans H; rw [hy1044]; with_reducible exact H2_) | (have H2_ := (Option.bind_some _ _).symm.trans H; with_reducible exact H2_) | with_reducible exact H | (rw [hy1044]; exact H) | exact H
              have Ny1044 := Aside0.mk hy1044
              clear hy1044
              replace H := Option.bind_eq_some_iff.mp H
              obtain ⟨⟨t1047, t1048⟩, A150, H⟩ := H
              replace H : (if t1034 = 0 then (cuvettelaw06_RankCounts.j1 kj5 l0 l1 l2 true t1033 t1037 t1047 t1048 (t1038 != 0)) else (cuvettelaw06_RankCounts.j1 kj5 l0 l1 l2 true t1033 t1037 t1047 t1048 true)) = some r := H
              have A15 := Aside0.mk A150
              clear A150
              have HC16 := Aside0.mk H
              clear H
              go_upto_region 9 with (first | (go_at_call 60; (with_reducible refine (rank_Count.calls kj5 _ _ l0 _ _ l1 t1033 t1034 _ ?side1 ?side2 ?side3 ?side4 A11.out).mono ?_); (case side1 => repeat (first | exact (Kd.C_below HR0.out HB.out) | (with_reducible refine Kd.C_alloc ?_ _) | (with_reducible refine Kd.C_drewN ?_ _) | (with_reducible refine Kd.C_drew ?_))); (case side2 => exact HC0.out); (case side3 => repeat (first | exact (Kd.C_below HR1.out HB.out) | (with_reducible refine Kd.C_alloc ?_ _) | (with_reducible refine Kd.C_drewN ?_ _) | (with_reducible refine Kd.C_drew ?_))); (case side4 => exact HC1.out); rintro e w17 ⟨v1035, rfl, ho0, hb⟩; have n0_ := Aside0.mk (Kd.R_lower ho0 (below_size (by repeat (first | (with_reducible first | exact HB.out | apply below_alloc | apply pw_below_drewN | apply below_drew1) | exact HB.out)))); have n1_ := Aside0.mk (below_step (by repeat (first | (with_reducible first | exact HB.out | apply below_alloc | apply pw_below_drewN | apply below_drew1) | exact HB.out)) hb); clear HB; have HO1036 := n0_; have HB := n1_; clear n0_ n1_; (try clear hb); (try clear hb2); (try clear hk); (try clear hi); (try clear ho0)) | (go_at_call 60; (with_reducible refine (rank_Count.calls kj5 _ _ l0 _ _ l2 t1037 t1038 _ ?side1 ?side2 ?side3 ?side4 A12.out).mono ?_); (case side1 => repeat (first | exact (Kd.C_below HR0.out HB.out) | (with_reducible refine Kd.C_alloc ?_ _) | (with_reducible refine Kd.C_drewN ?_ _) | (with_reducible refine Kd.C_drew ?_))); (case side2 => exact HC0.out); (case side3 => repeat (first | exact (Kd.C_below HR2.out HB.out) | (with_reducible refine Kd.C_alloc ?_ _) | (with_reducible refine Kd.C_drewN ?_ _) | (with_reducible refine Kd.C_drew ?_))); (case side4 => exact HC2.out); rintro e w18 ⟨v1039, rfl, ho0, hb⟩; have n0_ := Aside0.mk (Kd.R_elder' (by (with_reducible repeat (first | apply Kd.R_alloc | apply Kd.R_drewN | apply Kd.R_drew)); exact HO1036.out) (Kd.R_base ho0) hb); have n1_ := Aside0.mk (Kd.R_lower (Kd.R_new' ho0 (Kd.R_lt (by (with_reducible repeat (first | apply Kd.R_alloc | apply Kd.R_drewN | apply Kd.R_drew)); exact HO1036.out))) (below_size (by repeat (first | (with_reducible first | exact HB.out | apply below_alloc | apply pw_below_drewN | apply below_drew1) | exact HB.out)))); have n2_ := Aside0.mk (below_step (by repeat (first | (with_reducible first | exact HB.out | apply below_alloc | apply pw_below_drewN | apply below_drew1) | exact HB.out)) hb); clear HO1036; clear HB; have HO1036 := n0_; have HO1040 := n1_; have HB := n2_; clear n0_ n1_ n2_; (try clear hb); (try clear hb2); (try clear hk); (try clear hi); (try clear ho0)) | ((with_reducible refine gate_builtin (b := .append) (xs := #[.const (.slice none 0 0), .tmp 48]) rfl ?_); (try (refine gate_guard (by rfl) ?_; dsimp only)); at_builtin; refine Kd.R_append_rows (Kd.int .i16) (w0 := w) w.heap.size rfl (.const (.slice none 0 0)) (.tmp 48) 26 74 (.int .i16 0) 2 rfl Try.underlying26 info74 rfl (by decide) (by omega) (.slice none 0 0) ([] : List Int) l1 _ _ _ (fun _ => True) (fun _ => False) rfl rfl ?aO ?aR (fun _ _ h => h) (fun _ h => h.elim) ?aF ?aB ?aS ?aL ?_; (case aR => repeat (first | exact (Kd.C_below HR1.out HB.out) | (with_reducible refine Kd.C_alloc ?_ _) | (with_reducible refine Kd.C_drewN ?_ _) | (with_reducible refine Kd.C_drew ?_))); (case aB => exact (by repeat (first | (with_reducible first | exact HB.out | apply below_alloc | apply pw_below_drewN | apply below_drew1) | exact HB.out))); (case aF => exact (fun _ _ => trivial)); (case aO => exact ((Kd.R_nil _ _ _ _ (fun _ => True)))); (case aS => exact (below_size (by repeat (first | (with_reducible first | exact HB.out | apply below_alloc | apply pw_below_drewN | apply below_drew1) | exact HB.out)))); (case aL => have := LMc13.out; omega); intro v1042 w19 ho hb hg hat; rw [← Ny1041.out] at ho; have n0_ := Aside0.mk (Kd.R_grown (by (with_reducible repeat (first | apply Kd.R_alloc | apply Kd.R_drewN | apply Kd.R_drew)); exact HO1036.out) hg (fun _ _ => by simp [Value.ownBlock])); have n1_ := Aside0.mk (Kd.R_grown (by (with_reducible repeat (first | apply Kd.R_alloc | apply Kd.R_drewN | apply Kd.R_drew)); exact HO1040.out) hg (fun _ _ => by simp [Value.ownBlock])); have n2_ := Aside0.mk (hb); have n3_ := Aside0.mk (ho); clear HO1036; clear HO1040; clear HB; have HO1036 := n0_; have HO1040 := n1_; have HB := n2_; have HO1043 := n3_; clear n0_ n1_ n2_ n3_; clear ho hb hg hat) | ((with_reducible refine gate_builtin (b := .append) (xs := #[.tmp 49, .tmp 50]) rfl ?_); (try (refine gate_guard (by rfl) ?_; dsimp only)); at_builtin; refine Kd.R_append_rows (Kd.int .i16) (w0 := w) w.heap.size rfl (.tmp 49) (.tmp 50) 26 74 (.int .i16 0) 2 rfl Try.underlying26 info74 rfl (by decide) (by omega) v1042 y1041 l2 _ _ _ (fun _ => True) (fun _ => False) rfl rfl ?aO ?aR (fun _ _ h => h) (fun _ h => h.elim) ?aF ?aB ?aS ?aL ?_; (case aR => repeat (first | exact (Kd.C_below HR2.out HB.out) | (with_reducible refine Kd.C_alloc ?_ _) | (with_reducible refine Kd.C_drewN ?_ _) | (with_reducible refine Kd.C_drew ?_))); (case aB => exact (by repeat (first | (with_reducible first | exact HB.out | apply below_alloc | apply pw_below_drewN | apply below_drew1) | exact HB.out))); (case aF => exact (fun _ _ => trivial)); (case aO => exact (by (with_reducible repeat (first | apply Kd.R_alloc | apply Kd.R_drewN | apply Kd.R_drew)); exact HO1043.out)); (case aS => exact (below_size (by repeat (first | (with_reducible first | exact HB.out | apply below_alloc | apply pw_below_drewN | apply below_drew1) | exact HB.out)))); (case aL => have := LMc14.out; omega); intro v1045 w20 ho hb hg hat; rw [← Ny1044.out] at ho; have n0_ := Aside0.mk (Kd.R_over' (by (with_reducible repeat (first | apply Kd.R_alloc | apply Kd.R_drewN | apply Kd.R_drew)); exact HO1036.out) (Kd.R_typed (by (with_reducible repeat (first | apply Kd.R_alloc | apply Kd.R_drewN | apply Kd.R_drew)); exact HO1043.out)) (by decide) hg); have n1_ := Aside0.mk (Kd.R_over' (by (with_reducible repeat (first | apply Kd.R_alloc | apply Kd.R_drewN | apply Kd.R_drew)); exact HO1040.out) (Kd.R_typed (by (with_reducible repeat (first | apply Kd.R_alloc | apply Kd.R_drewN | apply Kd.R_drew)); exact HO1043.out)) (by decide) hg); have n2_ := Aside0.mk (hb); have n3_ := Aside0.mk (ho); clear HO1036; clear HO1040; clear HB; clear HO1043; have HO1036 := n0_; have HO1040 := n1_; have HB := n2_; have HO1046 := n3_; clear n0_ n1_ n2_ n3_; clear ho hb hg hat; obtain ⟨Ao21, co21, eo21⟩ := Kd.R_slice HO1046.out; subst eo21) | (go_at_call 60; (with_reducible refine (rank_Count.calls kj5 _ _ l0 _ _ y1044 t1047 t1048 _ ?side1 ?side2 ?side3 ?side4 A15.out).mono ?_); (case side1 => repeat (first | exact (Kd.C_below HR0.out HB.out) | (with_reducible refine Kd.C_alloc ?_ _) | (with_reducible refine Kd.C_drewN ?_ _) | (with_reducible refine Kd.C_drew ?_))); (case side2 => exact HC0.out); (case side3 => repeat (first | exact (Kd.R_reads' HO1046.out).2.2 | (with_reducible refine Kd.C_alloc ?_ _) | (with_reducible refine Kd.C_drewN ?_ _) | (with_reducible refine Kd.C_drew ?_))); (case side4 => exact (Kd.R_reads' HO1046.out).2.1); rintro e w22 ⟨v1049, rfl, ho0, hb⟩; have n0_ := Aside0.mk (Kd.R_elder' (by (with_reducible repeat (first | apply Kd.R_alloc | apply Kd.R_drewN | apply Kd.R_drew)); exact HO1036.out) (Kd.R_base ho0) hb); have n1_ := Aside0.mk (Kd.R_elder' (by (with_reducible repeat (first | apply Kd.R_alloc | apply Kd.R_drewN | apply Kd.R_drew)); exact HO1040.out) (Kd.R_base ho0) hb); have n2_ := Aside0.mk (Kd.R_below (by (with_reducible repeat (first | apply Kd.R_alloc | apply Kd.R_drewN | apply Kd.R_drew)); exact HO1046.out) hb); have n3_ := Aside0.mk (Kd.R_lower (Kd.R_new' (Kd.R_new' ho0 (Kd.R_lt (by (with_reducible repeat (first | apply Kd.R_alloc | apply Kd.R_drewN | apply Kd.R_drew)); exact HO1036.out))) (Kd.R_lt (by (with_reducible repeat (first | apply Kd.R_alloc | apply Kd.R_drewN | apply Kd.R_drew)); exact HO1040.out))) (below_size (by repeat (first | (with_reducible first | exact HB.out | apply below_alloc | apply pw_below_drewN | apply below_drew1) | exact HB.out)))); have n4_ := Aside0.mk (below_step (by repeat (first | (with_reducible first | exact HB.out | apply below_alloc | apply pw_below_drewN | apply below_drew1) | exact HB.out)) hb); clear HO1036; clear HO1040; clear HO1046; clear HB; have HO1036 := n0_; have HO1040 := n1_; have HO1046 := n2_; have HO1050 := n3_; have HB := n4_; clear n0_ n1_ n2_ n3_ n4_; (try clear hb); (try clear hb2); (try clear hk); (try clear hi); (try clear ho0)))
              repeat (go_quiet (first | (go_at_call 60; (with_reducible refine (rank_Count.calls kj5 _ _ l0 _ _ l1 t1033 t1034 _ ?side1 ?side2 ?side3 ?side4 A11.out).mono ?_); (case side1 => repeat (first | exact (Kd.C_below HR0.out HB.out) | (with_reducible refine Kd.C_alloc ?_ _) | (with_reducible refine Kd.C_drewN ?_ _) | (with_reducible refine Kd.C_drew ?_))); (case side2 => exact HC0.out); (case side3 => repeat (first | exact (Kd.C_below HR1.out HB.out) | (with_reducible refine Kd.C_alloc ?_ _) | (with_reducible refine Kd.C_drewN ?_ _) | (with_reducible refine Kd.C_drew ?_))); (case side4 => exact HC1.out); rintro e w17 ⟨v1035, rfl, ho0, hb⟩; have n0_ := Aside0.mk (Kd.R_lower ho0 (below_size (by repeat (first | (with_reducible first | exact HB.out | apply below_alloc | apply pw_below_drewN | apply below_drew1) | exact HB.out)))); have n1_ := Aside0.mk (below_step (by repeat (first | (with_reducible first | exact HB.out | apply below_alloc | apply pw_below_drewN | apply below_drew1) | exact HB.out)) hb); clear HB; have HO1036 := n0_; have HB := n1_; clear n0_ n1_; (try clear hb); (try clear hb2); (try clear hk); (try clear hi); (try clear ho0)) | (go_at_call 60; (with_reducible refine (rank_Count.calls kj5 _ _ l0 _ _ l2 t1037 t1038 _ ?side1 ?side2 ?side3 ?side4 A12.out).mono ?_); (case side1 => repeat (first | exact (Kd.C_below HR0.out HB.out) | (with_reducible refine Kd.C_alloc ?_ _) | (with_reducible refine Kd.C_drewN ?_ _) | (with_reducible refine Kd.C_drew ?_))); (case side2 => exact HC0.out); (case side3 => repeat (first | exact (Kd.C_below HR2.out HB.out) | (with_reducible refine Kd.C_alloc ?_ _) | (with_reducible refine Kd.C_drewN ?_ _) | (with_reducible refine Kd.C_drew ?_))); (case side4 => exact HC2.out); rintro e w18 ⟨v1039, rfl, ho0, hb⟩; have n0_ := Aside0.mk (Kd.R_elder' (by (with_reducible repeat (first | apply Kd.R_alloc | apply Kd.R_drewN | apply Kd.R_drew)); exact HO1036.out) (Kd.R_base ho0) hb); have n1_ := Aside0.mk (Kd.R_lower (Kd.R_new' ho0 (Kd.R_lt (by (with_reducible repeat (first | apply Kd.R_alloc | apply Kd.R_drewN | apply Kd.R_drew)); exact HO1036.out))) (below_size (by repeat (first | (with_reducible first | exact HB.out | apply below_alloc | apply pw_below_drewN | apply below_drew1) | exact HB.out)))); have n2_ := Aside0.mk (below_step (by repeat (first | (with_reducible first | exact HB.out | apply below_alloc | apply pw_below_drewN | apply below_drew1) | exact HB.out)) hb); clear HO1036; clear HB; have HO1036 := n0_; have HO1040 := n1_; have HB := n2_; clear n0_ n1_ n2_; (try clear hb); (try clear hb2); (try clear hk); (try clear hi); (try clear ho0)) | ((with_reducible refine gate_builtin (b := .append) (xs := #[.const (.slice none 0 0), .tmp 48]) rfl ?_); (try (refine gate_guard (by rfl) ?_; dsimp only)); at_builtin; refine Kd.R_append_rows (Kd.int .i16) (w0 := w) w.heap.size rfl (.const (.slice none 0 0)) (.tmp 48) 26 74 (.int .i16 0) 2 rfl Try.underlying26 info74 rfl (by decide) (by omega) (.slice none 0 0) ([] : List Int) l1 _ _ _ (fun _ => True) (fun _ => False) rfl rfl ?aO ?aR (fun _ _ h => h) (fun _ h => h.elim) ?aF ?aB ?aS ?aL ?_; (case aR => repeat (first | exact (Kd.C_below HR1.out HB.out) | (with_reducible refine Kd.C_alloc ?_ _) | (with_reducible refine Kd.C_drewN ?_ _) | (with_reducible refine Kd.C_drew ?_))); (case aB => exact (by repeat (first | (with_reducible first | exact HB.out | apply below_alloc | apply pw_below_drewN | apply below_drew1) | exact HB.out))); (case aF => exact (fun _ _ => trivial)); (case aO => exact ((Kd.R_nil _ _ _ _ (fun _ => True)))); (case aS => exact (below_size (by repeat (first | (with_reducible first | exact HB.out | apply below_alloc | apply pw_below_drewN | apply below_drew1) | exact HB.out)))); (case aL => have := LMc13.out; omega); intro v1042 w19 ho hb hg hat; rw [← Ny1041.out] at ho; have n0_ := Aside0.mk (Kd.R_grown (by (with_reducible repeat (first | apply Kd.R_alloc | apply Kd.R_drewN | apply Kd.R_drew)); exact HO1036.out) hg (fun _ _ => by simp [Value.ownBlock])); have n1_ := Aside0.mk (Kd.R_grown (by (with_reducible repeat (first | apply Kd.R_alloc | apply Kd.R_drewN | apply Kd.R_drew)); exact HO1040.out) hg (fun _ _ => by simp [Value.ownBlock])); have n2_ := Aside0.mk (hb); have n3_ := Aside0.mk (ho); clear HO1036; clear HO1040; clear HB; have HO1036 := n0_; have HO1040 := n1_; have HB := n2_; have HO1043 := n3_; clear n0_ n1_ n2_ n3_; clear ho hb hg hat) | ((with_reducible refine gate_builtin (b := .append) (xs := #[.tmp 49, .tmp 50]) rfl ?_); (try (refine gate_guard (by rfl) ?_; dsimp only)); at_builtin; refine Kd.R_append_rows (Kd.int .i16) (w0 := w) w.heap.size rfl (.tmp 49) (.tmp 50) 26 74 (.int .i16 0) 2 rfl Try.underlying26 info74 rfl (by decide) (by omega) v1042 y1041 l2 _ _ _ (fun _ => True) (fun _ => False) rfl rfl ?aO ?aR (fun _ _ h => h) (fun _ h => h.elim) ?aF ?aB ?aS ?aL ?_; (case aR => repeat (first | exact (Kd.C_below HR2.out HB.out) | (with_reducible refine Kd.C_alloc ?_ _) | (with_reducible refine Kd.C_drewN ?_ _) | (with_reducible refine Kd.C_drew ?_))); (case aB => exact (by repeat (first | (with_reducible first | exact HB.out | apply below_alloc | apply pw_below_drewN | apply below_drew1) | exact HB.out))); (case aF => exact (fun _ _ => trivial)); (case aO => exact (by (with_reducible repeat (first | apply Kd.R_alloc | apply Kd.R_drewN | apply Kd.R_drew)); exact HO1043.out)); (case aS => exact (below_size (by repeat (first | (with_reducible first | exact HB.out | apply below_alloc | apply pw_below_drewN | apply below_drew1) | exact HB.out)))); (case aL => have := LMc14.out; omega); intro v1045 w20 ho hb hg hat; rw [← Ny1044.out] at ho; have n0_ := Aside0.mk (Kd.R_over' (by (with_reducible repeat (first | apply Kd.R_alloc | apply Kd.R_drewN | apply Kd.R_drew)); exact HO1036.out) (Kd.R_typed (by (with_reducible repeat (first | apply Kd.R_alloc | apply Kd.R_drewN | apply Kd.R_drew)); exact HO1043.out)) (by decide) hg); have n1_ := Aside0.mk (Kd.R_over' (by (with_reducible repeat (first | apply Kd.R_alloc | apply Kd.R_drewN | apply Kd.R_drew)); exact HO1040.out) (Kd.R_typed (by (with_reducible repeat (first | apply Kd.R_alloc | apply Kd.R_drewN | apply Kd.R_drew)); exact HO1043.out)) (by decide) hg); have n2_ := Aside0.mk (hb); have n3_ := Aside0.mk (ho); clear HO1036; clear HO1040; clear HB; clear HO1043; have HO1036 := n0_; have HO1040 := n1_; have HB := n2_; have HO1046 := n3_; clear n0_ n1_ n2_ n3_; clear ho hb hg hat; obtain ⟨Ao21, co21, eo21⟩ := Kd.R_slice HO1046.out; subst eo21) | (go_at_call 60; (with_reducible refine (rank_Count.calls kj5 _ _ l0 _ _ y1044 t1047 t1048 _ ?side1 ?side2 ?side3 ?side4 A15.out).mono ?_); (case side1 => repeat (first | exact (Kd.C_below HR0.out HB.out) | (with_reducible refine Kd.C_alloc ?_ _) | (with_reducible refine Kd.C_drewN ?_ _) | (with_reducible refine Kd.C_drew ?_))); (case side2 => exact HC0.out); (case side3 => repeat (first | exact (Kd.R_reads' HO1046.out).2.2 | (with_reducible refine Kd.C_alloc ?_ _) | (with_reducible refine Kd.C_drewN ?_ _) | (with_reducible refine Kd.C_drew ?_))); (case side4 => exact (Kd.R_reads' HO1046.out).2.1); rintro e w22 ⟨v1049, rfl, ho0, hb⟩; have n0_ := Aside0.mk (Kd.R_elder' (by (with_reducible repeat (first | apply Kd.R_alloc | apply Kd.R_drewN | apply Kd.R_drew)); exact HO1036.out) (Kd.R_base ho0) hb); have n1_ := Aside0.mk (Kd.R_elder' (by (with_reducible repeat (first | apply Kd.R_alloc | apply Kd.R_drewN | apply Kd.R_drew)); exact HO1040.out) (Kd.R_base ho0) hb); have n2_ := Aside0.mk (Kd.R_below (by (with_reducible repeat (first | apply Kd.R_alloc | apply Kd.R_drewN | apply Kd.R_drew)); exact HO1046.out) hb); have n3_ := Aside0.mk (Kd.R_lower (Kd.R_new' (Kd.R_new' ho0 (Kd.R_lt (by (with_reducible repeat (first | apply Kd.R_alloc | apply Kd.R_drewN | apply Kd.R_drew)); exact HO1036.out))) (Kd.R_lt (by (with_reducible repeat (first | apply Kd.R_alloc | apply Kd.R_drewN | apply Kd.R_drew)); exact HO1040.out))) (below_size (by repeat (first | (with_reducible first | exact HB.out | apply below_alloc | apply pw_below_drewN | apply below_drew1) | exact HB.out)))); have n4_ := Aside0.mk (below_step (by repeat (first | (with_reducible first | exact HB.out | apply below_alloc | apply pw_below_drewN | apply below_drew1) | exact HB.out)) hb); clear HO1036; clear HO1040; clear HO1046; clear HB; have HO1036 := n0_; have HO1040 := n1_; have HO1046 := n2_; have HO1050 := n3_; have HB := n4_; clear n0_ n1_ n2_ n3_ n4_; (try clear hb); (try clear hb2); (try clear hk); (try clear hi); (try clear ho0))); go_upto_region 9 with (first | (go_at_call 60; (with_reducible refine (rank_Count.calls kj5 _ _ l0 _ _ l1 t1033 t1034 _ ?side1 ?side2 ?side3 ?side4 A11.out).mono ?_); (case side1 => repeat (first | exact (Kd.C_below HR0.out HB.out) | (with_reducible refine Kd.C_alloc ?_ _) | (with_reducible refine Kd.C_drewN ?_ _) | (with_reducible refine Kd.C_drew ?_))); (case side2 => exact HC0.out); (case side3 => repeat (first | exact (Kd.C_below HR1.out HB.out) | (with_reducible refine Kd.C_alloc ?_ _) | (with_reducible refine Kd.C_drewN ?_ _) | (with_reducible refine Kd.C_drew ?_))); (case side4 => exact HC1.out); rintro e w17 ⟨v1035, rfl, ho0, hb⟩; have n0_ := Aside0.mk (Kd.R_lower ho0 (below_size (by repeat (first | (with_reducible first | exact HB.out | apply below_alloc | apply pw_below_drewN | apply below_drew1) | exact HB.out)))); have n1_ := Aside0.mk (below_step (by repeat (first | (with_reducible first | exact HB.out | apply below_alloc | apply pw_below_drewN | apply below_drew1) | exact HB.out)) hb); clear HB; have HO1036 := n0_; have HB := n1_; clear n0_ n1_; (try clear hb); (try clear hb2); (try clear hk); (try clear hi); (try clear ho0)) | (go_at_call 60; (with_reducible refine (rank_Count.calls kj5 _ _ l0 _ _ l2 t1037 t1038 _ ?side1 ?side2 ?side3 ?side4 A12.out).mono ?_); (case side1 => repeat (first | exact (Kd.C_below HR0.out HB.out) | (with_reducible refine Kd.C_alloc ?_ _) | (with_reducible refine Kd.C_drewN ?_ _) | (with_reducible refine Kd.C_drew ?_))); (case side2 => exact HC0.out); (case side3 => repeat (first | exact (Kd.C_below HR2.out HB.out) | (with_reducible refine Kd.C_alloc ?_ _) | (with_reducible refine Kd.C_drewN ?_ _) | (with_reducible refine Kd.C_drew ?_))); (case side4 => exact HC2.out); rintro e w18 ⟨v1039, rfl, ho0, hb⟩; have n0_ := Aside0.mk (Kd.R_elder' (by (with_reducible repeat (first | apply Kd.R_alloc | apply Kd.R_drewN | apply Kd.R_drew)); exact HO1036.out) (Kd.R_base ho0) hb); have n1_ := Aside0.mk (Kd.R_lower (Kd.R_new' ho0 (Kd.R_lt (by (with_reducible repeat (first | apply Kd.R_alloc | apply Kd.R_drewN | apply Kd.R_drew)); exact HO1036.out))) (below_size (by repeat (first | (with_reducible first | exact HB.out | apply below_alloc | apply pw_below_drewN | apply below_drew1) | exact HB.out)))); have n2_ := Aside0.mk (below_step (by repeat (first | (with_reducible first | exact HB.out | apply below_alloc | apply pw_below_drewN | apply below_drew1) | exact HB.out)) hb); clear HO1036; clear HB; have HO1036 := n0_; have HO1040 := n1_; have HB := n2_; clear n0_ n1_ n2_; (try clear hb); (try clear hb2); (try clear hk); (try clear hi); (try clear ho0)) | ((with_reducible refine gate_builtin (b := .append) (xs := #[.const (.slice none 0 0), .tmp 48]) rfl ?_); (try (refine gate_guard (by rfl) ?_; dsimp only)); at_builtin; refine Kd.R_append_rows (Kd.int .i16) (w0 := w) w.heap.size rfl (.const (.slice none 0 0)) (.tmp 48) 26 74 (.int .i16 0) 2 rfl Try.underlying26 info74 rfl (by decide) (by omega) (.slice none 0 0) ([] : List Int) l1 _ _ _ (fun _ => True) (fun _ => False) rfl rfl ?aO ?aR (fun _ _ h => h) (fun _ h => h.elim) ?aF ?aB ?aS ?aL ?_; (case aR => repeat (first | exact (Kd.C_below HR1.out HB.out) | (with_reducible refine Kd.C_alloc ?_ _) | (with_reducible refine Kd.C_drewN ?_ _) | (with_reducible refine Kd.C_drew ?_))); (case aB => exact (by repeat (first | (with_reducible first | exact HB.out | apply below_alloc | apply pw_below_drewN | apply below_drew1) | exact HB.out))); (case aF => exact (fun _ _ => trivial)); (case aO => exact ((Kd.R_nil _ _ _ _ (fun _ => True)))); (case aS => exact (below_size (by repeat (first | (with_reducible first | exact HB.out | apply below_alloc | apply pw_below_drewN | apply below_drew1) | exact HB.out)))); (case aL => have := LMc13.out; omega); intro v1042 w19 ho hb hg hat; rw [← Ny1041.out] at ho; have n0_ := Aside0.mk (Kd.R_grown (by (with_reducible repeat (first | apply Kd.R_alloc | apply Kd.R_drewN | apply Kd.R_drew)); exact HO1036.out) hg (fun _ _ => by simp [Value.ownBlock])); have n1_ := Aside0.mk (Kd.R_grown (by (with_reducible repeat (first | apply Kd.R_alloc | apply Kd.R_drewN | apply Kd.R_drew)); exact HO1040.out) hg (fun _ _ => by simp [Value.ownBlock])); have n2_ := Aside0.mk (hb); have n3_ := Aside0.mk (ho); clear HO1036; clear HO1040; clear HB; have HO1036 := n0_; have HO1040 := n1_; have HB := n2_; have HO1043 := n3_; clear n0_ n1_ n2_ n3_; clear ho hb hg hat) | ((with_reducible refine gate_builtin (b := .append) (xs := #[.tmp 49, .tmp 50]) rfl ?_); (try (refine gate_guard (by rfl) ?_; dsimp only)); at_builtin; refine Kd.R_append_rows (Kd.int .i16) (w0 := w) w.heap.size rfl (.tmp 49) (.tmp 50) 26 74 (.int .i16 0) 2 rfl Try.underlying26 info74 rfl (by decide) (by omega) v1042 y1041 l2 _ _ _ (fun _ => True) (fun _ => False) rfl rfl ?aO ?aR (fun _ _ h => h) (fun _ h => h.elim) ?aF ?aB ?aS ?aL ?_; (case aR => repeat (first | exact (Kd.C_below HR2.out HB.out) | (with_reducible refine Kd.C_alloc ?_ _) | (with_reducible refine Kd.C_drewN ?_ _) | (with_reducible refine Kd.C_drew ?_))); (case aB => exact (by repeat (first | (with_reducible first | exact HB.out | apply below_alloc | apply pw_below_drewN | apply below_drew1) | exact HB.out))); (case aF => exact (fun _ _ => trivial)); (case aO => exact (by (with_reducible repeat (first | apply Kd.R_alloc | apply Kd.R_drewN | apply Kd.R_drew)); exact HO1043.out)); (case aS => exact (below_size (by repeat (first | (with_reducible first | exact HB.out | apply below_alloc | apply pw_below_drewN | apply below_drew1) | exact HB.out)))); (case aL => have := LMc14.out; omega); intro v1045 w20 ho hb hg hat; rw [← Ny1044.out] at ho; have n0_ := Aside0.mk (Kd.R_over' (by (with_reducible repeat (first | apply Kd.R_alloc | apply Kd.R_drewN | apply Kd.R_drew)); exact HO1036.out) (Kd.R_typed (by (with_reducible repeat (first | apply Kd.R_alloc | apply Kd.R_drewN | apply Kd.R_drew)); exact HO1043.out)) (by decide) hg); have n1_ := Aside0.mk (Kd.R_over' (by (with_reducible repeat (first | apply Kd.R_alloc | apply Kd.R_drewN | apply Kd.R_drew)); exact HO1040.out) (Kd.R_typed (by (with_reducible repeat (first | apply Kd.R_alloc | apply Kd.R_drewN | apply Kd.R_drew)); exact HO1043.out)) (by decide) hg); have n2_ := Aside0.mk (hb); have n3_ := Aside0.mk (ho); clear HO1036; clear HO1040; clear HB; clear HO1043; have HO1036 := n0_; have HO1040 := n1_; have HB := n2_; have HO1046 := n3_; clear n0_ n1_ n2_ n3_; clear ho hb hg hat; obtain ⟨Ao21, co21, eo21⟩ := Kd.R_slice HO1046.out; subst eo21) | (go_at_call 60; (with_reducible refine (rank_Count.calls kj5 _ _ l0 _ _ y1044 t1047 t1048 _ ?side1 ?side2 ?side3 ?side4 A15.out).mono ?_); (case side1 => repeat (first | exact (Kd.C_below HR0.out HB.out) | (with_reducible refine Kd.C_alloc ?_ _) | (with_reducible refine Kd.C_drewN ?_ _) | (with_reducible refine Kd.C_drew ?_))); (case side2 => exact HC0.out); (case side3 => repeat (first | exact (Kd.R_reads' HO1046.out).2.2 | (with_reducible refine Kd.C_alloc ?_ _) | (with_reducible refine Kd.C_drewN ?_ _) | (with_reducible refine Kd.C_drew ?_))); (case side4 => exact (Kd.R_reads' HO1046.out).2.1); rintro e w22 ⟨v1049, rfl, ho0, hb⟩; have n0_ := Aside0.mk (Kd.R_elder' (by (with_reducible repeat (first | apply Kd.R_alloc | apply Kd.R_drewN | apply Kd.R_drew)); exact HO1036.out) (Kd.R_base ho0) hb); have n1_ := Aside0.mk (Kd.R_elder' (by (with_reducible repeat (first | apply Kd.R_alloc | apply Kd.R_drewN | apply Kd.R_drew)); exact HO1040.out) (Kd.R_base ho0) hb); have n2_ := Aside0.mk (Kd.R_below (by (with_reducible repeat (first | apply Kd.R_alloc | apply Kd.R_drewN | apply Kd.R_drew)); exact HO1046.out) hb); have n3_ := Aside0.mk (Kd.R_lower (Kd.R_new' (Kd.R_new' ho0 (Kd.R_lt (by (with_reducible repeat (first | apply Kd.R_alloc | apply Kd.R_drewN | apply Kd.R_drew)); exact HO1036.out))) (Kd.R_lt (by (with_reducible repeat (first | apply Kd.R_alloc | apply Kd.R_drewN | apply Kd.R_drew)); exact HO1040.out))) (below_size (by repeat (first | (with_reducible first | exact HB.out | apply below_alloc | apply pw_below_drewN | apply below_drew1) | exact HB.out)))); have n4_ := Aside0.mk (below_step (by repeat (first | (with_reducible first | exact HB.out | apply below_alloc | apply pw_below_drewN | apply below_drew1) | exact HB.out)) hb); clear HO1036; clear HO1040; clear HO1046; clear HB; have HO1036 := n0_; have HO1040 := n1_; have HO1046 := n2_; have HO1050 := n3_; have HB := n4_; clear n0_ n1_ n2_ n3_ n4_; (try clear hb); (try clear hb2); (try clear hk); (try clear hi); (try clear ho0))))
              (try simp only [Act.put, List.setIfInBounds_toArray, List.set_cons_zero, List.set_cons_succ])
              go_cut [60] (fun v60 wc => ∃ (kq : Nat) (x60_15 : Bool), v60 = .bool x60_15 ∧ Aside0 (cuvettelaw06_RankCounts.j1 kq l0 l1 l2 true t1033 t1037 t1047 t1048 x60_15 = some r) ∧ Aside0 (kq ≤ kj5) ∧ Aside0 (Kd.R (Kd.int .i64) 3 wc w.heap.size (fun k_ => some k_ ≠ (v1039 : Value).ownBlock ∧ some k_ ≠ (v1049 : Value).ownBlock) v1035 t1033) ∧ Aside0 (Kd.R (Kd.int .i64) 3 wc w.heap.size (fun k_ => some k_ ≠ (v1035 : Value).ownBlock ∧ some k_ ≠ (v1049 : Value).ownBlock) v1039 t1037) ∧ Aside0 (Kd.R (Kd.int .i64) 3 wc w.heap.size (fun k_ => some k_ ≠ (v1035 : Value).ownBlock ∧ some k_ ≠ (v1039 : Value).ownBlock) v1049 t1047) ∧ Aside0 (Below w.heap.size w wc))
              case first =>
                have H := HC16.out
                clear HC16
                by_cases c23 : t1034 = 0
                · rw [if_pos c23] at H
                  have c23b0 : (t1034 == 0) = true := beq_iff_eq.mpr c23
                  have c23b1 : (t1034 != 0) = false := bne_eq_false_iff_eq.mpr c23
                  clear c23
                  (first | rw [c23b0] | (simp only [i64_w, i32_w]; rw [c23b0]) | skip)
                  have H' := Aside0.mk H
                  clear H
                  go_wp2
                  repeat (go_quiet (fail); try go_wp2)
                  go_meet
                  case rel => exact ⟨_, ((t1038 != 0)), (by first | rfl | (simp; done) | (simp [*]; done)), H', ⟨by have := HJ5.out; first | omega | exact Nat.le_refl _⟩, ⟨by (with_reducible repeat (first | apply Kd.R_alloc | apply Kd.R_drewN | apply Kd.R_drew)); exact Kd.R_mono HO1036.out (fun _ hk => ⟨hk.1.2, hk.2⟩)⟩, ⟨by (with_reducible repeat (first | apply Kd.R_alloc | apply Kd.R_drewN | apply Kd.R_drew)); exact Kd.R_mono HO1040.out (fun _ hk => ⟨hk.1.2, hk.2⟩)⟩, ⟨by (with_reducible repeat (first | apply Kd.R_alloc | apply Kd.R_drewN | apply Kd.R_drew)); exact Kd.R_mono HO1050.out (fun _ hk => ⟨hk.1.2, hk.2⟩)⟩, ⟨by repeat (first | (with_reducible first | exact HB.out | apply below_alloc | apply pw_below_drewN | apply below_drew1) | exact HB.out)⟩⟩
                · rw [if_neg c23] at H
                  have c23b0 : (t1034 == 0) = false := beq_eq_false_iff_ne.mpr c23
                  have c23b1 : (t1034 != 0) = true := bne_iff_ne.mpr c23
                  (first | rw [c23b0] | (simp only [i64_w, i32_w]; rw [c23b0]) | skip)
                  have H' := Aside0.mk H
                  clear H
                  go_wp2
                  repeat (go_quiet (fail); try go_wp2)
                  go_meet
                  case rel => exact ⟨_, (true), (by first | rfl | (simp; done) | (simp [*]; done)), H', ⟨by have := HJ5.out; first | omega | exact Nat.le_refl _⟩, ⟨by (with_reducible repeat (first | apply Kd.R_alloc | apply Kd.R_drewN | apply Kd.R_drew)); exact Kd.R_mono HO1036.out (fun _ hk => ⟨hk.1.2, hk.2⟩)⟩, ⟨by (with_reducible repeat (first | apply Kd.R_alloc | apply Kd.R_drewN | apply Kd.R_drew)); exact Kd.R_mono HO1040.out (fun _ hk => ⟨hk.1.2, hk.2⟩)⟩, ⟨by (with_reducible repeat (first | apply Kd.R_alloc | apply Kd.R_drewN | apply Kd.R_drew)); exact Kd.R_mono HO1050.out (fun _ hk => ⟨hk.1.2, hk.2⟩)⟩, ⟨by repeat (first | (with_reducible first | exact HB.out | apply below_alloc | apply pw_below_drewN | apply below_drew1) | exact HB.out)⟩⟩
              case rest =>
                clear HC16
                try clear c1
                try clear c2
                try clear p2
                try clear c5
                try clear c8
                try clear c8b0
                try clear c8b1
                try clear c9
                try clear c9b0
                try clear c9b1
                try clear c10
                try clear c13
                try clear c14
                try clear c23
                try clear c23b0
                try clear c23b1
                try clear p2
                obtain ⟨kq, x60_15, rfl, HA, HJ15, HO_8, HO_10, HO_12, HB⟩ := hcut
                cases kq with
                | zero => exact absurd HA.out (by simp [cuvettelaw06_RankCounts.j1])
                | succ kj15 =>
                  have H := HA.out
                  clear HA
                  simp only [cuvettelaw06_RankCounts.j1] at H
                  by_cases c24 : x60_15 = true
                  · subst c24
                    have H1 : (if true = true then (some (t1048 != 0)) else (some false)) = some r := by first | (rw [if_pos rfl] at H; exact H) | (rw [if_pos trivial] at H; exact H)
                    clear H
                    have H := H1
                    clear H1
                    by_cases c25 : true = true
                    · clear c25
                      have H1 : (some (t1048 != 0)) = some r := by first | (rw [if_pos rfl] at H; exact H) | (rw [if_pos trivial] at H; exact H)
                      clear H
                      have H := H1
                      clear H1
                      obtain rfl := Option.some.inj H
                      go_wp2
                      repeat (go_quiet (fail); try go_wp2)
                      go_ret
                      exact ⟨by first | rfl | (simp [errW_none, errW_some] <;> rfl) | (simp [*, errW_none, errW_some] <;> rfl), by repeat (first | (with_reducible first | exact HB.out | apply below_alloc | apply pw_below_drewN | apply below_drew1) | exact HB.out)⟩
                    · exact absurd rfl c25
                  · replace c24 := Bool.eq_false_iff.mpr c24
                    subst c24
                    have H1 : (cuvettelaw06_RankCounts.l0 kj15 l0 l1 l2 true t1033 t1037 t1047 t1048 0 t1047 (t1047.length : Int) 0) = some r := by rw [if_neg (show ¬ (false = true) by decide)] at H; exact H
                    clear H
                    have H := H1
                    clear H1
                    have H' := Aside0.mk H
                    clear H
                    obtain ⟨Ao26, co26, eo26⟩ := Kd.R_slice HO_12.out
                    subst eo26
                    go_wp2
                    repeat (go_quiet (fail); try go_wp2)
                    go_loopg [14, 68] kj15 (fun kq v14 v68 w' => ∃ (x14_3 : Int) (x68_3 : Int), v14 = .int .i64 x14_3 ∧ v68 = .int .i64 x68_3 ∧ Aside0 (cuvettelaw06_RankCounts.l0 kq l0 l1 l2 true t1033 t1037 t1047 t1048 x14_3 t1047 (t1047.length : Int) x68_3 = some r) ∧ Aside0 (kq ≤ kj15) ∧ Aside0 (Kd.R (Kd.int .i64) 3 w' w.heap.size (fun k_ => some k_ ≠ (v1039 : Value).ownBlock ∧ some k_ ≠ ((.slice Ao26 t1047.length co26) : Value).ownBlock ∧ some k_ ≠ ((.slice Ao26 t1047.length co26) : Value).ownBlock) v1035 t1033) ∧ Aside0 (Kd.R (Kd.int .i64) 3 w' w.heap.size (fun k_ => some k_ ≠ (v1035 : Value).ownBlock ∧ some k_ ≠ ((.slice Ao26 t1047.length co26) : Value).ownBlock ∧ some k_ ≠ ((.slice Ao26 t1047.length co26) : Value).ownBlock) v1039 t1037) ∧ Aside0 (Kd.R (Kd.int .i64) 3 w' w.heap.size (fun k_ => some k_ ≠ (v1035 : Value).ownBlock ∧ some k_ ≠ (v1039 : Value).ownBlock) (.slice Ao26 t1047.length co26) t1047) ∧ Aside0 (Kd.R (Kd.int .i64) 3 w' w.heap.size (fun k_ => some k_ ≠ (v1035 : Value).ownBlock ∧ some k_ ≠ (v1039 : Value).ownBlock) (.slice Ao26 t1047.length co26) t1047) ∧ Aside0 (Below w.heap.size w w'))
                    case atStart => exact ⟨(0), (0), (by first | rfl | (simp; done) | (simp [*]; done)), (by first | rfl | (simp; done) | (simp [*]; done)), H', ⟨Nat.le_refl _⟩, ⟨by (with_reducible repeat (first | apply Kd.R_alloc | apply Kd.R_drewN | apply Kd.R_drew)); exact Kd.R_mono HO_8.out (fun _ hk => ⟨hk.1, ⟨hk.2, hk.2⟩⟩)⟩, ⟨by (with_reducible repeat (first | apply Kd.R_alloc | apply Kd.R_drewN | apply Kd.R_drew)); exact Kd.R_mono HO_10.out (fun _ hk => ⟨hk.1, ⟨hk.2, hk.2⟩⟩)⟩, ⟨by (with_reducible repeat (first | apply Kd.R_alloc | apply Kd.R_drewN | apply Kd.R_drew)); exact HO_12.out⟩, ⟨by (with_reducible repeat (first | apply Kd.R_alloc | apply Kd.R_drewN | apply Kd.R_drew)); exact HO_12.out⟩, ⟨by repeat (first | (with_reducible first | exact HB.out | apply below_alloc | apply pw_below_drewN | apply below_drew1) | exact HB.out)⟩⟩
                    case round =>
                      clear H'
                      try clear c1
                      try clear c2
                      try clear p2
                      try clear c5
                      try clear c8
                      try clear c8b0
                      try clear c8b1
                      try clear c9
                      try clear c9b0
                      try clear c9b1
                      try clear c10
                      try clear c13
                      try clear c14
                      try clear c23
                      try clear c23b0
                      try clear c23b1
                      try clear c24
                      try clear c25
                      try clear p2
                      obtain ⟨x14_3, x68_3, rfl, rfl, HA, HK3, HO_8, HO_10, HO_12, HO_66, HB⟩ := hrel
                      cases gk with
                      | zero => exact absurd HA.out (by simp [cuvettelaw06_RankCounts.l0])
                      | succ k3 =>
                        have H := HA.out
                        clear HA
                        simp only [cuvettelaw06_RankCounts.l0] at H
                        by_cases c27 : x68_3 < (t1047.length : Int)
                        · rw [if_pos c27] at H
                          have c27b0 : decide (x68_3 < (t1047.length : Int)) = true := decide_eq_true c27
                          clear c27
                          by_cases c28 : 0 ≤ x68_3
                          · rw [if_pos c28] at H
                            have c28b0 : decide (0 ≤ x68_3) = true := decide_eq_true c28
                            clear c28
                            by_cases c29 : x68_3 < (t1047.length : Int)
                            · rw [if_pos c29] at H
                              have c29b0 : decide (x68_3 < (t1047.length : Int)) = true := decide_eq_true c29
                              clear c29
                              by_cases c30 : x68_3 ≥ (t1033.length : Int)
                              · rw [if_pos c30] at H
                                have c30b0 : decide ((t1033.length : Int) ≤ x68_3) = true := decide_eq_true c30
                                clear c30
                                exact absurd (Option.some.inj H) (by rw [hT_]; decide)
                              · rw [if_neg c30] at H
                                have c30b0 : decide ((t1033.length : Int) ≤ x68_3) = false := decide_eq_false c30
                                clear c30
                                by_cases c32 : x68_3 ≥ (t1037.length : Int)
                                · rw [if_pos c32] at H
                                  have c32b0 : decide ((t1037.length : Int) ≤ x68_3) = true := decide_eq_true c32
                                  clear c32
                                  exact absurd (Option.some.inj H) (by rw [hT_]; decide)
                                · rw [if_neg c32] at H
                                  have c32b0 : decide ((t1037.length : Int) ≤ x68_3) = false := decide_eq_false c32
                                  clear c32
                                  by_cases c35 : x68_3 < (t1033.length : Int)
                                  · rw [if_pos c35] at H
                                    have c35b0 : decide (x68_3 < (t1033.length : Int)) = true := decide_eq_true c35
                                    clear c35
                                    by_cases c36 : x68_3 < (t1037.length : Int)
                                    · rw [if_pos c36] at H
                                      have c36b0 : decide (x68_3 < (t1037.length : Int)) = true := decide_eq_true c36
                                      clear c36
                                      by_cases c37 : (rd t1047 x68_3) = (wrap64 ((rd t1033 x68_3) + (rd t1037 x68_3)))
                                      · rw [if_pos c37] at H
                                        have c37b0 : ((rd t1047 x68_3) == (wrap64 ((rd t1033 x68_3) + (rd t1037 x68_3)))) = true := beq_iff_eq.mpr c37
                                        have c37b1 : ((rd t1047 x68_3) != (wrap64 ((rd t1033 x68_3) + (rd t1037 x68_3)))) = false := bne_eq_false_iff_eq.mpr c37
                                        clear c37
                                        have H' := Aside0.mk H
                                        clear H
                                        have p1051 : 0 ≤ (x68_3 : Int) := of_decide_eq_true (by first | (with_reducible assumption) | assumption)
                                        have q1051 : x68_3 < (t1047.length : Int) := of_decide_eq_true (by first | (with_reducible assumption) | assumption)
                                        obtain ⟨ad1051, e1051, hx1051_0⟩ := Kd.at_int (Kd.R_reads' HO_66.out).2.2 x68_3 p1051 q1051
                                        cases e1051
                                        replace p1051 := eq_true p1051
                                        replace q1051 := eq_true q1051
                                        obtain ⟨Ao38, co38, eo38⟩ := Kd.R_slice HO_8.out
                                        subst eo38
                                        obtain ⟨Ao39, co39, eo39⟩ := Kd.R_slice HO_10.out
                                        subst eo39
                                        have p1052 : 0 ≤ (x68_3 : Int) := of_decide_eq_true (by first | (with_reducible assumption) | assumption)
                                        have q1052 : x68_3 < (t1033.length : Int) := of_decide_eq_true (by first | (with_reducible assumption) | assumption)
                                        obtain ⟨ad1052, e1052, hx1052_0⟩ := Kd.at_int (Kd.R_reads' HO_8.out).2.2 x68_3 p1052 q1052
                                        cases e1052
                                        replace p1052 := eq_true p1052
                                        replace q1052 := eq_true q1052
                                        have p1053 : 0 ≤ (x68_3 : Int) := of_decide_eq_true (by first | (with_reducible assumption) | assumption)
                                        have q1053 : x68_3 < (t1037.length : Int) := of_decide_eq_true (by first | (with_reducible assumption) | assumption)
                                        obtain ⟨ad1053, e1053, hx1053_0⟩ := Kd.at_int (Kd.R_reads' HO_10.out).2.2 x68_3 p1053 q1053
                                        cases e1053
                                        replace p1053 := eq_true p1053
                                        replace q1053 := eq_true q1053
                                        go_wp2
                                        repeat (go_quiet (fail); try go_wp2)
                                        go_roundg k3
                                        case measure => have := HJ5.out; have := HJ15.out; have := HK3.out; omega
                                        case rel => exact ⟨(wrap64 (x14_3 + (rd t1047 x68_3))), (wrap64 (x68_3 + 1)), (by first | rfl | (simp; done) | (simp [*]; done)), (by first | rfl | (simp; done) | (simp [*]; done)), H', ⟨by have := HJ5.out; have := HJ15.out; have := HK3.out; omega⟩, ⟨by (with_reducible repeat (first | apply Kd.R_alloc | apply Kd.R_drewN | apply Kd.R_drew)); exact HO_8.out⟩, ⟨by (with_reducible repeat (first | apply Kd.R_alloc | apply Kd.R_drewN | apply Kd.R_drew)); exact HO_10.out⟩, ⟨by (with_reducible repeat (first | apply Kd.R_alloc | apply Kd.R_drewN | apply Kd.R_drew)); exact HO_12.out⟩, ⟨by (with_reducible repeat (first | apply Kd.R_alloc | apply Kd.R_drewN | apply Kd.R_drew)); exact HO_66.out⟩, ⟨by repeat (first | (with_reducible first | exact HB.out | apply below_alloc | apply pw_below_drewN | apply below_drew1) | exact HB.out)⟩⟩
                                      · rw [if_neg c37] at H
                                        have c37b0 : ((rd t1047 x68_3) == (wrap64 ((rd t1033 x68_3) + (rd t1037 x68_3)))) = false := beq_eq_false_iff_ne.mpr c37
                                        have c37b1 : ((rd t1047 x68_3) != (wrap64 ((rd t1033 x68_3) + (rd t1037 x68_3)))) = true := bne_iff_ne.mpr c37
                                        exact absurd (Option.some.inj H) (by rw [hT_]; decide)
                                    · rw [if_neg c36] at H
                                      exact absurd H (by simp)
                                  · rw [if_neg c35] at H
                                    exact absurd H (by simp)
                            · rw [if_neg c29] at H
                              exact absurd H (by simp)
                          · rw [if_neg c28] at H
                            exact absurd H (by simp)
                        · rw [if_neg c27] at H
                          have c27b0 : decide (x68_3 < (t1047.length : Int)) = false := decide_eq_false c27
                          clear c27
                          by_cases c42 : true = true
                          · clear c42
                            have H1 : (if t1048 = 0 then (if x14_3 = (wrap64 ((l1.length : Int) + (l2.length : Int))) then (some ((t1047.length : Int) == (wrap64 ((l0.length : Int) + 1)))) else (some false)) else (some false)) = some r := by first | (rw [if_pos rfl] at H; exact H) | (rw [if_pos trivial] at H; exact H)
                            clear H
                            have H := H1
                            clear H1
                            by_cases c43 : t1048 = 0
                            · rw [if_pos c43] at H
                              have c43b0 : (t1048 == 0) = true := beq_iff_eq.mpr c43
                              have c43b1 : (t1048 != 0) = false := bne_eq_false_iff_eq.mpr c43
                              clear c43
                              by_cases c44 : x14_3 = (wrap64 ((l1.length : Int) + (l2.length : Int)))
                              · rw [if_pos c44] at H
                                have c44b0 : (x14_3 == (wrap64 ((l1.length : Int) + (l2.length : Int)))) = true := beq_iff_eq.mpr c44
                                have c44b1 : (x14_3 != (wrap64 ((l1.length : Int) + (l2.length : Int)))) = false := bne_eq_false_iff_eq.mpr c44
                                clear c44
                                obtain rfl := Option.some.inj H
                                go_wp2
                                repeat (go_quiet (fail); try go_wp2)
                                go_ret
                                exact ⟨by first | rfl | (simp [errW_none, errW_some] <;> rfl) | (simp [*, errW_none, errW_some] <;> rfl), by repeat (first | (with_reducible first | exact HB.out | apply below_alloc | apply pw_below_drewN | apply below_drew1) | exact HB.out)⟩
                              · rw [if_neg c44] at H
                                have c44b0 : (x14_3 == (wrap64 ((l1.length : Int) + (l2.length : Int)))) = false := beq_eq_false_iff_ne.mpr c44
                                have c44b1 : (x14_3 != (wrap64 ((l1.length : Int) + (l2.length : Int)))) = true := bne_iff_ne.mpr c44
                                exact absurd (Option.some.inj H) (by rw [hT_]; decide)
                            · rw [if_neg c43] at H
                              have c43b0 : (t1048 == 0) = false := beq_eq_false_iff_ne.mpr c43
                              have c43b1 : (t1048 != 0) = true := bne_iff_ne.mpr c43
                              exact absurd (Option.some.inj H) (by rw [hT_]; decide)
                          · exact absurd rfl c42
            · rw [if_neg c14] at H
              exact absurd H (by simp)
          · rw [if_neg c13] at H
            exact absurd H (by simp)
  · replace c5 := Bool.eq_false_iff.mpr c5
    subst c5
    have H1 : (some false) = some r := by rw [if_neg (show ¬ (false = true) by decide)] at H; exact H
    clear H
    have H := H1
    clear H1
    exact absurd (Option.some.inj H) (by rw [hT_]; decide)

end Go.Proofs.Ytkjibgfgbfacdaa.P
end
/-! part: F148 -/
section
set_option linter.unusedVariables false
set_option linter.unusedSimpArgs false
namespace Go.Proofs.Ytkjibgfgbfacdaa.P
open Go.RowKit Go.Proofs.YtkjibgfgbfacdaaW.PrintWords Go.Proofs.YtkjibgfgbfacdaaW.PrintLast Go.Proofs.YtkjibgfgbfacdaaW.PrintMore
attribute [local go_sem] max2_int min2_int max_two min_two max_three min_three max_four min_four   -- for this text's walks alone
set_option linter.unusedVariables false
set_option linter.unusedSimpArgs false

/-! ### pack_wide: function 148 -/
def pack_wide.f (a0 : Int) : Option (Bool) := if a0 ≥ 1 then (some (decide (a0 ≤ 8))) else (some false)
set_option maxHeartbeats 8000000 in
set_option maxRecDepth 100000 in
theorem pack_wide.calls (a0 : Int) (r : Bool) (w : World) (h : pack_wide.f a0 = some r) :
    Calls Try.prog 148 #[.int .i64 a0] w fun e w' => e = .returned (.bool r) ∧ Drawn0 w w' := by
  have H : (if a0 ≥ 1 then (some (decide (a0 ≤ 8))) else (some false)) = some r := h
  clear h
  by_cases c2 : a0 ≥ 1
  · rw [if_pos c2] at H
    have c2b0 : decide (1 ≤ a0) = true := decide_eq_true c2
    clear c2
    obtain rfl := Option.some.inj H
    go_enter Try.func148, Try.ntmps148
    go_wp2
    go_ret
    exact ⟨by first | rfl | (simp; done) | (simp [*]; done), by repeat (first | exact Drawn0.refl _ | apply Drawn0.step)⟩
  · rw [if_neg c2] at H
    have c2b0 : decide (1 ≤ a0) = false := decide_eq_false c2
    clear c2
    obtain rfl := Option.some.inj H
    go_enter Try.func148, Try.ntmps148
    go_wp2
    go_ret
    exact ⟨by first | rfl | (simp; done) | (simp [*]; done), by repeat (first | exact Drawn0.refl _ | apply Drawn0.step)⟩

end Go.Proofs.Ytkjibgfgbfacdaa.P
end
/-! part: F149 -/
section
set_option linter.unusedVariables false
set_option linter.unusedSimpArgs false
namespace Go.Proofs.Ytkjibgfgbfacdaa.P
open Go.RowKit Go.Proofs.YtkjibgfgbfacdaaW.PrintWords Go.Proofs.YtkjibgfgbfacdaaW.PrintLast Go.Proofs.YtkjibgfgbfacdaaW.PrintMore
attribute [local go_sem] max2_int min2_int max_two min_two max_three min_three max_four min_four   -- for this text's walks alone
set_option linter.unusedVariables false
set_option linter.unusedSimpArgs false

/-! ### bytes_Clone: function 149 -/
def bytes_Clone.f (l0 : List Int) : Option (List Int) := (some (([] : List Int) : List Int)).bind fun y455 => (if y455.length + l0.length < 140737488355328 then (some (y455 ++ l0)) else (none))
set_option maxHeartbeats 8000000 in
set_option maxRecDepth 100000 in
theorem bytes_Clone.calls_some (A0 : Option Addr) (c0 : Nat) (l0 : List Int) (r : List Int) (w : World) (hr0 : Kd.C (Kd.int .u8) w A0 l0.length l0) (hc0 : l0.length ≤ c0) (hA_ : A0.isNone = false) (h : bytes_Clone.f l0 = some r) :
    Calls Try.prog 149 #[.slice A0 l0.length c0] w fun e w' => ∃ v0_ : Value, e = .returned (v0_) ∧ Kd.R (Kd.int .u8) 5 w' w.heap.size (fun _ => True) v0_ r ∧ Below w.heap.size w w' := by
  have hq_ := fun w => Lib.run_eql_slice_nil (P := Try.prog) w 50 5 A0 l0.length c0 0 0 Try.underlying50
  rw [hA_] at hq_
  have HR0 := Aside0.mk hr0
  have HC0 := Aside0.mk hc0
  clear hr0 hc0
  have HB := Aside0.mk (Below.refl w.heap.size w)
  have H : ((some (([] : List Int) : List Int)).bind fun y455 => (if y455.length + l0.length < 140737488355328 then (some (y455 ++ l0)) else (none))) = some r := h
  clear h
  obtain ⟨y455, hy455⟩ : ∃ y_ : List Int, y_ = (([] : List Int)) := ⟨_, rfl⟩
  replace H : (if y455.length + l0.length < 140737488355328 then (some (y455 ++ l0)) else (none)) = some r := by first | (rw [hy455]; with_reducible exact H) | (have H2_ := (Option.bind_some _ _).symm.trans H; rw [hy455]; with_reducible exact H2_) | (have H2_ := (Option.bind_some _ _).symm.trans H; with_reducible exact H2_) | with_reducible exact H | (rw [hy455]; exact H) | exact H
  have Ny455 := Aside0.mk hy455
  clear hy455
  by_cases c2 : y455.length + l0.length < 140737488355328
  · rw [if_pos c2] at H
    have LMc2 := Aside0.mk c2
    clear c2
    obtain ⟨y458, hy458⟩ : ∃ y_ : List Int, y_ = (y455 ++ l0) := ⟨_, rfl⟩
    replace H : (some y458) = some r := by first | (rw [hy458]; with_reducible exact H) | (have H2_ := (Option.bind_some _ _).symm.trans H; rw [hy458]; with_reducible exact H2_) | (have H2_ := (Option.bind_some _ _).symm.trans H; with_reducible exact H2_) | with_reducible exact H | (rw [hy458]; exact H) | exact H
    have Ny458 := Aside0.mk hy458
    clear hy458
    obtain rfl := Option.some.inj H
    go_enter Try.func149, Try.ntmps149
    go_wp2_with (first | ((with_reducible refine gate_dst (N := 5) rfl ?_); refine Kd.R_lit (Kd.int .u8) _ 5 ?hg (N := 5) ?hd (xs := ([] : List Int)) (inner := []) (ok := fun _ => True) (okp := fun _ => True) ?hr ?hp (fun _ hk => hk) trivial (Below.refl _ _) (Nat.le_refl _) (by simp) ?_; (case hd => rfl); (case hg => rfl); (case hr => first | (go_simp; done) | (go_simp; rfl)); (case hp => exact (Reps.none _ _)); intro v456 w3 ho4 hb hg_ hnew_; clear hg_ hnew_; (first | rw [← Ny455.out] at ho4 | (simp only [Int.reduceToNat] at ho4; rw [← Ny455.out] at ho4)); have n0_ := Aside0.mk (Kd.R_lower ho4 (below_size (by repeat (first | (with_reducible first | exact HB.out | apply below_alloc | apply pw_below_drewN | apply below_drew1) | exact HB.out)))); have n1_ := Aside0.mk (below_step (by repeat (first | (with_reducible first | exact HB.out | apply below_alloc | apply pw_below_drewN | apply below_drew1) | exact HB.out)) hb); clear HB; have HO457 := n0_; have HB := n1_; clear n0_ n1_; clear hb ho4) | ((with_reducible refine gate_builtin (b := .append) (xs := #[.tmp 5, .tmp 6]) rfl ?_); at_builtin; refine Kd.R_append_rows (Kd.int .u8) (w0 := w) w.heap.size rfl (.tmp 5) (.tmp 6) 50 5 (.int .u8 0) 1 rfl Try.underlying50 info5 rfl (by decide) (by omega) v456 y455 l0 _ _ _ (fun _ => True) (fun _ => False) rfl rfl ?aO ?aR (fun _ _ h => h) (fun _ h => h.elim) ?aF ?aB ?aS ?aL ?_; (case aR => repeat (first | exact (Kd.C_below HR0.out HB.out) | (with_reducible refine Kd.C_alloc ?_ _) | (with_reducible refine Kd.C_drewN ?_ _) | (with_reducible refine Kd.C_drew ?_))); (case aB => exact (by repeat (first | (with_reducible first | exact HB.out | apply below_alloc | apply pw_below_drewN | apply below_drew1) | exact HB.out))); (case aF => exact (fun _ _ => trivial)); (case aO => exact (by (with_reducible repeat (first | apply Kd.R_alloc | apply Kd.R_drewN | apply Kd.R_drew)); exact HO457.out)); (case aS => exact (below_size (by repeat (first | (with_reducible first | exact HB.out | apply below_alloc | apply pw_below_drewN | apply below_drew1) | exact HB.out)))); (case aL => have := LMc2.out; omega); intro v459 w5 ho hb hg hat; rw [← Ny458.out] at ho; have n0_ := Aside0.mk (hb); have n1_ := Aside0.mk (ho); clear HB; clear HO457; have HB := n0_; have HO460 := n1_; clear n0_ n1_; clear ho hb hg hat))
    go_ret
    exact ⟨_, by first | rfl | (simp [errW_none, errW_some] <;> rfl) | (simp [*, errW_none, errW_some] <;> rfl), by (with_reducible repeat (first | apply Kd.R_alloc | apply Kd.R_drewN | apply Kd.R_drew)); exact HO460.out, by repeat (first | (with_reducible first | exact HB.out | apply below_alloc | apply pw_below_drewN | apply below_drew1) | exact HB.out)⟩
  · rw [if_neg c2] at H
    exact absurd H (by simp)
set_option maxHeartbeats 1000000 in
theorem bytes_Clone.calls (A0 : Option Addr) (c0 : Nat) (l0 : List Int) (r : List Int) (w : World) (hr0 : Kd.C (Kd.int .u8) w A0 l0.length l0) (hc0 : l0.length ≤ c0) (h : bytes_Clone.f l0 = some r) :
    Calls Try.prog 149 #[.slice A0 l0.length c0] w fun e w' => ∃ v0_ : Value, e = .returned (v0_) ∧ Kd.R (Kd.int .u8) 5 w' w.heap.size (fun _ => True) v0_ r ∧ Below w.heap.size w w' := by
  cases A0 with
  | some a_ => exact bytes_Clone.calls_some (some a_) c0 l0 r w hr0 hc0 rfl h
  | none =>
    have hl : l0 = [] := Kd.C_zero hr0
    have hr_ : r = [] := by subst hl; simp [bytes_Clone.f] at h; first | exact h | exact h.symm
    subst hr_
    clear h
    clear hr0
    clear hc0
    subst hl
    have hq_ := fun w => Lib.run_eql_slice_nil (P := Try.prog) w 50 5 none ([] : List Int).length c0 0 0 Try.underlying50
    simp only [Option.isNone_none, List.length_nil] at hq_
    simp only [List.length_nil]
    go_enter Try.func149, Try.ntmps149
    go_wp2
    go_ret
    exact ⟨_, rfl, Kd.R_nil _ _ _ _ _, Below.refl _ _⟩

end Go.Proofs.Ytkjibgfgbfacdaa.P
end
/-! part: F102 -/
section
set_option linter.unusedVariables false
set_option linter.unusedSimpArgs false
namespace Go.Proofs.Ytkjibgfgbfacdaa.P
open Go.RowKit Go.Proofs.YtkjibgfgbfacdaaW.PrintWords Go.Proofs.YtkjibgfgbfacdaaW.PrintLast Go.Proofs.YtkjibgfgbfacdaaW.PrintMore
attribute [local go_sem] max2_int min2_int max_two min_two max_three min_three max_four min_four   -- for this text's walks alone
set_option linter.unusedVariables false
set_option linter.unusedSimpArgs false

/-! ### pack_Put: function 102 -/
mutual
def pack_Put.l0 : Nat → List Int → Int → List Int → Int → List Int → Int → Int → Option (List Int × Int)
  | 0, _, _, _, _, _, _, _ => none
  | k + 1, x0, x1, x2, x8, x21, x22, x23 => if x23 < x22 then (if 0 ≤ x23 then (if x23 < (x21.length : Int) then (if 0 ≤ x8 then (if (shr .i64 (shl .i64 (rd x21 x23) x8) x8) = (rd x21 x23) then (pack_Put.l0 k x0 x1 x2 x8 x21 x22 (wrap64 (x23 + 1))) else (some (([] : List Int), 4))) else (none)) else (none)) else (none)) else (if (x2.length : Int) > 65536 then (pack_Put.j1 k x0 x1 x2 true) else (pack_Put.j1 k x0 x1 x2 (decide ((x0.length : Int) > (wrap64 (65536 - (wrap64 (x1 * (x2.length : Int)))))))))
def pack_Put.j1 : Nat → List Int → Int → List Int → Bool → Option (List Int × Int)
  | 0, _, _, _, _ => none
  | k + 1, x0, x1, x2, x47 => if x47 = true then (some (([] : List Int), 3)) else ((bytes_Clone.f x0).bind fun t463 => (pack_Put.l1 k x1 t463 x2 (x2.length : Int) 0))
def pack_Put.l1 : Nat → Int → List Int → List Int → Int → Int → Option (List Int × Int)
  | 0, _, _, _, _, _ => none
  | k + 1, x1, x11, x50, x51, x52 => if x52 < x51 then (if 0 ≤ x52 then (if x52 < (x50.length : Int) then (pack_Put.l2 k x1 x11 (rd x50 x52) x50 x51 x52 x1 0) else (none)) else (none)) else (some (x11, 0))
def pack_Put.l2 : Nat → Int → List Int → Int → List Int → Int → Int → Int → Int → Option (List Int × Int)
  | 0, _, _, _, _, _, _, _, _ => none
  | k + 1, x1, x11, x13, x50, x51, x52, x56, x57 => if x57 < x56 then (if 0 ≤ (wrap64 (8 * x57)) then (if x11.length < 140737488355328 then (pack_Put.l2 k x1 (x11 ++ [(shr .i64 x13 (wrap64 (8 * x57))) % 256]) x13 x50 x51 x52 x56 (wrap64 (x57 + 1))) else (none)) else (none)) else (pack_Put.l1 k x1 x11 x50 x51 (wrap64 (x52 + 1)))
end
def pack_Put.f (k : Nat) (l0 : List Int) (a1 : Int) (l2 : List Int) : Option (List Int × Int) := (pack_wide.f a1).bind fun t461 => (if t461 = true then (pack_Put.l0 k l0 a1 l2 (wrap64 (64 - (wrap64 (8 * a1)))) l2 (l2.length : Int) 0) else (some (([] : List Int), 1)))
theorem pack_Put.mono_l : ∀ k, (∀ y0 y1 y2 y3 y4 y5 y6, LeO (pack_Put.l0 k y0 y1 y2 y3 y4 y5 y6) (pack_Put.l0 (k + 1) y0 y1 y2 y3 y4 y5 y6)) ∧ (∀ y0 y1 y2 y3, LeO (pack_Put.j1 k y0 y1 y2 y3) (pack_Put.j1 (k + 1) y0 y1 y2 y3)) ∧ (∀ y0 y1 y2 y3 y4, LeO (pack_Put.l1 k y0 y1 y2 y3 y4) (pack_Put.l1 (k + 1) y0 y1 y2 y3 y4)) ∧ (∀ y0 y1 y2 y3 y4 y5 y6 y7, LeO (pack_Put.l2 k y0 y1 y2 y3 y4 y5 y6 y7) (pack_Put.l2 (k + 1) y0 y1 y2 y3 y4 y5 y6 y7))
  | 0 => ⟨fun _ _ _ _ _ _ _ r h => by simp [pack_Put.l0] at h, fun _ _ _ _ r h => by simp [pack_Put.j1] at h, fun _ _ _ _ _ r h => by simp [pack_Put.l1] at h, fun _ _ _ _ _ _ _ _ r h => by simp [pack_Put.l2] at h⟩
  | k + 1 => by
    obtain ⟨ih0, ih1, ih2, ih3⟩ := pack_Put.mono_l k
    refine ⟨?_, ?_, ?_, ?_⟩
    · intro y0 y1 y2 y3 y4 y5 y6
      unfold pack_Put.l0
      repeat' first
      | (with_reducible exact ih0 _ _ _ _ _ _ _)
      | (with_reducible exact ih1 _ _ _ _)
      | (with_reducible exact ih2 _ _ _ _ _)
      | (with_reducible exact ih3 _ _ _ _ _ _ _ _)
      | (with_reducible exact LeO.refl _)
      | (with_reducible exact LeO.none _)
      | (with_reducible refine LeO.ite ?_ ?_)
      | (with_reducible refine LeO.bind ?_ (fun _ => ?_))
      | exact ih0 _ _ _ _ _ _ _
      | exact ih1 _ _ _ _
      | exact ih2 _ _ _ _ _
      | exact ih3 _ _ _ _ _ _ _ _
      | exact LeO.none _
      | refine LeO.ite ?_ ?_
      | refine LeO.bind ?_ (fun _ => ?_)
    · intro y0 y1 y2 y3
      unfold pack_Put.j1
      repeat' first
      | (with_reducible exact ih0 _ _ _ _ _ _ _)
      | (with_reducible exact ih1 _ _ _ _)
      | (with_reducible exact ih2 _ _ _ _ _)
      | (with_reducible exact ih3 _ _ _ _ _ _ _ _)
      | (with_reducible exact LeO.refl _)
      | (with_reducible exact LeO.none _)
      | (with_reducible refine LeO.ite ?_ ?_)
      | (with_reducible refine LeO.bind ?_ (fun _ => ?_))
      | exact ih0 _ _ _ _ _ _ _
      | exact ih1 _ _ _ _
      | exact ih2 _ _ _ _ _
      | exact ih3 _ _ _ _ _ _ _ _
      | exact LeO.none _
      | refine LeO.ite ?_ ?_
      | refine LeO.bind ?_ (fun _ => ?_)
    · intro y0 y1 y2 y3 y4
      unfold pack_Put.l1
      repeat' first
      | (with_reducible exact ih0 _ _ _ _ _ _ _)
      | (with_reducible exact ih1 _ _ _ _)
      | (with_reducible exact ih2 _ _ _ _ _)
      | (with_reducible exact ih3 _ _ _ _ _ _ _ _)
      | (with_reducible exact LeO.refl _)
      | (with_reducible exact LeO.none _)
      | (with_reducible refine LeO.ite ?_ ?_)
      | (with_reducible refine LeO.bind ?_ (fun _ => ?_))
      | exact ih0 _ _ _ _ _ _ _
      | exact ih1 _ _ _ _
      | exact ih2 _ _ _ _ _
      | exact ih3 _ _ _ _ _ _ _ _
      | exact LeO.none _
      | refine LeO.ite ?_ ?_
      | refine LeO.bind ?_ (fun _ => ?_)
    · intro y0 y1 y2 y3 y4 y5 y6 y7
      unfold pack_Put.l2
      repeat' first
      | (with_reducible exact ih0 _ _ _ _ _ _ _)
      | (with_reducible exact ih1 _ _ _ _)
      | (with_reducible exact ih2 _ _ _ _ _)
      | (with_reducible exact ih3 _ _ _ _ _ _ _ _)
      | (with_reducible exact LeO.refl _)
      | (with_reducible exact LeO.none _)
      | (with_reducible refine LeO.ite ?_ ?_)
      | (with_reducible refine LeO.bind ?_ (fun _ => ?_))
      | exact ih0 _ _ _ _ _ _ _
      | exact ih1 _ _ _ _
      | exact ih2 _ _ _ _ _
      | exact ih3 _ _ _ _ _ _ _ _
      | exact LeO.none _
      | refine LeO.ite ?_ ?_
      | refine LeO.bind ?_ (fun _ => ?_)
theorem pack_Put.mono : ∀ a0 a1 a2 k, LeO (pack_Put.f k a0 a1 a2) (pack_Put.f (k + 1) a0 a1 a2) := by
  intro a0 a1 a2 k
  obtain ⟨ih0, ih1, ih2, ih3⟩ := pack_Put.mono_l k
  unfold pack_Put.f
  repeat' first
      | (with_reducible exact ih0 _ _ _ _ _ _ _)
      | (with_reducible exact ih1 _ _ _ _)
      | (with_reducible exact ih2 _ _ _ _ _)
      | (with_reducible exact ih3 _ _ _ _ _ _ _ _)
      | (with_reducible exact LeO.refl _)
      | (with_reducible exact LeO.none _)
      | (with_reducible refine LeO.ite ?_ ?_)
      | (with_reducible refine LeO.bind ?_ (fun _ => ?_))
      | exact ih0 _ _ _ _ _ _ _
      | exact ih1 _ _ _ _
      | exact ih2 _ _ _ _ _
      | exact ih3 _ _ _ _ _ _ _ _
      | exact LeO.none _
      | refine LeO.ite ?_ ?_
      | refine LeO.bind ?_ (fun _ => ?_)
set_option maxHeartbeats 8000000 in
set_option maxRecDepth 100000 in
theorem pack_Put.calls (k : Nat) (A0 : Option Addr) (c0 : Nat) (l0 : List Int) (a1 : Int) (A2 : Option Addr) (c2 : Nat) (l2 : List Int) (r1 : List Int) (r2 : Int) (w : World) (hr0 : Kd.C (Kd.int .u8) w A0 l0.length l0) (hc0 : l0.length ≤ c0) (hr2 : Kd.C (Kd.int .i64) w A2 l2.length l2) (hc2 : l2.length ≤ c2) (h : pack_Put.f k l0 a1 l2 = some (r1, r2)) :
    Calls Try.prog 102 #[.slice A0 l0.length c0, .int .i64 a1, .slice A2 l2.length c2] w fun e w' => ∃ v0_ : Value, e = .returned (.tuple #[v0_, .int .i64 r2]) ∧ Kd.R (Kd.int .u8) 5 w' w.heap.size (fun _ => True) v0_ r1 ∧ Below w.heap.size w w' := by
  have HR0 := Aside0.mk hr0
  have HC0 := Aside0.mk hc0
  clear hr0 hc0
  have HR2 := Aside0.mk hr2
  have HC2 := Aside0.mk hc2
  clear hr2 hc2
  have HB := Aside0.mk (Below.refl w.heap.size w)
  have H : ((pack_wide.f a1).bind fun t461 => (if t461 = true then (pack_Put.l0 k l0 a1 l2 (wrap64 (64 - (wrap64 (8 * a1)))) l2 (l2.length : Int) 0) else (some (([] : List Int), 1)))) = some (r1, r2) := h
  clear h
  replace H := Option.bind_eq_some_iff.mp H
  obtain ⟨t461, A40, H⟩ := H
  replace H : (if t461 = true then (pack_Put.l0 k l0 a1 l2 (wrap64 (64 - (wrap64 (8 * a1)))) l2 (l2.length : Int) 0) else (some (([] : List Int), 1))) = some (r1, r2) := H
  have A4 := Aside0.mk A40
  clear A40
  by_cases c5 : t461 = true
  · subst c5
    have H1 : (pack_Put.l0 k l0 a1 l2 (wrap64 (64 - (wrap64 (8 * a1)))) l2 (l2.length : Int) 0) = some (r1, r2) := by first | (rw [if_pos rfl] at H; exact H) | (rw [if_pos trivial] at H; exact H)
    clear H
    have H := H1
    clear H1
    have H' := Aside0.mk H
    clear H
    go_enter Try.func102, Try.ntmps102
    go_wp2_with (first | ((with_reducible refine gate_callee (f := 148) rfl ?_); refine goesL_ (some 16) rfl rfl Try.func148 (by kernel_rfl) rfl #[.int .i64 a1] rfl (by (try simp only [List.map_toArray, List.map_cons, List.map_nil]); first | done | rfl | (simp only [List.length_drop, List.length_take]; rfl)) ?_; (with_reducible refine (pack_wide.calls a1 true _ A4.out).mono ?_); rintro e w' ⟨rfl, ⟨nd, rfl⟩⟩; refine ⟨_, rfl, ?_⟩))
    go_loopg [23] k (fun kq v23 w' => ∃ (x23_1 : Int), v23 = .int .i64 x23_1 ∧ Aside0 (pack_Put.l0 kq l0 a1 l2 (wrap64 (64 - (wrap64 (8 * a1)))) l2 (l2.length : Int) x23_1 = some (r1, r2)) ∧ Aside0 (kq ≤ k) ∧ Aside0 (Below w.heap.size w w'))
    case atStart => exact ⟨(0), (by first | rfl | (simp; done) | (simp [*]; done)), H', ⟨Nat.le_refl _⟩, ⟨by repeat (first | (with_reducible first | exact HB.out | apply below_alloc | apply pw_below_drewN | apply below_drew1) | exact HB.out)⟩⟩
    case round =>
      clear H'
      try clear c1
      try clear c2
      try clear p2
      try clear c5
      obtain ⟨x23_1, rfl, HA, HK1, HB⟩ := hrel
      cases gk with
      | zero => exact absurd HA.out (by simp [pack_Put.l0])
      | succ k1 =>
        have H := HA.out
        clear HA
        simp only [pack_Put.l0] at H
        by_cases c6 : x23_1 < (l2.length : Int)
        · rw [if_pos c6] at H
          have c6b0 : decide (x23_1 < (l2.length : Int)) = true := decide_eq_true c6
          clear c6
          by_cases c7 : 0 ≤ x23_1
          · rw [if_pos c7] at H
            have c7b0 : decide (0 ≤ x23_1) = true := decide_eq_true c7
            clear c7
            by_cases c8 : x23_1 < (l2.length : Int)
            · rw [if_pos c8] at H
              have c8b0 : decide (x23_1 < (l2.length : Int)) = true := decide_eq_true c8
              clear c8
              obtain ⟨ji9, hji9⟩ : ∃ j_ : Int, (wrap64 (64 - (wrap64 (8 * a1)))) = j_ := ⟨_, rfl⟩
              replace H : (if 0 ≤ (ji9) then (if (shr .i64 (shl .i64 (rd l2 x23_1) (ji9)) (ji9)) = (rd l2 x23_1) then (pack_Put.l0 k1 l0 a1 l2 (ji9) l2 (l2.length : Int) (wrap64 (x23_1 + 1))) else (some (([] : List Int), 4))) else (none)) = some (r1, r2) := by first | (rw [hji9] at H; exact H) | (simp only [hji9] at H ⊢; exact H)
              have hji9w : (IntKind.i64.wrap (64 - (wrap64 (8 * a1)))) = ji9 := (i64_w _).trans hji9
              by_cases c10 : 0 ≤ (ji9)
              · rw [if_pos c10] at H
                have c10b0 := eq_true c10
                have c10b1 : decide (0 ≤ (ji9)) = true := decide_eq_true c10
                clear c10
                obtain ⟨ji11, hji11⟩ : ∃ j_ : Int, (shl .i64 (rd l2 x23_1) (ji9)) = j_ := ⟨_, rfl⟩
                replace H : (if (shr .i64 (ji11) (ji9)) = (rd l2 x23_1) then (pack_Put.l0 k1 l0 a1 l2 (ji9) l2 (l2.length : Int) (wrap64 (x23_1 + 1))) else (some (([] : List Int), 4))) = some (r1, r2) := by first | (rw [hji11] at H; exact H) | (simp only [hji11] at H ⊢; exact H)
                have hji11_ : (IntKind.i64.wrap ((rd l2 x23_1) * 2 ^ min (ji9).toNat 64)) = ji11 := hji11
                have hji11z : (ji9) ≤ 64 → (IntKind.i64.wrap ((rd l2 x23_1) * 2 ^ (ji9).toNat)) = ji11 := shl_small hji11
                have hji11y : (wrap64 ((rd l2 x23_1) * 2 ^ min (ji9).toNat 64)) = ji11 := (i64_w _).symm.trans hji11_
                have hji11x : (ji9) ≤ 64 → (wrap64 ((rd l2 x23_1) * 2 ^ (ji9).toNat)) = ji11 := fun h_ => (i64_w _).symm.trans (hji11z h_)
                have c12b0 := eq_true (of_decide_eq_true (by first | (with_reducible assumption) | assumption) : 0 ≤ (ji9))
                obtain ⟨ji13, hji13⟩ : ∃ j_ : Int, (shr .i64 (ji11) (ji9)) = j_ := ⟨_, rfl⟩
                replace H : (if (ji13) = (rd l2 x23_1) then (pack_Put.l0 k1 l0 a1 l2 (ji9) l2 (l2.length : Int) (wrap64 (x23_1 + 1))) else (some (([] : List Int), 4))) = some (r1, r2) := by first | (rw [hji13] at H; exact H) | (simp only [hji13] at H ⊢; exact H)
                have hji13_ : ((ji11) / 2 ^ min (ji9).toNat 64) = ji13 := hji13
                have hji13z : (ji9) ≤ 64 → ((ji11) / 2 ^ (ji9).toNat) = ji13 := shr_small hji13
                by_cases c14 : (ji13) = (rd l2 x23_1)
                · rw [if_pos c14] at H
                  have c14b0 : ((ji13) == (rd l2 x23_1)) = true := beq_iff_eq.mpr c14
                  have c14b1 : ((ji13) != (rd l2 x23_1)) = false := bne_eq_false_iff_eq.mpr c14
                  clear c14
                  have H' := Aside0.mk H
                  clear H
                  have p462 : 0 ≤ (x23_1 : Int) := of_decide_eq_true (by first | (with_reducible assumption) | assumption)
                  have q462 : x23_1 < (l2.length : Int) := of_decide_eq_true (by first | (with_reducible assumption) | assumption)
                  obtain ⟨ad462, e462, hx462_0⟩ := Kd.at_int HR2.out x23_1 p462 q462
                  cases e462
                  (try replace hx462_0 := (HB.out.cell (World.block_lt_of_cell? w _ hx462_0)).trans hx462_0)
                  replace p462 := eq_true p462
                  replace q462 := eq_true q462
                  go_wp2
                  first | go_roundg k1 | (simp only [← hji13]; go_roundg k1) | (simp only [← hji11, ← hji13]; go_roundg k1) | (simp only [← hji9, ← hji11, ← hji13]; go_roundg k1)
                  case measure => have := HK1.out; omega
                  case rel => exact ⟨(wrap64 (x23_1 + 1)), (by first | rfl | (simp; done) | (simp [*]; done)), (by first | exact H' | (rw [hji11]; exact H') | (rw [hji13]; exact H') | (rw [hji24]; exact H') | (rw [hji26]; exact H') | (rw [hji9]; exact H')), ⟨by have := HK1.out; omega⟩, ⟨by repeat (first | (with_reducible first | exact HB.out | apply below_alloc | apply pw_below_drewN | apply below_drew1) | exact HB.out)⟩⟩
                · rw [if_neg c14] at H
                  have c14b0 : ((ji13) == (rd l2 x23_1)) = false := beq_eq_false_iff_ne.mpr c14
                  have c14b1 : ((ji13) != (rd l2 x23_1)) = true := bne_iff_ne.mpr c14
                  simp only [Option.some.injEq, Prod.mk.injEq] at H
                  obtain ⟨rfl, rfl⟩ := H
                  have p462 : 0 ≤ (x23_1 : Int) := of_decide_eq_true (by first | (with_reducible assumption) | assumption)
                  have q462 : x23_1 < (l2.length : Int) := of_decide_eq_true (by first | (with_reducible assumption) | assumption)
                  obtain ⟨ad462, e462, hx462_0⟩ := Kd.at_int HR2.out x23_1 p462 q462
                  cases e462
                  (try replace hx462_0 := (HB.out.cell (World.block_lt_of_cell? w _ hx462_0)).trans hx462_0)
                  replace p462 := eq_true p462
                  replace q462 := eq_true q462
                  go_wp2
                  go_ret2
                  exact ⟨_, by first | rfl | (simp [errW_none, errW_some] <;> rfl) | (simp only [← hji9, ← hji11, ← hji13]; first | rfl | (simp [errW_none, errW_some] <;> rfl)) | (simp [*, errW_none, errW_some] <;> rfl), by first | exact Kd.R_nil _ _ _ _ _ | exact Kd.N_nil _ _ _ _ _ | exact Kd.V_nil _ _ _ _ _ | exact Kd.Q_nil _ _ _ _ _ | exact Kd.S_nil _ _ _ _ _, by repeat (first | (with_reducible first | exact HB.out | apply below_alloc | apply pw_below_drewN | apply below_drew1) | exact HB.out)⟩
              · rw [if_neg c10] at H
                exact absurd H (by simp)
            · rw [if_neg c8] at H
              exact absurd H (by simp)
          · rw [if_neg c7] at H
            exact absurd H (by simp)
        · rw [if_neg c6] at H
          have c6b0 : decide (x23_1 < (l2.length : Int)) = false := decide_eq_false c6
          clear c6
          have HC15 := Aside0.mk H
          clear H
          go_upto_region 10 with (fail)
          go_cut [47] (fun v47 wc => ∃ (kq : Nat) (x47_14 : Bool), v47 = .bool x47_14 ∧ Aside0 (pack_Put.j1 kq l0 a1 l2 x47_14 = some (r1, r2)) ∧ Aside0 (kq ≤ k1) ∧ Aside0 (Below w.heap.size w wc))
          case first =>
            have H := HC15.out
            clear HC15
            by_cases c16 : (l2.length : Int) > 65536
            · rw [if_pos c16] at H
              have c16b0 : decide (65536 < (l2.length : Int)) = true := decide_eq_true c16
              have c16b1 : decide (65536 < l2.length) = true := decide_eq_true (by omega)
              clear c16
              (first | rw [c16b0] | (simp only [i64_w, i32_w]; rw [c16b0]) | skip)
              have H' := Aside0.mk H
              clear H
              go_wp2
              go_meet
              case rel => exact ⟨_, (true), (by first | rfl | (simp; done) | (simp [*]; done)), (by first | exact H' | (rw [hji11]; exact H') | (rw [hji13]; exact H') | (rw [hji24]; exact H') | (rw [hji26]; exact H') | (rw [hji9]; exact H')), ⟨by have := HK1.out; first | omega | exact Nat.le_refl _⟩, ⟨by repeat (first | (with_reducible first | exact HB.out | apply below_alloc | apply pw_below_drewN | apply below_drew1) | exact HB.out)⟩⟩
            · rw [if_neg c16] at H
              have c16b0 : decide (65536 < (l2.length : Int)) = false := decide_eq_false c16
              have c16b1 : decide (65536 < l2.length) = false := decide_eq_false (by omega)
              clear c16
              (first | rw [c16b0] | (simp only [i64_w, i32_w]; rw [c16b0]) | skip)
              have H' := Aside0.mk H
              clear H
              go_wp2
              go_meet
              case rel => exact ⟨_, (decide ((l0.length : Int) > (wrap64 (65536 - (wrap64 (a1 * (l2.length : Int))))))), (by first | rfl | (simp; done) | (simp [*]; done)), (by first | exact H' | (rw [hji11]; exact H') | (rw [hji13]; exact H') | (rw [hji24]; exact H') | (rw [hji26]; exact H') | (rw [hji9]; exact H')), ⟨by have := HK1.out; first | omega | exact Nat.le_refl _⟩, ⟨by repeat (first | (with_reducible first | exact HB.out | apply below_alloc | apply pw_below_drewN | apply below_drew1) | exact HB.out)⟩⟩
          case rest =>
            clear HC15
            try clear c1
            try clear c2
            try clear p2
            try clear p4
            try clear q4
            try clear hx4
            try clear c5
            try clear c6
            try clear c6b0
            try clear p6
            try clear c7
            try clear c7b0
            try clear c8
            try clear c8b0
            try clear c10
            try clear c10b0
            try clear c10b1
            try clear c12
            try clear c12b0
            try clear c14
            try clear c14b0
            try clear c14b1
            try clear c16
            try clear c16b0
            try clear c16b1
            try clear hx462_0
            try clear p2
            try clear p462
            try clear q462
            obtain ⟨kq, x47_14, rfl, HA, HJ14, HB⟩ := hcut
            cases kq with
            | zero => exact absurd HA.out (by simp [pack_Put.j1])
            | succ kj14 =>
              have H := HA.out
              clear HA
              simp only [pack_Put.j1] at H
              by_cases c17 : x47_14 = true
              · subst c17
                have H1 : (some (([] : List Int), 3)) = some (r1, r2) := by first | (rw [if_pos rfl] at H; exact H) | (rw [if_pos trivial] at H; exact H)
                clear H
                have H := H1
                clear H1
                simp only [Option.some.injEq, Prod.mk.injEq] at H
                obtain ⟨rfl, rfl⟩ := H
                go_wp2
                go_ret2
                exact ⟨_, by first | rfl | (simp [errW_none, errW_some] <;> rfl) | (simp [*, errW_none, errW_some] <;> rfl), by first | exact Kd.R_nil _ _ _ _ _ | exact Kd.N_nil _ _ _ _ _ | exact Kd.V_nil _ _ _ _ _ | exact Kd.Q_nil _ _ _ _ _ | exact Kd.S_nil _ _ _ _ _, by repeat (first | (with_reducible first | exact HB.out | apply below_alloc | apply pw_below_drewN | apply below_drew1) | exact HB.out)⟩
              · replace c17 := Bool.eq_false_iff.mpr c17
                subst c17
                have H1 : ((bytes_Clone.f l0).bind fun t463 => (pack_Put.l1 kj14 a1 t463 l2 (l2.length : Int) 0)) = some (r1, r2) := by rw [if_neg (show ¬ (false = true) by decide)] at H; exact H
                clear H
                have H := H1
                clear H1
                replace H := Option.bind_eq_some_iff.mp H
                obtain ⟨t463, A180, H⟩ := H
                replace H : (pack_Put.l1 kj14 a1 t463 l2 (l2.length : Int) 0) = some (r1, r2) := H
                have A18 := Aside0.mk A180
                clear A180
                have H' := Aside0.mk H
                clear H
                go_wp2_with (first | ((with_reducible refine gate_callee (f := 149) rfl ?_); refine goesL_ (some 49) rfl rfl Try.func149 (by kernel_rfl) rfl #[.slice A0 l0.length c0] rfl (by (try simp only [List.map_toArray, List.map_cons, List.map_nil]); first | done | rfl | (simp only [List.length_drop, List.length_take]; rfl)) ?_; (with_reducible refine (bytes_Clone.calls _ _ l0 t463 _ ?side1 ?side2 A18.out).mono ?_); (case side1 => repeat (first | exact (Kd.C_below HR0.out HB.out) | (with_reducible refine Kd.C_alloc ?_ _) | (with_reducible refine Kd.C_drewN ?_ _) | (with_reducible refine Kd.C_drew ?_))); (case side2 => exact HC0.out); rintro e w19 ⟨v464, rfl, ho0, hb⟩; refine ⟨_, rfl, ?_⟩; have n0_ := Aside0.mk (Kd.R_lower ho0 (below_size (by repeat (first | (with_reducible first | exact HB.out | apply below_alloc | apply pw_below_drewN | apply below_drew1) | exact HB.out)))); have n1_ := Aside0.mk (below_step (by repeat (first | (with_reducible first | exact HB.out | apply below_alloc | apply pw_below_drewN | apply below_drew1) | exact HB.out)) hb); clear HB; have HO465 := n0_; have HB := n1_; clear n0_ n1_; (try clear hb); (try clear hb2); (try clear hk); (try clear hi); (try clear ho0)))
                go_loopg [11, 52] kj14 (fun kq v11 v52 w' => ∃ (x11_3 : List Int) (x52_3 : Int), v52 = .int .i64 x52_3 ∧ Aside0 (pack_Put.l1 kq a1 x11_3 l2 (l2.length : Int) x52_3 = some (r1, r2)) ∧ Aside0 (kq ≤ kj14) ∧ Aside0 (Kd.R (Kd.int .u8) 5 w' w.heap.size (fun _ => True) v11 x11_3) ∧ Aside0 (Below w.heap.size w w'))
                case atStart => exact ⟨(t463), (0), (by first | rfl | (simp; done) | (simp [*]; done)), H', ⟨Nat.le_refl _⟩, ⟨by (with_reducible repeat (first | apply Kd.R_alloc | apply Kd.R_drewN | apply Kd.R_drew)); exact HO465.out⟩, ⟨by repeat (first | (with_reducible first | exact HB.out | apply below_alloc | apply pw_below_drewN | apply below_drew1) | exact HB.out)⟩⟩
                case round =>
                  clear H'
                  try clear c1
                  try clear c2
                  try clear p2
                  try clear p4
                  try clear q4
                  try clear hx4
                  try clear c5
                  try clear c6
                  try clear c6b0
                  try clear p6
                  try clear c7
                  try clear c7b0
                  try clear c8
                  try clear c8b0
                  try clear c10
                  try clear c10b0
                  try clear c10b1
                  try clear c12
                  try clear c12b0
                  try clear c14
                  try clear c14b0
                  try clear c14b1
                  try clear c16
                  try clear c16b0
                  try clear c16b1
                  try clear c17
                  try clear hx462_0
                  try clear p2
                  try clear p4
                  try clear p462
                  try clear p6
                  try clear q4
                  try clear q462
                  obtain ⟨x11_3, x52_3, rfl, HA, HK3, HO_11, HB⟩ := hrel
                  cases gk with
                  | zero => exact absurd HA.out (by simp [pack_Put.l1])
                  | succ k3 =>
                    have H := HA.out
                    clear HA
                    simp only [pack_Put.l1] at H
                    by_cases c20 : x52_3 < (l2.length : Int)
                    · rw [if_pos c20] at H
                      have c20b0 : decide (x52_3 < (l2.length : Int)) = true := decide_eq_true c20
                      clear c20
                      by_cases c21 : 0 ≤ x52_3
                      · rw [if_pos c21] at H
                        have c21b0 : decide (0 ≤ x52_3) = true := decide_eq_true c21
                        clear c21
                        by_cases c22 : x52_3 < (l2.length : Int)
                        · rw [if_pos c22] at H
                          have c22b0 : decide (x52_3 < (l2.length : Int)) = true := decide_eq_true c22
                          clear c22
                          have H' := Aside0.mk H
                          clear H
                          have p466 : 0 ≤ (x52_3 : Int) := of_decide_eq_true (by first | (with_reducible assumption) | assumption)
                          have q466 : x52_3 < (l2.length : Int) := of_decide_eq_true (by first | (with_reducible assumption) | assumption)
                          obtain ⟨ad466, e466, hx466_0⟩ := Kd.at_int HR2.out x52_3 p466 q466
                          cases e466
                          (try replace hx466_0 := (HB.out.cell (World.block_lt_of_cell? w _ hx466_0)).trans hx466_0)
                          replace p466 := eq_true p466
                          replace q466 := eq_true q466
                          go_wp2
                          go_loopg [11, 57] k3 (fun kq v11 v57 w' => ∃ (x11_4 : List Int) (x57_4 : Int), v57 = .int .i64 x57_4 ∧ Aside0 (pack_Put.l2 kq a1 x11_4 (rd l2 x52_3) l2 (l2.length : Int) x52_3 a1 x57_4 = some (r1, r2)) ∧ Aside0 (kq ≤ k3) ∧ Aside0 (Kd.R (Kd.int .u8) 5 w' w.heap.size (fun _ => True) v11 x11_4) ∧ Aside0 (Below w.heap.size w w'))
                          case atStart => exact ⟨(x11_3), (0), (by first | rfl | (simp; done) | (simp [*]; done)), H', ⟨Nat.le_refl _⟩, ⟨by (with_reducible repeat (first | apply Kd.R_alloc | apply Kd.R_drewN | apply Kd.R_drew)); exact HO_11.out⟩, ⟨by repeat (first | (with_reducible first | exact HB.out | apply below_alloc | apply pw_below_drewN | apply below_drew1) | exact HB.out)⟩⟩
                          case round =>
                            clear H'
                            try clear c1
                            try clear c2
                            try clear p2
                            try clear p4
                            try clear q4
                            try clear hx4
                            try clear c5
                            try clear c6
                            try clear c6b0
                            try clear p6
                            try clear c7
                            try clear c7b0
                            try clear c8
                            try clear c8b0
                            try clear c10
                            try clear c10b0
                            try clear c10b1
                            try clear c12
                            try clear c12b0
                            try clear c14
                            try clear c14b0
                            try clear c14b1
                            try clear c16
                            try clear c16b0
                            try clear c16b1
                            try clear c17
                            try clear c20
                            try clear c20b0
                            try clear c21
                            try clear c21b0
                            try clear c22
                            try clear c22b0
                            try clear hx462_0
                            try clear hx466_0
                            try clear p2
                            try clear p4
                            try clear p462
                            try clear p466
                            try clear p6
                            try clear q4
                            try clear q462
                            try clear q466
                            obtain ⟨x11_4, x57_4, rfl, HA, HK4, HO_11, HB⟩ := hrel
                            cases gk with
                            | zero => exact absurd HA.out (by simp [pack_Put.l2])
                            | succ k4 =>
                              have H := HA.out
                              clear HA
                              simp only [pack_Put.l2] at H
                              by_cases c23 : x57_4 < a1
                              · rw [if_pos c23] at H
                                have c23b0 : decide (x57_4 < a1) = true := decide_eq_true c23
                                clear c23
                                obtain ⟨ji24, hji24⟩ : ∃ j_ : Int, (wrap64 (8 * x57_4)) = j_ := ⟨_, rfl⟩
                                replace H : (if 0 ≤ (ji24) then (if x11_4.length < 140737488355328 then (pack_Put.l2 k4 a1 (x11_4 ++ [(shr .i64 (rd l2 x52_3) (ji24)) % 256]) (rd l2 x52_3) l2 (l2.length : Int) x52_3 a1 (wrap64 (x57_4 + 1))) else (none)) else (none)) = some (r1, r2) := by first | (rw [hji24] at H; exact H) | (simp only [hji24] at H ⊢; exact H)
                                have hji24w : (IntKind.i64.wrap (8 * x57_4)) = ji24 := (i64_w _).trans hji24
                                by_cases c25 : 0 ≤ (ji24)
                                · rw [if_pos c25] at H
                                  have c25b0 := eq_true c25
                                  have c25b1 : decide (0 ≤ (ji24)) = true := decide_eq_true c25
                                  clear c25
                                  obtain ⟨ji26, hji26⟩ : ∃ j_ : Int, (shr .i64 (rd l2 x52_3) (ji24)) = j_ := ⟨_, rfl⟩
                                  replace H : (if x11_4.length < 140737488355328 then (pack_Put.l2 k4 a1 (x11_4 ++ [(ji26) % 256]) (rd l2 x52_3) l2 (l2.length : Int) x52_3 a1 (wrap64 (x57_4 + 1))) else (none)) = some (r1, r2) := by first | (rw [hji26] at H; exact H) | (simp only [hji26] at H ⊢; exact H)
                                  have hji26_ : ((rd l2 x52_3) / 2 ^ min (ji24).toNat 64) = ji26 := hji26
                                  have hji26z : (ji24) ≤ 64 → ((rd l2 x52_3) / 2 ^ (ji24).toNat) = ji26 := shr_small hji26
                                  by_cases c27 : x11_4.length < 140737488355328
                                  · rw [if_pos c27] at H
                                    have LMc27 := Aside0.mk c27
                                    clear c27
                                    obtain ⟨y467, hy467⟩ : ∃ y_ : List Int, y_ = (x11_4 ++ [(ji26) % 256]) := ⟨_, rfl⟩
                                    replace H : (pack_Put.l2 k4 a1 y467 (rd l2 x52_3) l2 (l2.length : Int) x52_3 a1 (wrap64 (x57_4 + 1))) = some (r1, r2) := by first | (rw [hy467]; with_reducible exact H) | (have H2_ := (Option.bind_some _ _).symm.trans H; rw [hy467]; with_reducible exact H2_) | (have H2_ := (Option.bind_some _ _).symm.trans H; with_reducible exact H2_) | with_reducible exact H | (rw [hy467]; exact H) | exact H
                                    have Ny467 := Aside0.mk hy467
                                    clear hy467
                                    have H' := Aside0.mk H
                                    clear H
                                    go_wp2_with (first | ((with_reducible refine gate_builtin (b := .append) (xs := #[.tmp 60, .tmp 66]) rfl ?_); (try (refine gate_guard (by rfl) ?_; dsimp only)); at_builtin; refine Kd.R_append (Kd.int .u8) (w0 := w) w.heap.size rfl (.tmp 60) (.tmp 66) 50 5 (.int .u8 0) 1 rfl Try.underlying50 info5 rfl (by decide) (by omega) u11 x11_4 ((ji26) % 256) [.int .u8 ((ji26) % 256)] (fun _ => True) (fun _ => False) rfl rfl ?aP (fun _ hk => hk.elim) ?aF ?aO ?aB ?aS ?aL ?_; (case aP => exact rfl); (case aB => exact (by repeat (first | (with_reducible first | exact HB.out | apply below_alloc | apply pw_below_drewN | apply below_drew1) | exact HB.out))); (case aF => exact (fun _ _ => trivial)); (case aO => exact (by (with_reducible repeat (first | apply Kd.R_alloc | apply Kd.R_drewN | apply Kd.R_drew)); exact HO_11.out)); (case aS => exact (below_size (by repeat (first | (with_reducible first | exact HB.out | apply below_alloc | apply pw_below_drewN | apply below_drew1) | exact HB.out)))); (case aL => have := LMc27.out; omega); intro v468 w28 ho hb hg hat; rw [← Ny467.out] at ho; have n0_ := Aside0.mk (hb); have n1_ := Aside0.mk (ho); clear HB; clear HO_11; have HB := n0_; have HO469 := n1_; clear n0_ n1_; clear ho hb hg hat))
                                    first | go_roundg k4 | (simp only [← hji26]; go_roundg k4) | (simp only [← hji24, ← hji26]; go_roundg k4)
                                    case measure => have := HK1.out; have := HJ14.out; have := HK3.out; have := HK4.out; omega
                                    case rel => exact ⟨(y467), (wrap64 (x57_4 + 1)), (by first | rfl | (simp; done) | (simp [*]; done)), (by first | exact H' | (rw [hji11]; exact H') | (rw [hji13]; exact H') | (rw [hji24]; exact H') | (rw [hji26]; exact H') | (rw [hji9]; exact H')), ⟨by have := HK1.out; have := HJ14.out; have := HK3.out; have := HK4.out; omega⟩, ⟨by (with_reducible repeat (first | apply Kd.R_alloc | apply Kd.R_drewN | apply Kd.R_drew)); exact HO469.out⟩, ⟨by repeat (first | (with_reducible first | exact HB.out | apply below_alloc | apply pw_below_drewN | apply below_drew1) | exact HB.out)⟩⟩
                                  · rw [if_neg c27] at H
                                    exact absurd H (by simp)
                                · rw [if_neg c25] at H
                                  exact absurd H (by simp)
                              · rw [if_neg c23] at H
                                have c23b0 : decide (x57_4 < a1) = false := decide_eq_false c23
                                clear c23
                                have H' := Aside0.mk H
                                clear H
                                go_wp2
                                go_roundg k4
                                case measure => have := HK1.out; have := HJ14.out; have := HK3.out; have := HK4.out; omega
                                case rel => exact ⟨(x11_4), (wrap64 (x52_3 + 1)), (by first | rfl | (simp; done) | (simp [*]; done)), (by first | exact H' | (rw [hji11]; exact H') | (rw [hji13]; exact H') | (rw [hji24]; exact H') | (rw [hji26]; exact H') | (rw [hji9]; exact H')), ⟨by have := HK1.out; have := HJ14.out; have := HK3.out; have := HK4.out; omega⟩, ⟨by (with_reducible repeat (first | apply Kd.R_alloc | apply Kd.R_drewN | apply Kd.R_drew)); exact HO_11.out⟩, ⟨by repeat (first | (with_reducible first | exact HB.out | apply below_alloc | apply pw_below_drewN | apply below_drew1) | exact HB.out)⟩⟩
                        · rw [if_neg c22] at H
                          exact absurd H (by simp)
                      · rw [if_neg c21] at H
                        exact absurd H (by simp)
                    · rw [if_neg c20] at H
                      have c20b0 : decide (x52_3 < (l2.length : Int)) = false := decide_eq_false c20
                      clear c20
                      simp only [Option.some.injEq, Prod.mk.injEq] at H
                      obtain ⟨rfl, rfl⟩ := H
                      go_wp2
                      go_ret2
                      exact ⟨_, by first | rfl | (simp [errW_none, errW_some] <;> rfl) | (simp [*, errW_none, errW_some] <;> rfl), by (with_reducible repeat (first | apply Kd.R_alloc | apply Kd.R_drewN | apply Kd.R_drew)); exact HO_11.out, by repeat (first | (with_reducible first | exact HB.out | apply below_alloc | apply pw_below_drewN | apply below_drew1) | exact HB.out)⟩
  · replace c5 := Bool.eq_false_iff.mpr c5
    subst c5
    have H1 : (some (([] : List Int), 1)) = some (r1, r2) := by rw [if_neg (show ¬ (false = true) by decide)] at H; exact H
    clear H
    have H := H1
    clear H1
    simp only [Option.some.injEq, Prod.mk.injEq] at H
    obtain ⟨rfl, rfl⟩ := H
    go_enter Try.func102, Try.ntmps102
    go_wp2_with (first | ((with_reducible refine gate_callee (f := 148) rfl ?_); refine goesL_ (some 16) rfl rfl Try.func148 (by kernel_rfl) rfl #[.int .i64 a1] rfl (by (try simp only [List.map_toArray, List.map_cons, List.map_nil]); first | done | rfl | (simp only [List.length_drop, List.length_take]; rfl)) ?_; (with_reducible refine (pack_wide.calls a1 false _ A4.out).mono ?_); rintro e w' ⟨rfl, ⟨nd, rfl⟩⟩; refine ⟨_, rfl, ?_⟩))
    go_ret2
    exact ⟨_, by first | rfl | (simp [errW_none, errW_some] <;> rfl) | (simp [*, errW_none, errW_some] <;> rfl), by first | exact Kd.R_nil _ _ _ _ _ | exact Kd.N_nil _ _ _ _ _ | exact Kd.V_nil _ _ _ _ _ | exact Kd.Q_nil _ _ _ _ _ | exact Kd.S_nil _ _ _ _ _, by repeat (first | (with_reducible first | exact HB.out | apply below_alloc | apply pw_below_drewN | apply below_drew1) | exact HB.out)⟩

end Go.Proofs.Ytkjibgfgbfacdaa.P
end
/-! part: F105 -/
section
set_option linter.unusedVariables false
set_option linter.unusedSimpArgs false
namespace Go.Proofs.Ytkjibgfgbfacdaa.P
open Go.RowKit Go.Proofs.YtkjibgfgbfacdaaW.PrintWords Go.Proofs.YtkjibgfgbfacdaaW.PrintLast Go.Proofs.YtkjibgfgbfacdaaW.PrintMore
attribute [local go_sem] max2_int min2_int max_two min_two max_three min_three max_four min_four   -- for this text's walks alone
set_option linter.unusedVariables false
set_option linter.unusedSimpArgs false

/-! ### pack_Take: function 105 -/
mutual
def pack_Take.j0 : Nat → List Int → Int → Int → List Int → Bool → Option (List Int × List Int × Int)
  | 0, _, _, _, _, _ => none
  | k + 1, x0, x1, x2, x6, x13 => if x13 = true then (some (([] : List Int), ([] : List Int), 1)) else (if (x0.length : Int) < (wrap64 (x2 * x1)) then (some (([] : List Int), ([] : List Int), 2)) else (pack_Take.l0 k x0 x1 x6 (wrap64 (64 - (wrap64 (8 * x1)))) x2 0))
def pack_Take.l0 : Nat → List Int → Int → List Int → Int → Int → Int → Option (List Int × List Int × Int)
  | 0, _, _, _, _, _, _ => none
  | k + 1, x0, x1, x6, x9, x35, x36 => if x36 < x35 then (if 0 ≤ x1 then (if x1 ≤ (x0.length : Int) then ((some (x0.take (x1 : Int).toNat : List Int)).bind fun y540 => (pack_Take.l1 k x0 x1 x6 x9 0 x35 x36 y540 (y540.length : Int) 0)) else (none)) else (none)) else ((bytes_Clone.f x0).bind fun t537 => (some (x6, t537, 0)))
def pack_Take.l1 : Nat → List Int → Int → List Int → Int → Int → Int → Int → List Int → Int → Int → Option (List Int × List Int × Int)
  | 0, _, _, _, _, _, _, _, _, _, _ => none
  | k + 1, x0, x1, x6, x9, x10, x35, x36, x40, x41, x42 => if x42 < x41 then (if 0 ≤ x42 then (if x42 < (x40.length : Int) then (if 0 ≤ (wrap64 (x9 + (wrap64 (8 * x42)))) then (pack_Take.l1 k x0 x1 x6 x9 (Go.bits .or .i64 x10 (shl .i64 (wrap64 (rd x40 x42)) (wrap64 (x9 + (wrap64 (8 * x42)))))) x35 x36 x40 x41 (wrap64 (x42 + 1))) else (none)) else (none)) else (none)) else (if 0 ≤ x9 then (if x6.length < 17592186044416 then (if 0 ≤ x1 then (if x1 ≤ (x0.length : Int) then (pack_Take.l0 k (x0.drop (x1 : Int).toNat) x1 (x6 ++ [shr .i64 x10 x9]) x9 x35 (wrap64 (x36 + 1))) else (none)) else (none)) else (none)) else (none))
end
def pack_Take.f (k : Nat) (l0 : List Int) (a1 : Int) (a2 : Int) : Option (List Int × List Int × Int) := (pack_wide.f a1).bind fun t536 => (if t536 = true then (if a2 < 0 then (pack_Take.j0 k l0 a1 a2 ([] : List Int) true) else (pack_Take.j0 k l0 a1 a2 ([] : List Int) (decide (a2 > 65536)))) else (pack_Take.j0 k l0 a1 a2 ([] : List Int) true))
theorem pack_Take.mono_l : ∀ k, (∀ y0 y1 y2 y3 y4, LeO (pack_Take.j0 k y0 y1 y2 y3 y4) (pack_Take.j0 (k + 1) y0 y1 y2 y3 y4)) ∧ (∀ y0 y1 y2 y3 y4 y5, LeO (pack_Take.l0 k y0 y1 y2 y3 y4 y5) (pack_Take.l0 (k + 1) y0 y1 y2 y3 y4 y5)) ∧ (∀ y0 y1 y2 y3 y4 y5 y6 y7 y8 y9, LeO (pack_Take.l1 k y0 y1 y2 y3 y4 y5 y6 y7 y8 y9) (pack_Take.l1 (k + 1) y0 y1 y2 y3 y4 y5 y6 y7 y8 y9))
  | 0 => ⟨fun _ _ _ _ _ r h => by simp [pack_Take.j0] at h, fun _ _ _ _ _ _ r h => by simp [pack_Take.l0] at h, fun _ _ _ _ _ _ _ _ _ _ r h => by simp [pack_Take.l1] at h⟩
  | k + 1 => by
    obtain ⟨ih0, ih1, ih2⟩ := pack_Take.mono_l k
    refine ⟨?_, ?_, ?_⟩
    · intro y0 y1 y2 y3 y4
      unfold pack_Take.j0
      repeat' first
      | (with_reducible exact ih0 _ _ _ _ _)
      | (with_reducible exact ih1 _ _ _ _ _ _)
      | (with_reducible exact ih2 _ _ _ _ _ _ _ _ _ _)
      | (with_reducible exact LeO.refl _)
      | (with_reducible exact LeO.none _)
      | (with_reducible refine LeO.ite ?_ ?_)
      | (with_reducible refine LeO.bind ?_ (fun _ => ?_))
      | exact ih0 _ _ _ _ _
      | exact ih1 _ _ _ _ _ _
      | exact ih2 _ _ _ _ _ _ _ _ _ _
      | exact LeO.none _
      | refine LeO.ite ?_ ?_
      | refine LeO.bind ?_ (fun _ => ?_)
    · intro y0 y1 y2 y3 y4 y5
      unfold pack_Take.l0
      repeat' first
      | (with_reducible exact ih0 _ _ _ _ _)
      | (with_reducible exact ih1 _ _ _ _ _ _)
      | (with_reducible exact ih2 _ _ _ _ _ _ _ _ _ _)
      | (with_reducible exact LeO.refl _)
      | (with_reducible exact LeO.none _)
      | (with_reducible refine LeO.ite ?_ ?_)
      | (with_reducible refine LeO.bind ?_ (fun _ => ?_))
      | exact ih0 _ _ _ _ _
      | exact ih1 _ _ _ _ _ _
      | exact ih2 _ _ _ _ _ _ _ _ _ _
      | exact LeO.none _
      | refine LeO.ite ?_ ?_
      | refine LeO.bind ?_ (fun _ => ?_)
    · intro y0 y1 y2 y3 y4 y5 y6 y7 y8 y9
      unfold pack_Take.l1
      repeat' first
      | (with_reducible exact ih0 _ _ _ _ _)
      | (with_reducible exact ih1 _ _ _ _ _ _)
      | (with_reducible exact ih2 _ _ _ _ _ _ _ _ _ _)
      | (with_reducible exact LeO.refl _)
      | (with_reducible exact LeO.none _)
      | (with_reducible refine LeO.ite ?_ ?_)
      | (with_reducible refine LeO.bind ?_ (fun _ => ?_))
      | exact ih0 _ _ _ _ _
      | exact ih1 _ _ _ _ _ _
      | exact ih2 _ _ _ _ _ _ _ _ _ _
      | exact LeO.none _
      | refine LeO.ite ?_ ?_
      | refine LeO.bind ?_ (fun _ => ?_)
theorem pack_Take.mono : ∀ a0 a1 a2 k, LeO (pack_Take.f k a0 a1 a2) (pack_Take.f (k + 1) a0 a1 a2) := by
  intro a0 a1 a2 k
  obtain ⟨ih0, ih1, ih2⟩ := pack_Take.mono_l k
  unfold pack_Take.f
  repeat' first
      | (with_reducible exact ih0 _ _ _ _ _)
      | (with_reducible exact ih1 _ _ _ _ _ _)
      | (with_reducible exact ih2 _ _ _ _ _ _ _ _ _ _)
      | (with_reducible exact LeO.refl _)
      | (with_reducible exact LeO.none _)
      | (with_reducible refine LeO.ite ?_ ?_)
      | (with_reducible refine LeO.bind ?_ (fun _ => ?_))
      | exact ih0 _ _ _ _ _
      | exact ih1 _ _ _ _ _ _
      | exact ih2 _ _ _ _ _ _ _ _ _ _
      | exact LeO.none _
      | refine LeO.ite ?_ ?_
      | refine LeO.bind ?_ (fun _ => ?_)
def pack_Take.T14 : Bool × List (List Nat × List Nat) := (true, [([], []), ([], []), ([], []), ([1, 2], [1, 2]), ([3], [3]), ([0, 4], [0, 4]), ([], []), ([], []), ([6, 7], [6, 7]), ([5, 5, 0, 1, 2, 3, 4, 5], [0, 5]), ([8, 9, 0, 1, 2, 3, 4, 5, 6, 7, 8, 9], [6, 8])])
def pack_Take.B14 : List Nat := [0, 0, 0, 6, 14, 31, 0, 0, 192, 63, 1023]
theorem pack_Take.tab14 : rtab .any (opsOf Try.f105 14) = pack_Take.T14 := by kernel_rfl
theorem pack_Take.bits14 : waitsOk pack_Take.T14.2 pack_Take.B14 = true := by kernel_rfl
set_option maxHeartbeats 8000000 in
set_option maxRecDepth 100000 in
theorem pack_Take.calls (k : Nat) (P0_ : Nat → Prop) (A0 : Option Addr) (c0 : Nat) (l0 : List Int) (a1 : Int) (a2 : Int) (r1 : List Int) (r2 : List Int) (r3 : Int) (w : World) (hs0 : Kd.V (Kd.int .u8) 5 w w.heap.size (fun k_ => P0_ k_) (.slice A0 l0.length c0) l0) (h : pack_Take.f k l0 a1 a2 = some (r1, r2, r3)) :
    Calls Try.prog 105 #[.slice A0 l0.length c0, .int .i64 a1, .int .i64 a2] w fun e w' => ∃ v0_ v1_ : Value, e = .returned (.tuple #[v0_, v1_, .int .i64 r3]) ∧ Kd.R (Kd.int .i64) 2 w' w.heap.size (fun k_ => (w.heap.size ≤ k_)) v0_ r1 ∧ Kd.R (Kd.int .u8) 5 w' w.heap.size (fun k_ => (w.heap.size ≤ k_)) v1_ r2 ∧ Below w.heap.size w w' := by
  have HO0 := Aside0.mk (show Kd.V (Kd.int .u8) 5 w w.heap.size (fun k_ => (P0_ k_ ∨ w.heap.size ≤ k_)) (.slice A0 l0.length c0) l0 from Kd.V_mono hs0 (fun k_ hk => .inl hk))
  have HB := Aside0.mk (Below.refl w.heap.size w)
  have H : ((pack_wide.f a1).bind fun t536 => (if t536 = true then (if a2 < 0 then (pack_Take.j0 k l0 a1 a2 ([] : List Int) true) else (pack_Take.j0 k l0 a1 a2 ([] : List Int) (decide (a2 > 65536)))) else (pack_Take.j0 k l0 a1 a2 ([] : List Int) true))) = some (r1, r2, r3) := h
  clear h
  have HC4 := Aside0.mk H
  clear H
  go_enter Try.func105, Try.ntmps105
  go_upto_region 1 with (fail)
  go_cut [13] (fun v13 wc => ∃ (kq : Nat) (x13_3 : Bool), v13 = .bool x13_3 ∧ Aside0 (pack_Take.j0 kq l0 a1 a2 ([] : List Int) x13_3 = some (r1, r2, r3)) ∧ Aside0 (kq ≤ k) ∧ Aside0 (Kd.V (Kd.int .u8) 5 wc w.heap.size (fun k_ => (P0_ k_ ∨ w.heap.size ≤ k_) ∧ some k_ ≠ ((.slice none 0 0) : Value).ownBlock) (.slice A0 l0.length c0) l0) ∧ Aside0 (Kd.R (Kd.int .i64) 2 wc w.heap.size (fun k_ => (w.heap.size ≤ k_)) (.slice none 0 0) ([] : List Int)) ∧ Aside0 (Below w.heap.size w wc))
  case first =>
    have H := HC4.out
    clear HC4
    replace H := Option.bind_eq_some_iff.mp H
    obtain ⟨t536, A50, H⟩ := H
    replace H : (if t536 = true then (if a2 < 0 then (pack_Take.j0 k l0 a1 a2 ([] : List Int) true) else (pack_Take.j0 k l0 a1 a2 ([] : List Int) (decide (a2 > 65536)))) else (pack_Take.j0 k l0 a1 a2 ([] : List Int) true)) = some (r1, r2, r3) := H
    have A5 := Aside0.mk A50
    clear A50
    by_cases c6 : t536 = true
    · subst c6
      have H1 : (if a2 < 0 then (pack_Take.j0 k l0 a1 a2 ([] : List Int) true) else (pack_Take.j0 k l0 a1 a2 ([] : List Int) (decide (a2 > 65536)))) = some (r1, r2, r3) := by first | (rw [if_pos rfl] at H; exact H) | (rw [if_pos trivial] at H; exact H)
      clear H
      have H := H1
      clear H1
      by_cases c7 : a2 < 0
      · rw [if_pos c7] at H
        have c7b0 : decide (a2 < 0) = true := decide_eq_true c7
        clear c7
        (first | rw [c7b0] | (simp only [i64_w, i32_w]; rw [c7b0]) | skip)
        have H' := Aside0.mk H
        clear H
        go_wp2_with (first | ((with_reducible refine gate_callee (f := 148) rfl ?_); refine goesL_ (some 15) rfl rfl Try.func148 (by kernel_rfl) rfl #[.int .i64 a1] rfl (by (try simp only [List.map_toArray, List.map_cons, List.map_nil]); first | done | rfl | (simp only [List.length_drop, List.length_take]; rfl)) ?_; (with_reducible refine (pack_wide.calls a1 true _ A5.out).mono ?_); rintro e w' ⟨rfl, ⟨nd, rfl⟩⟩; refine ⟨_, rfl, ?_⟩))
        go_meet
        case rel => exact ⟨_, (true), (by first | rfl | (simp; done) | (simp [*]; done)), (by first | exact H' | (rw [hji18]; exact H') | (rw [hji20]; exact H') | (rw [hji21]; exact H') | (rw [hji23]; exact H')), ⟨by first | omega | exact Nat.le_refl _⟩, ⟨by (with_reducible repeat (first | apply Kd.V_alloc | apply Kd.V_drewN | apply Kd.V_drew)); exact Kd.V_mono HO0.out (fun _ hk => ⟨hk, (by simp [Value.ownBlock])⟩)⟩, ⟨by first | exact Kd.R_nil _ _ _ _ _ | exact Kd.N_nil _ _ _ _ _ | exact Kd.V_nil _ _ _ _ _ | exact Kd.Q_nil _ _ _ _ _ | exact Kd.S_nil _ _ _ _ _⟩, ⟨by repeat (first | (with_reducible first | exact HB.out | apply below_alloc | apply pw_below_drewN | apply below_drew1) | exact HB.out)⟩⟩
      · rw [if_neg c7] at H
        have c7b0 : decide (a2 < 0) = false := decide_eq_false c7
        clear c7
        (first | rw [c7b0] | (simp only [i64_w, i32_w]; rw [c7b0]) | skip)
        have H' := Aside0.mk H
        clear H
        go_wp2_with (first | ((with_reducible refine gate_callee (f := 148) rfl ?_); refine goesL_ (some 15) rfl rfl Try.func148 (by kernel_rfl) rfl #[.int .i64 a1] rfl (by (try simp only [List.map_toArray, List.map_cons, List.map_nil]); first | done | rfl | (simp only [List.length_drop, List.length_take]; rfl)) ?_; (with_reducible refine (pack_wide.calls a1 true _ A5.out).mono ?_); rintro e w' ⟨rfl, ⟨nd, rfl⟩⟩; refine ⟨_, rfl, ?_⟩))
        go_meet
        case rel => exact ⟨_, (decide (a2 > 65536)), (by first | rfl | (simp; done) | (simp [*]; done)), (by first | exact H' | (rw [hji18]; exact H') | (rw [hji20]; exact H') | (rw [hji21]; exact H') | (rw [hji23]; exact H')), ⟨by first | omega | exact Nat.le_refl _⟩, ⟨by (with_reducible repeat (first | apply Kd.V_alloc | apply Kd.V_drewN | apply Kd.V_drew)); exact Kd.V_mono HO0.out (fun _ hk => ⟨hk, (by simp [Value.ownBlock])⟩)⟩, ⟨by first | exact Kd.R_nil _ _ _ _ _ | exact Kd.N_nil _ _ _ _ _ | exact Kd.V_nil _ _ _ _ _ | exact Kd.Q_nil _ _ _ _ _ | exact Kd.S_nil _ _ _ _ _⟩, ⟨by repeat (first | (with_reducible first | exact HB.out | apply below_alloc | apply pw_below_drewN | apply below_drew1) | exact HB.out)⟩⟩
    · replace c6 := Bool.eq_false_iff.mpr c6
      subst c6
      have H1 : (pack_Take.j0 k l0 a1 a2 ([] : List Int) true) = some (r1, r2, r3) := by rw [if_neg (show ¬ (false = true) by decide)] at H; exact H
      clear H
      have H := H1
      clear H1
      have H' := Aside0.mk H
      clear H
      go_wp2_with (first | ((with_reducible refine gate_callee (f := 148) rfl ?_); refine goesL_ (some 15) rfl rfl Try.func148 (by kernel_rfl) rfl #[.int .i64 a1] rfl (by (try simp only [List.map_toArray, List.map_cons, List.map_nil]); first | done | rfl | (simp only [List.length_drop, List.length_take]; rfl)) ?_; (with_reducible refine (pack_wide.calls a1 false _ A5.out).mono ?_); rintro e w' ⟨rfl, ⟨nd, rfl⟩⟩; refine ⟨_, rfl, ?_⟩))
      go_meet
      case rel => exact ⟨_, (true), (by first | rfl | (simp; done) | (simp [*]; done)), (by first | exact H' | (rw [hji18]; exact H') | (rw [hji20]; exact H') | (rw [hji21]; exact H') | (rw [hji23]; exact H')), ⟨by first | omega | exact Nat.le_refl _⟩, ⟨by (with_reducible repeat (first | apply Kd.V_alloc | apply Kd.V_drewN | apply Kd.V_drew)); exact Kd.V_mono HO0.out (fun _ hk => ⟨hk, (by simp [Value.ownBlock])⟩)⟩, ⟨by first | exact Kd.R_nil _ _ _ _ _ | exact Kd.N_nil _ _ _ _ _ | exact Kd.V_nil _ _ _ _ _ | exact Kd.Q_nil _ _ _ _ _ | exact Kd.S_nil _ _ _ _ _⟩, ⟨by repeat (first | (with_reducible first | exact HB.out | apply below_alloc | apply pw_below_drewN | apply below_drew1) | exact HB.out)⟩⟩
  case rest =>
    clear HC4
    try clear c1
    try clear p2
    try clear c6
    try clear c7
    try clear c7b0
    obtain ⟨kq, x13_3, rfl, HA, HJ3, HO_0, HO_6, HB⟩ := hcut
    cases kq with
    | zero => exact absurd HA.out (by simp [pack_Take.j0])
    | succ kj3 =>
      have H := HA.out
      clear HA
      simp only [pack_Take.j0] at H
      by_cases c8 : x13_3 = true
      · subst c8
        have H1 : (some (([] : List Int), ([] : List Int), 1)) = some (r1, r2, r3) := by first | (rw [if_pos rfl] at H; exact H) | (rw [if_pos trivial] at H; exact H)
        clear H
        have H := H1
        clear H1
        simp only [Option.some.injEq, Prod.mk.injEq] at H
        obtain ⟨rfl, rfl, rfl⟩ := H
        go_wp2
        go_ret3
        exact ⟨_, _, by first | rfl | (simp [errW_none, errW_some] <;> rfl) | (simp [*, errW_none, errW_some] <;> rfl), by first | exact Kd.R_nil _ _ _ _ _ | exact Kd.N_nil _ _ _ _ _ | exact Kd.V_nil _ _ _ _ _ | exact Kd.Q_nil _ _ _ _ _ | exact Kd.S_nil _ _ _ _ _, by first | exact Kd.R_nil _ _ _ _ _ | exact Kd.N_nil _ _ _ _ _ | exact Kd.V_nil _ _ _ _ _ | exact Kd.Q_nil _ _ _ _ _ | exact Kd.S_nil _ _ _ _ _, by repeat (first | (with_reducible first | exact HB.out | apply below_alloc | apply pw_below_drewN | apply below_drew1) | exact HB.out)⟩
      · replace c8 := Bool.eq_false_iff.mpr c8
        subst c8
        have H1 : (if (l0.length : Int) < (wrap64 (a2 * a1)) then (some (([] : List Int), ([] : List Int), 2)) else (pack_Take.l0 kj3 l0 a1 ([] : List Int) (wrap64 (64 - (wrap64 (8 * a1)))) a2 0)) = some (r1, r2, r3) := by rw [if_neg (show ¬ (false = true) by decide)] at H; exact H
        clear H
        have H := H1
        clear H1
        by_cases c9 : (l0.length : Int) < (wrap64 (a2 * a1))
        · rw [if_pos c9] at H
          have c9b0 : decide ((l0.length : Int) < (wrap64 (a2 * a1))) = true := decide_eq_true c9
          clear c9
          simp only [Option.some.injEq, Prod.mk.injEq] at H
          obtain ⟨rfl, rfl, rfl⟩ := H
          go_wp2
          go_ret3
          exact ⟨_, _, by first | rfl | (simp [errW_none, errW_some] <;> rfl) | (simp [*, errW_none, errW_some] <;> rfl), by first | exact Kd.R_nil _ _ _ _ _ | exact Kd.N_nil _ _ _ _ _ | exact Kd.V_nil _ _ _ _ _ | exact Kd.Q_nil _ _ _ _ _ | exact Kd.S_nil _ _ _ _ _, by first | exact Kd.R_nil _ _ _ _ _ | exact Kd.N_nil _ _ _ _ _ | exact Kd.V_nil _ _ _ _ _ | exact Kd.Q_nil _ _ _ _ _ | exact Kd.S_nil _ _ _ _ _, by repeat (first | (with_reducible first | exact HB.out | apply below_alloc | apply pw_below_drewN | apply below_drew1) | exact HB.out)⟩
        · rw [if_neg c9] at H
          have c9b0 : decide ((l0.length : Int) < (wrap64 (a2 * a1))) = false := decide_eq_false c9
          clear c9
          have H' := Aside0.mk H
          clear H
          go_wp2
          go_loopg [0, 6, 36] kj3 (fun kq v0 v6 v36 w' => ∃ (x0_2 : List Int) (x6_2 : List Int) (x36_2 : Int), v36 = .int .i64 x36_2 ∧ Aside0 (pack_Take.l0 kq x0_2 a1 x6_2 (wrap64 (64 - (wrap64 (8 * a1)))) a2 x36_2 = some (r1, r2, r3)) ∧ Aside0 (kq ≤ kj3) ∧ Aside0 (Kd.V (Kd.int .u8) 5 w' w.heap.size (fun k_ => (P0_ k_ ∨ w.heap.size ≤ k_) ∧ some k_ ≠ (v6 : Value).ownBlock) v0 x0_2) ∧ Aside0 (Kd.R (Kd.int .i64) 2 w' w.heap.size (fun k_ => (w.heap.size ≤ k_)) v6 x6_2) ∧ Aside0 (Below w.heap.size w w'))
          case atStart => exact ⟨(l0), (([] : List Int)), (0), (by first | rfl | (simp; done) | (simp [*]; done)), H', ⟨Nat.le_refl _⟩, ⟨by (with_reducible repeat (first | apply Kd.V_alloc | apply Kd.V_drewN | apply Kd.V_drew)); exact HO_0.out⟩, ⟨by (with_reducible repeat (first | apply Kd.R_alloc | apply Kd.R_drewN | apply Kd.R_drew)); exact HO_6.out⟩, ⟨by repeat (first | (with_reducible first | exact HB.out | apply below_alloc | apply pw_below_drewN | apply below_drew1) | exact HB.out)⟩⟩
          case round =>
            clear H'
            try clear c1
            try clear p2
            try clear c6
            try clear p6
            try clear c7
            try clear c7b0
            try clear c8
            try clear c9
            try clear c9b0
            try clear p2
            obtain ⟨x0_2, x6_2, x36_2, rfl, HA, HK2, HO_0, HO_6, HB⟩ := hrel
            cases gk with
            | zero => exact absurd HA.out (by simp [pack_Take.l0])
            | succ k2 =>
              have H := HA.out
              clear HA
              simp only [pack_Take.l0] at H
              by_cases c10 : x36_2 < a2
              · rw [if_pos c10] at H
                have c10b0 : decide (x36_2 < a2) = true := decide_eq_true c10
                clear c10
                by_cases c11 : 0 ≤ a1
                · rw [if_pos c11] at H
                  have c11b0 := eq_true c11
                  have c11b1 : decide (0 ≤ a1) = true := decide_eq_true c11
                  clear c11
                  by_cases c12 : a1 ≤ (x0_2.length : Int)
                  · rw [if_pos c12] at H
                    have c12b0 := eq_true c12
                    have c12b1 : decide (a1 ≤ (x0_2.length : Int)) = true := decide_eq_true c12
                    clear c12
                    obtain ⟨y540, hy540⟩ : ∃ y_ : List Int, y_ = (x0_2.take (a1 : Int).toNat) := ⟨_, rfl⟩
                    replace H : (pack_Take.l1 k2 x0_2 a1 x6_2 (wrap64 (64 - (wrap64 (8 * a1)))) 0 a2 x36_2 y540 (y540.length : Int) 0) = some (r1, r2, r3) := by first | (rw [hy540]; with_reducible exact H) | (have H2_ := (Option.bind_some _ _).symm.trans H; rw [hy540]; with_reducible exact H2_) | (have H2_ := (Option.bind_some _ _).symm.trans H; with_reducible exact H2_) | with_reducible exact H | (rw [hy540]; exact H) | exact H
                    have Ny540 := Aside0.mk hy540
                    clear hy540
                    have H' := Aside0.mk H
                    clear H
                    obtain ⟨Ao14, co14, eo14⟩ := Kd.V_slice HO_0.out
                    subst eo14
                    have q13 : (a1 : Int) ≤ ((x0_2.length : Int) : Int) := of_decide_eq_true (by first | (with_reducible assumption) | assumption)
                    obtain ⟨i013, hi013, _, hsz13, _⟩ := info_parts info5
                    have hroom13 : x0_2.length ≤ co14 := (Kd.V_reads' HO_0.out).2.1
                    have hC13 : Kd.F (Kd.int .u8) _ _ Ao14 x0_2.length x0_2 := (Kd.V_at (base := w.heap.size) HO_0.out).2.2
                    have hcut13 := cut_to (P := Try.prog) 50 5 .i64 Try.underlying50 hi013 Ao14 x0_2.length co14 a1 (of_decide_eq_true (by first | (with_reducible assumption) | assumption)) q13 hroom13
                    have hr13 := Kd.F_take (m := (a1 : Int).toNat) hC13 (by omega)
                    have hy13 : y540.length = (a1 : Int).toNat := (by rw [Ny540.out, List.length_take]; omega)
                    rw [← Ny540.out] at hr13
                    rw [← hy13] at hcut13
                    have HO544 := Aside0.mk (show Kd.V (Kd.int .u8) 5 _ w.heap.size _ (.slice Ao14 y540.length co14) y540 from Kd.V_mk (by omega) hr13)
                    have HC544 := Aside0.mk (show y540.length ≤ co14 from by omega)
                    clear hr13 hC13 hroom13 hi013 hsz13
                    have KY13 := Aside0.mk hy13
                    clear hy13
                    replace q13 := eq_true q13
                    go_wp2
                    go_loopg [10, 42] k2 (fun kq v10 v42 w' => ∃ (x10_3 : Int) (x42_3 : Int), v10 = .int .i64 x10_3 ∧ v42 = .int .i64 x42_3 ∧ Aside0 (pack_Take.l1 kq x0_2 a1 x6_2 (wrap64 (64 - (wrap64 (8 * a1)))) x10_3 a2 x36_2 y540 (y540.length : Int) x42_3 = some (r1, r2, r3)) ∧ Aside0 (kq ≤ k2) ∧ Aside0 (Kd.V (Kd.int .u8) 5 w' w.heap.size (fun k_ => (P0_ k_ ∨ w.heap.size ≤ k_) ∧ some k_ ≠ (u6 : Value).ownBlock) (.slice Ao14 x0_2.length co14) x0_2) ∧ Aside0 (Kd.R (Kd.int .i64) 2 w' w.heap.size (fun k_ => (w.heap.size ≤ k_)) u6 x6_2) ∧ Aside0 (Kd.V (Kd.int .u8) 5 w' w.heap.size (fun k_ => (P0_ k_ ∨ w.heap.size ≤ k_) ∧ some k_ ≠ (u6 : Value).ownBlock) (.slice Ao14 y540.length co14) y540) ∧ Aside0 (Below w.heap.size w w'))
                    case atStart => exact ⟨(0), (0), (by first | rfl | (simp; done) | (simp [*]; done)), (by first | rfl | (simp; done) | (simp [*]; done)), H', ⟨Nat.le_refl _⟩, ⟨by (with_reducible repeat (first | apply Kd.V_alloc | apply Kd.V_drewN | apply Kd.V_drew)); exact HO_0.out⟩, ⟨by (with_reducible repeat (first | apply Kd.R_alloc | apply Kd.R_drewN | apply Kd.R_drew)); exact HO_6.out⟩, ⟨by (with_reducible repeat (first | apply Kd.V_alloc | apply Kd.V_drewN | apply Kd.V_drew)); exact HO544.out⟩, ⟨by repeat (first | (with_reducible first | exact HB.out | apply below_alloc | apply pw_below_drewN | apply below_drew1) | exact HB.out)⟩⟩
                    case round =>
                      clear H'
                      try clear c1
                      try clear q1
                      try clear p2
                      try clear c6
                      try clear p6
                      try clear c7
                      try clear c7b0
                      try clear c8
                      try clear c9
                      try clear c9b0
                      try clear c10
                      try clear c10b0
                      try clear c11
                      try clear c11b0
                      try clear c11b1
                      try clear c12
                      try clear c12b0
                      try clear c12b1
                      try clear q13
                      try clear c14
                      try clear p2
                      try clear p6
                      try clear q13
                      obtain ⟨x10_3, x42_3, rfl, rfl, HA, HK3, HO_0, HO_6, HO_40, HB⟩ := hrel
                      cases gk with
                      | zero => exact absurd HA.out (by simp [pack_Take.l1])
                      | succ k3 =>
                        have H := HA.out
                        clear HA
                        simp only [pack_Take.l1] at H
                        by_cases c15 : x42_3 < (y540.length : Int)
                        · rw [if_pos c15] at H
                          have c15b0 : decide (x42_3 < (y540.length : Int)) = true := decide_eq_true c15
                          clear c15
                          by_cases c16 : 0 ≤ x42_3
                          · rw [if_pos c16] at H
                            have c16b0 : decide (0 ≤ x42_3) = true := decide_eq_true c16
                            clear c16
                            by_cases c17 : x42_3 < (y540.length : Int)
                            · rw [if_pos c17] at H
                              have c17b0 : decide (x42_3 < (y540.length : Int)) = true := decide_eq_true c17
                              clear c17
                              obtain ⟨ji18, hji18⟩ : ∃ j_ : Int, (wrap64 ((wrap64 (64 - (wrap64 (8 * a1)))) + (wrap64 (8 * x42_3)))) = j_ := ⟨_, rfl⟩
                              replace H : (if 0 ≤ (ji18) then (pack_Take.l1 k3 x0_2 a1 x6_2 (wrap64 (64 - (wrap64 (8 * a1)))) (Go.bits .or .i64 x10_3 (shl .i64 (wrap64 (rd y540 x42_3)) (ji18))) a2 x36_2 y540 (y540.length : Int) (wrap64 (x42_3 + 1))) else (none)) = some (r1, r2, r3) := by first | (rw [hji18] at H; exact H) | (simp only [hji18] at H ⊢; exact H)
                              have hji18w : (IntKind.i64.wrap ((wrap64 (64 - (wrap64 (8 * a1)))) + (wrap64 (8 * x42_3)))) = ji18 := (i64_w _).trans hji18
                              by_cases c19 : 0 ≤ (ji18)
                              · rw [if_pos c19] at H
                                have c19b0 := eq_true c19
                                have c19b1 : decide (0 ≤ (ji18)) = true := decide_eq_true c19
                                clear c19
                                obtain ⟨ji20, hji20⟩ : ∃ j_ : Int, (shl .i64 (wrap64 (rd y540 x42_3)) (ji18)) = j_ := ⟨_, rfl⟩
                                replace H : (pack_Take.l1 k3 x0_2 a1 x6_2 (wrap64 (64 - (wrap64 (8 * a1)))) (Go.bits .or .i64 x10_3 (ji20)) a2 x36_2 y540 (y540.length : Int) (wrap64 (x42_3 + 1))) = some (r1, r2, r3) := by first | (rw [hji20] at H; exact H) | (simp only [hji20] at H ⊢; exact H)
                                have hji20_ : (IntKind.i64.wrap ((wrap64 (rd y540 x42_3)) * 2 ^ min (ji18).toNat 64)) = ji20 := hji20
                                have hji20z : (ji18) ≤ 64 → (IntKind.i64.wrap ((wrap64 (rd y540 x42_3)) * 2 ^ (ji18).toNat)) = ji20 := shl_small hji20
                                have hji20y : (wrap64 ((wrap64 (rd y540 x42_3)) * 2 ^ min (ji18).toNat 64)) = ji20 := (i64_w _).symm.trans hji20_
                                have hji20x : (ji18) ≤ 64 → (wrap64 ((wrap64 (rd y540 x42_3)) * 2 ^ (ji18).toNat)) = ji20 := fun h_ => (i64_w _).symm.trans (hji20z h_)
                                have H' := Aside0.mk H
                                clear H
                                have p545 : 0 ≤ (x42_3 : Int) := of_decide_eq_true (by first | (with_reducible assumption) | assumption)
                                have q545 : x42_3 < (y540.length : Int) := of_decide_eq_true (by first | (with_reducible assumption) | assumption)
                                obtain ⟨ad545, e545, hx545_0⟩ := Kd.at_int (Kd.V_reads' HO_40.out).2.2 x42_3 p545 q545
                                cases e545
                                replace p545 := eq_true p545
                                replace q545 := eq_true q545
                                go_wp2
                                first | go_roundg k3 | (simp only [← hji20]; go_roundg k3) | (simp only [← hji18, ← hji20]; go_roundg k3)
                                case measure => have := HJ3.out; have := HK2.out; have := HK3.out; omega
                                case rel => exact ⟨(Go.bits .or .i64 x10_3 (ji20)), (wrap64 (x42_3 + 1)), (by first | rfl | (simp; done) | (simp only [← hji20] <;> (first | rfl | simp)) | (simp [*]; done)), (by first | rfl | (simp; done) | (simp [*]; done)), (by first | exact H' | (rw [hji18]; exact H') | (rw [hji20]; exact H') | (rw [hji21]; exact H') | (rw [hji23]; exact H')), ⟨by have := HJ3.out; have := HK2.out; have := HK3.out; omega⟩, ⟨by (with_reducible repeat (first | apply Kd.V_alloc | apply Kd.V_drewN | apply Kd.V_drew)); exact HO_0.out⟩, ⟨by (with_reducible repeat (first | apply Kd.R_alloc | apply Kd.R_drewN | apply Kd.R_drew)); exact HO_6.out⟩, ⟨by (with_reducible repeat (first | apply Kd.V_alloc | apply Kd.V_drewN | apply Kd.V_drew)); exact HO_40.out⟩, ⟨by repeat (first | (with_reducible first | exact HB.out | apply below_alloc | apply pw_below_drewN | apply below_drew1) | exact HB.out)⟩⟩
                              · rw [if_neg c19] at H
                                exact absurd H (by simp)
                            · rw [if_neg c17] at H
                              exact absurd H (by simp)
                          · rw [if_neg c16] at H
                            exact absurd H (by simp)
                        · rw [if_neg c15] at H
                          have c15b0 : decide (x42_3 < (y540.length : Int)) = false := decide_eq_false c15
                          clear c15
                          obtain ⟨ji21, hji21⟩ : ∃ j_ : Int, (wrap64 (64 - (wrap64 (8 * a1)))) = j_ := ⟨_, rfl⟩
                          replace H : (if 0 ≤ (ji21) then (if x6_2.length < 17592186044416 then (if 0 ≤ a1 then (if a1 ≤ (x0_2.length : Int) then (pack_Take.l0 k3 (x0_2.drop (a1 : Int).toNat) a1 (x6_2 ++ [shr .i64 x10_3 (ji21)]) (ji21) a2 (wrap64 (x36_2 + 1))) else (none)) else (none)) else (none)) else (none)) = some (r1, r2, r3) := by first | (rw [hji21] at H; exact H) | (simp only [hji21] at H ⊢; exact H)
                          have hji21w : (IntKind.i64.wrap (64 - (wrap64 (8 * a1)))) = ji21 := (i64_w _).trans hji21
                          by_cases c22 : 0 ≤ (ji21)
                          · rw [if_pos c22] at H
                            have c22b0 := eq_true c22
                            have c22b1 : decide (0 ≤ (ji21)) = true := decide_eq_true c22
                            clear c22
                            obtain ⟨ji23, hji23⟩ : ∃ j_ : Int, (shr .i64 x10_3 (ji21)) = j_ := ⟨_, rfl⟩
                            replace H : (if x6_2.length < 17592186044416 then (if 0 ≤ a1 then (if a1 ≤ (x0_2.length : Int) then (pack_Take.l0 k3 (x0_2.drop (a1 : Int).toNat) a1 (x6_2 ++ [ji23]) (ji21) a2 (wrap64 (x36_2 + 1))) else (none)) else (none)) else (none)) = some (r1, r2, r3) := by first | (rw [hji23] at H; exact H) | (simp only [hji23] at H ⊢; exact H)
                            have hji23_ : (x10_3 / 2 ^ min (ji21).toNat 64) = ji23 := hji23
                            have hji23z : (ji21) ≤ 64 → (x10_3 / 2 ^ (ji21).toNat) = ji23 := shr_small hji23
                            by_cases c24 : x6_2.length < 17592186044416
                            · rw [if_pos c24] at H
                              have LMc24 := Aside0.mk c24
                              clear c24
                              obtain ⟨y546, hy546⟩ : ∃ y_ : List Int, y_ = (x6_2 ++ [ji23]) := ⟨_, rfl⟩
                              replace H : (if 0 ≤ a1 then (if a1 ≤ (x0_2.length : Int) then (pack_Take.l0 k3 (x0_2.drop (a1 : Int).toNat) a1 y546 (ji21) a2 (wrap64 (x36_2 + 1))) else (none)) else (none)) = some (r1, r2, r3) := by first | (rw [hy546]; with_reducible exact H) | (have H2_ := (Option.bind_some _ _).symm.trans H; rw [hy546]; with_reducible exact H2_) | (have H2_ := (Option.bind_some _ _).symm.trans H; with_reducible exact H2_) | with_reducible exact H | (rw [hy546]; exact H) | exact H
                              have Ny546 := Aside0.mk hy546
                              clear hy546
                              by_cases c25 : 0 ≤ a1
                              · rw [if_pos c25] at H
                                have c25b0 := eq_true c25
                                have c25b1 : decide (0 ≤ a1) = true := decide_eq_true c25
                                clear c25
                                by_cases c26 : a1 ≤ (x0_2.length : Int)
                                · rw [if_pos c26] at H
                                  have c26b0 := eq_true c26
                                  have c26b1 : decide (a1 ≤ (x0_2.length : Int)) = true := decide_eq_true c26
                                  clear c26
                                  obtain ⟨y549, hy549⟩ : ∃ y_ : List Int, y_ = (x0_2.drop (a1 : Int).toNat) := ⟨_, rfl⟩
                                  replace H : (pack_Take.l0 k3 y549 a1 y546 (ji21) a2 (wrap64 (x36_2 + 1))) = some (r1, r2, r3) := by first | (rw [hy549]; with_reducible exact H) | (have H2_ := (Option.bind_some _ _).symm.trans H; rw [hy549]; with_reducible exact H2_) | (have H2_ := (Option.bind_some _ _).symm.trans H; with_reducible exact H2_) | with_reducible exact H | (rw [hy549]; exact H) | exact H
                                  have Ny549 := Aside0.mk hy549
                                  clear hy549
                                  have H' := Aside0.mk H
                                  clear H
                                  try go_wp2
                                  have n0_ := Aside0.mk (Kd.V_drew HO_0.out)
                                  have n1_ := Aside0.mk (Kd.R_drew HO_6.out)
                                  have n2_ := Aside0.mk (Kd.V_drew HO_40.out)
                                  have n3_ := Aside0.mk (below_drew1 HB.out)
                                  clear HO_0
                                  clear HO_6
                                  clear HO_40
                                  clear HB
                                  have HO_0 := n0_
                                  have HO_6 := n1_
                                  have HO_40 := n2_
                                  have HB := n3_
                                  clear n0_ n1_ n2_ n3_
                                  have q28 : (a1 : Int) ≤ ((x0_2.length : Int) : Int) := of_decide_eq_true (by first | (with_reducible assumption) | assumption)
                                  obtain ⟨i028, hi028, _, hsz28, _⟩ := info_parts info5
                                  have hroom28 : x0_2.length ≤ co14 := (Kd.V_reads' HO_0.out).2.1
                                  have hC28 : Kd.F (Kd.int .u8) _ _ Ao14 x0_2.length x0_2 := (Kd.V_at (base := w.heap.size) HO_0.out).2.2
                                  have q028 : (0 : Int) ≤ (a1 : Int) := of_decide_eq_true (by first | (with_reducible assumption) | assumption)
                                  have hcut28 := cut_from (P := Try.prog) 50 5 .i64 Try.underlying50 hi028 1 hsz28 Ao14 x0_2.length co14 a1 q028 q28
                                  have hr28 := Kd.F_cut (m := (a1 : Int).toNat) (c := co14) hC28 (by omega) hroom28
                                  obtain ⟨A28, hA28⟩ : ∃ A1, A1 = (if co14 = (a1 : Int).toNat then Ao14 else (Ao14 : Option Addr).map (·.add ((a1 : Int).toNat * 1))) := ⟨_, rfl⟩
                                  obtain ⟨c28, hc28⟩ : ∃ c1, c1 = co14 - (a1 : Int).toNat := ⟨_, rfl⟩
                                  have hy28 : y549.length = x0_2.length - (a1 : Int).toNat := (by rw [Ny549.out, List.length_drop] <;> omega)
                                  rw [show (x0_2).drop (a1 : Int).toNat = y549 from Ny549.out.symm] at hr28
                                  replace hr28 : Kd.F (Kd.int .u8) _ _ A28 y549.length y549 := (by rw [hA28]; exact hr28)
                                  rw [← hy28, ← hA28, ← hc28] at hcut28
                                  have HO553 := Aside0.mk (show Kd.V (Kd.int .u8) 5 _ w.heap.size _ (.slice A28 y549.length c28) y549 from Kd.V_mk (by rw [hy28, hc28]; exact Nat.sub_le_sub_right hroom28 _) hr28)
                                  have HC553 := Aside0.mk (show y549.length ≤ c28 from by rw [hy28, hc28]; exact Nat.sub_le_sub_right hroom28 _)
                                  clear hr28 hC28 hroom28 hi028 hsz28 hc28
                                  have KY28 := Aside0.mk hy28
                                  have KA28 := Aside0.mk hA28
                                  clear hy28 hA28
                                  replace q28 := eq_true q28
                                  refine start_ (n := 11) (S := fun w' => True) (ds := []) #[false, false, false, false, false, false, false, false, false, false, false] (by kernel_rfl) rfl rfl trivial (fun hHeld => ?_); refine with_tabW pack_Take.tab14 pack_Take.bits14 (fun HT_ HW_ => ?_)
                                  generalize wr.drew = w27 at HO_0 HO_6 HO_40 HB HO553 hHeld ⊢
                                  refine pure_ (i := 0) (N := some 57) (v := ?_) (a' := ?_) #[true, false, false, false, false, false, false, false, false, false, false] rfl rfl (any_of HT_.out (by kernel_rfl)) (fun _ _ _ h => h) (Or.inl ⟨by rfl, ?_⟩) ?_ ?_
                                  rotate_left
                                  · intro w'
                                    go_simp
                                    with_reducible rfl
                                  rotate_left
                                  · simp only [Act.put, List.setIfInBounds_toArray, List.set_cons_zero, List.set_cons_succ, i64_w, i32_w]
                                    rfl
                                  refine pure_ (i := 1) (N := some 58) (v := ?_) (a' := ?_) #[true, true, false, false, false, false, false, false, false, false, false] rfl rfl (any_of HT_.out (by kernel_rfl)) (fun _ _ _ h => h) (Or.inl ⟨by rfl, ?_⟩) ?_ ?_
                                  rotate_left
                                  · intro w'
                                    go_simp
                                    with_reducible rfl
                                  rotate_left
                                  · simp only [Act.put, List.setIfInBounds_toArray, List.set_cons_zero, List.set_cons_succ, i64_w, i32_w]
                                    rfl
                                  refine pure_ (i := 2) (N := some 59) (v := ?_) (a' := ?_) #[true, true, true, false, false, false, false, false, false, false, false] rfl rfl (any_of HT_.out (by kernel_rfl)) (fun _ _ _ h => h) (Or.inl ⟨by rfl, ?_⟩) ?_ ?_
                                  rotate_left
                                  · intro w'
                                    go_simp
                                    with_reducible rfl
                                  rotate_left
                                  · simp only [Act.put, List.setIfInBounds_toArray, List.set_cons_zero, List.set_cons_succ, i64_w, i32_w]
                                    rfl
                                  refine pure_ (i := 3) (N := some 60) (v := ?_) (a' := ?_) #[true, true, true, true, false, false, false, false, false, false, false] rfl rfl (any_of HT_.out (by kernel_rfl)) (fun _ _ _ h => h) (Or.inl ⟨by rfl, ?_⟩) ?_ ?_
                                  rotate_left
                                  · intro w'
                                    go_simp
                                    with_reducible rfl
                                  rotate_left
                                  · simp only [Act.put, List.setIfInBounds_toArray, List.set_cons_zero, List.set_cons_succ, i64_w, i32_w]
                                    rfl
                                  refine pure_ (i := 6) (N := some 63) (v := ?_) (a' := ?_) #[true, true, true, true, false, false, true, false, false, false, false] rfl rfl (any_of HT_.out (by kernel_rfl)) (fun _ _ _ h => h) (Or.inl ⟨by rfl, ?_⟩) ?_ ?_
                                  rotate_left
                                  · intro w'
                                    go_simp
                                    with_reducible rfl
                                  rotate_left
                                  · simp only [Act.put, List.setIfInBounds_toArray, List.set_cons_zero, List.set_cons_succ, i64_w, i32_w]
                                    rfl
                                  refine pure_ (i := 7) (N := some 64) (v := ?_) (a' := ?_) #[true, true, true, true, false, false, true, true, false, false, false] rfl rfl (any_of HT_.out (by kernel_rfl)) (fun _ _ _ h => h) (Or.inl ⟨by rfl, ?_⟩) ?_ ?_
                                  rotate_left
                                  · intro w'
                                    go_simp
                                    with_reducible rfl
                                  rotate_left
                                  · simp only [Act.put, List.setIfInBounds_toArray, List.set_cons_zero, List.set_cons_succ, i64_w, i32_w]
                                    rfl
                                  refine pure_ (i := 8) (N := some 65) (v := ?_) (a' := ?_) #[true, true, true, true, false, false, true, true, true, false, false] rfl rfl (any_of HT_.out (by kernel_rfl)) (fun _ _ _ h => h) (Or.inl ⟨by rfl, ?_⟩) ?_ ?_
                                  rotate_left
                                  · intro w'
                                    go_simp
                                    with_reducible rfl
                                  rotate_left
                                  · simp only [Act.put, List.setIfInBounds_toArray, List.set_cons_zero, List.set_cons_succ, i64_w, i32_w]
                                    rfl
                                  refine one_ (i := 4) (N := some 61) #[true, true, true, true, true, false, true, true, true, false, false] rfl rfl (one_of HT_.out (by kernel_rfl)) (by decide) (fun K hK => ?_)
                                  refine value_ (w1 := ?_) (v := ?_) (by rfl) rfl ?_ ?_
                                  rotate_left 2
                                  · go_simp
                                    constructor
                                    · rfl
                                    · rfl
                                  refine hK.out _ _ trivial (fun hHeld => ?_)
                                  clear hK K
                                  refine norm_ (a' := ?_) ?_ ?_
                                  rotate_left
                                  · show Act.put _ (some 61) _ = _
                                    simp only [Act.put, List.setIfInBounds_toArray, List.set_cons_zero, List.set_cons_succ, i64_w, i32_w]
                                    rfl
                                  refine one_ (i := 5) (N := some 62) #[true, true, true, true, true, true, true, true, true, false, false] rfl rfl (one_of HT_.out (by kernel_rfl)) (by decide) (fun K hK => ?_)
                                  refine Kd.R_append_step (Kd.int .i64) (w0 := w) w.heap.size (by rfl) (.tmp 57) (.tmp 61) 22 2 (.int .i64 0) 8 rfl Try.underlying22 info2 rfl (by decide) (by omega) u6 x6_2 ji23 [.int .i64 ji23] (fun k_ => (w.heap.size ≤ k_)) (fun _ => False) rfl rfl ?aP (fun _ hk => hk.elim) ?aF ?aO ?aB ?aS ?aL ?_
                                  (case aP => exact rfl)
                                  (case aB => exact (by repeat (first | (with_reducible first | exact HB.out | apply below_alloc | apply pw_below_drewN | apply below_drew1) | exact HB.out)))
                                  (case aF => exact (fun k_ hk => (Nat.le_trans (below_size (by repeat (first | (with_reducible first | exact HB.out | apply below_alloc | apply pw_below_drewN | apply below_drew1) | exact HB.out))) hk)))
                                  (case aO => exact (by (with_reducible repeat (first | apply Kd.R_alloc | apply Kd.R_drewN | apply Kd.R_drew)); exact HO_6.out))
                                  (case aS => exact (below_size (by repeat (first | (with_reducible first | exact HB.out | apply below_alloc | apply pw_below_drewN | apply below_drew1) | exact HB.out))))
                                  (case aL => have := LMc24.out; omega)
                                  intro v547 w29 ho hb hg hat
                                  rw [← Ny546.out] at ho
                                  have n0_ := Aside0.mk (Kd.V_afterv (ok := (fun k_ => (P0_ k_ ∨ w.heap.size ≤ k_))) (by (with_reducible repeat (first | apply Kd.V_alloc | apply Kd.V_drewN | apply Kd.V_drew)); exact HO_0.out) hg hat)
                                  have n1_ := Aside0.mk (Kd.V_afterv (ok := (fun k_ => (P0_ k_ ∨ w.heap.size ≤ k_))) (by (with_reducible repeat (first | apply Kd.V_alloc | apply Kd.V_drewN | apply Kd.V_drew)); exact HO_40.out) hg hat)
                                  have n2_ := Aside0.mk (Kd.V_afterv (ok := (fun k_ => (P0_ k_ ∨ w.heap.size ≤ k_))) (by (with_reducible repeat (first | apply Kd.V_alloc | apply Kd.V_drewN | apply Kd.V_drew)); exact HO553.out) hg hat)
                                  have n3_ := Aside0.mk (hb)
                                  have n4_ := Aside0.mk (ho)
                                  clear HO_0
                                  clear HO_40
                                  clear HO553
                                  clear HB
                                  clear HO_6
                                  have HO_0 := n0_
                                  have HO_40 := n1_
                                  have HO553 := n2_
                                  have HB := n3_
                                  have HO548 := n4_
                                  clear n0_ n1_ n2_ n3_ n4_
                                  clear ho hb hg hat
                                  refine hK.out _ _ trivial (fun hHeld => ?_)
                                  clear hK K
                                  refine norm_ (a' := ?_) ?_ ?_
                                  rotate_left
                                  · show Act.put _ (some 62) _ = _
                                    simp only [Act.put, List.setIfInBounds_toArray, List.set_cons_zero, List.set_cons_succ, i64_w, i32_w]
                                    rfl
                                  refine pure_ (i := 9) (N := some 6) (v := ?_) (a' := ?_) #[true, true, true, true, true, true, true, true, true, true, false] rfl rfl (any_of HT_.out (by kernel_rfl)) (fun _ _ _ h => h) (Or.inl ⟨by rfl, ?_⟩) ?_ ?_
                                  rotate_left
                                  · intro w'
                                    go_simp
                                    with_reducible rfl
                                  rotate_left
                                  · simp only [Act.put, List.setIfInBounds_toArray, List.set_cons_zero, List.set_cons_succ, i64_w, i32_w]
                                    rfl
                                  refine pure_ (i := 10) (N := some 0) (v := ?_) (a' := ?_) #[true, true, true, true, true, true, true, true, true, true, true] rfl rfl (any_of HT_.out (by kernel_rfl)) (fun _ _ _ h => h) (Or.inl ⟨by rfl, ?_⟩) ?_ ?_
                                  rotate_left
                                  · intro w'
                                    go_simp
                                    with_reducible rfl
                                  rotate_left
                                  · simp only [Act.put, List.setIfInBounds_toArray, List.set_cons_zero, List.set_cons_succ, i64_w, i32_w]
                                    rfl
                                  refine done_ (done_of HT_.out (by kernel_rfl)) ?_
                                  try go_wp2
                                  first | go_roundg k3 | (simp only [← hji23]; go_roundg k3) | (simp only [← hji21, ← hji23]; go_roundg k3)
                                  case measure => have := HJ3.out; have := HK2.out; have := HK3.out; omega
                                  case rel => exact ⟨(y549), (y546), (wrap64 (x36_2 + 1)), (by first | rfl | (simp; done) | (simp [*]; done)), (by first | exact H' | (rw [hji18]; exact H') | (rw [hji20]; exact H') | (rw [hji21]; exact H') | (rw [hji23]; exact H')), ⟨by have := HJ3.out; have := HK2.out; have := HK3.out; omega⟩, ⟨by (with_reducible repeat (first | apply Kd.V_alloc | apply Kd.V_drewN | apply Kd.V_drew)); exact HO553.out⟩, ⟨by (with_reducible repeat (first | apply Kd.R_alloc | apply Kd.R_drewN | apply Kd.R_drew)); exact HO548.out⟩, ⟨by repeat (first | (with_reducible first | exact HB.out | apply below_alloc | apply pw_below_drewN | apply below_drew1) | exact HB.out)⟩⟩
                                · rw [if_neg c26] at H
                                  exact absurd H (by simp)
                              · rw [if_neg c25] at H
                                exact absurd H (by simp)
                            · rw [if_neg c24] at H
                              exact absurd H (by simp)
                          · rw [if_neg c22] at H
                            exact absurd H (by simp)
                  · rw [if_neg c12] at H
                    exact absurd H (by simp)
                · rw [if_neg c11] at H
                  exact absurd H (by simp)
              · rw [if_neg c10] at H
                have c10b0 : decide (x36_2 < a2) = false := decide_eq_false c10
                clear c10
                replace H := Option.bind_eq_some_iff.mp H
                obtain ⟨t537, A300, H⟩ := H
                replace H : (some (x6_2, t537, 0)) = some (r1, r2, r3) := H
                have A30 := Aside0.mk A300
                clear A300
                simp only [Option.some.injEq, Prod.mk.injEq] at H
                obtain ⟨rfl, rfl, rfl⟩ := H
                obtain ⟨Ao31, co31, eo31⟩ := Kd.V_slice HO_0.out
                subst eo31
                go_wp2_with (first | ((with_reducible refine gate_callee (f := 149) rfl ?_); refine goesL_ (some 69) rfl rfl Try.func149 (by kernel_rfl) rfl #[.slice Ao31 x0_2.length co31] rfl (by (try simp only [List.map_toArray, List.map_cons, List.map_nil]); first | done | rfl | (simp only [List.length_drop, List.length_take]; rfl)) ?_; (with_reducible refine (bytes_Clone.calls _ _ x0_2 t537 _ ?side1 ?side2 A30.out).mono ?_); (case side1 => repeat (first | exact (Kd.V_reads' HO_0.out).2.2 | (with_reducible refine Kd.C_alloc ?_ _) | (with_reducible refine Kd.C_drewN ?_ _) | (with_reducible refine Kd.C_drew ?_))); (case side2 => exact (Kd.V_reads' HO_0.out).2.1); rintro e w32 ⟨v538, rfl, ho0, hb⟩; refine ⟨_, rfl, ?_⟩; have n0_ := Aside0.mk (Kd.V_elder' (by (with_reducible repeat (first | apply Kd.V_alloc | apply Kd.V_drewN | apply Kd.V_drew)); exact HO_0.out) (Kd.R_base ho0) hb); have n1_ := Aside0.mk (Kd.R_below (by (with_reducible repeat (first | apply Kd.R_alloc | apply Kd.R_drewN | apply Kd.R_drew)); exact HO_6.out) hb); have n2_ := Aside0.mk (Kd.R_lower (Kd.R_newM (M := fun k_ => (w.heap.size ≤ k_)) ho0 (below_size (by repeat (first | (with_reducible first | exact HB.out | apply below_alloc | apply pw_below_drewN | apply below_drew1) | exact HB.out))) (fun k_ h_ => h_)) (below_size (by repeat (first | (with_reducible first | exact HB.out | apply below_alloc | apply pw_below_drewN | apply below_drew1) | exact HB.out)))); have n3_ := Aside0.mk (below_step (by repeat (first | (with_reducible first | exact HB.out | apply below_alloc | apply pw_below_drewN | apply below_drew1) | exact HB.out)) hb); clear HO_0; clear HO_6; clear HB; have HO_0 := n0_; have HO_6 := n1_; have HO539 := n2_; have HB := n3_; clear n0_ n1_ n2_ n3_; (try clear hb); (try clear hb2); (try clear hk); (try clear hi); (try clear ho0)))
                go_ret3
                exact ⟨_, _, by first | rfl | (simp [errW_none, errW_some] <;> rfl) | (simp [*, errW_none, errW_some] <;> rfl), by (with_reducible repeat (first | apply Kd.R_alloc | apply Kd.R_drewN | apply Kd.R_drew)); exact HO_6.out, by (with_reducible repeat (first | apply Kd.R_alloc | apply Kd.R_drewN | apply Kd.R_drew)); exact Kd.R_mono HO539.out (fun _ hk => hk.1), by repeat (first | (with_reducible first | exact HB.out | apply below_alloc | apply pw_below_drewN | apply below_drew1) | exact HB.out)⟩

end Go.Proofs.Ytkjibgfgbfacdaa.P
end
/-! part: PPack -/
section
set_option linter.unusedVariables false
set_option linter.unusedSimpArgs false
namespace Go.Proofs.Ytkjibgfgbfacdaa.P
open Go.RowKit Go.Proofs.YtkjibgfgbfacdaaW.PrintWords Go.Proofs.YtkjibgfgbfacdaaW.PrintLast Go.Proofs.YtkjibgfgbfacdaaW.PrintMore
set_option linter.unusedVariables false

/-! ### octets -/
/-- The octets of a number, the lower ones first. -/
def enc : Nat → Int → List Int
  | 0, _ => []
  | w + 1, n => n % 256 :: enc w (n / 256)
/-- What octets tell. -/
def val : List Int → Int
  | [] => 0
  | c :: t => c + 256 * val t
/-! ### widths -/
/-- A number has room in w octets. -/
def fitsB (w : Nat) (n : Int) : Bool := decide (-(2 ^ (8 * w - 1)) ≤ n) && decide (n < 2 ^ (8 * w - 1))
/-- The number of w octets: the highest bit is the sign. -/
def sgn (w : Nat) (v : Int) : Int := if v < 2 ^ (8 * w - 1) then v else v - 2 ^ (8 * w)
def dec (w : Nat) (l : List Int) : Int := sgn w (val l)
end Go.Proofs.Ytkjibgfgbfacdaa.P
end
/-! part: PPackL -/
section
set_option linter.unusedVariables false
set_option linter.unusedSimpArgs false
namespace Go.Proofs.Ytkjibgfgbfacdaa.P
open Go.RowKit Go.Proofs.YtkjibgfgbfacdaaW.PrintWords Go.Proofs.YtkjibgfgbfacdaaW.PrintLast Go.Proofs.YtkjibgfgbfacdaaW.PrintMore
set_option linter.unusedVariables false

def putP (b : List Int) (w : Int) (l : List Int) : List Int × Int :=
  if 1 ≤ w ∧ w ≤ 8 then (if l.all (fitsB w.toNat) = true then (if (l.length : Int) > 65536 ∨ (b.length : Int) > 65536 - w * (l.length : Int) then ([], 3) else (b ++ l.flatMap (enc w.toNat), 0)) else ([], 4)) else ([], 1)
/-! ### pack.Take -/
def decs (w : Nat) : Nat → List Int → List Int
  | 0, _ => []
  | n + 1, l => dec w (l.take w) :: decs w n (l.drop w)
def takeP (b : List Int) (w n : Int) : List Int × List Int × Int :=
  if 1 ≤ w ∧ w ≤ 8 ∧ 0 ≤ n ∧ n ≤ 65536 then (if (b.length : Int) < n * w then ([], [], 2) else (decs w.toNat n.toNat b, b.drop (n.toNat * w.toNat), 0)) else ([], [], 1)
end Go.Proofs.Ytkjibgfgbfacdaa.P
end
/-! part: F49 -/
section
set_option linter.unusedVariables false
set_option linter.unusedSimpArgs false
namespace Go.Proofs.Ytkjibgfgbfacdaa.P
open Go.RowKit Go.Proofs.YtkjibgfgbfacdaaW.PrintWords Go.Proofs.YtkjibgfgbfacdaaW.PrintLast Go.Proofs.YtkjibgfgbfacdaaW.PrintMore
attribute [local go_sem] max2_int min2_int max_two min_two max_three min_three max_four min_four   -- for this text's walks alone
set_option linter.unusedVariables false
set_option linter.unusedSimpArgs false

/-! ### quant_Cells: function 49 -/
def quant_Cells.f (a0_0 : Int) (l0_1 : List (List Int)) : Option (Int × Int) := (h_quant_Check.f a0_0 l0_1).bind fun t453 => (if t453 = 0 then (if 0 < (l0_1.length : Int) then (some (wrap64 (((rd_L3 l0_1 0).length : Int) + 1), 0)) else (none)) else (some (0, t453)))
set_option maxHeartbeats 8000000 in
set_option maxRecDepth 100000 in
theorem quant_Cells.calls (a0_0 : Int) (A0_1 : Option Addr) (c0_1 : Nat) (l0_1 : List (List Int)) (r1 : Int) (r2 : Int) (w : World) (hr0_1 : Kd.C (Kd.slice 74 (Kd.int .i16)) w A0_1 l0_1.length l0_1) (hc0_1 : l0_1.length ≤ c0_1) (h : quant_Cells.f a0_0 l0_1 = some (r1, r2)) :
    Calls Try.prog 49 #[.agg #[.int .i64 a0_0, .slice A0_1 l0_1.length c0_1]] w fun e w' => e = .returned (.tuple #[.int .i64 r1, .int .i64 r2]) ∧ Below w.heap.size w w' := by
  have hu49 := Try.underlying49
  have HR0_1 := Aside0.mk hr0_1
  have HC0_1 := Aside0.mk hc0_1
  clear hr0_1 hc0_1
  have HB := Aside0.mk (Below.refl w.heap.size w)
  have H : ((h_quant_Check.f a0_0 l0_1).bind fun t453 => (if t453 = 0 then (if 0 < (l0_1.length : Int) then (some (wrap64 (((rd_L3 l0_1 0).length : Int) + 1), 0)) else (none)) else (some (0, t453)))) = some (r1, r2) := h
  clear h
  replace H := Option.bind_eq_some_iff.mp H
  obtain ⟨t453, A20, H⟩ := H
  replace H : (if t453 = 0 then (if 0 < (l0_1.length : Int) then (some (wrap64 (((rd_L3 l0_1 0).length : Int) + 1), 0)) else (none)) else (some (0, t453))) = some (r1, r2) := H
  have A2 := Aside0.mk A20
  clear A20
  by_cases c3 : t453 = 0
  · rw [if_pos c3] at H
    have c3b0 : (t453 == 0) = true := beq_iff_eq.mpr c3
    have c3b1 : (t453 != 0) = false := bne_eq_false_iff_eq.mpr c3
    clear c3
    by_cases c4 : 0 < (l0_1.length : Int)
    · rw [if_pos c4] at H
      have c4b0 : decide (0 < (l0_1.length : Int)) = true := decide_eq_true c4
      have c4b1 : decide (0 < l0_1.length) = true := decide_eq_true (by omega)
      clear c4
      simp only [Option.some.injEq, Prod.mk.injEq] at H
      obtain ⟨rfl, rfl⟩ := H
      go_enter Try.func49, Try.ntmps49
      go_wp2_with (first | ((with_reducible refine gate_dst (N := 1) rfl ?_); refine box_event ?hg (N := 1) ?hd (cs := #[.int .i64 a0_0, .slice A0_1 l0_1.length c0_1]) (t := 49) ?hr ?_; (case hd => rfl); (case hg => rfl); (case hr => first | (go_simp; done) | (go_simp; rfl)); intro gb452 hg w5 hbox hb; have n0_ := Aside0.mk (below_step (by repeat (first | (with_reducible first | exact HB.out | apply below_alloc | apply pw_below_drewN | apply below_drew1) | exact HB.out)) hb); have n1_ := Aside0.mk (hbox); have n2_ := Aside0.mk ((by rw [hg]; exact (below_size (by repeat (first | (with_reducible first | exact HB.out | apply below_alloc | apply pw_below_drewN | apply below_drew1) | exact HB.out))) : w.heap.size ≤ gb452)); have n3_ := Aside0.mk ((by rw [hg]; exact (below_size (by repeat (first | (with_reducible first | exact HB.out | apply below_alloc | apply pw_below_drewN | apply below_drew1) | exact HB.out))) : w.heap.size ≤ gb452)); clear HB; have HB := n0_; have BK452 := n1_; have GW452 := n2_; have GE452 := n3_; clear n0_ n1_ n2_ n3_; clear hb hbox hg; have hcz6_0 : w5.cell? ⟨gb452, 0, none⟩ = some (.int .i64 a0_0) := (blk_cell BK452.out 0).trans rfl; have hcz6_1 : w5.cell? ⟨gb452, 1, none⟩ = some (.slice A0_1 l0_1.length c0_1) := (blk_cell BK452.out 1).trans rfl; have hfz6_0 := blk_frozen BK452.out 0; have hfz6_1 := blk_frozen BK452.out 1) | ((with_reducible refine gate_callee (f := 48) rfl ?_); refine goesL_ (some 6) rfl rfl Try.func48 (by kernel_rfl) rfl #[.agg #[.int .i64 a0_0, .slice A0_1 l0_1.length c0_1]] rfl (by (try simp only [List.map_toArray, List.map_cons, List.map_nil]); first | done | rfl | (simp only [List.length_drop, List.length_take]; rfl)) ?_; (with_reducible refine (h_quant_Check.calls a0_0 _ _ l0_1 t453 _ ?side1 ?side2 A2.out).mono ?_); (case side1 => repeat (first | exact (Kd.C_below HR0_1.out HB.out) | (with_reducible refine Kd.C_alloc ?_ _) | (with_reducible refine Kd.C_drewN ?_ _) | (with_reducible refine Kd.C_drew ?_))); (case side2 => exact HC0_1.out); rintro e w7 ⟨rfl, hb⟩; refine ⟨_, rfl, ?_⟩; have n0_ := Aside0.mk (blk_below (g := gb452) (o := .cells #[.int .i64 a0_0, .slice A0_1 l0_1.length c0_1] 49 (0, 0)) (by (with_reducible repeat (first | refine blk_drewN ?_ _ | refine blk_drew ?_ | refine blk_alloc ?_ _)); exact BK452.out) hb); have n1_ := Aside0.mk (below_step (by repeat (first | (with_reducible first | exact HB.out | apply below_alloc | apply pw_below_drewN | apply below_drew1 | refine below_set ?_ GE452.out) | exact HB.out)) hb); clear BK452; clear HB; have BK452 := n0_; have HB := n1_; clear n0_ n1_; (try clear hb); (try clear hb2); (try clear hk); (try clear hi); have hcz8_0 : w7.cell? ⟨gb452, 0, none⟩ = some (.int .i64 a0_0) := (blk_cell BK452.out 0).trans rfl; have hcz8_1 : w7.cell? ⟨gb452, 1, none⟩ = some (.slice A0_1 l0_1.length c0_1) := (blk_cell BK452.out 1).trans rfl; have hfz8_0 := blk_frozen BK452.out 0; have hfz8_1 := blk_frozen BK452.out 1; have p454 : 0 ≤ (0 : Int) := (by omega); have q454 : 0 < (l0_1.length : Int) := of_decide_eq_true (by first | (with_reducible assumption) | assumption); obtain ⟨ad454, A454_0, c454_0, e454, hx454_0, hl454_0, hi454_0⟩ := at_L3 HR0_1.out 0 p454 q454; cases e454; have qi454 : (0 < l0_1.length) = True := eq_true (by omega); (try rw [show ((0 : Int)).toNat = 0 from rfl] at hx454_0); (try rw [Addr.add_zero'] at hx454_0); replace hx454_0 := (HB.out.cell (World.block_lt_of_cell? w _ hx454_0)).trans hx454_0; have HR454_0 := Aside0.mk hi454_0; have HC454_0 := Aside0.mk hl454_0; clear hi454_0 hl454_0; replace p454 := eq_true p454; replace q454 := eq_true q454))
      go_ret2
      exact ⟨by first | rfl | (simp [errW_none, errW_some] <;> rfl) | (simp [*, errW_none, errW_some] <;> rfl), by repeat (first | (with_reducible first | exact HB.out | apply below_alloc | apply pw_below_drewN | apply below_drew1 | refine below_set ?_ GE452.out) | exact HB.out)⟩
    · rw [if_neg c4] at H
      exact absurd H (by simp)
  · rw [if_neg c3] at H
    have c3b0 : (t453 == 0) = false := beq_eq_false_iff_ne.mpr c3
    have c3b1 : (t453 != 0) = true := bne_iff_ne.mpr c3
    simp only [Option.some.injEq, Prod.mk.injEq] at H
    obtain ⟨rfl, rfl⟩ := H
    go_enter Try.func49, Try.ntmps49
    go_wp2_with (first | ((with_reducible refine gate_dst (N := 1) rfl ?_); refine box_event ?hg (N := 1) ?hd (cs := #[.int .i64 a0_0, .slice A0_1 l0_1.length c0_1]) (t := 49) ?hr ?_; (case hd => rfl); (case hg => rfl); (case hr => first | (go_simp; done) | (go_simp; rfl)); intro gb452 hg w9 hbox hb; have n0_ := Aside0.mk (below_step (by repeat (first | (with_reducible first | exact HB.out | apply below_alloc | apply pw_below_drewN | apply below_drew1) | exact HB.out)) hb); have n1_ := Aside0.mk (hbox); have n2_ := Aside0.mk ((by rw [hg]; exact (below_size (by repeat (first | (with_reducible first | exact HB.out | apply below_alloc | apply pw_below_drewN | apply below_drew1) | exact HB.out))) : w.heap.size ≤ gb452)); have n3_ := Aside0.mk ((by rw [hg]; exact (below_size (by repeat (first | (with_reducible first | exact HB.out | apply below_alloc | apply pw_below_drewN | apply below_drew1) | exact HB.out))) : w.heap.size ≤ gb452)); clear HB; have HB := n0_; have BK452 := n1_; have GW452 := n2_; have GE452 := n3_; clear n0_ n1_ n2_ n3_; clear hb hbox hg; have hcz10_0 : w9.cell? ⟨gb452, 0, none⟩ = some (.int .i64 a0_0) := (blk_cell BK452.out 0).trans rfl; have hcz10_1 : w9.cell? ⟨gb452, 1, none⟩ = some (.slice A0_1 l0_1.length c0_1) := (blk_cell BK452.out 1).trans rfl; have hfz10_0 := blk_frozen BK452.out 0; have hfz10_1 := blk_frozen BK452.out 1) | ((with_reducible refine gate_callee (f := 48) rfl ?_); refine goesL_ (some 6) rfl rfl Try.func48 (by kernel_rfl) rfl #[.agg #[.int .i64 a0_0, .slice A0_1 l0_1.length c0_1]] rfl (by (try simp only [List.map_toArray, List.map_cons, List.map_nil]); first | done | rfl | (simp only [List.length_drop, List.length_take]; rfl)) ?_; (with_reducible refine (h_quant_Check.calls a0_0 _ _ l0_1 t453 _ ?side1 ?side2 A2.out).mono ?_); (case side1 => repeat (first | exact (Kd.C_below HR0_1.out HB.out) | (with_reducible refine Kd.C_alloc ?_ _) | (with_reducible refine Kd.C_drewN ?_ _) | (with_reducible refine Kd.C_drew ?_))); (case side2 => exact HC0_1.out); rintro e w11 ⟨rfl, hb⟩; refine ⟨_, rfl, ?_⟩; have n0_ := Aside0.mk (blk_below (g := gb452) (o := .cells #[.int .i64 a0_0, .slice A0_1 l0_1.length c0_1] 49 (0, 0)) (by (with_reducible repeat (first | refine blk_drewN ?_ _ | refine blk_drew ?_ | refine blk_alloc ?_ _)); exact BK452.out) hb); have n1_ := Aside0.mk (below_step (by repeat (first | (with_reducible first | exact HB.out | apply below_alloc | apply pw_below_drewN | apply below_drew1 | refine below_set ?_ GE452.out) | exact HB.out)) hb); clear BK452; clear HB; have BK452 := n0_; have HB := n1_; clear n0_ n1_; (try clear hb); (try clear hb2); (try clear hk); (try clear hi)))
    go_ret2
    exact ⟨by first | rfl | (simp [errW_none, errW_some] <;> rfl) | (simp [*, errW_none, errW_some] <;> rfl), by repeat (first | (with_reducible first | exact HB.out | apply below_alloc | apply pw_below_drewN | apply below_drew1 | refine below_set ?_ GE452.out) | exact HB.out)⟩

end Go.Proofs.Ytkjibgfgbfacdaa.P
end
/-! part: F37 -/
section
set_option linter.unusedVariables false
set_option linter.unusedSimpArgs false
namespace Go.Proofs.Ytkjibgfgbfacdaa.P
open Go.RowKit Go.Proofs.YtkjibgfgbfacdaaW.PrintWords Go.Proofs.YtkjibgfgbfacdaaW.PrintLast Go.Proofs.YtkjibgfgbfacdaaW.PrintMore
attribute [local go_sem] max2_int min2_int max_two min_two max_three min_three max_four min_four   -- for this text's walks alone
set_option linter.unusedVariables false
set_option linter.unusedSimpArgs false

/-! ### book_Bytes: function 37 -/
mutual
def book_Bytes.l0 : Nat → List Int → List (List Int) → Int → Int → Option (List Int × Int)
  | 0, _, _, _, _ => none
  | k + 1, x6, x40, x41, x42 => if x42 < x41 then (if 0 ≤ x42 then (if x42 < (x40.length : Int) then (book_Bytes.l1 k x6 x40 x41 x42 (rd_L3 x40 x42) ((rd_L3 x40 x42).length : Int) 0) else (none)) else (none)) else (some (x6, 0))
def book_Bytes.l1 : Nat → List Int → List (List Int) → Int → Int → List Int → Int → Int → Option (List Int × Int)
  | 0, _, _, _, _, _, _, _ => none
  | k + 1, x6, x40, x41, x42, x46, x47, x48 => if x48 < x47 then (if 0 ≤ x48 then (if x48 < (x46.length : Int) then ((pack_Put.f k x6 2 (([wrap64 (rd x46 x48)] : List Int))).bind fun bt491 => (if bt491.2 = 0 then (book_Bytes.l1 k bt491.1 x40 x41 x42 x46 x47 (wrap64 (x48 + 1))) else (some (([] : List Int), bt491.2)))) else (none)) else (none)) else (book_Bytes.l0 k x6 x40 x41 (wrap64 (x42 + 1)))
end
def book_Bytes.f (k : Nat) (a0_0 : Int) (l0_1 : List (List Int)) : Option (List Int × Int) := (quant_Cells.f a0_0 l0_1).bind fun bt471 => (if bt471.2 = 0 then ((pack_Put.f k ([] : List Int) 8 (([a0_0] : List Int))).bind fun bt476 => (if bt476.2 = 0 then ((some (([((l0_1.length : Int)) % 256, (wrap64 (bt471.1 - 1)) % 256] : List Int) : List Int)).bind fun y480 => (if bt476.1.length + y480.length < 140737488355328 then (book_Bytes.l0 k (bt476.1 ++ y480) l0_1 (l0_1.length : Int) 0) else (none))) else (some (([] : List Int), bt476.2)))) else (some (([] : List Int), bt471.2)))
theorem book_Bytes.mono_l : ∀ k, (∀ y0 y1 y2 y3, LeO (book_Bytes.l0 k y0 y1 y2 y3) (book_Bytes.l0 (k + 1) y0 y1 y2 y3)) ∧ (∀ y0 y1 y2 y3 y4 y5 y6, LeO (book_Bytes.l1 k y0 y1 y2 y3 y4 y5 y6) (book_Bytes.l1 (k + 1) y0 y1 y2 y3 y4 y5 y6))
  | 0 => ⟨fun _ _ _ _ r h => by simp [book_Bytes.l0] at h, fun _ _ _ _ _ _ _ r h => by simp [book_Bytes.l1] at h⟩
  | k + 1 => by
    obtain ⟨ih0, ih1⟩ := book_Bytes.mono_l k
    refine ⟨?_, ?_⟩
    · intro y0 y1 y2 y3
      unfold book_Bytes.l0
      repeat' first
      | (with_reducible exact ih0 _ _ _ _)
      | (with_reducible exact ih1 _ _ _ _ _ _ _)
      | (with_reducible exact pack_Put.mono _ _ _ _)
      | (with_reducible exact LeO.refl _)
      | (with_reducible exact LeO.none _)
      | (with_reducible refine LeO.ite ?_ ?_)
      | (with_reducible refine LeO.bind ?_ (fun _ => ?_))
      | exact ih0 _ _ _ _
      | exact ih1 _ _ _ _ _ _ _
      | exact pack_Put.mono _ _ _ _
      | exact LeO.none _
      | refine LeO.ite ?_ ?_
      | refine LeO.bind ?_ (fun _ => ?_)
    · intro y0 y1 y2 y3 y4 y5 y6
      unfold book_Bytes.l1
      repeat' first
      | (with_reducible exact ih0 _ _ _ _)
      | (with_reducible exact ih1 _ _ _ _ _ _ _)
      | (with_reducible exact pack_Put.mono _ _ _ _)
      | (with_reducible exact LeO.refl _)
      | (with_reducible exact LeO.none _)
      | (with_reducible refine LeO.ite ?_ ?_)
      | (with_reducible refine LeO.bind ?_ (fun _ => ?_))
      | exact ih0 _ _ _ _
      | exact ih1 _ _ _ _ _ _ _
      | exact pack_Put.mono _ _ _ _
      | exact LeO.none _
      | refine LeO.ite ?_ ?_
      | refine LeO.bind ?_ (fun _ => ?_)
theorem book_Bytes.mono : ∀ a0 a1 k, LeO (book_Bytes.f k a0 a1) (book_Bytes.f (k + 1) a0 a1) := by
  intro a0 a1 k
  obtain ⟨ih0, ih1⟩ := book_Bytes.mono_l k
  unfold book_Bytes.f
  repeat' first
      | (with_reducible exact ih0 _ _ _ _)
      | (with_reducible exact ih1 _ _ _ _ _ _ _)
      | (with_reducible exact pack_Put.mono _ _ _ _)
      | (with_reducible exact LeO.refl _)
      | (with_reducible exact LeO.none _)
      | (with_reducible refine LeO.ite ?_ ?_)
      | (with_reducible refine LeO.bind ?_ (fun _ => ?_))
      | exact ih0 _ _ _ _
      | exact ih1 _ _ _ _ _ _ _
      | exact pack_Put.mono _ _ _ _
      | exact LeO.none _
      | refine LeO.ite ?_ ?_
      | refine LeO.bind ?_ (fun _ => ?_)
set_option maxHeartbeats 8000000 in
set_option maxRecDepth 100000 in
theorem book_Bytes.calls (k : Nat) (a0_0 : Int) (A0_1 : Option Addr) (c0_1 : Nat) (l0_1 : List (List Int)) (r1 : List Int) (r2 : Int) (w : World) (hr0_1 : Kd.C (Kd.slice 74 (Kd.int .i16)) w A0_1 l0_1.length l0_1) (hc0_1 : l0_1.length ≤ c0_1) (h : book_Bytes.f k a0_0 l0_1 = some (r1, r2)) :
    Calls Try.prog 37 #[.agg #[.int .i64 a0_0, .slice A0_1 l0_1.length c0_1]] w fun e w' => ∃ v0_ : Value, e = .returned (.tuple #[v0_, .int .i64 r2]) ∧ Kd.R (Kd.int .u8) 5 w' w.heap.size (fun _ => True) v0_ r1 ∧ Below w.heap.size w w' := by
  have hu49 := Try.underlying49
  have HR0_1 := Aside0.mk hr0_1
  have HC0_1 := Aside0.mk hc0_1
  clear hr0_1 hc0_1
  have HB := Aside0.mk (Below.refl w.heap.size w)
  have H : ((quant_Cells.f a0_0 l0_1).bind fun bt471 => (if bt471.2 = 0 then ((pack_Put.f k ([] : List Int) 8 (([a0_0] : List Int))).bind fun bt476 => (if bt476.2 = 0 then ((some (([((l0_1.length : Int)) % 256, (wrap64 (bt471.1 - 1)) % 256] : List Int) : List Int)).bind fun y480 => (if bt476.1.length + y480.length < 140737488355328 then (book_Bytes.l0 k (bt476.1 ++ y480) l0_1 (l0_1.length : Int) 0) else (none))) else (some (([] : List Int), bt476.2)))) else (some (([] : List Int), bt471.2)))) = some (r1, r2) := h
  clear h
  replace H := Option.bind_eq_some_iff.mp H
  obtain ⟨⟨t471, t472⟩, A20, H⟩ := H
  replace H : (if t472 = 0 then ((pack_Put.f k ([] : List Int) 8 (([a0_0] : List Int))).bind fun bt476 => (if bt476.2 = 0 then ((some (([((l0_1.length : Int)) % 256, (wrap64 (t471 - 1)) % 256] : List Int) : List Int)).bind fun y480 => (if bt476.1.length + y480.length < 140737488355328 then (book_Bytes.l0 k (bt476.1 ++ y480) l0_1 (l0_1.length : Int) 0) else (none))) else (some (([] : List Int), bt476.2)))) else (some (([] : List Int), t472))) = some (r1, r2) := H
  have A2 := Aside0.mk A20
  clear A20
  by_cases c3 : t472 = 0
  · rw [if_pos c3] at H
    have c3b0 : (t472 == 0) = true := beq_iff_eq.mpr c3
    have c3b1 : (t472 != 0) = false := bne_eq_false_iff_eq.mpr c3
    clear c3
    obtain ⟨y473, hy473⟩ : ∃ y_ : List Int, y_ = (([a0_0] : List Int)) := ⟨_, rfl⟩
    replace H : ((pack_Put.f k ([] : List Int) 8 y473).bind fun bt476 => (if bt476.2 = 0 then ((some (([((l0_1.length : Int)) % 256, (wrap64 (t471 - 1)) % 256] : List Int) : List Int)).bind fun y480 => (if bt476.1.length + y480.length < 140737488355328 then (book_Bytes.l0 k (bt476.1 ++ y480) l0_1 (l0_1.length : Int) 0) else (none))) else (some (([] : List Int), bt476.2)))) = some (r1, r2) := by first | (rw [hy473]; with_reducible exact H) | (have H2_ := (Option.bind_some _ _).symm.trans H; rw [hy473]; with_reducible exact H2_) | (have H2_ := (Option.bind_some _ _).symm.trans H; with_reducible exact H2_) | with_reducible exact H | (rw [hy473]; exact H) | exact H
    have Ny473 := Aside0.mk hy473
    clear hy473
    replace H := Option.bind_eq_some_iff.mp H
    obtain ⟨⟨t476, t477⟩, A40, H⟩ := H
    replace H : (if t477 = 0 then ((some (([((l0_1.length : Int)) % 256, (wrap64 (t471 - 1)) % 256] : List Int) : List Int)).bind fun y480 => (if t476.length + y480.length < 140737488355328 then (book_Bytes.l0 k (t476 ++ y480) l0_1 (l0_1.length : Int) 0) else (none))) else (some (([] : List Int), t477))) = some (r1, r2) := H
    have A4 := Aside0.mk A40
    clear A40
    by_cases c5 : t477 = 0
    · rw [if_pos c5] at H
      have c5b0 : (t477 == 0) = true := beq_iff_eq.mpr c5
      have c5b1 : (t477 != 0) = false := bne_eq_false_iff_eq.mpr c5
      clear c5
      obtain ⟨y480, hy480⟩ : ∃ y_ : List Int, y_ = (([((l0_1.length : Int)) % 256, (wrap64 (t471 - 1)) % 256] : List Int)) := ⟨_, rfl⟩
      replace H : (if t476.length + y480.length < 140737488355328 then (book_Bytes.l0 k (t476 ++ y480) l0_1 (l0_1.length : Int) 0) else (none)) = some (r1, r2) := by first | (rw [hy480]; with_reducible exact H) | (have H2_ := (Option.bind_some _ _).symm.trans H; rw [hy480]; with_reducible exact H2_) | (have H2_ := (Option.bind_some _ _).symm.trans H; with_reducible exact H2_) | with_reducible exact H | (rw [hy480]; exact H) | exact H
      have Ny480 := Aside0.mk hy480
      clear hy480
      by_cases c6 : t476.length + y480.length < 140737488355328
      · rw [if_pos c6] at H
        have LMc6 := Aside0.mk c6
        clear c6
        obtain ⟨y483, hy483⟩ : ∃ y_ : List Int, y_ = (t476 ++ y480) := ⟨_, rfl⟩
        replace H : (book_Bytes.l0 k y483 l0_1 (l0_1.length : Int) 0) = some (r1, r2) := by first | (rw [hy483]; with_reducible exact H) | (have H2_ := (Option.bind_some _ _).symm.trans H; rw [hy483]; with_reducible exact H2_) | (have H2_ := (Option.bind_some _ _).symm.trans H; with_reducible exact H2_) | with_reducible exact H | (rw [hy483]; exact H) | exact H
        have Ny483 := Aside0.mk hy483
        clear hy483
        have H' := Aside0.mk H
        clear H
        go_enter Try.func37, Try.ntmps37
        go_wp2_with (first | ((with_reducible refine gate_dst (N := 1) rfl ?_); refine box_event ?hg (N := 1) ?hd (cs := #[.int .i64 a0_0, .slice A0_1 l0_1.length c0_1]) (t := 49) ?hr ?_; (case hd => rfl); (case hg => rfl); (case hr => first | (go_simp; done) | (go_simp; rfl)); intro gb470 hg w7 hbox hb; have n0_ := Aside0.mk (below_step (by repeat (first | (with_reducible first | exact HB.out | apply below_alloc | apply pw_below_drewN | apply below_drew1) | exact HB.out)) hb); have n1_ := Aside0.mk (hbox); have n2_ := Aside0.mk ((by rw [hg]; exact (below_size (by repeat (first | (with_reducible first | exact HB.out | apply below_alloc | apply pw_below_drewN | apply below_drew1) | exact HB.out))) : w.heap.size ≤ gb470)); have n3_ := Aside0.mk ((by rw [hg]; exact (below_size (by repeat (first | (with_reducible first | exact HB.out | apply below_alloc | apply pw_below_drewN | apply below_drew1) | exact HB.out))) : w.heap.size ≤ gb470)); clear HB; have HB := n0_; have BK470 := n1_; have GW470 := n2_; have GE470 := n3_; clear n0_ n1_ n2_ n3_; clear hb hbox hg; have hcz8_0 : w7.cell? ⟨gb470, 0, none⟩ = some (.int .i64 a0_0) := (blk_cell BK470.out 0).trans rfl; have hcz8_1 : w7.cell? ⟨gb470, 1, none⟩ = some (.slice A0_1 l0_1.length c0_1) := (blk_cell BK470.out 1).trans rfl; have hfz8_0 := blk_frozen BK470.out 0; have hfz8_1 := blk_frozen BK470.out 1) | ((with_reducible refine gate_callee (f := 49) rfl ?_); refine goesL_ (some 13) rfl rfl Try.func49 (by kernel_rfl) rfl #[.agg #[.int .i64 a0_0, .slice A0_1 l0_1.length c0_1]] rfl (by (try simp only [List.map_toArray, List.map_cons, List.map_nil]); first | done | rfl | (simp only [List.length_drop, List.length_take]; rfl)) ?_; (with_reducible refine (quant_Cells.calls a0_0 _ _ l0_1 t471 t472 _ ?side1 ?side2 A2.out).mono ?_); (case side1 => repeat (first | exact (Kd.C_below HR0_1.out HB.out) | (with_reducible refine Kd.C_alloc ?_ _) | (with_reducible refine Kd.C_drewN ?_ _) | (with_reducible refine Kd.C_drew ?_))); (case side2 => exact HC0_1.out); rintro e w9 ⟨rfl, hb⟩; refine ⟨_, rfl, ?_⟩; have n0_ := Aside0.mk (blk_below (g := gb470) (o := .cells #[.int .i64 a0_0, .slice A0_1 l0_1.length c0_1] 49 (0, 0)) (by (with_reducible repeat (first | refine blk_drewN ?_ _ | refine blk_drew ?_ | refine blk_alloc ?_ _)); exact BK470.out) hb); have n1_ := Aside0.mk (below_step (by repeat (first | (with_reducible first | exact HB.out | apply below_alloc | apply pw_below_drewN | apply below_drew1 | refine below_set ?_ GE470.out) | exact HB.out)) hb); clear BK470; clear HB; have BK470 := n0_; have HB := n1_; clear n0_ n1_; (try clear hb); (try clear hb2); (try clear hk); (try clear hi); have hcz10_0 : w9.cell? ⟨gb470, 0, none⟩ = some (.int .i64 a0_0) := (blk_cell BK470.out 0).trans rfl; have hcz10_1 : w9.cell? ⟨gb470, 1, none⟩ = some (.slice A0_1 l0_1.length c0_1) := (blk_cell BK470.out 1).trans rfl; have hfz10_0 := blk_frozen BK470.out 0; have hfz10_1 := blk_frozen BK470.out 1) | ((with_reducible refine gate_dst (N := 22) rfl ?_); refine Kd.R_lit (Kd.int .i64) _ 2 ?hg (N := 22) ?hd (xs := ([a0_0] : List Int)) (inner := [.int .i64 a0_0]) (ok := fun _ => True) (okp := fun _ => True) ?hr ?hp (fun _ hk => hk) trivial (Below.refl _ _) (Nat.le_refl _) (by simp) ?_; (case hd => rfl); (case hg => rfl); (case hr => first | (go_simp; done) | (go_simp; rfl)); (case hp => exact (Reps.one (show Kd.M (Kd.int .i64) _ _ _ a0_0 [.int .i64 a0_0] from rfl) (Reps.none _ _))); intro v474 w11 ho12 hb hg_ hnew_; clear hg_ hnew_; (first | rw [← Ny473.out] at ho12 | (simp only [Int.reduceToNat] at ho12; rw [← Ny473.out] at ho12)); have n0_ := Aside0.mk (Kd.R_lower ho12 (below_size (by repeat (first | (with_reducible first | exact HB.out | apply below_alloc | apply pw_below_drewN | apply below_drew1 | refine below_set ?_ GE470.out) | exact HB.out)))); have n1_ := Aside0.mk (blk_below (g := gb470) (o := .cells #[.int .i64 a0_0, .slice A0_1 l0_1.length c0_1] 49 (0, 0)) (by (with_reducible repeat (first | refine blk_drewN ?_ _ | refine blk_drew ?_ | refine blk_alloc ?_ _)); exact BK470.out) hb); have n2_ := Aside0.mk (below_step (by repeat (first | (with_reducible first | exact HB.out | apply below_alloc | apply pw_below_drewN | apply below_drew1 | refine below_set ?_ GE470.out) | exact HB.out)) hb); clear BK470; clear HB; have HO475 := n0_; have BK470 := n1_; have HB := n2_; clear n0_ n1_ n2_; clear hb ho12; obtain ⟨Ao13, co13, eo13⟩ := Kd.R_slice HO475.out; subst eo13) | ((with_reducible refine gate_callee (f := 102) rfl ?_); refine goesL_ (some 23) rfl rfl Try.func102 (by kernel_rfl) rfl #[.slice none 0 0, .int .i64 8, .slice Ao13 y473.length co13] rfl (by (try simp only [List.map_toArray, List.map_cons, List.map_nil]); first | done | rfl | (simp only [List.length_drop, List.length_take]; rfl)) ?_; (refine (pack_Put.calls k _ _ ([] : List Int) 8 _ _ y473 t476 t477 _ ?side1 ?side2 ?side3 ?side4 A4.out).mono ?_); (case side1 => exact Kd.C_nil _ _); (case side2 => exact Nat.le_refl _); (case side3 => repeat (first | exact (Kd.R_reads' HO475.out).2.2 | (with_reducible refine Kd.C_alloc ?_ _) | (with_reducible refine Kd.C_drewN ?_ _) | (with_reducible refine Kd.C_drew ?_))); (case side4 => exact (Kd.R_reads' HO475.out).2.1); rintro e w14 ⟨v478, rfl, ho0, hb⟩; refine ⟨_, rfl, ?_⟩; have n0_ := Aside0.mk (Kd.R_below (by (with_reducible repeat (first | apply Kd.R_alloc | apply Kd.R_drewN | apply Kd.R_drew)); exact HO475.out) hb); have n1_ := Aside0.mk (Kd.R_lower ho0 (below_size (by repeat (first | (with_reducible first | exact HB.out | apply below_alloc | apply pw_below_drewN | apply below_drew1 | refine below_set ?_ GE470.out) | exact HB.out)))); have n2_ := Aside0.mk (blk_below (g := gb470) (o := .cells #[.int .i64 a0_0, .slice A0_1 l0_1.length c0_1] 49 (0, 0)) (by (with_reducible repeat (first | refine blk_drewN ?_ _ | refine blk_drew ?_ | refine blk_alloc ?_ _)); exact BK470.out) hb); have n3_ := Aside0.mk (below_step (by repeat (first | (with_reducible first | exact HB.out | apply below_alloc | apply pw_below_drewN | apply below_drew1 | refine below_set ?_ GE470.out) | exact HB.out)) hb); clear HO475; clear BK470; clear HB; have HO475 := n0_; have HO479 := n1_; have BK470 := n2_; have HB := n3_; clear n0_ n1_ n2_ n3_; (try clear hb); (try clear hb2); (try clear hk); (try clear hi); (try clear ho0); have hcz15_0 : w14.cell? ⟨gb470, 0, none⟩ = some (.int .i64 a0_0) := (blk_cell BK470.out 0).trans rfl; have hcz15_1 : w14.cell? ⟨gb470, 1, none⟩ = some (.slice A0_1 l0_1.length c0_1) := (blk_cell BK470.out 1).trans rfl; have hfz15_0 := blk_frozen BK470.out 0; have hfz15_1 := blk_frozen BK470.out 1) | ((with_reducible refine gate_dst (N := 37) rfl ?_); refine Kd.R_lit (Kd.int .u8) _ 5 ?hg (N := 37) ?hd (xs := ([((l0_1.length : Int)) % 256, (wrap64 (t471 - 1)) % 256] : List Int)) (inner := [.int .u8 (((l0_1.length : Int)) % 256), .int .u8 ((wrap64 (t471 - 1)) % 256)]) (ok := fun _ => True) (okp := fun _ => True) ?hr ?hp (fun _ hk => hk) trivial (Below.refl _ _) (Nat.le_refl _) (by simp) ?_; (case hd => rfl); (case hg => rfl); (case hr => first | (go_simp; done) | (go_simp; rfl)); (case hp => exact (Reps.one (show Kd.M (Kd.int .u8) _ _ _ (((l0_1.length : Int)) % 256) [.int .u8 (((l0_1.length : Int)) % 256)] from rfl) (Reps.one (show Kd.M (Kd.int .u8) _ _ _ ((wrap64 (t471 - 1)) % 256) [.int .u8 ((wrap64 (t471 - 1)) % 256)] from rfl) (Reps.none _ _)))); intro v481 w16 ho17 hb hg_ hnew_; clear hg_ hnew_; (first | rw [← Ny480.out] at ho17 | (simp only [Int.reduceToNat] at ho17; rw [← Ny480.out] at ho17)); have n0_ := Aside0.mk (Kd.R_below (by (with_reducible repeat (first | apply Kd.R_alloc | apply Kd.R_drewN | apply Kd.R_drew)); exact HO475.out) hb); have n1_ := Aside0.mk (Kd.R_elder' (by (with_reducible repeat (first | apply Kd.R_alloc | apply Kd.R_drewN | apply Kd.R_drew)); exact HO479.out) (Kd.R_base ho17) hb); have n2_ := Aside0.mk (Kd.R_lower (Kd.R_new' ho17 (Kd.R_lt (by (with_reducible repeat (first | apply Kd.R_alloc | apply Kd.R_drewN | apply Kd.R_drew)); exact HO479.out))) (below_size (by repeat (first | (with_reducible first | exact HB.out | apply below_alloc | apply pw_below_drewN | apply below_drew1 | refine below_set ?_ GE470.out) | exact HB.out)))); have n3_ := Aside0.mk (blk_below (g := gb470) (o := .cells #[.int .i64 a0_0, .slice A0_1 l0_1.length c0_1] 49 (0, 0)) (by (with_reducible repeat (first | refine blk_drewN ?_ _ | refine blk_drew ?_ | refine blk_alloc ?_ _)); exact BK470.out) hb); have n4_ := Aside0.mk (below_step (by repeat (first | (with_reducible first | exact HB.out | apply below_alloc | apply pw_below_drewN | apply below_drew1 | refine below_set ?_ GE470.out) | exact HB.out)) hb); clear HO475; clear HO479; clear BK470; clear HB; have HO475 := n0_; have HO479 := n1_; have HO482 := n2_; have BK470 := n3_; have HB := n4_; clear n0_ n1_ n2_ n3_ n4_; clear hb ho17; obtain ⟨Ao19, co19, eo19⟩ := Kd.R_slice HO482.out; subst eo19) | ((with_reducible refine gate_builtin (b := .append) (xs := #[.tmp 29, .tmp 37]) rfl ?_); at_builtin; refine Kd.R_append_rows (Kd.int .u8) (w0 := w) w.heap.size rfl (.tmp 29) (.tmp 37) 50 5 (.int .u8 0) 1 rfl Try.underlying50 info5 rfl (by decide) (by omega) v478 t476 y480 _ _ _ (fun k_ => some k_ ≠ (.slice Ao19 y480.length co19 : Value).ownBlock) (fun _ => False) rfl rfl ?aO ?aR (fun _ _ h => h) (fun _ h => h.elim) ?aF ?aB ?aS ?aL ?_; (case aR => repeat (first | exact (Kd.R_reads' HO482.out).2.2 | (with_reducible refine Kd.C_alloc ?_ _) | (with_reducible refine Kd.C_drewN ?_ _) | (with_reducible refine Kd.C_drew ?_))); (case aB => exact (by repeat (first | (with_reducible first | exact HB.out | apply below_alloc | apply pw_below_drewN | apply below_drew1 | refine below_set ?_ GE470.out) | exact HB.out))); (case aF => exact (fun k_ hk => Kd.fresh' (Kd.R_lt (by (with_reducible repeat (first | apply Kd.R_alloc | apply Kd.R_drewN | apply Kd.R_drew)); exact HO482.out)) k_ hk)); (case aO => exact (by (with_reducible repeat (first | apply Kd.R_alloc | apply Kd.R_drewN | apply Kd.R_drew)); exact Kd.R_mono HO479.out (fun _ hk => hk.2))); (case aS => exact (below_size (by repeat (first | (with_reducible first | exact HB.out | apply below_alloc | apply pw_below_drewN | apply below_drew1 | refine below_set ?_ GE470.out) | exact HB.out)))); (case aL => have := LMc6.out; omega); intro v484 w18 ho hb hg hat; rw [← Ny483.out] at ho; have n0_ := Aside0.mk (blk_grown (g := gb470) (o := .cells #[.int .i64 a0_0, .slice A0_1 l0_1.length c0_1] 49 (0, 0)) (by (with_reducible repeat (first | refine blk_drewN ?_ _ | refine blk_drew ?_ | refine blk_alloc ?_ _)); exact BK470.out) hg (Kd.R_ne HO479.out BK470.out (by decide))); have n1_ := Aside0.mk (Kd.R_over' (by (with_reducible repeat (first | apply Kd.R_alloc | apply Kd.R_drewN | apply Kd.R_drew)); exact HO475.out) (Kd.R_typed (by (with_reducible repeat (first | apply Kd.R_alloc | apply Kd.R_drewN | apply Kd.R_drew)); exact HO479.out)) (by decide) hg); have n2_ := Aside0.mk (Kd.R_after (ok := (fun _ => True)) (by (with_reducible repeat (first | apply Kd.R_alloc | apply Kd.R_drewN | apply Kd.R_drew)); exact HO482.out) hg hat); have n3_ := Aside0.mk (hb); have n4_ := Aside0.mk (ho); clear BK470; clear HO475; clear HO482; clear HB; clear HO479; have BK470 := n0_; have HO475 := n1_; have HO482 := n2_; have HB := n3_; have HO485 := n4_; clear n0_ n1_ n2_ n3_ n4_; clear ho hb hg hat; have hcz20_0 : w18.cell? ⟨gb470, 0, none⟩ = some (.int .i64 a0_0) := (blk_cell BK470.out 0).trans rfl; have hcz20_1 : w18.cell? ⟨gb470, 1, none⟩ = some (.slice A0_1 l0_1.length c0_1) := (blk_cell BK470.out 1).trans rfl; have hfz20_0 := blk_frozen BK470.out 0; have hfz20_1 := blk_frozen BK470.out 1))
        go_loopg [6, 42] k (fun kq v6 v42 w' => ∃ (x6_1 : List Int) (x42_1 : Int), v42 = .int .i64 x42_1 ∧ Aside0 (book_Bytes.l0 kq x6_1 l0_1 (l0_1.length : Int) x42_1 = some (r1, r2)) ∧ Aside0 (kq ≤ k) ∧ Aside0 (Kd.R (Kd.int .u8) 5 w' w.heap.size (fun _ => True) v6 x6_1) ∧ Aside0 (w'.heap[gb470]? = some (.cells #[.int .i64 a0_0, (.slice A0_1 l0_1.length c0_1)] 49 (0, 0))) ∧ Aside0 (Below w.heap.size w w'))
        case atStart => exact ⟨(y483), (0), (by first | rfl | (simp; done) | (simp [*]; done)), H', ⟨Nat.le_refl _⟩, ⟨by (with_reducible repeat (first | apply Kd.R_alloc | apply Kd.R_drewN | apply Kd.R_drew)); exact Kd.R_mono HO485.out (fun _ hk => trivial)⟩, ⟨by (with_reducible repeat (first | refine blk_drewN ?_ _ | refine blk_drew ?_ | refine blk_alloc ?_ _)); exact BK470.out⟩, ⟨by repeat (first | (with_reducible first | exact HB.out | apply below_alloc | apply pw_below_drewN | apply below_drew1 | refine below_set ?_ GE470.out) | exact HB.out)⟩⟩
        case round =>
          clear H'
          try clear c1
          try clear p2
          try clear c3
          try clear c3b0
          try clear c3b1
          try clear c4
          try clear c5
          try clear c5b0
          try clear c5b1
          try clear c6
          try clear p6
          try clear c10
          try clear hcz10_0
          try clear hcz10_1
          try clear hcz15_0
          try clear hcz15_1
          try clear hcz20_0
          try clear hcz20_1
          try clear hcz8_0
          try clear hcz8_1
          try clear hfz10_0
          try clear hfz10_1
          try clear hfz15_0
          try clear hfz15_1
          try clear hfz20_0
          try clear hfz20_1
          try clear hfz8_0
          try clear hfz8_1
          obtain ⟨x6_1, x42_1, rfl, HA, HK1, HO_6, BK470, HB⟩ := hrel
          cases gk with
          | zero => exact absurd HA.out (by simp [book_Bytes.l0])
          | succ k1 =>
            have H := HA.out
            clear HA
            simp only [book_Bytes.l0] at H
            by_cases c21 : x42_1 < (l0_1.length : Int)
            · rw [if_pos c21] at H
              have c21b0 : decide (x42_1 < (l0_1.length : Int)) = true := decide_eq_true c21
              clear c21
              by_cases c22 : 0 ≤ x42_1
              · rw [if_pos c22] at H
                have c22b0 : decide (0 ≤ x42_1) = true := decide_eq_true c22
                clear c22
                by_cases c23 : x42_1 < (l0_1.length : Int)
                · rw [if_pos c23] at H
                  have c23b0 : decide (x42_1 < (l0_1.length : Int)) = true := decide_eq_true c23
                  clear c23
                  have H' := Aside0.mk H
                  clear H
                  have p486 : 0 ≤ (x42_1 : Int) := of_decide_eq_true (by first | (with_reducible assumption) | assumption)
                  have q486 : x42_1 < (l0_1.length : Int) := of_decide_eq_true (by first | (with_reducible assumption) | assumption)
                  obtain ⟨ad486, A486_0, c486_0, e486, hx486_0, hl486_0, hi486_0⟩ := at_L3 HR0_1.out x42_1 p486 q486
                  cases e486
                  (try replace hx486_0 := (HB.out.cell (World.block_lt_of_cell? w _ hx486_0)).trans hx486_0)
                  have HR486_0 := Aside0.mk hi486_0
                  have HC486_0 := Aside0.mk hl486_0
                  clear hi486_0 hl486_0
                  replace p486 := eq_true p486
                  replace q486 := eq_true q486
                  go_wp2
                  go_loopg [6, 48] k1 (fun kq v6 v48 w' => ∃ (x6_2 : List Int) (x48_2 : Int), v48 = .int .i64 x48_2 ∧ Aside0 (book_Bytes.l1 kq x6_2 l0_1 (l0_1.length : Int) x42_1 (rd_L3 l0_1 x42_1) ((rd_L3 l0_1 x42_1).length : Int) x48_2 = some (r1, r2)) ∧ Aside0 (kq ≤ k1) ∧ Aside0 (Kd.R (Kd.int .u8) 5 w' w.heap.size (fun _ => True) v6 x6_2) ∧ Aside0 (w'.heap[gb470]? = some (.cells #[.int .i64 a0_0, (.slice (some ad486) l0_1.length c0_1)] 49 (0, 0))) ∧ Aside0 (Below w.heap.size w w'))
                  case atStart => exact ⟨(x6_1), (0), (by first | rfl | (simp; done) | (simp [*]; done)), H', ⟨Nat.le_refl _⟩, ⟨by (with_reducible repeat (first | apply Kd.R_alloc | apply Kd.R_drewN | apply Kd.R_drew)); exact HO_6.out⟩, ⟨by (with_reducible repeat (first | refine blk_drewN ?_ _ | refine blk_drew ?_ | refine blk_alloc ?_ _)); exact BK470.out⟩, ⟨by repeat (first | (with_reducible first | exact HB.out | apply below_alloc | apply pw_below_drewN | apply below_drew1 | refine below_set ?_ GE470.out) | exact HB.out)⟩⟩
                  case round =>
                    clear H'
                    try clear c1
                    try clear c2
                    try clear p2
                    try clear c3
                    try clear c3b0
                    try clear c3b1
                    try clear c4
                    try clear p4
                    try clear q4
                    try clear hx4
                    try clear c5
                    try clear c5b0
                    try clear c5b1
                    try clear c6
                    try clear p6
                    try clear c10
                    try clear c21
                    try clear c21b0
                    try clear c22
                    try clear c22b0
                    try clear c23
                    try clear c23b0
                    try clear hcz10_0
                    try clear hcz10_1
                    try clear hcz15_0
                    try clear hcz15_1
                    try clear hcz20_0
                    try clear hcz20_1
                    try clear hcz8_0
                    try clear hcz8_1
                    try clear hfz10_0
                    try clear hfz10_1
                    try clear hfz15_0
                    try clear hfz15_1
                    try clear hfz20_0
                    try clear hfz20_1
                    try clear hfz8_0
                    try clear hfz8_1
                    try clear hx486_0
                    try clear p2
                    try clear p486
                    try clear p6
                    try clear q486
                    obtain ⟨x6_2, x48_2, rfl, HA, HK2, HO_6, BK470, HB⟩ := hrel
                    cases gk with
                    | zero => exact absurd HA.out (by simp [book_Bytes.l1])
                    | succ k2 =>
                      have H := HA.out
                      clear HA
                      simp only [book_Bytes.l1] at H
                      by_cases c24 : x48_2 < ((rd_L3 l0_1 x42_1).length : Int)
                      · rw [if_pos c24] at H
                        have c24b0 : decide (x48_2 < ((rd_L3 l0_1 x42_1).length : Int)) = true := decide_eq_true c24
                        clear c24
                        by_cases c25 : 0 ≤ x48_2
                        · rw [if_pos c25] at H
                          have c25b0 : decide (0 ≤ x48_2) = true := decide_eq_true c25
                          clear c25
                          by_cases c26 : x48_2 < ((rd_L3 l0_1 x42_1).length : Int)
                          · rw [if_pos c26] at H
                            have c26b0 : decide (x48_2 < ((rd_L3 l0_1 x42_1).length : Int)) = true := decide_eq_true c26
                            clear c26
                            obtain ⟨y488, hy488⟩ : ∃ y_ : List Int, y_ = (([wrap64 (rd (rd_L3 l0_1 x42_1) x48_2)] : List Int)) := ⟨_, rfl⟩
                            replace H : ((pack_Put.f k2 x6_2 2 y488).bind fun bt491 => (if bt491.2 = 0 then (book_Bytes.l1 k2 bt491.1 l0_1 (l0_1.length : Int) x42_1 (rd_L3 l0_1 x42_1) ((rd_L3 l0_1 x42_1).length : Int) (wrap64 (x48_2 + 1))) else (some (([] : List Int), bt491.2)))) = some (r1, r2) := by first | (rw [hy488]; with_reducible exact H) | (have H2_ := (Option.bind_some _ _).symm.trans H; rw [hy488]; with_reducible exact H2_) | (have H2_ := (Option.bind_some _ _).symm.trans H; with_reducible exact H2_) | with_reducible exact H | (rw [hy488]; exact H) | exact H
                            have Ny488 := Aside0.mk hy488
                            clear hy488
                            replace H := Option.bind_eq_some_iff.mp H
                            obtain ⟨⟨t491, t492⟩, A270, H⟩ := H
                            replace H : (if t492 = 0 then (book_Bytes.l1 k2 t491 l0_1 (l0_1.length : Int) x42_1 (rd_L3 l0_1 x42_1) ((rd_L3 l0_1 x42_1).length : Int) (wrap64 (x48_2 + 1))) else (some (([] : List Int), t492))) = some (r1, r2) := H
                            have A27 := Aside0.mk A270
                            clear A270
                            by_cases c28 : t492 = 0
                            · rw [if_pos c28] at H
                              have c28b0 : (t492 == 0) = true := beq_iff_eq.mpr c28
                              have c28b1 : (t492 != 0) = false := bne_eq_false_iff_eq.mpr c28
                              clear c28
                              have H' := Aside0.mk H
                              clear H
                              have p487 : 0 ≤ (x48_2 : Int) := of_decide_eq_true (by first | (with_reducible assumption) | assumption)
                              have q487 : x48_2 < ((rd_L3 l0_1 x42_1).length : Int) := of_decide_eq_true (by first | (with_reducible assumption) | assumption)
                              obtain ⟨ad487, e487, hx487_0⟩ := Kd.at_int HR486_0.out x48_2 p487 q487
                              cases e487
                              (try replace hx487_0 := (HB.out.cell (World.block_lt_of_cell? w _ hx487_0)).trans hx487_0)
                              replace p487 := eq_true p487
                              replace q487 := eq_true q487
                              go_wp2_with (first | ((with_reducible refine gate_dst (N := 56) rfl ?_); refine Kd.R_lit (Kd.int .i64) _ 2 ?hg (N := 56) ?hd (xs := ([wrap64 (rd (rd_L3 l0_1 x42_1) x48_2)] : List Int)) (inner := [.int .i64 (wrap64 (rd (rd_L3 l0_1 x42_1) x48_2))]) (ok := fun _ => True) (okp := fun _ => True) ?hr ?hp (fun _ hk => hk) trivial (Below.refl _ _) (Nat.le_refl _) (by simp) ?_; (case hd => rfl); (case hg => rfl); (case hr => first | (go_simp; done) | (go_simp; rfl)); (case hp => exact (Reps.one (show Kd.M (Kd.int .i64) _ _ _ (wrap64 (rd (rd_L3 l0_1 x42_1) x48_2)) [.int .i64 (wrap64 (rd (rd_L3 l0_1 x42_1) x48_2))] from rfl) (Reps.none _ _))); intro v489 w29 ho30 hb hg_ hnew_; clear hg_ hnew_; (first | rw [← Ny488.out] at ho30 | (simp only [Int.reduceToNat] at ho30; rw [← Ny488.out] at ho30)); have n0_ := Aside0.mk (Kd.R_below (by (with_reducible repeat (first | apply Kd.R_alloc | apply Kd.R_drewN | apply Kd.R_drew)); exact HO_6.out) hb); have n1_ := Aside0.mk (Kd.R_lower ho30 (below_size (by repeat (first | (with_reducible first | exact HB.out | apply below_alloc | apply pw_below_drewN | apply below_drew1 | refine below_set ?_ GE470.out) | exact HB.out)))); have n2_ := Aside0.mk (blk_below (g := gb470) (o := .cells #[.int .i64 a0_0, .slice (some ad486) l0_1.length c0_1] 49 (0, 0)) (by (with_reducible repeat (first | refine blk_drewN ?_ _ | refine blk_drew ?_ | refine blk_alloc ?_ _)); exact BK470.out) hb); have n3_ := Aside0.mk (below_step (by repeat (first | (with_reducible first | exact HB.out | apply below_alloc | apply pw_below_drewN | apply below_drew1 | refine below_set ?_ GE470.out) | exact HB.out)) hb); clear HO_6; clear BK470; clear HB; have HO_6 := n0_; have HO490 := n1_; have BK470 := n2_; have HB := n3_; clear n0_ n1_ n2_ n3_; clear hb ho30; obtain ⟨Ao31, co31, eo31⟩ := Kd.R_slice HO_6.out; subst eo31; obtain ⟨Ao32, co32, eo32⟩ := Kd.R_slice HO490.out; subst eo32) | ((with_reducible refine gate_callee (f := 102) rfl ?_); refine goesL_ (some 57) rfl rfl Try.func102 (by kernel_rfl) rfl #[.slice Ao31 x6_2.length co31, .int .i64 2, .slice Ao32 y488.length co32] rfl (by (try simp only [List.map_toArray, List.map_cons, List.map_nil]); first | done | rfl | (simp only [List.length_drop, List.length_take]; rfl)) ?_; (with_reducible refine (pack_Put.calls k2 _ _ x6_2 2 _ _ y488 t491 t492 _ ?side1 ?side2 ?side3 ?side4 A27.out).mono ?_); (case side1 => repeat (first | exact (Kd.R_reads' HO_6.out).2.2 | (with_reducible refine Kd.C_alloc ?_ _) | (with_reducible refine Kd.C_drewN ?_ _) | (with_reducible refine Kd.C_drew ?_))); (case side2 => exact (Kd.R_reads' HO_6.out).2.1); (case side3 => repeat (first | exact (Kd.R_reads' HO490.out).2.2 | (with_reducible refine Kd.C_alloc ?_ _) | (with_reducible refine Kd.C_drewN ?_ _) | (with_reducible refine Kd.C_drew ?_))); (case side4 => exact (Kd.R_reads' HO490.out).2.1); rintro e w33 ⟨v493, rfl, ho0, hb⟩; refine ⟨_, rfl, ?_⟩; have n0_ := Aside0.mk (Kd.R_elder' (by (with_reducible repeat (first | apply Kd.R_alloc | apply Kd.R_drewN | apply Kd.R_drew)); exact HO_6.out) (Kd.R_base ho0) hb); have n1_ := Aside0.mk (Kd.R_below (by (with_reducible repeat (first | apply Kd.R_alloc | apply Kd.R_drewN | apply Kd.R_drew)); exact HO490.out) hb); have n2_ := Aside0.mk (Kd.R_lower (Kd.R_new' ho0 (Kd.R_lt (by (with_reducible repeat (first | apply Kd.R_alloc | apply Kd.R_drewN | apply Kd.R_drew)); exact HO_6.out))) (below_size (by repeat (first | (with_reducible first | exact HB.out | apply below_alloc | apply pw_below_drewN | apply below_drew1 | refine below_set ?_ GE470.out) | exact HB.out)))); have n3_ := Aside0.mk (blk_below (g := gb470) (o := .cells #[.int .i64 a0_0, .slice (some ad486) l0_1.length c0_1] 49 (0, 0)) (by (with_reducible repeat (first | refine blk_drewN ?_ _ | refine blk_drew ?_ | refine blk_alloc ?_ _)); exact BK470.out) hb); have n4_ := Aside0.mk (below_step (by repeat (first | (with_reducible first | exact HB.out | apply below_alloc | apply pw_below_drewN | apply below_drew1 | refine below_set ?_ GE470.out) | exact HB.out)) hb); clear HO_6; clear HO490; clear BK470; clear HB; have HO_6 := n0_; have HO490 := n1_; have HO494 := n2_; have BK470 := n3_; have HB := n4_; clear n0_ n1_ n2_ n3_ n4_; (try clear hb); (try clear hb2); (try clear hk); (try clear hi); (try clear ho0)))
                              go_roundg k2
                              case measure => have := HK1.out; have := HK2.out; omega
                              case rel => exact ⟨(t491), (wrap64 (x48_2 + 1)), (by first | rfl | (simp; done) | (simp [*]; done)), H', ⟨by have := HK1.out; have := HK2.out; omega⟩, ⟨by (with_reducible repeat (first | apply Kd.R_alloc | apply Kd.R_drewN | apply Kd.R_drew)); exact Kd.R_mono HO494.out (fun _ hk => trivial)⟩, ⟨by (with_reducible repeat (first | refine blk_drewN ?_ _ | refine blk_drew ?_ | refine blk_alloc ?_ _)); exact BK470.out⟩, ⟨by repeat (first | (with_reducible first | exact HB.out | apply below_alloc | apply pw_below_drewN | apply below_drew1 | refine below_set ?_ GE470.out) | exact HB.out)⟩⟩
                            · rw [if_neg c28] at H
                              have c28b0 : (t492 == 0) = false := beq_eq_false_iff_ne.mpr c28
                              have c28b1 : (t492 != 0) = true := bne_iff_ne.mpr c28
                              simp only [Option.some.injEq, Prod.mk.injEq] at H
                              obtain ⟨rfl, rfl⟩ := H
                              have p487 : 0 ≤ (x48_2 : Int) := of_decide_eq_true (by first | (with_reducible assumption) | assumption)
                              have q487 : x48_2 < ((rd_L3 l0_1 x42_1).length : Int) := of_decide_eq_true (by first | (with_reducible assumption) | assumption)
                              obtain ⟨ad487, e487, hx487_0⟩ := Kd.at_int HR486_0.out x48_2 p487 q487
                              cases e487
                              (try replace hx487_0 := (HB.out.cell (World.block_lt_of_cell? w _ hx487_0)).trans hx487_0)
                              replace p487 := eq_true p487
                              replace q487 := eq_true q487
                              go_wp2_with (first | ((with_reducible refine gate_dst (N := 56) rfl ?_); refine Kd.R_lit (Kd.int .i64) _ 2 ?hg (N := 56) ?hd (xs := ([wrap64 (rd (rd_L3 l0_1 x42_1) x48_2)] : List Int)) (inner := [.int .i64 (wrap64 (rd (rd_L3 l0_1 x42_1) x48_2))]) (ok := fun _ => True) (okp := fun _ => True) ?hr ?hp (fun _ hk => hk) trivial (Below.refl _ _) (Nat.le_refl _) (by simp) ?_; (case hd => rfl); (case hg => rfl); (case hr => first | (go_simp; done) | (go_simp; rfl)); (case hp => exact (Reps.one (show Kd.M (Kd.int .i64) _ _ _ (wrap64 (rd (rd_L3 l0_1 x42_1) x48_2)) [.int .i64 (wrap64 (rd (rd_L3 l0_1 x42_1) x48_2))] from rfl) (Reps.none _ _))); intro v489 w34 ho35 hb hg_ hnew_; clear hg_ hnew_; (first | rw [← Ny488.out] at ho35 | (simp only [Int.reduceToNat] at ho35; rw [← Ny488.out] at ho35)); have n0_ := Aside0.mk (Kd.R_below (by (with_reducible repeat (first | apply Kd.R_alloc | apply Kd.R_drewN | apply Kd.R_drew)); exact HO_6.out) hb); have n1_ := Aside0.mk (Kd.R_lower ho35 (below_size (by repeat (first | (with_reducible first | exact HB.out | apply below_alloc | apply pw_below_drewN | apply below_drew1 | refine below_set ?_ GE470.out) | exact HB.out)))); have n2_ := Aside0.mk (blk_below (g := gb470) (o := .cells #[.int .i64 a0_0, .slice (some ad486) l0_1.length c0_1] 49 (0, 0)) (by (with_reducible repeat (first | refine blk_drewN ?_ _ | refine blk_drew ?_ | refine blk_alloc ?_ _)); exact BK470.out) hb); have n3_ := Aside0.mk (below_step (by repeat (first | (with_reducible first | exact HB.out | apply below_alloc | apply pw_below_drewN | apply below_drew1 | refine below_set ?_ GE470.out) | exact HB.out)) hb); clear HO_6; clear BK470; clear HB; have HO_6 := n0_; have HO490 := n1_; have BK470 := n2_; have HB := n3_; clear n0_ n1_ n2_ n3_; clear hb ho35; obtain ⟨Ao36, co36, eo36⟩ := Kd.R_slice HO_6.out; subst eo36; obtain ⟨Ao37, co37, eo37⟩ := Kd.R_slice HO490.out; subst eo37) | ((with_reducible refine gate_callee (f := 102) rfl ?_); refine goesL_ (some 57) rfl rfl Try.func102 (by kernel_rfl) rfl #[.slice Ao36 x6_2.length co36, .int .i64 2, .slice Ao37 y488.length co37] rfl (by (try simp only [List.map_toArray, List.map_cons, List.map_nil]); first | done | rfl | (simp only [List.length_drop, List.length_take]; rfl)) ?_; (with_reducible refine (pack_Put.calls k2 _ _ x6_2 2 _ _ y488 t491 t492 _ ?side1 ?side2 ?side3 ?side4 A27.out).mono ?_); (case side1 => repeat (first | exact (Kd.R_reads' HO_6.out).2.2 | (with_reducible refine Kd.C_alloc ?_ _) | (with_reducible refine Kd.C_drewN ?_ _) | (with_reducible refine Kd.C_drew ?_))); (case side2 => exact (Kd.R_reads' HO_6.out).2.1); (case side3 => repeat (first | exact (Kd.R_reads' HO490.out).2.2 | (with_reducible refine Kd.C_alloc ?_ _) | (with_reducible refine Kd.C_drewN ?_ _) | (with_reducible refine Kd.C_drew ?_))); (case side4 => exact (Kd.R_reads' HO490.out).2.1); rintro e w38 ⟨v493, rfl, ho0, hb⟩; refine ⟨_, rfl, ?_⟩; have n0_ := Aside0.mk (Kd.R_elder' (by (with_reducible repeat (first | apply Kd.R_alloc | apply Kd.R_drewN | apply Kd.R_drew)); exact HO_6.out) (Kd.R_base ho0) hb); have n1_ := Aside0.mk (Kd.R_below (by (with_reducible repeat (first | apply Kd.R_alloc | apply Kd.R_drewN | apply Kd.R_drew)); exact HO490.out) hb); have n2_ := Aside0.mk (Kd.R_lower (Kd.R_new' ho0 (Kd.R_lt (by (with_reducible repeat (first | apply Kd.R_alloc | apply Kd.R_drewN | apply Kd.R_drew)); exact HO_6.out))) (below_size (by repeat (first | (with_reducible first | exact HB.out | apply below_alloc | apply pw_below_drewN | apply below_drew1 | refine below_set ?_ GE470.out) | exact HB.out)))); have n3_ := Aside0.mk (blk_below (g := gb470) (o := .cells #[.int .i64 a0_0, .slice (some ad486) l0_1.length c0_1] 49 (0, 0)) (by (with_reducible repeat (first | refine blk_drewN ?_ _ | refine blk_drew ?_ | refine blk_alloc ?_ _)); exact BK470.out) hb); have n4_ := Aside0.mk (below_step (by repeat (first | (with_reducible first | exact HB.out | apply below_alloc | apply pw_below_drewN | apply below_drew1 | refine below_set ?_ GE470.out) | exact HB.out)) hb); clear HO_6; clear HO490; clear BK470; clear HB; have HO_6 := n0_; have HO490 := n1_; have HO494 := n2_; have BK470 := n3_; have HB := n4_; clear n0_ n1_ n2_ n3_ n4_; (try clear hb); (try clear hb2); (try clear hk); (try clear hi); (try clear ho0)))
                              go_ret2
                              exact ⟨_, by first | rfl | (simp [errW_none, errW_some] <;> rfl) | (simp [*, errW_none, errW_some] <;> rfl), by first | exact Kd.R_nil _ _ _ _ _ | exact Kd.N_nil _ _ _ _ _ | exact Kd.V_nil _ _ _ _ _ | exact Kd.Q_nil _ _ _ _ _ | exact Kd.S_nil _ _ _ _ _, by repeat (first | (with_reducible first | exact HB.out | apply below_alloc | apply pw_below_drewN | apply below_drew1 | refine below_set ?_ GE470.out) | exact HB.out)⟩
                          · rw [if_neg c26] at H
                            exact absurd H (by simp)
                        · rw [if_neg c25] at H
                          exact absurd H (by simp)
                      · rw [if_neg c24] at H
                        have c24b0 : decide (x48_2 < ((rd_L3 l0_1 x42_1).length : Int)) = false := decide_eq_false c24
                        clear c24
                        have H' := Aside0.mk H
                        clear H
                        go_wp2
                        go_roundg k2
                        case measure => have := HK1.out; have := HK2.out; omega
                        case rel => exact ⟨(x6_2), (wrap64 (x42_1 + 1)), (by first | rfl | (simp; done) | (simp [*]; done)), H', ⟨by have := HK1.out; have := HK2.out; omega⟩, ⟨by (with_reducible repeat (first | apply Kd.R_alloc | apply Kd.R_drewN | apply Kd.R_drew)); exact HO_6.out⟩, ⟨by (with_reducible repeat (first | refine blk_drewN ?_ _ | refine blk_drew ?_ | refine blk_alloc ?_ _)); exact BK470.out⟩, ⟨by repeat (first | (with_reducible first | exact HB.out | apply below_alloc | apply pw_below_drewN | apply below_drew1 | refine below_set ?_ GE470.out) | exact HB.out)⟩⟩
                · rw [if_neg c23] at H
                  exact absurd H (by simp)
              · rw [if_neg c22] at H
                exact absurd H (by simp)
            · rw [if_neg c21] at H
              have c21b0 : decide (x42_1 < (l0_1.length : Int)) = false := decide_eq_false c21
              clear c21
              simp only [Option.some.injEq, Prod.mk.injEq] at H
              obtain ⟨rfl, rfl⟩ := H
              go_wp2
              go_ret2
              exact ⟨_, by first | rfl | (simp [errW_none, errW_some] <;> rfl) | (simp [*, errW_none, errW_some] <;> rfl), by (with_reducible repeat (first | apply Kd.R_alloc | apply Kd.R_drewN | apply Kd.R_drew)); exact HO_6.out, by repeat (first | (with_reducible first | exact HB.out | apply below_alloc | apply pw_below_drewN | apply below_drew1 | refine below_set ?_ GE470.out) | exact HB.out)⟩
      · rw [if_neg c6] at H
        exact absurd H (by simp)
    · rw [if_neg c5] at H
      have c5b0 : (t477 == 0) = false := beq_eq_false_iff_ne.mpr c5
      have c5b1 : (t477 != 0) = true := bne_iff_ne.mpr c5
      simp only [Option.some.injEq, Prod.mk.injEq] at H
      obtain ⟨rfl, rfl⟩ := H
      go_enter Try.func37, Try.ntmps37
      go_wp2_with (first | ((with_reducible refine gate_dst (N := 1) rfl ?_); refine box_event ?hg (N := 1) ?hd (cs := #[.int .i64 a0_0, .slice A0_1 l0_1.length c0_1]) (t := 49) ?hr ?_; (case hd => rfl); (case hg => rfl); (case hr => first | (go_simp; done) | (go_simp; rfl)); intro gb470 hg w39 hbox hb; have n0_ := Aside0.mk (below_step (by repeat (first | (with_reducible first | exact HB.out | apply below_alloc | apply pw_below_drewN | apply below_drew1) | exact HB.out)) hb); have n1_ := Aside0.mk (hbox); have n2_ := Aside0.mk ((by rw [hg]; exact (below_size (by repeat (first | (with_reducible first | exact HB.out | apply below_alloc | apply pw_below_drewN | apply below_drew1) | exact HB.out))) : w.heap.size ≤ gb470)); have n3_ := Aside0.mk ((by rw [hg]; exact (below_size (by repeat (first | (with_reducible first | exact HB.out | apply below_alloc | apply pw_below_drewN | apply below_drew1) | exact HB.out))) : w.heap.size ≤ gb470)); clear HB; have HB := n0_; have BK470 := n1_; have GW470 := n2_; have GE470 := n3_; clear n0_ n1_ n2_ n3_; clear hb hbox hg; have hcz40_0 : w39.cell? ⟨gb470, 0, none⟩ = some (.int .i64 a0_0) := (blk_cell BK470.out 0).trans rfl; have hcz40_1 : w39.cell? ⟨gb470, 1, none⟩ = some (.slice A0_1 l0_1.length c0_1) := (blk_cell BK470.out 1).trans rfl; have hfz40_0 := blk_frozen BK470.out 0; have hfz40_1 := blk_frozen BK470.out 1) | ((with_reducible refine gate_callee (f := 49) rfl ?_); refine goesL_ (some 13) rfl rfl Try.func49 (by kernel_rfl) rfl #[.agg #[.int .i64 a0_0, .slice A0_1 l0_1.length c0_1]] rfl (by (try simp only [List.map_toArray, List.map_cons, List.map_nil]); first | done | rfl | (simp only [List.length_drop, List.length_take]; rfl)) ?_; (with_reducible refine (quant_Cells.calls a0_0 _ _ l0_1 t471 t472 _ ?side1 ?side2 A2.out).mono ?_); (case side1 => repeat (first | exact (Kd.C_below HR0_1.out HB.out) | (with_reducible refine Kd.C_alloc ?_ _) | (with_reducible refine Kd.C_drewN ?_ _) | (with_reducible refine Kd.C_drew ?_))); (case side2 => exact HC0_1.out); rintro e w41 ⟨rfl, hb⟩; refine ⟨_, rfl, ?_⟩; have n0_ := Aside0.mk (blk_below (g := gb470) (o := .cells #[.int .i64 a0_0, .slice A0_1 l0_1.length c0_1] 49 (0, 0)) (by (with_reducible repeat (first | refine blk_drewN ?_ _ | refine blk_drew ?_ | refine blk_alloc ?_ _)); exact BK470.out) hb); have n1_ := Aside0.mk (below_step (by repeat (first | (with_reducible first | exact HB.out | apply below_alloc | apply pw_below_drewN | apply below_drew1 | refine below_set ?_ GE470.out) | exact HB.out)) hb); clear BK470; clear HB; have BK470 := n0_; have HB := n1_; clear n0_ n1_; (try clear hb); (try clear hb2); (try clear hk); (try clear hi); have hcz42_0 : w41.cell? ⟨gb470, 0, none⟩ = some (.int .i64 a0_0) := (blk_cell BK470.out 0).trans rfl; have hcz42_1 : w41.cell? ⟨gb470, 1, none⟩ = some (.slice A0_1 l0_1.length c0_1) := (blk_cell BK470.out 1).trans rfl; have hfz42_0 := blk_frozen BK470.out 0; have hfz42_1 := blk_frozen BK470.out 1) | ((with_reducible refine gate_dst (N := 22) rfl ?_); refine Kd.R_lit (Kd.int .i64) _ 2 ?hg (N := 22) ?hd (xs := ([a0_0] : List Int)) (inner := [.int .i64 a0_0]) (ok := fun _ => True) (okp := fun _ => True) ?hr ?hp (fun _ hk => hk) trivial (Below.refl _ _) (Nat.le_refl _) (by simp) ?_; (case hd => rfl); (case hg => rfl); (case hr => first | (go_simp; done) | (go_simp; rfl)); (case hp => exact (Reps.one (show Kd.M (Kd.int .i64) _ _ _ a0_0 [.int .i64 a0_0] from rfl) (Reps.none _ _))); intro v474 w43 ho44 hb hg_ hnew_; clear hg_ hnew_; (first | rw [← Ny473.out] at ho44 | (simp only [Int.reduceToNat] at ho44; rw [← Ny473.out] at ho44)); have n0_ := Aside0.mk (Kd.R_lower ho44 (below_size (by repeat (first | (with_reducible first | exact HB.out | apply below_alloc | apply pw_below_drewN | apply below_drew1 | refine below_set ?_ GE470.out) | exact HB.out)))); have n1_ := Aside0.mk (blk_below (g := gb470) (o := .cells #[.int .i64 a0_0, .slice A0_1 l0_1.length c0_1] 49 (0, 0)) (by (with_reducible repeat (first | refine blk_drewN ?_ _ | refine blk_drew ?_ | refine blk_alloc ?_ _)); exact BK470.out) hb); have n2_ := Aside0.mk (below_step (by repeat (first | (with_reducible first | exact HB.out | apply below_alloc | apply pw_below_drewN | apply below_drew1 | refine below_set ?_ GE470.out) | exact HB.out)) hb); clear BK470; clear HB; have HO475 := n0_; have BK470 := n1_; have HB := n2_; clear n0_ n1_ n2_; clear hb ho44; obtain ⟨Ao45, co45, eo45⟩ := Kd.R_slice HO475.out; subst eo45) | ((with_reducible refine gate_callee (f := 102) rfl ?_); refine goesL_ (some 23) rfl rfl Try.func102 (by kernel_rfl) rfl #[.slice none 0 0, .int .i64 8, .slice Ao45 y473.length co45] rfl (by (try simp only [List.map_toArray, List.map_cons, List.map_nil]); first | done | rfl | (simp only [List.length_drop, List.length_take]; rfl)) ?_; (refine (pack_Put.calls k _ _ ([] : List Int) 8 _ _ y473 t476 t477 _ ?side1 ?side2 ?side3 ?side4 A4.out).mono ?_); (case side1 => exact Kd.C_nil _ _); (case side2 => exact Nat.le_refl _); (case side3 => repeat (first | exact (Kd.R_reads' HO475.out).2.2 | (with_reducible refine Kd.C_alloc ?_ _) | (with_reducible refine Kd.C_drewN ?_ _) | (with_reducible refine Kd.C_drew ?_))); (case side4 => exact (Kd.R_reads' HO475.out).2.1); rintro e w46 ⟨v478, rfl, ho0, hb⟩; refine ⟨_, rfl, ?_⟩; have n0_ := Aside0.mk (Kd.R_below (by (with_reducible repeat (first | apply Kd.R_alloc | apply Kd.R_drewN | apply Kd.R_drew)); exact HO475.out) hb); have n1_ := Aside0.mk (Kd.R_lower ho0 (below_size (by repeat (first | (with_reducible first | exact HB.out | apply below_alloc | apply pw_below_drewN | apply below_drew1 | refine below_set ?_ GE470.out) | exact HB.out)))); have n2_ := Aside0.mk (blk_below (g := gb470) (o := .cells #[.int .i64 a0_0, .slice A0_1 l0_1.length c0_1] 49 (0, 0)) (by (with_reducible repeat (first | refine blk_drewN ?_ _ | refine blk_drew ?_ | refine blk_alloc ?_ _)); exact BK470.out) hb); have n3_ := Aside0.mk (below_step (by repeat (first | (with_reducible first | exact HB.out | apply below_alloc | apply pw_below_drewN | apply below_drew1 | refine below_set ?_ GE470.out) | exact HB.out)) hb); clear HO475; clear BK470; clear HB; have HO475 := n0_; have HO479 := n1_; have BK470 := n2_; have HB := n3_; clear n0_ n1_ n2_ n3_; (try clear hb); (try clear hb2); (try clear hk); (try clear hi); (try clear ho0)))
      go_ret2
      exact ⟨_, by first | rfl | (simp [errW_none, errW_some] <;> rfl) | (simp [*, errW_none, errW_some] <;> rfl), by first | exact Kd.R_nil _ _ _ _ _ | exact Kd.N_nil _ _ _ _ _ | exact Kd.V_nil _ _ _ _ _ | exact Kd.Q_nil _ _ _ _ _ | exact Kd.S_nil _ _ _ _ _, by repeat (first | (with_reducible first | exact HB.out | apply below_alloc | apply pw_below_drewN | apply below_drew1 | refine below_set ?_ GE470.out) | exact HB.out)⟩
  · rw [if_neg c3] at H
    have c3b0 : (t472 == 0) = false := beq_eq_false_iff_ne.mpr c3
    have c3b1 : (t472 != 0) = true := bne_iff_ne.mpr c3
    simp only [Option.some.injEq, Prod.mk.injEq] at H
    obtain ⟨rfl, rfl⟩ := H
    go_enter Try.func37, Try.ntmps37
    go_wp2_with (first | ((with_reducible refine gate_dst (N := 1) rfl ?_); refine box_event ?hg (N := 1) ?hd (cs := #[.int .i64 a0_0, .slice A0_1 l0_1.length c0_1]) (t := 49) ?hr ?_; (case hd => rfl); (case hg => rfl); (case hr => first | (go_simp; done) | (go_simp; rfl)); intro gb470 hg w47 hbox hb; have n0_ := Aside0.mk (below_step (by repeat (first | (with_reducible first | exact HB.out | apply below_alloc | apply pw_below_drewN | apply below_drew1) | exact HB.out)) hb); have n1_ := Aside0.mk (hbox); have n2_ := Aside0.mk ((by rw [hg]; exact (below_size (by repeat (first | (with_reducible first | exact HB.out | apply below_alloc | apply pw_below_drewN | apply below_drew1) | exact HB.out))) : w.heap.size ≤ gb470)); have n3_ := Aside0.mk ((by rw [hg]; exact (below_size (by repeat (first | (with_reducible first | exact HB.out | apply below_alloc | apply pw_below_drewN | apply below_drew1) | exact HB.out))) : w.heap.size ≤ gb470)); clear HB; have HB := n0_; have BK470 := n1_; have GW470 := n2_; have GE470 := n3_; clear n0_ n1_ n2_ n3_; clear hb hbox hg; have hcz48_0 : w47.cell? ⟨gb470, 0, none⟩ = some (.int .i64 a0_0) := (blk_cell BK470.out 0).trans rfl; have hcz48_1 : w47.cell? ⟨gb470, 1, none⟩ = some (.slice A0_1 l0_1.length c0_1) := (blk_cell BK470.out 1).trans rfl; have hfz48_0 := blk_frozen BK470.out 0; have hfz48_1 := blk_frozen BK470.out 1) | ((with_reducible refine gate_callee (f := 49) rfl ?_); refine goesL_ (some 13) rfl rfl Try.func49 (by kernel_rfl) rfl #[.agg #[.int .i64 a0_0, .slice A0_1 l0_1.length c0_1]] rfl (by (try simp only [List.map_toArray, List.map_cons, List.map_nil]); first | done | rfl | (simp only [List.length_drop, List.length_take]; rfl)) ?_; (with_reducible refine (quant_Cells.calls a0_0 _ _ l0_1 t471 t472 _ ?side1 ?side2 A2.out).mono ?_); (case side1 => repeat (first | exact (Kd.C_below HR0_1.out HB.out) | (with_reducible refine Kd.C_alloc ?_ _) | (with_reducible refine Kd.C_drewN ?_ _) | (with_reducible refine Kd.C_drew ?_))); (case side2 => exact HC0_1.out); rintro e w49 ⟨rfl, hb⟩; refine ⟨_, rfl, ?_⟩; have n0_ := Aside0.mk (blk_below (g := gb470) (o := .cells #[.int .i64 a0_0, .slice A0_1 l0_1.length c0_1] 49 (0, 0)) (by (with_reducible repeat (first | refine blk_drewN ?_ _ | refine blk_drew ?_ | refine blk_alloc ?_ _)); exact BK470.out) hb); have n1_ := Aside0.mk (below_step (by repeat (first | (with_reducible first | exact HB.out | apply below_alloc | apply pw_below_drewN | apply below_drew1 | refine below_set ?_ GE470.out) | exact HB.out)) hb); clear BK470; clear HB; have BK470 := n0_; have HB := n1_; clear n0_ n1_; (try clear hb); (try clear hb2); (try clear hk); (try clear hi)))
    go_ret2
    exact ⟨_, by first | rfl | (simp [errW_none, errW_some] <;> rfl) | (simp [*, errW_none, errW_some] <;> rfl), by first | exact Kd.R_nil _ _ _ _ _ | exact Kd.N_nil _ _ _ _ _ | exact Kd.V_nil _ _ _ _ _ | exact Kd.Q_nil _ _ _ _ _ | exact Kd.S_nil _ _ _ _ _, by repeat (first | (with_reducible first | exact HB.out | apply below_alloc | apply pw_below_drewN | apply below_drew1 | refine below_set ?_ GE470.out) | exact HB.out)⟩

end Go.Proofs.Ytkjibgfgbfacdaa.P
end
