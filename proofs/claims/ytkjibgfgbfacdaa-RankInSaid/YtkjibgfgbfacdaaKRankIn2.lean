/- The law RankIn of this seat answers true for every input, and its arguments read as they did. Conditions: none. This file holds a part of what the proof needs. -/
import Derived.Laws.BitsLemmas
import Derived.Test.YtkjibgfgbfacdaaKRankIn0
import Derived.Test.YtkjibgfgbfacdaaKRankIn1
/-! part: F102 -/
section
set_option linter.unusedVariables false
set_option linter.unusedSimpArgs false
namespace Go.Proofs.Ytkjibgfgbfacdaa.P
open Go.RowKit Go.Proofs.YtkjibgfgbfacdaaW.PrintWords Go.Proofs.YtkjibgfgbfacdaaW.PrintLast Go.Proofs.YtkjibgfgbfacdaaW.PrintMore
attribute [local go_sem] max2_int min2_int max_two min_two max_three min_three max_four min_four   -- for this text's walks alone
set_option linter.unusedVariables false
set_option linter.unusedSimpArgs false

/-! ### pack_Put: function 102 -/
mutual
def pack_Put.l0 : Nat → List Int → Int → List Int → Int → List Int → Int → Int → Option (List Int × Int)
  | 0, _, _, _, _, _, _, _ => none
  | k + 1, x0, x1, x2, x8, x21, x22, x23 => if x23 < x22 then (if 0 ≤ x23 then (if x23 < (x21.length : Int) then (if 0 ≤ x8 then (if (shr .i64 (shl .i64 (rd x21 x23) x8) x8) = (rd x21 x23) then (pack_Put.l0 k x0 x1 x2 x8 x21 x22 (wrap64 (x23 + 1))) else (some (([] : List Int), 4))) else (none)) else (none)) else (none)) else (if (x2.length : Int) > 65536 then (pack_Put.j1 k x0 x1 x2 true) else (pack_Put.j1 k x0 x1 x2 (decide ((x0.length : Int) > (wrap64 (65536 - (wrap64 (x1 * (x2.length : Int)))))))))
def pack_Put.j1 : Nat → List Int → Int → List Int → Bool → Option (List Int × Int)
  | 0, _, _, _, _ => none
  | k + 1, x0, x1, x2, x47 => if x47 = true then (some (([] : List Int), 3)) else ((bytes_Clone.f x0).bind fun t463 => (pack_Put.l1 k x1 t463 x2 (x2.length : Int) 0))
def pack_Put.l1 : Nat → Int → List Int → List Int → Int → Int → Option (List Int × Int)
  | 0, _, _, _, _, _ => none
  | k + 1, x1, x11, x50, x51, x52 => if x52 < x51 then (if 0 ≤ x52 then (if x52 < (x50.length : Int) then (pack_Put.l2 k x1 x11 (rd x50 x52) x50 x51 x52 x1 0) else (none)) else (none)) else (some (x11, 0))
def pack_Put.l2 : Nat → Int → List Int → Int → List Int → Int → Int → Int → Int → Option (List Int × Int)
  | 0, _, _, _, _, _, _, _, _ => none
  | k + 1, x1, x11, x13, x50, x51, x52, x56, x57 => if x57 < x56 then (if 0 ≤ (wrap64 (8 * x57)) then (if x11.length < 140737488355328 then (pack_Put.l2 k x1 (x11 ++ [(shr .i64 x13 (wrap64 (8 * x57))) % 256]) x13 x50 x51 x52 x56 (wrap64 (x57 + 1))) else (none)) else (none)) else (pack_Put.l1 k x1 x11 x50 x51 (wrap64 (x52 + 1)))
end
def pack_Put.f (k : Nat) (l0 : List Int) (a1 : Int) (l2 : List Int) : Option (List Int × Int) := (pack_wide.f a1).bind fun t461 => (if t461 = true then (pack_Put.l0 k l0 a1 l2 (wrap64 (64 - (wrap64 (8 * a1)))) l2 (l2.length : Int) 0) else (some (([] : List Int), 1)))
theorem pack_Put.mono_l : ∀ k, (∀ y0 y1 y2 y3 y4 y5 y6, LeO (pack_Put.l0 k y0 y1 y2 y3 y4 y5 y6) (pack_Put.l0 (k + 1) y0 y1 y2 y3 y4 y5 y6)) ∧ (∀ y0 y1 y2 y3, LeO (pack_Put.j1 k y0 y1 y2 y3) (pack_Put.j1 (k + 1) y0 y1 y2 y3)) ∧ (∀ y0 y1 y2 y3 y4, LeO (pack_Put.l1 k y0 y1 y2 y3 y4) (pack_Put.l1 (k + 1) y0 y1 y2 y3 y4)) ∧ (∀ y0 y1 y2 y3 y4 y5 y6 y7, LeO (pack_Put.l2 k y0 y1 y2 y3 y4 y5 y6 y7) (pack_Put.l2 (k + 1) y0 y1 y2 y3 y4 y5 y6 y7))
  | 0 => ⟨fun _ _ _ _ _ _ _ r h => by simp [pack_Put.l0] at h, fun _ _ _ _ r h => by simp [pack_Put.j1] at h, fun _ _ _ _ _ r h => by simp [pack_Put.l1] at h, fun _ _ _ _ _ _ _ _ r h => by simp [pack_Put.l2] at h⟩
  | k + 1 => by
    obtain ⟨ih0, ih1, ih2, ih3⟩ := pack_Put.mono_l k
    refine ⟨?_, ?_, ?_, ?_⟩
    · intro y0 y1 y2 y3 y4 y5 y6
      unfold pack_Put.l0
      repeat' first
      | (with_reducible exact ih0 _ _ _ _ _ _ _)
      | (with_reducible exact ih1 _ _ _ _)
      | (with_reducible exact ih2 _ _ _ _ _)
      | (with_reducible exact ih3 _ _ _ _ _ _ _ _)
      | (with_reducible exact LeO.refl _)
      | (with_reducible exact LeO.none _)
      | (with_reducible refine LeO.ite ?_ ?_)
      | (with_reducible refine LeO.bind ?_ (fun _ => ?_))
      | exact ih0 _ _ _ _ _ _ _
      | exact ih1 _ _ _ _
      | exact ih2 _ _ _ _ _
      | exact ih3 _ _ _ _ _ _ _ _
      | exact LeO.none _
      | refine LeO.ite ?_ ?_
      | refine LeO.bind ?_ (fun _ => ?_)
    · intro y0 y1 y2 y3
      unfold pack_Put.j1
      repeat' first
      | (with_reducible exact ih0 _ _ _ _ _ _ _)
      | (with_reducible exact ih1 _ _ _ _)
      | (with_reducible exact ih2 _ _ _ _ _)
      | (with_reducible exact ih3 _ _ _ _ _ _ _ _)
      | (with_reducible exact LeO.refl _)
      | (with_reducible exact LeO.none _)
      | (with_reducible refine LeO.ite ?_ ?_)
      | (with_reducible refine LeO.bind ?_ (fun _ => ?_))
      | exact ih0 _ _ _ _ _ _ _
      | exact ih1 _ _ _ _
      | exact ih2 _ _ _ _ _
      | exact ih3 _ _ _ _ _ _ _ _
      | exact LeO.none _
      | refine LeO.ite ?_ ?_
      | refine LeO.bind ?_ (fun _ => ?_)
    · intro y0 y1 y2 y3 y4
      unfold pack_Put.l1
      repeat' first
      | (with_reducible exact ih0 _ _ _ _ _ _ _)
      | (with_reducible exact ih1 _ _ _ _)
      | (with_reducible exact ih2 _ _ _ _ _)
      | (with_reducible exact ih3 _ _ _ _ _ _ _ _)
      | (with_reducible exact LeO.refl _)
      | (with_reducible exact LeO.none _)
      | (with_reducible refine LeO.ite ?_ ?_)
      | (with_reducible refine LeO.bind ?_ (fun _ => ?_))
      | exact ih0 _ _ _ _ _ _ _
      | exact ih1 _ _ _ _
      | exact ih2 _ _ _ _ _
      | exact ih3 _ _ _ _ _ _ _ _
      | exact LeO.none _
      | refine LeO.ite ?_ ?_
      | refine LeO.bind ?_ (fun _ => ?_)
    · intro y0 y1 y2 y3 y4 y5 y6 y7
      unfold pack_Put.l2
      repeat' first
      | (with_reducible exact ih0 _ _ _ _ _ _ _)
      | (with_reducible exact ih1 _ _ _ _)
      | (with_reducible exact ih2 _ _ _ _ _)
      | (with_reducible exact ih3 _ _ _ _ _ _ _ _)
      | (with_reducible exact LeO.refl _)
      | (with_reducible exact LeO.none _)
      | (with_reducible refine LeO.ite ?_ ?_)
      | (with_reducible refine LeO.bind ?_ (fun _ => ?_))
      | exact ih0 _ _ _ _ _ _ _
      | exact ih1 _ _ _ _
      | exact ih2 _ _ _ _ _
      | exact ih3 _ _ _ _ _ _ _ _
      | exact LeO.none _
      | refine LeO.ite ?_ ?_
      | refine LeO.bind ?_ (fun _ => ?_)
theorem pack_Put.mono : ∀ a0 a1 a2 k, LeO (pack_Put.f k a0 a1 a2) (pack_Put.f (k + 1) a0 a1 a2) := by
  intro a0 a1 a2 k
  obtain ⟨ih0, ih1, ih2, ih3⟩ := pack_Put.mono_l k
  unfold pack_Put.f
  repeat' first
      | (with_reducible exact ih0 _ _ _ _ _ _ _)
      | (with_reducible exact ih1 _ _ _ _)
      | (with_reducible exact ih2 _ _ _ _ _)
      | (with_reducible exact ih3 _ _ _ _ _ _ _ _)
      | (with_reducible exact LeO.refl _)
      | (with_reducible exact LeO.none _)
      | (with_reducible refine LeO.ite ?_ ?_)
      | (with_reducible refine LeO.bind ?_ (fun _ => ?_))
      | exact ih0 _ _ _ _ _ _ _
      | exact ih1 _ _ _ _
      | exact ih2 _ _ _ _ _
      | exact ih3 _ _ _ _ _ _ _ _
      | exact LeO.none _
      | refine LeO.ite ?_ ?_
      | refine LeO.bind ?_ (fun _ => ?_)
set_option maxHeartbeats 8000000 in
set_option maxRecDepth 100000 in
theorem pack_Put.calls (k : Nat) (A0 : Option Addr) (c0 : Nat) (l0 : List Int) (a1 : Int) (A2 : Option Addr) (c2 : Nat) (l2 : List Int) (r1 : List Int) (r2 : Int) (w : World) (hr0 : Kd.C (Kd.int .u8) w A0 l0.length l0) (hc0 : l0.length ≤ c0) (hr2 : Kd.C (Kd.int .i64) w A2 l2.length l2) (hc2 : l2.length ≤ c2) (h : pack_Put.f k l0 a1 l2 = some (r1, r2)) :
    Calls Try.prog 102 #[.slice A0 l0.length c0, .int .i64 a1, .slice A2 l2.length c2] w fun e w' => ∃ v0_ : Value, e = .returned (.tuple #[v0_, .int .i64 r2]) ∧ Kd.R (Kd.int .u8) 5 w' w.heap.size (fun _ => True) v0_ r1 ∧ Below w.heap.size w w' := by
  have HR0 := Aside0.mk hr0
  have HC0 := Aside0.mk hc0
  clear hr0 hc0
  have HR2 := Aside0.mk hr2
  have HC2 := Aside0.mk hc2
  clear hr2 hc2
  have HB := Aside0.mk (Below.refl w.heap.size w)
  have H : ((pack_wide.f a1).bind fun t461 => (if t461 = true then (pack_Put.l0 k l0 a1 l2 (wrap64 (64 - (wrap64 (8 * a1)))) l2 (l2.length : Int) 0) else (some (([] : List Int), 1)))) = some (r1, r2) := h
  clear h
  replace H := Option.bind_eq_some_iff.mp H
  obtain ⟨t461, A40, H⟩ := H
  replace H : (if t461 = true then (pack_Put.l0 k l0 a1 l2 (wrap64 (64 - (wrap64 (8 * a1)))) l2 (l2.length : Int) 0) else (some (([] : List Int), 1))) = some (r1, r2) := H
  have A4 := Aside0.mk A40
  clear A40
  by_cases c5 : t461 = true
  · subst c5
    have H1 : (pack_Put.l0 k l0 a1 l2 (wrap64 (64 - (wrap64 (8 * a1)))) l2 (l2.length : Int) 0) = some (r1, r2) := by first | (rw [if_pos rfl] at H; exact H) | (rw [if_pos trivial] at H; exact H)
    clear H
    have H := H1
    clear H1
    have H' := Aside0.mk H
    clear H
    go_enter Try.func102, Try.ntmps102
    go_wp2_with (first | ((with_reducible refine gate_callee (f := 148) rfl ?_); refine goesL_ (some 16) rfl rfl Try.func148 (by kernel_rfl) rfl #[.int .i64 a1] rfl (by (try simp only [List.map_toArray, List.map_cons, List.map_nil]); first | done | rfl | (simp only [List.length_drop, List.length_take]; rfl)) ?_; (with_reducible refine (pack_wide.calls a1 true _ A4.out).mono ?_); rintro e w' ⟨rfl, ⟨nd, rfl⟩⟩; refine ⟨_, rfl, ?_⟩))
    go_loopg [23] k (fun kq v23 w' => ∃ (x23_1 : Int), v23 = .int .i64 x23_1 ∧ Aside0 (pack_Put.l0 kq l0 a1 l2 (wrap64 (64 - (wrap64 (8 * a1)))) l2 (l2.length : Int) x23_1 = some (r1, r2)) ∧ Aside0 (kq ≤ k) ∧ Aside0 (Below w.heap.size w w'))
    case atStart => exact ⟨(0), (by first | rfl | (simp; done) | (simp [*]; done)), H', ⟨Nat.le_refl _⟩, ⟨by repeat (first | (with_reducible first | exact HB.out | apply below_alloc | apply pw_below_drewN | apply below_drew1) | exact HB.out)⟩⟩
    case round =>
      clear H'
      try clear c1
      try clear c2
      try clear p2
      try clear c5
      obtain ⟨x23_1, rfl, HA, HK1, HB⟩ := hrel
      cases gk with
      | zero => exact absurd HA.out (by simp [pack_Put.l0])
      | succ k1 =>
        have H := HA.out
        clear HA
        simp only [pack_Put.l0] at H
        by_cases c6 : x23_1 < (l2.length : Int)
        · rw [if_pos c6] at H
          have c6b0 : decide (x23_1 < (l2.length : Int)) = true := decide_eq_true c6
          clear c6
          by_cases c7 : 0 ≤ x23_1
          · rw [if_pos c7] at H
            have c7b0 : decide (0 ≤ x23_1) = true := decide_eq_true c7
            clear c7
            by_cases c8 : x23_1 < (l2.length : Int)
            · rw [if_pos c8] at H
              have c8b0 : decide (x23_1 < (l2.length : Int)) = true := decide_eq_true c8
              clear c8
              obtain ⟨ji9, hji9⟩ : ∃ j_ : Int, (wrap64 (64 - (wrap64 (8 * a1)))) = j_ := ⟨_, rfl⟩
              replace H : (if 0 ≤ (ji9) then (if (shr .i64 (shl .i64 (rd l2 x23_1) (ji9)) (ji9)) = (rd l2 x23_1) then (pack_Put.l0 k1 l0 a1 l2 (ji9) l2 (l2.length : Int) (wrap64 (x23_1 + 1))) else (some (([] : List Int), 4))) else (none)) = some (r1, r2) := by first | (rw [hji9] at H; exact H) | (simp only [hji9] at H ⊢; exact H)
              have hji9w : (IntKind.i64.wrap (64 - (wrap64 (8 * a1)))) = ji9 := (i64_w _).trans hji9
              by_cases c10 : 0 ≤ (ji9)
              · rw [if_pos c10] at H
                have c10b0 := eq_true c10
                have c10b1 : decide (0 ≤ (ji9)) = true := decide_eq_true c10
                clear c10
                obtain ⟨ji11, hji11⟩ : ∃ j_ : Int, (shl .i64 (rd l2 x23_1) (ji9)) = j_ := ⟨_, rfl⟩
                replace H : (if (shr .i64 (ji11) (ji9)) = (rd l2 x23_1) then (pack_Put.l0 k1 l0 a1 l2 (ji9) l2 (l2.length : Int) (wrap64 (x23_1 + 1))) else (some (([] : List Int), 4))) = some (r1, r2) := by first | (rw [hji11] at H; exact H) | (simp only [hji11] at H ⊢; exact H)
                have hji11_ : (IntKind.i64.wrap ((rd l2 x23_1) * 2 ^ min (ji9).toNat 64)) = ji11 := hji11
                have hji11z : (ji9) ≤ 64 → (IntKind.i64.wrap ((rd l2 x23_1) * 2 ^ (ji9).toNat)) = ji11 := shl_small hji11
                have hji11y : (wrap64 ((rd l2 x23_1) * 2 ^ min (ji9).toNat 64)) = ji11 := (i64_w _).symm.trans hji11_
                have hji11x : (ji9) ≤ 64 → (wrap64 ((rd l2 x23_1) * 2 ^ (ji9).toNat)) = ji11 := fun h_ => (i64_w _).symm.trans (hji11z h_)
                have c12b0 := eq_true (of_decide_eq_true (by first | (with_reducible assumption) | assumption) : 0 ≤ (ji9))
                obtain ⟨ji13, hji13⟩ : ∃ j_ : Int, (shr .i64 (ji11) (ji9)) = j_ := ⟨_, rfl⟩
                replace H : (if (ji13) = (rd l2 x23_1) then (pack_Put.l0 k1 l0 a1 l2 (ji9) l2 (l2.length : Int) (wrap64 (x23_1 + 1))) else (some (([] : List Int), 4))) = some (r1, r2) := by first | (rw [hji13] at H; exact H) | (simp only [hji13] at H ⊢; exact H)
                have hji13_ : ((ji11) / 2 ^ min (ji9).toNat 64) = ji13 := hji13
                have hji13z : (ji9) ≤ 64 → ((ji11) / 2 ^ (ji9).toNat) = ji13 := shr_small hji13
                by_cases c14 : (ji13) = (rd l2 x23_1)
                · rw [if_pos c14] at H
                  have c14b0 : ((ji13) == (rd l2 x23_1)) = true := beq_iff_eq.mpr c14
                  have c14b1 : ((ji13) != (rd l2 x23_1)) = false := bne_eq_false_iff_eq.mpr c14
                  clear c14
                  have H' := Aside0.mk H
                  clear H
                  have p462 : 0 ≤ (x23_1 : Int) := of_decide_eq_true (by first | (with_reducible assumption) | assumption)
                  have q462 : x23_1 < (l2.length : Int) := of_decide_eq_true (by first | (with_reducible assumption) | assumption)
                  obtain ⟨ad462, e462, hx462_0⟩ := Kd.at_int HR2.out x23_1 p462 q462
                  cases e462
                  (try replace hx462_0 := (HB.out.cell (World.block_lt_of_cell? w _ hx462_0)).trans hx462_0)
                  replace p462 := eq_true p462
                  replace q462 := eq_true q462
                  go_wp2
                  first | go_roundg k1 | (simp only [← hji13]; go_roundg k1) | (simp only [← hji11, ← hji13]; go_roundg k1) | (simp only [← hji9, ← hji11, ← hji13]; go_roundg k1)
                  case measure => have := HK1.out; omega
                  case rel => exact ⟨(wrap64 (x23_1 + 1)), (by first | rfl | (simp; done) | (simp [*]; done)), (by first | exact H' | (rw [hji11]; exact H') | (rw [hji13]; exact H') | (rw [hji24]; exact H') | (rw [hji26]; exact H') | (rw [hji9]; exact H')), ⟨by have := HK1.out; omega⟩, ⟨by repeat (first | (with_reducible first | exact HB.out | apply below_alloc | apply pw_below_drewN | apply below_drew1) | exact HB.out)⟩⟩
                · rw [if_neg c14] at H
                  have c14b0 : ((ji13) == (rd l2 x23_1)) = false := beq_eq_false_iff_ne.mpr c14
                  have c14b1 : ((ji13) != (rd l2 x23_1)) = true := bne_iff_ne.mpr c14
                  simp only [Option.some.injEq, Prod.mk.injEq] at H
                  obtain ⟨rfl, rfl⟩ := H
                  have p462 : 0 ≤ (x23_1 : Int) := of_decide_eq_true (by first | (with_reducible assumption) | assumption)
                  have q462 : x23_1 < (l2.length : Int) := of_decide_eq_true (by first | (with_reducible assumption) | assumption)
                  obtain ⟨ad462, e462, hx462_0⟩ := Kd.at_int HR2.out x23_1 p462 q462
                  cases e462
                  (try replace hx462_0 := (HB.out.cell (World.block_lt_of_cell? w _ hx462_0)).trans hx462_0)
                  replace p462 := eq_true p462
                  replace q462 := eq_true q462
                  go_wp2
                  go_ret2
                  exact ⟨_, by first | rfl | (simp [errW_none, errW_some] <;> rfl) | (simp only [← hji9, ← hji11, ← hji13]; first | rfl | (simp [errW_none, errW_some] <;> rfl)) | (simp [*, errW_none, errW_some] <;> rfl), by first | exact Kd.R_nil _ _ _ _ _ | exact Kd.N_nil _ _ _ _ _ | exact Kd.V_nil _ _ _ _ _ | exact Kd.Q_nil _ _ _ _ _ | exact Kd.S_nil _ _ _ _ _, by repeat (first | (with_reducible first | exact HB.out | apply below_alloc | apply pw_below_drewN | apply below_drew1) | exact HB.out)⟩
              · rw [if_neg c10] at H
                exact absurd H (by simp)
            · rw [if_neg c8] at H
              exact absurd H (by simp)
          · rw [if_neg c7] at H
            exact absurd H (by simp)
        · rw [if_neg c6] at H
          have c6b0 : decide (x23_1 < (l2.length : Int)) = false := decide_eq_false c6
          clear c6
          have HC15 := Aside0.mk H
          clear H
          go_upto_region 10 with (fail)
          go_cut [47] (fun v47 wc => ∃ (kq : Nat) (x47_14 : Bool), v47 = .bool x47_14 ∧ Aside0 (pack_Put.j1 kq l0 a1 l2 x47_14 = some (r1, r2)) ∧ Aside0 (kq ≤ k1) ∧ Aside0 (Below w.heap.size w wc))
          case first =>
            have H := HC15.out
            clear HC15
            by_cases c16 : (l2.length : Int) > 65536
            · rw [if_pos c16] at H
              have c16b0 : decide (65536 < (l2.length : Int)) = true := decide_eq_true c16
              have c16b1 : decide (65536 < l2.length) = true := decide_eq_true (by omega)
              clear c16
              (first | rw [c16b0] | (simp only [i64_w, i32_w]; rw [c16b0]) | skip)
              have H' := Aside0.mk H
              clear H
              go_wp2
              go_meet
              case rel => exact ⟨_, (true), (by first | rfl | (simp; done) | (simp [*]; done)), (by first | exact H' | (rw [hji11]; exact H') | (rw [hji13]; exact H') | (rw [hji24]; exact H') | (rw [hji26]; exact H') | (rw [hji9]; exact H')), ⟨by have := HK1.out; first | omega | exact Nat.le_refl _⟩, ⟨by repeat (first | (with_reducible first | exact HB.out | apply below_alloc | apply pw_below_drewN | apply below_drew1) | exact HB.out)⟩⟩
            · rw [if_neg c16] at H
              have c16b0 : decide (65536 < (l2.length : Int)) = false := decide_eq_false c16
              have c16b1 : decide (65536 < l2.length) = false := decide_eq_false (by omega)
              clear c16
              (first | rw [c16b0] | (simp only [i64_w, i32_w]; rw [c16b0]) | skip)
              have H' := Aside0.mk H
              clear H
              go_wp2
              go_meet
              case rel => exact ⟨_, (decide ((l0.length : Int) > (wrap64 (65536 - (wrap64 (a1 * (l2.length : Int))))))), (by first | rfl | (simp; done) | (simp [*]; done)), (by first | exact H' | (rw [hji11]; exact H') | (rw [hji13]; exact H') | (rw [hji24]; exact H') | (rw [hji26]; exact H') | (rw [hji9]; exact H')), ⟨by have := HK1.out; first | omega | exact Nat.le_refl _⟩, ⟨by repeat (first | (with_reducible first | exact HB.out | apply below_alloc | apply pw_below_drewN | apply below_drew1) | exact HB.out)⟩⟩
          case rest =>
            clear HC15
            try clear c1
            try clear c2
            try clear p2
            try clear p4
            try clear q4
            try clear hx4
            try clear c5
            try clear c6
            try clear c6b0
            try clear p6
            try clear c7
            try clear c7b0
            try clear c8
            try clear c8b0
            try clear c10
            try clear c10b0
            try clear c10b1
            try clear c12
            try clear c12b0
            try clear c14
            try clear c14b0
            try clear c14b1
            try clear c16
            try clear c16b0
            try clear c16b1
            try clear hx462_0
            try clear p2
            try clear p462
            try clear q462
            obtain ⟨kq, x47_14, rfl, HA, HJ14, HB⟩ := hcut
            cases kq with
            | zero => exact absurd HA.out (by simp [pack_Put.j1])
            | succ kj14 =>
              have H := HA.out
              clear HA
              simp only [pack_Put.j1] at H
              by_cases c17 : x47_14 = true
              · subst c17
                have H1 : (some (([] : List Int), 3)) = some (r1, r2) := by first | (rw [if_pos rfl] at H; exact H) | (rw [if_pos trivial] at H; exact H)
                clear H
                have H := H1
                clear H1
                simp only [Option.some.injEq, Prod.mk.injEq] at H
                obtain ⟨rfl, rfl⟩ := H
                go_wp2
                go_ret2
                exact ⟨_, by first | rfl | (simp [errW_none, errW_some] <;> rfl) | (simp [*, errW_none, errW_some] <;> rfl), by first | exact Kd.R_nil _ _ _ _ _ | exact Kd.N_nil _ _ _ _ _ | exact Kd.V_nil _ _ _ _ _ | exact Kd.Q_nil _ _ _ _ _ | exact Kd.S_nil _ _ _ _ _, by repeat (first | (with_reducible first | exact HB.out | apply below_alloc | apply pw_below_drewN | apply below_drew1) | exact HB.out)⟩
              · replace c17 := Bool.eq_false_iff.mpr c17
                subst c17
                have H1 : ((bytes_Clone.f l0).bind fun t463 => (pack_Put.l1 kj14 a1 t463 l2 (l2.length : Int) 0)) = some (r1, r2) := by rw [if_neg (show ¬ (false = true) by decide)] at H; exact H
                clear H
                have H := H1
                clear H1
                replace H := Option.bind_eq_some_iff.mp H
                obtain ⟨t463, A180, H⟩ := H
                replace H : (pack_Put.l1 kj14 a1 t463 l2 (l2.length : Int) 0) = some (r1, r2) := H
                have A18 := Aside0.mk A180
                clear A180
                have H' := Aside0.mk H
                clear H
                go_wp2_with (first | ((with_reducible refine gate_callee (f := 149) rfl ?_); refine goesL_ (some 49) rfl rfl Try.func149 (by kernel_rfl) rfl #[.slice A0 l0.length c0] rfl (by (try simp only [List.map_toArray, List.map_cons, List.map_nil]); first | done | rfl | (simp only [List.length_drop, List.length_take]; rfl)) ?_; (with_reducible refine (bytes_Clone.calls _ _ l0 t463 _ ?side1 ?side2 A18.out).mono ?_); (case side1 => repeat (first | exact (Kd.C_below HR0.out HB.out) | (with_reducible refine Kd.C_alloc ?_ _) | (with_reducible refine Kd.C_drewN ?_ _) | (with_reducible refine Kd.C_drew ?_))); (case side2 => exact HC0.out); rintro e w19 ⟨v464, rfl, ho0, hb⟩; refine ⟨_, rfl, ?_⟩; have n0_ := Aside0.mk (Kd.R_lower ho0 (below_size (by repeat (first | (with_reducible first | exact HB.out | apply below_alloc | apply pw_below_drewN | apply below_drew1) | exact HB.out)))); have n1_ := Aside0.mk (below_step (by repeat (first | (with_reducible first | exact HB.out | apply below_alloc | apply pw_below_drewN | apply below_drew1) | exact HB.out)) hb); clear HB; have HO465 := n0_; have HB := n1_; clear n0_ n1_; (try clear hb); (try clear hb2); (try clear hk); (try clear hi); (try clear ho0)))
                go_loopg [11, 52] kj14 (fun kq v11 v52 w' => ∃ (x11_3 : List Int) (x52_3 : Int), v52 = .int .i64 x52_3 ∧ Aside0 (pack_Put.l1 kq a1 x11_3 l2 (l2.length : Int) x52_3 = some (r1, r2)) ∧ Aside0 (kq ≤ kj14) ∧ Aside0 (Kd.R (Kd.int .u8) 5 w' w.heap.size (fun _ => True) v11 x11_3) ∧ Aside0 (Below w.heap.size w w'))
                case atStart => exact ⟨(t463), (0), (by first | rfl | (simp; done) | (simp [*]; done)), H', ⟨Nat.le_refl _⟩, ⟨by (with_reducible repeat (first | apply Kd.R_alloc | apply Kd.R_drewN | apply Kd.R_drew)); exact HO465.out⟩, ⟨by repeat (first | (with_reducible first | exact HB.out | apply below_alloc | apply pw_below_drewN | apply below_drew1) | exact HB.out)⟩⟩
                case round =>
                  clear H'
                  try clear c1
                  try clear c2
                  try clear p2
                  try clear p4
                  try clear q4
                  try clear hx4
                  try clear c5
                  try clear c6
                  try clear c6b0
                  try clear p6
                  try clear c7
                  try clear c7b0
                  try clear c8
                  try clear c8b0
                  try clear c10
                  try clear c10b0
                  try clear c10b1
                  try clear c12
                  try clear c12b0
                  try clear c14
                  try clear c14b0
                  try clear c14b1
                  try clear c16
                  try clear c16b0
                  try clear c16b1
                  try clear c17
                  try clear hx462_0
                  try clear p2
                  try clear p4
                  try clear p462
                  try clear p6
                  try clear q4
                  try clear q462
                  obtain ⟨x11_3, x52_3, rfl, HA, HK3, HO_11, HB⟩ := hrel
                  cases gk with
                  | zero => exact absurd HA.out (by simp [pack_Put.l1])
                  | succ k3 =>
                    have H := HA.out
                    clear HA
                    simp only [pack_Put.l1] at H
                    by_cases c20 : x52_3 < (l2.length : Int)
                    · rw [if_pos c20] at H
                      have c20b0 : decide (x52_3 < (l2.length : Int)) = true := decide_eq_true c20
                      clear c20
                      by_cases c21 : 0 ≤ x52_3
                      · rw [if_pos c21] at H
                        have c21b0 : decide (0 ≤ x52_3) = true := decide_eq_true c21
                        clear c21
                        by_cases c22 : x52_3 < (l2.length : Int)
                        · rw [if_pos c22] at H
                          have c22b0 : decide (x52_3 < (l2.length : Int)) = true := decide_eq_true c22
                          clear c22
                          have H' := Aside0.mk H
                          clear H
                          have p466 : 0 ≤ (x52_3 : Int) := of_decide_eq_true (by first | (with_reducible assumption) | assumption)
                          have q466 : x52_3 < (l2.length : Int) := of_decide_eq_true (by first | (with_reducible assumption) | assumption)
                          obtain ⟨ad466, e466, hx466_0⟩ := Kd.at_int HR2.out x52_3 p466 q466
                          cases e466
                          (try replace hx466_0 := (HB.out.cell (World.block_lt_of_cell? w _ hx466_0)).trans hx466_0)
                          replace p466 := eq_true p466
                          replace q466 := eq_true q466
                          go_wp2
                          go_loopg [11, 57] k3 (fun kq v11 v57 w' => ∃ (x11_4 : List Int) (x57_4 : Int), v57 = .int .i64 x57_4 ∧ Aside0 (pack_Put.l2 kq a1 x11_4 (rd l2 x52_3) l2 (l2.length : Int) x52_3 a1 x57_4 = some (r1, r2)) ∧ Aside0 (kq ≤ k3) ∧ Aside0 (Kd.R (Kd.int .u8) 5 w' w.heap.size (fun _ => True) v11 x11_4) ∧ Aside0 (Below w.heap.size w w'))
                          case atStart => exact ⟨(x11_3), (0), (by first | rfl | (simp; done) | (simp [*]; done)), H', ⟨Nat.le_refl _⟩, ⟨by (with_reducible repeat (first | apply Kd.R_alloc | apply Kd.R_drewN | apply Kd.R_drew)); exact HO_11.out⟩, ⟨by repeat (first | (with_reducible first | exact HB.out | apply below_alloc | apply pw_below_drewN | apply below_drew1) | exact HB.out)⟩⟩
                          case round =>
                            clear H'
                            try clear c1
                            try clear c2
                            try clear p2
                            try clear p4
                            try clear q4
                            try clear hx4
                            try clear c5
                            try clear c6
                            try clear c6b0
                            try clear p6
                            try clear c7
                            try clear c7b0
                            try clear c8
                            try clear c8b0
                            try clear c10
                            try clear c10b0
                            try clear c10b1
                            try clear c12
                            try clear c12b0
                            try clear c14
                            try clear c14b0
                            try clear c14b1
                            try clear c16
                            try clear c16b0
                            try clear c16b1
                            try clear c17
                            try clear c20
                            try clear c20b0
                            try clear c21
                            try clear c21b0
                            try clear c22
                            try clear c22b0
                            try clear hx462_0
                            try clear hx466_0
                            try clear p2
                            try clear p4
                            try clear p462
                            try clear p466
                            try clear p6
                            try clear q4
                            try clear q462
                            try clear q466
                            obtain ⟨x11_4, x57_4, rfl, HA, HK4, HO_11, HB⟩ := hrel
                            cases gk with
                            | zero => exact absurd HA.out (by simp [pack_Put.l2])
                            | succ k4 =>
                              have H := HA.out
                              clear HA
                              simp only [pack_Put.l2] at H
                              by_cases c23 : x57_4 < a1
                              · rw [if_pos c23] at H
                                have c23b0 : decide (x57_4 < a1) = true := decide_eq_true c23
                                clear c23
                                obtain ⟨ji24, hji24⟩ : ∃ j_ : Int, (wrap64 (8 * x57_4)) = j_ := ⟨_, rfl⟩
                                replace H : (if 0 ≤ (ji24) then (if x11_4.length < 140737488355328 then (pack_Put.l2 k4 a1 (x11_4 ++ [(shr .i64 (rd l2 x52_3) (ji24)) % 256]) (rd l2 x52_3) l2 (l2.length : Int) x52_3 a1 (wrap64 (x57_4 + 1))) else (none)) else (none)) = some (r1, r2) := by first | (rw [hji24] at H; exact H) | (simp only [hji24] at H ⊢; exact H)
                                have hji24w : (IntKind.i64.wrap (8 * x57_4)) = ji24 := (i64_w _).trans hji24
                                by_cases c25 : 0 ≤ (ji24)
                                · rw [if_pos c25] at H
                                  have c25b0 := eq_true c25
                                  have c25b1 : decide (0 ≤ (ji24)) = true := decide_eq_true c25
                                  clear c25
                                  obtain ⟨ji26, hji26⟩ : ∃ j_ : Int, (shr .i64 (rd l2 x52_3) (ji24)) = j_ := ⟨_, rfl⟩
                                  replace H : (if x11_4.length < 140737488355328 then (pack_Put.l2 k4 a1 (x11_4 ++ [(ji26) % 256]) (rd l2 x52_3) l2 (l2.length : Int) x52_3 a1 (wrap64 (x57_4 + 1))) else (none)) = some (r1, r2) := by first | (rw [hji26] at H; exact H) | (simp only [hji26] at H ⊢; exact H)
                                  have hji26_ : ((rd l2 x52_3) / 2 ^ min (ji24).toNat 64) = ji26 := hji26
                                  have hji26z : (ji24) ≤ 64 → ((rd l2 x52_3) / 2 ^ (ji24).toNat) = ji26 := shr_small hji26
                                  by_cases c27 : x11_4.length < 140737488355328
                                  · rw [if_pos c27] at H
                                    have LMc27 := Aside0.mk c27
                                    clear c27
                                    obtain ⟨y467, hy467⟩ : ∃ y_ : List Int, y_ = (x11_4 ++ [(ji26) % 256]) := ⟨_, rfl⟩
                                    replace H : (pack_Put.l2 k4 a1 y467 (rd l2 x52_3) l2 (l2.length : Int) x52_3 a1 (wrap64 (x57_4 + 1))) = some (r1, r2) := by first | (rw [hy467]; with_reducible exact H) | (have H2_ := (Option.bind_some _ _).symm.trans H; rw [hy467]; with_reducible exact H2_) | (have H2_ := (Option.bind_some _ _).symm.trans H; with_reducible exact H2_) | with_reducible exact H | (rw [hy467]; exact H) | exact H
                                    have Ny467 := Aside0.mk hy467
                                    clear hy467
                                    have H' := Aside0.mk H
                                    clear H
                                    go_wp2_with (first | ((with_reducible refine gate_builtin (b := .append) (xs := #[.tmp 60, .tmp 66]) rfl ?_); (try (refine gate_guard (by rfl) ?_; dsimp only)); at_builtin; refine Kd.R_append (Kd.int .u8) (w0 := w) w.heap.size rfl (.tmp 60) (.tmp 66) 50 5 (.int .u8 0) 1 rfl Try.underlying50 info5 rfl (by decide) (by omega) u11 x11_4 ((ji26) % 256) [.int .u8 ((ji26) % 256)] (fun _ => True) (fun _ => False) rfl rfl ?aP (fun _ hk => hk.elim) ?aF ?aO ?aB ?aS ?aL ?_; (case aP => exact rfl); (case aB => exact (by repeat (first | (with_reducible first | exact HB.out | apply below_alloc | apply pw_below_drewN | apply below_drew1) | exact HB.out))); (case aF => exact (fun _ _ => trivial)); (case aO => exact (by (with_reducible repeat (first | apply Kd.R_alloc | apply Kd.R_drewN | apply Kd.R_drew)); exact HO_11.out)); (case aS => exact (below_size (by repeat (first | (with_reducible first | exact HB.out | apply below_alloc | apply pw_below_drewN | apply below_drew1) | exact HB.out)))); (case aL => have := LMc27.out; omega); intro v468 w28 ho hb hg hat; rw [← Ny467.out] at ho; have n0_ := Aside0.mk (hb); have n1_ := Aside0.mk (ho); clear HB; clear HO_11; have HB := n0_; have HO469 := n1_; clear n0_ n1_; clear ho hb hg hat))
                                    first | go_roundg k4 | (simp only [← hji26]; go_roundg k4) | (simp only [← hji24, ← hji26]; go_roundg k4)
                                    case measure => have := HK1.out; have := HJ14.out; have := HK3.out; have := HK4.out; omega
                                    case rel => exact ⟨(y467), (wrap64 (x57_4 + 1)), (by first | rfl | (simp; done) | (simp [*]; done)), (by first | exact H' | (rw [hji11]; exact H') | (rw [hji13]; exact H') | (rw [hji24]; exact H') | (rw [hji26]; exact H') | (rw [hji9]; exact H')), ⟨by have := HK1.out; have := HJ14.out; have := HK3.out; have := HK4.out; omega⟩, ⟨by (with_reducible repeat (first | apply Kd.R_alloc | apply Kd.R_drewN | apply Kd.R_drew)); exact HO469.out⟩, ⟨by repeat (first | (with_reducible first | exact HB.out | apply below_alloc | apply pw_below_drewN | apply below_drew1) | exact HB.out)⟩⟩
                                  · rw [if_neg c27] at H
                                    exact absurd H (by simp)
                                · rw [if_neg c25] at H
                                  exact absurd H (by simp)
                              · rw [if_neg c23] at H
                                have c23b0 : decide (x57_4 < a1) = false := decide_eq_false c23
                                clear c23
                                have H' := Aside0.mk H
                                clear H
                                go_wp2
                                go_roundg k4
                                case measure => have := HK1.out; have := HJ14.out; have := HK3.out; have := HK4.out; omega
                                case rel => exact ⟨(x11_4), (wrap64 (x52_3 + 1)), (by first | rfl | (simp; done) | (simp [*]; done)), (by first | exact H' | (rw [hji11]; exact H') | (rw [hji13]; exact H') | (rw [hji24]; exact H') | (rw [hji26]; exact H') | (rw [hji9]; exact H')), ⟨by have := HK1.out; have := HJ14.out; have := HK3.out; have := HK4.out; omega⟩, ⟨by (with_reducible repeat (first | apply Kd.R_alloc | apply Kd.R_drewN | apply Kd.R_drew)); exact HO_11.out⟩, ⟨by repeat (first | (with_reducible first | exact HB.out | apply below_alloc | apply pw_below_drewN | apply below_drew1) | exact HB.out)⟩⟩
                        · rw [if_neg c22] at H
                          exact absurd H (by simp)
                      · rw [if_neg c21] at H
                        exact absurd H (by simp)
                    · rw [if_neg c20] at H
                      have c20b0 : decide (x52_3 < (l2.length : Int)) = false := decide_eq_false c20
                      clear c20
                      simp only [Option.some.injEq, Prod.mk.injEq] at H
                      obtain ⟨rfl, rfl⟩ := H
                      go_wp2
                      go_ret2
                      exact ⟨_, by first | rfl | (simp [errW_none, errW_some] <;> rfl) | (simp [*, errW_none, errW_some] <;> rfl), by (with_reducible repeat (first | apply Kd.R_alloc | apply Kd.R_drewN | apply Kd.R_drew)); exact HO_11.out, by repeat (first | (with_reducible first | exact HB.out | apply below_alloc | apply pw_below_drewN | apply below_drew1) | exact HB.out)⟩
  · replace c5 := Bool.eq_false_iff.mpr c5
    subst c5
    have H1 : (some (([] : List Int), 1)) = some (r1, r2) := by rw [if_neg (show ¬ (false = true) by decide)] at H; exact H
    clear H
    have H := H1
    clear H1
    simp only [Option.some.injEq, Prod.mk.injEq] at H
    obtain ⟨rfl, rfl⟩ := H
    go_enter Try.func102, Try.ntmps102
    go_wp2_with (first | ((with_reducible refine gate_callee (f := 148) rfl ?_); refine goesL_ (some 16) rfl rfl Try.func148 (by kernel_rfl) rfl #[.int .i64 a1] rfl (by (try simp only [List.map_toArray, List.map_cons, List.map_nil]); first | done | rfl | (simp only [List.length_drop, List.length_take]; rfl)) ?_; (with_reducible refine (pack_wide.calls a1 false _ A4.out).mono ?_); rintro e w' ⟨rfl, ⟨nd, rfl⟩⟩; refine ⟨_, rfl, ?_⟩))
    go_ret2
    exact ⟨_, by first | rfl | (simp [errW_none, errW_some] <;> rfl) | (simp [*, errW_none, errW_some] <;> rfl), by first | exact Kd.R_nil _ _ _ _ _ | exact Kd.N_nil _ _ _ _ _ | exact Kd.V_nil _ _ _ _ _ | exact Kd.Q_nil _ _ _ _ _ | exact Kd.S_nil _ _ _ _ _, by repeat (first | (with_reducible first | exact HB.out | apply below_alloc | apply pw_below_drewN | apply below_drew1) | exact HB.out)⟩

end Go.Proofs.Ytkjibgfgbfacdaa.P
end
/-! part: F105 -/
section
set_option linter.unusedVariables false
set_option linter.unusedSimpArgs false
namespace Go.Proofs.Ytkjibgfgbfacdaa.P
open Go.RowKit Go.Proofs.YtkjibgfgbfacdaaW.PrintWords Go.Proofs.YtkjibgfgbfacdaaW.PrintLast Go.Proofs.YtkjibgfgbfacdaaW.PrintMore
attribute [local go_sem] max2_int min2_int max_two min_two max_three min_three max_four min_four   -- for this text's walks alone
set_option linter.unusedVariables false
set_option linter.unusedSimpArgs false

/-! ### pack_Take: function 105 -/
mutual
def pack_Take.j0 : Nat → List Int → Int → Int → List Int → Bool → Option (List Int × List Int × Int)
  | 0, _, _, _, _, _ => none
  | k + 1, x0, x1, x2, x6, x13 => if x13 = true then (some (([] : List Int), ([] : List Int), 1)) else (if (x0.length : Int) < (wrap64 (x2 * x1)) then (some (([] : List Int), ([] : List Int), 2)) else (pack_Take.l0 k x0 x1 x6 (wrap64 (64 - (wrap64 (8 * x1)))) x2 0))
def pack_Take.l0 : Nat → List Int → Int → List Int → Int → Int → Int → Option (List Int × List Int × Int)
  | 0, _, _, _, _, _, _ => none
  | k + 1, x0, x1, x6, x9, x35, x36 => if x36 < x35 then (if 0 ≤ x1 then (if x1 ≤ (x0.length : Int) then ((some (x0.take (x1 : Int).toNat : List Int)).bind fun y540 => (pack_Take.l1 k x0 x1 x6 x9 0 x35 x36 y540 (y540.length : Int) 0)) else (none)) else (none)) else ((bytes_Clone.f x0).bind fun t537 => (some (x6, t537, 0)))
def pack_Take.l1 : Nat → List Int → Int → List Int → Int → Int → Int → Int → List Int → Int → Int → Option (List Int × List Int × Int)
  | 0, _, _, _, _, _, _, _, _, _, _ => none
  | k + 1, x0, x1, x6, x9, x10, x35, x36, x40, x41, x42 => if x42 < x41 then (if 0 ≤ x42 then (if x42 < (x40.length : Int) then (if 0 ≤ (wrap64 (x9 + (wrap64 (8 * x42)))) then (pack_Take.l1 k x0 x1 x6 x9 (Go.bits .or .i64 x10 (shl .i64 (wrap64 (rd x40 x42)) (wrap64 (x9 + (wrap64 (8 * x42)))))) x35 x36 x40 x41 (wrap64 (x42 + 1))) else (none)) else (none)) else (none)) else (if 0 ≤ x9 then (if x6.length < 17592186044416 then (if 0 ≤ x1 then (if x1 ≤ (x0.length : Int) then (pack_Take.l0 k (x0.drop (x1 : Int).toNat) x1 (x6 ++ [shr .i64 x10 x9]) x9 x35 (wrap64 (x36 + 1))) else (none)) else (none)) else (none)) else (none))
end
def pack_Take.f (k : Nat) (l0 : List Int) (a1 : Int) (a2 : Int) : Option (List Int × List Int × Int) := (pack_wide.f a1).bind fun t536 => (if t536 = true then (if a2 < 0 then (pack_Take.j0 k l0 a1 a2 ([] : List Int) true) else (pack_Take.j0 k l0 a1 a2 ([] : List Int) (decide (a2 > 65536)))) else (pack_Take.j0 k l0 a1 a2 ([] : List Int) true))
theorem pack_Take.mono_l : ∀ k, (∀ y0 y1 y2 y3 y4, LeO (pack_Take.j0 k y0 y1 y2 y3 y4) (pack_Take.j0 (k + 1) y0 y1 y2 y3 y4)) ∧ (∀ y0 y1 y2 y3 y4 y5, LeO (pack_Take.l0 k y0 y1 y2 y3 y4 y5) (pack_Take.l0 (k + 1) y0 y1 y2 y3 y4 y5)) ∧ (∀ y0 y1 y2 y3 y4 y5 y6 y7 y8 y9, LeO (pack_Take.l1 k y0 y1 y2 y3 y4 y5 y6 y7 y8 y9) (pack_Take.l1 (k + 1) y0 y1 y2 y3 y4 y5 y6 y7 y8 y9))
  | 0 => ⟨fun _ _ _ _ _ r h => by simp [pack_Take.j0] at h, fun _ _ _ _ _ _ r h => by simp [pack_Take.l0] at h, fun _ _ _ _ _ _ _ _ _ _ r h => by simp [pack_Take.l1] at h⟩
  | k + 1 => by
    obtain ⟨ih0, ih1, ih2⟩ := pack_Take.mono_l k
    refine ⟨?_, ?_, ?_⟩
    · intro y0 y1 y2 y3 y4
      unfold pack_Take.j0
      repeat' first
      | (with_reducible exact ih0 _ _ _ _ _)
      | (with_reducible exact ih1 _ _ _ _ _ _)
      | (with_reducible exact ih2 _ _ _ _ _ _ _ _ _ _)
      | (with_reducible exact LeO.refl _)
      | (with_reducible exact LeO.none _)
      | (with_reducible refine LeO.ite ?_ ?_)
      | (with_reducible refine LeO.bind ?_ (fun _ => ?_))
      | exact ih0 _ _ _ _ _
      | exact ih1 _ _ _ _ _ _
      | exact ih2 _ _ _ _ _ _ _ _ _ _
      | exact LeO.none _
      | refine LeO.ite ?_ ?_
      | refine LeO.bind ?_ (fun _ => ?_)
    · intro y0 y1 y2 y3 y4 y5
      unfold pack_Take.l0
      repeat' first
      | (with_reducible exact ih0 _ _ _ _ _)
      | (with_reducible exact ih1 _ _ _ _ _ _)
      | (with_reducible exact ih2 _ _ _ _ _ _ _ _ _ _)
      | (with_reducible exact LeO.refl _)
      | (with_reducible exact LeO.none _)
      | (with_reducible refine LeO.ite ?_ ?_)
      | (with_reducible refine LeO.bind ?_ (fun _ => ?_))
      | exact ih0 _ _ _ _ _
      | exact ih1 _ _ _ _ _ _
      | exact ih2 _ _ _ _ _ _ _ _ _ _
      | exact LeO.none _
      | refine LeO.ite ?_ ?_
      | refine LeO.bind ?_ (fun _ => ?_)
    · intro y0 y1 y2 y3 y4 y5 y6 y7 y8 y9
      unfold pack_Take.l1
      repeat' first
      | (with_reducible exact ih0 _ _ _ _ _)
      | (with_reducible exact ih1 _ _ _ _ _ _)
      | (with_reducible exact ih2 _ _ _ _ _ _ _ _ _ _)
      | (with_reducible exact LeO.refl _)
      | (with_reducible exact LeO.none _)
      | (with_reducible refine LeO.ite ?_ ?_)
      | (with_reducible refine LeO.bind ?_ (fun _ => ?_))
      | exact ih0 _ _ _ _ _
      | exact ih1 _ _ _ _ _ _
      | exact ih2 _ _ _ _ _ _ _ _ _ _
      | exact LeO.none _
      | refine LeO.ite ?_ ?_
      | refine LeO.bind ?_ (fun _ => ?_)
theorem pack_Take.mono : ∀ a0 a1 a2 k, LeO (pack_Take.f k a0 a1 a2) (pack_Take.f (k + 1) a0 a1 a2) := by
  intro a0 a1 a2 k
  obtain ⟨ih0, ih1, ih2⟩ := pack_Take.mono_l k
  unfold pack_Take.f
  repeat' first
      | (with_reducible exact ih0 _ _ _ _ _)
      | (with_reducible exact ih1 _ _ _ _ _ _)
      | (with_reducible exact ih2 _ _ _ _ _ _ _ _ _ _)
      | (with_reducible exact LeO.refl _)
      | (with_reducible exact LeO.none _)
      | (with_reducible refine LeO.ite ?_ ?_)
      | (with_reducible refine LeO.bind ?_ (fun _ => ?_))
      | exact ih0 _ _ _ _ _
      | exact ih1 _ _ _ _ _ _
      | exact ih2 _ _ _ _ _ _ _ _ _ _
      | exact LeO.none _
      | refine LeO.ite ?_ ?_
      | refine LeO.bind ?_ (fun _ => ?_)
def pack_Take.T14 : Bool × List (List Nat × List Nat) := (true, [([], []), ([], []), ([], []), ([1, 2], [1, 2]), ([3], [3]), ([0, 4], [0, 4]), ([], []), ([], []), ([6, 7], [6, 7]), ([5, 5, 0, 1, 2, 3, 4, 5], [0, 5]), ([8, 9, 0, 1, 2, 3, 4, 5, 6, 7, 8, 9], [6, 8])])
def pack_Take.B14 : List Nat := [0, 0, 0, 6, 14, 31, 0, 0, 192, 63, 1023]
theorem pack_Take.tab14 : rtab .any (opsOf Try.f105 14) = pack_Take.T14 := by kernel_rfl
theorem pack_Take.bits14 : waitsOk pack_Take.T14.2 pack_Take.B14 = true := by kernel_rfl
set_option maxHeartbeats 8000000 in
set_option maxRecDepth 100000 in
theorem pack_Take.calls (k : Nat) (P0_ : Nat → Prop) (A0 : Option Addr) (c0 : Nat) (l0 : List Int) (a1 : Int) (a2 : Int) (r1 : List Int) (r2 : List Int) (r3 : Int) (w : World) (hs0 : Kd.V (Kd.int .u8) 5 w w.heap.size (fun k_ => P0_ k_) (.slice A0 l0.length c0) l0) (h : pack_Take.f k l0 a1 a2 = some (r1, r2, r3)) :
    Calls Try.prog 105 #[.slice A0 l0.length c0, .int .i64 a1, .int .i64 a2] w fun e w' => ∃ v0_ v1_ : Value, e = .returned (.tuple #[v0_, v1_, .int .i64 r3]) ∧ Kd.R (Kd.int .i64) 2 w' w.heap.size (fun k_ => (w.heap.size ≤ k_)) v0_ r1 ∧ Kd.R (Kd.int .u8) 5 w' w.heap.size (fun k_ => (w.heap.size ≤ k_)) v1_ r2 ∧ Below w.heap.size w w' := by
  have HO0 := Aside0.mk (show Kd.V (Kd.int .u8) 5 w w.heap.size (fun k_ => (P0_ k_ ∨ w.heap.size ≤ k_)) (.slice A0 l0.length c0) l0 from Kd.V_mono hs0 (fun k_ hk => .inl hk))
  have HB := Aside0.mk (Below.refl w.heap.size w)
  have H : ((pack_wide.f a1).bind fun t536 => (if t536 = true then (if a2 < 0 then (pack_Take.j0 k l0 a1 a2 ([] : List Int) true) else (pack_Take.j0 k l0 a1 a2 ([] : List Int) (decide (a2 > 65536)))) else (pack_Take.j0 k l0 a1 a2 ([] : List Int) true))) = some (r1, r2, r3) := h
  clear h
  have HC4 := Aside0.mk H
  clear H
  go_enter Try.func105, Try.ntmps105
  go_upto_region 1 with (fail)
  go_cut [13] (fun v13 wc => ∃ (kq : Nat) (x13_3 : Bool), v13 = .bool x13_3 ∧ Aside0 (pack_Take.j0 kq l0 a1 a2 ([] : List Int) x13_3 = some (r1, r2, r3)) ∧ Aside0 (kq ≤ k) ∧ Aside0 (Kd.V (Kd.int .u8) 5 wc w.heap.size (fun k_ => (P0_ k_ ∨ w.heap.size ≤ k_) ∧ some k_ ≠ ((.slice none 0 0) : Value).ownBlock) (.slice A0 l0.length c0) l0) ∧ Aside0 (Kd.R (Kd.int .i64) 2 wc w.heap.size (fun k_ => (w.heap.size ≤ k_)) (.slice none 0 0) ([] : List Int)) ∧ Aside0 (Below w.heap.size w wc))
  case first =>
    have H := HC4.out
    clear HC4
    replace H := Option.bind_eq_some_iff.mp H
    obtain ⟨t536, A50, H⟩ := H
    replace H : (if t536 = true then (if a2 < 0 then (pack_Take.j0 k l0 a1 a2 ([] : List Int) true) else (pack_Take.j0 k l0 a1 a2 ([] : List Int) (decide (a2 > 65536)))) else (pack_Take.j0 k l0 a1 a2 ([] : List Int) true)) = some (r1, r2, r3) := H
    have A5 := Aside0.mk A50
    clear A50
    by_cases c6 : t536 = true
    · subst c6
      have H1 : (if a2 < 0 then (pack_Take.j0 k l0 a1 a2 ([] : List Int) true) else (pack_Take.j0 k l0 a1 a2 ([] : List Int) (decide (a2 > 65536)))) = some (r1, r2, r3) := by first | (rw [if_pos rfl] at H; exact H) | (rw [if_pos trivial] at H; exact H)
      clear H
      have H := H1
      clear H1
      by_cases c7 : a2 < 0
      · rw [if_pos c7] at H
        have c7b0 : decide (a2 < 0) = true := decide_eq_true c7
        clear c7
        (first | rw [c7b0] | (simp only [i64_w, i32_w]; rw [c7b0]) | skip)
        have H' := Aside0.mk H
        clear H
        go_wp2_with (first | ((with_reducible refine gate_callee (f := 148) rfl ?_); refine goesL_ (some 15) rfl rfl Try.func148 (by kernel_rfl) rfl #[.int .i64 a1] rfl (by (try simp only [List.map_toArray, List.map_cons, List.map_nil]); first | done | rfl | (simp only [List.length_drop, List.length_take]; rfl)) ?_; (with_reducible refine (pack_wide.calls a1 true _ A5.out).mono ?_); rintro e w' ⟨rfl, ⟨nd, rfl⟩⟩; refine ⟨_, rfl, ?_⟩))
        go_meet
        case rel => exact ⟨_, (true), (by first | rfl | (simp; done) | (simp [*]; done)), (by first | exact H' | (rw [hji18]; exact H') | (rw [hji20]; exact H') | (rw [hji21]; exact H') | (rw [hji23]; exact H')), ⟨by first | omega | exact Nat.le_refl _⟩, ⟨by (with_reducible repeat (first | apply Kd.V_alloc | apply Kd.V_drewN | apply Kd.V_drew)); exact Kd.V_mono HO0.out (fun _ hk => ⟨hk, (by simp [Value.ownBlock])⟩)⟩, ⟨by first | exact Kd.R_nil _ _ _ _ _ | exact Kd.N_nil _ _ _ _ _ | exact Kd.V_nil _ _ _ _ _ | exact Kd.Q_nil _ _ _ _ _ | exact Kd.S_nil _ _ _ _ _⟩, ⟨by repeat (first | (with_reducible first | exact HB.out | apply below_alloc | apply pw_below_drewN | apply below_drew1) | exact HB.out)⟩⟩
      · rw [if_neg c7] at H
        have c7b0 : decide (a2 < 0) = false := decide_eq_false c7
        clear c7
        (first | rw [c7b0] | (simp only [i64_w, i32_w]; rw [c7b0]) | skip)
        have H' := Aside0.mk H
        clear H
        go_wp2_with (first | ((with_reducible refine gate_callee (f := 148) rfl ?_); refine goesL_ (some 15) rfl rfl Try.func148 (by kernel_rfl) rfl #[.int .i64 a1] rfl (by (try simp only [List.map_toArray, List.map_cons, List.map_nil]); first | done | rfl | (simp only [List.length_drop, List.length_take]; rfl)) ?_; (with_reducible refine (pack_wide.calls a1 true _ A5.out).mono ?_); rintro e w' ⟨rfl, ⟨nd, rfl⟩⟩; refine ⟨_, rfl, ?_⟩))
        go_meet
        case rel => exact ⟨_, (decide (a2 > 65536)), (by first | rfl | (simp; done) | (simp [*]; done)), (by first | exact H' | (rw [hji18]; exact H') | (rw [hji20]; exact H') | (rw [hji21]; exact H') | (rw [hji23]; exact H')), ⟨by first | omega | exact Nat.le_refl _⟩, ⟨by (with_reducible repeat (first | apply Kd.V_alloc | apply Kd.V_drewN | apply Kd.V_drew)); exact Kd.V_mono HO0.out (fun _ hk => ⟨hk, (by simp [Value.ownBlock])⟩)⟩, ⟨by first | exact Kd.R_nil _ _ _ _ _ | exact Kd.N_nil _ _ _ _ _ | exact Kd.V_nil _ _ _ _ _ | exact Kd.Q_nil _ _ _ _ _ | exact Kd.S_nil _ _ _ _ _⟩, ⟨by repeat (first | (with_reducible first | exact HB.out | apply below_alloc | apply pw_below_drewN | apply below_drew1) | exact HB.out)⟩⟩
    · replace c6 := Bool.eq_false_iff.mpr c6
      subst c6
      have H1 : (pack_Take.j0 k l0 a1 a2 ([] : List Int) true) = some (r1, r2, r3) := by rw [if_neg (show ¬ (false = true) by decide)] at H; exact H
      clear H
      have H := H1
      clear H1
      have H' := Aside0.mk H
      clear H
      go_wp2_with (first | ((with_reducible refine gate_callee (f := 148) rfl ?_); refine goesL_ (some 15) rfl rfl Try.func148 (by kernel_rfl) rfl #[.int .i64 a1] rfl (by (try simp only [List.map_toArray, List.map_cons, List.map_nil]); first | done | rfl | (simp only [List.length_drop, List.length_take]; rfl)) ?_; (with_reducible refine (pack_wide.calls a1 false _ A5.out).mono ?_); rintro e w' ⟨rfl, ⟨nd, rfl⟩⟩; refine ⟨_, rfl, ?_⟩))
      go_meet
      case rel => exact ⟨_, (true), (by first | rfl | (simp; done) | (simp [*]; done)), (by first | exact H' | (rw [hji18]; exact H') | (rw [hji20]; exact H') | (rw [hji21]; exact H') | (rw [hji23]; exact H')), ⟨by first | omega | exact Nat.le_refl _⟩, ⟨by (with_reducible repeat (first | apply Kd.V_alloc | apply Kd.V_drewN | apply Kd.V_drew)); exact Kd.V_mono HO0.out (fun _ hk => ⟨hk, (by simp [Value.ownBlock])⟩)⟩, ⟨by first | exact Kd.R_nil _ _ _ _ _ | exact Kd.N_nil _ _ _ _ _ | exact Kd.V_nil _ _ _ _ _ | exact Kd.Q_nil _ _ _ _ _ | exact Kd.S_nil _ _ _ _ _⟩, ⟨by repeat (first | (with_reducible first | exact HB.out | apply below_alloc | apply pw_below_drewN | apply below_drew1) | exact HB.out)⟩⟩
  case rest =>
    clear HC4
    try clear c1
    try clear p2
    try clear c6
    try clear c7
    try clear c7b0
    obtain ⟨kq, x13_3, rfl, HA, HJ3, HO_0, HO_6, HB⟩ := hcut
    cases kq with
    | zero => exact absurd HA.out (by simp [pack_Take.j0])
    | succ kj3 =>
      have H := HA.out
      clear HA
      simp only [pack_Take.j0] at H
      by_cases c8 : x13_3 = true
      · subst c8
        have H1 : (some (([] : List Int), ([] : List Int), 1)) = some (r1, r2, r3) := by first | (rw [if_pos rfl] at H; exact H) | (rw [if_pos trivial] at H; exact H)
        clear H
        have H := H1
        clear H1
        simp only [Option.some.injEq, Prod.mk.injEq] at H
        obtain ⟨rfl, rfl, rfl⟩ := H
        go_wp2
        go_ret3
        exact ⟨_, _, by first | rfl | (simp [errW_none, errW_some] <;> rfl) | (simp [*, errW_none, errW_some] <;> rfl), by first | exact Kd.R_nil _ _ _ _ _ | exact Kd.N_nil _ _ _ _ _ | exact Kd.V_nil _ _ _ _ _ | exact Kd.Q_nil _ _ _ _ _ | exact Kd.S_nil _ _ _ _ _, by first | exact Kd.R_nil _ _ _ _ _ | exact Kd.N_nil _ _ _ _ _ | exact Kd.V_nil _ _ _ _ _ | exact Kd.Q_nil _ _ _ _ _ | exact Kd.S_nil _ _ _ _ _, by repeat (first | (with_reducible first | exact HB.out | apply below_alloc | apply pw_below_drewN | apply below_drew1) | exact HB.out)⟩
      · replace c8 := Bool.eq_false_iff.mpr c8
        subst c8
        have H1 : (if (l0.length : Int) < (wrap64 (a2 * a1)) then (some (([] : List Int), ([] : List Int), 2)) else (pack_Take.l0 kj3 l0 a1 ([] : List Int) (wrap64 (64 - (wrap64 (8 * a1)))) a2 0)) = some (r1, r2, r3) := by rw [if_neg (show ¬ (false = true) by decide)] at H; exact H
        clear H
        have H := H1
        clear H1
        by_cases c9 : (l0.length : Int) < (wrap64 (a2 * a1))
        · rw [if_pos c9] at H
          have c9b0 : decide ((l0.length : Int) < (wrap64 (a2 * a1))) = true := decide_eq_true c9
          clear c9
          simp only [Option.some.injEq, Prod.mk.injEq] at H
          obtain ⟨rfl, rfl, rfl⟩ := H
          go_wp2
          go_ret3
          exact ⟨_, _, by first | rfl | (simp [errW_none, errW_some] <;> rfl) | (simp [*, errW_none, errW_some] <;> rfl), by first | exact Kd.R_nil _ _ _ _ _ | exact Kd.N_nil _ _ _ _ _ | exact Kd.V_nil _ _ _ _ _ | exact Kd.Q_nil _ _ _ _ _ | exact Kd.S_nil _ _ _ _ _, by first | exact Kd.R_nil _ _ _ _ _ | exact Kd.N_nil _ _ _ _ _ | exact Kd.V_nil _ _ _ _ _ | exact Kd.Q_nil _ _ _ _ _ | exact Kd.S_nil _ _ _ _ _, by repeat (first | (with_reducible first | exact HB.out | apply below_alloc | apply pw_below_drewN | apply below_drew1) | exact HB.out)⟩
        · rw [if_neg c9] at H
          have c9b0 : decide ((l0.length : Int) < (wrap64 (a2 * a1))) = false := decide_eq_false c9
          clear c9
          have H' := Aside0.mk H
          clear H
          go_wp2
          go_loopg [0, 6, 36] kj3 (fun kq v0 v6 v36 w' => ∃ (x0_2 : List Int) (x6_2 : List Int) (x36_2 : Int), v36 = .int .i64 x36_2 ∧ Aside0 (pack_Take.l0 kq x0_2 a1 x6_2 (wrap64 (64 - (wrap64 (8 * a1)))) a2 x36_2 = some (r1, r2, r3)) ∧ Aside0 (kq ≤ kj3) ∧ Aside0 (Kd.V (Kd.int .u8) 5 w' w.heap.size (fun k_ => (P0_ k_ ∨ w.heap.size ≤ k_) ∧ some k_ ≠ (v6 : Value).ownBlock) v0 x0_2) ∧ Aside0 (Kd.R (Kd.int .i64) 2 w' w.heap.size (fun k_ => (w.heap.size ≤ k_)) v6 x6_2) ∧ Aside0 (Below w.heap.size w w'))
          case atStart => exact ⟨(l0), (([] : List Int)), (0), (by first | rfl | (simp; done) | (simp [*]; done)), H', ⟨Nat.le_refl _⟩, ⟨by (with_reducible repeat (first | apply Kd.V_alloc | apply Kd.V_drewN | apply Kd.V_drew)); exact HO_0.out⟩, ⟨by (with_reducible repeat (first | apply Kd.R_alloc | apply Kd.R_drewN | apply Kd.R_drew)); exact HO_6.out⟩, ⟨by repeat (first | (with_reducible first | exact HB.out | apply below_alloc | apply pw_below_drewN | apply below_drew1) | exact HB.out)⟩⟩
          case round =>
            clear H'
            try clear c1
            try clear p2
            try clear c6
            try clear p6
            try clear c7
            try clear c7b0
            try clear c8
            try clear c9
            try clear c9b0
            try clear p2
            obtain ⟨x0_2, x6_2, x36_2, rfl, HA, HK2, HO_0, HO_6, HB⟩ := hrel
            cases gk with
            | zero => exact absurd HA.out (by simp [pack_Take.l0])
            | succ k2 =>
              have H := HA.out
              clear HA
              simp only [pack_Take.l0] at H
              by_cases c10 : x36_2 < a2
              · rw [if_pos c10] at H
                have c10b0 : decide (x36_2 < a2) = true := decide_eq_true c10
                clear c10
                by_cases c11 : 0 ≤ a1
                · rw [if_pos c11] at H
                  have c11b0 := eq_true c11
                  have c11b1 : decide (0 ≤ a1) = true := decide_eq_true c11
                  clear c11
                  by_cases c12 : a1 ≤ (x0_2.length : Int)
                  · rw [if_pos c12] at H
                    have c12b0 := eq_true c12
                    have c12b1 : decide (a1 ≤ (x0_2.length : Int)) = true := decide_eq_true c12
                    clear c12
                    obtain ⟨y540, hy540⟩ : ∃ y_ : List Int, y_ = (x0_2.take (a1 : Int).toNat) := ⟨_, rfl⟩
                    replace H : (pack_Take.l1 k2 x0_2 a1 x6_2 (wrap64 (64 - (wrap64 (8 * a1)))) 0 a2 x36_2 y540 (y540.length : Int) 0) = some (r1, r2, r3) := by first | (rw [hy540]; with_reducible exact H) | (have H2_ := (Option.bind_some _ _).symm.trans H; rw [hy540]; with_reducible exact H2_) | (have H2_ := (Option.bind_some _ _).symm.trans H; with_reducible exact H2_) | with_reducible exact H | (rw [hy540]; exact H) | exact H
                    have Ny540 := Aside0.mk hy540
                    clear hy540
                    have H' := Aside0.mk H
                    clear H
                    obtain ⟨Ao14, co14, eo14⟩ := Kd.V_slice HO_0.out
                    subst eo14
                    have q13 : (a1 : Int) ≤ ((x0_2.length : Int) : Int) := of_decide_eq_true (by first | (with_reducible assumption) | assumption)
                    obtain ⟨i013, hi013, _, hsz13, _⟩ := info_parts info5
                    have hroom13 : x0_2.length ≤ co14 := (Kd.V_reads' HO_0.out).2.1
                    have hC13 : Kd.F (Kd.int .u8) _ _ Ao14 x0_2.length x0_2 := (Kd.V_at (base := w.heap.size) HO_0.out).2.2
                    have hcut13 := cut_to (P := Try.prog) 50 5 .i64 Try.underlying50 hi013 Ao14 x0_2.length co14 a1 (of_decide_eq_true (by first | (with_reducible assumption) | assumption)) q13 hroom13
                    have hr13 := Kd.F_take (m := (a1 : Int).toNat) hC13 (by omega)
                    have hy13 : y540.length = (a1 : Int).toNat := (by rw [Ny540.out, List.length_take]; omega)
                    rw [← Ny540.out] at hr13
                    rw [← hy13] at hcut13
                    have HO544 := Aside0.mk (show Kd.V (Kd.int .u8) 5 _ w.heap.size _ (.slice Ao14 y540.length co14) y540 from Kd.V_mk (by omega) hr13)
                    have HC544 := Aside0.mk (show y540.length ≤ co14 from by omega)
                    clear hr13 hC13 hroom13 hi013 hsz13
                    have KY13 := Aside0.mk hy13
                    clear hy13
                    replace q13 := eq_true q13
                    go_wp2
                    go_loopg [10, 42] k2 (fun kq v10 v42 w' => ∃ (x10_3 : Int) (x42_3 : Int), v10 = .int .i64 x10_3 ∧ v42 = .int .i64 x42_3 ∧ Aside0 (pack_Take.l1 kq x0_2 a1 x6_2 (wrap64 (64 - (wrap64 (8 * a1)))) x10_3 a2 x36_2 y540 (y540.length : Int) x42_3 = some (r1, r2, r3)) ∧ Aside0 (kq ≤ k2) ∧ Aside0 (Kd.V (Kd.int .u8) 5 w' w.heap.size (fun k_ => (P0_ k_ ∨ w.heap.size ≤ k_) ∧ some k_ ≠ (u6 : Value).ownBlock) (.slice Ao14 x0_2.length co14) x0_2) ∧ Aside0 (Kd.R (Kd.int .i64) 2 w' w.heap.size (fun k_ => (w.heap.size ≤ k_)) u6 x6_2) ∧ Aside0 (Kd.V (Kd.int .u8) 5 w' w.heap.size (fun k_ => (P0_ k_ ∨ w.heap.size ≤ k_) ∧ some k_ ≠ (u6 : Value).ownBlock) (.slice Ao14 y540.length co14) y540) ∧ Aside0 (Below w.heap.size w w'))
                    case atStart => exact ⟨(0), (0), (by first | rfl | (simp; done) | (simp [*]; done)), (by first | rfl | (simp; done) | (simp [*]; done)), H', ⟨Nat.le_refl _⟩, ⟨by (with_reducible repeat (first | apply Kd.V_alloc | apply Kd.V_drewN | apply Kd.V_drew)); exact HO_0.out⟩, ⟨by (with_reducible repeat (first | apply Kd.R_alloc | apply Kd.R_drewN | apply Kd.R_drew)); exact HO_6.out⟩, ⟨by (with_reducible repeat (first | apply Kd.V_alloc | apply Kd.V_drewN | apply Kd.V_drew)); exact HO544.out⟩, ⟨by repeat (first | (with_reducible first | exact HB.out | apply below_alloc | apply pw_below_drewN | apply below_drew1) | exact HB.out)⟩⟩
                    case round =>
                      clear H'
                      try clear c1
                      try clear q1
                      try clear p2
                      try clear c6
                      try clear p6
                      try clear c7
                      try clear c7b0
                      try clear c8
                      try clear c9
                      try clear c9b0
                      try clear c10
                      try clear c10b0
                      try clear c11
                      try clear c11b0
                      try clear c11b1
                      try clear c12
                      try clear c12b0
                      try clear c12b1
                      try clear q13
                      try clear c14
                      try clear p2
                      try clear p6
                      try clear q13
                      obtain ⟨x10_3, x42_3, rfl, rfl, HA, HK3, HO_0, HO_6, HO_40, HB⟩ := hrel
                      cases gk with
                      | zero => exact absurd HA.out (by simp [pack_Take.l1])
                      | succ k3 =>
                        have H := HA.out
                        clear HA
                        simp only [pack_Take.l1] at H
                        by_cases c15 : x42_3 < (y540.length : Int)
                        · rw [if_pos c15] at H
                          have c15b0 : decide (x42_3 < (y540.length : Int)) = true := decide_eq_true c15
                          clear c15
                          by_cases c16 : 0 ≤ x42_3
                          · rw [if_pos c16] at H
                            have c16b0 : decide (0 ≤ x42_3) = true := decide_eq_true c16
                            clear c16
                            by_cases c17 : x42_3 < (y540.length : Int)
                            · rw [if_pos c17] at H
                              have c17b0 : decide (x42_3 < (y540.length : Int)) = true := decide_eq_true c17
                              clear c17
                              obtain ⟨ji18, hji18⟩ : ∃ j_ : Int, (wrap64 ((wrap64 (64 - (wrap64 (8 * a1)))) + (wrap64 (8 * x42_3)))) = j_ := ⟨_, rfl⟩
                              replace H : (if 0 ≤ (ji18) then (pack_Take.l1 k3 x0_2 a1 x6_2 (wrap64 (64 - (wrap64 (8 * a1)))) (Go.bits .or .i64 x10_3 (shl .i64 (wrap64 (rd y540 x42_3)) (ji18))) a2 x36_2 y540 (y540.length : Int) (wrap64 (x42_3 + 1))) else (none)) = some (r1, r2, r3) := by first | (rw [hji18] at H; exact H) | (simp only [hji18] at H ⊢; exact H)
                              have hji18w : (IntKind.i64.wrap ((wrap64 (64 - (wrap64 (8 * a1)))) + (wrap64 (8 * x42_3)))) = ji18 := (i64_w _).trans hji18
                              by_cases c19 : 0 ≤ (ji18)
                              · rw [if_pos c19] at H
                                have c19b0 := eq_true c19
                                have c19b1 : decide (0 ≤ (ji18)) = true := decide_eq_true c19
                                clear c19
                                obtain ⟨ji20, hji20⟩ : ∃ j_ : Int, (shl .i64 (wrap64 (rd y540 x42_3)) (ji18)) = j_ := ⟨_, rfl⟩
                                replace H : (pack_Take.l1 k3 x0_2 a1 x6_2 (wrap64 (64 - (wrap64 (8 * a1)))) (Go.bits .or .i64 x10_3 (ji20)) a2 x36_2 y540 (y540.length : Int) (wrap64 (x42_3 + 1))) = some (r1, r2, r3) := by first | (rw [hji20] at H; exact H) | (simp only [hji20] at H ⊢; exact H)
                                have hji20_ : (IntKind.i64.wrap ((wrap64 (rd y540 x42_3)) * 2 ^ min (ji18).toNat 64)) = ji20 := hji20
                                have hji20z : (ji18) ≤ 64 → (IntKind.i64.wrap ((wrap64 (rd y540 x42_3)) * 2 ^ (ji18).toNat)) = ji20 := shl_small hji20
                                have hji20y : (wrap64 ((wrap64 (rd y540 x42_3)) * 2 ^ min (ji18).toNat 64)) = ji20 := (i64_w _).symm.trans hji20_
                                have hji20x : (ji18) ≤ 64 → (wrap64 ((wrap64 (rd y540 x42_3)) * 2 ^ (ji18).toNat)) = ji20 := fun h_ => (i64_w _).symm.trans (hji20z h_)
                                have H' := Aside0.mk H
                                clear H
                                have p545 : 0 ≤ (x42_3 : Int) := of_decide_eq_true (by first | (with_reducible assumption) | assumption)
                                have q545 : x42_3 < (y540.length : Int) := of_decide_eq_true (by first | (with_reducible assumption) | assumption)
                                obtain ⟨ad545, e545, hx545_0⟩ := Kd.at_int (Kd.V_reads' HO_40.out).2.2 x42_3 p545 q545
                                cases e545
                                replace p545 := eq_true p545
                                replace q545 := eq_true q545
                                go_wp2
                                first | go_roundg k3 | (simp only [← hji20]; go_roundg k3) | (simp only [← hji18, ← hji20]; go_roundg k3)
                                case measure => have := HJ3.out; have := HK2.out; have := HK3.out; omega
                                case rel => exact ⟨(Go.bits .or .i64 x10_3 (ji20)), (wrap64 (x42_3 + 1)), (by first | rfl | (simp; done) | (simp only [← hji20] <;> (first | rfl | simp)) | (simp [*]; done)), (by first | rfl | (simp; done) | (simp [*]; done)), (by first | exact H' | (rw [hji18]; exact H') | (rw [hji20]; exact H') | (rw [hji21]; exact H') | (rw [hji23]; exact H')), ⟨by have := HJ3.out; have := HK2.out; have := HK3.out; omega⟩, ⟨by (with_reducible repeat (first | apply Kd.V_alloc | apply Kd.V_drewN | apply Kd.V_drew)); exact HO_0.out⟩, ⟨by (with_reducible repeat (first | apply Kd.R_alloc | apply Kd.R_drewN | apply Kd.R_drew)); exact HO_6.out⟩, ⟨by (with_reducible repeat (first | apply Kd.V_alloc | apply Kd.V_drewN | apply Kd.V_drew)); exact HO_40.out⟩, ⟨by repeat (first | (with_reducible first | exact HB.out | apply below_alloc | apply pw_below_drewN | apply below_drew1) | exact HB.out)⟩⟩
                              · rw [if_neg c19] at H
                                exact absurd H (by simp)
                            · rw [if_neg c17] at H
                              exact absurd H (by simp)
                          · rw [if_neg c16] at H
                            exact absurd H (by simp)
                        · rw [if_neg c15] at H
                          have c15b0 : decide (x42_3 < (y540.length : Int)) = false := decide_eq_false c15
                          clear c15
                          obtain ⟨ji21, hji21⟩ : ∃ j_ : Int, (wrap64 (64 - (wrap64 (8 * a1)))) = j_ := ⟨_, rfl⟩
                          replace H : (if 0 ≤ (ji21) then (if x6_2.length < 17592186044416 then (if 0 ≤ a1 then (if a1 ≤ (x0_2.length : Int) then (pack_Take.l0 k3 (x0_2.drop (a1 : Int).toNat) a1 (x6_2 ++ [shr .i64 x10_3 (ji21)]) (ji21) a2 (wrap64 (x36_2 + 1))) else (none)) else (none)) else (none)) else (none)) = some (r1, r2, r3) := by first | (rw [hji21] at H; exact H) | (simp only [hji21] at H ⊢; exact H)
                          have hji21w : (IntKind.i64.wrap (64 - (wrap64 (8 * a1)))) = ji21 := (i64_w _).trans hji21
                          by_cases c22 : 0 ≤ (ji21)
                          · rw [if_pos c22] at H
                            have c22b0 := eq_true c22
                            have c22b1 : decide (0 ≤ (ji21)) = true := decide_eq_true c22
                            clear c22
                            obtain ⟨ji23, hji23⟩ : ∃ j_ : Int, (shr .i64 x10_3 (ji21)) = j_ := ⟨_, rfl⟩
                            replace H : (if x6_2.length < 17592186044416 then (if 0 ≤ a1 then (if a1 ≤ (x0_2.length : Int) then (pack_Take.l0 k3 (x0_2.drop (a1 : Int).toNat) a1 (x6_2 ++ [ji23]) (ji21) a2 (wrap64 (x36_2 + 1))) else (none)) else (none)) else (none)) = some (r1, r2, r3) := by first | (rw [hji23] at H; exact H) | (simp only [hji23] at H ⊢; exact H)
                            have hji23_ : (x10_3 / 2 ^ min (ji21).toNat 64) = ji23 := hji23
                            have hji23z : (ji21) ≤ 64 → (x10_3 / 2 ^ (ji21).toNat) = ji23 := shr_small hji23
                            by_cases c24 : x6_2.length < 17592186044416
                            · rw [if_pos c24] at H
                              have LMc24 := Aside0.mk c24
                              clear c24
                              obtain ⟨y546, hy546⟩ : ∃ y_ : List Int, y_ = (x6_2 ++ [ji23]) := ⟨_, rfl⟩
                              replace H : (if 0 ≤ a1 then (if a1 ≤ (x0_2.length : Int) then (pack_Take.l0 k3 (x0_2.drop (a1 : Int).toNat) a1 y546 (ji21) a2 (wrap64 (x36_2 + 1))) else (none)) else (none)) = some (r1, r2, r3) := by first | (rw [hy546]; with_reducible exact H) | (have H2_ := (Option.bind_some _ _).symm.trans H; rw [hy546]; with_reducible exact H2_) | (have H2_ := (Option.bind_some _ _).symm.trans H; with_reducible exact H2_) | with_reducible exact H | (rw [hy546]; exact H) | exact H
                              have Ny546 := Aside0.mk hy546
                              clear hy546
                              by_cases c25 : 0 ≤ a1
                              · rw [if_pos c25] at H
                                have c25b0 := eq_true c25
                                have c25b1 : decide (0 ≤ a1) = true := decide_eq_true c25
                                clear c25
                                by_cases c26 : a1 ≤ (x0_2.length : Int)
                                · rw [if_pos c26] at H
                                  have c26b0 := eq_true c26
                                  have c26b1 : decide (a1 ≤ (x0_2.length : Int)) = true := decide_eq_true c26
                                  clear c26
                                  obtain ⟨y549, hy549⟩ : ∃ y_ : List Int, y_ = (x0_2.drop (a1 : Int).toNat) := ⟨_, rfl⟩
                                  replace H : (pack_Take.l0 k3 y549 a1 y546 (ji21) a2 (wrap64 (x36_2 + 1))) = some (r1, r2, r3) := by first | (rw [hy549]; with_reducible exact H) | (have H2_ := (Option.bind_some _ _).symm.trans H; rw [hy549]; with_reducible exact H2_) | (have H2_ := (Option.bind_some _ _).symm.trans H; with_reducible exact H2_) | with_reducible exact H | (rw [hy549]; exact H) | exact H
                                  have Ny549 := Aside0.mk hy549
                                  clear hy549
                                  have H' := Aside0.mk H
                                  clear H
                                  try go_wp2
                                  have n0_ := Aside0.mk (Kd.V_drew HO_0.out)
                                  have n1_ := Aside0.mk (Kd.R_drew HO_6.out)
                                  have n2_ := Aside0.mk (Kd.V_drew HO_40.out)
                                  have n3_ := Aside0.mk (below_drew1 HB.out)
                                  clear HO_0
                                  clear HO_6
                                  clear HO_40
                                  clear HB
                                  have HO_0 := n0_
                                  have HO_6 := n1_
                                  have HO_40 := n2_
                                  have HB := n3_
                                  clear n0_ n1_ n2_ n3_
                                  have q28 : (a1 : Int) ≤ ((x0_2.length : Int) : Int) := of_decide_eq_true (by first | (with_reducible assumption) | assumption)
                                  obtain ⟨i028, hi028, _, hsz28, _⟩ := info_parts info5
                                  have hroom28 : x0_2.length ≤ co14 := (Kd.V_reads' HO_0.out).2.1
                                  have hC28 : Kd.F (Kd.int .u8) _ _ Ao14 x0_2.length x0_2 := (Kd.V_at (base := w.heap.size) HO_0.out).2.2
                                  have q028 : (0 : Int) ≤ (a1 : Int) := of_decide_eq_true (by first | (with_reducible assumption) | assumption)
                                  have hcut28 := cut_from (P := Try.prog) 50 5 .i64 Try.underlying50 hi028 1 hsz28 Ao14 x0_2.length co14 a1 q028 q28
                                  have hr28 := Kd.F_cut (m := (a1 : Int).toNat) (c := co14) hC28 (by omega) hroom28
                                  obtain ⟨A28, hA28⟩ : ∃ A1, A1 = (if co14 = (a1 : Int).toNat then Ao14 else (Ao14 : Option Addr).map (·.add ((a1 : Int).toNat * 1))) := ⟨_, rfl⟩
                                  obtain ⟨c28, hc28⟩ : ∃ c1, c1 = co14 - (a1 : Int).toNat := ⟨_, rfl⟩
                                  have hy28 : y549.length = x0_2.length - (a1 : Int).toNat := (by rw [Ny549.out, List.length_drop] <;> omega)
                                  rw [show (x0_2).drop (a1 : Int).toNat = y549 from Ny549.out.symm] at hr28
                                  replace hr28 : Kd.F (Kd.int .u8) _ _ A28 y549.length y549 := (by rw [hA28]; exact hr28)
                                  rw [← hy28, ← hA28, ← hc28] at hcut28
                                  have HO553 := Aside0.mk (show Kd.V (Kd.int .u8) 5 _ w.heap.size _ (.slice A28 y549.length c28) y549 from Kd.V_mk (by rw [hy28, hc28]; exact Nat.sub_le_sub_right hroom28 _) hr28)
                                  have HC553 := Aside0.mk (show y549.length ≤ c28 from by rw [hy28, hc28]; exact Nat.sub_le_sub_right hroom28 _)
                                  clear hr28 hC28 hroom28 hi028 hsz28 hc28
                                  have KY28 := Aside0.mk hy28
                                  have KA28 := Aside0.mk hA28
                                  clear hy28 hA28
                                  replace q28 := eq_true q28
                                  refine start_ (n := 11) (S := fun w' => True) (ds := []) #[false, false, false, false, false, false, false, false, false, false, false] (by kernel_rfl) rfl rfl trivial (fun hHeld => ?_); refine with_tabW pack_Take.tab14 pack_Take.bits14 (fun HT_ HW_ => ?_)
                                  generalize wr.drew = w27 at HO_0 HO_6 HO_40 HB HO553 hHeld ⊢
                                  refine pure_ (i := 0) (N := some 57) (v := ?_) (a' := ?_) #[true, false, false, false, false, false, false, false, false, false, false] rfl rfl (any_of HT_.out (by kernel_rfl)) (fun _ _ _ h => h) (Or.inl ⟨by rfl, ?_⟩) ?_ ?_
                                  rotate_left
                                  · intro w'
                                    go_simp
                                    with_reducible rfl
                                  rotate_left
                                  · simp only [Act.put, List.setIfInBounds_toArray, List.set_cons_zero, List.set_cons_succ, i64_w, i32_w]
                                    rfl
                                  refine pure_ (i := 1) (N := some 58) (v := ?_) (a' := ?_) #[true, true, false, false, false, false, false, false, false, false, false] rfl rfl (any_of HT_.out (by kernel_rfl)) (fun _ _ _ h => h) (Or.inl ⟨by rfl, ?_⟩) ?_ ?_
                                  rotate_left
                                  · intro w'
                                    go_simp
                                    with_reducible rfl
                                  rotate_left
                                  · simp only [Act.put, List.setIfInBounds_toArray, List.set_cons_zero, List.set_cons_succ, i64_w, i32_w]
                                    rfl
                                  refine pure_ (i := 2) (N := some 59) (v := ?_) (a' := ?_) #[true, true, true, false, false, false, false, false, false, false, false] rfl rfl (any_of HT_.out (by kernel_rfl)) (fun _ _ _ h => h) (Or.inl ⟨by rfl, ?_⟩) ?_ ?_
                                  rotate_left
                                  · intro w'
                                    go_simp
                                    with_reducible rfl
                                  rotate_left
                                  · simp only [Act.put, List.setIfInBounds_toArray, List.set_cons_zero, List.set_cons_succ, i64_w, i32_w]
                                    rfl
                                  refine pure_ (i := 3) (N := some 60) (v := ?_) (a' := ?_) #[true, true, true, true, false, false, false, false, false, false, false] rfl rfl (any_of HT_.out (by kernel_rfl)) (fun _ _ _ h => h) (Or.inl ⟨by rfl, ?_⟩) ?_ ?_
                                  rotate_left
                                  · intro w'
                                    go_simp
                                    with_reducible rfl
                                  rotate_left
                                  · simp only [Act.put, List.setIfInBounds_toArray, List.set_cons_zero, List.set_cons_succ, i64_w, i32_w]
                                    rfl
                                  refine pure_ (i := 6) (N := some 63) (v := ?_) (a' := ?_) #[true, true, true, true, false, false, true, false, false, false, false] rfl rfl (any_of HT_.out (by kernel_rfl)) (fun _ _ _ h => h) (Or.inl ⟨by rfl, ?_⟩) ?_ ?_
                                  rotate_left
                                  · intro w'
                                    go_simp
                                    with_reducible rfl
                                  rotate_left
                                  · simp only [Act.put, List.setIfInBounds_toArray, List.set_cons_zero, List.set_cons_succ, i64_w, i32_w]
                                    rfl
                                  refine pure_ (i := 7) (N := some 64) (v := ?_) (a' := ?_) #[true, true, true, true, false, false, true, true, false, false, false] rfl rfl (any_of HT_.out (by kernel_rfl)) (fun _ _ _ h => h) (Or.inl ⟨by rfl, ?_⟩) ?_ ?_
                                  rotate_left
                                  · intro w'
                                    go_simp
                                    with_reducible rfl
                                  rotate_left
                                  · simp only [Act.put, List.setIfInBounds_toArray, List.set_cons_zero, List.set_cons_succ, i64_w, i32_w]
                                    rfl
                                  refine pure_ (i := 8) (N := some 65) (v := ?_) (a' := ?_) #[true, true, true, true, false, false, true, true, true, false, false] rfl rfl (any_of HT_.out (by kernel_rfl)) (fun _ _ _ h => h) (Or.inl ⟨by rfl, ?_⟩) ?_ ?_
                                  rotate_left
                                  · intro w'
                                    go_simp
                                    with_reducible rfl
                                  rotate_left
                                  · simp only [Act.put, List.setIfInBounds_toArray, List.set_cons_zero, List.set_cons_succ, i64_w, i32_w]
                                    rfl
                                  refine one_ (i := 4) (N := some 61) #[true, true, true, true, true, false, true, true, true, false, false] rfl rfl (one_of HT_.out (by kernel_rfl)) (by decide) (fun K hK => ?_)
                                  refine value_ (w1 := ?_) (v := ?_) (by rfl) rfl ?_ ?_
                                  rotate_left 2
                                  · go_simp
                                    constructor
                                    · rfl
                                    · rfl
                                  refine hK.out _ _ trivial (fun hHeld => ?_)
                                  clear hK K
                                  refine norm_ (a' := ?_) ?_ ?_
                                  rotate_left
                                  · show Act.put _ (some 61) _ = _
                                    simp only [Act.put, List.setIfInBounds_toArray, List.set_cons_zero, List.set_cons_succ, i64_w, i32_w]
                                    rfl
                                  refine one_ (i := 5) (N := some 62) #[true, true, true, true, true, true, true, true, true, false, false] rfl rfl (one_of HT_.out (by kernel_rfl)) (by decide) (fun K hK => ?_)
                                  refine Kd.R_append_step (Kd.int .i64) (w0 := w) w.heap.size (by rfl) (.tmp 57) (.tmp 61) 22 2 (.int .i64 0) 8 rfl Try.underlying22 info2 rfl (by decide) (by omega) u6 x6_2 ji23 [.int .i64 ji23] (fun k_ => (w.heap.size ≤ k_)) (fun _ => False) rfl rfl ?aP (fun _ hk => hk.elim) ?aF ?aO ?aB ?aS ?aL ?_
                                  (case aP => exact rfl)
                                  (case aB => exact (by repeat (first | (with_reducible first | exact HB.out | apply below_alloc | apply pw_below_drewN | apply below_drew1) | exact HB.out)))
                                  (case aF => exact (fun k_ hk => (Nat.le_trans (below_size (by repeat (first | (with_reducible first | exact HB.out | apply below_alloc | apply pw_below_drewN | apply below_drew1) | exact HB.out))) hk)))
                                  (case aO => exact (by (with_reducible repeat (first | apply Kd.R_alloc | apply Kd.R_drewN | apply Kd.R_drew)); exact HO_6.out))
                                  (case aS => exact (below_size (by repeat (first | (with_reducible first | exact HB.out | apply below_alloc | apply pw_below_drewN | apply below_drew1) | exact HB.out))))
                                  (case aL => have := LMc24.out; omega)
                                  intro v547 w29 ho hb hg hat
                                  rw [← Ny546.out] at ho
                                  have n0_ := Aside0.mk (Kd.V_afterv (ok := (fun k_ => (P0_ k_ ∨ w.heap.size ≤ k_))) (by (with_reducible repeat (first | apply Kd.V_alloc | apply Kd.V_drewN | apply Kd.V_drew)); exact HO_0.out) hg hat)
                                  have n1_ := Aside0.mk (Kd.V_afterv (ok := (fun k_ => (P0_ k_ ∨ w.heap.size ≤ k_))) (by (with_reducible repeat (first | apply Kd.V_alloc | apply Kd.V_drewN | apply Kd.V_drew)); exact HO_40.out) hg hat)
                                  have n2_ := Aside0.mk (Kd.V_afterv (ok := (fun k_ => (P0_ k_ ∨ w.heap.size ≤ k_))) (by (with_reducible repeat (first | apply Kd.V_alloc | apply Kd.V_drewN | apply Kd.V_drew)); exact HO553.out) hg hat)
                                  have n3_ := Aside0.mk (hb)
                                  have n4_ := Aside0.mk (ho)
                                  clear HO_0
                                  clear HO_40
                                  clear HO553
                                  clear HB
                                  clear HO_6
                                  have HO_0 := n0_
                                  have HO_40 := n1_
                                  have HO553 := n2_
                                  have HB := n3_
                                  have HO548 := n4_
                                  clear n0_ n1_ n2_ n3_ n4_
                                  clear ho hb hg hat
                                  refine hK.out _ _ trivial (fun hHeld => ?_)
                                  clear hK K
                                  refine norm_ (a' := ?_) ?_ ?_
                                  rotate_left
                                  · show Act.put _ (some 62) _ = _
                                    simp only [Act.put, List.setIfInBounds_toArray, List.set_cons_zero, List.set_cons_succ, i64_w, i32_w]
                                    rfl
                                  refine pure_ (i := 9) (N := some 6) (v := ?_) (a' := ?_) #[true, true, true, true, true, true, true, true, true, true, false] rfl rfl (any_of HT_.out (by kernel_rfl)) (fun _ _ _ h => h) (Or.inl ⟨by rfl, ?_⟩) ?_ ?_
                                  rotate_left
                                  · intro w'
                                    go_simp
                                    with_reducible rfl
                                  rotate_left
                                  · simp only [Act.put, List.setIfInBounds_toArray, List.set_cons_zero, List.set_cons_succ, i64_w, i32_w]
                                    rfl
                                  refine pure_ (i := 10) (N := some 0) (v := ?_) (a' := ?_) #[true, true, true, true, true, true, true, true, true, true, true] rfl rfl (any_of HT_.out (by kernel_rfl)) (fun _ _ _ h => h) (Or.inl ⟨by rfl, ?_⟩) ?_ ?_
                                  rotate_left
                                  · intro w'
                                    go_simp
                                    with_reducible rfl
                                  rotate_left
                                  · simp only [Act.put, List.setIfInBounds_toArray, List.set_cons_zero, List.set_cons_succ, i64_w, i32_w]
                                    rfl
                                  refine done_ (done_of HT_.out (by kernel_rfl)) ?_
                                  try go_wp2
                                  first | go_roundg k3 | (simp only [← hji23]; go_roundg k3) | (simp only [← hji21, ← hji23]; go_roundg k3)
                                  case measure => have := HJ3.out; have := HK2.out; have := HK3.out; omega
                                  case rel => exact ⟨(y549), (y546), (wrap64 (x36_2 + 1)), (by first | rfl | (simp; done) | (simp [*]; done)), (by first | exact H' | (rw [hji18]; exact H') | (rw [hji20]; exact H') | (rw [hji21]; exact H') | (rw [hji23]; exact H')), ⟨by have := HJ3.out; have := HK2.out; have := HK3.out; omega⟩, ⟨by (with_reducible repeat (first | apply Kd.V_alloc | apply Kd.V_drewN | apply Kd.V_drew)); exact HO553.out⟩, ⟨by (with_reducible repeat (first | apply Kd.R_alloc | apply Kd.R_drewN | apply Kd.R_drew)); exact HO548.out⟩, ⟨by repeat (first | (with_reducible first | exact HB.out | apply below_alloc | apply pw_below_drewN | apply below_drew1) | exact HB.out)⟩⟩
                                · rw [if_neg c26] at H
                                  exact absurd H (by simp)
                              · rw [if_neg c25] at H
                                exact absurd H (by simp)
                            · rw [if_neg c24] at H
                              exact absurd H (by simp)
                          · rw [if_neg c22] at H
                            exact absurd H (by simp)
                  · rw [if_neg c12] at H
                    exact absurd H (by simp)
                · rw [if_neg c11] at H
                  exact absurd H (by simp)
              · rw [if_neg c10] at H
                have c10b0 : decide (x36_2 < a2) = false := decide_eq_false c10
                clear c10
                replace H := Option.bind_eq_some_iff.mp H
                obtain ⟨t537, A300, H⟩ := H
                replace H : (some (x6_2, t537, 0)) = some (r1, r2, r3) := H
                have A30 := Aside0.mk A300
                clear A300
                simp only [Option.some.injEq, Prod.mk.injEq] at H
                obtain ⟨rfl, rfl, rfl⟩ := H
                obtain ⟨Ao31, co31, eo31⟩ := Kd.V_slice HO_0.out
                subst eo31
                go_wp2_with (first | ((with_reducible refine gate_callee (f := 149) rfl ?_); refine goesL_ (some 69) rfl rfl Try.func149 (by kernel_rfl) rfl #[.slice Ao31 x0_2.length co31] rfl (by (try simp only [List.map_toArray, List.map_cons, List.map_nil]); first | done | rfl | (simp only [List.length_drop, List.length_take]; rfl)) ?_; (with_reducible refine (bytes_Clone.calls _ _ x0_2 t537 _ ?side1 ?side2 A30.out).mono ?_); (case side1 => repeat (first | exact (Kd.V_reads' HO_0.out).2.2 | (with_reducible refine Kd.C_alloc ?_ _) | (with_reducible refine Kd.C_drewN ?_ _) | (with_reducible refine Kd.C_drew ?_))); (case side2 => exact (Kd.V_reads' HO_0.out).2.1); rintro e w32 ⟨v538, rfl, ho0, hb⟩; refine ⟨_, rfl, ?_⟩; have n0_ := Aside0.mk (Kd.V_elder' (by (with_reducible repeat (first | apply Kd.V_alloc | apply Kd.V_drewN | apply Kd.V_drew)); exact HO_0.out) (Kd.R_base ho0) hb); have n1_ := Aside0.mk (Kd.R_below (by (with_reducible repeat (first | apply Kd.R_alloc | apply Kd.R_drewN | apply Kd.R_drew)); exact HO_6.out) hb); have n2_ := Aside0.mk (Kd.R_lower (Kd.R_newM (M := fun k_ => (w.heap.size ≤ k_)) ho0 (below_size (by repeat (first | (with_reducible first | exact HB.out | apply below_alloc | apply pw_below_drewN | apply below_drew1) | exact HB.out))) (fun k_ h_ => h_)) (below_size (by repeat (first | (with_reducible first | exact HB.out | apply below_alloc | apply pw_below_drewN | apply below_drew1) | exact HB.out)))); have n3_ := Aside0.mk (below_step (by repeat (first | (with_reducible first | exact HB.out | apply below_alloc | apply pw_below_drewN | apply below_drew1) | exact HB.out)) hb); clear HO_0; clear HO_6; clear HB; have HO_0 := n0_; have HO_6 := n1_; have HO539 := n2_; have HB := n3_; clear n0_ n1_ n2_ n3_; (try clear hb); (try clear hb2); (try clear hk); (try clear hi); (try clear ho0)))
                go_ret3
                exact ⟨_, _, by first | rfl | (simp [errW_none, errW_some] <;> rfl) | (simp [*, errW_none, errW_some] <;> rfl), by (with_reducible repeat (first | apply Kd.R_alloc | apply Kd.R_drewN | apply Kd.R_drew)); exact HO_6.out, by (with_reducible repeat (first | apply Kd.R_alloc | apply Kd.R_drewN | apply Kd.R_drew)); exact Kd.R_mono HO539.out (fun _ hk => hk.1), by repeat (first | (with_reducible first | exact HB.out | apply below_alloc | apply pw_below_drewN | apply below_drew1) | exact HB.out)⟩

end Go.Proofs.Ytkjibgfgbfacdaa.P
end
/-! part: PPack -/
section
set_option linter.unusedVariables false
set_option linter.unusedSimpArgs false
namespace Go.Proofs.Ytkjibgfgbfacdaa.P
open Go.RowKit Go.Proofs.YtkjibgfgbfacdaaW.PrintWords Go.Proofs.YtkjibgfgbfacdaaW.PrintLast Go.Proofs.YtkjibgfgbfacdaaW.PrintMore
set_option linter.unusedVariables false

/-! ### octets -/
/-- The octets of a number, the lower ones first. -/
def enc : Nat → Int → List Int
  | 0, _ => []
  | w + 1, n => n % 256 :: enc w (n / 256)
/-- What octets tell. -/
def val : List Int → Int
  | [] => 0
  | c :: t => c + 256 * val t
/-! ### widths -/
/-- A number has room in w octets. -/
def fitsB (w : Nat) (n : Int) : Bool := decide (-(2 ^ (8 * w - 1)) ≤ n) && decide (n < 2 ^ (8 * w - 1))
/-- The number of w octets: the highest bit is the sign. -/
def sgn (w : Nat) (v : Int) : Int := if v < 2 ^ (8 * w - 1) then v else v - 2 ^ (8 * w)
def dec (w : Nat) (l : List Int) : Int := sgn w (val l)
end Go.Proofs.Ytkjibgfgbfacdaa.P
end
/-! part: PPackL -/
section
set_option linter.unusedVariables false
set_option linter.unusedSimpArgs false
namespace Go.Proofs.Ytkjibgfgbfacdaa.P
open Go.RowKit Go.Proofs.YtkjibgfgbfacdaaW.PrintWords Go.Proofs.YtkjibgfgbfacdaaW.PrintLast Go.Proofs.YtkjibgfgbfacdaaW.PrintMore
set_option linter.unusedVariables false

def putP (b : List Int) (w : Int) (l : List Int) : List Int × Int :=
  if 1 ≤ w ∧ w ≤ 8 then (if l.all (fitsB w.toNat) = true then (if (l.length : Int) > 65536 ∨ (b.length : Int) > 65536 - w * (l.length : Int) then ([], 3) else (b ++ l.flatMap (enc w.toNat), 0)) else ([], 4)) else ([], 1)
/-! ### pack.Take -/
def decs (w : Nat) : Nat → List Int → List Int
  | 0, _ => []
  | n + 1, l => dec w (l.take w) :: decs w n (l.drop w)
def takeP (b : List Int) (w n : Int) : List Int × List Int × Int :=
  if 1 ≤ w ∧ w ≤ 8 ∧ 0 ≤ n ∧ n ≤ 65536 then (if (b.length : Int) < n * w then ([], [], 2) else (decs w.toNat n.toNat b, b.drop (n.toNat * w.toNat), 0)) else ([], [], 1)
end Go.Proofs.Ytkjibgfgbfacdaa.P
end
/-! part: F49 -/
section
set_option linter.unusedVariables false
set_option linter.unusedSimpArgs false
namespace Go.Proofs.Ytkjibgfgbfacdaa.P
open Go.RowKit Go.Proofs.YtkjibgfgbfacdaaW.PrintWords Go.Proofs.YtkjibgfgbfacdaaW.PrintLast Go.Proofs.YtkjibgfgbfacdaaW.PrintMore
attribute [local go_sem] max2_int min2_int max_two min_two max_three min_three max_four min_four   -- for this text's walks alone
set_option linter.unusedVariables false
set_option linter.unusedSimpArgs false

/-! ### quant_Cells: function 49 -/
def quant_Cells.f (a0_0 : Int) (l0_1 : List (List Int)) : Option (Int × Int) := (h_quant_Check.f a0_0 l0_1).bind fun t453 => (if t453 = 0 then (if 0 < (l0_1.length : Int) then (some (wrap64 (((rd_L3 l0_1 0).length : Int) + 1), 0)) else (none)) else (some (0, t453)))
set_option maxHeartbeats 8000000 in
set_option maxRecDepth 100000 in
theorem quant_Cells.calls (a0_0 : Int) (A0_1 : Option Addr) (c0_1 : Nat) (l0_1 : List (List Int)) (r1 : Int) (r2 : Int) (w : World) (hr0_1 : Kd.C (Kd.slice 74 (Kd.int .i16)) w A0_1 l0_1.length l0_1) (hc0_1 : l0_1.length ≤ c0_1) (h : quant_Cells.f a0_0 l0_1 = some (r1, r2)) :
    Calls Try.prog 49 #[.agg #[.int .i64 a0_0, .slice A0_1 l0_1.length c0_1]] w fun e w' => e = .returned (.tuple #[.int .i64 r1, .int .i64 r2]) ∧ Below w.heap.size w w' := by
  have hu49 := Try.underlying49
  have HR0_1 := Aside0.mk hr0_1
  have HC0_1 := Aside0.mk hc0_1
  clear hr0_1 hc0_1
  have HB := Aside0.mk (Below.refl w.heap.size w)
  have H : ((h_quant_Check.f a0_0 l0_1).bind fun t453 => (if t453 = 0 then (if 0 < (l0_1.length : Int) then (some (wrap64 (((rd_L3 l0_1 0).length : Int) + 1), 0)) else (none)) else (some (0, t453)))) = some (r1, r2) := h
  clear h
  replace H := Option.bind_eq_some_iff.mp H
  obtain ⟨t453, A20, H⟩ := H
  replace H : (if t453 = 0 then (if 0 < (l0_1.length : Int) then (some (wrap64 (((rd_L3 l0_1 0).length : Int) + 1), 0)) else (none)) else (some (0, t453))) = some (r1, r2) := H
  have A2 := Aside0.mk A20
  clear A20
  by_cases c3 : t453 = 0
  · rw [if_pos c3] at H
    have c3b0 : (t453 == 0) = true := beq_iff_eq.mpr c3
    have c3b1 : (t453 != 0) = false := bne_eq_false_iff_eq.mpr c3
    clear c3
    by_cases c4 : 0 < (l0_1.length : Int)
    · rw [if_pos c4] at H
      have c4b0 : decide (0 < (l0_1.length : Int)) = true := decide_eq_true c4
      have c4b1 : decide (0 < l0_1.length) = true := decide_eq_true (by omega)
      clear c4
      simp only [Option.some.injEq, Prod.mk.injEq] at H
      obtain ⟨rfl, rfl⟩ := H
      go_enter Try.func49, Try.ntmps49
      go_wp2_with (first | ((with_reducible refine gate_dst (N := 1) rfl ?_); refine box_event ?hg (N := 1) ?hd (cs := #[.int .i64 a0_0, .slice A0_1 l0_1.length c0_1]) (t := 49) ?hr ?_; (case hd => rfl); (case hg => rfl); (case hr => first | (go_simp; done) | (go_simp; rfl)); intro gb452 hg w5 hbox hb; have n0_ := Aside0.mk (below_step (by repeat (first | (with_reducible first | exact HB.out | apply below_alloc | apply pw_below_drewN | apply below_drew1) | exact HB.out)) hb); have n1_ := Aside0.mk (hbox); have n2_ := Aside0.mk ((by rw [hg]; exact (below_size (by repeat (first | (with_reducible first | exact HB.out | apply below_alloc | apply pw_below_drewN | apply below_drew1) | exact HB.out))) : w.heap.size ≤ gb452)); have n3_ := Aside0.mk ((by rw [hg]; exact (below_size (by repeat (first | (with_reducible first | exact HB.out | apply below_alloc | apply pw_below_drewN | apply below_drew1) | exact HB.out))) : w.heap.size ≤ gb452)); clear HB; have HB := n0_; have BK452 := n1_; have GW452 := n2_; have GE452 := n3_; clear n0_ n1_ n2_ n3_; clear hb hbox hg; have hcz6_0 : w5.cell? ⟨gb452, 0, none⟩ = some (.int .i64 a0_0) := (blk_cell BK452.out 0).trans rfl; have hcz6_1 : w5.cell? ⟨gb452, 1, none⟩ = some (.slice A0_1 l0_1.length c0_1) := (blk_cell BK452.out 1).trans rfl; have hfz6_0 := blk_frozen BK452.out 0; have hfz6_1 := blk_frozen BK452.out 1) | ((with_reducible refine gate_callee (f := 48) rfl ?_); refine goesL_ (some 6) rfl rfl Try.func48 (by kernel_rfl) rfl #[.agg #[.int .i64 a0_0, .slice A0_1 l0_1.length c0_1]] rfl (by (try simp only [List.map_toArray, List.map_cons, List.map_nil]); first | done | rfl | (simp only [List.length_drop, List.length_take]; rfl)) ?_; (with_reducible refine (h_quant_Check.calls a0_0 _ _ l0_1 t453 _ ?side1 ?side2 A2.out).mono ?_); (case side1 => repeat (first | exact (Kd.C_below HR0_1.out HB.out) | (with_reducible refine Kd.C_alloc ?_ _) | (with_reducible refine Kd.C_drewN ?_ _) | (with_reducible refine Kd.C_drew ?_))); (case side2 => exact HC0_1.out); rintro e w7 ⟨rfl, hb⟩; refine ⟨_, rfl, ?_⟩; have n0_ := Aside0.mk (blk_below (g := gb452) (o := .cells #[.int .i64 a0_0, .slice A0_1 l0_1.length c0_1] 49 (0, 0)) (by (with_reducible repeat (first | refine blk_drewN ?_ _ | refine blk_drew ?_ | refine blk_alloc ?_ _)); exact BK452.out) hb); have n1_ := Aside0.mk (below_step (by repeat (first | (with_reducible first | exact HB.out | apply below_alloc | apply pw_below_drewN | apply below_drew1 | refine below_set ?_ GE452.out) | exact HB.out)) hb); clear BK452; clear HB; have BK452 := n0_; have HB := n1_; clear n0_ n1_; (try clear hb); (try clear hb2); (try clear hk); (try clear hi); have hcz8_0 : w7.cell? ⟨gb452, 0, none⟩ = some (.int .i64 a0_0) := (blk_cell BK452.out 0).trans rfl; have hcz8_1 : w7.cell? ⟨gb452, 1, none⟩ = some (.slice A0_1 l0_1.length c0_1) := (blk_cell BK452.out 1).trans rfl; have hfz8_0 := blk_frozen BK452.out 0; have hfz8_1 := blk_frozen BK452.out 1; have p454 : 0 ≤ (0 : Int) := (by omega); have q454 : 0 < (l0_1.length : Int) := of_decide_eq_true (by first | (with_reducible assumption) | assumption); obtain ⟨ad454, A454_0, c454_0, e454, hx454_0, hl454_0, hi454_0⟩ := at_L3 HR0_1.out 0 p454 q454; cases e454; have qi454 : (0 < l0_1.length) = True := eq_true (by omega); (try rw [show ((0 : Int)).toNat = 0 from rfl] at hx454_0); (try rw [Addr.add_zero'] at hx454_0); replace hx454_0 := (HB.out.cell (World.block_lt_of_cell? w _ hx454_0)).trans hx454_0; have HR454_0 := Aside0.mk hi454_0; have HC454_0 := Aside0.mk hl454_0; clear hi454_0 hl454_0; replace p454 := eq_true p454; replace q454 := eq_true q454))
      go_ret2
      exact ⟨by first | rfl | (simp [errW_none, errW_some] <;> rfl) | (simp [*, errW_none, errW_some] <;> rfl), by repeat (first | (with_reducible first | exact HB.out | apply below_alloc | apply pw_below_drewN | apply below_drew1 | refine below_set ?_ GE452.out) | exact HB.out)⟩
    · rw [if_neg c4] at H
      exact absurd H (by simp)
  · rw [if_neg c3] at H
    have c3b0 : (t453 == 0) = false := beq_eq_false_iff_ne.mpr c3
    have c3b1 : (t453 != 0) = true := bne_iff_ne.mpr c3
    simp only [Option.some.injEq, Prod.mk.injEq] at H
    obtain ⟨rfl, rfl⟩ := H
    go_enter Try.func49, Try.ntmps49
    go_wp2_with (first | ((with_reducible refine gate_dst (N := 1) rfl ?_); refine box_event ?hg (N := 1) ?hd (cs := #[.int .i64 a0_0, .slice A0_1 l0_1.length c0_1]) (t := 49) ?hr ?_; (case hd => rfl); (case hg => rfl); (case hr => first | (go_simp; done) | (go_simp; rfl)); intro gb452 hg w9 hbox hb; have n0_ := Aside0.mk (below_step (by repeat (first | (with_reducible first | exact HB.out | apply below_alloc | apply pw_below_drewN | apply below_drew1) | exact HB.out)) hb); have n1_ := Aside0.mk (hbox); have n2_ := Aside0.mk ((by rw [hg]; exact (below_size (by repeat (first | (with_reducible first | exact HB.out | apply below_alloc | apply pw_below_drewN | apply below_drew1) | exact HB.out))) : w.heap.size ≤ gb452)); have n3_ := Aside0.mk ((by rw [hg]; exact (below_size (by repeat (first | (with_reducible first | exact HB.out | apply below_alloc | apply pw_below_drewN | apply below_drew1) | exact HB.out))) : w.heap.size ≤ gb452)); clear HB; have HB := n0_; have BK452 := n1_; have GW452 := n2_; have GE452 := n3_; clear n0_ n1_ n2_ n3_; clear hb hbox hg; have hcz10_0 : w9.cell? ⟨gb452, 0, none⟩ = some (.int .i64 a0_0) := (blk_cell BK452.out 0).trans rfl; have hcz10_1 : w9.cell? ⟨gb452, 1, none⟩ = some (.slice A0_1 l0_1.length c0_1) := (blk_cell BK452.out 1).trans rfl; have hfz10_0 := blk_frozen BK452.out 0; have hfz10_1 := blk_frozen BK452.out 1) | ((with_reducible refine gate_callee (f := 48) rfl ?_); refine goesL_ (some 6) rfl rfl Try.func48 (by kernel_rfl) rfl #[.agg #[.int .i64 a0_0, .slice A0_1 l0_1.length c0_1]] rfl (by (try simp only [List.map_toArray, List.map_cons, List.map_nil]); first | done | rfl | (simp only [List.length_drop, List.length_take]; rfl)) ?_; (with_reducible refine (h_quant_Check.calls a0_0 _ _ l0_1 t453 _ ?side1 ?side2 A2.out).mono ?_); (case side1 => repeat (first | exact (Kd.C_below HR0_1.out HB.out) | (with_reducible refine Kd.C_alloc ?_ _) | (with_reducible refine Kd.C_drewN ?_ _) | (with_reducible refine Kd.C_drew ?_))); (case side2 => exact HC0_1.out); rintro e w11 ⟨rfl, hb⟩; refine ⟨_, rfl, ?_⟩; have n0_ := Aside0.mk (blk_below (g := gb452) (o := .cells #[.int .i64 a0_0, .slice A0_1 l0_1.length c0_1] 49 (0, 0)) (by (with_reducible repeat (first | refine blk_drewN ?_ _ | refine blk_drew ?_ | refine blk_alloc ?_ _)); exact BK452.out) hb); have n1_ := Aside0.mk (below_step (by repeat (first | (with_reducible first | exact HB.out | apply below_alloc | apply pw_below_drewN | apply below_drew1 | refine below_set ?_ GE452.out) | exact HB.out)) hb); clear BK452; clear HB; have BK452 := n0_; have HB := n1_; clear n0_ n1_; (try clear hb); (try clear hb2); (try clear hk); (try clear hi)))
    go_ret2
    exact ⟨by first | rfl | (simp [errW_none, errW_some] <;> rfl) | (simp [*, errW_none, errW_some] <;> rfl), by repeat (first | (with_reducible first | exact HB.out | apply below_alloc | apply pw_below_drewN | apply below_drew1 | refine below_set ?_ GE452.out) | exact HB.out)⟩

end Go.Proofs.Ytkjibgfgbfacdaa.P
end
/-! part: F37 -/
section
set_option linter.unusedVariables false
set_option linter.unusedSimpArgs false
namespace Go.Proofs.Ytkjibgfgbfacdaa.P
open Go.RowKit Go.Proofs.YtkjibgfgbfacdaaW.PrintWords Go.Proofs.YtkjibgfgbfacdaaW.PrintLast Go.Proofs.YtkjibgfgbfacdaaW.PrintMore
attribute [local go_sem] max2_int min2_int max_two min_two max_three min_three max_four min_four   -- for this text's walks alone
set_option linter.unusedVariables false
set_option linter.unusedSimpArgs false

/-! ### book_Bytes: function 37 -/
mutual
def book_Bytes.l0 : Nat → List Int → List (List Int) → Int → Int → Option (List Int × Int)
  | 0, _, _, _, _ => none
  | k + 1, x6, x40, x41, x42 => if x42 < x41 then (if 0 ≤ x42 then (if x42 < (x40.length : Int) then (book_Bytes.l1 k x6 x40 x41 x42 (rd_L3 x40 x42) ((rd_L3 x40 x42).length : Int) 0) else (none)) else (none)) else (some (x6, 0))
def book_Bytes.l1 : Nat → List Int → List (List Int) → Int → Int → List Int → Int → Int → Option (List Int × Int)
  | 0, _, _, _, _, _, _, _ => none
  | k + 1, x6, x40, x41, x42, x46, x47, x48 => if x48 < x47 then (if 0 ≤ x48 then (if x48 < (x46.length : Int) then ((pack_Put.f k x6 2 (([wrap64 (rd x46 x48)] : List Int))).bind fun bt491 => (if bt491.2 = 0 then (book_Bytes.l1 k bt491.1 x40 x41 x42 x46 x47 (wrap64 (x48 + 1))) else (some (([] : List Int), bt491.2)))) else (none)) else (none)) else (book_Bytes.l0 k x6 x40 x41 (wrap64 (x42 + 1)))
end
def book_Bytes.f (k : Nat) (a0_0 : Int) (l0_1 : List (List Int)) : Option (List Int × Int) := (quant_Cells.f a0_0 l0_1).bind fun bt471 => (if bt471.2 = 0 then ((pack_Put.f k ([] : List Int) 8 (([a0_0] : List Int))).bind fun bt476 => (if bt476.2 = 0 then ((some (([((l0_1.length : Int)) % 256, (wrap64 (bt471.1 - 1)) % 256] : List Int) : List Int)).bind fun y480 => (if bt476.1.length + y480.length < 140737488355328 then (book_Bytes.l0 k (bt476.1 ++ y480) l0_1 (l0_1.length : Int) 0) else (none))) else (some (([] : List Int), bt476.2)))) else (some (([] : List Int), bt471.2)))
theorem book_Bytes.mono_l : ∀ k, (∀ y0 y1 y2 y3, LeO (book_Bytes.l0 k y0 y1 y2 y3) (book_Bytes.l0 (k + 1) y0 y1 y2 y3)) ∧ (∀ y0 y1 y2 y3 y4 y5 y6, LeO (book_Bytes.l1 k y0 y1 y2 y3 y4 y5 y6) (book_Bytes.l1 (k + 1) y0 y1 y2 y3 y4 y5 y6))
  | 0 => ⟨fun _ _ _ _ r h => by simp [book_Bytes.l0] at h, fun _ _ _ _ _ _ _ r h => by simp [book_Bytes.l1] at h⟩
  | k + 1 => by
    obtain ⟨ih0, ih1⟩ := book_Bytes.mono_l k
    refine ⟨?_, ?_⟩
    · intro y0 y1 y2 y3
      unfold book_Bytes.l0
      repeat' first
      | (with_reducible exact ih0 _ _ _ _)
      | (with_reducible exact ih1 _ _ _ _ _ _ _)
      | (with_reducible exact pack_Put.mono _ _ _ _)
      | (with_reducible exact LeO.refl _)
      | (with_reducible exact LeO.none _)
      | (with_reducible refine LeO.ite ?_ ?_)
      | (with_reducible refine LeO.bind ?_ (fun _ => ?_))
      | exact ih0 _ _ _ _
      | exact ih1 _ _ _ _ _ _ _
      | exact pack_Put.mono _ _ _ _
      | exact LeO.none _
      | refine LeO.ite ?_ ?_
      | refine LeO.bind ?_ (fun _ => ?_)
    · intro y0 y1 y2 y3 y4 y5 y6
      unfold book_Bytes.l1
      repeat' first
      | (with_reducible exact ih0 _ _ _ _)
      | (with_reducible exact ih1 _ _ _ _ _ _ _)
      | (with_reducible exact pack_Put.mono _ _ _ _)
      | (with_reducible exact LeO.refl _)
      | (with_reducible exact LeO.none _)
      | (with_reducible refine LeO.ite ?_ ?_)
      | (with_reducible refine LeO.bind ?_ (fun _ => ?_))
      | exact ih0 _ _ _ _
      | exact ih1 _ _ _ _ _ _ _
      | exact pack_Put.mono _ _ _ _
      | exact LeO.none _
      | refine LeO.ite ?_ ?_
      | refine LeO.bind ?_ (fun _ => ?_)
theorem book_Bytes.mono : ∀ a0 a1 k, LeO (book_Bytes.f k a0 a1) (book_Bytes.f (k + 1) a0 a1) := by
  intro a0 a1 k
  obtain ⟨ih0, ih1⟩ := book_Bytes.mono_l k
  unfold book_Bytes.f
  repeat' first
      | (with_reducible exact ih0 _ _ _ _)
      | (with_reducible exact ih1 _ _ _ _ _ _ _)
      | (with_reducible exact pack_Put.mono _ _ _ _)
      | (with_reducible exact LeO.refl _)
      | (with_reducible exact LeO.none _)
      | (with_reducible refine LeO.ite ?_ ?_)
      | (with_reducible refine LeO.bind ?_ (fun _ => ?_))
      | exact ih0 _ _ _ _
      | exact ih1 _ _ _ _ _ _ _
      | exact pack_Put.mono _ _ _ _
      | exact LeO.none _
      | refine LeO.ite ?_ ?_
      | refine LeO.bind ?_ (fun _ => ?_)
set_option maxHeartbeats 8000000 in
set_option maxRecDepth 100000 in
theorem book_Bytes.calls (k : Nat) (a0_0 : Int) (A0_1 : Option Addr) (c0_1 : Nat) (l0_1 : List (List Int)) (r1 : List Int) (r2 : Int) (w : World) (hr0_1 : Kd.C (Kd.slice 74 (Kd.int .i16)) w A0_1 l0_1.length l0_1) (hc0_1 : l0_1.length ≤ c0_1) (h : book_Bytes.f k a0_0 l0_1 = some (r1, r2)) :
    Calls Try.prog 37 #[.agg #[.int .i64 a0_0, .slice A0_1 l0_1.length c0_1]] w fun e w' => ∃ v0_ : Value, e = .returned (.tuple #[v0_, .int .i64 r2]) ∧ Kd.R (Kd.int .u8) 5 w' w.heap.size (fun _ => True) v0_ r1 ∧ Below w.heap.size w w' := by
  have hu49 := Try.underlying49
  have HR0_1 := Aside0.mk hr0_1
  have HC0_1 := Aside0.mk hc0_1
  clear hr0_1 hc0_1
  have HB := Aside0.mk (Below.refl w.heap.size w)
  have H : ((quant_Cells.f a0_0 l0_1).bind fun bt471 => (if bt471.2 = 0 then ((pack_Put.f k ([] : List Int) 8 (([a0_0] : List Int))).bind fun bt476 => (if bt476.2 = 0 then ((some (([((l0_1.length : Int)) % 256, (wrap64 (bt471.1 - 1)) % 256] : List Int) : List Int)).bind fun y480 => (if bt476.1.length + y480.length < 140737488355328 then (book_Bytes.l0 k (bt476.1 ++ y480) l0_1 (l0_1.length : Int) 0) else (none))) else (some (([] : List Int), bt476.2)))) else (some (([] : List Int), bt471.2)))) = some (r1, r2) := h
  clear h
  replace H := Option.bind_eq_some_iff.mp H
  obtain ⟨⟨t471, t472⟩, A20, H⟩ := H
  replace H : (if t472 = 0 then ((pack_Put.f k ([] : List Int) 8 (([a0_0] : List Int))).bind fun bt476 => (if bt476.2 = 0 then ((some (([((l0_1.length : Int)) % 256, (wrap64 (t471 - 1)) % 256] : List Int) : List Int)).bind fun y480 => (if bt476.1.length + y480.length < 140737488355328 then (book_Bytes.l0 k (bt476.1 ++ y480) l0_1 (l0_1.length : Int) 0) else (none))) else (some (([] : List Int), bt476.2)))) else (some (([] : List Int), t472))) = some (r1, r2) := H
  have A2 := Aside0.mk A20
  clear A20
  by_cases c3 : t472 = 0
  · rw [if_pos c3] at H
    have c3b0 : (t472 == 0) = true := beq_iff_eq.mpr c3
    have c3b1 : (t472 != 0) = false := bne_eq_false_iff_eq.mpr c3
    clear c3
    obtain ⟨y473, hy473⟩ : ∃ y_ : List Int, y_ = (([a0_0] : List Int)) := ⟨_, rfl⟩
    replace H : ((pack_Put.f k ([] : List Int) 8 y473).bind fun bt476 => (if bt476.2 = 0 then ((some (([((l0_1.length : Int)) % 256, (wrap64 (t471 - 1)) % 256] : List Int) : List Int)).bind fun y480 => (if bt476.1.length + y480.length < 140737488355328 then (book_Bytes.l0 k (bt476.1 ++ y480) l0_1 (l0_1.length : Int) 0) else (none))) else (some (([] : List Int), bt476.2)))) = some (r1, r2) := by first | (rw [hy473]; with_reducible exact H) | (have H2_ := (Option.bind_some _ _).symm.trans H; rw [hy473]; with_reducible exact H2_) | (have H2_ := (Option.bind_some _ _).symm.trans H; with_reducible exact H2_) | with_reducible exact H | (rw [hy473]; exact H) | exact H
    have Ny473 := Aside0.mk hy473
    clear hy473
    replace H := Option.bind_eq_some_iff.mp H
    obtain ⟨⟨t476, t477⟩, A40, H⟩ := H
    replace H : (if t477 = 0 then ((some (([((l0_1.length : Int)) % 256, (wrap64 (t471 - 1)) % 256] : List Int) : List Int)).bind fun y480 => (if t476.length + y480.length < 140737488355328 then (book_Bytes.l0 k (t476 ++ y480) l0_1 (l0_1.length : Int) 0) else (none))) else (some (([] : List Int), t477))) = some (r1, r2) := H
    have A4 := Aside0.mk A40
    clear A40
    by_cases c5 : t477 = 0
    · rw [if_pos c5] at H
      have c5b0 : (t477 == 0) = true := beq_iff_eq.mpr c5
      have c5b1 : (t477 != 0) = false := bne_eq_false_iff_eq.mpr c5
      clear c5
      obtain ⟨y480, hy480⟩ : ∃ y_ : List Int, y_ = (([((l0_1.length : Int)) % 256, (wrap64 (t471 - 1)) % 256] : List Int)) := ⟨_, rfl⟩
      replace H : (if t476.length + y480.length < 140737488355328 then (book_Bytes.l0 k (t476 ++ y480) l0_1 (l0_1.length : Int) 0) else (none)) = some (r1, r2) := by first | (rw [hy480]; with_reducible exact H) | (have H2_ := (Option.bind_some _ _).symm.trans H; rw [hy480]; with_reducible exact H2_) | (have H2_ := (Option.bind_some _ _).symm.trans H; with_reducible exact H2_) | with_reducible exact H | (rw [hy480]; exact H) | exact H
      have Ny480 := Aside0.mk hy480
      clear hy480
      by_cases c6 : t476.length + y480.length < 140737488355328
      · rw [if_pos c6] at H
        have LMc6 := Aside0.mk c6
        clear c6
        obtain ⟨y483, hy483⟩ : ∃ y_ : List Int, y_ = (t476 ++ y480) := ⟨_, rfl⟩
        replace H : (book_Bytes.l0 k y483 l0_1 (l0_1.length : Int) 0) = some (r1, r2) := by first | (rw [hy483]; with_reducible exact H) | (have H2_ := (Option.bind_some _ _).symm.trans H; rw [hy483]; with_reducible exact H2_) | (have H2_ := (Option.bind_some _ _).symm.trans H; with_reducible exact H2_) | with_reducible exact H | (rw [hy483]; exact H) | exact H
        have Ny483 := Aside0.mk hy483
        clear hy483
        have H' := Aside0.mk H
        clear H
        go_enter Try.func37, Try.ntmps37
        go_wp2_with (first | ((with_reducible refine gate_dst (N := 1) rfl ?_); refine box_event ?hg (N := 1) ?hd (cs := #[.int .i64 a0_0, .slice A0_1 l0_1.length c0_1]) (t := 49) ?hr ?_; (case hd => rfl); (case hg => rfl); (case hr => first | (go_simp; done) | (go_simp; rfl)); intro gb470 hg w7 hbox hb; have n0_ := Aside0.mk (below_step (by repeat (first | (with_reducible first | exact HB.out | apply below_alloc | apply pw_below_drewN | apply below_drew1) | exact HB.out)) hb); have n1_ := Aside0.mk (hbox); have n2_ := Aside0.mk ((by rw [hg]; exact (below_size (by repeat (first | (with_reducible first | exact HB.out | apply below_alloc | apply pw_below_drewN | apply below_drew1) | exact HB.out))) : w.heap.size ≤ gb470)); have n3_ := Aside0.mk ((by rw [hg]; exact (below_size (by repeat (first | (with_reducible first | exact HB.out | apply below_alloc | apply pw_below_drewN | apply below_drew1) | exact HB.out))) : w.heap.size ≤ gb470)); clear HB; have HB := n0_; have BK470 := n1_; have GW470 := n2_; have GE470 := n3_; clear n0_ n1_ n2_ n3_; clear hb hbox hg; have hcz8_0 : w7.cell? ⟨gb470, 0, none⟩ = some (.int .i64 a0_0) := (blk_cell BK470.out 0).trans rfl; have hcz8_1 : w7.cell? ⟨gb470, 1, none⟩ = some (.slice A0_1 l0_1.length c0_1) := (blk_cell BK470.out 1).trans rfl; have hfz8_0 := blk_frozen BK470.out 0; have hfz8_1 := blk_frozen BK470.out 1) | ((with_reducible refine gate_callee (f := 49) rfl ?_); refine goesL_ (some 13) rfl rfl Try.func49 (by kernel_rfl) rfl #[.agg #[.int .i64 a0_0, .slice A0_1 l0_1.length c0_1]] rfl (by (try simp only [List.map_toArray, List.map_cons, List.map_nil]); first | done | rfl | (simp only [List.length_drop, List.length_take]; rfl)) ?_; (with_reducible refine (quant_Cells.calls a0_0 _ _ l0_1 t471 t472 _ ?side1 ?side2 A2.out).mono ?_); (case side1 => repeat (first | exact (Kd.C_below HR0_1.out HB.out) | (with_reducible refine Kd.C_alloc ?_ _) | (with_reducible refine Kd.C_drewN ?_ _) | (with_reducible refine Kd.C_drew ?_))); (case side2 => exact HC0_1.out); rintro e w9 ⟨rfl, hb⟩; refine ⟨_, rfl, ?_⟩; have n0_ := Aside0.mk (blk_below (g := gb470) (o := .cells #[.int .i64 a0_0, .slice A0_1 l0_1.length c0_1] 49 (0, 0)) (by (with_reducible repeat (first | refine blk_drewN ?_ _ | refine blk_drew ?_ | refine blk_alloc ?_ _)); exact BK470.out) hb); have n1_ := Aside0.mk (below_step (by repeat (first | (with_reducible first | exact HB.out | apply below_alloc | apply pw_below_drewN | apply below_drew1 | refine below_set ?_ GE470.out) | exact HB.out)) hb); clear BK470; clear HB; have BK470 := n0_; have HB := n1_; clear n0_ n1_; (try clear hb); (try clear hb2); (try clear hk); (try clear hi); have hcz10_0 : w9.cell? ⟨gb470, 0, none⟩ = some (.int .i64 a0_0) := (blk_cell BK470.out 0).trans rfl; have hcz10_1 : w9.cell? ⟨gb470, 1, none⟩ = some (.slice A0_1 l0_1.length c0_1) := (blk_cell BK470.out 1).trans rfl; have hfz10_0 := blk_frozen BK470.out 0; have hfz10_1 := blk_frozen BK470.out 1) | ((with_reducible refine gate_dst (N := 22) rfl ?_); refine Kd.R_lit (Kd.int .i64) _ 2 ?hg (N := 22) ?hd (xs := ([a0_0] : List Int)) (inner := [.int .i64 a0_0]) (ok := fun _ => True) (okp := fun _ => True) ?hr ?hp (fun _ hk => hk) trivial (Below.refl _ _) (Nat.le_refl _) (by simp) ?_; (case hd => rfl); (case hg => rfl); (case hr => first | (go_simp; done) | (go_simp; rfl)); (case hp => exact (Reps.one (show Kd.M (Kd.int .i64) _ _ _ a0_0 [.int .i64 a0_0] from rfl) (Reps.none _ _))); intro v474 w11 ho12 hb hg_ hnew_; clear hg_ hnew_; (first | rw [← Ny473.out] at ho12 | (simp only [Int.reduceToNat] at ho12; rw [← Ny473.out] at ho12)); have n0_ := Aside0.mk (Kd.R_lower ho12 (below_size (by repeat (first | (with_reducible first | exact HB.out | apply below_alloc | apply pw_below_drewN | apply below_drew1 | refine below_set ?_ GE470.out) | exact HB.out)))); have n1_ := Aside0.mk (blk_below (g := gb470) (o := .cells #[.int .i64 a0_0, .slice A0_1 l0_1.length c0_1] 49 (0, 0)) (by (with_reducible repeat (first | refine blk_drewN ?_ _ | refine blk_drew ?_ | refine blk_alloc ?_ _)); exact BK470.out) hb); have n2_ := Aside0.mk (below_step (by repeat (first | (with_reducible first | exact HB.out | apply below_alloc | apply pw_below_drewN | apply below_drew1 | refine below_set ?_ GE470.out) | exact HB.out)) hb); clear BK470; clear HB; have HO475 := n0_; have BK470 := n1_; have HB := n2_; clear n0_ n1_ n2_; clear hb ho12; obtain ⟨Ao13, co13, eo13⟩ := Kd.R_slice HO475.out; subst eo13) | ((with_reducible refine gate_callee (f := 102) rfl ?_); refine goesL_ (some 23) rfl rfl Try.func102 (by kernel_rfl) rfl #[.slice none 0 0, .int .i64 8, .slice Ao13 y473.length co13] rfl (by (try simp only [List.map_toArray, List.map_cons, List.map_nil]); first | done | rfl | (simp only [List.length_drop, List.length_take]; rfl)) ?_; (refine (pack_Put.calls k _ _ ([] : List Int) 8 _ _ y473 t476 t477 _ ?side1 ?side2 ?side3 ?side4 A4.out).mono ?_); (case side1 => exact Kd.C_nil _ _); (case side2 => exact Nat.le_refl _); (case side3 => repeat (first | exact (Kd.R_reads' HO475.out).2.2 | (with_reducible refine Kd.C_alloc ?_ _) | (with_reducible refine Kd.C_drewN ?_ _) | (with_reducible refine Kd.C_drew ?_))); (case side4 => exact (Kd.R_reads' HO475.out).2.1); rintro e w14 ⟨v478, rfl, ho0, hb⟩; refine ⟨_, rfl, ?_⟩; have n0_ := Aside0.mk (Kd.R_below (by (with_reducible repeat (first | apply Kd.R_alloc | apply Kd.R_drewN | apply Kd.R_drew)); exact HO475.out) hb); have n1_ := Aside0.mk (Kd.R_lower ho0 (below_size (by repeat (first | (with_reducible first | exact HB.out | apply below_alloc | apply pw_below_drewN | apply below_drew1 | refine below_set ?_ GE470.out) | exact HB.out)))); have n2_ := Aside0.mk (blk_below (g := gb470) (o := .cells #[.int .i64 a0_0, .slice A0_1 l0_1.length c0_1] 49 (0, 0)) (by (with_reducible repeat (first | refine blk_drewN ?_ _ | refine blk_drew ?_ | refine blk_alloc ?_ _)); exact BK470.out) hb); have n3_ := Aside0.mk (below_step (by repeat (first | (with_reducible first | exact HB.out | apply below_alloc | apply pw_below_drewN | apply below_drew1 | refine below_set ?_ GE470.out) | exact HB.out)) hb); clear HO475; clear BK470; clear HB; have HO475 := n0_; have HO479 := n1_; have BK470 := n2_; have HB := n3_; clear n0_ n1_ n2_ n3_; (try clear hb); (try clear hb2); (try clear hk); (try clear hi); (try clear ho0); have hcz15_0 : w14.cell? ⟨gb470, 0, none⟩ = some (.int .i64 a0_0) := (blk_cell BK470.out 0).trans rfl; have hcz15_1 : w14.cell? ⟨gb470, 1, none⟩ = some (.slice A0_1 l0_1.length c0_1) := (blk_cell BK470.out 1).trans rfl; have hfz15_0 := blk_frozen BK470.out 0; have hfz15_1 := blk_frozen BK470.out 1) | ((with_reducible refine gate_dst (N := 37) rfl ?_); refine Kd.R_lit (Kd.int .u8) _ 5 ?hg (N := 37) ?hd (xs := ([((l0_1.length : Int)) % 256, (wrap64 (t471 - 1)) % 256] : List Int)) (inner := [.int .u8 (((l0_1.length : Int)) % 256), .int .u8 ((wrap64 (t471 - 1)) % 256)]) (ok := fun _ => True) (okp := fun _ => True) ?hr ?hp (fun _ hk => hk) trivial (Below.refl _ _) (Nat.le_refl _) (by simp) ?_; (case hd => rfl); (case hg => rfl); (case hr => first | (go_simp; done) | (go_simp; rfl)); (case hp => exact (Reps.one (show Kd.M (Kd.int .u8) _ _ _ (((l0_1.length : Int)) % 256) [.int .u8 (((l0_1.length : Int)) % 256)] from rfl) (Reps.one (show Kd.M (Kd.int .u8) _ _ _ ((wrap64 (t471 - 1)) % 256) [.int .u8 ((wrap64 (t471 - 1)) % 256)] from rfl) (Reps.none _ _)))); intro v481 w16 ho17 hb hg_ hnew_; clear hg_ hnew_; (first | rw [← Ny480.out] at ho17 | (simp only [Int.reduceToNat] at ho17; rw [← Ny480.out] at ho17)); have n0_ := Aside0.mk (Kd.R_below (by (with_reducible repeat (first | apply Kd.R_alloc | apply Kd.R_drewN | apply Kd.R_drew)); exact HO475.out) hb); have n1_ := Aside0.mk (Kd.R_elder' (by (with_reducible repeat (first | apply Kd.R_alloc | apply Kd.R_drewN | apply Kd.R_drew)); exact HO479.out) (Kd.R_base ho17) hb); have n2_ := Aside0.mk (Kd.R_lower (Kd.R_new' ho17 (Kd.R_lt (by (with_reducible repeat (first | apply Kd.R_alloc | apply Kd.R_drewN | apply Kd.R_drew)); exact HO479.out))) (below_size (by repeat (first | (with_reducible first | exact HB.out | apply below_alloc | apply pw_below_drewN | apply below_drew1 | refine below_set ?_ GE470.out) | exact HB.out)))); have n3_ := Aside0.mk (blk_below (g := gb470) (o := .cells #[.int .i64 a0_0, .slice A0_1 l0_1.length c0_1] 49 (0, 0)) (by (with_reducible repeat (first | refine blk_drewN ?_ _ | refine blk_drew ?_ | refine blk_alloc ?_ _)); exact BK470.out) hb); have n4_ := Aside0.mk (below_step (by repeat (first | (with_reducible first | exact HB.out | apply below_alloc | apply pw_below_drewN | apply below_drew1 | refine below_set ?_ GE470.out) | exact HB.out)) hb); clear HO475; clear HO479; clear BK470; clear HB; have HO475 := n0_; have HO479 := n1_; have HO482 := n2_; have BK470 := n3_; have HB := n4_; clear n0_ n1_ n2_ n3_ n4_; clear hb ho17; obtain ⟨Ao19, co19, eo19⟩ := Kd.R_slice HO482.out; subst eo19) | ((with_reducible refine gate_builtin (b := .append) (xs := #[.tmp 29, .tmp 37]) rfl ?_); at_builtin; refine Kd.R_append_rows (Kd.int .u8) (w0 := w) w.heap.size rfl (.tmp 29) (.tmp 37) 50 5 (.int .u8 0) 1 rfl Try.underlying50 info5 rfl (by decide) (by omega) v478 t476 y480 _ _ _ (fun k_ => some k_ ≠ (.slice Ao19 y480.length co19 : Value).ownBlock) (fun _ => False) rfl rfl ?aO ?aR (fun _ _ h => h) (fun _ h => h.elim) ?aF ?aB ?aS ?aL ?_; (case aR => repeat (first | exact (Kd.R_reads' HO482.out).2.2 | (with_reducible refine Kd.C_alloc ?_ _) | (with_reducible refine Kd.C_drewN ?_ _) | (with_reducible refine Kd.C_drew ?_))); (case aB => exact (by repeat (first | (with_reducible first | exact HB.out | apply below_alloc | apply pw_below_drewN | apply below_drew1 | refine below_set ?_ GE470.out) | exact HB.out))); (case aF => exact (fun k_ hk => Kd.fresh' (Kd.R_lt (by (with_reducible repeat (first | apply Kd.R_alloc | apply Kd.R_drewN | apply Kd.R_drew)); exact HO482.out)) k_ hk)); (case aO => exact (by (with_reducible repeat (first | apply Kd.R_alloc | apply Kd.R_drewN | apply Kd.R_drew)); exact Kd.R_mono HO479.out (fun _ hk => hk.2))); (case aS => exact (below_size (by repeat (first | (with_reducible first | exact HB.out | apply below_alloc | apply pw_below_drewN | apply below_drew1 | refine below_set ?_ GE470.out) | exact HB.out)))); (case aL => have := LMc6.out; omega); intro v484 w18 ho hb hg hat; rw [← Ny483.out] at ho; have n0_ := Aside0.mk (blk_grown (g := gb470) (o := .cells #[.int .i64 a0_0, .slice A0_1 l0_1.length c0_1] 49 (0, 0)) (by (with_reducible repeat (first | refine blk_drewN ?_ _ | refine blk_drew ?_ | refine blk_alloc ?_ _)); exact BK470.out) hg (Kd.R_ne HO479.out BK470.out (by decide))); have n1_ := Aside0.mk (Kd.R_over' (by (with_reducible repeat (first | apply Kd.R_alloc | apply Kd.R_drewN | apply Kd.R_drew)); exact HO475.out) (Kd.R_typed (by (with_reducible repeat (first | apply Kd.R_alloc | apply Kd.R_drewN | apply Kd.R_drew)); exact HO479.out)) (by decide) hg); have n2_ := Aside0.mk (Kd.R_after (ok := (fun _ => True)) (by (with_reducible repeat (first | apply Kd.R_alloc | apply Kd.R_drewN | apply Kd.R_drew)); exact HO482.out) hg hat); have n3_ := Aside0.mk (hb); have n4_ := Aside0.mk (ho); clear BK470; clear HO475; clear HO482; clear HB; clear HO479; have BK470 := n0_; have HO475 := n1_; have HO482 := n2_; have HB := n3_; have HO485 := n4_; clear n0_ n1_ n2_ n3_ n4_; clear ho hb hg hat; have hcz20_0 : w18.cell? ⟨gb470, 0, none⟩ = some (.int .i64 a0_0) := (blk_cell BK470.out 0).trans rfl; have hcz20_1 : w18.cell? ⟨gb470, 1, none⟩ = some (.slice A0_1 l0_1.length c0_1) := (blk_cell BK470.out 1).trans rfl; have hfz20_0 := blk_frozen BK470.out 0; have hfz20_1 := blk_frozen BK470.out 1))
        go_loopg [6, 42] k (fun kq v6 v42 w' => ∃ (x6_1 : List Int) (x42_1 : Int), v42 = .int .i64 x42_1 ∧ Aside0 (book_Bytes.l0 kq x6_1 l0_1 (l0_1.length : Int) x42_1 = some (r1, r2)) ∧ Aside0 (kq ≤ k) ∧ Aside0 (Kd.R (Kd.int .u8) 5 w' w.heap.size (fun _ => True) v6 x6_1) ∧ Aside0 (w'.heap[gb470]? = some (.cells #[.int .i64 a0_0, (.slice A0_1 l0_1.length c0_1)] 49 (0, 0))) ∧ Aside0 (Below w.heap.size w w'))
        case atStart => exact ⟨(y483), (0), (by first | rfl | (simp; done) | (simp [*]; done)), H', ⟨Nat.le_refl _⟩, ⟨by (with_reducible repeat (first | apply Kd.R_alloc | apply Kd.R_drewN | apply Kd.R_drew)); exact Kd.R_mono HO485.out (fun _ hk => trivial)⟩, ⟨by (with_reducible repeat (first | refine blk_drewN ?_ _ | refine blk_drew ?_ | refine blk_alloc ?_ _)); exact BK470.out⟩, ⟨by repeat (first | (with_reducible first | exact HB.out | apply below_alloc | apply pw_below_drewN | apply below_drew1 | refine below_set ?_ GE470.out) | exact HB.out)⟩⟩
        case round =>
          clear H'
          try clear c1
          try clear p2
          try clear c3
          try clear c3b0
          try clear c3b1
          try clear c4
          try clear c5
          try clear c5b0
          try clear c5b1
          try clear c6
          try clear p6
          try clear c10
          try clear hcz10_0
          try clear hcz10_1
          try clear hcz15_0
          try clear hcz15_1
          try clear hcz20_0
          try clear hcz20_1
          try clear hcz8_0
          try clear hcz8_1
          try clear hfz10_0
          try clear hfz10_1
          try clear hfz15_0
          try clear hfz15_1
          try clear hfz20_0
          try clear hfz20_1
          try clear hfz8_0
          try clear hfz8_1
          obtain ⟨x6_1, x42_1, rfl, HA, HK1, HO_6, BK470, HB⟩ := hrel
          cases gk with
          | zero => exact absurd HA.out (by simp [book_Bytes.l0])
          | succ k1 =>
            have H := HA.out
            clear HA
            simp only [book_Bytes.l0] at H
            by_cases c21 : x42_1 < (l0_1.length : Int)
            · rw [if_pos c21] at H
              have c21b0 : decide (x42_1 < (l0_1.length : Int)) = true := decide_eq_true c21
              clear c21
              by_cases c22 : 0 ≤ x42_1
              · rw [if_pos c22] at H
                have c22b0 : decide (0 ≤ x42_1) = true := decide_eq_true c22
                clear c22
                by_cases c23 : x42_1 < (l0_1.length : Int)
                · rw [if_pos c23] at H
                  have c23b0 : decide (x42_1 < (l0_1.length : Int)) = true := decide_eq_true c23
                  clear c23
                  have H' := Aside0.mk H
                  clear H
                  have p486 : 0 ≤ (x42_1 : Int) := of_decide_eq_true (by first | (with_reducible assumption) | assumption)
                  have q486 : x42_1 < (l0_1.length : Int) := of_decide_eq_true (by first | (with_reducible assumption) | assumption)
                  obtain ⟨ad486, A486_0, c486_0, e486, hx486_0, hl486_0, hi486_0⟩ := at_L3 HR0_1.out x42_1 p486 q486
                  cases e486
                  (try replace hx486_0 := (HB.out.cell (World.block_lt_of_cell? w _ hx486_0)).trans hx486_0)
                  have HR486_0 := Aside0.mk hi486_0
                  have HC486_0 := Aside0.mk hl486_0
                  clear hi486_0 hl486_0
                  replace p486 := eq_true p486
                  replace q486 := eq_true q486
                  go_wp2
                  go_loopg [6, 48] k1 (fun kq v6 v48 w' => ∃ (x6_2 : List Int) (x48_2 : Int), v48 = .int .i64 x48_2 ∧ Aside0 (book_Bytes.l1 kq x6_2 l0_1 (l0_1.length : Int) x42_1 (rd_L3 l0_1 x42_1) ((rd_L3 l0_1 x42_1).length : Int) x48_2 = some (r1, r2)) ∧ Aside0 (kq ≤ k1) ∧ Aside0 (Kd.R (Kd.int .u8) 5 w' w.heap.size (fun _ => True) v6 x6_2) ∧ Aside0 (w'.heap[gb470]? = some (.cells #[.int .i64 a0_0, (.slice (some ad486) l0_1.length c0_1)] 49 (0, 0))) ∧ Aside0 (Below w.heap.size w w'))
                  case atStart => exact ⟨(x6_1), (0), (by first | rfl | (simp; done) | (simp [*]; done)), H', ⟨Nat.le_refl _⟩, ⟨by (with_reducible repeat (first | apply Kd.R_alloc | apply Kd.R_drewN | apply Kd.R_drew)); exact HO_6.out⟩, ⟨by (with_reducible repeat (first | refine blk_drewN ?_ _ | refine blk_drew ?_ | refine blk_alloc ?_ _)); exact BK470.out⟩, ⟨by repeat (first | (with_reducible first | exact HB.out | apply below_alloc | apply pw_below_drewN | apply below_drew1 | refine below_set ?_ GE470.out) | exact HB.out)⟩⟩
                  case round =>
                    clear H'
                    try clear c1
                    try clear c2
                    try clear p2
                    try clear c3
                    try clear c3b0
                    try clear c3b1
                    try clear c4
                    try clear p4
                    try clear q4
                    try clear hx4
                    try clear c5
                    try clear c5b0
                    try clear c5b1
                    try clear c6
                    try clear p6
                    try clear c10
                    try clear c21
                    try clear c21b0
                    try clear c22
                    try clear c22b0
                    try clear c23
                    try clear c23b0
                    try clear hcz10_0
                    try clear hcz10_1
                    try clear hcz15_0
                    try clear hcz15_1
                    try clear hcz20_0
                    try clear hcz20_1
                    try clear hcz8_0
                    try clear hcz8_1
                    try clear hfz10_0
                    try clear hfz10_1
                    try clear hfz15_0
                    try clear hfz15_1
                    try clear hfz20_0
                    try clear hfz20_1
                    try clear hfz8_0
                    try clear hfz8_1
                    try clear hx486_0
                    try clear p2
                    try clear p486
                    try clear p6
                    try clear q486
                    obtain ⟨x6_2, x48_2, rfl, HA, HK2, HO_6, BK470, HB⟩ := hrel
                    cases gk with
                    | zero => exact absurd HA.out (by simp [book_Bytes.l1])
                    | succ k2 =>
                      have H := HA.out
                      clear HA
                      simp only [book_Bytes.l1] at H
                      by_cases c24 : x48_2 < ((rd_L3 l0_1 x42_1).length : Int)
                      · rw [if_pos c24] at H
                        have c24b0 : decide (x48_2 < ((rd_L3 l0_1 x42_1).length : Int)) = true := decide_eq_true c24
                        clear c24
                        by_cases c25 : 0 ≤ x48_2
                        · rw [if_pos c25] at H
                          have c25b0 : decide (0 ≤ x48_2) = true := decide_eq_true c25
                          clear c25
                          by_cases c26 : x48_2 < ((rd_L3 l0_1 x42_1).length : Int)
                          · rw [if_pos c26] at H
                            have c26b0 : decide (x48_2 < ((rd_L3 l0_1 x42_1).length : Int)) = true := decide_eq_true c26
                            clear c26
                            obtain ⟨y488, hy488⟩ : ∃ y_ : List Int, y_ = (([wrap64 (rd (rd_L3 l0_1 x42_1) x48_2)] : List Int)) := ⟨_, rfl⟩
                            replace H : ((pack_Put.f k2 x6_2 2 y488).bind fun bt491 => (if bt491.2 = 0 then (book_Bytes.l1 k2 bt491.1 l0_1 (l0_1.length : Int) x42_1 (rd_L3 l0_1 x42_1) ((rd_L3 l0_1 x42_1).length : Int) (wrap64 (x48_2 + 1))) else (some (([] : List Int), bt491.2)))) = some (r1, r2) := by first | (rw [hy488]; with_reducible exact H) | (have H2_ := (Option.bind_some _ _).symm.trans H; rw [hy488]; with_reducible exact H2_) | (have H2_ := (Option.bind_some _ _).symm.trans H; with_reducible exact H2_) | with_reducible exact H | (rw [hy488]; exact H) | exact H
                            have Ny488 := Aside0.mk hy488
                            clear hy488
                            replace H := Option.bind_eq_some_iff.mp H
                            obtain ⟨⟨t491, t492⟩, A270, H⟩ := H
                            replace H : (if t492 = 0 then (book_Bytes.l1 k2 t491 l0_1 (l0_1.length : Int) x42_1 (rd_L3 l0_1 x42_1) ((rd_L3 l0_1 x42_1).length : Int) (wrap64 (x48_2 + 1))) else (some (([] : List Int), t492))) = some (r1, r2) := H
                            have A27 := Aside0.mk A270
                            clear A270
                            by_cases c28 : t492 = 0
                            · rw [if_pos c28] at H
                              have c28b0 : (t492 == 0) = true := beq_iff_eq.mpr c28
                              have c28b1 : (t492 != 0) = false := bne_eq_false_iff_eq.mpr c28
                              clear c28
                              have H' := Aside0.mk H
                              clear H
                              have p487 : 0 ≤ (x48_2 : Int) := of_decide_eq_true (by first | (with_reducible assumption) | assumption)
                              have q487 : x48_2 < ((rd_L3 l0_1 x42_1).length : Int) := of_decide_eq_true (by first | (with_reducible assumption) | assumption)
                              obtain ⟨ad487, e487, hx487_0⟩ := Kd.at_int HR486_0.out x48_2 p487 q487
                              cases e487
                              (try replace hx487_0 := (HB.out.cell (World.block_lt_of_cell? w _ hx487_0)).trans hx487_0)
                              replace p487 := eq_true p487
                              replace q487 := eq_true q487
                              go_wp2_with (first | ((with_reducible refine gate_dst (N := 56) rfl ?_); refine Kd.R_lit (Kd.int .i64) _ 2 ?hg (N := 56) ?hd (xs := ([wrap64 (rd (rd_L3 l0_1 x42_1) x48_2)] : List Int)) (inner := [.int .i64 (wrap64 (rd (rd_L3 l0_1 x42_1) x48_2))]) (ok := fun _ => True) (okp := fun _ => True) ?hr ?hp (fun _ hk => hk) trivial (Below.refl _ _) (Nat.le_refl _) (by simp) ?_; (case hd => rfl); (case hg => rfl); (case hr => first | (go_simp; done) | (go_simp; rfl)); (case hp => exact (Reps.one (show Kd.M (Kd.int .i64) _ _ _ (wrap64 (rd (rd_L3 l0_1 x42_1) x48_2)) [.int .i64 (wrap64 (rd (rd_L3 l0_1 x42_1) x48_2))] from rfl) (Reps.none _ _))); intro v489 w29 ho30 hb hg_ hnew_; clear hg_ hnew_; (first | rw [← Ny488.out] at ho30 | (simp only [Int.reduceToNat] at ho30; rw [← Ny488.out] at ho30)); have n0_ := Aside0.mk (Kd.R_below (by (with_reducible repeat (first | apply Kd.R_alloc | apply Kd.R_drewN | apply Kd.R_drew)); exact HO_6.out) hb); have n1_ := Aside0.mk (Kd.R_lower ho30 (below_size (by repeat (first | (with_reducible first | exact HB.out | apply below_alloc | apply pw_below_drewN | apply below_drew1 | refine below_set ?_ GE470.out) | exact HB.out)))); have n2_ := Aside0.mk (blk_below (g := gb470) (o := .cells #[.int .i64 a0_0, .slice (some ad486) l0_1.length c0_1] 49 (0, 0)) (by (with_reducible repeat (first | refine blk_drewN ?_ _ | refine blk_drew ?_ | refine blk_alloc ?_ _)); exact BK470.out) hb); have n3_ := Aside0.mk (below_step (by repeat (first | (with_reducible first | exact HB.out | apply below_alloc | apply pw_below_drewN | apply below_drew1 | refine below_set ?_ GE470.out) | exact HB.out)) hb); clear HO_6; clear BK470; clear HB; have HO_6 := n0_; have HO490 := n1_; have BK470 := n2_; have HB := n3_; clear n0_ n1_ n2_ n3_; clear hb ho30; obtain ⟨Ao31, co31, eo31⟩ := Kd.R_slice HO_6.out; subst eo31; obtain ⟨Ao32, co32, eo32⟩ := Kd.R_slice HO490.out; subst eo32) | ((with_reducible refine gate_callee (f := 102) rfl ?_); refine goesL_ (some 57) rfl rfl Try.func102 (by kernel_rfl) rfl #[.slice Ao31 x6_2.length co31, .int .i64 2, .slice Ao32 y488.length co32] rfl (by (try simp only [List.map_toArray, List.map_cons, List.map_nil]); first | done | rfl | (simp only [List.length_drop, List.length_take]; rfl)) ?_; (with_reducible refine (pack_Put.calls k2 _ _ x6_2 2 _ _ y488 t491 t492 _ ?side1 ?side2 ?side3 ?side4 A27.out).mono ?_); (case side1 => repeat (first | exact (Kd.R_reads' HO_6.out).2.2 | (with_reducible refine Kd.C_alloc ?_ _) | (with_reducible refine Kd.C_drewN ?_ _) | (with_reducible refine Kd.C_drew ?_))); (case side2 => exact (Kd.R_reads' HO_6.out).2.1); (case side3 => repeat (first | exact (Kd.R_reads' HO490.out).2.2 | (with_reducible refine Kd.C_alloc ?_ _) | (with_reducible refine Kd.C_drewN ?_ _) | (with_reducible refine Kd.C_drew ?_))); (case side4 => exact (Kd.R_reads' HO490.out).2.1); rintro e w33 ⟨v493, rfl, ho0, hb⟩; refine ⟨_, rfl, ?_⟩; have n0_ := Aside0.mk (Kd.R_elder' (by (with_reducible repeat (first | apply Kd.R_alloc | apply Kd.R_drewN | apply Kd.R_drew)); exact HO_6.out) (Kd.R_base ho0) hb); have n1_ := Aside0.mk (Kd.R_below (by (with_reducible repeat (first | apply Kd.R_alloc | apply Kd.R_drewN | apply Kd.R_drew)); exact HO490.out) hb); have n2_ := Aside0.mk (Kd.R_lower (Kd.R_new' ho0 (Kd.R_lt (by (with_reducible repeat (first | apply Kd.R_alloc | apply Kd.R_drewN | apply Kd.R_drew)); exact HO_6.out))) (below_size (by repeat (first | (with_reducible first | exact HB.out | apply below_alloc | apply pw_below_drewN | apply below_drew1 | refine below_set ?_ GE470.out) | exact HB.out)))); have n3_ := Aside0.mk (blk_below (g := gb470) (o := .cells #[.int .i64 a0_0, .slice (some ad486) l0_1.length c0_1] 49 (0, 0)) (by (with_reducible repeat (first | refine blk_drewN ?_ _ | refine blk_drew ?_ | refine blk_alloc ?_ _)); exact BK470.out) hb); have n4_ := Aside0.mk (below_step (by repeat (first | (with_reducible first | exact HB.out | apply below_alloc | apply pw_below_drewN | apply below_drew1 | refine below_set ?_ GE470.out) | exact HB.out)) hb); clear HO_6; clear HO490; clear BK470; clear HB; have HO_6 := n0_; have HO490 := n1_; have HO494 := n2_; have BK470 := n3_; have HB := n4_; clear n0_ n1_ n2_ n3_ n4_; (try clear hb); (try clear hb2); (try clear hk); (try clear hi); (try clear ho0)))
                              go_roundg k2
                              case measure => have := HK1.out; have := HK2.out; omega
                              case rel => exact ⟨(t491), (wrap64 (x48_2 + 1)), (by first | rfl | (simp; done) | (simp [*]; done)), H', ⟨by have := HK1.out; have := HK2.out; omega⟩, ⟨by (with_reducible repeat (first | apply Kd.R_alloc | apply Kd.R_drewN | apply Kd.R_drew)); exact Kd.R_mono HO494.out (fun _ hk => trivial)⟩, ⟨by (with_reducible repeat (first | refine blk_drewN ?_ _ | refine blk_drew ?_ | refine blk_alloc ?_ _)); exact BK470.out⟩, ⟨by repeat (first | (with_reducible first | exact HB.out | apply below_alloc | apply pw_below_drewN | apply below_drew1 | refine below_set ?_ GE470.out) | exact HB.out)⟩⟩
                            · rw [if_neg c28] at H
                              have c28b0 : (t492 == 0) = false := beq_eq_false_iff_ne.mpr c28
                              have c28b1 : (t492 != 0) = true := bne_iff_ne.mpr c28
                              simp only [Option.some.injEq, Prod.mk.injEq] at H
                              obtain ⟨rfl, rfl⟩ := H
                              have p487 : 0 ≤ (x48_2 : Int) := of_decide_eq_true (by first | (with_reducible assumption) | assumption)
                              have q487 : x48_2 < ((rd_L3 l0_1 x42_1).length : Int) := of_decide_eq_true (by first | (with_reducible assumption) | assumption)
                              obtain ⟨ad487, e487, hx487_0⟩ := Kd.at_int HR486_0.out x48_2 p487 q487
                              cases e487
                              (try replace hx487_0 := (HB.out.cell (World.block_lt_of_cell? w _ hx487_0)).trans hx487_0)
                              replace p487 := eq_true p487
                              replace q487 := eq_true q487
                              go_wp2_with (first | ((with_reducible refine gate_dst (N := 56) rfl ?_); refine Kd.R_lit (Kd.int .i64) _ 2 ?hg (N := 56) ?hd (xs := ([wrap64 (rd (rd_L3 l0_1 x42_1) x48_2)] : List Int)) (inner := [.int .i64 (wrap64 (rd (rd_L3 l0_1 x42_1) x48_2))]) (ok := fun _ => True) (okp := fun _ => True) ?hr ?hp (fun _ hk => hk) trivial (Below.refl _ _) (Nat.le_refl _) (by simp) ?_; (case hd => rfl); (case hg => rfl); (case hr => first | (go_simp; done) | (go_simp; rfl)); (case hp => exact (Reps.one (show Kd.M (Kd.int .i64) _ _ _ (wrap64 (rd (rd_L3 l0_1 x42_1) x48_2)) [.int .i64 (wrap64 (rd (rd_L3 l0_1 x42_1) x48_2))] from rfl) (Reps.none _ _))); intro v489 w34 ho35 hb hg_ hnew_; clear hg_ hnew_; (first | rw [← Ny488.out] at ho35 | (simp only [Int.reduceToNat] at ho35; rw [← Ny488.out] at ho35)); have n0_ := Aside0.mk (Kd.R_below (by (with_reducible repeat (first | apply Kd.R_alloc | apply Kd.R_drewN | apply Kd.R_drew)); exact HO_6.out) hb); have n1_ := Aside0.mk (Kd.R_lower ho35 (below_size (by repeat (first | (with_reducible first | exact HB.out | apply below_alloc | apply pw_below_drewN | apply below_drew1 | refine below_set ?_ GE470.out) | exact HB.out)))); have n2_ := Aside0.mk (blk_below (g := gb470) (o := .cells #[.int .i64 a0_0, .slice (some ad486) l0_1.length c0_1] 49 (0, 0)) (by (with_reducible repeat (first | refine blk_drewN ?_ _ | refine blk_drew ?_ | refine blk_alloc ?_ _)); exact BK470.out) hb); have n3_ := Aside0.mk (below_step (by repeat (first | (with_reducible first | exact HB.out | apply below_alloc | apply pw_below_drewN | apply below_drew1 | refine below_set ?_ GE470.out) | exact HB.out)) hb); clear HO_6; clear BK470; clear HB; have HO_6 := n0_; have HO490 := n1_; have BK470 := n2_; have HB := n3_; clear n0_ n1_ n2_ n3_; clear hb ho35; obtain ⟨Ao36, co36, eo36⟩ := Kd.R_slice HO_6.out; subst eo36; obtain ⟨Ao37, co37, eo37⟩ := Kd.R_slice HO490.out; subst eo37) | ((with_reducible refine gate_callee (f := 102) rfl ?_); refine goesL_ (some 57) rfl rfl Try.func102 (by kernel_rfl) rfl #[.slice Ao36 x6_2.length co36, .int .i64 2, .slice Ao37 y488.length co37] rfl (by (try simp only [List.map_toArray, List.map_cons, List.map_nil]); first | done | rfl | (simp only [List.length_drop, List.length_take]; rfl)) ?_; (with_reducible refine (pack_Put.calls k2 _ _ x6_2 2 _ _ y488 t491 t492 _ ?side1 ?side2 ?side3 ?side4 A27.out).mono ?_); (case side1 => repeat (first | exact (Kd.R_reads' HO_6.out).2.2 | (with_reducible refine Kd.C_alloc ?_ _) | (with_reducible refine Kd.C_drewN ?_ _) | (with_reducible refine Kd.C_drew ?_))); (case side2 => exact (Kd.R_reads' HO_6.out).2.1); (case side3 => repeat (first | exact (Kd.R_reads' HO490.out).2.2 | (with_reducible refine Kd.C_alloc ?_ _) | (with_reducible refine Kd.C_drewN ?_ _) | (with_reducible refine Kd.C_drew ?_))); (case side4 => exact (Kd.R_reads' HO490.out).2.1); rintro e w38 ⟨v493, rfl, ho0, hb⟩; refine ⟨_, rfl, ?_⟩; have n0_ := Aside0.mk (Kd.R_elder' (by (with_reducible repeat (first | apply Kd.R_alloc | apply Kd.R_drewN | apply Kd.R_drew)); exact HO_6.out) (Kd.R_base ho0) hb); have n1_ := Aside0.mk (Kd.R_below (by (with_reducible repeat (first | apply Kd.R_alloc | apply Kd.R_drewN | apply Kd.R_drew)); exact HO490.out) hb); have n2_ := Aside0.mk (Kd.R_lower (Kd.R_new' ho0 (Kd.R_lt (by (with_reducible repeat (first | apply Kd.R_alloc | apply Kd.R_drewN | apply Kd.R_drew)); exact HO_6.out))) (below_size (by repeat (first | (with_reducible first | exact HB.out | apply below_alloc | apply pw_below_drewN | apply below_drew1 | refine below_set ?_ GE470.out) | exact HB.out)))); have n3_ := Aside0.mk (blk_below (g := gb470) (o := .cells #[.int .i64 a0_0, .slice (some ad486) l0_1.length c0_1] 49 (0, 0)) (by (with_reducible repeat (first | refine blk_drewN ?_ _ | refine blk_drew ?_ | refine blk_alloc ?_ _)); exact BK470.out) hb); have n4_ := Aside0.mk (below_step (by repeat (first | (with_reducible first | exact HB.out | apply below_alloc | apply pw_below_drewN | apply below_drew1 | refine below_set ?_ GE470.out) | exact HB.out)) hb); clear HO_6; clear HO490; clear BK470; clear HB; have HO_6 := n0_; have HO490 := n1_; have HO494 := n2_; have BK470 := n3_; have HB := n4_; clear n0_ n1_ n2_ n3_ n4_; (try clear hb); (try clear hb2); (try clear hk); (try clear hi); (try clear ho0)))
                              go_ret2
                              exact ⟨_, by first | rfl | (simp [errW_none, errW_some] <;> rfl) | (simp [*, errW_none, errW_some] <;> rfl), by first | exact Kd.R_nil _ _ _ _ _ | exact Kd.N_nil _ _ _ _ _ | exact Kd.V_nil _ _ _ _ _ | exact Kd.Q_nil _ _ _ _ _ | exact Kd.S_nil _ _ _ _ _, by repeat (first | (with_reducible first | exact HB.out | apply below_alloc | apply pw_below_drewN | apply below_drew1 | refine below_set ?_ GE470.out) | exact HB.out)⟩
                          · rw [if_neg c26] at H
                            exact absurd H (by simp)
                        · rw [if_neg c25] at H
                          exact absurd H (by simp)
                      · rw [if_neg c24] at H
                        have c24b0 : decide (x48_2 < ((rd_L3 l0_1 x42_1).length : Int)) = false := decide_eq_false c24
                        clear c24
                        have H' := Aside0.mk H
                        clear H
                        go_wp2
                        go_roundg k2
                        case measure => have := HK1.out; have := HK2.out; omega
                        case rel => exact ⟨(x6_2), (wrap64 (x42_1 + 1)), (by first | rfl | (simp; done) | (simp [*]; done)), H', ⟨by have := HK1.out; have := HK2.out; omega⟩, ⟨by (with_reducible repeat (first | apply Kd.R_alloc | apply Kd.R_drewN | apply Kd.R_drew)); exact HO_6.out⟩, ⟨by (with_reducible repeat (first | refine blk_drewN ?_ _ | refine blk_drew ?_ | refine blk_alloc ?_ _)); exact BK470.out⟩, ⟨by repeat (first | (with_reducible first | exact HB.out | apply below_alloc | apply pw_below_drewN | apply below_drew1 | refine below_set ?_ GE470.out) | exact HB.out)⟩⟩
                · rw [if_neg c23] at H
                  exact absurd H (by simp)
              · rw [if_neg c22] at H
                exact absurd H (by simp)
            · rw [if_neg c21] at H
              have c21b0 : decide (x42_1 < (l0_1.length : Int)) = false := decide_eq_false c21
              clear c21
              simp only [Option.some.injEq, Prod.mk.injEq] at H
              obtain ⟨rfl, rfl⟩ := H
              go_wp2
              go_ret2
              exact ⟨_, by first | rfl | (simp [errW_none, errW_some] <;> rfl) | (simp [*, errW_none, errW_some] <;> rfl), by (with_reducible repeat (first | apply Kd.R_alloc | apply Kd.R_drewN | apply Kd.R_drew)); exact HO_6.out, by repeat (first | (with_reducible first | exact HB.out | apply below_alloc | apply pw_below_drewN | apply below_drew1 | refine below_set ?_ GE470.out) | exact HB.out)⟩
      · rw [if_neg c6] at H
        exact absurd H (by simp)
    · rw [if_neg c5] at H
      have c5b0 : (t477 == 0) = false := beq_eq_false_iff_ne.mpr c5
      have c5b1 : (t477 != 0) = true := bne_iff_ne.mpr c5
      simp only [Option.some.injEq, Prod.mk.injEq] at H
      obtain ⟨rfl, rfl⟩ := H
      go_enter Try.func37, Try.ntmps37
      go_wp2_with (first | ((with_reducible refine gate_dst (N := 1) rfl ?_); refine box_event ?hg (N := 1) ?hd (cs := #[.int .i64 a0_0, .slice A0_1 l0_1.length c0_1]) (t := 49) ?hr ?_; (case hd => rfl); (case hg => rfl); (case hr => first | (go_simp; done) | (go_simp; rfl)); intro gb470 hg w39 hbox hb; have n0_ := Aside0.mk (below_step (by repeat (first | (with_reducible first | exact HB.out | apply below_alloc | apply pw_below_drewN | apply below_drew1) | exact HB.out)) hb); have n1_ := Aside0.mk (hbox); have n2_ := Aside0.mk ((by rw [hg]; exact (below_size (by repeat (first | (with_reducible first | exact HB.out | apply below_alloc | apply pw_below_drewN | apply below_drew1) | exact HB.out))) : w.heap.size ≤ gb470)); have n3_ := Aside0.mk ((by rw [hg]; exact (below_size (by repeat (first | (with_reducible first | exact HB.out | apply below_alloc | apply pw_below_drewN | apply below_drew1) | exact HB.out))) : w.heap.size ≤ gb470)); clear HB; have HB := n0_; have BK470 := n1_; have GW470 := n2_; have GE470 := n3_; clear n0_ n1_ n2_ n3_; clear hb hbox hg; have hcz40_0 : w39.cell? ⟨gb470, 0, none⟩ = some (.int .i64 a0_0) := (blk_cell BK470.out 0).trans rfl; have hcz40_1 : w39.cell? ⟨gb470, 1, none⟩ = some (.slice A0_1 l0_1.length c0_1) := (blk_cell BK470.out 1).trans rfl; have hfz40_0 := blk_frozen BK470.out 0; have hfz40_1 := blk_frozen BK470.out 1) | ((with_reducible refine gate_callee (f := 49) rfl ?_); refine goesL_ (some 13) rfl rfl Try.func49 (by kernel_rfl) rfl #[.agg #[.int .i64 a0_0, .slice A0_1 l0_1.length c0_1]] rfl (by (try simp only [List.map_toArray, List.map_cons, List.map_nil]); first | done | rfl | (simp only [List.length_drop, List.length_take]; rfl)) ?_; (with_reducible refine (quant_Cells.calls a0_0 _ _ l0_1 t471 t472 _ ?side1 ?side2 A2.out).mono ?_); (case side1 => repeat (first | exact (Kd.C_below HR0_1.out HB.out) | (with_reducible refine Kd.C_alloc ?_ _) | (with_reducible refine Kd.C_drewN ?_ _) | (with_reducible refine Kd.C_drew ?_))); (case side2 => exact HC0_1.out); rintro e w41 ⟨rfl, hb⟩; refine ⟨_, rfl, ?_⟩; have n0_ := Aside0.mk (blk_below (g := gb470) (o := .cells #[.int .i64 a0_0, .slice A0_1 l0_1.length c0_1] 49 (0, 0)) (by (with_reducible repeat (first | refine blk_drewN ?_ _ | refine blk_drew ?_ | refine blk_alloc ?_ _)); exact BK470.out) hb); have n1_ := Aside0.mk (below_step (by repeat (first | (with_reducible first | exact HB.out | apply below_alloc | apply pw_below_drewN | apply below_drew1 | refine below_set ?_ GE470.out) | exact HB.out)) hb); clear BK470; clear HB; have BK470 := n0_; have HB := n1_; clear n0_ n1_; (try clear hb); (try clear hb2); (try clear hk); (try clear hi); have hcz42_0 : w41.cell? ⟨gb470, 0, none⟩ = some (.int .i64 a0_0) := (blk_cell BK470.out 0).trans rfl; have hcz42_1 : w41.cell? ⟨gb470, 1, none⟩ = some (.slice A0_1 l0_1.length c0_1) := (blk_cell BK470.out 1).trans rfl; have hfz42_0 := blk_frozen BK470.out 0; have hfz42_1 := blk_frozen BK470.out 1) | ((with_reducible refine gate_dst (N := 22) rfl ?_); refine Kd.R_lit (Kd.int .i64) _ 2 ?hg (N := 22) ?hd (xs := ([a0_0] : List Int)) (inner := [.int .i64 a0_0]) (ok := fun _ => True) (okp := fun _ => True) ?hr ?hp (fun _ hk => hk) trivial (Below.refl _ _) (Nat.le_refl _) (by simp) ?_; (case hd => rfl); (case hg => rfl); (case hr => first | (go_simp; done) | (go_simp; rfl)); (case hp => exact (Reps.one (show Kd.M (Kd.int .i64) _ _ _ a0_0 [.int .i64 a0_0] from rfl) (Reps.none _ _))); intro v474 w43 ho44 hb hg_ hnew_; clear hg_ hnew_; (first | rw [← Ny473.out] at ho44 | (simp only [Int.reduceToNat] at ho44; rw [← Ny473.out] at ho44)); have n0_ := Aside0.mk (Kd.R_lower ho44 (below_size (by repeat (first | (with_reducible first | exact HB.out | apply below_alloc | apply pw_below_drewN | apply below_drew1 | refine below_set ?_ GE470.out) | exact HB.out)))); have n1_ := Aside0.mk (blk_below (g := gb470) (o := .cells #[.int .i64 a0_0, .slice A0_1 l0_1.length c0_1] 49 (0, 0)) (by (with_reducible repeat (first | refine blk_drewN ?_ _ | refine blk_drew ?_ | refine blk_alloc ?_ _)); exact BK470.out) hb); have n2_ := Aside0.mk (below_step (by repeat (first | (with_reducible first | exact HB.out | apply below_alloc | apply pw_below_drewN | apply below_drew1 | refine below_set ?_ GE470.out) | exact HB.out)) hb); clear BK470; clear HB; have HO475 := n0_; have BK470 := n1_; have HB := n2_; clear n0_ n1_ n2_; clear hb ho44; obtain ⟨Ao45, co45, eo45⟩ := Kd.R_slice HO475.out; subst eo45) | ((with_reducible refine gate_callee (f := 102) rfl ?_); refine goesL_ (some 23) rfl rfl Try.func102 (by kernel_rfl) rfl #[.slice none 0 0, .int .i64 8, .slice Ao45 y473.length co45] rfl (by (try simp only [List.map_toArray, List.map_cons, List.map_nil]); first | done | rfl | (simp only [List.length_drop, List.length_take]; rfl)) ?_; (refine (pack_Put.calls k _ _ ([] : List Int) 8 _ _ y473 t476 t477 _ ?side1 ?side2 ?side3 ?side4 A4.out).mono ?_); (case side1 => exact Kd.C_nil _ _); (case side2 => exact Nat.le_refl _); (case side3 => repeat (first | exact (Kd.R_reads' HO475.out).2.2 | (with_reducible refine Kd.C_alloc ?_ _) | (with_reducible refine Kd.C_drewN ?_ _) | (with_reducible refine Kd.C_drew ?_))); (case side4 => exact (Kd.R_reads' HO475.out).2.1); rintro e w46 ⟨v478, rfl, ho0, hb⟩; refine ⟨_, rfl, ?_⟩; have n0_ := Aside0.mk (Kd.R_below (by (with_reducible repeat (first | apply Kd.R_alloc | apply Kd.R_drewN | apply Kd.R_drew)); exact HO475.out) hb); have n1_ := Aside0.mk (Kd.R_lower ho0 (below_size (by repeat (first | (with_reducible first | exact HB.out | apply below_alloc | apply pw_below_drewN | apply below_drew1 | refine below_set ?_ GE470.out) | exact HB.out)))); have n2_ := Aside0.mk (blk_below (g := gb470) (o := .cells #[.int .i64 a0_0, .slice A0_1 l0_1.length c0_1] 49 (0, 0)) (by (with_reducible repeat (first | refine blk_drewN ?_ _ | refine blk_drew ?_ | refine blk_alloc ?_ _)); exact BK470.out) hb); have n3_ := Aside0.mk (below_step (by repeat (first | (with_reducible first | exact HB.out | apply below_alloc | apply pw_below_drewN | apply below_drew1 | refine below_set ?_ GE470.out) | exact HB.out)) hb); clear HO475; clear BK470; clear HB; have HO475 := n0_; have HO479 := n1_; have BK470 := n2_; have HB := n3_; clear n0_ n1_ n2_ n3_; (try clear hb); (try clear hb2); (try clear hk); (try clear hi); (try clear ho0)))
      go_ret2
      exact ⟨_, by first | rfl | (simp [errW_none, errW_some] <;> rfl) | (simp [*, errW_none, errW_some] <;> rfl), by first | exact Kd.R_nil _ _ _ _ _ | exact Kd.N_nil _ _ _ _ _ | exact Kd.V_nil _ _ _ _ _ | exact Kd.Q_nil _ _ _ _ _ | exact Kd.S_nil _ _ _ _ _, by repeat (first | (with_reducible first | exact HB.out | apply below_alloc | apply pw_below_drewN | apply below_drew1 | refine below_set ?_ GE470.out) | exact HB.out)⟩
  · rw [if_neg c3] at H
    have c3b0 : (t472 == 0) = false := beq_eq_false_iff_ne.mpr c3
    have c3b1 : (t472 != 0) = true := bne_iff_ne.mpr c3
    simp only [Option.some.injEq, Prod.mk.injEq] at H
    obtain ⟨rfl, rfl⟩ := H
    go_enter Try.func37, Try.ntmps37
    go_wp2_with (first | ((with_reducible refine gate_dst (N := 1) rfl ?_); refine box_event ?hg (N := 1) ?hd (cs := #[.int .i64 a0_0, .slice A0_1 l0_1.length c0_1]) (t := 49) ?hr ?_; (case hd => rfl); (case hg => rfl); (case hr => first | (go_simp; done) | (go_simp; rfl)); intro gb470 hg w47 hbox hb; have n0_ := Aside0.mk (below_step (by repeat (first | (with_reducible first | exact HB.out | apply below_alloc | apply pw_below_drewN | apply below_drew1) | exact HB.out)) hb); have n1_ := Aside0.mk (hbox); have n2_ := Aside0.mk ((by rw [hg]; exact (below_size (by repeat (first | (with_reducible first | exact HB.out | apply below_alloc | apply pw_below_drewN | apply below_drew1) | exact HB.out))) : w.heap.size ≤ gb470)); have n3_ := Aside0.mk ((by rw [hg]; exact (below_size (by repeat (first | (with_reducible first | exact HB.out | apply below_alloc | apply pw_below_drewN | apply below_drew1) | exact HB.out))) : w.heap.size ≤ gb470)); clear HB; have HB := n0_; have BK470 := n1_; have GW470 := n2_; have GE470 := n3_; clear n0_ n1_ n2_ n3_; clear hb hbox hg; have hcz48_0 : w47.cell? ⟨gb470, 0, none⟩ = some (.int .i64 a0_0) := (blk_cell BK470.out 0).trans rfl; have hcz48_1 : w47.cell? ⟨gb470, 1, none⟩ = some (.slice A0_1 l0_1.length c0_1) := (blk_cell BK470.out 1).trans rfl; have hfz48_0 := blk_frozen BK470.out 0; have hfz48_1 := blk_frozen BK470.out 1) | ((with_reducible refine gate_callee (f := 49) rfl ?_); refine goesL_ (some 13) rfl rfl Try.func49 (by kernel_rfl) rfl #[.agg #[.int .i64 a0_0, .slice A0_1 l0_1.length c0_1]] rfl (by (try simp only [List.map_toArray, List.map_cons, List.map_nil]); first | done | rfl | (simp only [List.length_drop, List.length_take]; rfl)) ?_; (with_reducible refine (quant_Cells.calls a0_0 _ _ l0_1 t471 t472 _ ?side1 ?side2 A2.out).mono ?_); (case side1 => repeat (first | exact (Kd.C_below HR0_1.out HB.out) | (with_reducible refine Kd.C_alloc ?_ _) | (with_reducible refine Kd.C_drewN ?_ _) | (with_reducible refine Kd.C_drew ?_))); (case side2 => exact HC0_1.out); rintro e w49 ⟨rfl, hb⟩; refine ⟨_, rfl, ?_⟩; have n0_ := Aside0.mk (blk_below (g := gb470) (o := .cells #[.int .i64 a0_0, .slice A0_1 l0_1.length c0_1] 49 (0, 0)) (by (with_reducible repeat (first | refine blk_drewN ?_ _ | refine blk_drew ?_ | refine blk_alloc ?_ _)); exact BK470.out) hb); have n1_ := Aside0.mk (below_step (by repeat (first | (with_reducible first | exact HB.out | apply below_alloc | apply pw_below_drewN | apply below_drew1 | refine below_set ?_ GE470.out) | exact HB.out)) hb); clear BK470; clear HB; have BK470 := n0_; have HB := n1_; clear n0_ n1_; (try clear hb); (try clear hb2); (try clear hk); (try clear hi)))
    go_ret2
    exact ⟨_, by first | rfl | (simp [errW_none, errW_some] <;> rfl) | (simp [*, errW_none, errW_some] <;> rfl), by first | exact Kd.R_nil _ _ _ _ _ | exact Kd.N_nil _ _ _ _ _ | exact Kd.V_nil _ _ _ _ _ | exact Kd.Q_nil _ _ _ _ _ | exact Kd.S_nil _ _ _ _ _, by repeat (first | (with_reducible first | exact HB.out | apply below_alloc | apply pw_below_drewN | apply below_drew1 | refine below_set ?_ GE470.out) | exact HB.out)⟩

end Go.Proofs.Ytkjibgfgbfacdaa.P
end
/-! part: F39 -/
section
set_option linter.unusedVariables false
set_option linter.unusedSimpArgs false
namespace Go.Proofs.Ytkjibgfgbfacdaa.P
open Go.RowKit Go.Proofs.YtkjibgfgbfacdaaW.PrintWords Go.Proofs.YtkjibgfgbfacdaaW.PrintLast Go.Proofs.YtkjibgfgbfacdaaW.PrintMore
attribute [local go_sem] max2_int min2_int max_two min_two max_three min_three max_four min_four   -- for this text's walks alone
set_option linter.unusedVariables false
set_option linter.unusedSimpArgs false

/-! ### book_From: function 39 -/
mutual
def book_From.j0 : Nat → List Int → Int → Int → List Int → Bool → Option (Int × (List (List Int)) × Int)
  | 0, _, _, _, _, _ => none
  | k + 1, x4, x7, x8, x9, x54 => if x54 = true then (some (0, ([] : List (List Int)), 2)) else (if 0 < (x4.length : Int) then (if 0 ≤ x7 then (if (x7 : Int).toNat ≤ 11728124029610 then ((some (List.replicate (x7 : Int).toNat [] : List (List Int))).bind fun y573 => (book_From.l0 k x8 x9 (y573.length : Int) 0 (rd x4 0) y573)) else (none)) else (none)) else (none))
def book_From.l0 : Nat → Int → List Int → Int → Int → Int → List (List Int) → Option (Int × (List (List Int)) × Int)
  | 0, _, _, _, _, _, _ => none
  | k + 1, x8, x9, x64, x65, x577000, x577001 => if x65 < x64 then (if 0 ≤ x8 then (if (x8 : Int).toNat ≤ 140737488355328 then ((some (List.replicate (x8 : Int).toNat 0 : List Int)).bind fun y578 => (book_From.l1 k x8 x9 x65 y578 x64 x65 (y578.length : Int) 0 x577000 x577001)) else (none)) else (none)) else ((h_quant_Check.f x577000 x577001).bind fun t577 => (if t577 = 0 then (some (x577000, x577001, 0)) else (some (0, ([] : List (List Int)), 2))))
def book_From.l1 : Nat → Int → List Int → Int → List Int → Int → Int → Int → Int → Int → List (List Int) → Option (Int × (List (List Int)) × Int)
  | 0, _, _, _, _, _, _, _, _, _, _ => none
  | k + 1, x8, x9, x13, x14, x64, x65, x71, x72, x577000, x577001 => if x72 < x71 then (if 0 ≤ (wrap64 ((wrap64 (x13 * x8)) + x72)) then (if (wrap64 ((wrap64 (x13 * x8)) + x72)) < (x9.length : Int) then (if 0 ≤ x72 then (if x72 < (x14.length : Int) then (book_From.l1 k x8 x9 x13 (x14.set (x72 : Int).toNat (IntKind.i16.wrap (rd x9 (wrap64 ((wrap64 (x13 * x8)) + x72))))) x64 x65 x71 (wrap64 (x72 + 1)) x577000 x577001) else (none)) else (none)) else (none)) else (none)) else (if 0 ≤ x13 then (if x13 < (x577001.length : Int) then (book_From.l0 k x8 x9 x64 (wrap64 (x65 + 1)) x577000 (x577001.set (x13 : Int).toNat x14)) else (none)) else (none))
end
def book_From.f (k : Nat) (l0 : List Int) : Option (Int × (List (List Int)) × Int) := if (l0.length : Int) < 10 then (some (0, ([] : List (List Int)), 2)) else ((pack_Take.f k l0 8 1).bind fun bt555 => (if 8 < (l0.length : Int) then (if 9 < (l0.length : Int) then (if 10 ≤ (l0.length : Int) then ((pack_Take.f k (l0.drop 10) 2 (wrap64 ((wrap64 (rd l0 8)) * (wrap64 (rd l0 9))))).bind fun bt565 => (if bt555.2.2 = 0 then (if bt565.2.2 = 0 then (book_From.j0 k bt555.1 (wrap64 (rd l0 8)) (wrap64 (rd l0 9)) bt565.1 (decide ((bt565.2.1.length : Int) > 0))) else (book_From.j0 k bt555.1 (wrap64 (rd l0 8)) (wrap64 (rd l0 9)) bt565.1 true)) else (book_From.j0 k bt555.1 (wrap64 (rd l0 8)) (wrap64 (rd l0 9)) bt565.1 true))) else (none)) else (none)) else (none)))
theorem book_From.mono_l : ∀ k, (∀ y0 y1 y2 y3 y4, LeO (book_From.j0 k y0 y1 y2 y3 y4) (book_From.j0 (k + 1) y0 y1 y2 y3 y4)) ∧ (∀ y0 y1 y2 y3 y4 y5, LeO (book_From.l0 k y0 y1 y2 y3 y4 y5) (book_From.l0 (k + 1) y0 y1 y2 y3 y4 y5)) ∧ (∀ y0 y1 y2 y3 y4 y5 y6 y7 y8 y9, LeO (book_From.l1 k y0 y1 y2 y3 y4 y5 y6 y7 y8 y9) (book_From.l1 (k + 1) y0 y1 y2 y3 y4 y5 y6 y7 y8 y9))
  | 0 => ⟨fun _ _ _ _ _ r h => by simp [book_From.j0] at h, fun _ _ _ _ _ _ r h => by simp [book_From.l0] at h, fun _ _ _ _ _ _ _ _ _ _ r h => by simp [book_From.l1] at h⟩
  | k + 1 => by
    obtain ⟨ih0, ih1, ih2⟩ := book_From.mono_l k
    refine ⟨?_, ?_, ?_⟩
    · intro y0 y1 y2 y3 y4
      unfold book_From.j0
      repeat' first
      | (with_reducible exact ih0 _ _ _ _ _)
      | (with_reducible exact ih1 _ _ _ _ _ _)
      | (with_reducible exact ih2 _ _ _ _ _ _ _ _ _ _)
      | (with_reducible exact pack_Take.mono _ _ _ _)
      | (with_reducible exact LeO.refl _)
      | (with_reducible exact LeO.none _)
      | (with_reducible refine LeO.ite ?_ ?_)
      | (with_reducible refine LeO.bind ?_ (fun _ => ?_))
      | exact ih0 _ _ _ _ _
      | exact ih1 _ _ _ _ _ _
      | exact ih2 _ _ _ _ _ _ _ _ _ _
      | exact pack_Take.mono _ _ _ _
      | exact LeO.none _
      | refine LeO.ite ?_ ?_
      | refine LeO.bind ?_ (fun _ => ?_)
    · intro y0 y1 y2 y3 y4 y5
      unfold book_From.l0
      repeat' first
      | (with_reducible exact ih0 _ _ _ _ _)
      | (with_reducible exact ih1 _ _ _ _ _ _)
      | (with_reducible exact ih2 _ _ _ _ _ _ _ _ _ _)
      | (with_reducible exact pack_Take.mono _ _ _ _)
      | (with_reducible exact LeO.refl _)
      | (with_reducible exact LeO.none _)
      | (with_reducible refine LeO.ite ?_ ?_)
      | (with_reducible refine LeO.bind ?_ (fun _ => ?_))
      | exact ih0 _ _ _ _ _
      | exact ih1 _ _ _ _ _ _
      | exact ih2 _ _ _ _ _ _ _ _ _ _
      | exact pack_Take.mono _ _ _ _
      | exact LeO.none _
      | refine LeO.ite ?_ ?_
      | refine LeO.bind ?_ (fun _ => ?_)
    · intro y0 y1 y2 y3 y4 y5 y6 y7 y8 y9
      unfold book_From.l1
      repeat' first
      | (with_reducible exact ih0 _ _ _ _ _)
      | (with_reducible exact ih1 _ _ _ _ _ _)
      | (with_reducible exact ih2 _ _ _ _ _ _ _ _ _ _)
      | (with_reducible exact pack_Take.mono _ _ _ _)
      | (with_reducible exact LeO.refl _)
      | (with_reducible exact LeO.none _)
      | (with_reducible refine LeO.ite ?_ ?_)
      | (with_reducible refine LeO.bind ?_ (fun _ => ?_))
      | exact ih0 _ _ _ _ _
      | exact ih1 _ _ _ _ _ _
      | exact ih2 _ _ _ _ _ _ _ _ _ _
      | exact pack_Take.mono _ _ _ _
      | exact LeO.none _
      | refine LeO.ite ?_ ?_
      | refine LeO.bind ?_ (fun _ => ?_)
theorem book_From.mono : ∀ a0 k, LeO (book_From.f k a0) (book_From.f (k + 1) a0) := by
  intro a0 k
  obtain ⟨ih0, ih1, ih2⟩ := book_From.mono_l k
  unfold book_From.f
  repeat' first
      | (with_reducible exact ih0 _ _ _ _ _)
      | (with_reducible exact ih1 _ _ _ _ _ _)
      | (with_reducible exact ih2 _ _ _ _ _ _ _ _ _ _)
      | (with_reducible exact pack_Take.mono _ _ _ _)
      | (with_reducible exact LeO.refl _)
      | (with_reducible exact LeO.none _)
      | (with_reducible refine LeO.ite ?_ ?_)
      | (with_reducible refine LeO.bind ?_ (fun _ => ?_))
      | exact ih0 _ _ _ _ _
      | exact ih1 _ _ _ _ _ _
      | exact ih2 _ _ _ _ _ _ _ _ _ _
      | exact pack_Take.mono _ _ _ _
      | exact LeO.none _
      | refine LeO.ite ?_ ?_
      | refine LeO.bind ?_ (fun _ => ?_)
def book_From.T4 : Bool × List (List Nat × List Nat) := (true, [([], []), ([0], [0]), ([1], [1]), ([2], [2]), ([], []), ([4], [4]), ([5], [5]), ([6], [6]), ([3, 0, 1, 2, 3], [3]), ([7, 8, 0, 1, 2, 3, 4, 5, 6, 7, 8], [7])])
def book_From.B4 : List Nat := [0, 1, 3, 7, 0, 16, 48, 112, 15, 511]
theorem book_From.tab4 : rtab .any (opsOf Try.f39 4) = book_From.T4 := by kernel_rfl
theorem book_From.bits4 : waitsOk book_From.T4.2 book_From.B4 = true := by kernel_rfl
def book_From.T8 : Bool × List (List Nat × List Nat) := (true, [([], []), ([0], [0]), ([1], [1]), ([], []), ([3, 3], [3]), ([2, 4], [2, 4]), ([], []), ([6, 5, 0, 1, 2, 3, 4, 5, 6], [5, 6])])
def book_From.B8 : List Nat := [0, 1, 3, 0, 8, 31, 0, 127]
theorem book_From.tab8 : rtab .any (opsOf Try.f39 8) = book_From.T8 := by kernel_rfl
theorem book_From.bits8 : waitsOk book_From.T8.2 book_From.B8 = true := by kernel_rfl
set_option maxHeartbeats 8000000 in
set_option maxRecDepth 100000 in
theorem book_From.calls (k : Nat) (A0 : Option Addr) (c0 : Nat) (l0 : List Int) (r1 : Int) (r2 : List (List Int)) (r3 : Int) (w : World) (hr0 : Kd.C (Kd.int .u8) w A0 l0.length l0) (hc0 : l0.length ≤ c0) (h : book_From.f k l0 = some (r1, r2, r3)) :
    Calls Try.prog 39 #[.slice A0 l0.length c0] w fun e w' => ∃ v1_ : Value, e = .returned (.tuple #[.agg #[.int .i64 r1, v1_], .int .i64 r3]) ∧ Kd.S (Kd.slice 74 (Kd.int .i16)) 26 w' w.heap.size (fun _ => True) v1_ r2 ∧ Below w.heap.size w w' := by
  have hu49 := Try.underlying49
  have HR0 := Aside0.mk hr0
  have HC0 := Aside0.mk hc0
  clear hr0 hc0
  have HB := Aside0.mk (Below.refl w.heap.size w)
  have H : (if (l0.length : Int) < 10 then (some (0, ([] : List (List Int)), 2)) else ((pack_Take.f k l0 8 1).bind fun bt555 => (if 8 < (l0.length : Int) then (if 9 < (l0.length : Int) then (if 10 ≤ (l0.length : Int) then ((pack_Take.f k (l0.drop 10) 2 (wrap64 ((wrap64 (rd l0 8)) * (wrap64 (rd l0 9))))).bind fun bt565 => (if bt555.2.2 = 0 then (if bt565.2.2 = 0 then (book_From.j0 k bt555.1 (wrap64 (rd l0 8)) (wrap64 (rd l0 9)) bt565.1 (decide ((bt565.2.1.length : Int) > 0))) else (book_From.j0 k bt555.1 (wrap64 (rd l0 8)) (wrap64 (rd l0 9)) bt565.1 true)) else (book_From.j0 k bt555.1 (wrap64 (rd l0 8)) (wrap64 (rd l0 9)) bt565.1 true))) else (none)) else (none)) else (none)))) = some (r1, r2, r3) := h
  clear h
  by_cases c2 : (l0.length : Int) < 10
  · rw [if_pos c2] at H
    have c2b0 : decide ((l0.length : Int) < 10) = true := decide_eq_true c2
    have c2b1 : decide (l0.length < 10) = true := decide_eq_true (by omega)
    clear c2
    simp only [Option.some.injEq, Prod.mk.injEq] at H
    obtain ⟨rfl, rfl, rfl⟩ := H
    go_enter Try.func39, Try.ntmps39
    go_wp2_with (first | ((with_reducible refine gate_dst (N := 2) rfl ?_); (try (refine gate_guard (by rfl) ?_; dsimp only)); refine box_event ?hg (N := 2) ?hd (cs := #[.int .i64 0, .slice none 0 0]) (t := 49) ?hr ?_; (case hd => rfl); (case hg => rfl); (case hr => first | (go_simp; done) | (go_simp; rfl)); intro gb554 hg w3 hbox hb; have n0_ := Aside0.mk (below_step (by repeat (first | (with_reducible first | exact HB.out | apply below_alloc | apply pw_below_drewN | apply below_drew1) | exact HB.out)) hb); have n1_ := Aside0.mk (hbox); have n2_ := Aside0.mk ((by rw [hg]; exact (below_size (by repeat (first | (with_reducible first | exact HB.out | apply below_alloc | apply pw_below_drewN | apply below_drew1) | exact HB.out))) : w.heap.size ≤ gb554)); have n3_ := Aside0.mk ((by rw [hg]; exact (below_size (by repeat (first | (with_reducible first | exact HB.out | apply below_alloc | apply pw_below_drewN | apply below_drew1) | exact HB.out))) : w.heap.size ≤ gb554)); clear HB; have HB := n0_; have BK554 := n1_; have GW554 := n2_; have GE554 := n3_; clear n0_ n1_ n2_ n3_; clear hb hbox hg; have hcz4_0 : w3.cell? ⟨gb554, 0, none⟩ = some (.int .i64 0) := (blk_cell BK554.out 0).trans rfl; have hcz4_1 : w3.cell? ⟨gb554, 1, none⟩ = some (.slice none 0 0) := (blk_cell BK554.out 1).trans rfl; have hfz4_0 := blk_frozen BK554.out 0; have hfz4_1 := blk_frozen BK554.out 1))
    refine bodyPost_ret (results_ct rfl _ _ gb554 49 #[.int .i64 0, .slice none 0 0] (0, 0) _ rfl (by (with_reducible repeat (first | refine blk_drewN ?_ _ | refine blk_drew ?_ | refine blk_alloc ?_ _)); refine blk_put (cs := #[.int .i64 0, .slice none 0 0]) ?_ 1 _ rfl; (with_reducible repeat (first | refine blk_drewN ?_ _ | refine blk_drew ?_ | refine blk_alloc ?_ _)); refine blk_put (cs := #[.int .i64 0, .slice none 0 0]) ?_ 0 _ rfl; (with_reducible repeat (first | refine blk_drewN ?_ _ | refine blk_drew ?_ | refine blk_alloc ?_ _)); exact BK554.out) Try.underlying49 rfl (by kernel_rfl)) rfl ?_
    exact ⟨_, by first | rfl | (simp [errW_none, errW_some] <;> rfl) | (simp [*, errW_none, errW_some] <;> rfl), by first | exact Kd.S_nil _ _ _ _ _ | exact Kd.N_nil _ _ _ _ _ | exact Kd.V_nil _ _ _ _ _ | exact Kd.Q_nil _ _ _ _ _ | exact Kd.R_nil _ _ _ _ _, by repeat (first | (with_reducible first | exact HB.out | apply below_alloc | apply pw_below_drewN | apply below_drew1 | refine below_set ?_ GE554.out) | exact HB.out)⟩
  · rw [if_neg c2] at H
    have c2b0 : decide ((l0.length : Int) < 10) = false := decide_eq_false c2
    have c2b1 : decide (l0.length < 10) = false := decide_eq_false (by omega)
    clear c2
    replace H := Option.bind_eq_some_iff.mp H
    obtain ⟨⟨t555, t558, t561⟩, A50, H⟩ := H
    replace H : (if 8 < (l0.length : Int) then (if 9 < (l0.length : Int) then (if 10 ≤ (l0.length : Int) then ((pack_Take.f k (l0.drop 10) 2 (wrap64 ((wrap64 (rd l0 8)) * (wrap64 (rd l0 9))))).bind fun bt565 => (if t561 = 0 then (if bt565.2.2 = 0 then (book_From.j0 k t555 (wrap64 (rd l0 8)) (wrap64 (rd l0 9)) bt565.1 (decide ((bt565.2.1.length : Int) > 0))) else (book_From.j0 k t555 (wrap64 (rd l0 8)) (wrap64 (rd l0 9)) bt565.1 true)) else (book_From.j0 k t555 (wrap64 (rd l0 8)) (wrap64 (rd l0 9)) bt565.1 true))) else (none)) else (none)) else (none)) = some (r1, r2, r3) := H
    have A5 := Aside0.mk A50
    clear A50
    by_cases c6 : 8 < (l0.length : Int)
    · rw [if_pos c6] at H
      have c6b0 : decide (8 < (l0.length : Int)) = true := decide_eq_true c6
      have c6b1 : decide (8 < l0.length) = true := decide_eq_true (by omega)
      clear c6
      by_cases c7 : 9 < (l0.length : Int)
      · rw [if_pos c7] at H
        have c7b0 : decide (9 < (l0.length : Int)) = true := decide_eq_true c7
        have c7b1 : decide (9 < l0.length) = true := decide_eq_true (by omega)
        clear c7
        by_cases c8 : 10 ≤ (l0.length : Int)
        · rw [if_pos c8] at H
          have c8b0 := eq_true c8
          have c8b1 : decide (10 ≤ (l0.length : Int)) = true := decide_eq_true c8
          clear c8
          replace H := Option.bind_eq_some_iff.mp H
          obtain ⟨⟨t565, t568, t571⟩, A90, H⟩ := H
          replace H : (if t561 = 0 then (if t571 = 0 then (book_From.j0 k t555 (wrap64 (rd l0 8)) (wrap64 (rd l0 9)) t565 (decide ((t568.length : Int) > 0))) else (book_From.j0 k t555 (wrap64 (rd l0 8)) (wrap64 (rd l0 9)) t565 true)) else (book_From.j0 k t555 (wrap64 (rd l0 8)) (wrap64 (rd l0 9)) t565 true)) = some (r1, r2, r3) := H
          have A9 := Aside0.mk A90
          clear A90
          have HC10 := Aside0.mk H
          clear H
          go_enter Try.func39, Try.ntmps39
          try go_wp2_with (first | ((with_reducible refine gate_dst (N := 2) rfl ?_); (try (refine gate_guard (by rfl) ?_; dsimp only)); refine box_event ?hg (N := 2) ?hd (cs := #[.int .i64 0, .slice none 0 0]) (t := 49) ?hr ?_; (case hd => rfl); (case hg => rfl); (case hr => first | (go_simp; done) | (go_simp; rfl)); intro gb554 hg w11 hbox hb; have n0_ := Aside0.mk (below_step (by repeat (first | (with_reducible first | exact HB.out | apply below_alloc | apply pw_below_drewN | apply below_drew1) | exact HB.out)) hb); have n1_ := Aside0.mk (hbox); have n2_ := Aside0.mk ((by rw [hg]; exact (below_size (by repeat (first | (with_reducible first | exact HB.out | apply below_alloc | apply pw_below_drewN | apply below_drew1) | exact HB.out))) : w.heap.size ≤ gb554)); have n3_ := Aside0.mk ((by rw [hg]; exact (below_size (by repeat (first | (with_reducible first | exact HB.out | apply below_alloc | apply pw_below_drewN | apply below_drew1) | exact HB.out))) : w.heap.size ≤ gb554)); clear HB; have HB := n0_; have BK554 := n1_; have GW554 := n2_; have GE554 := n3_; clear n0_ n1_ n2_ n3_; clear hb hbox hg) | ((with_reducible refine gate_callee (f := 105) rfl ?_); refine goesL_ (some 22) rfl rfl Try.func105 (by kernel_rfl) rfl #[.slice A0 l0.length c0, .int .i64 8, .int .i64 1] rfl (by (try simp only [List.map_toArray, List.map_cons, List.map_nil]); first | done | rfl | (simp only [List.length_drop, List.length_take]; rfl)) ?_; (with_reducible refine (pack_Take.calls k (fun k_ => k_ < w.heap.size) _ _ l0 8 1 t555 t558 t561 _ ?side1 A5.out).mono ?_); (case side1 => exact Kd.V_mk HC0.out (Kd.F_below (Kd.C_F (Kd.heap_int .u8) HR0.out) (by repeat (first | (with_reducible first | exact HB.out | apply below_alloc | apply pw_below_drewN | apply below_drew1 | refine below_set ?_ GE554.out) | exact HB.out)))); rintro e w12 ⟨v556, v559, rfl, ho0, ho1, hb⟩; refine ⟨_, rfl, ?_⟩; have n0_ := Aside0.mk (Kd.R_lower (Kd.R_mono (ok' := fun k_ => True) ho0 (fun _ hk_ => trivial)) (below_size (by repeat (first | (with_reducible first | exact HB.out | apply below_alloc | apply pw_below_drewN | apply below_drew1 | refine below_set ?_ GE554.out) | exact HB.out)))); have n1_ := Aside0.mk (Kd.R_lower (Kd.R_mono (ok' := fun k_ => True) ho1 (fun _ hk_ => trivial)) (below_size (by repeat (first | (with_reducible first | exact HB.out | apply below_alloc | apply pw_below_drewN | apply below_drew1 | refine below_set ?_ GE554.out) | exact HB.out)))); have n2_ := Aside0.mk (blk_below (g := gb554) (o := .cells #[.int .i64 0, .slice none 0 0] 49 (0, 0)) (by (with_reducible repeat (first | refine blk_drewN ?_ _ | refine blk_drew ?_ | refine blk_alloc ?_ _)); exact BK554.out) hb); have n3_ := Aside0.mk (below_step (by repeat (first | (with_reducible first | exact HB.out | apply below_alloc | apply pw_below_drewN | apply below_drew1 | refine below_set ?_ GE554.out) | exact HB.out)) hb); clear BK554; clear HB; have HO557 := n0_; have HO560 := n1_; have BK554 := n2_; have HB := n3_; clear n0_ n1_ n2_ n3_; (try clear hb); (try clear hb2); (try clear hk); (try clear hi); (try clear ho0); (try clear ho1)))
          have n0_ := Aside0.mk (Kd.R_drew HO557.out)
          have n1_ := Aside0.mk (Kd.R_drew HO560.out)
          have n2_ := Aside0.mk (blk_drew BK554.out)
          have n3_ := Aside0.mk (below_drew1 HB.out)
          clear HO557
          clear HO560
          clear BK554
          clear HB
          have HO557 := n0_
          have HO560 := n1_
          have BK554 := n2_
          have HB := n3_
          clear n0_ n1_ n2_ n3_
          have p562 : 0 ≤ (8 : Int) := (by omega)
          have q562 : 8 < (l0.length : Int) := of_decide_eq_true (by first | (with_reducible assumption) | assumption)
          obtain ⟨ad562, e562, hx562_0⟩ := Kd.at_int HR0.out 8 p562 q562
          have hw562_0 := hx562_0
          (try rw [show ((8 : Int)).toNat = 8 from rfl] at hw562_0)
          (try rw [show 8 * 1 = 8 from rfl] at hw562_0)
          (try simp only [Nat.reduceMul, Nat.reduceEqDiff, Go.Addr.add, ↓reduceIte] at hw562_0)
          cases e562
          (try simp only [show (8 : Int).toNat = 8 from rfl, Nat.reduceMul, Nat.reduceEqDiff, Go.Addr.add, ↓reduceIte] at hx562_0)
          have qi562 : (8 < l0.length) = True := eq_true (by omega)
          (try rw [show ((8 : Int)).toNat = 8 from rfl] at hx562_0)
          (try replace hx562_0 := (HB.out.cell (World.block_lt_of_cell? w _ hx562_0)).trans hx562_0)
          replace p562 := eq_true p562
          replace q562 := eq_true q562
          have p563 : 0 ≤ (9 : Int) := (by omega)
          have q563 : 9 < (l0.length : Int) := of_decide_eq_true (by first | (with_reducible assumption) | assumption)
          obtain ⟨ad563, e563, hx563_0⟩ := Kd.at_int HR0.out 9 p563 q563
          have hw563_0 := hx563_0
          (try rw [show ((9 : Int)).toNat = 9 from rfl] at hw563_0)
          (try rw [show 9 * 1 = 9 from rfl] at hw563_0)
          (try simp only [Nat.reduceMul, Nat.reduceEqDiff, Go.Addr.add, ↓reduceIte] at hw563_0)
          obtain rfl : ad562 = ad563 := (by injection e563)
          (try simp only [show (9 : Int).toNat = 9 from rfl, Nat.reduceMul, Nat.reduceEqDiff, Go.Addr.add, ↓reduceIte] at hx563_0)
          have qi563 : (9 < l0.length) = True := eq_true (by omega)
          (try rw [show ((9 : Int)).toNat = 9 from rfl] at hx563_0)
          (try replace hx563_0 := (HB.out.cell (World.block_lt_of_cell? w _ hx563_0)).trans hx563_0)
          replace p563 := eq_true p563
          replace q563 := eq_true q563
          refine start_ (n := 10) (S := fun w' => w'.cell? ⟨ad562.block, ad562.off + 8, none⟩ = some (.int .u8 (rd l0 8)) ∧ w'.cell? ⟨ad562.block, ad562.off + 9, none⟩ = some (.int .u8 (rd l0 9))) (ds := []) #[false, false, false, false, false, false, false, false, false, false] (by kernel_rfl) rfl rfl ⟨((HB.out.cell (World.block_lt_of_cell? w _ hw562_0)).trans hw562_0), ((HB.out.cell (World.block_lt_of_cell? w _ hw563_0)).trans hw563_0)⟩ (fun hHeld => ?_); refine with_tabW book_From.tab4 book_From.bits4 (fun HT_ HW_ => ?_)
          generalize w12.drew = w13 at HO557 HO560 BK554 HB hx562_0 hx563_0 hHeld ⊢
          refine pure_ (i := 0) (N := some 26) (v := ?_) (a' := ?_) #[true, false, false, false, false, false, false, false, false, false] rfl rfl (any_of HT_.out (by kernel_rfl)) (fun _ _ _ h => h) (Or.inl ⟨by rfl, ?_⟩) ?_ ?_
          rotate_left
          · intro w'
            go_simp
            with_reducible rfl
          rotate_left
          · simp only [Act.put, List.setIfInBounds_toArray, List.set_cons_zero, List.set_cons_succ, i64_w, i32_w]
            rfl
          refine pure_ (i := 1) (N := some 27) (v := ?_) (a' := ?_) #[true, true, false, false, false, false, false, false, false, false] rfl rfl (any_of HT_.out (by kernel_rfl)) (fun _ _ _ h => h) (Or.inl ⟨by rfl, ?_⟩) ?_ ?_
          rotate_left
          · intro w'
            go_simp
            with_reducible rfl
          rotate_left
          · simp only [Act.put, List.setIfInBounds_toArray, List.set_cons_zero, List.set_cons_succ, i64_w, i32_w]
            rfl
          refine pure_ (i := 4) (N := some 30) (v := ?_) (a' := ?_) #[true, true, false, false, true, false, false, false, false, false] rfl rfl (any_of HT_.out (by kernel_rfl)) (fun _ _ _ h => h) (Or.inl ⟨by rfl, ?_⟩) ?_ ?_
          rotate_left
          · intro w'
            go_simp
            with_reducible rfl
          rotate_left
          · simp only [Act.put, List.setIfInBounds_toArray, List.set_cons_zero, List.set_cons_succ, i64_w, i32_w]
            rfl
          refine pure_ (i := 5) (N := some 31) (v := ?_) (a' := ?_) #[true, true, false, false, true, true, false, false, false, false] rfl rfl (any_of HT_.out (by kernel_rfl)) (fun _ _ _ h => h) (Or.inl ⟨by rfl, ?_⟩) ?_ ?_
          rotate_left
          · intro w'
            go_simp
            with_reducible rfl
          rotate_left
          · simp only [Act.put, List.setIfInBounds_toArray, List.set_cons_zero, List.set_cons_succ, i64_w, i32_w]
            rfl
          refine take_ (i := 2) (N := some 28) (v := ?_) (a' := ?_) #[true, true, true, false, true, true, false, false, false, false] rfl rfl (take_ofW HT_.out HW_.out (by kernel_rfl)) (fun _ _ _ h => h) (Or.inl ⟨by rfl, ?_⟩) hHeld ?_ ?_
          rotate_left
          · rintro w' ⟨s0, s1⟩
            go_simp
            with_reducible rfl
          rotate_left
          · simp only [Act.put, List.setIfInBounds_toArray, List.set_cons_zero, List.set_cons_succ, i64_w, i32_w]
            rfl
          refine pure_ (i := 3) (N := some 29) (v := ?_) (a' := ?_) #[true, true, true, true, true, true, false, false, false, false] rfl rfl (any_of HT_.out (by kernel_rfl)) (fun _ _ _ h => h) (Or.inl ⟨by rfl, ?_⟩) ?_ ?_
          rotate_left
          · intro w'
            go_simp
            with_reducible rfl
          rotate_left
          · simp only [Act.put, List.setIfInBounds_toArray, List.set_cons_zero, List.set_cons_succ, i64_w, i32_w]
            rfl
          refine pure_ (i := 8) (N := some 7) (v := ?_) (a' := ?_) #[true, true, true, true, true, true, false, false, true, false] rfl rfl (any_of HT_.out (by kernel_rfl)) (fun _ _ _ h => h) (Or.inl ⟨by rfl, ?_⟩) ?_ ?_
          rotate_left
          · intro w'
            go_simp
            with_reducible rfl
          rotate_left
          · simp only [Act.put, List.setIfInBounds_toArray, List.set_cons_zero, List.set_cons_succ, i64_w, i32_w]
            rfl
          refine take_ (i := 6) (N := some 32) (v := ?_) (a' := ?_) #[true, true, true, true, true, true, true, false, true, false] rfl rfl (take_ofW HT_.out HW_.out (by kernel_rfl)) (fun _ _ _ h => h) (Or.inl ⟨by rfl, ?_⟩) hHeld ?_ ?_
          rotate_left
          · rintro w' ⟨s0, s1⟩
            go_simp
            with_reducible rfl
          rotate_left
          · simp only [Act.put, List.setIfInBounds_toArray, List.set_cons_zero, List.set_cons_succ, i64_w, i32_w]
            rfl
          refine pure_ (i := 7) (N := some 33) (v := ?_) (a' := ?_) #[true, true, true, true, true, true, true, true, true, false] rfl rfl (any_of HT_.out (by kernel_rfl)) (fun _ _ _ h => h) (Or.inl ⟨by rfl, ?_⟩) ?_ ?_
          rotate_left
          · intro w'
            go_simp
            with_reducible rfl
          rotate_left
          · simp only [Act.put, List.setIfInBounds_toArray, List.set_cons_zero, List.set_cons_succ, i64_w, i32_w]
            rfl
          refine pure_ (i := 9) (N := some 8) (v := ?_) (a' := ?_) #[true, true, true, true, true, true, true, true, true, true] rfl rfl (any_of HT_.out (by kernel_rfl)) (fun _ _ _ h => h) (Or.inl ⟨by rfl, ?_⟩) ?_ ?_
          rotate_left
          · intro w'
            go_simp
            with_reducible rfl
          rotate_left
          · simp only [Act.put, List.setIfInBounds_toArray, List.set_cons_zero, List.set_cons_succ, i64_w, i32_w]
            rfl
          refine done_ (done_of HT_.out (by kernel_rfl)) ?_
          obtain ⟨i014, hi014, _, hsz14, _⟩ := info_parts info5
          obtain ⟨A14, hcut14, hA14, hC14⟩ := print_drop_of (P := Try.prog) (Value.int .u8) 0 50 5 .i64 Try.underlying50 hi014 hsz14 (some ad562) c0 l0 10 (by omega) (of_decide_eq_true (by first | (with_reducible assumption) | assumption)) HC0.out
          have HR564 := Aside0.mk (Kd.C_of_reads (h1 := fun _ => rfl) (hA14 _ (Kd.reads_of_C HR0.out)))
          have HC564 := Aside0.mk hC14
          clear hA14 hC14 hi014 hsz14
          go_upto_region 6 with (first | ((with_reducible refine gate_callee (f := 105) rfl ?_); refine goesL_ (some 40) rfl rfl Try.func105 (by kernel_rfl) rfl #[.slice A14 (l0.drop 10).length (c0 - 10), .int .i64 2, .int .i64 (wrap64 ((wrap64 (rd l0 8)) * (wrap64 (rd l0 9))))] rfl (by (try simp only [List.map_toArray, List.map_cons, List.map_nil]); first | done | (rw [show (l0.drop 10).length = (l0.length - 10) from List.length_drop] <;> rfl) | rfl | (simp only [List.length_drop, List.length_take]; rfl)) ?_; (with_reducible refine (pack_Take.calls k (fun k_ => k_ < w.heap.size) _ _ (l0.drop 10) 2 (wrap64 ((wrap64 (rd l0 8)) * (wrap64 (rd l0 9)))) t565 t568 t571 _ ?side1 A9.out).mono ?_); (case side1 => exact Kd.V_mk HC564.out (Kd.F_below (Kd.C_F (Kd.heap_int .u8) HR564.out) (by repeat (first | (with_reducible first | exact HB.out | apply below_alloc | apply pw_below_drewN | apply below_drew1 | refine below_set ?_ GE554.out) | exact HB.out)))); rintro e w15 ⟨v566, v569, rfl, ho0, ho1, hb⟩; refine ⟨_, rfl, ?_⟩; have n0_ := Aside0.mk (Kd.R_elder' (by (with_reducible repeat (first | apply Kd.R_alloc | apply Kd.R_drewN | apply Kd.R_drew)); exact HO557.out) (Kd.R_base ho0) hb); have n1_ := Aside0.mk (Kd.R_elder' (by (with_reducible repeat (first | apply Kd.R_alloc | apply Kd.R_drewN | apply Kd.R_drew)); exact HO560.out) (Kd.R_base ho1) hb); have n2_ := Aside0.mk (Kd.R_lower (Kd.R_new' (Kd.R_mono (ok' := fun k_ => True) ho0 (fun _ hk_ => trivial)) (Kd.R_lt (by (with_reducible repeat (first | apply Kd.R_alloc | apply Kd.R_drewN | apply Kd.R_drew)); exact HO557.out))) (below_size (by repeat (first | (with_reducible first | exact HB.out | apply below_alloc | apply pw_below_drewN | apply below_drew1 | refine below_set ?_ GE554.out) | exact HB.out)))); have n3_ := Aside0.mk (Kd.R_lower (Kd.R_new' (Kd.R_mono (ok' := fun k_ => True) ho1 (fun _ hk_ => trivial)) (Kd.R_lt (by (with_reducible repeat (first | apply Kd.R_alloc | apply Kd.R_drewN | apply Kd.R_drew)); exact HO560.out))) (below_size (by repeat (first | (with_reducible first | exact HB.out | apply below_alloc | apply pw_below_drewN | apply below_drew1 | refine below_set ?_ GE554.out) | exact HB.out)))); have n4_ := Aside0.mk (blk_below (g := gb554) (o := .cells #[.int .i64 0, .slice none 0 0] 49 (0, 0)) (by (with_reducible repeat (first | refine blk_drewN ?_ _ | refine blk_drew ?_ | refine blk_alloc ?_ _)); exact BK554.out) hb); have n5_ := Aside0.mk (below_step (by repeat (first | (with_reducible first | exact HB.out | apply below_alloc | apply pw_below_drewN | apply below_drew1 | refine below_set ?_ GE554.out) | exact HB.out)) hb); clear HO557; clear HO560; clear BK554; clear HB; have HO557 := n0_; have HO560 := n1_; have HO567 := n2_; have HO570 := n3_; have BK554 := n4_; have HB := n5_; clear n0_ n1_ n2_ n3_ n4_ n5_; (try clear hb); (try clear hb2); (try clear hk); (try clear hi); (try clear ho0); (try clear ho1)))
          (try simp only [Act.put, List.setIfInBounds_toArray, List.set_cons_zero, List.set_cons_succ])
          go_cut [54] (fun v54 wc => ∃ (kq : Nat) (x54_9 : Bool), v54 = .bool x54_9 ∧ Aside0 (book_From.j0 kq t555 (wrap64 (rd l0 8)) (wrap64 (rd l0 9)) t565 x54_9 = some (r1, r2, r3)) ∧ Aside0 (kq ≤ k) ∧ Aside0 (Kd.R (Kd.int .i64) 2 wc w.heap.size (fun k_ => some k_ ≠ (v566 : Value).ownBlock) v556 t555) ∧ Aside0 (Kd.R (Kd.int .i64) 2 wc w.heap.size (fun k_ => some k_ ≠ (v556 : Value).ownBlock) v566 t565) ∧ Aside0 (wc.heap[gb554]? = some (.cells #[.int .i64 0, (.slice none 0 0)] 49 (0, 0))) ∧ Aside0 (Below w.heap.size w wc))
          case first =>
            have H := HC10.out
            clear HC10
            by_cases c16 : t561 = 0
            · rw [if_pos c16] at H
              have c16b0 : (t561 == 0) = true := beq_iff_eq.mpr c16
              have c16b1 : (t561 != 0) = false := bne_eq_false_iff_eq.mpr c16
              clear c16
              (first | rw [c16b0] | (simp only [i64_w, i32_w]; rw [c16b0]) | skip)
              by_cases c17 : t571 = 0
              · rw [if_pos c17] at H
                have c17b0 : (t571 == 0) = true := beq_iff_eq.mpr c17
                have c17b1 : (t571 != 0) = false := bne_eq_false_iff_eq.mpr c17
                clear c17
                have H' := Aside0.mk H
                clear H
                obtain ⟨Ao18, co18, eo18⟩ := Kd.R_slice HO570.out
                subst eo18
                go_wp2
                go_meet
                case rel => exact ⟨_, (decide ((t568.length : Int) > 0)), (by first | rfl | (simp; done) | (simp [*]; done)), (by first | exact H' | (rw [hji22]; exact H') | (rw [hji38]; exact H') | (rw [hji45]; exact H')), ⟨by first | omega | exact Nat.le_refl _⟩, ⟨by (with_reducible repeat (first | apply Kd.R_alloc | apply Kd.R_drewN | apply Kd.R_drew)); exact Kd.R_mono HO557.out (fun _ hk => hk.2)⟩, ⟨by (with_reducible repeat (first | apply Kd.R_alloc | apply Kd.R_drewN | apply Kd.R_drew)); exact Kd.R_mono HO567.out (fun _ hk => hk.2)⟩, ⟨by (with_reducible repeat (first | refine blk_drewN ?_ _ | refine blk_drew ?_ | refine blk_alloc ?_ _)); exact BK554.out⟩, ⟨by repeat (first | (with_reducible first | exact HB.out | apply below_alloc | apply pw_below_drewN | apply below_drew1 | refine below_set ?_ GE554.out) | exact HB.out)⟩⟩
              · rw [if_neg c17] at H
                have c17b0 : (t571 == 0) = false := beq_eq_false_iff_ne.mpr c17
                have c17b1 : (t571 != 0) = true := bne_iff_ne.mpr c17
                have H' := Aside0.mk H
                clear H
                go_wp2
                go_meet
                case rel => exact ⟨_, (true), (by first | rfl | (simp; done) | (simp [*]; done)), (by first | exact H' | (rw [hji22]; exact H') | (rw [hji38]; exact H') | (rw [hji45]; exact H')), ⟨by first | omega | exact Nat.le_refl _⟩, ⟨by (with_reducible repeat (first | apply Kd.R_alloc | apply Kd.R_drewN | apply Kd.R_drew)); exact Kd.R_mono HO557.out (fun _ hk => hk.2)⟩, ⟨by (with_reducible repeat (first | apply Kd.R_alloc | apply Kd.R_drewN | apply Kd.R_drew)); exact Kd.R_mono HO567.out (fun _ hk => hk.2)⟩, ⟨by (with_reducible repeat (first | refine blk_drewN ?_ _ | refine blk_drew ?_ | refine blk_alloc ?_ _)); exact BK554.out⟩, ⟨by repeat (first | (with_reducible first | exact HB.out | apply below_alloc | apply pw_below_drewN | apply below_drew1 | refine below_set ?_ GE554.out) | exact HB.out)⟩⟩
            · rw [if_neg c16] at H
              have c16b0 : (t561 == 0) = false := beq_eq_false_iff_ne.mpr c16
              have c16b1 : (t561 != 0) = true := bne_iff_ne.mpr c16
              (first | rw [c16b0] | (simp only [i64_w, i32_w]; rw [c16b0]) | skip)
              have H' := Aside0.mk H
              clear H
              go_wp2
              go_meet
              case rel => exact ⟨_, (true), (by first | rfl | (simp; done) | (simp [*]; done)), (by first | exact H' | (rw [hji22]; exact H') | (rw [hji38]; exact H') | (rw [hji45]; exact H')), ⟨by first | omega | exact Nat.le_refl _⟩, ⟨by (with_reducible repeat (first | apply Kd.R_alloc | apply Kd.R_drewN | apply Kd.R_drew)); exact Kd.R_mono HO557.out (fun _ hk => hk.2)⟩, ⟨by (with_reducible repeat (first | apply Kd.R_alloc | apply Kd.R_drewN | apply Kd.R_drew)); exact Kd.R_mono HO567.out (fun _ hk => hk.2)⟩, ⟨by (with_reducible repeat (first | refine blk_drewN ?_ _ | refine blk_drew ?_ | refine blk_alloc ?_ _)); exact BK554.out⟩, ⟨by repeat (first | (with_reducible first | exact HB.out | apply below_alloc | apply pw_below_drewN | apply below_drew1 | refine below_set ?_ GE554.out) | exact HB.out)⟩⟩
          case rest =>
            clear HC10
            try clear c1
            try clear c2
            try clear c2b0
            try clear c2b1
            try clear p2
            try clear c3
            try clear p5
            try clear q5
            try clear hx5
            try clear qi5
            try clear c6
            try clear c6b0
            try clear c6b1
            try clear p6
            try clear c7
            try clear c7b0
            try clear c7b1
            try clear c8
            try clear c8b0
            try clear c8b1
            try clear c10
            try clear c16
            try clear c16b0
            try clear c16b1
            try clear c17
            try clear c17b0
            try clear c17b1
            try clear hcz4_0
            try clear hcz4_1
            try clear hfz4_0
            try clear hfz4_1
            try clear hx562_0
            try clear hx563_0
            try clear p562
            try clear p563
            try clear q562
            try clear q563
            obtain ⟨kq, x54_9, rfl, HA, HJ9, HO_4, HO_9, BK554, HB⟩ := hcut
            cases kq with
            | zero => exact absurd HA.out (by simp [book_From.j0])
            | succ kj9 =>
              have H := HA.out
              clear HA
              simp only [book_From.j0] at H
              by_cases c19 : x54_9 = true
              · subst c19
                have H1 : (some (0, ([] : List (List Int)), 2)) = some (r1, r2, r3) := by first | (rw [if_pos rfl] at H; exact H) | (rw [if_pos trivial] at H; exact H)
                clear H
                have H := H1
                clear H1
                simp only [Option.some.injEq, Prod.mk.injEq] at H
                obtain ⟨rfl, rfl, rfl⟩ := H
                have hcz20_0 : wc.cell? ⟨gb554, 0, none⟩ = some (.int .i64 0) := (blk_cell BK554.out 0).trans rfl
                have hcz20_1 : wc.cell? ⟨gb554, 1, none⟩ = some (.slice none 0 0) := (blk_cell BK554.out 1).trans rfl
                have hfz20_0 := blk_frozen BK554.out 0
                have hfz20_1 := blk_frozen BK554.out 1
                go_wp2
                refine bodyPost_ret (results_ct rfl _ _ gb554 49 #[.int .i64 0, .slice none 0 0] (0, 0) _ rfl (by (with_reducible repeat (first | refine blk_drewN ?_ _ | refine blk_drew ?_ | refine blk_alloc ?_ _)); refine blk_put (cs := #[.int .i64 0, .slice none 0 0]) ?_ 1 _ rfl; (with_reducible repeat (first | refine blk_drewN ?_ _ | refine blk_drew ?_ | refine blk_alloc ?_ _)); refine blk_put (cs := #[.int .i64 0, .slice none 0 0]) ?_ 0 _ rfl; (with_reducible repeat (first | refine blk_drewN ?_ _ | refine blk_drew ?_ | refine blk_alloc ?_ _)); exact BK554.out) Try.underlying49 rfl (by kernel_rfl)) rfl ?_
                exact ⟨_, by first | rfl | (simp [errW_none, errW_some] <;> rfl) | (simp [*, errW_none, errW_some] <;> rfl), by first | exact Kd.S_nil _ _ _ _ _ | exact Kd.N_nil _ _ _ _ _ | exact Kd.V_nil _ _ _ _ _ | exact Kd.Q_nil _ _ _ _ _ | exact Kd.R_nil _ _ _ _ _, by repeat (first | (with_reducible first | exact HB.out | apply below_alloc | apply pw_below_drewN | apply below_drew1 | refine below_set ?_ GE554.out) | exact HB.out)⟩
              · replace c19 := Bool.eq_false_iff.mpr c19
                subst c19
                have H1 : (if 0 < (t555.length : Int) then (if 0 ≤ (wrap64 (rd l0 8)) then (if ((wrap64 (rd l0 8)) : Int).toNat ≤ 11728124029610 then ((some (List.replicate ((wrap64 (rd l0 8)) : Int).toNat [] : List (List Int))).bind fun y573 => (book_From.l0 kj9 (wrap64 (rd l0 9)) t565 (y573.length : Int) 0 (rd t555 0) y573)) else (none)) else (none)) else (none)) = some (r1, r2, r3) := by rw [if_neg (show ¬ (false = true) by decide)] at H; exact H
                clear H
                have H := H1
                clear H1
                by_cases c21 : 0 < (t555.length : Int)
                · rw [if_pos c21] at H
                  have c21b0 : decide (0 < (t555.length : Int)) = true := decide_eq_true c21
                  have c21b1 : decide (0 < t555.length) = true := decide_eq_true (by omega)
                  clear c21
                  obtain ⟨ji22, hji22⟩ : ∃ j_ : Int, (wrap64 (rd l0 8)) = j_ := ⟨_, rfl⟩
                  replace H : (if 0 ≤ (ji22) then (if ((ji22) : Int).toNat ≤ 11728124029610 then ((some (List.replicate ((ji22) : Int).toNat [] : List (List Int))).bind fun y573 => (book_From.l0 kj9 (wrap64 (rd l0 9)) t565 (y573.length : Int) 0 (rd t555 0) y573)) else (none)) else (none)) = some (r1, r2, r3) := by first | (rw [hji22] at H; exact H) | (simp only [hji22] at H ⊢; exact H)
                  have hji22w : (IntKind.i64.wrap (rd l0 8)) = ji22 := (i64_w _).trans hji22
                  by_cases c23 : 0 ≤ (ji22)
                  · rw [if_pos c23] at H
                    have c23b0 := eq_true c23
                    have c23b1 : decide (0 ≤ (ji22)) = true := decide_eq_true c23
                    clear c23
                    by_cases c24 : ((ji22) : Int).toNat ≤ 11728124029610
                    · rw [if_pos c24] at H
                      have c24b0 := eq_true c24
                      have c24b1 : decide (((ji22) : Int).toNat ≤ 11728124029610) = true := decide_eq_true c24
                      clear c24
                      obtain ⟨y573, hy573⟩ : ∃ y_ : List (List Int), y_ = (List.replicate ((ji22) : Int).toNat []) := ⟨_, rfl⟩
                      replace H : (book_From.l0 kj9 (wrap64 (rd l0 9)) t565 (y573.length : Int) 0 (rd t555 0) y573) = some (r1, r2, r3) := by first | (rw [hy573]; with_reducible exact H) | (have H2_ := (Option.bind_some _ _).symm.trans H; rw [hy573]; with_reducible exact H2_) | (have H2_ := (Option.bind_some _ _).symm.trans H; with_reducible exact H2_) | with_reducible exact H | (rw [hy573]; exact H) | exact H
                      have Ny573 := Aside0.mk hy573
                      clear hy573
                      have H' := Aside0.mk H
                      clear H
                      try go_wp2
                      have n0_ := Aside0.mk (Kd.R_drew HO_4.out)
                      have n1_ := Aside0.mk (Kd.R_drew HO_9.out)
                      have n2_ := Aside0.mk (blk_drew BK554.out)
                      have n3_ := Aside0.mk (below_drew1 HB.out)
                      clear HO_4
                      clear HO_9
                      clear BK554
                      clear HB
                      have HO_4 := n0_
                      have HO_9 := n1_
                      have BK554 := n2_
                      have HB := n3_
                      clear n0_ n1_ n2_ n3_
                      obtain ⟨Ao26, co26, eo26⟩ := Kd.R_slice HO_4.out
                      (first | subst eo26 | (injection eo26 with f1_ f2_ f3_; have f4_ := f1_.symm; have f5_ := f3_.symm; clear f1_ f2_ f3_; subst f4_; subst f5_))
                      have p572 : 0 ≤ (0 : Int) := (by omega)
                      have q572 : 0 < (t555.length : Int) := of_decide_eq_true (by first | (with_reducible assumption) | assumption)
                      obtain ⟨ad572, e572, hx572_0⟩ := Kd.at_int (Kd.R_reads' HO_4.out).2.2 0 p572 q572
                      cases e572
                      have qi572 : (0 < t555.length) = True := eq_true (by omega)
                      (try rw [show ((0 : Int)).toNat = 0 from rfl] at hx572_0)
                      (try rw [Addr.add_zero'] at hx572_0)
                      replace p572 := eq_true p572
                      replace q572 := eq_true q572
                      refine start_ (n := 8) (S := fun w' => w'.cell? ad572 = some (.int .i64 (rd t555 0))) (ds := []) #[false, false, false, false, false, false, false, false] (by kernel_rfl) rfl rfl (hx572_0) (fun hHeld => ?_); refine with_tabW book_From.tab8 book_From.bits8 (fun HT_ HW_ => ?_)
                      generalize wc.drew = w25 at HO_4 HO_9 BK554 HB hx572_0 hHeld ⊢
                      refine pure_ (i := 0) (N := some 56) (v := ?_) (a' := ?_) #[true, false, false, false, false, false, false, false] rfl rfl (any_of HT_.out (by kernel_rfl)) (fun _ _ _ h => h) (Or.inl ⟨by rfl, ?_⟩) ?_ ?_
                      rotate_left
                      · intro w'
                        go_simp
                        with_reducible rfl
                      rotate_left
                      · simp only [Act.put, List.setIfInBounds_toArray, List.set_cons_zero, List.set_cons_succ, i64_w, i32_w]
                        rfl
                      refine pure_ (i := 1) (N := some 57) (v := ?_) (a' := ?_) #[true, true, false, false, false, false, false, false] rfl rfl (any_of HT_.out (by kernel_rfl)) (fun _ _ _ h => h) (Or.inl ⟨by rfl, ?_⟩) ?_ ?_
                      rotate_left
                      · intro w'
                        go_simp
                        with_reducible rfl
                      rotate_left
                      · simp only [Act.put, List.setIfInBounds_toArray, List.set_cons_zero, List.set_cons_succ, i64_w, i32_w]
                        rfl
                      refine pure_ (i := 3) (N := some 59) (v := ?_) (a' := ?_) #[true, true, false, true, false, false, false, false] rfl rfl (any_of HT_.out (by kernel_rfl)) (fun _ _ _ h => h) (Or.inl ⟨by rfl, ?_⟩) ?_ ?_
                      rotate_left
                      · intro w'
                        go_simp
                        with_reducible rfl
                      rotate_left
                      · simp only [Act.put, List.setIfInBounds_toArray, List.set_cons_zero, List.set_cons_succ, i64_w, i32_w]
                        rfl
                      refine take_ (i := 2) (N := some 58) (v := ?_) (a' := ?_) #[true, true, true, true, false, false, false, false] rfl rfl (take_ofW HT_.out HW_.out (by kernel_rfl)) (fun _ _ _ h => h) (Or.inl ⟨by rfl, ?_⟩) hHeld ?_ ?_
                      rotate_left
                      · intro w' s0
                        go_simp
                        with_reducible rfl
                      rotate_left
                      · simp only [Act.put, List.setIfInBounds_toArray, List.set_cons_zero, List.set_cons_succ, i64_w, i32_w]
                        rfl
                      refine join_ (σ := Value × Nat) 1 #[true, true, true, true, true, true, true, false] (fun s_ => [(60, s_.1), (12, .pointer (some ⟨s_.2, 0, none⟩)), (61, .agg #[.int .i64 (rd t555 0), s_.1])]) (fun s_ w' => (w'.cell? ad572 = some (.int .i64 (rd t555 0))) ∧ (Kd.S (Kd.slice 74 (Kd.int .i16)) 26 w' w.heap.size (fun _ => True) s_.1 y573) ∧ (Kd.R (Kd.int .i64) 2 w' w.heap.size (fun k_ => some k_ ≠ (v566 : Value).ownBlock) (.slice (some ad572) t555.length co26) t555) ∧ (Kd.R (Kd.int .i64) 2 w' w.heap.size (fun k_ => some k_ ≠ (.slice (some ad572) t555.length co26 : Value).ownBlock) v566 t565) ∧ (w'.heap[gb554]? = some (.cells #[.int .i64 0, .slice none 0 0] 49 (0, 0))) ∧ (w'.heap[s_.2]? = some (.cells #[.int .i64 0, .slice none 0 0] 49 (0, 0))) ∧ (w.heap.size ≤ s_.2) ∧ (w.heap.size ≤ s_.2) ∧ (gb554 ≠ s_.2) ∧ (s_.2 ≠ gb554) ∧ (Below w.heap.size w w')) ?_ ?_
                      rotate_left
                      · intro hCont
                        refine two_ (i := 4) (j := 6) (Ni := some 60) (Nj := some 12) #[true, true, true, true, true, false, false, false] #[true, true, true, true, false, false, true, false] rfl rfl rfl rfl (two_of HT_.out (by kernel_rfl)) (by decide) (by decide) (fun K hK => ?_) (fun K hK => ?_)
                        · skip
                          refine Kd.S_make_step (Kd.slice 74 (Kd.int .i16)) _ 26 (by rfl) (N := 60) rfl 47 _ _ rfl (ji22) (by first | rfl | (rw [← hji22]; rfl)) (by first | rfl | (rw [← hji22]; rfl)) Try.underlying47 (.slice none 0 0) 24 info26 rfl (by decide) (by omega) [] (ok := fun _ => True) (okp := fun _ => True) ⟨_, rfl, Kd.R_nil _ _ _ _ _⟩ (fun _ hk => hk) trivial (of_decide_eq_true (by first | (with_reducible assumption) | assumption)) (Nat.le_trans (Nat.mul_le_mul_right _ (of_decide_eq_true (by first | (with_reducible assumption) | assumption) : (ji22).toNat ≤ 11728124029610)) (by omega)) (Below.refl _ _) (Nat.le_refl _) ?_
                          intro v574 w27 ho28 hb hg_ hnew_
                          have HS0_ := (hb.cell (World.block_lt_of_cell? _ _ (hHeld))).trans (hHeld)
                          clear hg_ hnew_
                          (first | rw [← Ny573.out] at ho28 | (simp only [Int.reduceToNat] at ho28; rw [← Ny573.out] at ho28))
                          have n0_ := Aside0.mk (Kd.R_below (by (with_reducible repeat (first | apply Kd.R_alloc | apply Kd.R_drewN | apply Kd.R_drew)); exact HO_4.out) hb)
                          have n1_ := Aside0.mk (Kd.R_below (by (with_reducible repeat (first | apply Kd.R_alloc | apply Kd.R_drewN | apply Kd.R_drew)); exact HO_9.out) hb)
                          have n2_ := Aside0.mk (Kd.S_lower ho28 (below_size (by repeat (first | (with_reducible first | exact HB.out | apply below_alloc | apply pw_below_drewN | apply below_drew1 | refine below_set ?_ GE554.out) | exact HB.out))))
                          have n3_ := Aside0.mk (blk_below (g := gb554) (o := .cells #[.int .i64 0, .slice none 0 0] 49 (0, 0)) (by (with_reducible repeat (first | refine blk_drewN ?_ _ | refine blk_drew ?_ | refine blk_alloc ?_ _)); exact BK554.out) hb)
                          have n4_ := Aside0.mk (below_step (by repeat (first | (with_reducible first | exact HB.out | apply below_alloc | apply pw_below_drewN | apply below_drew1 | refine below_set ?_ GE554.out) | exact HB.out)) hb)
                          clear HO_4
                          clear HO_9
                          clear BK554
                          clear HB
                          have HO_4 := n0_
                          have HO_9 := n1_
                          have HO575 := n2_
                          have BK554 := n3_
                          have HB := n4_
                          clear n0_ n1_ n2_ n3_ n4_
                          clear hb ho28
                          obtain ⟨Ao29, co29, eo29⟩ := Kd.S_slice HO575.out
                          (first | subst eo29 | (injection eo29 with f1_ f2_ f3_; have f4_ := f1_.symm; have f5_ := f3_.symm; clear f1_ f2_ f3_; subst f4_; subst f5_))
                          refine hK.out _ _ (HS0_) (fun hHeld => ?_)
                          clear hK K
                          refine norm_ (a' := ?_) ?_ ?_
                          rotate_left
                          · show Act.put _ (some 60) _ = _
                            simp only [Act.put, List.setIfInBounds_toArray, List.set_cons_zero, List.set_cons_succ, i64_w, i32_w]
                            rfl
                          refine pure_ (i := 5) (N := some 61) (v := ?_) (a' := ?_) #[true, true, true, true, true, true, false, false] rfl rfl (any_of HT_.out (by kernel_rfl)) (fun _ _ _ h => h) (Or.inl ⟨by rfl, ?_⟩) ?_ ?_
                          rotate_left
                          · intro w'
                            go_simp
                            with_reducible rfl
                          rotate_left
                          · simp only [Act.put, List.setIfInBounds_toArray, List.set_cons_zero, List.set_cons_succ, i64_w, i32_w]
                            rfl
                          refine one_ (i := 6) (N := some 12) #[true, true, true, true, true, true, true, false] rfl rfl (one_of HT_.out (by kernel_rfl)) (by decide) (fun K hK => ?_)
                          refine box_step ?hg (N := 12) ?hd (cs := #[.int .i64 0, .slice none 0 0]) (t := 49) ?hr ?_; (case hd => rfl); (case hg => rfl); (case hr => first | (go_simp; done) | (go_simp; rfl))
                          intro gb576 hg w30 hbox hb
                          have HS0_ := (hb.cell (World.block_lt_of_cell? _ _ (hHeld))).trans (hHeld)
                          have n0_ := Aside0.mk (Kd.R_below (by (with_reducible repeat (first | apply Kd.R_alloc | apply Kd.R_drewN | apply Kd.R_drew)); exact HO_4.out) hb)
                          have n1_ := Aside0.mk (Kd.R_below (by (with_reducible repeat (first | apply Kd.R_alloc | apply Kd.R_drewN | apply Kd.R_drew)); exact HO_9.out) hb)
                          have n2_ := Aside0.mk (Kd.S_below (by (with_reducible repeat (first | apply Kd.S_alloc | apply Kd.S_drewN | apply Kd.S_drew)); exact HO575.out) hb)
                          have n3_ := Aside0.mk (blk_below (g := gb554) (o := .cells #[.int .i64 0, .slice none 0 0] 49 (0, 0)) (by (with_reducible repeat (first | refine blk_drewN ?_ _ | refine blk_drew ?_ | refine blk_alloc ?_ _)); exact BK554.out) hb)
                          have n4_ := Aside0.mk (below_step (by repeat (first | (with_reducible first | exact HB.out | apply below_alloc | apply pw_below_drewN | apply below_drew1 | refine below_set ?_ GE554.out) | exact HB.out)) hb)
                          have n5_ := Aside0.mk (hbox)
                          have n6_ := Aside0.mk ((by rw [hg]; exact (below_size (by repeat (first | (with_reducible first | exact HB.out | apply below_alloc | apply pw_below_drewN | apply below_drew1 | refine below_set ?_ GE554.out) | exact HB.out))) : w.heap.size ≤ gb576))
                          have n7_ := Aside0.mk ((by rw [hg]; exact (below_size (by repeat (first | (with_reducible first | exact HB.out | apply below_alloc | apply pw_below_drewN | apply below_drew1 | refine below_set ?_ GE554.out) | exact HB.out))) : w.heap.size ≤ gb576))
                          have n8_ := Aside0.mk ((by rw [hg]; exact Nat.ne_of_lt (blk_lt (g := gb554) (o := .cells #[.int .i64 0, .slice none 0 0] 49 (0, 0)) (by (with_reducible repeat (first | refine blk_drewN ?_ _ | refine blk_drew ?_ | refine blk_alloc ?_ _)); exact BK554.out)) : gb554 ≠ gb576))
                          have n9_ := Aside0.mk ((by rw [hg]; exact Nat.ne_of_gt (blk_lt (g := gb554) (o := .cells #[.int .i64 0, .slice none 0 0] 49 (0, 0)) (by (with_reducible repeat (first | refine blk_drewN ?_ _ | refine blk_drew ?_ | refine blk_alloc ?_ _)); exact BK554.out)) : gb576 ≠ gb554))
                          clear HO_4
                          clear HO_9
                          clear HO575
                          clear BK554
                          clear HB
                          have HO_4 := n0_
                          have HO_9 := n1_
                          have HO575 := n2_
                          have BK554 := n3_
                          have HB := n4_
                          have BK576 := n5_
                          have GW576 := n6_
                          have GE576 := n7_
                          have NB554_576 := n8_
                          have NB576_554 := n9_
                          clear n0_ n1_ n2_ n3_ n4_ n5_ n6_ n7_ n8_ n9_
                          clear hb hbox hg
                          refine hK.out _ _ (HS0_) (fun hHeld => ?_)
                          clear hK K
                          refine norm_ (a' := ?_) ?_ ?_
                          rotate_left
                          · show Act.put _ (some 12) _ = _
                            simp only [Act.put, List.setIfInBounds_toArray, List.set_cons_zero, List.set_cons_succ, i64_w, i32_w]
                            rfl
                          exact norm_ (by simp only [putAll, Act.put, List.setIfInBounds_toArray, List.set_cons_zero, List.set_cons_succ]) (hCont (.slice Ao29 y573.length co29, gb576) _ ⟨hHeld, (by (with_reducible repeat (first | apply Kd.S_alloc | apply Kd.S_drewN | apply Kd.S_drew)); exact HO575.out), (by (with_reducible repeat (first | apply Kd.R_alloc | apply Kd.R_drewN | apply Kd.R_drew)); exact HO_4.out), (by (with_reducible repeat (first | apply Kd.R_alloc | apply Kd.R_drewN | apply Kd.R_drew)); exact HO_9.out), (by (with_reducible repeat (first | refine blk_drewN ?_ _ | refine blk_drew ?_ | refine blk_alloc ?_ _)); exact BK554.out), (by (with_reducible repeat (first | refine blk_drewN ?_ _ | refine blk_drew ?_ | refine blk_alloc ?_ _)); exact BK576.out), GW576.out, GE576.out, NB554_576.out, NB576_554.out, (by repeat (first | (with_reducible first | exact HB.out | apply below_alloc | apply pw_below_drewN | apply below_drew1 | refine below_set ?_ GE554.out | refine below_set ?_ GE576.out) | exact HB.out))⟩)
                        · skip
                          refine box_step ?hg (N := 12) ?hd (cs := #[.int .i64 0, .slice none 0 0]) (t := 49) ?hr ?_; (case hd => rfl); (case hg => rfl); (case hr => first | (go_simp; done) | (go_simp; rfl))
                          intro gb576 hg w27 hbox hb
                          have HS0_ := (hb.cell (World.block_lt_of_cell? _ _ (hHeld))).trans (hHeld)
                          have n0_ := Aside0.mk (Kd.R_below (by (with_reducible repeat (first | apply Kd.R_alloc | apply Kd.R_drewN | apply Kd.R_drew)); exact HO_4.out) hb)
                          have n1_ := Aside0.mk (Kd.R_below (by (with_reducible repeat (first | apply Kd.R_alloc | apply Kd.R_drewN | apply Kd.R_drew)); exact HO_9.out) hb)
                          have n2_ := Aside0.mk (blk_below (g := gb554) (o := .cells #[.int .i64 0, .slice none 0 0] 49 (0, 0)) (by (with_reducible repeat (first | refine blk_drewN ?_ _ | refine blk_drew ?_ | refine blk_alloc ?_ _)); exact BK554.out) hb)
                          have n3_ := Aside0.mk (below_step (by repeat (first | (with_reducible first | exact HB.out | apply below_alloc | apply pw_below_drewN | apply below_drew1 | refine below_set ?_ GE554.out) | exact HB.out)) hb)
                          have n4_ := Aside0.mk (hbox)
                          have n5_ := Aside0.mk ((by rw [hg]; exact (below_size (by repeat (first | (with_reducible first | exact HB.out | apply below_alloc | apply pw_below_drewN | apply below_drew1 | refine below_set ?_ GE554.out) | exact HB.out))) : w.heap.size ≤ gb576))
                          have n6_ := Aside0.mk ((by rw [hg]; exact (below_size (by repeat (first | (with_reducible first | exact HB.out | apply below_alloc | apply pw_below_drewN | apply below_drew1 | refine below_set ?_ GE554.out) | exact HB.out))) : w.heap.size ≤ gb576))
                          have n7_ := Aside0.mk ((by rw [hg]; exact Nat.ne_of_lt (blk_lt (g := gb554) (o := .cells #[.int .i64 0, .slice none 0 0] 49 (0, 0)) (by (with_reducible repeat (first | refine blk_drewN ?_ _ | refine blk_drew ?_ | refine blk_alloc ?_ _)); exact BK554.out)) : gb554 ≠ gb576))
                          have n8_ := Aside0.mk ((by rw [hg]; exact Nat.ne_of_gt (blk_lt (g := gb554) (o := .cells #[.int .i64 0, .slice none 0 0] 49 (0, 0)) (by (with_reducible repeat (first | refine blk_drewN ?_ _ | refine blk_drew ?_ | refine blk_alloc ?_ _)); exact BK554.out)) : gb576 ≠ gb554))
                          clear HO_4
                          clear HO_9
                          clear BK554
                          clear HB
                          have HO_4 := n0_
                          have HO_9 := n1_
                          have BK554 := n2_
                          have HB := n3_
                          have BK576 := n4_
                          have GW576 := n5_
                          have GE576 := n6_
                          have NB554_576 := n7_
                          have NB576_554 := n8_
                          clear n0_ n1_ n2_ n3_ n4_ n5_ n6_ n7_ n8_
                          clear hb hbox hg
                          refine hK.out _ _ (HS0_) (fun hHeld => ?_)
                          clear hK K
                          refine norm_ (a' := ?_) ?_ ?_
                          rotate_left
                          · show Act.put _ (some 12) _ = _
                            simp only [Act.put, List.setIfInBounds_toArray, List.set_cons_zero, List.set_cons_succ, i64_w, i32_w]
                            rfl
                          refine one_ (i := 4) (N := some 60) #[true, true, true, true, true, false, true, false] rfl rfl (one_of HT_.out (by kernel_rfl)) (by decide) (fun K hK => ?_)
                          refine Kd.S_make_step (Kd.slice 74 (Kd.int .i16)) _ 26 (by rfl) (N := 60) rfl 47 _ _ rfl (ji22) (by first | rfl | (rw [← hji22]; rfl)) (by first | rfl | (rw [← hji22]; rfl)) Try.underlying47 (.slice none 0 0) 24 info26 rfl (by decide) (by omega) [] (ok := fun _ => True) (okp := fun _ => True) ⟨_, rfl, Kd.R_nil _ _ _ _ _⟩ (fun _ hk => hk) trivial (of_decide_eq_true (by first | (with_reducible assumption) | assumption)) (Nat.le_trans (Nat.mul_le_mul_right _ (of_decide_eq_true (by first | (with_reducible assumption) | assumption) : (ji22).toNat ≤ 11728124029610)) (by omega)) (Below.refl _ _) (Nat.le_refl _) ?_
                          intro v574 w28 ho29 hb hg_ hnew_
                          have HS0_ := (hb.cell (World.block_lt_of_cell? _ _ (hHeld))).trans (hHeld)
                          clear hg_ hnew_
                          (first | rw [← Ny573.out] at ho29 | (simp only [Int.reduceToNat] at ho29; rw [← Ny573.out] at ho29))
                          have n0_ := Aside0.mk (Kd.R_below (by (with_reducible repeat (first | apply Kd.R_alloc | apply Kd.R_drewN | apply Kd.R_drew)); exact HO_4.out) hb)
                          have n1_ := Aside0.mk (Kd.R_below (by (with_reducible repeat (first | apply Kd.R_alloc | apply Kd.R_drewN | apply Kd.R_drew)); exact HO_9.out) hb)
                          have n2_ := Aside0.mk (Kd.S_lower ho29 (below_size (by repeat (first | (with_reducible first | exact HB.out | apply below_alloc | apply pw_below_drewN | apply below_drew1 | refine below_set ?_ GE554.out | refine below_set ?_ GE576.out) | exact HB.out))))
                          have n3_ := Aside0.mk (blk_below (g := gb554) (o := .cells #[.int .i64 0, .slice none 0 0] 49 (0, 0)) (by (with_reducible repeat (first | refine blk_drewN ?_ _ | refine blk_drew ?_ | refine blk_alloc ?_ _)); exact BK554.out) hb)
                          have n4_ := Aside0.mk (blk_below (g := gb576) (o := .cells #[.int .i64 0, .slice none 0 0] 49 (0, 0)) (by (with_reducible repeat (first | refine blk_drewN ?_ _ | refine blk_drew ?_ | refine blk_alloc ?_ _)); exact BK576.out) hb)
                          have n5_ := Aside0.mk (below_step (by repeat (first | (with_reducible first | exact HB.out | apply below_alloc | apply pw_below_drewN | apply below_drew1 | refine below_set ?_ GE554.out | refine below_set ?_ GE576.out) | exact HB.out)) hb)
                          clear HO_4
                          clear HO_9
                          clear BK554
                          clear BK576
                          clear HB
                          have HO_4 := n0_
                          have HO_9 := n1_
                          have HO575 := n2_
                          have BK554 := n3_
                          have BK576 := n4_
                          have HB := n5_
                          clear n0_ n1_ n2_ n3_ n4_ n5_
                          clear hb ho29
                          obtain ⟨Ao30, co30, eo30⟩ := Kd.S_slice HO575.out
                          (first | subst eo30 | (injection eo30 with f1_ f2_ f3_; have f4_ := f1_.symm; have f5_ := f3_.symm; clear f1_ f2_ f3_; subst f4_; subst f5_))
                          refine hK.out _ _ (HS0_) (fun hHeld => ?_)
                          clear hK K
                          refine norm_ (a' := ?_) ?_ ?_
                          rotate_left
                          · show Act.put _ (some 60) _ = _
                            simp only [Act.put, List.setIfInBounds_toArray, List.set_cons_zero, List.set_cons_succ, i64_w, i32_w]
                            rfl
                          refine pure_ (i := 5) (N := some 61) (v := ?_) (a' := ?_) #[true, true, true, true, true, true, true, false] rfl rfl (any_of HT_.out (by kernel_rfl)) (fun _ _ _ h => h) (Or.inl ⟨by rfl, ?_⟩) ?_ ?_
                          rotate_left
                          · intro w'
                            go_simp
                            with_reducible rfl
                          rotate_left
                          · simp only [Act.put, List.setIfInBounds_toArray, List.set_cons_zero, List.set_cons_succ, i64_w, i32_w]
                            rfl
                          exact norm_ (by simp only [putAll, Act.put, List.setIfInBounds_toArray, List.set_cons_zero, List.set_cons_succ]) (hCont (.slice Ao30 y573.length co30, gb576) _ ⟨hHeld, (by (with_reducible repeat (first | apply Kd.S_alloc | apply Kd.S_drewN | apply Kd.S_drew)); exact HO575.out), (by (with_reducible repeat (first | apply Kd.R_alloc | apply Kd.R_drewN | apply Kd.R_drew)); exact HO_4.out), (by (with_reducible repeat (first | apply Kd.R_alloc | apply Kd.R_drewN | apply Kd.R_drew)); exact HO_9.out), (by (with_reducible repeat (first | refine blk_drewN ?_ _ | refine blk_drew ?_ | refine blk_alloc ?_ _)); exact BK554.out), (by (with_reducible repeat (first | refine blk_drewN ?_ _ | refine blk_drew ?_ | refine blk_alloc ?_ _)); exact BK576.out), GW576.out, GE576.out, NB554_576.out, NB576_554.out, (by repeat (first | (with_reducible first | exact HB.out | apply below_alloc | apply pw_below_drewN | apply below_drew1 | refine below_set ?_ GE554.out | refine below_set ?_ GE576.out) | exact HB.out))⟩)
                      rintro ⟨v574, gb576⟩ w31 ⟨hS_, h0_, h1_, h2_, h3_, h4_, h5_, h6_, h7_, h8_, h9_⟩
                      have n0_ : Aside0 (Kd.S (Kd.slice 74 (Kd.int .i16)) 26 w31 w.heap.size (fun _ => True) v574 y573) := ⟨h0_⟩
                      have n1_ : Aside0 (Kd.R (Kd.int .i64) 2 w31 w.heap.size (fun k_ => some k_ ≠ (v566 : Value).ownBlock) (.slice (some ad572) t555.length co26) t555) := ⟨h1_⟩
                      have n2_ : Aside0 (Kd.R (Kd.int .i64) 2 w31 w.heap.size (fun k_ => some k_ ≠ (.slice (some ad572) t555.length co26 : Value).ownBlock) v566 t565) := ⟨h2_⟩
                      have n3_ : Aside0 (w31.heap[gb554]? = some (.cells #[.int .i64 0, .slice none 0 0] 49 (0, 0))) := ⟨h3_⟩
                      have n4_ : Aside0 (w31.heap[gb576]? = some (.cells #[.int .i64 0, .slice none 0 0] 49 (0, 0))) := ⟨h4_⟩
                      have n5_ : Aside0 (w.heap.size ≤ gb576) := ⟨h5_⟩
                      have n6_ : Aside0 (w.heap.size ≤ gb576) := ⟨h6_⟩
                      have n7_ : Aside0 (gb554 ≠ gb576) := ⟨h7_⟩
                      have n8_ : Aside0 (gb576 ≠ gb554) := ⟨h8_⟩
                      have n9_ : Aside0 (Below w.heap.size w w31) := ⟨h9_⟩
                      clear HO_4
                      clear HO_9
                      clear BK554
                      clear HB
                      clear h0_ h1_ h2_ h3_ h4_ h5_ h6_ h7_ h8_ h9_
                      have HO575 := n0_
                      have HO_4 := n1_
                      have HO_9 := n2_
                      have BK554 := n3_
                      have BK576 := n4_
                      have GW576 := n5_
                      have GE576 := n6_
                      have NB554_576 := n7_
                      have NB576_554 := n8_
                      have HB := n9_
                      clear n0_ n1_ n2_ n3_ n4_ n5_ n6_ n7_ n8_ n9_
                      have hHeld : w31.cell? ad572 = some (.int .i64 (rd t555 0)) := hS_
                      obtain ⟨Ao32, co32, eo32⟩ := Kd.S_slice HO575.out
                      (first | subst eo32 | (injection eo32 with f1_ f2_ f3_; have f4_ := f1_.symm; have f5_ := f3_.symm; clear f1_ f2_ f3_; subst f4_; subst f5_))
                      refine norm_ (a' := ?_) ?_ ?_
                      rotate_left
                      · simp only [putAll, Act.put, List.setIfInBounds_toArray, List.set_cons_zero, List.set_cons_succ]
                        rfl
                      refine one_ (i := 7) (N := none) #[true, true, true, true, true, true, true, true] rfl rfl (one_of HT_.out (by kernel_rfl)) (by decide) (fun K hK => ?_)
                      have hs33 : w31.cell? ⟨gb576, 0, none⟩ = some (.int .i64 0) := (blk_cell BK576.out 0).trans rfl
                      have hfs33 := blk_frozen BK576.out 0
                      have hns33_0 := NB554_576.out
                      have hms33_0 := NB576_554.out
                      have hs34 : w31.cell? ⟨gb576, 1, none⟩ = some (.slice none 0 0) := (blk_cell BK576.out 1).trans rfl
                      have hfs34 := blk_frozen BK576.out 1
                      have hns34_0 := NB554_576.out
                      have hms34_0 := NB576_554.out
                      refine skip_ (w1 := ?_) (by rfl) rfl ?_ ?_
                      rotate_left
                      · go_simp
                        rfl
                      refine hK.out _ _ (((cell_far (p := ⟨gb576, _, none⟩) (by first | exact Kd.own_blk (Kd.R_ne HO_4.out BK576.out (by decide)) | (rw [add_block]; exact Kd.own_blk (Kd.R_ne HO_4.out BK576.out (by decide))) | (show (Addr.add _ _).block ≠ _; rw [add_block]; exact Kd.own_blk (Kd.R_ne HO_4.out BK576.out (by decide))) | (dsimp only; exact Kd.own_blk (Kd.R_ne HO_4.out BK576.out (by decide)))) _).trans (((cell_far (p := ⟨gb576, _, none⟩) (by first | exact Kd.own_blk (Kd.R_ne HO_4.out BK576.out (by decide)) | (rw [add_block]; exact Kd.own_blk (Kd.R_ne HO_4.out BK576.out (by decide))) | (show (Addr.add _ _).block ≠ _; rw [add_block]; exact Kd.own_blk (Kd.R_ne HO_4.out BK576.out (by decide))) | (dsimp only; exact Kd.own_blk (Kd.R_ne HO_4.out BK576.out (by decide)))) _).trans (hHeld))))) (fun hHeld => ?_)
                      clear hK K
                      refine done_ (done_of HT_.out (by kernel_rfl)) ?_
                      have hnb35 := NB576_554.out
                      have hnc35 := NB554_576.out
                      have hcz36_0 : w31.cell? ⟨gb576, 0, none⟩ = some (.int .i64 0) := (blk_cell BK576.out 0).trans rfl
                      have hcz36_1 : w31.cell? ⟨gb576, 1, none⟩ = some (.slice none 0 0) := (blk_cell BK576.out 1).trans rfl
                      have hfz36_0 := blk_frozen BK576.out 0
                      have hfz36_1 := blk_frozen BK576.out 1
                      try go_wp2
                      go_loopg [65] kj9 (fun kq v65 w' => ∃ (x65_2 : Int) (x577001_2 : List (List Int)) (u577001 : Value), v65 = .int .i64 x65_2 ∧ Aside0 (book_From.l0 kq (wrap64 (rd l0 9)) t565 (y573.length : Int) x65_2 (rd t555 0) x577001_2 = some (r1, r2, r3)) ∧ Aside0 (kq ≤ kj9) ∧ Aside0 (Kd.R (Kd.int .i64) 2 w' w.heap.size (fun _ => True) v566 t565) ∧ Aside0 (Kd.S (Kd.slice 74 (Kd.int .i16)) 26 w' w.heap.size (fun _ => True) u577001 x577001_2) ∧ Aside0 (w'.heap[gb554]? = some (.cells #[.int .i64 0, (.slice none 0 0)] 49 (0, 0))) ∧ Aside0 (w'.heap[gb576]? = some (.cells #[.int .i64 (rd t555 0), u577001] 49 (0, 0))) ∧ Aside0 (Below w.heap.size w w'))
                      case atStart => exact ⟨(0), (y573), (.slice Ao32 y573.length co32), (by first | rfl | (simp; done) | (simp [*]; done)), H', ⟨Nat.le_refl _⟩, ⟨by (with_reducible repeat (first | apply Kd.R_alloc | apply Kd.R_drewN | apply Kd.R_drew)); exact Kd.R_mono (Kd.R_far (p := ⟨gb576, 1, none⟩) (Kd.R_far (p := ⟨gb576, 0, none⟩) (Kd.R_types HO_9.out BK576.out (by decide)) (fun _ hk => hk.2) (.int .i64 (rd t555 0))) (fun _ hk => hk.2) (.slice Ao32 y573.length co32)) (fun _ hk => trivial)⟩, ⟨by (with_reducible repeat (first | apply Kd.S_alloc | apply Kd.S_drewN | apply Kd.S_drew)); exact Kd.S_mono (Kd.S_far (p := ⟨gb576, 1, none⟩) (Kd.S_far (p := ⟨gb576, 0, none⟩) (Kd.S_types HO575.out BK576.out (by decide)) (fun _ hk => hk.2) (.int .i64 (rd t555 0))) (fun _ hk => hk.2) (.slice Ao32 y573.length co32)) (fun _ hk => trivial)⟩, ⟨by (with_reducible repeat (first | refine blk_drewN ?_ _ | refine blk_drew ?_ | refine blk_alloc ?_ _)); refine blk_far ?_ NB554_576.out _; (with_reducible repeat (first | refine blk_drewN ?_ _ | refine blk_drew ?_ | refine blk_alloc ?_ _)); refine blk_far ?_ NB554_576.out _; (with_reducible repeat (first | refine blk_drewN ?_ _ | refine blk_drew ?_ | refine blk_alloc ?_ _)); exact BK554.out⟩, ⟨by (with_reducible repeat (first | refine blk_drewN ?_ _ | refine blk_drew ?_ | refine blk_alloc ?_ _)); refine blk_put (cs := #[.int .i64 (rd t555 0), .slice none 0 0]) ?_ 1 _ rfl; (with_reducible repeat (first | refine blk_drewN ?_ _ | refine blk_drew ?_ | refine blk_alloc ?_ _)); refine blk_put (cs := #[.int .i64 0, .slice none 0 0]) ?_ 0 _ rfl; (with_reducible repeat (first | refine blk_drewN ?_ _ | refine blk_drew ?_ | refine blk_alloc ?_ _)); exact BK576.out⟩, ⟨by repeat (first | (with_reducible first | exact HB.out | apply below_alloc | apply pw_below_drewN | apply below_drew1 | refine below_set ?_ GE554.out | refine below_set ?_ GE576.out) | exact HB.out)⟩⟩
                      case round =>
                        clear H'
                        try clear c1
                        try clear c2
                        try clear c2b0
                        try clear c2b1
                        try clear p2
                        try clear c3
                        try clear p5
                        try clear q5
                        try clear hx5
                        try clear qi5
                        try clear c6
                        try clear c6b0
                        try clear c6b1
                        try clear p6
                        try clear c7
                        try clear c7b0
                        try clear c7b1
                        try clear c8
                        try clear c8b0
                        try clear c8b1
                        try clear c10
                        try clear c16
                        try clear c16b0
                        try clear c16b1
                        try clear c17
                        try clear c17b0
                        try clear c17b1
                        try clear c19
                        try clear c21
                        try clear c21b0
                        try clear c21b1
                        try clear c23
                        try clear c23b0
                        try clear c23b1
                        try clear c24
                        try clear c24b0
                        try clear c24b1
                        try clear c35
                        try clear hcz20_0
                        try clear hcz20_1
                        try clear hcz36_0
                        try clear hcz36_1
                        try clear hcz4_0
                        try clear hcz4_1
                        try clear hfz20_0
                        try clear hfz20_1
                        try clear hfz36_0
                        try clear hfz36_1
                        try clear hfz4_0
                        try clear hfz4_1
                        try clear hx562_0
                        try clear hx563_0
                        try clear hx572_0
                        try clear p2
                        try clear p5
                        try clear p562
                        try clear p563
                        try clear p572
                        try clear p6
                        try clear q5
                        try clear q562
                        try clear q563
                        try clear q572
                        obtain ⟨x65_2, x577001_2, u577001, rfl, HA, HK2, HO_9, HO_577001, BK554, BK576, HB⟩ := hrel
                        cases gk with
                        | zero => exact absurd HA.out (by simp [book_From.l0])
                        | succ k2 =>
                          have H := HA.out
                          clear HA
                          simp only [book_From.l0] at H
                          by_cases c37 : x65_2 < (y573.length : Int)
                          · rw [if_pos c37] at H
                            have c37b0 : decide (x65_2 < (y573.length : Int)) = true := decide_eq_true c37
                            clear c37
                            obtain ⟨ji38, hji38⟩ : ∃ j_ : Int, (wrap64 (rd l0 9)) = j_ := ⟨_, rfl⟩
                            replace H : (if 0 ≤ (ji38) then (if ((ji38) : Int).toNat ≤ 140737488355328 then ((some (List.replicate ((ji38) : Int).toNat 0 : List Int)).bind fun y578 => (book_From.l1 k2 (ji38) t565 x65_2 y578 (y573.length : Int) x65_2 (y578.length : Int) 0 (rd t555 0) x577001_2)) else (none)) else (none)) = some (r1, r2, r3) := by first | (rw [hji38] at H; exact H) | (simp only [hji38] at H ⊢; exact H)
                            have hji38w : (IntKind.i64.wrap (rd l0 9)) = ji38 := (i64_w _).trans hji38
                            by_cases c39 : 0 ≤ (ji38)
                            · rw [if_pos c39] at H
                              have c39b0 := eq_true c39
                              have c39b1 : decide (0 ≤ (ji38)) = true := decide_eq_true c39
                              clear c39
                              by_cases c40 : ((ji38) : Int).toNat ≤ 140737488355328
                              · rw [if_pos c40] at H
                                have c40b0 := eq_true c40
                                have c40b1 : decide (((ji38) : Int).toNat ≤ 140737488355328) = true := decide_eq_true c40
                                clear c40
                                obtain ⟨y578, hy578⟩ : ∃ y_ : List Int, y_ = (List.replicate ((ji38) : Int).toNat 0) := ⟨_, rfl⟩
                                replace H : (book_From.l1 k2 (ji38) t565 x65_2 y578 (y573.length : Int) x65_2 (y578.length : Int) 0 (rd t555 0) x577001_2) = some (r1, r2, r3) := by first | (rw [hy578]; with_reducible exact H) | (have H2_ := (Option.bind_some _ _).symm.trans H; rw [hy578]; with_reducible exact H2_) | (have H2_ := (Option.bind_some _ _).symm.trans H; with_reducible exact H2_) | with_reducible exact H | (rw [hy578]; exact H) | exact H
                                have Ny578 := Aside0.mk hy578
                                clear hy578
                                have H' := Aside0.mk H
                                clear H
                                go_wp2_with (first | ((with_reducible refine gate_dst (N := 69) rfl ?_); (try (refine gate_guard (by rfl) ?_; dsimp only)); refine Kd.R_make (Kd.int .i16) _ 74 rfl (N := 69) rfl 26 _ _ rfl (ji38) (by first | rfl | (rw [← hji38]; rfl)) (by first | rfl | (rw [← hji38]; rfl)) Try.underlying26 (.int .i16 0) 2 info74 rfl (by decide) (by omega) 0 (ok := fun _ => True) (okp := fun _ => True) rfl (fun _ hk => hk) trivial (of_decide_eq_true (by first | (with_reducible assumption) | assumption)) (Nat.le_trans (Nat.mul_le_mul_right _ (of_decide_eq_true (by first | (with_reducible assumption) | assumption) : (ji38).toNat ≤ 140737488355328)) (by omega)) (Below.refl _ _) (Nat.le_refl _) ?_; intro v579 w41 ho42 hb hg_ hnew_; clear hg_ hnew_; (first | rw [← Ny578.out] at ho42 | (simp only [Int.reduceToNat] at ho42; rw [← Ny578.out] at ho42)); have n0_ := Aside0.mk (Kd.R_below (by (with_reducible repeat (first | apply Kd.R_alloc | apply Kd.R_drewN | apply Kd.R_drew)); exact HO_9.out) hb); have n1_ := Aside0.mk (Kd.S_elder' (by (with_reducible repeat (first | apply Kd.S_alloc | apply Kd.S_drewN | apply Kd.S_drew)); exact HO_577001.out) (Kd.R_base ho42) hb); have n2_ := Aside0.mk (Kd.R_lower ho42 (below_size (by repeat (first | (with_reducible first | exact HB.out | apply below_alloc | apply pw_below_drewN | apply below_drew1 | refine below_set ?_ GE554.out | refine below_set ?_ GE576.out) | exact HB.out)))); have n3_ := Aside0.mk (blk_below (g := gb554) (o := .cells #[.int .i64 0, .slice none 0 0] 49 (0, 0)) (by (with_reducible repeat (first | refine blk_drewN ?_ _ | refine blk_drew ?_ | refine blk_alloc ?_ _)); exact BK554.out) hb); have n4_ := Aside0.mk (blk_below (g := gb576) (o := .cells #[.int .i64 (rd t555 0), u577001] 49 (0, 0)) (by (with_reducible repeat (first | refine blk_drewN ?_ _ | refine blk_drew ?_ | refine blk_alloc ?_ _)); exact BK576.out) hb); have n5_ := Aside0.mk (below_step (by repeat (first | (with_reducible first | exact HB.out | apply below_alloc | apply pw_below_drewN | apply below_drew1 | refine below_set ?_ GE554.out | refine below_set ?_ GE576.out) | exact HB.out)) hb); clear HO_9; clear HO_577001; clear BK554; clear BK576; clear HB; have HO_9 := n0_; have HO_577001 := n1_; have HO580 := n2_; have BK554 := n3_; have BK576 := n4_; have HB := n5_; clear n0_ n1_ n2_ n3_ n4_ n5_; clear hb ho42; obtain ⟨Ao43, co43, eo43⟩ := Kd.R_slice HO580.out; subst eo43))
                                go_loopg [72] k2 (fun kq v72 w' => ∃ (x14_3 : List Int) (x72_3 : Int), v72 = .int .i64 x72_3 ∧ Aside0 (book_From.l1 kq (ji38) t565 x65_2 x14_3 (y573.length : Int) x65_2 (y578.length : Int) x72_3 (rd t555 0) x577001_2 = some (r1, r2, r3)) ∧ Aside0 (kq ≤ k2) ∧ Aside0 (Kd.R (Kd.int .i64) 2 w' w.heap.size (fun _ => True) v566 t565) ∧ Aside0 (Kd.R (Kd.int .i16) 74 w' w.heap.size (fun _ => True) (.slice Ao43 y578.length co43) x14_3) ∧ Aside0 (Kd.S (Kd.slice 74 (Kd.int .i16)) 26 w' w.heap.size (fun k_ => some k_ ≠ ((.slice Ao43 y578.length co43) : Value).ownBlock) u577001 x577001_2) ∧ Aside0 (w'.heap[gb554]? = some (.cells #[.int .i64 0, (.slice none 0 0)] 49 (0, 0))) ∧ Aside0 (w'.heap[gb576]? = some (.cells #[.int .i64 (rd t555 0), u577001] 49 (0, 0))) ∧ Aside0 (Below w.heap.size w w'))
                                case atStart => exact ⟨(y578), (0), (by first | rfl | (simp; done) | (simp [*]; done)), H', ⟨Nat.le_refl _⟩, ⟨by (with_reducible repeat (first | apply Kd.R_alloc | apply Kd.R_drewN | apply Kd.R_drew)); exact HO_9.out⟩, ⟨by (with_reducible repeat (first | apply Kd.R_alloc | apply Kd.R_drewN | apply Kd.R_drew)); exact HO580.out⟩, ⟨by (with_reducible repeat (first | apply Kd.S_alloc | apply Kd.S_drewN | apply Kd.S_drew)); exact Kd.S_mono HO_577001.out (fun _ hk => hk.2)⟩, ⟨by (with_reducible repeat (first | refine blk_drewN ?_ _ | refine blk_drew ?_ | refine blk_alloc ?_ _)); exact BK554.out⟩, ⟨by (with_reducible repeat (first | refine blk_drewN ?_ _ | refine blk_drew ?_ | refine blk_alloc ?_ _)); exact BK576.out⟩, ⟨by repeat (first | (with_reducible first | exact HB.out | apply below_alloc | apply pw_below_drewN | apply below_drew1 | refine below_set ?_ GE554.out | refine below_set ?_ GE576.out) | exact HB.out)⟩⟩
                                case round =>
                                  clear H'
                                  try clear c1
                                  try clear c2
                                  try clear c2b0
                                  try clear c2b1
                                  try clear p2
                                  try clear c3
                                  try clear c4
                                  try clear p5
                                  try clear q5
                                  try clear hx5
                                  try clear qi5
                                  try clear c6
                                  try clear c6b0
                                  try clear c6b1
                                  try clear p6
                                  try clear c7
                                  try clear c7b0
                                  try clear c7b1
                                  try clear c8
                                  try clear c8b0
                                  try clear c8b1
                                  try clear c10
                                  try clear c16
                                  try clear c16b0
                                  try clear c16b1
                                  try clear c17
                                  try clear c17b0
                                  try clear c17b1
                                  try clear c19
                                  try clear c21
                                  try clear c21b0
                                  try clear c21b1
                                  try clear c23
                                  try clear c23b0
                                  try clear c23b1
                                  try clear c24
                                  try clear c24b0
                                  try clear c24b1
                                  try clear c35
                                  try clear c37
                                  try clear c37b0
                                  try clear c39
                                  try clear c39b0
                                  try clear c39b1
                                  try clear c40
                                  try clear c40b0
                                  try clear c40b1
                                  try clear hcz20_0
                                  try clear hcz20_1
                                  try clear hcz36_0
                                  try clear hcz36_1
                                  try clear hcz4_0
                                  try clear hcz4_1
                                  try clear hfz20_0
                                  try clear hfz20_1
                                  try clear hfz36_0
                                  try clear hfz36_1
                                  try clear hfz4_0
                                  try clear hfz4_1
                                  try clear hx562_0
                                  try clear hx563_0
                                  try clear hx572_0
                                  try clear p2
                                  try clear p5
                                  try clear p562
                                  try clear p563
                                  try clear p572
                                  try clear p6
                                  try clear q5
                                  try clear q562
                                  try clear q563
                                  try clear q572
                                  obtain ⟨x14_3, x72_3, rfl, HA, HK3, HO_9, HO_14, HO_577001, BK554, BK576, HB⟩ := hrel
                                  have hl14_3 := (Kd.R_reads' HO_14.out).1
                                  rw [hl14_3] at HO_14
                                  (try simp only [hl14_3])
                                  (try simp only [hl14_3] at BK554)
                                  (try simp only [hl14_3] at BK576)
                                  (try simp only [hl14_3] at HO_9)
                                  (try simp only [hl14_3] at HO_577001)
                                  cases gk with
                                  | zero => exact absurd HA.out (by simp [book_From.l1])
                                  | succ k3 =>
                                    have H := HA.out
                                    clear HA
                                    simp only [book_From.l1] at H
                                    by_cases c44 : x72_3 < (y578.length : Int)
                                    · rw [if_pos c44] at H
                                      have c44b0 : decide (x72_3 < (y578.length : Int)) = true := decide_eq_true c44
                                      clear c44
                                      obtain ⟨ji45, hji45⟩ : ∃ j_ : Int, (wrap64 ((wrap64 (x65_2 * (ji38))) + x72_3)) = j_ := ⟨_, rfl⟩
                                      replace H : (if 0 ≤ (ji45) then (if (ji45) < (t565.length : Int) then (if 0 ≤ x72_3 then (if x72_3 < (x14_3.length : Int) then (book_From.l1 k3 (ji38) t565 x65_2 (x14_3.set (x72_3 : Int).toNat (IntKind.i16.wrap (rd t565 (ji45)))) (y573.length : Int) x65_2 (y578.length : Int) (wrap64 (x72_3 + 1)) (rd t555 0) x577001_2) else (none)) else (none)) else (none)) else (none)) = some (r1, r2, r3) := by first | (rw [hji45] at H; exact H) | (simp only [hji45] at H ⊢; exact H)
                                      have hji45w : (IntKind.i64.wrap ((wrap64 (x65_2 * (ji38))) + x72_3)) = ji45 := (i64_w _).trans hji45
                                      by_cases c46 : 0 ≤ (ji45)
                                      · rw [if_pos c46] at H
                                        have c46b0 : decide (0 ≤ (ji45)) = true := decide_eq_true c46
                                        clear c46
                                        by_cases c47 : (ji45) < (t565.length : Int)
                                        · rw [if_pos c47] at H
                                          have c47b0 : decide ((ji45) < (t565.length : Int)) = true := decide_eq_true c47
                                          clear c47
                                          by_cases c48 : 0 ≤ x72_3
                                          · rw [if_pos c48] at H
                                            have c48b0 : decide (0 ≤ x72_3) = true := decide_eq_true c48
                                            clear c48
                                            by_cases c49 : x72_3 < (x14_3.length : Int)
                                            · rw [if_pos c49] at H
                                              have c49b0 : decide (x72_3 < (x14_3.length : Int)) = true := decide_eq_true c49
                                              clear c49
                                              obtain ⟨y582, hy582⟩ : ∃ y_ : List Int, y_ = (x14_3.set (x72_3 : Int).toNat (IntKind.i16.wrap (rd t565 (ji45)))) := ⟨_, rfl⟩
                                              replace H : (book_From.l1 k3 (ji38) t565 x65_2 y582 (y573.length : Int) x65_2 (y578.length : Int) (wrap64 (x72_3 + 1)) (rd t555 0) x577001_2) = some (r1, r2, r3) := by first | (rw [hy582]; with_reducible exact H) | (have H2_ := (Option.bind_some _ _).symm.trans H; rw [hy582]; with_reducible exact H2_) | (have H2_ := (Option.bind_some _ _).symm.trans H; with_reducible exact H2_) | with_reducible exact H | (rw [hy582]; exact H) | exact H
                                              have Ny582 := Aside0.mk hy582
                                              clear hy582
                                              have H' := Aside0.mk H
                                              clear H
                                              obtain ⟨Ao51, co51, eo51⟩ := Kd.R_slice HO_9.out
                                              subst eo51
                                              have p581 : 0 ≤ ((ji45) : Int) := of_decide_eq_true (by first | (with_reducible assumption) | assumption)
                                              have q581 : (ji45) < (t565.length : Int) := of_decide_eq_true (by first | (with_reducible assumption) | assumption)
                                              obtain ⟨ad581, e581, hx581_0⟩ := Kd.at_int (Kd.R_reads' HO_9.out).2.2 (ji45) p581 q581
                                              cases e581
                                              replace p581 := eq_true p581
                                              replace q581 := eq_true q581
                                              have p50 : 0 ≤ (x72_3 : Int) := of_decide_eq_true (by first | (with_reducible assumption) | assumption)
                                              have q50 : (x72_3 : Int) < ((x14_3.length : Int) : Int) := of_decide_eq_true (by first | (with_reducible assumption) | assumption)
                                              obtain ⟨go50, co50, eo50, gb50, gl50, cl50, HG50⟩ := Kd.R_form HO_14.out (by omega)
                                              (first | cases eo50 | (injection eo50 with ea_ en_ ec_; (first | subst ea_ | (injection ea_ with ea_; subst ea_)); subst ec_; clear en_))
                                              have GB50 := Aside0.mk gb50
                                              have GG50 := Aside0.mk HG50
                                              clear gb50 gl50 HG50
                                              obtain ⟨hx50_0, hf50_0⟩ := Kd.R_celln 0 HO_14.out (x72_3 : Int) p50 q50
                                              replace p50 := eq_true p50
                                              replace q50 := eq_true q50
                                              have HP52 := Kd.R_putg HO_14.out (x72_3 : Int) (IntKind.i16.wrap (rd t565 (ji45)))
                                              go_wp2_with (first | ((with_reducible refine gate_store (t := 74) (p := 86) rfl ?_); refine store_event (t := 74) (p := 86) (v := ?vo_w53) (w1 := (wr.setCell ⟨go50, (x72_3 : Int).toNat, none⟩ (.int .i16 (IntKind.i16.wrap (rd t565 (ji45)))))) ?hg ?ho ?hn ?hr ?_; (case ho => rfl); (case hg => rfl); (case hn => rfl); (case hr => first | (go_simp; done) | (go_simp; rfl)); intro w53 hw; have hg : wr.grownBy w53 (some go50) := (by rw [hw]; exact HP52.2); have hp_ : Kd.R (Kd.int .i16) 74 w53 w.heap.size (fun _ => True) (.slice (some ⟨go50, 0, none⟩) x14_3.length co43) y582 := (by rw [hw, Ny582.out]; exact HP52.1); clear HP52; have n0_ := Aside0.mk (Kd.R_over' (v := (.slice (some ⟨go50, 0, none⟩) x14_3.length co43)) (by (with_reducible repeat (first | apply Kd.R_alloc | apply Kd.R_drewN | apply Kd.R_drew)); exact HO_9.out) (Kd.R_typed HO_14.out) (by decide) hg); have n1_ := Aside0.mk (hp_); have n2_ := Aside0.mk (Kd.S_after (v := (.slice (some ⟨go50, 0, none⟩) x14_3.length co43)) (v1 := (.slice (some ⟨go50, 0, none⟩) x14_3.length co43)) (ok := (fun _ => True)) (by (with_reducible repeat (first | apply Kd.S_alloc | apply Kd.S_drewN | apply Kd.S_drew)); exact Kd.S_mono HO_577001.out (fun _ hk => ⟨trivial, hk⟩)) hg (.inl rfl)); have n3_ := Aside0.mk (blk_grown (g := gb554) (o := .cells #[.int .i64 0, .slice none 0 0] 49 (0, 0)) (by (with_reducible repeat (first | refine blk_drewN ?_ _ | refine blk_drew ?_ | refine blk_alloc ?_ _)); exact BK554.out) hg (Kd.R_ne HO_14.out BK554.out (by decide))); have n4_ := Aside0.mk (blk_grown (g := gb576) (o := .cells #[.int .i64 (rd t555 0), u577001] 49 (0, 0)) (by (with_reducible repeat (first | refine blk_drewN ?_ _ | refine blk_drew ?_ | refine blk_alloc ?_ _)); exact BK576.out) hg (Kd.R_ne HO_14.out BK576.out (by decide))); have n5_ := Aside0.mk ((by rw [hw]; exact below_set (HB.out) GB50.out : Below w.heap.size w w53)); clear HO_9; clear HO_14; clear HO_577001; clear BK554; clear BK576; clear HB; have HO_9 := n0_; have HO_14 := n1_; have HO_577001 := n2_; have BK554 := n3_; have BK576 := n4_; have HB := n5_; clear n0_ n1_ n2_ n3_ n4_ n5_; clear hg hw hp_))
                                              (try simp only [← hl14_3])
                                              first | go_roundg k3 | (simp only [← hji45]; go_roundg k3) | (simp only [← hji38, ← hji45]; go_roundg k3) | (simp only [← hji22, ← hji38, ← hji45]; go_roundg k3)
                                              case measure => have := HJ9.out; have := HK2.out; have := HK3.out; omega
                                              case rel => exact ⟨(y582), (wrap64 (x72_3 + 1)), (by first | rfl | (simp; done) | (simp [*]; done)), (by first | exact H' | (rw [hji22]; exact H') | (rw [hji38]; exact H') | (rw [hji45]; exact H')), ⟨by have := HJ9.out; have := HK2.out; have := HK3.out; omega⟩, ⟨by (try simp only [hl14_3]); (with_reducible repeat (first | apply Kd.R_alloc | apply Kd.R_drewN | apply Kd.R_drew)); exact HO_9.out⟩, ⟨by (try simp only [hl14_3]); (with_reducible repeat (first | apply Kd.R_alloc | apply Kd.R_drewN | apply Kd.R_drew)); exact HO_14.out⟩, ⟨by (try simp only [hl14_3]); (with_reducible repeat (first | apply Kd.S_alloc | apply Kd.S_drewN | apply Kd.S_drew)); exact Kd.S_mono HO_577001.out (fun _ hk => hk.2)⟩, ⟨by (try simp only [hl14_3]); (with_reducible repeat (first | refine blk_drewN ?_ _ | refine blk_drew ?_ | refine blk_alloc ?_ _)); exact BK554.out⟩, ⟨by (try simp only [hl14_3]); (with_reducible repeat (first | refine blk_drewN ?_ _ | refine blk_drew ?_ | refine blk_alloc ?_ _)); exact BK576.out⟩, ⟨by repeat (first | (with_reducible first | exact HB.out | apply below_alloc | apply pw_below_drewN | apply below_drew1 | refine below_set ?_ GE554.out | refine below_set ?_ GE576.out) | exact HB.out)⟩⟩
                                            · rw [if_neg c49] at H
                                              exact absurd H (by simp)
                                          · rw [if_neg c48] at H
                                            exact absurd H (by simp)
                                        · rw [if_neg c47] at H
                                          exact absurd H (by simp)
                                      · rw [if_neg c46] at H
                                        exact absurd H (by simp)
                                    · rw [if_neg c44] at H
                                      have c44b0 : decide (x72_3 < (y578.length : Int)) = false := decide_eq_false c44
                                      (try simp only [hl14_3] at c44b0)
                                      clear c44
                                      by_cases c54 : 0 ≤ x65_2
                                      · rw [if_pos c54] at H
                                        have c54b0 : decide (0 ≤ x65_2) = true := decide_eq_true c54
                                        clear c54
                                        by_cases c55 : x65_2 < (x577001_2.length : Int)
                                        · rw [if_pos c55] at H
                                          have c55b0 : decide (x65_2 < (x577001_2.length : Int)) = true := decide_eq_true c55
                                          clear c55
                                          obtain ⟨y583, hy583⟩ : ∃ y_ : List (List Int), y_ = (x577001_2.set (x65_2 : Int).toNat x14_3) := ⟨_, rfl⟩
                                          replace H : (book_From.l0 k3 (ji38) t565 (y573.length : Int) (wrap64 (x65_2 + 1)) (rd t555 0) y583) = some (r1, r2, r3) := by first | (rw [hy583]; with_reducible exact H) | (have H2_ := (Option.bind_some _ _).symm.trans H; rw [hy583]; with_reducible exact H2_) | (have H2_ := (Option.bind_some _ _).symm.trans H; with_reducible exact H2_) | with_reducible exact H | (rw [hy583]; exact H) | exact H
                                          have Ny583 := Aside0.mk hy583
                                          clear hy583
                                          have H' := Aside0.mk H
                                          clear H
                                          have hnb57 := NB576_554.out
                                          have hnc57 := NB554_576.out
                                          have hcz58_0 : wr.cell? ⟨gb576, 0, none⟩ = some (.int .i64 (rd t555 0)) := (blk_cell BK576.out 0).trans rfl
                                          have hcz58_1 : wr.cell? ⟨gb576, 1, none⟩ = some (u577001) := (blk_cell BK576.out 1).trans rfl
                                          have hfz58_0 := blk_frozen BK576.out 0
                                          have hfz58_1 := blk_frozen BK576.out 1
                                          have p56 : 0 ≤ (x65_2 : Int) := of_decide_eq_true (by first | (with_reducible assumption) | assumption)
                                          have q56 : (x65_2 : Int) < ((x577001_2.length : Int) : Int) := of_decide_eq_true (by first | (with_reducible assumption) | assumption)
                                          obtain ⟨go56, co56, eo56, gb56, gl56, cl56, HG56⟩ := Kd.S_form HO_577001.out (by omega)
                                          (first | cases eo56 | (injection eo56 with ea_ en_ ec_; (first | subst ea_ | (injection ea_ with ea_; subst ea_)); subst ec_; clear en_))
                                          have GB56 := Aside0.mk gb56
                                          have GG56 := Aside0.mk HG56
                                          clear gb56 gl56 HG56
                                          obtain ⟨_, ce56, hcl56, hM56, hcc56, hfr56, _, _⟩ := Kd.S_elem HO_577001.out [] (x65_2 : Int) p56 q56
                                          obtain ⟨ve56_0, rfl, ge56_0⟩ := hM56
                                          have hx56_0 := hcc56 0 _ rfl
                                          have hf56_0 := hfr56 0
                                          (try simp only [show ((Kd.slice 74 (Kd.int .i16))).sz = 1 from rfl, Nat.mul_one, Nat.add_zero] at hx56_0)
                                          (try simp only [show ((Kd.slice 74 (Kd.int .i16))).sz = 1 from rfl, Nat.mul_one, Nat.add_zero] at hf56_0)
                                          clear hcl56 hcc56 hfr56 
                                          try clear hM56
                                          replace p56 := eq_true p56
                                          replace q56 := eq_true q56
                                          have HX59 := Aside0.mk (show Kd.S (Kd.slice 74 (Kd.int .i16)) 26 wr w.heap.size (fun k_ => ((fun _ => True)) k_ ∧ ¬ ((fun k_ => some k_ = (.slice Ao43 x14_3.length co43 : Value).ownBlock)) k_) (.slice (some ⟨go56, 0, none⟩) x577001_2.length co56) x577001_2 from (by (with_reducible repeat (first | apply Kd.S_alloc | apply Kd.S_drewN | apply Kd.S_drew)); exact Kd.S_mono HO_577001.out (fun k_ hk => ⟨trivial, fun e_ => hk e_⟩)))
                                          obtain ⟨oki59, ce59, hcl59, hM59, hcc59, hfr59, hoki59, hH59⟩ := Kd.S_elem HX59.out [] (x65_2 : Int) (of_decide_eq_true (by first | (with_reducible assumption) | assumption)) (by have h_ : (x65_2 : Int) < ((x577001_2.length : Int) : Int) := of_decide_eq_true (by first | (with_reducible assumption) | assumption); first | exact h_ | (have e_ := (Kd.S_reads' HO_577001.out).1; omega) | simpa using h_)
                                          obtain ⟨ve59_0, rfl, ge59_0⟩ := hM59
                                          have HP59 := Kd.S_seg hH59 (of_decide_eq_true (by first | (with_reducible assumption) | assumption)) (by have h_ : (x65_2 : Int) < ((x577001_2.length : Int) : Int) := of_decide_eq_true (by first | (with_reducible assumption) | assumption); first | exact h_ | (have e_ := (Kd.S_reads' HO_577001.out).1; omega) | simpa using h_) (seg := [.slice Ao43 x14_3.length co43]) (j := 0) (show 1 ≤ 1 from by decide) (x' := x14_3) (Kd.M_row (Kd.R_mono (Kd.R_tight rfl (Kd.R_mono (ok' := fun k_ => ((fun _ => True)) k_ ∧ k_ ≠ go56) (Kd.R_apart' (HO_14.out) (Kd.S_typed HO_577001.out) (by decide)) (fun k_ hk => ⟨trivial, fun e_ => (hk.2) (by rw [e_]; rfl)⟩))) (fun _ h_ => Or.inr (h_)))) (fun _ hk => hk) (fun k_ hk_ => ((Kd.R_mono (ok' := fun k_ => ((fun _ => True)) k_ ∧ k_ ≠ go56) (Kd.R_apart' (HO_14.out) (Kd.S_typed HO_577001.out) (by decide)) (fun k_ hk => ⟨trivial, fun e_ => (hk.2) (by rw [e_]; rfl)⟩))).1 k_ hk_.symm)
                                          have hx59_0 := hcc59 0 _ rfl
                                          (try simp only [show ((Kd.slice 74 (Kd.int .i16))).sz = 1 from rfl, Nat.mul_one, Nat.add_zero] at hx59_0)
                                          have hf59_0 := hfr59 0
                                          (try simp only [show ((Kd.slice 74 (Kd.int .i16))).sz = 1 from rfl, Nat.mul_one, Nat.add_zero] at hf59_0)
                                          clear hcl59 hcc59 hfr59  hoki59 hH59
                                          try clear hM59
                                          (try simp only [show ((Kd.slice 74 (Kd.int .i16))).sz = 1 from rfl, Nat.mul_one, Nat.add_zero] at HP59)
                                          go_wp2_with (first | ((with_reducible refine gate_store (t := 26) (p := 92) rfl ?_); refine store_event (t := 26) (p := 92) (v := ?vo_w60) (w1 := (wr.setCell ⟨go56, (x65_2 : Int).toNat, none⟩ (.slice Ao43 x14_3.length co43))) ?hg ?ho ?hn ?hr ?_; (case ho => rfl); (case hg => rfl); (case hn => rfl); (case hr => first | (go_simp; done) | (go_simp; rfl)); intro w60 hw; have hg : wr.grownBy w60 (some go56) := (by rw [hw]; exact HP59.2); have hp_ : Kd.S (Kd.slice 74 (Kd.int .i16)) 26 w60 w.heap.size (fun _ => True) (.slice (some ⟨go56, 0, none⟩) x577001_2.length co56) y583 := (by rw [hw, Ny583.out]; exact HP59.1); clear HP59; have n0_ := Aside0.mk (Kd.R_over' (v := (.slice (some ⟨go56, 0, none⟩) x577001_2.length co56)) (by (with_reducible repeat (first | apply Kd.R_alloc | apply Kd.R_drewN | apply Kd.R_drew)); exact HO_9.out) (Kd.S_typed HO_577001.out) (by decide) hg); have n1_ := Aside0.mk (hp_); have n2_ := Aside0.mk (blk_grown (g := gb554) (o := .cells #[.int .i64 0, .slice none 0 0] 49 (0, 0)) (by (with_reducible repeat (first | refine blk_drewN ?_ _ | refine blk_drew ?_ | refine blk_alloc ?_ _)); exact BK554.out) hg (Kd.S_ne HO_577001.out BK554.out (by decide))); have n3_ := Aside0.mk (blk_grown (g := gb576) (o := .cells #[.int .i64 (rd t555 0), .slice (some ⟨go56, 0, none⟩) x577001_2.length co56] 49 (0, 0)) (by (with_reducible repeat (first | refine blk_drewN ?_ _ | refine blk_drew ?_ | refine blk_alloc ?_ _)); exact BK576.out) hg (Kd.S_ne HO_577001.out BK576.out (by decide))); have n4_ := Aside0.mk ((by rw [hw]; exact below_set (HB.out) GB56.out : Below w.heap.size w w60)); clear HO_9; clear HO_577001; clear BK554; clear BK576; clear HB; clear HO_14; have HO_9 := n0_; have HO_577001 := n1_; have BK554 := n2_; have BK576 := n3_; have HB := n4_; clear n0_ n1_ n2_ n3_ n4_; clear hg hw hp_))
                                          (try simp only [← hl14_3])
                                          first | go_roundg k3 | (simp only [← hji38]; go_roundg k3) | (simp only [← hji22, ← hji38]; go_roundg k3)
                                          case measure => have := HJ9.out; have := HK2.out; have := HK3.out; omega
                                          case rel => exact ⟨(wrap64 (x65_2 + 1)), (y583), (.slice (some ⟨go56, 0, none⟩) x577001_2.length co56), (by first | rfl | (simp; done) | (simp [*]; done)), (by first | exact H' | (rw [hji22]; exact H') | (rw [hji38]; exact H') | (rw [hji45]; exact H')), ⟨by have := HJ9.out; have := HK2.out; have := HK3.out; omega⟩, ⟨by (try simp only [hl14_3]); (with_reducible repeat (first | apply Kd.R_alloc | apply Kd.R_drewN | apply Kd.R_drew)); exact HO_9.out⟩, ⟨by (try simp only [hl14_3]); (with_reducible repeat (first | apply Kd.S_alloc | apply Kd.S_drewN | apply Kd.S_drew)); exact HO_577001.out⟩, ⟨by (try simp only [hl14_3]); (with_reducible repeat (first | refine blk_drewN ?_ _ | refine blk_drew ?_ | refine blk_alloc ?_ _)); exact BK554.out⟩, ⟨by (try simp only [hl14_3]); (with_reducible repeat (first | refine blk_drewN ?_ _ | refine blk_drew ?_ | refine blk_alloc ?_ _)); exact BK576.out⟩, ⟨by repeat (first | (with_reducible first | exact HB.out | apply below_alloc | apply pw_below_drewN | apply below_drew1 | refine below_set ?_ GE554.out | refine below_set ?_ GE576.out) | exact HB.out)⟩⟩
                                        · rw [if_neg c55] at H
                                          exact absurd H (by simp)
                                      · rw [if_neg c54] at H
                                        exact absurd H (by simp)
                              · rw [if_neg c40] at H
                                exact absurd H (by simp)
                            · rw [if_neg c39] at H
                              exact absurd H (by simp)
                          · rw [if_neg c37] at H
                            have c37b0 : decide (x65_2 < (y573.length : Int)) = false := decide_eq_false c37
                            (try simp only [hl14_3] at c37b0)
                            clear c37
                            replace H := Option.bind_eq_some_iff.mp H
                            obtain ⟨t577, A610, H⟩ := H
                            replace H : (if t577 = 0 then (some ((rd t555 0), x577001_2, 0)) else (some (0, ([] : List (List Int)), 2))) = some (r1, r2, r3) := H
                            have A61 := Aside0.mk A610
                            clear A610
                            by_cases c62 : t577 = 0
                            · rw [if_pos c62] at H
                              have c62b0 : (t577 == 0) = true := beq_iff_eq.mpr c62
                              have c62b1 : (t577 != 0) = false := bne_eq_false_iff_eq.mpr c62
                              clear c62
                              simp only [Option.some.injEq, Prod.mk.injEq] at H
                              obtain ⟨rfl, rfl, rfl⟩ := H
                              have hnb63 := NB576_554.out
                              have hnc63 := NB554_576.out
                              have hcz64_0 : wr.cell? ⟨gb576, 0, none⟩ = some (.int .i64 (rd t555 0)) := (blk_cell BK576.out 0).trans rfl
                              have hcz64_1 : wr.cell? ⟨gb576, 1, none⟩ = some (u577001) := (blk_cell BK576.out 1).trans rfl
                              have hfz64_0 := blk_frozen BK576.out 0
                              have hfz64_1 := blk_frozen BK576.out 1
                              obtain ⟨Ao65, co65, eo65⟩ := Kd.S_slice HO_577001.out
                              subst eo65
                              go_wp2_with (first | ((with_reducible refine gate_callee (f := 48) rfl ?_); refine goesL_ (some 95) rfl rfl Try.func48 (by kernel_rfl) rfl #[.agg #[.int .i64 (rd t555 0), .slice Ao65 x577001_2.length co65]] rfl (by (try simp only [List.map_toArray, List.map_cons, List.map_nil]); first | done | rfl | (simp only [List.length_drop, List.length_take]; rfl)) ?_; (with_reducible refine (h_quant_Check.calls (rd t555 0) _ _ x577001_2 t577 _ ?side1 ?side2 A61.out).mono ?_); (case side1 => repeat (first | exact (Kd.S_reads' HO_577001.out).2.2 | (with_reducible refine Kd.C_alloc ?_ _) | (with_reducible refine Kd.C_drewN ?_ _) | (with_reducible refine Kd.C_drew ?_))); (case side2 => exact (Kd.S_reads' HO_577001.out).2.1); rintro e w66 ⟨rfl, hb⟩; refine ⟨_, rfl, ?_⟩; have n0_ := Aside0.mk (Kd.R_below (by (with_reducible repeat (first | apply Kd.R_alloc | apply Kd.R_drewN | apply Kd.R_drew)); exact HO_9.out) hb); have n1_ := Aside0.mk (Kd.S_below (by (with_reducible repeat (first | apply Kd.S_alloc | apply Kd.S_drewN | apply Kd.S_drew)); exact HO_577001.out) hb); have n2_ := Aside0.mk (blk_below (g := gb554) (o := .cells #[.int .i64 0, .slice none 0 0] 49 (0, 0)) (by (with_reducible repeat (first | refine blk_drewN ?_ _ | refine blk_drew ?_ | refine blk_alloc ?_ _)); exact BK554.out) hb); have n3_ := Aside0.mk (blk_below (g := gb576) (o := .cells #[.int .i64 (rd t555 0), .slice Ao65 x577001_2.length co65] 49 (0, 0)) (by (with_reducible repeat (first | refine blk_drewN ?_ _ | refine blk_drew ?_ | refine blk_alloc ?_ _)); exact BK576.out) hb); have n4_ := Aside0.mk (below_step (by repeat (first | (with_reducible first | exact HB.out | apply below_alloc | apply pw_below_drewN | apply below_drew1 | refine below_set ?_ GE554.out | refine below_set ?_ GE576.out) | exact HB.out)) hb); clear HO_9; clear HO_577001; clear BK554; clear BK576; clear HB; have HO_9 := n0_; have HO_577001 := n1_; have BK554 := n2_; have BK576 := n3_; have HB := n4_; clear n0_ n1_ n2_ n3_ n4_; (try clear hb); (try clear hb2); (try clear hk); (try clear hi); have hcz67_0 : w66.cell? ⟨gb576, 0, none⟩ = some (.int .i64 (rd t555 0)) := (blk_cell BK576.out 0).trans rfl; have hcz67_1 : w66.cell? ⟨gb576, 1, none⟩ = some (.slice Ao65 x577001_2.length co65) := (blk_cell BK576.out 1).trans rfl; have hfz67_0 := blk_frozen BK576.out 0; have hfz67_1 := blk_frozen BK576.out 1; have hcz68_0 : w66.cell? ⟨gb554, 0, none⟩ = some (.int .i64 0) := (blk_cell BK554.out 0).trans rfl; have hcz68_1 : w66.cell? ⟨gb554, 1, none⟩ = some (.slice none 0 0) := (blk_cell BK554.out 1).trans rfl; have hfz68_0 := blk_frozen BK554.out 0; have hfz68_1 := blk_frozen BK554.out 1))
                              refine bodyPost_ret (results_ct rfl _ _ gb554 49 #[.int .i64 (rd t555 0), .slice Ao65 x577001_2.length co65] (0, 0) _ rfl (by (with_reducible repeat (first | refine blk_drewN ?_ _ | refine blk_drew ?_ | refine blk_alloc ?_ _)); refine blk_put (cs := #[.int .i64 (rd t555 0), .slice none 0 0]) ?_ 1 _ rfl; (with_reducible repeat (first | refine blk_drewN ?_ _ | refine blk_drew ?_ | refine blk_alloc ?_ _)); refine blk_put (cs := #[.int .i64 0, .slice none 0 0]) ?_ 0 _ rfl; (with_reducible repeat (first | refine blk_drewN ?_ _ | refine blk_drew ?_ | refine blk_alloc ?_ _)); exact BK554.out) Try.underlying49 rfl (by kernel_rfl)) rfl ?_
                              exact ⟨_, by first | rfl | (simp [errW_none, errW_some] <;> rfl) | (simp only [← hji22]; first | rfl | (simp [errW_none, errW_some] <;> rfl)) | (simp [*, errW_none, errW_some] <;> rfl), by (with_reducible repeat (first | apply Kd.S_alloc | apply Kd.S_drewN | apply Kd.S_drew)); exact Kd.S_mono (Kd.S_far (p := ⟨gb554, 1, none⟩) (Kd.S_far (p := ⟨gb554, 0, none⟩) (Kd.S_types HO_577001.out BK554.out (by decide)) (fun _ hk => hk.2) (.int .i64 (rd t555 0))) (fun _ hk => hk.2) (.slice Ao65 x577001_2.length co65)) (fun _ hk => trivial), by repeat (first | (with_reducible first | exact HB.out | apply below_alloc | apply pw_below_drewN | apply below_drew1 | refine below_set ?_ GE554.out | refine below_set ?_ GE576.out) | exact HB.out)⟩
                            · rw [if_neg c62] at H
                              have c62b0 : (t577 == 0) = false := beq_eq_false_iff_ne.mpr c62
                              have c62b1 : (t577 != 0) = true := bne_iff_ne.mpr c62
                              simp only [Option.some.injEq, Prod.mk.injEq] at H
                              obtain ⟨rfl, rfl, rfl⟩ := H
                              have hnb69 := NB576_554.out
                              have hnc69 := NB554_576.out
                              have hcz70_0 : wr.cell? ⟨gb576, 0, none⟩ = some (.int .i64 (rd t555 0)) := (blk_cell BK576.out 0).trans rfl
                              have hcz70_1 : wr.cell? ⟨gb576, 1, none⟩ = some (u577001) := (blk_cell BK576.out 1).trans rfl
                              have hfz70_0 := blk_frozen BK576.out 0
                              have hfz70_1 := blk_frozen BK576.out 1
                              obtain ⟨Ao71, co71, eo71⟩ := Kd.S_slice HO_577001.out
                              subst eo71
                              go_wp2_with (first | ((with_reducible refine gate_callee (f := 48) rfl ?_); refine goesL_ (some 95) rfl rfl Try.func48 (by kernel_rfl) rfl #[.agg #[.int .i64 (rd t555 0), .slice Ao71 x577001_2.length co71]] rfl (by (try simp only [List.map_toArray, List.map_cons, List.map_nil]); first | done | rfl | (simp only [List.length_drop, List.length_take]; rfl)) ?_; (with_reducible refine (h_quant_Check.calls (rd t555 0) _ _ x577001_2 t577 _ ?side1 ?side2 A61.out).mono ?_); (case side1 => repeat (first | exact (Kd.S_reads' HO_577001.out).2.2 | (with_reducible refine Kd.C_alloc ?_ _) | (with_reducible refine Kd.C_drewN ?_ _) | (with_reducible refine Kd.C_drew ?_))); (case side2 => exact (Kd.S_reads' HO_577001.out).2.1); rintro e w72 ⟨rfl, hb⟩; refine ⟨_, rfl, ?_⟩; have n0_ := Aside0.mk (Kd.R_below (by (with_reducible repeat (first | apply Kd.R_alloc | apply Kd.R_drewN | apply Kd.R_drew)); exact HO_9.out) hb); have n1_ := Aside0.mk (Kd.S_below (by (with_reducible repeat (first | apply Kd.S_alloc | apply Kd.S_drewN | apply Kd.S_drew)); exact HO_577001.out) hb); have n2_ := Aside0.mk (blk_below (g := gb554) (o := .cells #[.int .i64 0, .slice none 0 0] 49 (0, 0)) (by (with_reducible repeat (first | refine blk_drewN ?_ _ | refine blk_drew ?_ | refine blk_alloc ?_ _)); exact BK554.out) hb); have n3_ := Aside0.mk (blk_below (g := gb576) (o := .cells #[.int .i64 (rd t555 0), .slice Ao71 x577001_2.length co71] 49 (0, 0)) (by (with_reducible repeat (first | refine blk_drewN ?_ _ | refine blk_drew ?_ | refine blk_alloc ?_ _)); exact BK576.out) hb); have n4_ := Aside0.mk (below_step (by repeat (first | (with_reducible first | exact HB.out | apply below_alloc | apply pw_below_drewN | apply below_drew1 | refine below_set ?_ GE554.out | refine below_set ?_ GE576.out) | exact HB.out)) hb); clear HO_9; clear HO_577001; clear BK554; clear BK576; clear HB; have HO_9 := n0_; have HO_577001 := n1_; have BK554 := n2_; have BK576 := n3_; have HB := n4_; clear n0_ n1_ n2_ n3_ n4_; (try clear hb); (try clear hb2); (try clear hk); (try clear hi); have hcz73_0 : w72.cell? ⟨gb554, 0, none⟩ = some (.int .i64 0) := (blk_cell BK554.out 0).trans rfl; have hcz73_1 : w72.cell? ⟨gb554, 1, none⟩ = some (.slice none 0 0) := (blk_cell BK554.out 1).trans rfl; have hfz73_0 := blk_frozen BK554.out 0; have hfz73_1 := blk_frozen BK554.out 1))
                              refine bodyPost_ret (results_ct rfl _ _ gb554 49 #[.int .i64 0, .slice none 0 0] (0, 0) _ rfl (by (with_reducible repeat (first | refine blk_drewN ?_ _ | refine blk_drew ?_ | refine blk_alloc ?_ _)); refine blk_put (cs := #[.int .i64 0, .slice none 0 0]) ?_ 1 _ rfl; (with_reducible repeat (first | refine blk_drewN ?_ _ | refine blk_drew ?_ | refine blk_alloc ?_ _)); refine blk_put (cs := #[.int .i64 0, .slice none 0 0]) ?_ 0 _ rfl; (with_reducible repeat (first | refine blk_drewN ?_ _ | refine blk_drew ?_ | refine blk_alloc ?_ _)); exact BK554.out) Try.underlying49 rfl (by kernel_rfl)) rfl ?_
                              exact ⟨_, by first | rfl | (simp [errW_none, errW_some] <;> rfl) | (simp only [← hji22]; first | rfl | (simp [errW_none, errW_some] <;> rfl)) | (simp [*, errW_none, errW_some] <;> rfl), by first | exact Kd.S_nil _ _ _ _ _ | exact Kd.N_nil _ _ _ _ _ | exact Kd.V_nil _ _ _ _ _ | exact Kd.Q_nil _ _ _ _ _ | exact Kd.R_nil _ _ _ _ _, by repeat (first | (with_reducible first | exact HB.out | apply below_alloc | apply pw_below_drewN | apply below_drew1 | refine below_set ?_ GE554.out | refine below_set ?_ GE576.out) | exact HB.out)⟩
                    · rw [if_neg c24] at H
                      exact absurd H (by simp)
                  · rw [if_neg c23] at H
                    exact absurd H (by simp)
                · rw [if_neg c21] at H
                  exact absurd H (by simp)
        · rw [if_neg c8] at H
          exact absurd H (by simp)
      · rw [if_neg c7] at H
        exact absurd H (by simp)
    · rw [if_neg c6] at H
      exact absurd H (by simp)

end Go.Proofs.Ytkjibgfgbfacdaa.P
end
/-! part: PBook -/
section
set_option linter.unusedVariables false
set_option linter.unusedSimpArgs false
namespace Go.Proofs.Ytkjibgfgbfacdaa.P
open Go.RowKit Go.Proofs.YtkjibgfgbfacdaaW.PrintWords Go.Proofs.YtkjibgfgbfacdaaW.PrintLast Go.Proofs.YtkjibgfgbfacdaaW.PrintMore
set_option linter.unusedVariables false

/-! ### small -/
theorem idxCast (j : Nat) (h : j < 9223372036854775807) : wrap64 ((j : Int) + 1) = ((j + 1 : Nat) : Int) := by unfold wrap64; omega
/-! ### book.Bytes -/
def i16L (l : List Int) : Prop := ∀ x ∈ l, -32768 ≤ x ∧ x ≤ 32767
def i16LL (l : List (List Int)) : Prop := ∀ c ∈ l, i16L c
/-- A book's text. -/
def bytesB (way : Int) (cuts : List (List Int)) : List Int := enc 8 way ++ [(cuts.length : Int), ((cuts.getD 0 []).length : Int)] ++ cuts.flatMap (fun c => c.flatMap (enc 2))
theorem i16_of {l : List Int} (h : okI .i16 l) : i16L l := by
  intro x hx
  have h1 : (decide (IntKind.i16.min ≤ x) && decide (x ≤ IntKind.i16.max)) = true := h.2 x hx
  have e1 : IntKind.i16.min = -32768 := by decide
  have e2 : IntKind.i16.max = 32767 := by decide
  rw [e1, e2] at h1
  simpa using h1
end Go.Proofs.Ytkjibgfgbfacdaa.P
end
/-! part: PBookF -/
section
set_option linter.unusedVariables false
set_option linter.unusedSimpArgs false
namespace Go.Proofs.Ytkjibgfgbfacdaa.P
open Go.RowKit Go.Proofs.YtkjibgfgbfacdaaW.PrintWords Go.Proofs.YtkjibgfgbfacdaaW.PrintLast Go.Proofs.YtkjibgfgbfacdaaW.PrintMore
set_option linter.unusedVariables false

/-- A list cut into D rows of M. -/
def rowsOf (M : Nat) : Nat → List Int → List (List Int)
  | 0, _ => []
  | D + 1, l => l.take M :: rowsOf M D (l.drop M)
/-! ### book.From -/
theorem i16_wrap {x : Int} (h : -32768 ≤ x ∧ x ≤ 32767) : IntKind.i16.wrap x = x := by
  simp [IntKind.wrap, IntKind.bits, IntKind.signed]
  split <;> omega
/-- What a text tells: its way, numbers, cuts. -/
def fromP (t : List Int) : Int × List (List Int) × Int :=
  if t.length < 10 then (0, [], 2) else
    if t.length = 10 + (t.getD 8 0).toNat * (t.getD 9 0).toNat * 2 then
      (if bookOk (dec 8 (t.take 8)) (rowsOf (t.getD 9 0).toNat (t.getD 8 0).toNat (decs 2 ((t.getD 8 0).toNat * (t.getD 9 0).toNat) (t.drop 10))) = true then
        (dec 8 (t.take 8), rowsOf (t.getD 9 0).toNat (t.getD 8 0).toNat (decs 2 ((t.getD 8 0).toNat * (t.getD 9 0).toNat) (t.drop 10)), 0) else (0, [], 2))
    else (0, [], 2)
end Go.Proofs.Ytkjibgfgbfacdaa.P
end
