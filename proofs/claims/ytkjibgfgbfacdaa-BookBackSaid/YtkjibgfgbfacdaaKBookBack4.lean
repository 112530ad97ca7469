/- The law BookBack of this seat answers true for every input, and its arguments read as they did. Conditions: none. -/
import Derived.Laws.BitsLemmas
import Derived.KernelRfl
import Derived.Test.YtkjibgfgbfacdaaRows
import Derived.Test.YtkjibgfgbfacdaaKBookBack0
import Derived.Test.YtkjibgfgbfacdaaKBookBack1
import Derived.Test.YtkjibgfgbfacdaaKBookBack2
import Derived.Test.YtkjibgfgbfacdaaKBookBack3
/-! part: F7 -/
section
set_option linter.unusedVariables false
set_option linter.unusedSimpArgs false
namespace Go.Proofs.Ytkjibgfgbfacdaa.P
open Go.RowKit Go.Proofs.YtkjibgfgbfacdaaW.PrintWords Go.Proofs.YtkjibgfgbfacdaaW.PrintLast Go.Proofs.YtkjibgfgbfacdaaW.PrintMore
attribute [local go_sem] max2_int min2_int max_two min_two max_three min_three max_four min_four   -- for this text's walks alone
set_option linter.unusedVariables false
set_option linter.unusedSimpArgs false

/-! ### cuvettelaw08_BookBack: function 7 -/
mutual
def cuvettelaw08_BookBack.j0 : Nat → List Int → Int → Int → Bool → Bool → Int → List (List Int) → Option (Bool)
  | 0, _, _, _, _, _, _, _ => none
  | k + 1, x1, x2, x3, x9, x36, x688000, x688001 => if x36 = true then (some x9) else ((book_From.f k x1).bind fun bt690 => (if bt690.2.2 = 0 then ((book_Bytes.f k bt690.1 bt690.2.1).bind fun bt696 => (if bt696.2 = 0 then (if (strOfNums bt696.1).toList = (strOfNums x1).toList then ((h_quant_Check.f bt690.1 bt690.2.1).bind fun t700 => (if t700 = 0 then (cuvettelaw08_BookBack.j1 k x2 x3 x9 x688000 x688001) else (some false))) else (some false)) else (some false))) else (cuvettelaw08_BookBack.j1 k x2 x3 x9 x688000 x688001)))
def cuvettelaw08_BookBack.j1 : Nat → Int → Int → Bool → Int → List (List Int) → Option (Bool)
  | 0, _, _, _, _, _ => none
  | k + 1, x2, x3, x9, x688000, x688001 => (book_Bytes.f k x688000 x688001).bind fun bt701 => (if bt701.2 = 0 then ((book_From.f k bt701.1).bind fun bt705 => (if bt705.2.2 = 0 then ((book_Same.f bt705.1 bt705.2.1 x688000 x688001).bind fun t711 => (if t711 = true then (cuvettelaw08_BookBack.j2 k x2 x3 x9) else (some false))) else (some false))) else (cuvettelaw08_BookBack.j2 k x2 x3 x9))
def cuvettelaw08_BookBack.j2 : Nat → Int → Int → Bool → Option (Bool)
  | 0, _, _, _ => none
  | k + 1, x2, x3, x9 => (book_Plain.f k x2 x3).bind fun bt712 => ((book_Size.f x2 x3).bind fun bt718 => (if bt712.2.2 = 0 then ((book_Bytes.f k bt712.1 bt712.2.1).bind fun bt720 => ((quant_Cells.f bt712.1 bt712.2.1).bind fun bt724 => (if x9 = true then (if bt718.2 = 0 then (if bt720.2 = 0 then (if bt724.2 = 0 then (if (bt720.1.length : Int) = bt718.1 then (if bt724.1 = x3 then (some ((bt712.2.1.length : Int) == x2)) else (some false)) else (some false)) else (some false)) else (some false)) else (some false)) else (some false)))) else (if x9 = true then (some (bt712.2.2 == bt718.2)) else (some false))))
end
def cuvettelaw08_BookBack.f (k : Nat) (a0_0 : Int) (l0_1 : List (List Int)) (l1 : List Int) (a2 : Int) (a3 : Int) : Option (Bool) := (cuvettelaw08_live.f k).bind fun t688 => (if t688 = true then ((cuvetteref07_Few.f k a0_0 l0_1).bind fun t689 => (if t689 = true then (cuvettelaw08_BookBack.j0 k l1 a2 a3 t688 (decide ((l1.length : Int) > 3000)) a0_0 l0_1) else (cuvettelaw08_BookBack.j0 k l1 a2 a3 t688 true a0_0 l0_1))) else (some false))
theorem cuvettelaw08_BookBack.mono_l : ∀ k, (∀ y0 y1 y2 y3 y4 y5 y6, LeO (cuvettelaw08_BookBack.j0 k y0 y1 y2 y3 y4 y5 y6) (cuvettelaw08_BookBack.j0 (k + 1) y0 y1 y2 y3 y4 y5 y6)) ∧ (∀ y0 y1 y2 y3 y4, LeO (cuvettelaw08_BookBack.j1 k y0 y1 y2 y3 y4) (cuvettelaw08_BookBack.j1 (k + 1) y0 y1 y2 y3 y4)) ∧ (∀ y0 y1 y2, LeO (cuvettelaw08_BookBack.j2 k y0 y1 y2) (cuvettelaw08_BookBack.j2 (k + 1) y0 y1 y2))
  | 0 => ⟨fun _ _ _ _ _ _ _ r h => by simp [cuvettelaw08_BookBack.j0] at h, fun _ _ _ _ _ r h => by simp [cuvettelaw08_BookBack.j1] at h, fun _ _ _ r h => by simp [cuvettelaw08_BookBack.j2] at h⟩
  | k + 1 => by
    obtain ⟨ih0, ih1, ih2⟩ := cuvettelaw08_BookBack.mono_l k
    refine ⟨?_, ?_, ?_⟩
    · intro y0 y1 y2 y3 y4 y5 y6
      unfold cuvettelaw08_BookBack.j0
      repeat' first
      | (with_reducible exact ih0 _ _ _ _ _ _ _)
      | (with_reducible exact ih1 _ _ _ _ _)
      | (with_reducible exact ih2 _ _ _)
      | (with_reducible exact book_Bytes.mono _ _ _)
      | (with_reducible exact book_From.mono _ _)
      | (with_reducible exact book_Plain.mono _ _ _)
      | (with_reducible exact cuvettelaw08_live.mono _)
      | (with_reducible exact cuvetteref07_Few.mono _ _ _)
      | (with_reducible exact LeO.refl _)
      | (with_reducible exact LeO.none _)
      | (with_reducible refine LeO.ite ?_ ?_)
      | (with_reducible refine LeO.bind ?_ (fun _ => ?_))
      | exact ih0 _ _ _ _ _ _ _
      | exact ih1 _ _ _ _ _
      | exact ih2 _ _ _
      | exact book_Bytes.mono _ _ _
      | exact book_From.mono _ _
      | exact book_Plain.mono _ _ _
      | exact cuvettelaw08_live.mono _
      | exact cuvetteref07_Few.mono _ _ _
      | exact LeO.none _
      | refine LeO.ite ?_ ?_
      | refine LeO.bind ?_ (fun _ => ?_)
    · intro y0 y1 y2 y3 y4
      unfold cuvettelaw08_BookBack.j1
      repeat' first
      | (with_reducible exact ih0 _ _ _ _ _ _ _)
      | (with_reducible exact ih1 _ _ _ _ _)
      | (with_reducible exact ih2 _ _ _)
      | (with_reducible exact book_Bytes.mono _ _ _)
      | (with_reducible exact book_From.mono _ _)
      | (with_reducible exact book_Plain.mono _ _ _)
      | (with_reducible exact cuvettelaw08_live.mono _)
      | (with_reducible exact cuvetteref07_Few.mono _ _ _)
      | (with_reducible exact LeO.refl _)
      | (with_reducible exact LeO.none _)
      | (with_reducible refine LeO.ite ?_ ?_)
      | (with_reducible refine LeO.bind ?_ (fun _ => ?_))
      | exact ih0 _ _ _ _ _ _ _
      | exact ih1 _ _ _ _ _
      | exact ih2 _ _ _
      | exact book_Bytes.mono _ _ _
      | exact book_From.mono _ _
      | exact book_Plain.mono _ _ _
      | exact cuvettelaw08_live.mono _
      | exact cuvetteref07_Few.mono _ _ _
      | exact LeO.none _
      | refine LeO.ite ?_ ?_
      | refine LeO.bind ?_ (fun _ => ?_)
    · intro y0 y1 y2
      unfold cuvettelaw08_BookBack.j2
      repeat' first
      | (with_reducible exact ih0 _ _ _ _ _ _ _)
      | (with_reducible exact ih1 _ _ _ _ _)
      | (with_reducible exact ih2 _ _ _)
      | (with_reducible exact book_Bytes.mono _ _ _)
      | (with_reducible exact book_From.mono _ _)
      | (with_reducible exact book_Plain.mono _ _ _)
      | (with_reducible exact cuvettelaw08_live.mono _)
      | (with_reducible exact cuvetteref07_Few.mono _ _ _)
      | (with_reducible exact LeO.refl _)
      | (with_reducible exact LeO.none _)
      | (with_reducible refine LeO.ite ?_ ?_)
      | (with_reducible refine LeO.bind ?_ (fun _ => ?_))
      | exact ih0 _ _ _ _ _ _ _
      | exact ih1 _ _ _ _ _
      | exact ih2 _ _ _
      | exact book_Bytes.mono _ _ _
      | exact book_From.mono _ _
      | exact book_Plain.mono _ _ _
      | exact cuvettelaw08_live.mono _
      | exact cuvetteref07_Few.mono _ _ _
      | exact LeO.none _
      | refine LeO.ite ?_ ?_
      | refine LeO.bind ?_ (fun _ => ?_)
theorem cuvettelaw08_BookBack.mono : ∀ a0 a1 a2 a3 a4 k, LeO (cuvettelaw08_BookBack.f k a0 a1 a2 a3 a4) (cuvettelaw08_BookBack.f (k + 1) a0 a1 a2 a3 a4) := by
  intro a0 a1 a2 a3 a4 k
  obtain ⟨ih0, ih1, ih2⟩ := cuvettelaw08_BookBack.mono_l k
  unfold cuvettelaw08_BookBack.f
  repeat' first
      | (with_reducible exact ih0 _ _ _ _ _ _ _)
      | (with_reducible exact ih1 _ _ _ _ _)
      | (with_reducible exact ih2 _ _ _)
      | (with_reducible exact book_Bytes.mono _ _ _)
      | (with_reducible exact book_From.mono _ _)
      | (with_reducible exact book_Plain.mono _ _ _)
      | (with_reducible exact cuvettelaw08_live.mono _)
      | (with_reducible exact cuvetteref07_Few.mono _ _ _)
      | (with_reducible exact LeO.refl _)
      | (with_reducible exact LeO.none _)
      | (with_reducible refine LeO.ite ?_ ?_)
      | (with_reducible refine LeO.bind ?_ (fun _ => ?_))
      | exact ih0 _ _ _ _ _ _ _
      | exact ih1 _ _ _ _ _
      | exact ih2 _ _ _
      | exact book_Bytes.mono _ _ _
      | exact book_From.mono _ _
      | exact book_Plain.mono _ _ _
      | exact cuvettelaw08_live.mono _
      | exact cuvetteref07_Few.mono _ _ _
      | exact LeO.none _
      | refine LeO.ite ?_ ?_
      | refine LeO.bind ?_ (fun _ => ?_)
set_option maxHeartbeats 8000000 in
set_option maxRecDepth 100000 in
theorem cuvettelaw08_BookBack.calls (k : Nat) (a0_0 : Int) (A0_1 : Option Addr) (c0_1 : Nat) (l0_1 : List (List Int)) (A1 : Option Addr) (c1 : Nat) (l1 : List Int) (a2 : Int) (a3 : Int) (r : Bool) (w : World) (hr0_1 : Kd.C (Kd.slice 74 (Kd.int .i16)) w A0_1 l0_1.length l0_1) (hc0_1 : l0_1.length ≤ c0_1) (hr1 : Kd.C (Kd.int .u8) w A1 l1.length l1) (hc1 : l1.length ≤ c1) (h : cuvettelaw08_BookBack.f k a0_0 l0_1 l1 a2 a3 = some r) (hT_ : r = true) :
    Calls Try.prog 7 #[.agg #[.int .i64 a0_0, .slice A0_1 l0_1.length c0_1], .slice A1 l1.length c1, .int .i64 a2, .int .i64 a3] w fun e w' => e = .returned (.bool r) ∧ Below w.heap.size w w' := by
  have hu49 := Try.underlying49
  have HR0_1 := Aside0.mk hr0_1
  have HC0_1 := Aside0.mk hc0_1
  clear hr0_1 hc0_1
  have HR1 := Aside0.mk hr1
  have HC1 := Aside0.mk hc1
  clear hr1 hc1
  have HB := Aside0.mk (Below.refl w.heap.size w)
  have H : ((cuvettelaw08_live.f k).bind fun t688 => (if t688 = true then ((cuvetteref07_Few.f k a0_0 l0_1).bind fun t689 => (if t689 = true then (cuvettelaw08_BookBack.j0 k l1 a2 a3 t688 (decide ((l1.length : Int) > 3000)) a0_0 l0_1) else (cuvettelaw08_BookBack.j0 k l1 a2 a3 t688 true a0_0 l0_1))) else (some false))) = some r := h
  clear h
  replace H := Option.bind_eq_some_iff.mp H
  obtain ⟨t688, A50, H⟩ := H
  replace H : (if t688 = true then ((cuvetteref07_Few.f k a0_0 l0_1).bind fun t689 => (if t689 = true then (cuvettelaw08_BookBack.j0 k l1 a2 a3 t688 (decide ((l1.length : Int) > 3000)) a0_0 l0_1) else (cuvettelaw08_BookBack.j0 k l1 a2 a3 t688 true a0_0 l0_1))) else (some false)) = some r := H
  have A5 := Aside0.mk A50
  clear A50
  by_cases c6 : t688 = true
  · subst c6
    have H1 : ((cuvetteref07_Few.f k a0_0 l0_1).bind fun t689 => (if t689 = true then (cuvettelaw08_BookBack.j0 k l1 a2 a3 true (decide ((l1.length : Int) > 3000)) a0_0 l0_1) else (cuvettelaw08_BookBack.j0 k l1 a2 a3 true true a0_0 l0_1))) = some r := by rw [if_pos rfl] at H; exact H
    clear H
    have H := H1
    clear H1
    have HC7 := Aside0.mk H
    clear H
    go_enter Try.func7, Try.ntmps7
    go_upto_region 4 with (first | ((with_reducible refine gate_dst (N := 4) rfl ?_); (try (refine gate_guard (by rfl) ?_; dsimp only)); refine box_event ?hg (N := 4) ?hd (cs := #[.int .i64 a0_0, .slice A0_1 l0_1.length c0_1]) (t := 49) ?hr ?_; (case hd => rfl); (case hg => rfl); (case hr => first | (go_simp; done) | (go_simp; rfl)); intro gb687 hg w8 hbox hb; have n0_ := Aside0.mk (below_step (by repeat (first | (with_reducible first | exact HB.out | apply below_alloc | apply pw_below_drewN | apply below_drew1) | exact HB.out)) hb); have n1_ := Aside0.mk (hbox); have n2_ := Aside0.mk ((by rw [hg]; exact (below_size (by repeat (first | (with_reducible first | exact HB.out | apply below_alloc | apply pw_below_drewN | apply below_drew1) | exact HB.out))) : w.heap.size ≤ gb687)); have n3_ := Aside0.mk ((by rw [hg]; exact (below_size (by repeat (first | (with_reducible first | exact HB.out | apply below_alloc | apply pw_below_drewN | apply below_drew1) | exact HB.out))) : w.heap.size ≤ gb687)); clear HB; have HB := n0_; have BK687 := n1_; have GW687 := n2_; have GE687 := n3_; clear n0_ n1_ n2_ n3_; clear hb hbox hg) | ((with_reducible refine gate_callee (f := 35) rfl ?_); refine goesL_ (some 26) rfl rfl Try.func35 (by kernel_rfl) rfl #[] rfl (by (try simp only [List.map_toArray, List.map_cons, List.map_nil]); first | done | rfl | (simp only [List.length_drop, List.length_take]; rfl)) ?_; (with_reducible refine (cuvettelaw08_live.calls k  true _ A5.out).mono ?_); rintro e w9 ⟨rfl, hb⟩; refine ⟨_, rfl, ?_⟩; have n0_ := Aside0.mk (blk_below (g := gb687) (o := .cells #[.int .i64 a0_0, .slice A0_1 l0_1.length c0_1] 49 (0, 0)) (by (with_reducible repeat (first | refine blk_drewN ?_ _ | refine blk_drew ?_ | refine blk_alloc ?_ _)); exact BK687.out) hb); have n1_ := Aside0.mk (below_step (by repeat (first | (with_reducible first | exact HB.out | apply below_alloc | apply pw_below_drewN | apply below_drew1 | refine below_set ?_ GE687.out) | exact HB.out)) hb); clear BK687; clear HB; have BK687 := n0_; have HB := n1_; clear n0_ n1_; (try clear hb); (try clear hb2); (try clear hk); (try clear hi)))
    (try simp only [Act.put, List.setIfInBounds_toArray, List.set_cons_zero, List.set_cons_succ])
    go_cut [36] (fun v36 wc => ∃ (kq : Nat) (x36_6 : Bool), v36 = .bool x36_6 ∧ Aside0 (cuvettelaw08_BookBack.j0 kq l1 a2 a3 true x36_6 a0_0 l0_1 = some r) ∧ Aside0 (kq ≤ k) ∧ Aside0 (wc.heap[gb687]? = some (.cells #[.int .i64 a0_0, (.slice A0_1 l0_1.length c0_1)] 49 (0, 0))) ∧ Aside0 (Below w.heap.size w wc))
    case first =>
      have H := HC7.out
      clear HC7
      replace H := Option.bind_eq_some_iff.mp H
      obtain ⟨t689, A100, H⟩ := H
      replace H : (if t689 = true then (cuvettelaw08_BookBack.j0 k l1 a2 a3 true (decide ((l1.length : Int) > 3000)) a0_0 l0_1) else (cuvettelaw08_BookBack.j0 k l1 a2 a3 true true a0_0 l0_1)) = some r := H
      have A10 := Aside0.mk A100
      clear A100
      by_cases c11 : t689 = true
      · subst c11
        have H1 : (cuvettelaw08_BookBack.j0 k l1 a2 a3 true (decide ((l1.length : Int) > 3000)) a0_0 l0_1) = some r := by rw [if_pos rfl] at H; exact H
        clear H
        have H := H1
        clear H1
        have H' := Aside0.mk H
        clear H
        have hcz12_0 : w9.cell? ⟨gb687, 0, none⟩ = some (.int .i64 a0_0) := (blk_cell BK687.out 0).trans rfl
        have hcz12_1 : w9.cell? ⟨gb687, 1, none⟩ = some (.slice A0_1 l0_1.length c0_1) := (blk_cell BK687.out 1).trans rfl
        have hfz12_0 := blk_frozen BK687.out 0
        have hfz12_1 := blk_frozen BK687.out 1
        go_wp2_with (first | ((with_reducible refine gate_callee (f := 36) rfl ?_); refine goesL_ (some 30) rfl rfl Try.func36 (by kernel_rfl) rfl #[.agg #[.int .i64 a0_0, .slice A0_1 l0_1.length c0_1]] rfl (by (try simp only [List.map_toArray, List.map_cons, List.map_nil]); first | done | rfl | (simp only [List.length_drop, List.length_take]; rfl)) ?_; (with_reducible refine (cuvetteref07_Few.calls k a0_0 _ _ l0_1 true _ ?side1 ?side2 A10.out).mono ?_); (case side1 => repeat (first | exact (Kd.C_below HR0_1.out HB.out) | (with_reducible refine Kd.C_alloc ?_ _) | (with_reducible refine Kd.C_drewN ?_ _) | (with_reducible refine Kd.C_drew ?_))); (case side2 => exact HC0_1.out); rintro e w13 ⟨rfl, hb⟩; refine ⟨_, rfl, ?_⟩; have n0_ := Aside0.mk (blk_below (g := gb687) (o := .cells #[.int .i64 a0_0, .slice A0_1 l0_1.length c0_1] 49 (0, 0)) (by (with_reducible repeat (first | refine blk_drewN ?_ _ | refine blk_drew ?_ | refine blk_alloc ?_ _)); exact BK687.out) hb); have n1_ := Aside0.mk (below_step (by repeat (first | (with_reducible first | exact HB.out | apply below_alloc | apply pw_below_drewN | apply below_drew1 | refine below_set ?_ GE687.out) | exact HB.out)) hb); clear BK687; clear HB; have BK687 := n0_; have HB := n1_; clear n0_ n1_; (try clear hb); (try clear hb2); (try clear hk); (try clear hi)))
        go_meet
        case rel => exact ⟨_, (decide ((l1.length : Int) > 3000)), (by first | rfl | (simp; done) | (simp [*]; done)), H', ⟨by first | omega | exact Nat.le_refl _⟩, ⟨by (with_reducible repeat (first | refine blk_drewN ?_ _ | refine blk_drew ?_ | refine blk_alloc ?_ _)); exact BK687.out⟩, ⟨by repeat (first | (with_reducible first | exact HB.out | apply below_alloc | apply pw_below_drewN | apply below_drew1 | refine below_set ?_ GE687.out) | exact HB.out)⟩⟩
      · replace c11 := Bool.eq_false_iff.mpr c11
        subst c11
        have H1 : (cuvettelaw08_BookBack.j0 k l1 a2 a3 true true a0_0 l0_1) = some r := by rw [if_neg (show ¬ (false = true) by decide)] at H; exact H
        clear H
        have H := H1
        clear H1
        have H' := Aside0.mk H
        clear H
        have hcz14_0 : w9.cell? ⟨gb687, 0, none⟩ = some (.int .i64 a0_0) := (blk_cell BK687.out 0).trans rfl
        have hcz14_1 : w9.cell? ⟨gb687, 1, none⟩ = some (.slice A0_1 l0_1.length c0_1) := (blk_cell BK687.out 1).trans rfl
        have hfz14_0 := blk_frozen BK687.out 0
        have hfz14_1 := blk_frozen BK687.out 1
        go_wp2_with (first | ((with_reducible refine gate_callee (f := 36) rfl ?_); refine goesL_ (some 30) rfl rfl Try.func36 (by kernel_rfl) rfl #[.agg #[.int .i64 a0_0, .slice A0_1 l0_1.length c0_1]] rfl (by (try simp only [List.map_toArray, List.map_cons, List.map_nil]); first | done | rfl | (simp only [List.length_drop, List.length_take]; rfl)) ?_; (with_reducible refine (cuvetteref07_Few.calls k a0_0 _ _ l0_1 false _ ?side1 ?side2 A10.out).mono ?_); (case side1 => repeat (first | exact (Kd.C_below HR0_1.out HB.out) | (with_reducible refine Kd.C_alloc ?_ _) | (with_reducible refine Kd.C_drewN ?_ _) | (with_reducible refine Kd.C_drew ?_))); (case side2 => exact HC0_1.out); rintro e w15 ⟨rfl, hb⟩; refine ⟨_, rfl, ?_⟩; have n0_ := Aside0.mk (blk_below (g := gb687) (o := .cells #[.int .i64 a0_0, .slice A0_1 l0_1.length c0_1] 49 (0, 0)) (by (with_reducible repeat (first | refine blk_drewN ?_ _ | refine blk_drew ?_ | refine blk_alloc ?_ _)); exact BK687.out) hb); have n1_ := Aside0.mk (below_step (by repeat (first | (with_reducible first | exact HB.out | apply below_alloc | apply pw_below_drewN | apply below_drew1 | refine below_set ?_ GE687.out) | exact HB.out)) hb); clear BK687; clear HB; have BK687 := n0_; have HB := n1_; clear n0_ n1_; (try clear hb); (try clear hb2); (try clear hk); (try clear hi)))
        go_meet
        case rel => exact ⟨_, (true), (by first | rfl | (simp; done) | (simp [*]; done)), H', ⟨by first | omega | exact Nat.le_refl _⟩, ⟨by (with_reducible repeat (first | refine blk_drewN ?_ _ | refine blk_drew ?_ | refine blk_alloc ?_ _)); exact BK687.out⟩, ⟨by repeat (first | (with_reducible first | exact HB.out | apply below_alloc | apply pw_below_drewN | apply below_drew1 | refine below_set ?_ GE687.out) | exact HB.out)⟩⟩
    case rest =>
      clear HC7
      try clear c1
      try clear p2
      try clear c3
      try clear c6
      try clear c7
      try clear c11
      try clear hcz12_0
      try clear hcz12_1
      try clear hcz14_0
      try clear hcz14_1
      try clear hfz12_0
      try clear hfz12_1
      try clear hfz14_0
      try clear hfz14_1
      obtain ⟨kq, x36_6, rfl, HA, HJ6, BK687, HB⟩ := hcut
      cases kq with
      | zero => exact absurd HA.out (by simp [cuvettelaw08_BookBack.j0])
      | succ kj6 =>
        have H := HA.out
        clear HA
        simp only [cuvettelaw08_BookBack.j0] at H
        by_cases c16 : x36_6 = true
        · subst c16
          have H1 : (some true) = some r := by rw [if_pos rfl] at H; exact H
          clear H
          have H := H1
          clear H1
          obtain rfl := Option.some.inj H
          go_wp2
          go_ret
          exact ⟨by first | rfl | (simp [errW_none, errW_some] <;> rfl) | (simp [*, errW_none, errW_some] <;> rfl), by repeat (first | (with_reducible first | exact HB.out | apply below_alloc | apply pw_below_drewN | apply below_drew1 | refine below_set ?_ GE687.out) | exact HB.out)⟩
        · replace c16 := Bool.eq_false_iff.mpr c16
          subst c16
          have H1 : ((book_From.f kj6 l1).bind fun bt690 => (if bt690.2.2 = 0 then ((book_Bytes.f kj6 bt690.1 bt690.2.1).bind fun bt696 => (if bt696.2 = 0 then (if (strOfNums bt696.1).toList = (strOfNums l1).toList then ((h_quant_Check.f bt690.1 bt690.2.1).bind fun t700 => (if t700 = 0 then (cuvettelaw08_BookBack.j1 kj6 a2 a3 true a0_0 l0_1) else (some false))) else (some false)) else (some false))) else (cuvettelaw08_BookBack.j1 kj6 a2 a3 true a0_0 l0_1))) = some r := by rw [if_neg (show ¬ (false = true) by decide)] at H; exact H
          clear H
          have H := H1
          clear H1
          replace H := Option.bind_eq_some_iff.mp H
          obtain ⟨⟨t690, t691, t694⟩, A170, H⟩ := H
          replace H : (if t694 = 0 then ((book_Bytes.f kj6 t690 t691).bind fun bt696 => (if bt696.2 = 0 then (if (strOfNums bt696.1).toList = (strOfNums l1).toList then ((h_quant_Check.f t690 t691).bind fun t700 => (if t700 = 0 then (cuvettelaw08_BookBack.j1 kj6 a2 a3 true a0_0 l0_1) else (some false))) else (some false)) else (some false))) else (cuvettelaw08_BookBack.j1 kj6 a2 a3 true a0_0 l0_1)) = some r := H
          have A17 := Aside0.mk A170
          clear A170
          have HC18 := Aside0.mk H
          clear H
          go_upto_if 44 with (first | ((with_reducible refine gate_callee (f := 39) rfl ?_); refine goesL_ (some 40) rfl rfl Try.func39 (by kernel_rfl) rfl #[.slice A1 l1.length c1] rfl (by (try simp only [List.map_toArray, List.map_cons, List.map_nil]); first | done | rfl | (simp only [List.length_drop, List.length_take]; rfl)) ?_; (with_reducible refine (book_From.calls kj6 _ _ l1 t690 t691 t694 _ ?side1 ?side2 A17.out).mono ?_); (case side1 => repeat (first | exact (Kd.C_below HR1.out HB.out) | (with_reducible refine Kd.C_alloc ?_ _) | (with_reducible refine Kd.C_drewN ?_ _) | (with_reducible refine Kd.C_drew ?_))); (case side2 => exact HC1.out); rintro e w19 ⟨v692, rfl, ho0, hb⟩; refine ⟨_, rfl, ?_⟩; have n0_ := Aside0.mk (Kd.S_lower ho0 (below_size (by repeat (first | (with_reducible first | exact HB.out | apply below_alloc | apply pw_below_drewN | apply below_drew1 | refine below_set ?_ GE687.out) | exact HB.out)))); have n1_ := Aside0.mk (blk_below (g := gb687) (o := .cells #[.int .i64 a0_0, .slice A0_1 l0_1.length c0_1] 49 (0, 0)) (by (with_reducible repeat (first | refine blk_drewN ?_ _ | refine blk_drew ?_ | refine blk_alloc ?_ _)); exact BK687.out) hb); have n2_ := Aside0.mk (below_step (by repeat (first | (with_reducible first | exact HB.out | apply below_alloc | apply pw_below_drewN | apply below_drew1 | refine below_set ?_ GE687.out) | exact HB.out)) hb); clear BK687; clear HB; have HO693 := n0_; have BK687 := n1_; have HB := n2_; clear n0_ n1_ n2_; (try clear hb); (try clear hb2); (try clear hk); (try clear hi); (try clear ho0)) | ((with_reducible refine gate_dst (N := 10) rfl ?_); (try (refine gate_guard (by rfl) ?_; dsimp only)); refine box_event ?hg (N := 10) ?hd (cs := #[.int .i64 0, .slice none 0 0]) (t := 49) ?hr ?_; (case hd => rfl); (case hg => rfl); (case hr => first | (go_simp; done) | (go_simp; rfl)); intro gb695 hg w20 hbox hb; have n0_ := Aside0.mk (Kd.S_below (by (with_reducible repeat (first | apply Kd.S_alloc | apply Kd.S_drewN | apply Kd.S_drew)); exact HO693.out) hb); have n1_ := Aside0.mk (blk_below (g := gb687) (o := .cells #[.int .i64 a0_0, .slice A0_1 l0_1.length c0_1] 49 (0, 0)) (by (with_reducible repeat (first | refine blk_drewN ?_ _ | refine blk_drew ?_ | refine blk_alloc ?_ _)); exact BK687.out) hb); have n2_ := Aside0.mk (below_step (by repeat (first | (with_reducible first | exact HB.out | apply below_alloc | apply pw_below_drewN | apply below_drew1 | refine below_set ?_ GE687.out) | exact HB.out)) hb); have n3_ := Aside0.mk (hbox); have n4_ := Aside0.mk ((by rw [hg]; exact (below_size (by repeat (first | (with_reducible first | exact HB.out | apply below_alloc | apply pw_below_drewN | apply below_drew1 | refine below_set ?_ GE687.out) | exact HB.out))) : w.heap.size ≤ gb695)); have n5_ := Aside0.mk ((by rw [hg]; exact (below_size (by repeat (first | (with_reducible first | exact HB.out | apply below_alloc | apply pw_below_drewN | apply below_drew1 | refine below_set ?_ GE687.out) | exact HB.out))) : w.heap.size ≤ gb695)); have n6_ := Aside0.mk ((by rw [hg]; exact Nat.ne_of_lt (blk_lt (g := gb687) (o := .cells #[.int .i64 a0_0, .slice A0_1 l0_1.length c0_1] 49 (0, 0)) (by (with_reducible repeat (first | refine blk_drewN ?_ _ | refine blk_drew ?_ | refine blk_alloc ?_ _)); exact BK687.out)) : gb687 ≠ gb695)); have n7_ := Aside0.mk ((by rw [hg]; exact Nat.ne_of_gt (blk_lt (g := gb687) (o := .cells #[.int .i64 a0_0, .slice A0_1 l0_1.length c0_1] 49 (0, 0)) (by (with_reducible repeat (first | refine blk_drewN ?_ _ | refine blk_drew ?_ | refine blk_alloc ?_ _)); exact BK687.out)) : gb695 ≠ gb687)); clear HO693; clear BK687; clear HB; have HO693 := n0_; have BK687 := n1_; have HB := n2_; have BK695 := n3_; have GW695 := n4_; have GE695 := n5_; have NB687_695 := n6_; have NB695_687 := n7_; clear n0_ n1_ n2_ n3_ n4_ n5_ n6_ n7_; clear hb hbox hg; have hnb21 := NB695_687.out; have hnc21 := NB687_695.out; have hcz22_0 : w20.cell? ⟨gb695, 0, none⟩ = some (.int .i64 0) := (blk_cell BK695.out 0).trans rfl; have hcz22_1 : w20.cell? ⟨gb695, 1, none⟩ = some (.slice none 0 0) := (blk_cell BK695.out 1).trans rfl; have hfz22_0 := blk_frozen BK695.out 0; have hfz22_1 := blk_frozen BK695.out 1; obtain ⟨Ao23, co23, eo23⟩ := Kd.S_slice HO693.out; subst eo23))
          (try simp only [Act.put, List.setIfInBounds_toArray, List.set_cons_zero, List.set_cons_succ])
          go_cut [] (fun wc => ∃ (kq : Nat), Aside0 (cuvettelaw08_BookBack.j1 kq a2 a3 true a0_0 l0_1 = some r) ∧ Aside0 (kq ≤ kj6) ∧ Aside0 (Kd.S (Kd.slice 74 (Kd.int .i16)) 26 wc w.heap.size (fun _ => True) (.slice Ao23 t691.length co23) t691) ∧ Aside0 (wc.heap[gb687]? = some (.cells #[.int .i64 a0_0, (.slice A0_1 l0_1.length c0_1)] 49 (0, 0))) ∧ Aside0 (wc.heap[gb695]? = some (.cells #[.int .i64 t690, (.slice Ao23 t691.length co23)] 49 (0, 0))) ∧ Aside0 (Below w.heap.size w wc))
          case first =>
            have H := HC18.out
            clear HC18
            by_cases c24 : t694 = 0
            · rw [if_pos c24] at H
              have c24b0 : (t694 == 0) = true := beq_iff_eq.mpr c24
              have c24b1 : (t694 != 0) = false := bne_eq_false_iff_eq.mpr c24
              clear c24
              (first | rw [c24b0] | (simp only [i64_w, i32_w]; rw [c24b0]) | skip)
              replace H := Option.bind_eq_some_iff.mp H
              obtain ⟨⟨t696, t699⟩, A250, H⟩ := H
              replace H : (if t699 = 0 then (if (strOfNums t696).toList = (strOfNums l1).toList then ((h_quant_Check.f t690 t691).bind fun t700 => (if t700 = 0 then (cuvettelaw08_BookBack.j1 kj6 a2 a3 true a0_0 l0_1) else (some false))) else (some false)) else (some false)) = some r := H
              have A25 := Aside0.mk A250
              clear A250
              by_cases c26 : t699 = 0
              · rw [if_pos c26] at H
                have c26b0 : (t699 == 0) = true := beq_iff_eq.mpr c26
                have c26b1 : (t699 != 0) = false := bne_eq_false_iff_eq.mpr c26
                clear c26
                by_cases c27 : (strOfNums t696).toList = (strOfNums l1).toList
                · rw [if_pos c27] at H
                  have c27b0 : ((strOfNums t696).toList == (strOfNums l1).toList) = true := beq_iff_eq.mpr c27
                  have c27b1 : ((strOfNums t696).toList != (strOfNums l1).toList) = false := bne_eq_false_iff_eq.mpr c27
                  clear c27
                  replace H := Option.bind_eq_some_iff.mp H
                  obtain ⟨t700, A280, H⟩ := H
                  replace H : (if t700 = 0 then (cuvettelaw08_BookBack.j1 kj6 a2 a3 true a0_0 l0_1) else (some false)) = some r := H
                  have A28 := Aside0.mk A280
                  clear A280
                  by_cases c29 : t700 = 0
                  · rw [if_pos c29] at H
                    have c29b0 : (t700 == 0) = true := beq_iff_eq.mpr c29
                    have c29b1 : (t700 != 0) = false := bne_eq_false_iff_eq.mpr c29
                    clear c29
                    have H' := Aside0.mk H
                    clear H
                    have hnb30 := NB695_687.out
                    have hnc30 := NB687_695.out
                    have hcz31_0 : w20.cell? ⟨gb695, 0, none⟩ = some (.int .i64 0) := (blk_cell BK695.out 0).trans rfl
                    have hcz31_1 : w20.cell? ⟨gb695, 1, none⟩ = some (.slice none 0 0) := (blk_cell BK695.out 1).trans rfl
                    have hfz31_0 := blk_frozen BK695.out 0
                    have hfz31_1 := blk_frozen BK695.out 1
                    go_wp2_with (first | ((with_reducible refine gate_callee (f := 37) rfl ?_); refine goesL_ (some 47) rfl rfl Try.func37 (by kernel_rfl) rfl #[.agg #[.int .i64 t690, .slice Ao23 t691.length co23]] rfl (by (try simp only [List.map_toArray, List.map_cons, List.map_nil]); first | done | rfl | (simp only [List.length_drop, List.length_take]; rfl)) ?_; (with_reducible refine (book_Bytes.calls kj6 t690 _ _ t691 t696 t699 _ ?side1 ?side2 A25.out).mono ?_); (case side1 => refine (Kd.S_reads' (e := 26) (base := w.heap.size) (ok := fun k_ => True) (n := t691.length) (c := co23) ?_).2.2; exact (by (with_reducible repeat (first | apply Kd.S_alloc | apply Kd.S_drewN | apply Kd.S_drew)); exact (Kd.S_mono (Kd.S_far (p := ⟨gb695, 1, none⟩) (Kd.S_far (p := ⟨gb695, 0, none⟩) (Kd.S_types HO693.out BK695.out (by decide)) (fun _ hk => hk.2) (.int .i64 t690)) (fun _ hk => hk.2) (.slice Ao23 t691.length co23)) (fun _ h_ => h_.1)))); (case side2 => exact (Kd.S_reads' HO693.out).2.1); rintro e w32 ⟨v697, rfl, ho0, hb⟩; refine ⟨_, rfl, ?_⟩; have n0_ := Aside0.mk (Kd.S_below (by (with_reducible repeat (first | apply Kd.S_alloc | apply Kd.S_drewN | apply Kd.S_drew)); exact (Kd.S_mono (Kd.S_far (p := ⟨gb695, 1, none⟩) (Kd.S_far (p := ⟨gb695, 0, none⟩) (Kd.S_types HO693.out BK695.out (by decide)) (fun _ hk => hk.2) (.int .i64 t690)) (fun _ hk => hk.2) (.slice Ao23 t691.length co23)) (fun _ h_ => h_.1))) hb); have n1_ := Aside0.mk (Kd.R_lower ho0 (below_size (by repeat (first | (with_reducible first | exact HB.out | apply below_alloc | apply pw_below_drewN | apply below_drew1 | refine below_set ?_ GE687.out | refine below_set ?_ GE695.out) | exact HB.out)))); have n2_ := Aside0.mk (blk_below (g := gb687) (o := .cells #[.int .i64 a0_0, .slice A0_1 l0_1.length c0_1] 49 (0, 0)) (by (with_reducible repeat (first | refine blk_drewN ?_ _ | refine blk_drew ?_ | refine blk_alloc ?_ _)); refine blk_far ?_ NB687_695.out _; (with_reducible repeat (first | refine blk_drewN ?_ _ | refine blk_drew ?_ | refine blk_alloc ?_ _)); refine blk_far ?_ NB687_695.out _; (with_reducible repeat (first | refine blk_drewN ?_ _ | refine blk_drew ?_ | refine blk_alloc ?_ _)); exact BK687.out) hb); have n3_ := Aside0.mk (blk_below (g := gb695) (o := .cells #[.int .i64 t690, .slice Ao23 t691.length co23] 49 (0, 0)) (by (with_reducible repeat (first | refine blk_drewN ?_ _ | refine blk_drew ?_ | refine blk_alloc ?_ _)); refine blk_put (cs := #[.int .i64 t690, .slice none 0 0]) ?_ 1 _ rfl; (with_reducible repeat (first | refine blk_drewN ?_ _ | refine blk_drew ?_ | refine blk_alloc ?_ _)); refine blk_put (cs := #[.int .i64 0, .slice none 0 0]) ?_ 0 _ rfl; (with_reducible repeat (first | refine blk_drewN ?_ _ | refine blk_drew ?_ | refine blk_alloc ?_ _)); exact BK695.out) hb); have n4_ := Aside0.mk (below_step (by repeat (first | (with_reducible first | exact HB.out | apply below_alloc | apply pw_below_drewN | apply below_drew1 | refine below_set ?_ GE687.out | refine below_set ?_ GE695.out) | exact HB.out)) hb); clear HO693; clear BK687; clear BK695; clear HB; have HO693 := n0_; have HO698 := n1_; have BK687 := n2_; have BK695 := n3_; have HB := n4_; clear n0_ n1_ n2_ n3_ n4_; (try clear hb); (try clear hb2); (try clear hk); (try clear hi); (try clear ho0); have hcv33 := own_string (P := Try.prog) Try.underlying50 Try.underlying5 Try.underlying9 (Kd.own_of_R HO698.out); have hcv34 := Kd.C_string (P := Try.prog) (A := A1) (c := c1) Try.underlying50 Try.underlying5 Try.underlying9 (Kd.C_below HR1.out HB.out); have hcz35_0 : w32.cell? ⟨gb695, 0, none⟩ = some (.int .i64 t690) := (blk_cell BK695.out 0).trans rfl; have hcz35_1 : w32.cell? ⟨gb695, 1, none⟩ = some (.slice Ao23 t691.length co23) := (blk_cell BK695.out 1).trans rfl; have hfz35_0 := blk_frozen BK695.out 0; have hfz35_1 := blk_frozen BK695.out 1) | (go_at_call 48; (with_reducible refine (h_quant_Check.calls t690 _ _ t691 t700 _ ?side1 ?side2 A28.out).mono ?_); (case side1 => repeat (first | exact (Kd.S_reads' HO693.out).2.2 | (with_reducible refine Kd.C_alloc ?_ _) | (with_reducible refine Kd.C_drewN ?_ _) | (with_reducible refine Kd.C_drew ?_))); (case side2 => exact (Kd.S_reads' HO693.out).2.1); rintro e w36 ⟨rfl, hb⟩; have n0_ := Aside0.mk (Kd.S_below (by (with_reducible repeat (first | apply Kd.S_alloc | apply Kd.S_drewN | apply Kd.S_drew)); exact HO693.out) hb); have n1_ := Aside0.mk (Kd.R_below (by (with_reducible repeat (first | apply Kd.R_alloc | apply Kd.R_drewN | apply Kd.R_drew)); exact HO698.out) hb); have n2_ := Aside0.mk (blk_below (g := gb687) (o := .cells #[.int .i64 a0_0, .slice A0_1 l0_1.length c0_1] 49 (0, 0)) (by (with_reducible repeat (first | refine blk_drewN ?_ _ | refine blk_drew ?_ | refine blk_alloc ?_ _)); exact BK687.out) hb); have n3_ := Aside0.mk (blk_below (g := gb695) (o := .cells #[.int .i64 t690, .slice Ao23 t691.length co23] 49 (0, 0)) (by (with_reducible repeat (first | refine blk_drewN ?_ _ | refine blk_drew ?_ | refine blk_alloc ?_ _)); exact BK695.out) hb); have n4_ := Aside0.mk (below_step (by repeat (first | (with_reducible first | exact HB.out | apply below_alloc | apply pw_below_drewN | apply below_drew1 | refine below_set ?_ GE687.out | refine below_set ?_ GE695.out) | exact HB.out)) hb); clear HO693; clear HO698; clear BK687; clear BK695; clear HB; have HO693 := n0_; have HO698 := n1_; have BK687 := n2_; have BK695 := n3_; have HB := n4_; clear n0_ n1_ n2_ n3_ n4_; (try clear hb); (try clear hb2); (try clear hk); (try clear hi)))
                    go_meet
                    case rel => exact ⟨_, H', ⟨by have := HJ6.out; first | omega | exact Nat.le_refl _⟩, ⟨by (with_reducible repeat (first | apply Kd.S_alloc | apply Kd.S_drewN | apply Kd.S_drew)); exact HO693.out⟩, ⟨by (with_reducible repeat (first | refine blk_drewN ?_ _ | refine blk_drew ?_ | refine blk_alloc ?_ _)); exact BK687.out⟩, ⟨by (with_reducible repeat (first | refine blk_drewN ?_ _ | refine blk_drew ?_ | refine blk_alloc ?_ _)); exact BK695.out⟩, ⟨by repeat (first | (with_reducible first | exact HB.out | apply below_alloc | apply pw_below_drewN | apply below_drew1 | refine below_set ?_ GE687.out | refine below_set ?_ GE695.out) | exact HB.out)⟩⟩
                  · rw [if_neg c29] at H
                    have c29b0 : (t700 == 0) = false := beq_eq_false_iff_ne.mpr c29
                    have c29b1 : (t700 != 0) = true := bne_iff_ne.mpr c29
                    exact absurd (Option.some.inj H) (by rw [hT_]; decide)
                · rw [if_neg c27] at H
                  have c27b0 : ((strOfNums t696).toList == (strOfNums l1).toList) = false := beq_eq_false_iff_ne.mpr c27
                  have c27b1 : ((strOfNums t696).toList != (strOfNums l1).toList) = true := bne_iff_ne.mpr c27
                  exact absurd (Option.some.inj H) (by rw [hT_]; decide)
              · rw [if_neg c26] at H
                have c26b0 : (t699 == 0) = false := beq_eq_false_iff_ne.mpr c26
                have c26b1 : (t699 != 0) = true := bne_iff_ne.mpr c26
                exact absurd (Option.some.inj H) (by rw [hT_]; decide)
            · rw [if_neg c24] at H
              have c24b0 : (t694 == 0) = false := beq_eq_false_iff_ne.mpr c24
              have c24b1 : (t694 != 0) = true := bne_iff_ne.mpr c24
              (first | rw [c24b0] | (simp only [i64_w, i32_w]; rw [c24b0]) | skip)
              have H' := Aside0.mk H
              clear H
              go_wp2
              go_meet
              case rel => exact ⟨_, H', ⟨by have := HJ6.out; first | omega | exact Nat.le_refl _⟩, ⟨by (with_reducible repeat (first | apply Kd.S_alloc | apply Kd.S_drewN | apply Kd.S_drew)); exact Kd.S_mono (Kd.S_far (p := ⟨gb695, 1, none⟩) (Kd.S_far (p := ⟨gb695, 0, none⟩) (Kd.S_types HO693.out BK695.out (by decide)) (fun _ hk => hk.2) (.int .i64 t690)) (fun _ hk => hk.2) (.slice Ao23 t691.length co23)) (fun _ hk => trivial)⟩, ⟨by (with_reducible repeat (first | refine blk_drewN ?_ _ | refine blk_drew ?_ | refine blk_alloc ?_ _)); refine blk_far ?_ NB687_695.out _; (with_reducible repeat (first | refine blk_drewN ?_ _ | refine blk_drew ?_ | refine blk_alloc ?_ _)); refine blk_far ?_ NB687_695.out _; (with_reducible repeat (first | refine blk_drewN ?_ _ | refine blk_drew ?_ | refine blk_alloc ?_ _)); exact BK687.out⟩, ⟨by (with_reducible repeat (first | refine blk_drewN ?_ _ | refine blk_drew ?_ | refine blk_alloc ?_ _)); refine blk_put (cs := #[.int .i64 t690, .slice none 0 0]) ?_ 1 _ rfl; (with_reducible repeat (first | refine blk_drewN ?_ _ | refine blk_drew ?_ | refine blk_alloc ?_ _)); refine blk_put (cs := #[.int .i64 0, .slice none 0 0]) ?_ 0 _ rfl; (with_reducible repeat (first | refine blk_drewN ?_ _ | refine blk_drew ?_ | refine blk_alloc ?_ _)); exact BK695.out⟩, ⟨by repeat (first | (with_reducible first | exact HB.out | apply below_alloc | apply pw_below_drewN | apply below_drew1 | refine below_set ?_ GE687.out | refine below_set ?_ GE695.out) | exact HB.out)⟩⟩
          case rest =>
            clear HC18
            try clear c1
            try clear c2
            try clear p2
            try clear c3
            try clear hcv3
            try clear c4
            try clear hcv4
            try clear c6
            try clear c7
            try clear c11
            try clear c16
            try clear c21
            try clear c24
            try clear c24b0
            try clear c24b1
            try clear c26
            try clear c26b0
            try clear c26b1
            try clear c27
            try clear c27b0
            try clear c27b1
            try clear c29
            try clear c29b0
            try clear c29b1
            try clear c30
            try clear hcv33
            try clear hcv34
            try clear c35
            try clear c36
            try clear c37
            try clear c39
            try clear hcv40
            try clear hcv41
            try clear c44
            try clear hcv47
            try clear hcv48
            try clear c49
            try clear hcz12_0
            try clear hcz12_1
            try clear hcz14_0
            try clear hcz14_1
            try clear hcz22_0
            try clear hcz22_1
            try clear hcz31_0
            try clear hcz31_1
            try clear hcz35_0
            try clear hcz35_1
            try clear hcz38_0
            try clear hcz38_1
            try clear hcz42_0
            try clear hcz42_1
            try clear hcz45_0
            try clear hcz45_1
            try clear hcz50_0
            try clear hcz50_1
            try clear hfz12_0
            try clear hfz12_1
            try clear hfz14_0
            try clear hfz14_1
            try clear hfz22_0
            try clear hfz22_1
            try clear hfz31_0
            try clear hfz31_1
            try clear hfz35_0
            try clear hfz35_1
            try clear hfz38_0
            try clear hfz38_1
            try clear hfz42_0
            try clear hfz42_1
            try clear hfz45_0
            try clear hfz45_1
            try clear hfz50_0
            try clear hfz50_1
            try clear p2
            obtain ⟨kq, HA, HJ17, HO_696001, BK687, BK695, HB⟩ := hcut
            cases kq with
            | zero => exact absurd HA.out (by simp [cuvettelaw08_BookBack.j1])
            | succ kj17 =>
              have H := HA.out
              clear HA
              simp only [cuvettelaw08_BookBack.j1] at H
              replace H := Option.bind_eq_some_iff.mp H
              obtain ⟨⟨t701, t704⟩, A520, H⟩ := H
              replace H : (if t704 = 0 then ((book_From.f kj17 t701).bind fun bt705 => (if bt705.2.2 = 0 then ((book_Same.f bt705.1 bt705.2.1 a0_0 l0_1).bind fun t711 => (if t711 = true then (cuvettelaw08_BookBack.j2 kj17 a2 a3 true) else (some false))) else (some false))) else (cuvettelaw08_BookBack.j2 kj17 a2 a3 true)) = some r := H
              have A52 := Aside0.mk A520
              clear A520
              have HC53 := Aside0.mk H
              clear H
              have hnb54 := NB687_695.out
              have hnc54 := NB695_687.out
              have hcz55_0 : wc.cell? ⟨gb687, 0, none⟩ = some (.int .i64 a0_0) := (blk_cell BK687.out 0).trans rfl
              have hcz55_1 : wc.cell? ⟨gb687, 1, none⟩ = some (.slice A0_1 l0_1.length c0_1) := (blk_cell BK687.out 1).trans rfl
              have hfz55_0 := blk_frozen BK687.out 0
              have hfz55_1 := blk_frozen BK687.out 1
              go_upto_if 70 with (first | ((with_reducible refine gate_callee (f := 37) rfl ?_); refine goesL_ (some 66) rfl rfl Try.func37 (by kernel_rfl) rfl #[.agg #[.int .i64 a0_0, .slice A0_1 l0_1.length c0_1]] rfl (by (try simp only [List.map_toArray, List.map_cons, List.map_nil]); first | done | rfl | (simp only [List.length_drop, List.length_take]; rfl)) ?_; (with_reducible refine (book_Bytes.calls kj17 a0_0 _ _ l0_1 t701 t704 _ ?side1 ?side2 A52.out).mono ?_); (case side1 => repeat (first | exact (Kd.C_below HR0_1.out HB.out) | (with_reducible refine Kd.C_alloc ?_ _) | (with_reducible refine Kd.C_drewN ?_ _) | (with_reducible refine Kd.C_drew ?_))); (case side2 => exact HC0_1.out); rintro e w56 ⟨v702, rfl, ho0, hb⟩; refine ⟨_, rfl, ?_⟩; have n0_ := Aside0.mk (Kd.S_below (by (with_reducible repeat (first | apply Kd.S_alloc | apply Kd.S_drewN | apply Kd.S_drew)); exact HO_696001.out) hb); have n1_ := Aside0.mk (Kd.R_lower ho0 (below_size (by repeat (first | (with_reducible first | exact HB.out | apply below_alloc | apply pw_below_drewN | apply below_drew1 | refine below_set ?_ GE687.out | refine below_set ?_ GE695.out) | exact HB.out)))); have n2_ := Aside0.mk (blk_below (g := gb687) (o := .cells #[.int .i64 a0_0, .slice A0_1 l0_1.length c0_1] 49 (0, 0)) (by (with_reducible repeat (first | refine blk_drewN ?_ _ | refine blk_drew ?_ | refine blk_alloc ?_ _)); exact BK687.out) hb); have n3_ := Aside0.mk (blk_below (g := gb695) (o := .cells #[.int .i64 t690, .slice Ao23 t691.length co23] 49 (0, 0)) (by (with_reducible repeat (first | refine blk_drewN ?_ _ | refine blk_drew ?_ | refine blk_alloc ?_ _)); exact BK695.out) hb); have n4_ := Aside0.mk (below_step (by repeat (first | (with_reducible first | exact HB.out | apply below_alloc | apply pw_below_drewN | apply below_drew1 | refine below_set ?_ GE687.out | refine below_set ?_ GE695.out) | exact HB.out)) hb); clear HO_696001; clear BK687; clear BK695; clear HB; have HO_696001 := n0_; have HO703 := n1_; have BK687 := n2_; have BK695 := n3_; have HB := n4_; clear n0_ n1_ n2_ n3_ n4_; (try clear hb); (try clear hb2); (try clear hk); (try clear hi); (try clear ho0)))
              (try simp only [Act.put, List.setIfInBounds_toArray, List.set_cons_zero, List.set_cons_succ])
              go_cut [] (fun wc => ∃ (kq : Nat), Aside0 (cuvettelaw08_BookBack.j2 kq a2 a3 true = some r) ∧ Aside0 (kq ≤ kj17) ∧ Aside0 (Kd.S (Kd.slice 74 (Kd.int .i16)) 26 wc w.heap.size (fun _ => True) (.slice Ao23 t691.length co23) t691) ∧ Aside0 (wc.heap[gb687]? = some (.cells #[.int .i64 a0_0, (.slice A0_1 l0_1.length c0_1)] 49 (0, 0))) ∧ Aside0 (wc.heap[gb695]? = some (.cells #[.int .i64 t690, (.slice Ao23 t691.length co23)] 49 (0, 0))) ∧ Aside0 (Below w.heap.size w wc))
              case first =>
                have H := HC53.out
                clear HC53
                by_cases c57 : t704 = 0
                · rw [if_pos c57] at H
                  have c57b0 : (t704 == 0) = true := beq_iff_eq.mpr c57
                  have c57b1 : (t704 != 0) = false := bne_eq_false_iff_eq.mpr c57
                  clear c57
                  (first | rw [c57b0] | (simp only [i64_w, i32_w]; rw [c57b0]) | skip)
                  replace H := Option.bind_eq_some_iff.mp H
                  obtain ⟨⟨t705, t706, t709⟩, A580, H⟩ := H
                  replace H : (if t709 = 0 then ((book_Same.f t705 t706 a0_0 l0_1).bind fun t711 => (if t711 = true then (cuvettelaw08_BookBack.j2 kj17 a2 a3 true) else (some false))) else (some false)) = some r := H
                  have A58 := Aside0.mk A580
                  clear A580
                  by_cases c59 : t709 = 0
                  · rw [if_pos c59] at H
                    have c59b0 : (t709 == 0) = true := beq_iff_eq.mpr c59
                    have c59b1 : (t709 != 0) = false := bne_eq_false_iff_eq.mpr c59
                    clear c59
                    replace H := Option.bind_eq_some_iff.mp H
                    obtain ⟨t711, A600, H⟩ := H
                    replace H : (if t711 = true then (cuvettelaw08_BookBack.j2 kj17 a2 a3 true) else (some false)) = some r := H
                    have A60 := Aside0.mk A600
                    clear A600
                    by_cases c61 : t711 = true
                    · subst c61
                      have H1 : (cuvettelaw08_BookBack.j2 kj17 a2 a3 true) = some r := by rw [if_pos rfl] at H; exact H
                      clear H
                      have H := H1
                      clear H1
                      have H' := Aside0.mk H
                      clear H
                      obtain ⟨Ao62, co62, eo62⟩ := Kd.R_slice HO703.out
                      subst eo62
                      go_wp2_with (first | ((with_reducible refine gate_callee (f := 39) rfl ?_); refine goesL_ (some 73) rfl rfl Try.func39 (by kernel_rfl) rfl #[.slice Ao62 t701.length co62] rfl (by (try simp only [List.map_toArray, List.map_cons, List.map_nil]); first | done | rfl | (simp only [List.length_drop, List.length_take]; rfl)) ?_; (with_reducible refine (book_From.calls kj17 _ _ t701 t705 t706 t709 _ ?side1 ?side2 A58.out).mono ?_); (case side1 => repeat (first | exact (Kd.R_reads' HO703.out).2.2 | (with_reducible refine Kd.C_alloc ?_ _) | (with_reducible refine Kd.C_drewN ?_ _) | (with_reducible refine Kd.C_drew ?_))); (case side2 => exact (Kd.R_reads' HO703.out).2.1); rintro e w63 ⟨v707, rfl, ho0, hb⟩; refine ⟨_, rfl, ?_⟩; have n0_ := Aside0.mk (Kd.S_elder' (by (with_reducible repeat (first | apply Kd.S_alloc | apply Kd.S_drewN | apply Kd.S_drew)); exact HO_696001.out) (Kd.S_base ho0) hb); have n1_ := Aside0.mk (Kd.R_below (by (with_reducible repeat (first | apply Kd.R_alloc | apply Kd.R_drewN | apply Kd.R_drew)); exact HO703.out) hb); have n2_ := Aside0.mk (Kd.S_lower (Kd.S_new' ho0 (Kd.S_lt (by (with_reducible repeat (first | apply Kd.S_alloc | apply Kd.S_drewN | apply Kd.S_drew)); exact HO_696001.out))) (below_size (by repeat (first | (with_reducible first | exact HB.out | apply below_alloc | apply pw_below_drewN | apply below_drew1 | refine below_set ?_ GE687.out | refine below_set ?_ GE695.out) | exact HB.out)))); have n3_ := Aside0.mk (blk_below (g := gb687) (o := .cells #[.int .i64 a0_0, .slice A0_1 l0_1.length c0_1] 49 (0, 0)) (by (with_reducible repeat (first | refine blk_drewN ?_ _ | refine blk_drew ?_ | refine blk_alloc ?_ _)); exact BK687.out) hb); have n4_ := Aside0.mk (blk_below (g := gb695) (o := .cells #[.int .i64 t690, .slice Ao23 t691.length co23] 49 (0, 0)) (by (with_reducible repeat (first | refine blk_drewN ?_ _ | refine blk_drew ?_ | refine blk_alloc ?_ _)); exact BK695.out) hb); have n5_ := Aside0.mk (below_step (by repeat (first | (with_reducible first | exact HB.out | apply below_alloc | apply pw_below_drewN | apply below_drew1 | refine below_set ?_ GE687.out | refine below_set ?_ GE695.out) | exact HB.out)) hb); clear HO_696001; clear HO703; clear BK687; clear BK695; clear HB; have HO_696001 := n0_; have HO703 := n1_; have HO708 := n2_; have BK687 := n3_; have BK695 := n4_; have HB := n5_; clear n0_ n1_ n2_ n3_ n4_ n5_; (try clear hb); (try clear hb2); (try clear hk); (try clear hi); (try clear ho0)) | ((with_reducible refine gate_dst (N := 16) rfl ?_); (try (refine gate_guard (by rfl) ?_; dsimp only)); refine box_event ?hg (N := 16) ?hd (cs := #[.int .i64 0, .slice none 0 0]) (t := 49) ?hr ?_; (case hd => rfl); (case hg => rfl); (case hr => first | (go_simp; done) | (go_simp; rfl)); intro gb710 hg w64 hbox hb; have n0_ := Aside0.mk (Kd.S_below (by (with_reducible repeat (first | apply Kd.S_alloc | apply Kd.S_drewN | apply Kd.S_drew)); exact HO_696001.out) hb); have n1_ := Aside0.mk (Kd.R_below (by (with_reducible repeat (first | apply Kd.R_alloc | apply Kd.R_drewN | apply Kd.R_drew)); exact HO703.out) hb); have n2_ := Aside0.mk (Kd.S_below (by (with_reducible repeat (first | apply Kd.S_alloc | apply Kd.S_drewN | apply Kd.S_drew)); exact HO708.out) hb); have n3_ := Aside0.mk (blk_below (g := gb687) (o := .cells #[.int .i64 a0_0, .slice A0_1 l0_1.length c0_1] 49 (0, 0)) (by (with_reducible repeat (first | refine blk_drewN ?_ _ | refine blk_drew ?_ | refine blk_alloc ?_ _)); exact BK687.out) hb); have n4_ := Aside0.mk (blk_below (g := gb695) (o := .cells #[.int .i64 t690, .slice Ao23 t691.length co23] 49 (0, 0)) (by (with_reducible repeat (first | refine blk_drewN ?_ _ | refine blk_drew ?_ | refine blk_alloc ?_ _)); exact BK695.out) hb); have n5_ := Aside0.mk (below_step (by repeat (first | (with_reducible first | exact HB.out | apply below_alloc | apply pw_below_drewN | apply below_drew1 | refine below_set ?_ GE687.out | refine below_set ?_ GE695.out) | exact HB.out)) hb); have n6_ := Aside0.mk (hbox); have n7_ := Aside0.mk ((by rw [hg]; exact (below_size (by repeat (first | (with_reducible first | exact HB.out | apply below_alloc | apply pw_below_drewN | apply below_drew1 | refine below_set ?_ GE687.out | refine below_set ?_ GE695.out) | exact HB.out))) : w.heap.size ≤ gb710)); have n8_ := Aside0.mk ((by rw [hg]; exact (below_size (by repeat (first | (with_reducible first | exact HB.out | apply below_alloc | apply pw_below_drewN | apply below_drew1 | refine below_set ?_ GE687.out | refine below_set ?_ GE695.out) | exact HB.out))) : w.heap.size ≤ gb710)); have n9_ := Aside0.mk ((by rw [hg]; exact Nat.ne_of_lt (blk_lt (g := gb687) (o := .cells #[.int .i64 a0_0, .slice A0_1 l0_1.length c0_1] 49 (0, 0)) (by (with_reducible repeat (first | refine blk_drewN ?_ _ | refine blk_drew ?_ | refine blk_alloc ?_ _)); exact BK687.out)) : gb687 ≠ gb710)); have n10_ := Aside0.mk ((by rw [hg]; exact Nat.ne_of_gt (blk_lt (g := gb687) (o := .cells #[.int .i64 a0_0, .slice A0_1 l0_1.length c0_1] 49 (0, 0)) (by (with_reducible repeat (first | refine blk_drewN ?_ _ | refine blk_drew ?_ | refine blk_alloc ?_ _)); exact BK687.out)) : gb710 ≠ gb687)); have n11_ := Aside0.mk ((by rw [hg]; exact Nat.ne_of_lt (blk_lt (g := gb695) (o := .cells #[.int .i64 t690, .slice Ao23 t691.length co23] 49 (0, 0)) (by (with_reducible repeat (first | refine blk_drewN ?_ _ | refine blk_drew ?_ | refine blk_alloc ?_ _)); exact BK695.out)) : gb695 ≠ gb710)); have n12_ := Aside0.mk ((by rw [hg]; exact Nat.ne_of_gt (blk_lt (g := gb695) (o := .cells #[.int .i64 t690, .slice Ao23 t691.length co23] 49 (0, 0)) (by (with_reducible repeat (first | refine blk_drewN ?_ _ | refine blk_drew ?_ | refine blk_alloc ?_ _)); exact BK695.out)) : gb710 ≠ gb695)); clear HO_696001; clear HO703; clear HO708; clear BK687; clear BK695; clear HB; have HO_696001 := n0_; have HO703 := n1_; have HO708 := n2_; have BK687 := n3_; have BK695 := n4_; have HB := n5_; have BK710 := n6_; have GW710 := n7_; have GE710 := n8_; have NB687_710 := n9_; have NB710_687 := n10_; have NB695_710 := n11_; have NB710_695 := n12_; clear n0_ n1_ n2_ n3_ n4_ n5_ n6_ n7_ n8_ n9_ n10_ n11_ n12_; clear hb hbox hg; have hnb65 := NB710_687.out; have hnc65 := NB687_710.out; have hnb66 := NB710_695.out; have hnc66 := NB695_710.out; have hcz67_0 : w64.cell? ⟨gb710, 0, none⟩ = some (.int .i64 0) := (blk_cell BK710.out 0).trans rfl; have hcz67_1 : w64.cell? ⟨gb710, 1, none⟩ = some (.slice none 0 0) := (blk_cell BK710.out 1).trans rfl; have hfz67_0 := blk_frozen BK710.out 0; have hfz67_1 := blk_frozen BK710.out 1; obtain ⟨Ao68, co68, eo68⟩ := Kd.S_slice HO708.out; subst eo68; have hnb69 := NB687_695.out; have hnc69 := NB695_687.out; have hcz70_0 : w64.cell? ⟨gb687, 0, none⟩ = some (.int .i64 a0_0) := (blk_cell BK687.out 0).trans rfl; have hcz70_1 : w64.cell? ⟨gb687, 1, none⟩ = some (.slice A0_1 l0_1.length c0_1) := (blk_cell BK687.out 1).trans rfl; have hfz70_0 := blk_frozen BK687.out 0; have hfz70_1 := blk_frozen BK687.out 1) | (go_at_call 47; (with_reducible refine (book_Same.calls t705 _ _ t706 a0_0 _ _ l0_1 true _ ?side1 ?side2 ?side3 ?side4 A60.out).mono ?_); (case side1 => refine (Kd.S_reads' (e := 26) (base := w.heap.size) (ok := fun k_ => (True ∧ some k_ ≠ (.slice Ao23 t691.length co23 : Value).ownBlock)) (n := t706.length) (c := co68) ?_).2.2; exact (by (with_reducible repeat (first | apply Kd.S_alloc | apply Kd.S_drewN | apply Kd.S_drew)); exact (Kd.S_mono (Kd.S_far (p := ⟨gb710, 1, none⟩) (Kd.S_far (p := ⟨gb710, 0, none⟩) (Kd.S_types HO708.out BK710.out (by decide)) (fun _ hk => hk.2) (.int .i64 t705)) (fun _ hk => hk.2) (.slice Ao68 t706.length co68)) (fun _ h_ => h_.1)))); (case side2 => exact (Kd.S_reads' HO708.out).2.1); (case side3 => exact Kd.C_below HR0_1.out (by repeat (first | (with_reducible first | exact HB.out | apply below_alloc | apply pw_below_drewN | apply below_drew1 | refine below_set ?_ GE687.out | refine below_set ?_ GE695.out | refine below_set ?_ GE710.out) | exact HB.out))); (case side4 => exact HC0_1.out); rintro e w71 ⟨rfl, hb⟩; have n0_ := Aside0.mk (Kd.S_below (by (with_reducible repeat (first | apply Kd.S_alloc | apply Kd.S_drewN | apply Kd.S_drew)); exact (Kd.S_mono (Kd.S_far (p := ⟨gb710, 1, none⟩) (Kd.S_far (p := ⟨gb710, 0, none⟩) (Kd.S_types HO_696001.out BK710.out (by decide)) (fun _ hk => hk.2) (.int .i64 t705)) (fun _ hk => hk.2) (.slice Ao68 t706.length co68)) (fun _ h_ => h_.1))) hb); have n1_ := Aside0.mk (Kd.R_below (by (with_reducible repeat (first | apply Kd.R_alloc | apply Kd.R_drewN | apply Kd.R_drew)); exact (Kd.R_mono (Kd.R_far (p := ⟨gb710, 1, none⟩) (Kd.R_far (p := ⟨gb710, 0, none⟩) (Kd.R_types HO703.out BK710.out (by decide)) (fun _ hk => hk.2) (.int .i64 t705)) (fun _ hk => hk.2) (.slice Ao68 t706.length co68)) (fun _ h_ => h_.1))) hb); have n2_ := Aside0.mk (Kd.S_below (by (with_reducible repeat (first | apply Kd.S_alloc | apply Kd.S_drewN | apply Kd.S_drew)); exact (Kd.S_mono (Kd.S_far (p := ⟨gb710, 1, none⟩) (Kd.S_far (p := ⟨gb710, 0, none⟩) (Kd.S_types HO708.out BK710.out (by decide)) (fun _ hk => hk.2) (.int .i64 t705)) (fun _ hk => hk.2) (.slice Ao68 t706.length co68)) (fun _ h_ => h_.1))) hb); have n3_ := Aside0.mk (blk_below (g := gb687) (o := .cells #[.int .i64 a0_0, .slice A0_1 l0_1.length c0_1] 49 (0, 0)) (by (with_reducible repeat (first | refine blk_drewN ?_ _ | refine blk_drew ?_ | refine blk_alloc ?_ _)); refine blk_far ?_ NB687_710.out _; (with_reducible repeat (first | refine blk_drewN ?_ _ | refine blk_drew ?_ | refine blk_alloc ?_ _)); refine blk_far ?_ NB687_710.out _; (with_reducible repeat (first | refine blk_drewN ?_ _ | refine blk_drew ?_ | refine blk_alloc ?_ _)); exact BK687.out) hb); have n4_ := Aside0.mk (blk_below (g := gb695) (o := .cells #[.int .i64 t690, .slice Ao23 t691.length co23] 49 (0, 0)) (by (with_reducible repeat (first | refine blk_drewN ?_ _ | refine blk_drew ?_ | refine blk_alloc ?_ _)); refine blk_far ?_ NB695_710.out _; (with_reducible repeat (first | refine blk_drewN ?_ _ | refine blk_drew ?_ | refine blk_alloc ?_ _)); refine blk_far ?_ NB695_710.out _; (with_reducible repeat (first | refine blk_drewN ?_ _ | refine blk_drew ?_ | refine blk_alloc ?_ _)); exact BK695.out) hb); have n5_ := Aside0.mk (blk_below (g := gb710) (o := .cells #[.int .i64 t705, .slice Ao68 t706.length co68] 49 (0, 0)) (by (with_reducible repeat (first | refine blk_drewN ?_ _ | refine blk_drew ?_ | refine blk_alloc ?_ _)); refine blk_put (cs := #[.int .i64 t705, .slice none 0 0]) ?_ 1 _ rfl; (with_reducible repeat (first | refine blk_drewN ?_ _ | refine blk_drew ?_ | refine blk_alloc ?_ _)); refine blk_put (cs := #[.int .i64 0, .slice none 0 0]) ?_ 0 _ rfl; (with_reducible repeat (first | refine blk_drewN ?_ _ | refine blk_drew ?_ | refine blk_alloc ?_ _)); exact BK710.out) hb); have n6_ := Aside0.mk (below_step (by repeat (first | (with_reducible first | exact HB.out | apply below_alloc | apply pw_below_drewN | apply below_drew1 | refine below_set ?_ GE687.out | refine below_set ?_ GE695.out | refine below_set ?_ GE710.out) | exact HB.out)) hb); clear HO_696001; clear HO703; clear HO708; clear BK687; clear BK695; clear BK710; clear HB; have HO_696001 := n0_; have HO703 := n1_; have HO708 := n2_; have BK687 := n3_; have BK695 := n4_; have BK710 := n5_; have HB := n6_; clear n0_ n1_ n2_ n3_ n4_ n5_ n6_; (try clear hb); (try clear hb2); (try clear hk); (try clear hi)))
                      go_meet
                      case rel => exact ⟨_, H', ⟨by have := HJ6.out; have := HJ17.out; first | omega | exact Nat.le_refl _⟩, ⟨by (with_reducible repeat (first | apply Kd.S_alloc | apply Kd.S_drewN | apply Kd.S_drew)); exact Kd.S_mono HO_696001.out (fun _ hk => trivial)⟩, ⟨by (with_reducible repeat (first | refine blk_drewN ?_ _ | refine blk_drew ?_ | refine blk_alloc ?_ _)); exact BK687.out⟩, ⟨by (with_reducible repeat (first | refine blk_drewN ?_ _ | refine blk_drew ?_ | refine blk_alloc ?_ _)); exact BK695.out⟩, ⟨by repeat (first | (with_reducible first | exact HB.out | apply below_alloc | apply pw_below_drewN | apply below_drew1 | refine below_set ?_ GE687.out | refine below_set ?_ GE695.out | refine below_set ?_ GE710.out) | exact HB.out)⟩⟩
                    · replace c61 := Bool.eq_false_iff.mpr c61
                      subst c61
                      have H1 : (some false) = some r := by rw [if_neg (show ¬ (false = true) by decide)] at H; exact H
                      clear H
                      have H := H1
                      clear H1
                      exact absurd (Option.some.inj H) (by rw [hT_]; decide)
                  · rw [if_neg c59] at H
                    have c59b0 : (t709 == 0) = false := beq_eq_false_iff_ne.mpr c59
                    have c59b1 : (t709 != 0) = true := bne_iff_ne.mpr c59
                    exact absurd (Option.some.inj H) (by rw [hT_]; decide)
                · rw [if_neg c57] at H
                  have c57b0 : (t704 == 0) = false := beq_eq_false_iff_ne.mpr c57
                  have c57b1 : (t704 != 0) = true := bne_iff_ne.mpr c57
                  (first | rw [c57b0] | (simp only [i64_w, i32_w]; rw [c57b0]) | skip)
                  have H' := Aside0.mk H
                  clear H
                  go_wp2
                  go_meet
                  case rel => exact ⟨_, H', ⟨by have := HJ6.out; have := HJ17.out; first | omega | exact Nat.le_refl _⟩, ⟨by (with_reducible repeat (first | apply Kd.S_alloc | apply Kd.S_drewN | apply Kd.S_drew)); exact HO_696001.out⟩, ⟨by (with_reducible repeat (first | refine blk_drewN ?_ _ | refine blk_drew ?_ | refine blk_alloc ?_ _)); exact BK687.out⟩, ⟨by (with_reducible repeat (first | refine blk_drewN ?_ _ | refine blk_drew ?_ | refine blk_alloc ?_ _)); exact BK695.out⟩, ⟨by repeat (first | (with_reducible first | exact HB.out | apply below_alloc | apply pw_below_drewN | apply below_drew1 | refine below_set ?_ GE687.out | refine below_set ?_ GE695.out) | exact HB.out)⟩⟩
              case rest =>
                clear HC53
                try clear c1
                try clear c2
                try clear p2
                try clear c3
                try clear hcv3
                try clear c4
                try clear hcv4
                try clear c5
                try clear c6
                try clear c7
                try clear c8
                try clear c11
                try clear c16
                try clear c21
                try clear c24
                try clear c24b0
                try clear c24b1
                try clear c26
                try clear c26b0
                try clear c26b1
                try clear c27
                try clear c27b0
                try clear c27b1
                try clear c29
                try clear c29b0
                try clear c29b1
                try clear c30
                try clear hcv33
                try clear hcv34
                try clear c35
                try clear c36
                try clear c37
                try clear c39
                try clear hcv40
                try clear hcv41
                try clear c44
                try clear hcv47
                try clear hcv48
                try clear c49
                try clear c54
                try clear c57
                try clear c57b0
                try clear c57b1
                try clear c59
                try clear c59b0
                try clear c59b1
                try clear c61
                try clear c65
                try clear c66
                try clear c69
                try clear c75
                try clear c76
                try clear c79
                try clear c85
                try clear c86
                try clear hcz12_0
                try clear hcz12_1
                try clear hcz14_0
                try clear hcz14_1
                try clear hcz22_0
                try clear hcz22_1
                try clear hcz31_0
                try clear hcz31_1
                try clear hcz35_0
                try clear hcz35_1
                try clear hcz38_0
                try clear hcz38_1
                try clear hcz42_0
                try clear hcz42_1
                try clear hcz45_0
                try clear hcz45_1
                try clear hcz50_0
                try clear hcz50_1
                try clear hcz55_0
                try clear hcz55_1
                try clear hcz67_0
                try clear hcz67_1
                try clear hcz70_0
                try clear hcz70_1
                try clear hcz77_0
                try clear hcz77_1
                try clear hcz80_0
                try clear hcz80_1
                try clear hcz87_0
                try clear hcz87_1
                try clear hfz12_0
                try clear hfz12_1
                try clear hfz14_0
                try clear hfz14_1
                try clear hfz22_0
                try clear hfz22_1
                try clear hfz31_0
                try clear hfz31_1
                try clear hfz35_0
                try clear hfz35_1
                try clear hfz38_0
                try clear hfz38_1
                try clear hfz42_0
                try clear hfz42_1
                try clear hfz45_0
                try clear hfz45_1
                try clear hfz50_0
                try clear hfz50_1
                try clear hfz55_0
                try clear hfz55_1
                try clear hfz67_0
                try clear hfz67_1
                try clear hfz70_0
                try clear hfz70_1
                try clear hfz77_0
                try clear hfz77_1
                try clear hfz80_0
                try clear hfz80_1
                try clear hfz87_0
                try clear hfz87_1
                try clear p2
                obtain ⟨kq, HA, HJ52, HO_696001, BK687, BK695, HB⟩ := hcut
                cases kq with
                | zero => exact absurd HA.out (by simp [cuvettelaw08_BookBack.j2])
                | succ kj52 =>
                  have H := HA.out
                  clear HA
                  simp only [cuvettelaw08_BookBack.j2] at H
                  replace H := Option.bind_eq_some_iff.mp H
                  obtain ⟨⟨t712, t713, t716⟩, A890, H⟩ := H
                  replace H : ((book_Size.f a2 a3).bind fun bt718 => (if t716 = 0 then ((book_Bytes.f kj52 t712 t713).bind fun bt720 => ((quant_Cells.f t712 t713).bind fun bt724 => (if true = true then (if bt718.2 = 0 then (if bt720.2 = 0 then (if bt724.2 = 0 then (if (bt720.1.length : Int) = bt718.1 then (if bt724.1 = a3 then (some ((t713.length : Int) == a2)) else (some false)) else (some false)) else (some false)) else (some false)) else (some false)) else (some false)))) else (if true = true then (some (t716 == bt718.2)) else (some false)))) = some r := H
                  have A89 := Aside0.mk A890
                  clear A890
                  replace H := Option.bind_eq_some_iff.mp H
                  obtain ⟨⟨t718, t719⟩, A900, H⟩ := H
                  replace H : (if t716 = 0 then ((book_Bytes.f kj52 t712 t713).bind fun bt720 => ((quant_Cells.f t712 t713).bind fun bt724 => (if true = true then (if t719 = 0 then (if bt720.2 = 0 then (if bt724.2 = 0 then (if (bt720.1.length : Int) = t718 then (if bt724.1 = a3 then (some ((t713.length : Int) == a2)) else (some false)) else (some false)) else (some false)) else (some false)) else (some false)) else (some false)))) else (if true = true then (some (t716 == t719)) else (some false))) = some r := H
                  have A90 := Aside0.mk A900
                  clear A900
                  by_cases c91 : t716 = 0
                  · rw [if_pos c91] at H
                    have c91b0 : (t716 == 0) = true := beq_iff_eq.mpr c91
                    have c91b1 : (t716 != 0) = false := bne_eq_false_iff_eq.mpr c91
                    clear c91
                    replace H := Option.bind_eq_some_iff.mp H
                    obtain ⟨⟨t720, t723⟩, A920, H⟩ := H
                    replace H : ((quant_Cells.f t712 t713).bind fun bt724 => (if true = true then (if t719 = 0 then (if t723 = 0 then (if bt724.2 = 0 then (if (t720.length : Int) = t718 then (if bt724.1 = a3 then (some ((t713.length : Int) == a2)) else (some false)) else (some false)) else (some false)) else (some false)) else (some false)) else (some false))) = some r := H
                    have A92 := Aside0.mk A920
                    clear A920
                    replace H := Option.bind_eq_some_iff.mp H
                    obtain ⟨⟨t724, t725⟩, A930, H⟩ := H
                    replace H : (if true = true then (if t719 = 0 then (if t723 = 0 then (if t725 = 0 then (if (t720.length : Int) = t718 then (if t724 = a3 then (some ((t713.length : Int) == a2)) else (some false)) else (some false)) else (some false)) else (some false)) else (some false)) else (some false)) = some r := H
                    have A93 := Aside0.mk A930
                    clear A930
                    by_cases c94 : true = true
                    · clear c94
                      have H1 : (if t719 = 0 then (if t723 = 0 then (if t725 = 0 then (if (t720.length : Int) = t718 then (if t724 = a3 then (some ((t713.length : Int) == a2)) else (some false)) else (some false)) else (some false)) else (some false)) else (some false)) = some r := by rw [if_pos rfl] at H; exact H
                      clear H
                      have H := H1
                      clear H1
                      by_cases c95 : t719 = 0
                      · rw [if_pos c95] at H
                        have c95b0 : (t719 == 0) = true := beq_iff_eq.mpr c95
                        have c95b1 : (t719 != 0) = false := bne_eq_false_iff_eq.mpr c95
                        clear c95
                        by_cases c96 : t723 = 0
                        · rw [if_pos c96] at H
                          have c96b0 : (t723 == 0) = true := beq_iff_eq.mpr c96
                          have c96b1 : (t723 != 0) = false := bne_eq_false_iff_eq.mpr c96
                          clear c96
                          by_cases c97 : t725 = 0
                          · rw [if_pos c97] at H
                            have c97b0 : (t725 == 0) = true := beq_iff_eq.mpr c97
                            have c97b1 : (t725 != 0) = false := bne_eq_false_iff_eq.mpr c97
                            clear c97
                            by_cases c98 : (t720.length : Int) = t718
                            · rw [if_pos c98] at H
                              have c98b0 : ((t720.length : Int) == t718) = true := beq_iff_eq.mpr c98
                              have c98b1 : ((t720.length : Int) != t718) = false := bne_eq_false_iff_eq.mpr c98
                              clear c98
                              by_cases c99 : t724 = a3
                              · rw [if_pos c99] at H
                                have c99b0 : (t724 == a3) = true := beq_iff_eq.mpr c99
                                have c99b1 : (t724 != a3) = false := bne_eq_false_iff_eq.mpr c99
                                clear c99
                                obtain rfl := Option.some.inj H
                                go_wp2_with (first | ((with_reducible refine gate_callee (f := 41) rfl ?_); refine goesL_ (some 87) rfl rfl Try.func41 (by kernel_rfl) rfl #[.int .i64 a2, .int .i64 a3] rfl (by (try simp only [List.map_toArray, List.map_cons, List.map_nil]); first | done | rfl | (simp only [List.length_drop, List.length_take]; rfl)) ?_; (with_reducible refine (book_Plain.calls kj52 a2 a3 t712 t713 t716 _ A89.out).mono ?_); rintro e w100 ⟨v714, rfl, ho0, hb⟩; refine ⟨_, rfl, ?_⟩; have n0_ := Aside0.mk (Kd.S_elder' (by (with_reducible repeat (first | apply Kd.S_alloc | apply Kd.S_drewN | apply Kd.S_drew)); exact HO_696001.out) (Kd.S_base ho0) hb); have n1_ := Aside0.mk (Kd.S_lower (Kd.S_new' ho0 (Kd.S_lt (by (with_reducible repeat (first | apply Kd.S_alloc | apply Kd.S_drewN | apply Kd.S_drew)); exact HO_696001.out))) (below_size (by repeat (first | (with_reducible first | exact HB.out | apply below_alloc | apply pw_below_drewN | apply below_drew1 | refine below_set ?_ GE687.out | refine below_set ?_ GE695.out) | exact HB.out)))); have n2_ := Aside0.mk (blk_below (g := gb687) (o := .cells #[.int .i64 a0_0, .slice A0_1 l0_1.length c0_1] 49 (0, 0)) (by (with_reducible repeat (first | refine blk_drewN ?_ _ | refine blk_drew ?_ | refine blk_alloc ?_ _)); exact BK687.out) hb); have n3_ := Aside0.mk (blk_below (g := gb695) (o := .cells #[.int .i64 t690, .slice Ao23 t691.length co23] 49 (0, 0)) (by (with_reducible repeat (first | refine blk_drewN ?_ _ | refine blk_drew ?_ | refine blk_alloc ?_ _)); exact BK695.out) hb); have n4_ := Aside0.mk (below_step (by repeat (first | (with_reducible first | exact HB.out | apply below_alloc | apply pw_below_drewN | apply below_drew1 | refine below_set ?_ GE687.out | refine below_set ?_ GE695.out) | exact HB.out)) hb); clear HO_696001; clear BK687; clear BK695; clear HB; have HO_696001 := n0_; have HO715 := n1_; have BK687 := n2_; have BK695 := n3_; have HB := n4_; clear n0_ n1_ n2_ n3_ n4_; (try clear hb); (try clear hb2); (try clear hk); (try clear hi); (try clear ho0)) | ((with_reducible refine gate_dst (N := 18) rfl ?_); (try (refine gate_guard (by rfl) ?_; dsimp only)); refine box_event ?hg (N := 18) ?hd (cs := #[.int .i64 0, .slice none 0 0]) (t := 49) ?hr ?_; (case hd => rfl); (case hg => rfl); (case hr => first | (go_simp; done) | (go_simp; rfl)); intro gb717 hg w101 hbox hb; have n0_ := Aside0.mk (Kd.S_below (by (with_reducible repeat (first | apply Kd.S_alloc | apply Kd.S_drewN | apply Kd.S_drew)); exact HO_696001.out) hb); have n1_ := Aside0.mk (Kd.S_below (by (with_reducible repeat (first | apply Kd.S_alloc | apply Kd.S_drewN | apply Kd.S_drew)); exact HO715.out) hb); have n2_ := Aside0.mk (blk_below (g := gb687) (o := .cells #[.int .i64 a0_0, .slice A0_1 l0_1.length c0_1] 49 (0, 0)) (by (with_reducible repeat (first | refine blk_drewN ?_ _ | refine blk_drew ?_ | refine blk_alloc ?_ _)); exact BK687.out) hb); have n3_ := Aside0.mk (blk_below (g := gb695) (o := .cells #[.int .i64 t690, .slice Ao23 t691.length co23] 49 (0, 0)) (by (with_reducible repeat (first | refine blk_drewN ?_ _ | refine blk_drew ?_ | refine blk_alloc ?_ _)); exact BK695.out) hb); have n4_ := Aside0.mk (below_step (by repeat (first | (with_reducible first | exact HB.out | apply below_alloc | apply pw_below_drewN | apply below_drew1 | refine below_set ?_ GE687.out | refine below_set ?_ GE695.out) | exact HB.out)) hb); have n5_ := Aside0.mk (hbox); have n6_ := Aside0.mk ((by rw [hg]; exact (below_size (by repeat (first | (with_reducible first | exact HB.out | apply below_alloc | apply pw_below_drewN | apply below_drew1 | refine below_set ?_ GE687.out | refine below_set ?_ GE695.out) | exact HB.out))) : w.heap.size ≤ gb717)); have n7_ := Aside0.mk ((by rw [hg]; exact (below_size (by repeat (first | (with_reducible first | exact HB.out | apply below_alloc | apply pw_below_drewN | apply below_drew1 | refine below_set ?_ GE687.out | refine below_set ?_ GE695.out) | exact HB.out))) : w.heap.size ≤ gb717)); have n8_ := Aside0.mk ((by rw [hg]; exact Nat.ne_of_lt (blk_lt (g := gb687) (o := .cells #[.int .i64 a0_0, .slice A0_1 l0_1.length c0_1] 49 (0, 0)) (by (with_reducible repeat (first | refine blk_drewN ?_ _ | refine blk_drew ?_ | refine blk_alloc ?_ _)); exact BK687.out)) : gb687 ≠ gb717)); have n9_ := Aside0.mk ((by rw [hg]; exact Nat.ne_of_gt (blk_lt (g := gb687) (o := .cells #[.int .i64 a0_0, .slice A0_1 l0_1.length c0_1] 49 (0, 0)) (by (with_reducible repeat (first | refine blk_drewN ?_ _ | refine blk_drew ?_ | refine blk_alloc ?_ _)); exact BK687.out)) : gb717 ≠ gb687)); have n10_ := Aside0.mk ((by rw [hg]; exact Nat.ne_of_lt (blk_lt (g := gb695) (o := .cells #[.int .i64 t690, .slice Ao23 t691.length co23] 49 (0, 0)) (by (with_reducible repeat (first | refine blk_drewN ?_ _ | refine blk_drew ?_ | refine blk_alloc ?_ _)); exact BK695.out)) : gb695 ≠ gb717)); have n11_ := Aside0.mk ((by rw [hg]; exact Nat.ne_of_gt (blk_lt (g := gb695) (o := .cells #[.int .i64 t690, .slice Ao23 t691.length co23] 49 (0, 0)) (by (with_reducible repeat (first | refine blk_drewN ?_ _ | refine blk_drew ?_ | refine blk_alloc ?_ _)); exact BK695.out)) : gb717 ≠ gb695)); clear HO_696001; clear HO715; clear BK687; clear BK695; clear HB; have HO_696001 := n0_; have HO715 := n1_; have BK687 := n2_; have BK695 := n3_; have HB := n4_; have BK717 := n5_; have GW717 := n6_; have GE717 := n7_; have NB687_717 := n8_; have NB717_687 := n9_; have NB695_717 := n10_; have NB717_695 := n11_; clear n0_ n1_ n2_ n3_ n4_ n5_ n6_ n7_ n8_ n9_ n10_ n11_; clear hb hbox hg; have hnb102 := NB717_687.out; have hnc102 := NB687_717.out; have hnb103 := NB717_695.out; have hnc103 := NB695_717.out; have hcz104_0 : w101.cell? ⟨gb717, 0, none⟩ = some (.int .i64 0) := (blk_cell BK717.out 0).trans rfl; have hcz104_1 : w101.cell? ⟨gb717, 1, none⟩ = some (.slice none 0 0) := (blk_cell BK717.out 1).trans rfl; have hfz104_0 := blk_frozen BK717.out 0; have hfz104_1 := blk_frozen BK717.out 1; obtain ⟨Ao105, co105, eo105⟩ := Kd.S_slice HO715.out; subst eo105) | ((with_reducible refine gate_callee (f := 43) rfl ?_); refine goesL_ (some 93) rfl rfl Try.func43 (by kernel_rfl) rfl #[.int .i64 a2, .int .i64 a3] rfl (by (try simp only [List.map_toArray, List.map_cons, List.map_nil]); first | done | rfl | (simp only [List.length_drop, List.length_take]; rfl)) ?_; (with_reducible refine (book_Size.calls a2 a3 t718 t719 _ A90.out).mono ?_); rintro e w106 ⟨rfl, hb⟩; refine ⟨_, rfl, ?_⟩; have n0_ := Aside0.mk (Kd.S_below (by (with_reducible repeat (first | apply Kd.S_alloc | apply Kd.S_drewN | apply Kd.S_drew)); exact (Kd.S_mono (Kd.S_far (p := ⟨gb717, 1, none⟩) (Kd.S_far (p := ⟨gb717, 0, none⟩) (Kd.S_types HO_696001.out BK717.out (by decide)) (fun _ hk => hk.2) (.int .i64 t712)) (fun _ hk => hk.2) (.slice Ao105 t713.length co105)) (fun _ h_ => h_.1))) hb); have n1_ := Aside0.mk (Kd.S_below (by (with_reducible repeat (first | apply Kd.S_alloc | apply Kd.S_drewN | apply Kd.S_drew)); exact (Kd.S_mono (Kd.S_far (p := ⟨gb717, 1, none⟩) (Kd.S_far (p := ⟨gb717, 0, none⟩) (Kd.S_types HO715.out BK717.out (by decide)) (fun _ hk => hk.2) (.int .i64 t712)) (fun _ hk => hk.2) (.slice Ao105 t713.length co105)) (fun _ h_ => h_.1))) hb); have n2_ := Aside0.mk (blk_below (g := gb687) (o := .cells #[.int .i64 a0_0, .slice A0_1 l0_1.length c0_1] 49 (0, 0)) (by (with_reducible repeat (first | refine blk_drewN ?_ _ | refine blk_drew ?_ | refine blk_alloc ?_ _)); refine blk_far ?_ NB687_717.out _; (with_reducible repeat (first | refine blk_drewN ?_ _ | refine blk_drew ?_ | refine blk_alloc ?_ _)); refine blk_far ?_ NB687_717.out _; (with_reducible repeat (first | refine blk_drewN ?_ _ | refine blk_drew ?_ | refine blk_alloc ?_ _)); exact BK687.out) hb); have n3_ := Aside0.mk (blk_below (g := gb695) (o := .cells #[.int .i64 t690, .slice Ao23 t691.length co23] 49 (0, 0)) (by (with_reducible repeat (first | refine blk_drewN ?_ _ | refine blk_drew ?_ | refine blk_alloc ?_ _)); refine blk_far ?_ NB695_717.out _; (with_reducible repeat (first | refine blk_drewN ?_ _ | refine blk_drew ?_ | refine blk_alloc ?_ _)); refine blk_far ?_ NB695_717.out _; (with_reducible repeat (first | refine blk_drewN ?_ _ | refine blk_drew ?_ | refine blk_alloc ?_ _)); exact BK695.out) hb); have n4_ := Aside0.mk (blk_below (g := gb717) (o := .cells #[.int .i64 t712, .slice Ao105 t713.length co105] 49 (0, 0)) (by (with_reducible repeat (first | refine blk_drewN ?_ _ | refine blk_drew ?_ | refine blk_alloc ?_ _)); refine blk_put (cs := #[.int .i64 t712, .slice none 0 0]) ?_ 1 _ rfl; (with_reducible repeat (first | refine blk_drewN ?_ _ | refine blk_drew ?_ | refine blk_alloc ?_ _)); refine blk_put (cs := #[.int .i64 0, .slice none 0 0]) ?_ 0 _ rfl; (with_reducible repeat (first | refine blk_drewN ?_ _ | refine blk_drew ?_ | refine blk_alloc ?_ _)); exact BK717.out) hb); have n5_ := Aside0.mk (below_step (by repeat (first | (with_reducible first | exact HB.out | apply below_alloc | apply pw_below_drewN | apply below_drew1 | refine below_set ?_ GE687.out | refine below_set ?_ GE695.out | refine below_set ?_ GE717.out) | exact HB.out)) hb); clear HO_696001; clear HO715; clear BK687; clear BK695; clear BK717; clear HB; have HO_696001 := n0_; have HO715 := n1_; have BK687 := n2_; have BK695 := n3_; have BK717 := n4_; have HB := n5_; clear n0_ n1_ n2_ n3_ n4_ n5_; (try clear hb); (try clear hb2); (try clear hk); (try clear hi); have hcz107_0 : w106.cell? ⟨gb717, 0, none⟩ = some (.int .i64 t712) := (blk_cell BK717.out 0).trans rfl; have hcz107_1 : w106.cell? ⟨gb717, 1, none⟩ = some (.slice Ao105 t713.length co105) := (blk_cell BK717.out 1).trans rfl; have hfz107_0 := blk_frozen BK717.out 0; have hfz107_1 := blk_frozen BK717.out 1) | ((with_reducible refine gate_callee (f := 37) rfl ?_); refine goesL_ (some 106) rfl rfl Try.func37 (by kernel_rfl) rfl #[.agg #[.int .i64 t712, .slice Ao105 t713.length co105]] rfl (by (try simp only [List.map_toArray, List.map_cons, List.map_nil]); first | done | rfl | (simp only [List.length_drop, List.length_take]; rfl)) ?_; (with_reducible refine (book_Bytes.calls kj52 t712 _ _ t713 t720 t723 _ ?side1 ?side2 A92.out).mono ?_); (case side1 => repeat (first | exact (Kd.S_reads' HO715.out).2.2 | (with_reducible refine Kd.C_alloc ?_ _) | (with_reducible refine Kd.C_drewN ?_ _) | (with_reducible refine Kd.C_drew ?_))); (case side2 => exact (Kd.S_reads' HO715.out).2.1); rintro e w108 ⟨v721, rfl, ho0, hb⟩; refine ⟨_, rfl, ?_⟩; have n0_ := Aside0.mk (Kd.S_below (by (with_reducible repeat (first | apply Kd.S_alloc | apply Kd.S_drewN | apply Kd.S_drew)); exact HO_696001.out) hb); have n1_ := Aside0.mk (Kd.S_below (by (with_reducible repeat (first | apply Kd.S_alloc | apply Kd.S_drewN | apply Kd.S_drew)); exact HO715.out) hb); have n2_ := Aside0.mk (Kd.R_lower ho0 (below_size (by repeat (first | (with_reducible first | exact HB.out | apply below_alloc | apply pw_below_drewN | apply below_drew1 | refine below_set ?_ GE687.out | refine below_set ?_ GE695.out | refine below_set ?_ GE717.out) | exact HB.out)))); have n3_ := Aside0.mk (blk_below (g := gb687) (o := .cells #[.int .i64 a0_0, .slice A0_1 l0_1.length c0_1] 49 (0, 0)) (by (with_reducible repeat (first | refine blk_drewN ?_ _ | refine blk_drew ?_ | refine blk_alloc ?_ _)); exact BK687.out) hb); have n4_ := Aside0.mk (blk_below (g := gb695) (o := .cells #[.int .i64 t690, .slice Ao23 t691.length co23] 49 (0, 0)) (by (with_reducible repeat (first | refine blk_drewN ?_ _ | refine blk_drew ?_ | refine blk_alloc ?_ _)); exact BK695.out) hb); have n5_ := Aside0.mk (blk_below (g := gb717) (o := .cells #[.int .i64 t712, .slice Ao105 t713.length co105] 49 (0, 0)) (by (with_reducible repeat (first | refine blk_drewN ?_ _ | refine blk_drew ?_ | refine blk_alloc ?_ _)); exact BK717.out) hb); have n6_ := Aside0.mk (below_step (by repeat (first | (with_reducible first | exact HB.out | apply below_alloc | apply pw_below_drewN | apply below_drew1 | refine below_set ?_ GE687.out | refine below_set ?_ GE695.out | refine below_set ?_ GE717.out) | exact HB.out)) hb); clear HO_696001; clear HO715; clear BK687; clear BK695; clear BK717; clear HB; have HO_696001 := n0_; have HO715 := n1_; have HO722 := n2_; have BK687 := n3_; have BK695 := n4_; have BK717 := n5_; have HB := n6_; clear n0_ n1_ n2_ n3_ n4_ n5_ n6_; (try clear hb); (try clear hb2); (try clear hk); (try clear hi); (try clear ho0); have hcz109_0 : w108.cell? ⟨gb717, 0, none⟩ = some (.int .i64 t712) := (blk_cell BK717.out 0).trans rfl; have hcz109_1 : w108.cell? ⟨gb717, 1, none⟩ = some (.slice Ao105 t713.length co105) := (blk_cell BK717.out 1).trans rfl; have hfz109_0 := blk_frozen BK717.out 0; have hfz109_1 := blk_frozen BK717.out 1) | ((with_reducible refine gate_callee (f := 49) rfl ?_); refine goesL_ (some 111) rfl rfl Try.func49 (by kernel_rfl) rfl #[.agg #[.int .i64 t712, .slice Ao105 t713.length co105]] rfl (by (try simp only [List.map_toArray, List.map_cons, List.map_nil]); first | done | rfl | (simp only [List.length_drop, List.length_take]; rfl)) ?_; (with_reducible refine (quant_Cells.calls t712 _ _ t713 t724 t725 _ ?side1 ?side2 A93.out).mono ?_); (case side1 => repeat (first | exact (Kd.S_reads' HO715.out).2.2 | (with_reducible refine Kd.C_alloc ?_ _) | (with_reducible refine Kd.C_drewN ?_ _) | (with_reducible refine Kd.C_drew ?_))); (case side2 => exact (Kd.S_reads' HO715.out).2.1); rintro e w110 ⟨rfl, hb⟩; refine ⟨_, rfl, ?_⟩; have n0_ := Aside0.mk (Kd.S_below (by (with_reducible repeat (first | apply Kd.S_alloc | apply Kd.S_drewN | apply Kd.S_drew)); exact HO_696001.out) hb); have n1_ := Aside0.mk (Kd.S_below (by (with_reducible repeat (first | apply Kd.S_alloc | apply Kd.S_drewN | apply Kd.S_drew)); exact HO715.out) hb); have n2_ := Aside0.mk (Kd.R_below (by (with_reducible repeat (first | apply Kd.R_alloc | apply Kd.R_drewN | apply Kd.R_drew)); exact HO722.out) hb); have n3_ := Aside0.mk (blk_below (g := gb687) (o := .cells #[.int .i64 a0_0, .slice A0_1 l0_1.length c0_1] 49 (0, 0)) (by (with_reducible repeat (first | refine blk_drewN ?_ _ | refine blk_drew ?_ | refine blk_alloc ?_ _)); exact BK687.out) hb); have n4_ := Aside0.mk (blk_below (g := gb695) (o := .cells #[.int .i64 t690, .slice Ao23 t691.length co23] 49 (0, 0)) (by (with_reducible repeat (first | refine blk_drewN ?_ _ | refine blk_drew ?_ | refine blk_alloc ?_ _)); exact BK695.out) hb); have n5_ := Aside0.mk (blk_below (g := gb717) (o := .cells #[.int .i64 t712, .slice Ao105 t713.length co105] 49 (0, 0)) (by (with_reducible repeat (first | refine blk_drewN ?_ _ | refine blk_drew ?_ | refine blk_alloc ?_ _)); exact BK717.out) hb); have n6_ := Aside0.mk (below_step (by repeat (first | (with_reducible first | exact HB.out | apply below_alloc | apply pw_below_drewN | apply below_drew1 | refine below_set ?_ GE687.out | refine below_set ?_ GE695.out | refine below_set ?_ GE717.out) | exact HB.out)) hb); clear HO_696001; clear HO715; clear HO722; clear BK687; clear BK695; clear BK717; clear HB; have HO_696001 := n0_; have HO715 := n1_; have HO722 := n2_; have BK687 := n3_; have BK695 := n4_; have BK717 := n5_; have HB := n6_; clear n0_ n1_ n2_ n3_ n4_ n5_ n6_; (try clear hb); (try clear hb2); (try clear hk); (try clear hi); obtain ⟨Ao111, co111, eo111⟩ := Kd.R_slice HO722.out; subst eo111; have hcz112_0 : w110.cell? ⟨gb717, 0, none⟩ = some (.int .i64 t712) := (blk_cell BK717.out 0).trans rfl; have hcz112_1 : w110.cell? ⟨gb717, 1, none⟩ = some (.slice Ao105 t713.length co105) := (blk_cell BK717.out 1).trans rfl; have hfz112_0 := blk_frozen BK717.out 0; have hfz112_1 := blk_frozen BK717.out 1))
                                go_ret
                                exact ⟨by first | rfl | (simp [errW_none, errW_some] <;> rfl) | (simp [*, errW_none, errW_some] <;> rfl), by repeat (first | (with_reducible first | exact HB.out | apply below_alloc | apply pw_below_drewN | apply below_drew1 | refine below_set ?_ GE687.out | refine below_set ?_ GE695.out | refine below_set ?_ GE717.out) | exact HB.out)⟩
                              · rw [if_neg c99] at H
                                have c99b0 : (t724 == a3) = false := beq_eq_false_iff_ne.mpr c99
                                have c99b1 : (t724 != a3) = true := bne_iff_ne.mpr c99
                                exact absurd (Option.some.inj H) (by rw [hT_]; decide)
                            · rw [if_neg c98] at H
                              have c98b0 : ((t720.length : Int) == t718) = false := beq_eq_false_iff_ne.mpr c98
                              have c98b1 : ((t720.length : Int) != t718) = true := bne_iff_ne.mpr c98
                              exact absurd (Option.some.inj H) (by rw [hT_]; decide)
                          · rw [if_neg c97] at H
                            have c97b0 : (t725 == 0) = false := beq_eq_false_iff_ne.mpr c97
                            have c97b1 : (t725 != 0) = true := bne_iff_ne.mpr c97
                            exact absurd (Option.some.inj H) (by rw [hT_]; decide)
                        · rw [if_neg c96] at H
                          have c96b0 : (t723 == 0) = false := beq_eq_false_iff_ne.mpr c96
                          have c96b1 : (t723 != 0) = true := bne_iff_ne.mpr c96
                          exact absurd (Option.some.inj H) (by rw [hT_]; decide)
                      · rw [if_neg c95] at H
                        have c95b0 : (t719 == 0) = false := beq_eq_false_iff_ne.mpr c95
                        have c95b1 : (t719 != 0) = true := bne_iff_ne.mpr c95
                        exact absurd (Option.some.inj H) (by rw [hT_]; decide)
                    · exact absurd rfl c94
                  · rw [if_neg c91] at H
                    have c91b0 : (t716 == 0) = false := beq_eq_false_iff_ne.mpr c91
                    have c91b1 : (t716 != 0) = true := bne_iff_ne.mpr c91
                    by_cases c181 : true = true
                    · clear c181
                      have H1 : (some (t716 == t719)) = some r := by rw [if_pos rfl] at H; exact H
                      clear H
                      have H := H1
                      clear H1
                      obtain rfl := Option.some.inj H
                      go_wp2_with (first | ((with_reducible refine gate_callee (f := 41) rfl ?_); refine goesL_ (some 87) rfl rfl Try.func41 (by kernel_rfl) rfl #[.int .i64 a2, .int .i64 a3] rfl (by (try simp only [List.map_toArray, List.map_cons, List.map_nil]); first | done | rfl | (simp only [List.length_drop, List.length_take]; rfl)) ?_; (with_reducible refine (book_Plain.calls kj52 a2 a3 t712 t713 t716 _ A89.out).mono ?_); rintro e w182 ⟨v714, rfl, ho0, hb⟩; refine ⟨_, rfl, ?_⟩; have n0_ := Aside0.mk (Kd.S_elder' (by (with_reducible repeat (first | apply Kd.S_alloc | apply Kd.S_drewN | apply Kd.S_drew)); exact HO_696001.out) (Kd.S_base ho0) hb); have n1_ := Aside0.mk (Kd.S_lower (Kd.S_new' ho0 (Kd.S_lt (by (with_reducible repeat (first | apply Kd.S_alloc | apply Kd.S_drewN | apply Kd.S_drew)); exact HO_696001.out))) (below_size (by repeat (first | (with_reducible first | exact HB.out | apply below_alloc | apply pw_below_drewN | apply below_drew1 | refine below_set ?_ GE687.out | refine below_set ?_ GE695.out) | exact HB.out)))); have n2_ := Aside0.mk (blk_below (g := gb687) (o := .cells #[.int .i64 a0_0, .slice A0_1 l0_1.length c0_1] 49 (0, 0)) (by (with_reducible repeat (first | refine blk_drewN ?_ _ | refine blk_drew ?_ | refine blk_alloc ?_ _)); exact BK687.out) hb); have n3_ := Aside0.mk (blk_below (g := gb695) (o := .cells #[.int .i64 t690, .slice Ao23 t691.length co23] 49 (0, 0)) (by (with_reducible repeat (first | refine blk_drewN ?_ _ | refine blk_drew ?_ | refine blk_alloc ?_ _)); exact BK695.out) hb); have n4_ := Aside0.mk (below_step (by repeat (first | (with_reducible first | exact HB.out | apply below_alloc | apply pw_below_drewN | apply below_drew1 | refine below_set ?_ GE687.out | refine below_set ?_ GE695.out) | exact HB.out)) hb); clear HO_696001; clear BK687; clear BK695; clear HB; have HO_696001 := n0_; have HO715 := n1_; have BK687 := n2_; have BK695 := n3_; have HB := n4_; clear n0_ n1_ n2_ n3_ n4_; (try clear hb); (try clear hb2); (try clear hk); (try clear hi); (try clear ho0)) | ((with_reducible refine gate_dst (N := 18) rfl ?_); (try (refine gate_guard (by rfl) ?_; dsimp only)); refine box_event ?hg (N := 18) ?hd (cs := #[.int .i64 0, .slice none 0 0]) (t := 49) ?hr ?_; (case hd => rfl); (case hg => rfl); (case hr => first | (go_simp; done) | (go_simp; rfl)); intro gb717 hg w183 hbox hb; have n0_ := Aside0.mk (Kd.S_below (by (with_reducible repeat (first | apply Kd.S_alloc | apply Kd.S_drewN | apply Kd.S_drew)); exact HO_696001.out) hb); have n1_ := Aside0.mk (Kd.S_below (by (with_reducible repeat (first | apply Kd.S_alloc | apply Kd.S_drewN | apply Kd.S_drew)); exact HO715.out) hb); have n2_ := Aside0.mk (blk_below (g := gb687) (o := .cells #[.int .i64 a0_0, .slice A0_1 l0_1.length c0_1] 49 (0, 0)) (by (with_reducible repeat (first | refine blk_drewN ?_ _ | refine blk_drew ?_ | refine blk_alloc ?_ _)); exact BK687.out) hb); have n3_ := Aside0.mk (blk_below (g := gb695) (o := .cells #[.int .i64 t690, .slice Ao23 t691.length co23] 49 (0, 0)) (by (with_reducible repeat (first | refine blk_drewN ?_ _ | refine blk_drew ?_ | refine blk_alloc ?_ _)); exact BK695.out) hb); have n4_ := Aside0.mk (below_step (by repeat (first | (with_reducible first | exact HB.out | apply below_alloc | apply pw_below_drewN | apply below_drew1 | refine below_set ?_ GE687.out | refine below_set ?_ GE695.out) | exact HB.out)) hb); have n5_ := Aside0.mk (hbox); have n6_ := Aside0.mk ((by rw [hg]; exact (below_size (by repeat (first | (with_reducible first | exact HB.out | apply below_alloc | apply pw_below_drewN | apply below_drew1 | refine below_set ?_ GE687.out | refine below_set ?_ GE695.out) | exact HB.out))) : w.heap.size ≤ gb717)); have n7_ := Aside0.mk ((by rw [hg]; exact (below_size (by repeat (first | (with_reducible first | exact HB.out | apply below_alloc | apply pw_below_drewN | apply below_drew1 | refine below_set ?_ GE687.out | refine below_set ?_ GE695.out) | exact HB.out))) : w.heap.size ≤ gb717)); have n8_ := Aside0.mk ((by rw [hg]; exact Nat.ne_of_lt (blk_lt (g := gb687) (o := .cells #[.int .i64 a0_0, .slice A0_1 l0_1.length c0_1] 49 (0, 0)) (by (with_reducible repeat (first | refine blk_drewN ?_ _ | refine blk_drew ?_ | refine blk_alloc ?_ _)); exact BK687.out)) : gb687 ≠ gb717)); have n9_ := Aside0.mk ((by rw [hg]; exact Nat.ne_of_gt (blk_lt (g := gb687) (o := .cells #[.int .i64 a0_0, .slice A0_1 l0_1.length c0_1] 49 (0, 0)) (by (with_reducible repeat (first | refine blk_drewN ?_ _ | refine blk_drew ?_ | refine blk_alloc ?_ _)); exact BK687.out)) : gb717 ≠ gb687)); have n10_ := Aside0.mk ((by rw [hg]; exact Nat.ne_of_lt (blk_lt (g := gb695) (o := .cells #[.int .i64 t690, .slice Ao23 t691.length co23] 49 (0, 0)) (by (with_reducible repeat (first | refine blk_drewN ?_ _ | refine blk_drew ?_ | refine blk_alloc ?_ _)); exact BK695.out)) : gb695 ≠ gb717)); have n11_ := Aside0.mk ((by rw [hg]; exact Nat.ne_of_gt (blk_lt (g := gb695) (o := .cells #[.int .i64 t690, .slice Ao23 t691.length co23] 49 (0, 0)) (by (with_reducible repeat (first | refine blk_drewN ?_ _ | refine blk_drew ?_ | refine blk_alloc ?_ _)); exact BK695.out)) : gb717 ≠ gb695)); clear HO_696001; clear HO715; clear BK687; clear BK695; clear HB; have HO_696001 := n0_; have HO715 := n1_; have BK687 := n2_; have BK695 := n3_; have HB := n4_; have BK717 := n5_; have GW717 := n6_; have GE717 := n7_; have NB687_717 := n8_; have NB717_687 := n9_; have NB695_717 := n10_; have NB717_695 := n11_; clear n0_ n1_ n2_ n3_ n4_ n5_ n6_ n7_ n8_ n9_ n10_ n11_; clear hb hbox hg; have hnb184 := NB717_687.out; have hnc184 := NB687_717.out; have hnb185 := NB717_695.out; have hnc185 := NB695_717.out; have hcz186_0 : w183.cell? ⟨gb717, 0, none⟩ = some (.int .i64 0) := (blk_cell BK717.out 0).trans rfl; have hcz186_1 : w183.cell? ⟨gb717, 1, none⟩ = some (.slice none 0 0) := (blk_cell BK717.out 1).trans rfl; have hfz186_0 := blk_frozen BK717.out 0; have hfz186_1 := blk_frozen BK717.out 1; obtain ⟨Ao187, co187, eo187⟩ := Kd.S_slice HO715.out; subst eo187) | ((with_reducible refine gate_callee (f := 43) rfl ?_); refine goesL_ (some 93) rfl rfl Try.func43 (by kernel_rfl) rfl #[.int .i64 a2, .int .i64 a3] rfl (by (try simp only [List.map_toArray, List.map_cons, List.map_nil]); first | done | rfl | (simp only [List.length_drop, List.length_take]; rfl)) ?_; (with_reducible refine (book_Size.calls a2 a3 t718 t719 _ A90.out).mono ?_); rintro e w188 ⟨rfl, hb⟩; refine ⟨_, rfl, ?_⟩; have n0_ := Aside0.mk (Kd.S_below (by (with_reducible repeat (first | apply Kd.S_alloc | apply Kd.S_drewN | apply Kd.S_drew)); exact (Kd.S_mono (Kd.S_far (p := ⟨gb717, 1, none⟩) (Kd.S_far (p := ⟨gb717, 0, none⟩) (Kd.S_types HO_696001.out BK717.out (by decide)) (fun _ hk => hk.2) (.int .i64 t712)) (fun _ hk => hk.2) (.slice Ao187 t713.length co187)) (fun _ h_ => h_.1))) hb); have n1_ := Aside0.mk (Kd.S_below (by (with_reducible repeat (first | apply Kd.S_alloc | apply Kd.S_drewN | apply Kd.S_drew)); exact (Kd.S_mono (Kd.S_far (p := ⟨gb717, 1, none⟩) (Kd.S_far (p := ⟨gb717, 0, none⟩) (Kd.S_types HO715.out BK717.out (by decide)) (fun _ hk => hk.2) (.int .i64 t712)) (fun _ hk => hk.2) (.slice Ao187 t713.length co187)) (fun _ h_ => h_.1))) hb); have n2_ := Aside0.mk (blk_below (g := gb687) (o := .cells #[.int .i64 a0_0, .slice A0_1 l0_1.length c0_1] 49 (0, 0)) (by (with_reducible repeat (first | refine blk_drewN ?_ _ | refine blk_drew ?_ | refine blk_alloc ?_ _)); refine blk_far ?_ NB687_717.out _; (with_reducible repeat (first | refine blk_drewN ?_ _ | refine blk_drew ?_ | refine blk_alloc ?_ _)); refine blk_far ?_ NB687_717.out _; (with_reducible repeat (first | refine blk_drewN ?_ _ | refine blk_drew ?_ | refine blk_alloc ?_ _)); exact BK687.out) hb); have n3_ := Aside0.mk (blk_below (g := gb695) (o := .cells #[.int .i64 t690, .slice Ao23 t691.length co23] 49 (0, 0)) (by (with_reducible repeat (first | refine blk_drewN ?_ _ | refine blk_drew ?_ | refine blk_alloc ?_ _)); refine blk_far ?_ NB695_717.out _; (with_reducible repeat (first | refine blk_drewN ?_ _ | refine blk_drew ?_ | refine blk_alloc ?_ _)); refine blk_far ?_ NB695_717.out _; (with_reducible repeat (first | refine blk_drewN ?_ _ | refine blk_drew ?_ | refine blk_alloc ?_ _)); exact BK695.out) hb); have n4_ := Aside0.mk (blk_below (g := gb717) (o := .cells #[.int .i64 t712, .slice Ao187 t713.length co187] 49 (0, 0)) (by (with_reducible repeat (first | refine blk_drewN ?_ _ | refine blk_drew ?_ | refine blk_alloc ?_ _)); refine blk_put (cs := #[.int .i64 t712, .slice none 0 0]) ?_ 1 _ rfl; (with_reducible repeat (first | refine blk_drewN ?_ _ | refine blk_drew ?_ | refine blk_alloc ?_ _)); refine blk_put (cs := #[.int .i64 0, .slice none 0 0]) ?_ 0 _ rfl; (with_reducible repeat (first | refine blk_drewN ?_ _ | refine blk_drew ?_ | refine blk_alloc ?_ _)); exact BK717.out) hb); have n5_ := Aside0.mk (below_step (by repeat (first | (with_reducible first | exact HB.out | apply below_alloc | apply pw_below_drewN | apply below_drew1 | refine below_set ?_ GE687.out | refine below_set ?_ GE695.out | refine below_set ?_ GE717.out) | exact HB.out)) hb); clear HO_696001; clear HO715; clear BK687; clear BK695; clear BK717; clear HB; have HO_696001 := n0_; have HO715 := n1_; have BK687 := n2_; have BK695 := n3_; have BK717 := n4_; have HB := n5_; clear n0_ n1_ n2_ n3_ n4_ n5_; (try clear hb); (try clear hb2); (try clear hk); (try clear hi)))
                      go_ret
                      exact ⟨by first | rfl | (simp [errW_none, errW_some] <;> rfl) | (simp [*, errW_none, errW_some] <;> rfl), by repeat (first | (with_reducible first | exact HB.out | apply below_alloc | apply pw_below_drewN | apply below_drew1 | refine below_set ?_ GE687.out | refine below_set ?_ GE695.out | refine below_set ?_ GE717.out) | exact HB.out)⟩
                    · exact absurd rfl c181
  · replace c6 := Bool.eq_false_iff.mpr c6
    subst c6
    have H1 : (some false) = some r := by rw [if_neg (show ¬ (false = true) by decide)] at H; exact H
    clear H
    have H := H1
    clear H1
    exact absurd (Option.some.inj H) (by rw [hT_]; decide)

end Go.Proofs.Ytkjibgfgbfacdaa.P
end
/-! part: PPack -/
section
set_option linter.unusedVariables false
set_option linter.unusedSimpArgs false
namespace Go.Proofs.Ytkjibgfgbfacdaa.P
open Go.RowKit Go.Proofs.YtkjibgfgbfacdaaW.PrintWords Go.Proofs.YtkjibgfgbfacdaaW.PrintLast Go.Proofs.YtkjibgfgbfacdaaW.PrintMore
set_option linter.unusedVariables false

/-! ### octets -/
/-- The octets of a number, the lower ones first. -/
def enc : Nat → Int → List Int
  | 0, _ => []
  | w + 1, n => n % 256 :: enc w (n / 256)
/-- What octets tell. -/
def val : List Int → Int
  | [] => 0
  | c :: t => c + 256 * val t
theorem enc_length (w : Nat) : ∀ n : Int, (enc w n).length = w := by
  induction w with
  | zero => intro n; rfl
  | succ w ih => intro n; simp [enc, ih]
theorem enc_byte (w : Nat) : ∀ n : Int, ∀ x ∈ enc w n, 0 ≤ x ∧ x < 256 := by
  induction w with
  | zero => intro n x hx; cases hx
  | succ w ih =>
    intro n x hx
    simp only [enc, List.mem_cons] at hx
    rcases hx with rfl | hx
    · omega
    · exact ih _ x hx
theorem pow8 (i : Nat) : (2 : Int) ^ (8 * (i + 1)) = 256 * 2 ^ (8 * i) := by
  rw [show 8 * (i + 1) = 8 * i + 8 by omega, Int.pow_add]
  omega
theorem pow8_pos (i : Nat) : (0 : Int) < 2 ^ (8 * i) := Int.pow_pos (by decide)
theorem enc_snoc (i : Nat) : ∀ n : Int, enc (i + 1) n = enc i n ++ [(n / 2 ^ (8 * i)) % 256] := by
  induction i with
  | zero => intro n; simp [enc]
  | succ i ih =>
    intro n
    rw [enc, ih (n / 256), pow8, ← Int.ediv_ediv_of_nonneg (by decide)]
    rfl
theorem enc_mod (w : Nat) : ∀ n m : Int, n % 2 ^ (8 * w) = m % 2 ^ (8 * w) → enc w n = enc w m := by
  induction w with
  | zero => intro n m _; rfl
  | succ w ih =>
    intro n m h
    rw [pow8] at h
    have hp := pow8_pos w
    have h1 : n % 256 = m % 256 := by
      have a := Int.emod_emod_of_dvd n (Int.dvd_mul_right 256 (2 ^ (8 * w)))
      have b := Int.emod_emod_of_dvd m (Int.dvd_mul_right 256 (2 ^ (8 * w)))
      rw [← a, ← b, h]
    have h2 : n / 256 % 2 ^ (8 * w) = m / 256 % 2 ^ (8 * w) := by
      have hd : (256 * 2 ^ (8 * w) : Int) ∣ n - m := Int.dvd_of_emod_eq_zero (Int.emod_eq_emod_iff_emod_sub_eq_zero.1 h)
      obtain ⟨q, hq⟩ := hd
      have : n / 256 = m / 256 + 2 ^ (8 * w) * q := by
        have e1 : n = m + 256 * (2 ^ (8 * w) * q) := by rw [← Int.mul_assoc]; omega
        rw [e1, Int.add_mul_ediv_left _ _ (by decide)]
      rw [this, Int.add_mul_emod_self_left]
    simp only [enc]
    rw [h1, ih _ _ h2]
theorem val_enc (w : Nat) : ∀ n : Int, val (enc w n) = n % 2 ^ (8 * w) := by
  induction w with
  | zero => intro n; simp [enc, val]
  | succ w ih =>
    intro n
    simp only [enc, val]
    rw [ih, pow8]
    have hp := pow8_pos w
    generalize (2 : Int) ^ (8 * w) = p at hp ⊢
    have h1 := Int.emod_nonneg (n / 256) (show p ≠ 0 by omega)
    have h2 := Int.emod_lt_of_pos (n / 256) hp
    have h3 := Int.mul_ediv_add_emod (n / 256) p
    have h4 : n = (n % 256 + 256 * (n / 256 % p)) + 256 * p * (n / 256 / p) := by
      rw [Int.mul_assoc]
      omega
    have h5 := Int.emod_eq_of_lt (a := n % 256 + 256 * (n / 256 % p)) (b := 256 * p) (by omega) (by omega)
    conv => rhs; rw [h4]
    rw [Int.add_mul_emod_self_left, h5]
theorem val_bound : ∀ (l : List Int), (∀ x ∈ l, 0 ≤ x ∧ x < 256) → 0 ≤ val l ∧ val l < 2 ^ (8 * l.length) := by
  intro l
  induction l with
  | nil => intro _; simp [val]
  | cons c t ih =>
    intro h
    obtain ⟨h1, h2⟩ := ih fun x hx => h x (List.mem_cons_of_mem _ hx)
    obtain ⟨h3, h4⟩ := h c (by simp)
    rw [val, List.length_cons, pow8]
    omega
theorem enc_val : ∀ (l : List Int), (∀ x ∈ l, 0 ≤ x ∧ x < 256) → enc l.length (val l) = l := by
  intro l
  induction l with
  | nil => intro _; rfl
  | cons c t ih =>
    intro h
    obtain ⟨h3, h4⟩ := h c (by simp)
    rw [List.length_cons, enc, val, show (c + 256 * val t) % 256 = c by omega, show (c + 256 * val t) / 256 = val t by omega, ih fun x hx => h x (List.mem_cons_of_mem _ hx)]
theorem val_snoc : ∀ (l : List Int) (c : Int), val (l ++ [c]) = val l + c * 2 ^ (8 * l.length) := by
  intro l
  induction l with
  | nil => intro c; simp [val]
  | cons a t ih =>
    intro c
    rw [List.cons_append, val, ih, val, List.length_cons, pow8]
    rw [Int.mul_add, ← Int.add_assoc]
    congr 1
    rw [Int.mul_left_comm]

/-! ### widths -/
/-- A number has room in w octets. -/
def fitsB (w : Nat) (n : Int) : Bool := decide (-(2 ^ (8 * w - 1)) ≤ n) && decide (n < 2 ^ (8 * w - 1))
/-- The number of w octets: the highest bit is the sign. -/
def sgn (w : Nat) (v : Int) : Int := if v < 2 ^ (8 * w - 1) then v else v - 2 ^ (8 * w)
def dec (w : Nat) (l : List Int) : Int := sgn w (val l)
theorem wides {w : Nat} (h : 1 ≤ w) (h' : w ≤ 8) : w = 1 ∨ w = 2 ∨ w = 3 ∨ w = 4 ∨ w = 5 ∨ w = 6 ∨ w = 7 ∨ w = 8 := by omega
theorem shl64 (n : Int) (m : Nat) (h : m ≤ 64) : shl .i64 n m = wrap64 (n * 2 ^ m) := by
  unfold shl
  rw [Int.toNat_natCast, Nat.min_eq_left (by exact h)]
  exact i64_w _
theorem shr64 (n : Int) (m : Nat) (h : m ≤ 64) : shr .i64 n m = n / 2 ^ m := by
  unfold shr
  rw [Int.toNat_natCast, Nat.min_eq_left (by exact h)]
theorem fits_iff (w : Nat) (h : 1 ≤ w) (h' : w ≤ 8) (n : Int) : (shr .i64 (shl .i64 n (64 - 8 * w : Nat)) (64 - 8 * w : Nat) = n) ↔ fitsB w n = true := by
  rw [shr64 _ _ (by omega), shl64 _ _ (by omega)]
  unfold fitsB wrap64
  rcases wides h h' with rfl | rfl | rfl | rfl | rfl | rfl | rfl | rfl <;> simp only [Bool.and_eq_true, decide_eq_true_eq] <;> simp only [Nat.reduceMul, Nat.reduceSub, Int.reducePow, Int.reduceNeg] <;> omega

theorem sgn_fits (w : Nat) (h : 1 ≤ w) (h' : w ≤ 8) (v : Int) (h0 : 0 ≤ v) (h1 : v < 2 ^ (8 * w)) : fitsB w (sgn w v) = true ∧ sgn w v % 2 ^ (8 * w) = v := by
  unfold fitsB sgn
  revert h1
  rcases wides h h' with rfl | rfl | rfl | rfl | rfl | rfl | rfl | rfl <;> simp only [Nat.reduceMul, Nat.reduceSub, Int.reducePow, Int.reduceNeg, Bool.and_eq_true, decide_eq_true_eq] <;> intro h1 <;> split <;> omega
theorem sgn_mod (w : Nat) (h : 1 ≤ w) (h' : w ≤ 8) (n : Int) (hn : fitsB w n = true) : sgn w (n % 2 ^ (8 * w)) = n := by
  revert hn
  unfold fitsB sgn
  rcases wides h h' with rfl | rfl | rfl | rfl | rfl | rfl | rfl | rfl <;> simp only [Nat.reduceMul, Nat.reduceSub, Int.reducePow, Int.reduceNeg, Bool.and_eq_true, decide_eq_true_eq] <;> intro h1 <;> split <;> omega
theorem dec_enc (w : Nat) (h : 1 ≤ w) (h' : w ≤ 8) (n : Int) (hn : fitsB w n = true) : dec w (enc w n) = n := by
  unfold dec
  rw [val_enc, sgn_mod w h h' n hn]
theorem enc_dec (w : Nat) (h : 1 ≤ w) (h' : w ≤ 8) (l : List Int) (hl : l.length = w) (hb : ∀ x ∈ l, 0 ≤ x ∧ x < 256) : enc w (dec w l) = l := by
  have hv := val_bound l hb
  rw [hl] at hv
  unfold dec
  have e := (sgn_fits w h h' (val l) hv.1 hv.2).2
  rw [enc_mod w (sgn w (val l)) (val l) (by rw [e, Int.emod_eq_of_lt hv.1 hv.2])]
  have := enc_val l hb
  rwa [hl] at this
theorem dec_fits (w : Nat) (h : 1 ≤ w) (h' : w ≤ 8) (l : List Int) (hl : l.length = w) (hb : ∀ x ∈ l, 0 ≤ x ∧ x < 256) : fitsB w (dec w l) = true := by
  have hv := val_bound l hb
  rw [hl] at hv
  exact (sgn_fits w h h' (val l) hv.1 hv.2).1
/-- The next octet comes above those that are there. -/
theorem or_join (X c m : Nat) (hX : X < 2 ^ m) (hm : m ≤ 64) (hY : 2 ^ m * c < 2 ^ 64) : Go.bits .or .i64 (wrap64 X) (shl .i64 c m) = wrap64 ((2 ^ m * c + X : Nat) : Int) := by
  have hX64 : X < 2 ^ 64 := Nat.lt_of_lt_of_le hX (Nat.pow_le_pow_right (by decide) hm)
  have ew : ∀ n : Nat, n < 2 ^ 64 → (BitVec.ofInt 64 (wrap64 n)).toNat = n := by
    intro n hn
    rw [BitVec.toNat_ofInt]
    unfold wrap64
    omega
  rw [shl64 _ _ hm]
  have e2 : ((c : Int) * 2 ^ m) = ((2 ^ m * c : Nat) : Int) := by
    rw [Nat.mul_comm]
    simp
  rw [e2]
  show IntKind.i64.wrap (((BitVec.ofInt 64 (wrap64 X) ||| BitVec.ofInt 64 (wrap64 ((2 ^ m * c : Nat) : Int))).toNat : Nat) : Int) = _
  rw [BitVec.toNat_or, ew X hX64, ew _ hY, Nat.or_comm, ← Nat.two_pow_add_eq_or_of_lt hX c]
  exact i64_w _
end Go.Proofs.Ytkjibgfgbfacdaa.P
end
/-! part: PPackL -/
section
set_option linter.unusedVariables false
set_option linter.unusedSimpArgs false
namespace Go.Proofs.Ytkjibgfgbfacdaa.P
open Go.RowKit Go.Proofs.YtkjibgfgbfacdaaW.PrintWords Go.Proofs.YtkjibgfgbfacdaaW.PrintLast Go.Proofs.YtkjibgfgbfacdaaW.PrintMore
set_option linter.unusedVariables false

def putP (b : List Int) (w : Int) (l : List Int) : List Int × Int :=
  if 1 ≤ w ∧ w ≤ 8 then (if l.all (fitsB w.toNat) = true then (if (l.length : Int) > 65536 ∨ (b.length : Int) > 65536 - w * (l.length : Int) then ([], 3) else (b ++ l.flatMap (enc w.toNat), 0)) else ([], 4)) else ([], 1)
theorem wide_eq (w : Int) : pack_wide.f w = some (decide (1 ≤ w ∧ w ≤ 8)) := by
  unfold pack_wide.f
  by_cases h : w ≥ 1
  · rw [if_pos h]
    congr 1
    by_cases h' : w ≤ 8
    · rw [decide_eq_true h', decide_eq_true ⟨h, h'⟩]
    · rw [decide_eq_false h', decide_eq_false (fun z => h' z.2)]
  · rw [if_neg h, decide_eq_false (fun z => h z.1)]
theorem clone_eq (b : List Int) (h : b.length < 140737488355328) : bytes_Clone.f b = some b := by
  unfold bytes_Clone.f
  simp only [Option.bind_some]
  rw [if_pos (by simpa using h)]
  rfl
theorem put_l2 (w : Nat) (h8 : w ≤ 8) (base : List Int) (n : Int) (l : List Int) (L j : Int) (v : List Int × Int) (hb : base.length + w ≤ 65536)
    (hv : Ev (fun k => pack_Put.l1 k w (base ++ enc w n) l L (wrap64 (j + 1))) v) (d : Nat) : ∀ i : Nat, i + d = w → Ev (fun k => pack_Put.l2 k w (base ++ enc i n) n l L j w i) v := by
  induction d with
  | zero =>
    intro i hi
    obtain rfl : i = w := by omega
    refine Ev.step (fun k => ?_) hv
    simp only [pack_Put.l2]
    rw [if_neg (by omega)]
  | succ d ih =>
    intro i hi
    refine Ev.step (fun k => ?_) (ih (i + 1) (by omega))
    simp only [pack_Put.l2]
    have e1 : wrap64 (8 * (i : Int)) = ((8 * i : Nat) : Int) := by unfold wrap64; omega
    have e2 : wrap64 ((i : Int) + 1) = ((i + 1 : Nat) : Int) := by unfold wrap64; omega
    rw [if_pos (by omega), if_pos (by rw [e1]; omega), if_pos (by rw [List.length_append, enc_length]; omega), e1, e2, shr64 _ _ (by omega), enc_snoc, List.append_assoc]
theorem put_l1 (w : Nat) (h8 : w ≤ 8) (l : List Int) (hl : l.length ≤ 65536) (d : Nat) : ∀ (j : Nat) (acc : List Int), j + d = l.length → acc.length + w * d ≤ 65536 →
    Ev (fun k => pack_Put.l1 k w acc l (l.length : Int) j) (acc ++ (l.drop j).flatMap (enc w), 0) := by
  induction d with
  | zero =>
    intro j acc hj hb
    refine Ev.step (g' := fun _ => _) (fun k => ?_) (Ev.const _)
    simp only [pack_Put.l1]
    rw [if_neg (by omega), List.drop_eq_nil_of_le (by omega)]
    simp
  | succ d ih =>
    intro j acc hj hb
    rw [Nat.mul_succ] at hb
    have e2 : wrap64 ((j : Int) + 1) = ((j + 1 : Nat) : Int) := by unfold wrap64; omega
    have hr := rdO 0 l j (by omega) (by omega)
    rw [Int.toNat_natCast, show ((j : Int) + 1).toNat = j + 1 by omega] at hr
    have hg := put_l2 w h8 acc (l.getD j 0) l (l.length : Int) j _ (by omega) (by rw [e2]; exact ih (j + 1) (acc ++ enc w (l.getD j 0)) (by omega) (by rw [List.length_append, enc_length]; omega)) w 0 (by omega)
    rw [hr, List.flatMap_cons, ← List.append_assoc]
    refine Ev.step (fun k => ?_) hg
    simp only [pack_Put.l1]
    rw [if_pos (by omega), if_pos (by omega), if_pos (by omega)]
    simp [enc]
    rfl
theorem put_l0 (b : List Int) (w : Nat) (h1 : 1 ≤ w) (h8 : w ≤ 8) (l : List Int) (hm : l.length ≤ 9223372036854775807) (R : List Int × Int)
    (hR : Ev (fun k => if (l.length : Int) > 65536 then (pack_Put.j1 k b w l true) else (pack_Put.j1 k b w l (decide ((b.length : Int) > (wrap64 (65536 - (wrap64 (w * (l.length : Int))))))))) R) (d : Nat) :
    ∀ j : Nat, j + d = l.length → Ev (fun k => pack_Put.l0 k b w l ((64 - 8 * w : Nat) : Int) l (l.length : Int) j) (if (l.drop j).all (fitsB w) = true then R else ([], 4)) := by
  induction d with
  | zero =>
    intro j hj
    rw [List.drop_eq_nil_of_le (by omega)]
    refine Ev.step (fun k => ?_) hR
    simp only [pack_Put.l0]
    rw [if_neg (by omega)]
  | succ d ih =>
    intro j hj
    have e2 : wrap64 ((j : Int) + 1) = ((j + 1 : Nat) : Int) := by unfold wrap64; omega
    have hr := rdO 0 l j (by omega) (by omega)
    rw [Int.toNat_natCast, show ((j : Int) + 1).toNat = j + 1 by omega] at hr
    rw [hr, List.all_cons]
    have er : rd l (j : Int) = l.getD j 0 := rfl
    cases hq : fitsB w (l.getD j 0) with
    | true =>
      rw [Bool.true_and]
      refine Ev.step (fun k => ?_) (ih (j + 1) (by omega))
      simp only [pack_Put.l0]
      rw [if_pos (by omega), if_pos (by omega), if_pos (by omega), if_pos (by omega), er, if_pos ((fits_iff w h1 h8 _).2 hq), e2]
    | false =>
      rw [Bool.false_and]
      refine Ev.step (g' := fun _ => _) (fun k => ?_) (Ev.const _)
      simp only [pack_Put.l0]
      rw [if_pos (by omega), if_pos (by omega), if_pos (by omega), if_pos (by omega), er, if_neg (fun z => by rw [(fits_iff w h1 h8 _).1 z] at hq; cases hq)]
      rfl
theorem packPut_ev (b : List Int) (w : Int) (l : List Int) (hm : l.length ≤ 9223372036854775807) : Ev (fun k => pack_Put.f k b w l) (putP b w l) := by
  unfold pack_Put.f putP
  rw [wide_eq]
  simp only [Option.bind_some]
  by_cases h : 1 ≤ w ∧ w ≤ 8
  · rw [if_pos h, decide_eq_true h]
    simp only [if_true]
    obtain ⟨w, rfl⟩ := Int.eq_ofNat_of_zero_le (show 0 ≤ w by omega)
    rw [Int.toNat_natCast]
    have e1 : wrap64 (64 - wrap64 (8 * (w : Int))) = ((64 - 8 * w : Nat) : Int) := by unfold wrap64; omega
    rw [e1]
    have := put_l0 b w (by omega) (by omega) l hm (if (l.length : Int) > 65536 ∨ (b.length : Int) > 65536 - (w : Int) * (l.length : Int) then ([], 3) else (b ++ l.flatMap (enc w), 0)) ?_ l.length 0 (by omega)
    · simpa using this
    · by_cases hl : (l.length : Int) > 65536
      · rw [if_pos (.inl hl)]
        simp only [if_pos hl]
        refine Ev.step (g' := fun _ => _) (fun k => ?_) (Ev.const _)
        simp only [pack_Put.j1, if_true]
      · simp only [if_neg hl]
        have hw : (w : Int) * (l.length : Int) ≤ 8 * 65536 := Int.mul_le_mul (by omega) (by omega) (by omega) (by decide)
        have hw0 : 0 ≤ (w : Int) * (l.length : Int) := Int.mul_nonneg (by omega) (by omega)
        have e2 : wrap64 (65536 - wrap64 ((w : Int) * (l.length : Int))) = 65536 - (w : Int) * (l.length : Int) := by
          generalize (w : Int) * (l.length : Int) = z at *
          unfold wrap64
          omega
        rw [e2]
        by_cases hb : (b.length : Int) > 65536 - (w : Int) * (l.length : Int)
        · rw [if_pos (.inr hb), decide_eq_true hb]
          refine Ev.step (g' := fun _ => _) (fun k => ?_) (Ev.const _)
          simp only [pack_Put.j1, if_true]
        · rw [if_neg (fun z => z.elim hl hb), decide_eq_false hb]
          have hb' : b.length + w * l.length ≤ 65536 := by
            have : ((w * l.length : Nat) : Int) = (w : Int) * (l.length : Int) := by simp
            omega
          have h1 := put_l1 w (by omega) l (by omega) l.length 0 b (by omega) hb'
          rw [List.drop_zero] at h1
          refine Ev.step (fun k => ?_) h1
          simp only [pack_Put.j1]
          rw [if_neg (by decide), clone_eq b (by omega)]
          rfl
  · rw [if_neg h, decide_eq_false h]
    simp only [Bool.false_eq_true, if_false]
    exact Ev.const _

/-! ### pack.Take -/
def decs (w : Nat) : Nat → List Int → List Int
  | 0, _ => []
  | n + 1, l => dec w (l.take w) :: decs w n (l.drop w)
def takeP (b : List Int) (w n : Int) : List Int × List Int × Int :=
  if 1 ≤ w ∧ w ≤ 8 ∧ 0 ≤ n ∧ n ≤ 65536 then (if (b.length : Int) < n * w then ([], [], 2) else (decs w.toNat n.toNat b, b.drop (n.toNat * w.toNat), 0)) else ([], [], 1)
theorem shr_sgn (w : Nat) (h : 1 ≤ w) (h' : w ≤ 8) (v : Int) (h0 : 0 ≤ v) (h1 : v < 2 ^ (8 * w)) : shr .i64 (wrap64 (2 ^ (64 - 8 * w) * v)) ((64 - 8 * w : Nat) : Int) = sgn w v := by
  rw [shr64 _ _ (by omega)]
  unfold sgn wrap64
  revert h1
  rcases wides h h' with rfl | rfl | rfl | rfl | rfl | rfl | rfl | rfl <;> simp only [Nat.reduceMul, Nat.reduceSub, Int.reducePow] <;> intro h1 <;> split <;> omega
theorem take_l1 (w : Nat) (h1 : 1 ≤ w) (h8 : w ≤ 8) (b x6 : List Int) (x35 x36 : Int) (x40 : List Int) (h40 : x40.length = w) (hb : ∀ x ∈ x40, 0 ≤ x ∧ x < 256) (h6 : x6.length < 17592186044416) (hbw : w ≤ b.length) (V : List Int × List Int × Int)
    (hV : Ev (fun k => pack_Take.l0 k (b.drop w) w (x6 ++ [dec w x40]) ((64 - 8 * w : Nat) : Int) x35 (wrap64 (x36 + 1))) V) (d : Nat) :
    ∀ i : Nat, i + d = w → Ev (fun k => pack_Take.l1 k b w x6 ((64 - 8 * w : Nat) : Int) (wrap64 (2 ^ (64 - 8 * w) * val (x40.take i))) x35 x36 x40 (x40.length : Int) i) V := by
  induction d with
  | zero =>
    intro i hi
    obtain rfl : i = w := by omega
    have hv := val_bound x40 hb
    rw [h40] at hv
    refine Ev.step (fun k => ?_) hV
    simp only [pack_Take.l1]
    rw [if_neg (by omega), if_pos (by omega), if_pos h6, if_pos (by omega), if_pos (by omega), List.take_of_length_le (by omega), shr_sgn i h1 h8 _ hv.1 hv.2, Int.toNat_natCast]
    rfl
  | succ d ih =>
    intro i hi
    have e2 : wrap64 ((i : Int) + 1) = ((i + 1 : Nat) : Int) := by unfold wrap64; omega
    have e8 : wrap64 (8 * (i : Int)) = ((8 * i : Nat) : Int) := by unfold wrap64; omega
    have em : wrap64 (((64 - 8 * w : Nat) : Int) + ((8 * i : Nat) : Int)) = ((64 - 8 * w + 8 * i : Nat) : Int) := by unfold wrap64; omega
    have hi' : i < x40.length := by omega
    have hc := hb (x40[i]) (List.getElem_mem hi')
    have er : rd x40 (i : Int) = x40[i] := by simp [rd, List.getD_eq_getElem?_getD, hi']
    obtain ⟨c, hc'⟩ := Int.eq_ofNat_of_zero_le hc.1
    have hbt : ∀ x ∈ x40.take i, 0 ≤ x ∧ x < 256 := fun x hx => hb x (List.mem_of_mem_take hx)
    have hv := val_bound (x40.take i) hbt
    rw [List.length_take, Nat.min_eq_left (by omega)] at hv
    obtain ⟨v, hv'⟩ := Int.eq_ofNat_of_zero_le hv.1
    have hvn : v < 2 ^ (8 * i) := by rw [hv'] at hv; exact_mod_cast hv.2
    have hval : val (x40.take (i + 1)) = (v : Int) + (c : Int) * 2 ^ (8 * i) := by
      rw [List.take_succ_eq_append_getElem hi', val_snoc, List.length_take, Nat.min_eq_left (by omega), hv', hc']
    refine Ev.step (fun k => ?_) (ih (i + 1) (by omega))
    simp only [pack_Take.l1]
    have ecw : wrap64 (rd x40 (i : Int)) = (c : Int) := by rw [er, hc']; unfold wrap64; omega
    rw [if_pos (by omega), if_pos (by omega), if_pos (by omega), if_pos (by rw [e8, em]; omega), e8, em, ecw, e2, hv', hval]
    have hp : (2 : Nat) ^ (64 - 8 * w + 8 * i) = 2 ^ (64 - 8 * w) * 2 ^ (8 * i) := Nat.pow_add _ _ _
    have hX : 2 ^ (64 - 8 * w) * v < 2 ^ (64 - 8 * w + 8 * i) := by
      rw [hp]
      exact Nat.mul_lt_mul_of_pos_left hvn (Nat.two_pow_pos _)
    have hY : 2 ^ (64 - 8 * w + 8 * i) * c < 2 ^ 64 := by
      have h9 : 2 ^ (64 - 8 * w + 8 * i) * 256 ≤ 2 ^ 64 := by
        rw [show (256 : Nat) = 2 ^ 8 by decide, ← Nat.pow_add]
        exact Nat.pow_le_pow_right (by decide) (by omega)
      refine Nat.lt_of_lt_of_le (Nat.mul_lt_mul_of_pos_left (show c < 256 by omega) (Nat.two_pow_pos _)) h9
    have hj := or_join (2 ^ (64 - 8 * w) * v) c (64 - 8 * w + 8 * i) hX (by omega) hY
    have e3 : ((2 ^ (64 - 8 * w) * v : Nat) : Int) = 2 ^ (64 - 8 * w) * (v : Int) := by simp
    rw [e3] at hj
    rw [hj]
    have e4 : ((2 ^ (64 - 8 * w + 8 * i) * c + 2 ^ (64 - 8 * w) * v : Nat) : Int) = 2 ^ (64 - 8 * w) * ((v : Int) + (c : Int) * 2 ^ (8 * i)) := by
      rw [hp]
      simp only [Int.natCast_add, Int.natCast_mul, Int.natCast_pow, Int.mul_add]
      rw [Int.add_comm, Int.mul_assoc, Int.mul_comm (c : Int)]
      rfl
    rw [e4]
theorem take_l0 (w : Nat) (h1 : 1 ≤ w) (h8 : w ≤ 8) (N : Nat) (hN : N ≤ 65536) (d : Nat) : ∀ (j : Nat) (b x6 : List Int), j + d = N → d * w ≤ b.length → b.length < 140737488355328 → x6.length = j → (∀ x ∈ b, 0 ≤ x ∧ x < 256) →
    Ev (fun k => pack_Take.l0 k b w x6 ((64 - 8 * w : Nat) : Int) (N : Int) j) (x6 ++ decs w d b, b.drop (d * w), 0) := by
  induction d with
  | zero =>
    intro j b x6 hj hl hm h6 hb
    refine Ev.step (g' := fun _ => _) (fun k => ?_) (Ev.const _)
    simp only [pack_Take.l0]
    rw [if_neg (by omega), clone_eq b hm]
    simp [decs]
  | succ d ih =>
    intro j b x6 hj hl hm h6 hb
    rw [Nat.succ_mul] at hl
    have e2 : wrap64 ((j : Int) + 1) = ((j + 1 : Nat) : Int) := by unfold wrap64; omega
    have h40 : (b.take w).length = w := by rw [List.length_take]; omega
    have hnext := ih (j + 1) (b.drop w) (x6 ++ [dec w (b.take w)]) (by omega) (by rw [List.length_drop]; omega) (by rw [List.length_drop]; omega) (by simp; omega) (fun x hx => hb x (List.mem_of_mem_drop hx))
    have hg := take_l1 w h1 h8 b x6 (N : Int) (j : Int) (b.take w) h40 (fun x hx => hb x (List.mem_of_mem_take hx)) (by omega) (by omega) _ (by rw [e2]; exact hnext) w 0 (by omega)
    rw [List.append_assoc, List.drop_drop] at hg
    rw [show (d + 1) * w = w + d * w by rw [Nat.succ_mul]; omega]
    refine Ev.step (fun k => ?_) hg
    simp only [pack_Take.l0]
    rw [if_pos (by omega), if_pos (by omega), if_pos (by omega)]
    simp [val, show wrap64 0 = 0 from w64 (by decide) (by decide)]
theorem packTake_ev (b : List Int) (w n : Int) (hm : b.length < 140737488355328) (hb : ∀ x ∈ b, 0 ≤ x ∧ x < 256) : Ev (fun k => pack_Take.f k b w n) (takeP b w n) := by
  unfold pack_Take.f takeP
  rw [wide_eq]
  simp only [Option.bind_some]
  have bad : Ev (fun k => pack_Take.j0 k b w n [] true) ([], [], 1) := by
    refine Ev.step (g' := fun _ => _) (fun k => ?_) (Ev.const _)
    simp only [pack_Take.j0, if_true]
  by_cases h : 1 ≤ w ∧ w ≤ 8
  · rw [decide_eq_true h]
    simp only [if_true]
    by_cases h2 : n < 0
    · rw [if_neg (by omega)]
      simp only [if_pos h2]
      exact bad
    · simp only [if_neg h2]
      by_cases h3 : n > 65536
      · rw [if_neg (by omega), decide_eq_true h3]
        exact bad
      · rw [if_pos (by omega), decide_eq_false h3]
        obtain ⟨w, rfl⟩ := Int.eq_ofNat_of_zero_le (show 0 ≤ w by omega)
        obtain ⟨n, rfl⟩ := Int.eq_ofNat_of_zero_le (show 0 ≤ n by omega)
        have hnw : n * w ≤ 65536 * 8 := Nat.mul_le_mul (by omega) (by omega)
        have e0 : ((n * w : Nat) : Int) = (n : Int) * (w : Int) := by simp
        have e1 : wrap64 ((n : Int) * (w : Int)) = (n : Int) * (w : Int) := w64 (by omega) (by omega)
        have e3 : wrap64 (64 - wrap64 (8 * (w : Int))) = ((64 - 8 * w : Nat) : Int) := by unfold wrap64; omega
        by_cases h4 : (b.length : Int) < (n : Int) * (w : Int)
        · rw [if_pos h4]
          refine Ev.step (g' := fun _ => _) (fun k => ?_) (Ev.const _)
          simp only [pack_Take.j0, Bool.false_eq_true, if_false]
          rw [e1, if_pos h4]
        · rw [if_neg h4]
          have hg := take_l0 w (by omega) (by omega) n (by omega) n 0 b [] (by omega) (by omega) hm rfl hb
          rw [List.nil_append] at hg
          refine Ev.step (fun k => ?_) hg
          simp only [pack_Take.j0, Bool.false_eq_true, if_false]
          rw [e1, if_neg h4, e3]
          rfl
  · rw [decide_eq_false h, if_neg (fun z => h ⟨z.1, z.2.1⟩)]
    simp only [Bool.false_eq_true, if_false]
    exact bad
end Go.Proofs.Ytkjibgfgbfacdaa.P
end
/-! part: PBook -/
section
set_option linter.unusedVariables false
set_option linter.unusedSimpArgs false
namespace Go.Proofs.Ytkjibgfgbfacdaa.P
open Go.RowKit Go.Proofs.YtkjibgfgbfacdaaW.PrintWords Go.Proofs.YtkjibgfgbfacdaaW.PrintLast Go.Proofs.YtkjibgfgbfacdaaW.PrintMore
set_option linter.unusedVariables false

/-! ### small -/
theorem idxCast (j : Nat) (h : j < 9223372036854775807) : wrap64 ((j : Int) + 1) = ((j + 1 : Nat) : Int) := by unfold wrap64; omega
theorem rdV (l : List (List Int)) (j : Nat) (h : j < l.length) : l.drop j = (l.getD j []) :: l.drop (j + 1) := by
  have := rdO [] l j (by omega) (by omega)
  rwa [Int.toNat_natCast, show ((j : Int) + 1).toNat = j + 1 by omega] at this
theorem rdI (l : List Int) (j : Nat) (h : j < l.length) : l.drop j = (l.getD j 0) :: l.drop (j + 1) := by
  have := rdO 0 l j (by omega) (by omega)
  rwa [Int.toNat_natCast, show ((j : Int) + 1).toNat = j + 1 by omega] at this
theorem bookOk_parts {way : Int} {cuts : List (List Int)} (h : bookOk way cuts = true) :
    1 ≤ cuts.length ∧ cuts.length ≤ 64 ∧ wayOk way = true ∧ ∀ c ∈ cuts, c.length = (cuts.getD 0 []).length ∧ cutsOk c = true := by
  unfold bookOk at h
  simp only [Bool.and_eq_true, decide_eq_true_eq, List.all_eq_true] at h
  exact ⟨h.1.1.1, h.1.1.2, h.1.2, h.2⟩
theorem cutsOk_len {c : List Int} (h : cutsOk c = true) : c.length < 16 := by
  unfold cutsOk at h
  simp only [Bool.and_eq_true, decide_eq_true_eq] at h
  exact h.1.1
theorem getD0_mem {cuts : List (List Int)} (h : 1 ≤ cuts.length) : cuts.getD 0 [] ∈ cuts := by
  cases cuts with
  | nil => simp at h
  | cons a t => simp
theorem cells_eq (way : Int) (cuts : List (List Int)) : quant_Cells.f way cuts = some (if bookOk way cuts = true then (((cuts.getD 0 []).length : Int) + 1, 0) else (0, 1)) := by
  unfold quant_Cells.f h_quant_Check.f
  simp only [Option.bind_some]
  by_cases h : bookOk way cuts = true
  · obtain ⟨h1, h2, h3, h4⟩ := bookOk_parts h
    have hl := cutsOk_len (h4 _ (getD0_mem h1)).2
    rw [if_pos h, if_pos rfl, if_pos (by omega), if_pos h]
    show some (wrap64 (((cuts.getD 0 []).length : Int) + 1), (0 : Int)) = _
    rw [w64 (by omega) (by omega)]
  · rw [if_neg h, if_neg (by decide), if_neg h]
/-! ### book.Bytes -/
def i16L (l : List Int) : Prop := ∀ x ∈ l, -32768 ≤ x ∧ x ≤ 32767
def i16LL (l : List (List Int)) : Prop := ∀ c ∈ l, i16L c
theorem fits2 {x : Int} (h : -32768 ≤ x ∧ x ≤ 32767) : fitsB 2 x = true := by
  unfold fitsB
  simp only [Nat.reduceMul, Nat.reduceSub, Int.reducePow, Int.reduceNeg, Bool.and_eq_true, decide_eq_true_eq]
  omega
theorem put2_ev (b : List Int) (x : Int) (hx : -32768 ≤ x ∧ x ≤ 32767) (hb : b.length ≤ 60000) : Ev (fun k => pack_Put.f k b 2 [wrap64 x]) (b ++ enc 2 x, 0) := by
  have := packPut_ev b 2 [wrap64 x] (by simp)
  rw [w64 (by omega) (by omega)] at this ⊢
  unfold putP at this
  rw [if_pos (by decide)] at this
  simp only [List.all_cons, List.all_nil, Bool.and_true, List.length_cons, List.length_nil, List.flatMap_cons, List.flatMap_nil, List.append_nil] at this
  rw [show Int.toNat 2 = 2 from rfl, if_pos (fits2 hx), if_neg (by simp; omega)] at this
  exact this
theorem bytes_l1 (cuts : List (List Int)) (i : Int) (c : List Int) (hc : i16L c) (hl : c.length ≤ 100) (v : List Int × Int) (d : Nat) :
    ∀ (j : Nat) (acc : List Int), j + d = c.length → acc.length + 2 * d ≤ 60000 → Ev (fun k => book_Bytes.l0 k (acc ++ (c.drop j).flatMap (enc 2)) cuts (cuts.length : Int) (wrap64 (i + 1))) v →
    Ev (fun k => book_Bytes.l1 k acc cuts (cuts.length : Int) i c (c.length : Int) j) v := by
  induction d with
  | zero =>
    intro j acc hj hb hv
    rw [List.drop_eq_nil_of_le (by omega)] at hv
    simp only [List.flatMap_nil, List.append_nil] at hv
    refine Ev.step (fun k => ?_) hv
    simp only [book_Bytes.l1]
    rw [if_neg (by omega)]
  | succ d ih =>
    intro j acc hj hb hv
    rw [rdI c j (by omega), List.flatMap_cons, ← List.append_assoc] at hv
    have hx := hc (c.getD j 0) (getD_mem 0 c j (by omega) (by omega))
    refine Ev.step (g' := fun k => (pack_Put.f k acc 2 [wrap64 (c.getD j 0)]).bind fun bt => (if bt.2 = 0 then (book_Bytes.l1 k bt.1 cuts (cuts.length : Int) i c (c.length : Int) (wrap64 ((j : Int) + 1))) else (some (([] : List Int), bt.2)))) (fun k => ?_) (Ev.bind (put2_ev acc _ hx (by omega)) ?_)
    · simp only [book_Bytes.l1]
      rw [if_pos (by omega), if_pos (by omega), if_pos (by omega)]
      rfl
    · simp only [if_true]
      rw [idxCast j (by omega)]
      exact ih (j + 1) (acc ++ enc 2 (c.getD j 0)) (by omega) (by rw [List.length_append, enc_length]; omega) hv
theorem bytes_l0 (cuts : List (List Int)) (hc : i16LL cuts) (hl : ∀ c ∈ cuts, c.length ≤ 15) (hm : cuts.length ≤ 64) (d : Nat) :
    ∀ (i : Nat) (acc : List Int), i + d = cuts.length → acc.length + 30 * d ≤ 30000 →
    Ev (fun k => book_Bytes.l0 k acc cuts (cuts.length : Int) i) (acc ++ (cuts.drop i).flatMap (fun c => c.flatMap (enc 2)), 0) := by
  induction d with
  | zero =>
    intro i acc hi hb
    refine Ev.step (g' := fun _ => _) (fun k => ?_) (Ev.const _)
    simp only [book_Bytes.l0]
    rw [if_neg (by omega), List.drop_eq_nil_of_le (by omega)]
    simp
  | succ d ih =>
    intro i acc hi hb
    have hmem := getD_mem [] cuts i (by omega) (by omega)
    rw [Int.toNat_natCast] at hmem
    have hcl := hl _ hmem
    have hfl : ((cuts.getD i []).flatMap (enc 2)).length = 2 * (cuts.getD i []).length := by
      generalize cuts.getD i [] = c
      induction c with
      | nil => rfl
      | cons a t iht => simp only [List.flatMap_cons, List.length_append, enc_length, List.length_cons]; omega
    have hnext := ih (i + 1) (acc ++ (cuts.getD i []).flatMap (enc 2)) (by omega) (by rw [List.length_append]; omega)
    rw [rdV cuts i (by omega), List.flatMap_cons, ← List.append_assoc]
    refine Ev.step (fun k => ?_) (bytes_l1 cuts i (cuts.getD i []) (hc _ hmem) (by omega) _ (cuts.getD i []).length 0 acc (by omega) (by omega) (by rw [idxCast i (by omega)]; exact hnext))
    simp only [book_Bytes.l0]
    rw [if_pos (by omega), if_pos (by omega), if_pos (by omega)]
    rfl
/-- A book's text. -/
def bytesB (way : Int) (cuts : List (List Int)) : List Int := enc 8 way ++ [(cuts.length : Int), ((cuts.getD 0 []).length : Int)] ++ cuts.flatMap (fun c => c.flatMap (enc 2))
theorem fits8 {x : Int} (h : -9223372036854775808 ≤ x ∧ x ≤ 9223372036854775807) : fitsB 8 x = true := by
  unfold fitsB
  simp only [Nat.reduceMul, Nat.reduceSub, Int.reducePow, Int.reduceNeg, Bool.and_eq_true, decide_eq_true_eq]
  omega
theorem wayOk_i64 {way : Int} (h : wayOk way = true) : 0 ≤ way ∧ way ≤ 4611686018427387903 := by
  unfold wayOk at h
  simpa using h
theorem bookBytes_ev (way : Int) (cuts : List (List Int)) (hc : i16LL cuts) : Ev (fun k => book_Bytes.f k way cuts) (if bookOk way cuts = true then (bytesB way cuts, 0) else ([], 1)) := by
  unfold book_Bytes.f
  rw [cells_eq]
  simp only [Option.bind_some]
  by_cases h : bookOk way cuts = true
  · obtain ⟨h1, h2, h3, h4⟩ := bookOk_parts h
    have hl := cutsOk_len (h4 _ (getD0_mem h1)).2
    rw [if_pos h]
    simp only [if_pos h, if_true]
    have hp := packPut_ev [] 8 [way] (by simp)
    unfold putP at hp
    rw [if_pos (by decide)] at hp
    simp only [List.all_cons, List.all_nil, Bool.and_true, List.length_cons, List.length_nil, List.flatMap_cons, List.flatMap_nil, List.append_nil, List.nil_append] at hp
    have hw := wayOk_i64 h3
    rw [show Int.toNat 8 = 8 from rfl, if_pos (fits8 (by omega)), if_neg (by simp)] at hp
    refine Ev.bind hp ?_
    have e1 : wrap64 ((((cuts.getD 0 []).length : Int) + 1) - 1) % 256 = ((cuts.getD 0 []).length : Int) := by unfold wrap64; omega
    have e2 : (cuts.length : Int) % 256 = (cuts.length : Int) := by omega
    rw [e1, e2]
    have hb := bytes_l0 cuts hc (fun c hcc => by have := cutsOk_len (h4 c hcc).2; omega) h2 cuts.length 0 (enc 8 way ++ [(cuts.length : Int), ((cuts.getD 0 []).length : Int)]) (by omega) (by simp [enc_length]; omega)
    rw [List.drop_zero] at hb
    refine Ev.congr (fun k => ?_) hb
    simp only [Option.bind_some, if_true]
    rw [if_pos (by rw [enc_length]; simp)]
    rfl
  · rw [if_neg h]
    simp only [if_neg h, if_neg (show ¬ ((1 : Int) = 0) by decide)]
    exact Ev.const _
theorem i16_of {l : List Int} (h : okI .i16 l) : i16L l := by
  intro x hx
  have h1 : (decide (IntKind.i16.min ≤ x) && decide (x ≤ IntKind.i16.max)) = true := h.2 x hx
  have e1 : IntKind.i16.min = -32768 := by decide
  have e2 : IntKind.i16.max = 32767 := by decide
  rw [e1, e2] at h1
  simpa using h1
theorem i16LL_of {l : List (List Int)} (h : okII .i16 l) : i16LL l := fun c hc => i16_of ⟨(h.2 c hc).1, (h.2 c hc).2⟩
theorem u8_of {l : List Int} (h : okI .u8 l) : ∀ x ∈ l, 0 ≤ x ∧ x < 256 := by
  intro x hx
  have h1 : (decide (IntKind.u8.min ≤ x) && decide (x ≤ IntKind.u8.max)) = true := h.2 x hx
  have e1 : IntKind.u8.min = 0 := by decide
  have e2 : IntKind.u8.max = 255 := by decide
  rw [e1, e2] at h1
  simp at h1
  omega
end Go.Proofs.Ytkjibgfgbfacdaa.P
end
/-! part: PBookF -/
section
set_option linter.unusedVariables false
set_option linter.unusedSimpArgs false
namespace Go.Proofs.Ytkjibgfgbfacdaa.P
open Go.RowKit Go.Proofs.YtkjibgfgbfacdaaW.PrintWords Go.Proofs.YtkjibgfgbfacdaaW.PrintLast Go.Proofs.YtkjibgfgbfacdaaW.PrintMore
set_option linter.unusedVariables false

/-- A list cut into D rows of M. -/
def rowsOf (M : Nat) : Nat → List Int → List (List Int)
  | 0, _ => []
  | D + 1, l => l.take M :: rowsOf M D (l.drop M)
theorem rowsOf_length (M D : Nat) : ∀ l, (rowsOf M D l).length = D := by
  induction D with
  | zero => intro l; rfl
  | succ D ih => intro l; simp [rowsOf, ih]
theorem rowsOf_getD (M D : Nat) : ∀ (l : List Int) (i : Nat), i < D → (rowsOf M D l).getD i [] = (l.drop (i * M)).take M := by
  induction D with
  | zero => intro l i h; omega
  | succ D ih =>
    intro l i h
    cases i with
    | zero => simp [rowsOf]
    | succ i =>
      have := ih (l.drop M) i (by omega)
      rw [List.drop_drop] at this
      rw [show (i + 1) * M = M + i * M by rw [Nat.succ_mul]; omega, ← this]
      simp [rowsOf]
theorem rowsOf_flatten (M D : Nat) : ∀ l : List Int, (rowsOf M D l).flatten = l.take (D * M) := by
  induction D with
  | zero => intro l; simp [rowsOf]
  | succ D ih =>
    intro l
    rw [rowsOf, List.flatten_cons, ih, show (D + 1) * M = M + D * M by rw [Nat.succ_mul]; omega, List.take_add]
theorem rowsOf_of (M : Nat) : ∀ cuts : List (List Int), (∀ c ∈ cuts, c.length = M) → rowsOf M cuts.length cuts.flatten = cuts := by
  intro cuts
  induction cuts with
  | nil => intro _; rfl
  | cons c t ih =>
    intro h
    have hc := h c (by simp)
    rw [List.length_cons, rowsOf, List.flatten_cons, List.take_append_of_le_length (by omega), List.take_of_length_le (by omega)]
    rw [show (c ++ t.flatten).drop M = t.flatten by rw [← hc]; simp, ih fun x hx => h x (List.mem_cons_of_mem _ hx)]
theorem decs_length (w n : Nat) : ∀ l, (decs w n l).length = n := by
  induction n with
  | zero => intro l; rfl
  | succ n ih => intro l; simp [decs, ih]
theorem decs_fits (w : Nat) (h : 1 ≤ w) (h' : w ≤ 8) (n : Nat) : ∀ l : List Int, n * w ≤ l.length → (∀ x ∈ l, 0 ≤ x ∧ x < 256) → ∀ x ∈ decs w n l, fitsB w x = true := by
  induction n with
  | zero => intro l _ _ x hx; cases hx
  | succ n ih =>
    intro l hl hb x hx
    rw [Nat.succ_mul] at hl
    simp only [decs, List.mem_cons] at hx
    rcases hx with rfl | hx
    · exact dec_fits w h h' _ (by rw [List.length_take]; omega) (fun y hy => hb y (List.mem_of_mem_take hy))
    · exact ih (l.drop w) (by rw [List.length_drop]; omega) (fun y hy => hb y (List.mem_of_mem_drop hy)) x hx
theorem decs_enc (w : Nat) (h : 1 ≤ w) (h' : w ≤ 8) (n : Nat) : ∀ l : List Int, n * w ≤ l.length → (∀ x ∈ l, 0 ≤ x ∧ x < 256) → (decs w n l).flatMap (enc w) = l.take (n * w) := by
  induction n with
  | zero => intro l _ _; simp [decs]
  | succ n ih =>
    intro l hl hb
    rw [Nat.succ_mul] at hl
    rw [decs, List.flatMap_cons, enc_dec w h h' _ (by rw [List.length_take]; omega) (fun y hy => hb y (List.mem_of_mem_take hy)), ih (l.drop w) (by rw [List.length_drop]; omega) (fun y hy => hb y (List.mem_of_mem_drop hy)),
      show (n + 1) * w = w + n * w by rw [Nat.succ_mul]; omega, List.take_add]
theorem decs_of (w : Nat) (h : 1 ≤ w) (h' : w ≤ 8) : ∀ L : List Int, (∀ x ∈ L, fitsB w x = true) → decs w L.length (L.flatMap (enc w)) = L := by
  intro L
  induction L with
  | nil => intro _; rfl
  | cons x t ih =>
    intro hf
    have hl := enc_length w x
    rw [List.length_cons, decs, List.flatMap_cons, List.take_append_of_le_length (by omega), List.take_of_length_le (by omega), dec_enc w h h' x (hf x (by simp))]
    rw [show (enc w x ++ t.flatMap (enc w)).drop w = t.flatMap (enc w) from List.drop_left' hl, ih fun y hy => hf y (List.mem_cons_of_mem _ hy)]
theorem flat_enc_length (w : Nat) : ∀ L : List Int, (L.flatMap (enc w)).length = L.length * w := by
  intro L
  induction L with
  | nil => simp
  | cons x t ih => rw [List.flatMap_cons, List.length_append, ih, enc_length, List.length_cons, Nat.succ_mul]; omega
theorem flat2 (w : Nat) (cuts : List (List Int)) : cuts.flatMap (fun c => c.flatMap (enc w)) = cuts.flatten.flatMap (enc w) := by
  induction cuts with
  | nil => rfl
  | cons c t ih => rw [List.flatMap_cons, List.flatten_cons, List.flatMap_append, ih]

/-! ### book.From -/
theorem fits2_iff {x : Int} (h : fitsB 2 x = true) : -32768 ≤ x ∧ x ≤ 32767 := by
  unfold fitsB at h
  simp only [Nat.reduceMul, Nat.reduceSub, Int.reducePow, Int.reduceNeg, Bool.and_eq_true, decide_eq_true_eq] at h
  omega
theorem i16_wrap {x : Int} (h : -32768 ≤ x ∧ x ≤ 32767) : IntKind.i16.wrap x = x := by
  simp [IntKind.wrap, IntKind.bits, IntKind.signed]
  split <;> omega
theorem set_mid (a : List Int) (x z : Int) (d : Nat) : (a ++ List.replicate (d + 1) z).set a.length x = (a ++ [x]) ++ List.replicate d z := by
  rw [List.set_append_right _ _ (Nat.le_refl _), Nat.sub_self, List.replicate_succ, List.set_cons_zero, List.append_assoc]
  rfl
theorem set_midV (a : List (List Int)) (x z : List Int) (d : Nat) : (a ++ List.replicate (d + 1) z).set a.length x = (a ++ [x]) ++ List.replicate d z := by
  rw [List.set_append_right _ _ (Nat.le_refl _), Nat.sub_self, List.replicate_succ, List.set_cons_zero, List.append_assoc]
  rfl
theorem from_l1 (M : Nat) (L : List Int) (hL : ∀ x ∈ L, -32768 ≤ x ∧ x ≤ 32767) (hLm : L.length ≤ 65536) (hM : M ≤ 255) (D i : Nat) (hD : D ≤ 255) (hi : i < D) (hDM : L.length = D * M) (way : Int) (cuts : List (List Int)) (hcl : cuts.length = D) (V : Int × List (List Int) × Int)
    (hV : Ev (fun k => book_From.l0 k M L (D : Int) (wrap64 ((i : Int) + 1)) way (cuts.set i ((L.drop (i * M)).take M))) V) (d : Nat) : ∀ (j : Nat) (row : List Int), j + d = M → row = ((L.drop (i * M)).take M).take j ++ List.replicate d 0 →
    Ev (fun k => book_From.l1 k M L i row (D : Int) i (M : Int) j way cuts) V := by
  have hle : i * M + M ≤ L.length := by
    rw [hDM, ← Nat.succ_mul]
    exact Nat.mul_le_mul_right _ (by omega)
  have hrl : ((L.drop (i * M)).take M).length = M := by rw [List.length_take, List.length_drop]; omega
  induction d with
  | zero =>
    intro j row hj hr
    obtain rfl : j = M := by omega
    rw [List.take_of_length_le (by omega)] at hr
    simp only [List.replicate_zero, List.append_nil] at hr
    subst hr
    refine Ev.step (fun k => ?_) hV
    simp only [book_From.l1]
    rw [if_neg (by omega), if_pos (by omega), if_pos (by omega), Int.toNat_natCast]
  | succ d ih =>
    intro j row hj hr
    have e1 : Aside0 (wrap64 ((i : Int) * (M : Int)) = ((i * M : Nat) : Int)) := ⟨by
      have : ((i * M : Nat) : Int) = (i : Int) * (M : Int) := by simp
      rw [← this]
      exact w64 (by omega) (by omega)⟩
    have e2 : Aside0 (wrap64 (((i * M : Nat) : Int) + (j : Int)) = ((i * M + j : Nat) : Int)) := ⟨by rw [← Int.natCast_add]; exact w64 (by omega) (by omega)⟩
    have hlt : i * M + j < L.length := by omega
    have er : rd L ((i * M + j : Nat) : Int) = L[i * M + j] := by
      show L.getD (((i * M + j : Nat) : Int)).toNat 0 = _
      rw [Int.toNat_natCast]
      simp [List.getD_eq_getElem?_getD, hlt]
    have hx := hL _ (List.getElem_mem hlt)
    have htl : (((L.drop (i * M)).take M).take j).length = j := by rw [List.length_take]; omega
    have hset : row.set j L[i * M + j] = ((L.drop (i * M)).take M).take (j + 1) ++ List.replicate d 0 := by
      rw [hr]
      have := set_mid (((L.drop (i * M)).take M).take j) (L[i * M + j]) 0 d
      rw [htl] at this
      rw [this, List.take_succ_eq_append_getElem (show j < ((L.drop (i * M)).take M).length by omega)]
      simp
    refine Ev.step (fun k => ?_) (ih (j + 1) _ (by omega) hset)
    simp only [book_From.l1]
    rw [if_pos (by omega), e1.out, e2.out, if_pos (by omega), if_pos (by omega), if_pos (by omega), if_pos (by rw [hr, List.length_append, List.length_replicate, htl]; omega), er, i16_wrap hx, Int.toNat_natCast, idxCast j (by omega)]
theorem from_l0 (M : Nat) (L : List Int) (hL : ∀ x ∈ L, -32768 ≤ x ∧ x ≤ 32767) (hLm : L.length ≤ 65536) (hM : M ≤ 255) (D : Nat) (hD : D ≤ 255) (hDM : L.length = D * M) (way : Int) (d : Nat) :
    ∀ (i : Nat) (cuts : List (List Int)), i + d = D → cuts = (rowsOf M D L).take i ++ List.replicate d [] →
    Ev (fun k => book_From.l0 k M L (D : Int) i way cuts) (if bookOk way (rowsOf M D L) = true then (way, rowsOf M D L, 0) else (0, [], 2)) := by
  have hrl := rowsOf_length M D L
  induction d with
  | zero =>
    intro i cuts hi hc
    obtain rfl : i = D := by omega
    rw [List.take_of_length_le (by omega)] at hc
    simp only [List.replicate_zero, List.append_nil] at hc
    subst hc
    refine Ev.step (g' := fun _ => _) (fun k => ?_) (Ev.const _)
    simp only [book_From.l0]
    rw [if_neg (by omega)]
    unfold h_quant_Check.f
    simp only [Option.bind_some]
    split <;> simp
  | succ d ih =>
    intro i cuts hi hc
    have htl : ((rowsOf M D L).take i).length = i := by rw [List.length_take]; omega
    have hcl : cuts.length = D := by rw [hc, List.length_append, List.length_replicate, htl]; omega
    have hrow : (rowsOf M D L)[i]'(by omega) = (L.drop (i * M)).take M := by
      have := rowsOf_getD M D L i (by omega)
      rw [← this]
      simp [List.getD_eq_getElem?_getD, show i < (rowsOf M D L).length by omega]
    have hset : cuts.set i ((L.drop (i * M)).take M) = (rowsOf M D L).take (i + 1) ++ List.replicate d [] := by
      rw [hc]
      have := set_midV ((rowsOf M D L).take i) ((L.drop (i * M)).take M) [] d
      rw [htl] at this
      rw [this, List.take_succ_eq_append_getElem (show i < (rowsOf M D L).length by omega), hrow]
    have hnext := ih (i + 1) _ (by omega) hset
    have hg := from_l1 M L hL hLm hM D i hD (by omega) hDM way cuts hcl _ (by rw [idxCast i (by omega)]; exact hnext) M 0 (List.replicate M 0) (by omega) (by simp)
    refine Ev.step (fun k => ?_) hg
    simp only [book_From.l0]
    rw [if_pos (by omega), if_pos (by omega), Int.toNat_natCast, if_pos (by omega)]
    simp only [Option.bind_some]
    rw [List.length_replicate]
    rfl
/-- What a text tells: its way, numbers, cuts. -/
def fromP (t : List Int) : Int × List (List Int) × Int :=
  if t.length < 10 then (0, [], 2) else
    if t.length = 10 + (t.getD 8 0).toNat * (t.getD 9 0).toNat * 2 then
      (if bookOk (dec 8 (t.take 8)) (rowsOf (t.getD 9 0).toNat (t.getD 8 0).toNat (decs 2 ((t.getD 8 0).toNat * (t.getD 9 0).toNat) (t.drop 10))) = true then
        (dec 8 (t.take 8), rowsOf (t.getD 9 0).toNat (t.getD 8 0).toNat (decs 2 ((t.getD 8 0).toNat * (t.getD 9 0).toNat) (t.drop 10)), 0) else (0, [], 2))
    else (0, [], 2)
theorem bookFrom_ev (t : List Int) (ht : t.length < 140737488355328) (hb : ∀ x ∈ t, 0 ≤ x ∧ x < 256) : Ev (fun k => book_From.f k t) (fromP t) := by
  unfold book_From.f fromP
  by_cases h : t.length < 10
  · simp only [if_pos (show (t.length : Int) < 10 by omega), if_pos h]
    exact Ev.const _
  · simp only [if_neg (show ¬ (t.length : Int) < 10 by omega), if_neg h]
    have h1 := packTake_ev t 8 1 ht hb
    unfold takeP at h1
    rw [if_pos (by decide), if_neg (by omega)] at h1
    refine Ev.bind h1 ?_
    have hm8 := hb (t.getD 8 0) (getD_mem 0 t 8 (by omega) (by omega))
    have hm9 := hb (t.getD 9 0) (getD_mem 0 t 9 (by omega) (by omega))
    have er8 : rd t 8 = t.getD 8 0 := rfl
    have er9 : rd t 9 = t.getD 9 0 := rfl
    simp only [if_pos (show (8 : Int) < (t.length : Int) by omega), if_pos (show (9 : Int) < (t.length : Int) by omega), if_pos (show (10 : Int) ≤ (t.length : Int) by omega), er8, er9]
    have hdD : ∃ D : Nat, t.getD 8 0 = (D : Int) := ⟨(t.getD 8 0).toNat, by omega⟩
    have hdM : ∃ M : Nat, t.getD 9 0 = (M : Int) := ⟨(t.getD 9 0).toNat, by omega⟩
    obtain ⟨D, hD⟩ := hdD
    obtain ⟨M, hM⟩ := hdM
    rw [hD] at hm8 ⊢
    rw [hM] at hm9 ⊢
    clear er8 er9 hD hM
    have eD : Aside0 (wrap64 (D : Int) = D) := ⟨w64 (by omega) (by omega)⟩
    have eM : Aside0 (wrap64 (M : Int) = M) := ⟨w64 (by omega) (by omega)⟩
    have hDM : D * M ≤ 255 * 255 := Nat.mul_le_mul (by omega) (by omega)
    have e0 : ((D * M : Nat) : Int) = (D : Int) * (M : Int) := by simp
    have eP : Aside0 (wrap64 ((D : Int) * (M : Int)) = ((D * M : Nat) : Int)) := ⟨by rw [← e0]; exact w64 (by omega) (by omega)⟩
    clear e0
    rw [eD.out, eM.out, eP.out, Int.toNat_natCast, Int.toNat_natCast]
    have h2 := packTake_ev (t.drop 10) 2 ((D * M : Nat) : Int) (by rw [List.length_drop]; omega) (fun x hx => hb x (List.mem_of_mem_drop hx))
    unfold takeP at h2
    rw [if_pos (by omega), List.length_drop, Int.toNat_natCast] at h2
    refine Ev.bind h2 ?_
    have er0 : decs (Int.toNat 8) (Int.toNat 1) t = [dec 8 (t.take 8)] := rfl
    rw [er0]
    simp only [if_true]
    have bad : ∀ (x7 x8 : Int) (x9 : List Int), Ev (fun k => book_From.j0 k [dec 8 (t.take 8)] x7 x8 x9 true) (0, [], 2) := by
      intro x7 x8 x9
      refine Ev.step (g' := fun _ => _) (fun k => ?_) (Ev.const _)
      simp only [book_From.j0, if_true]
    by_cases h3 : ((t.length - 10 : Nat) : Int) < ((D * M : Nat) : Int) * 2
    · rw [if_pos h3, if_neg (by omega)]
      simp only [if_neg (show ¬ ((2 : Int) = 0) by decide)]
      exact bad _ _ _
    · rw [if_neg h3]
      simp only [if_true, List.length_drop]
      rw [show Int.toNat 2 = 2 from rfl]
      by_cases h4 : t.length = 10 + D * M * 2
      · rw [if_pos h4, decide_eq_false (by omega)]
        have hL2 : ∀ x ∈ decs 2 (D * M) (t.drop 10), -32768 ≤ x ∧ x ≤ 32767 := fun x hx => fits2_iff (decs_fits 2 (by decide) (by decide) _ _ (by rw [List.length_drop]; omega) (fun y hy => hb y (List.mem_of_mem_drop hy)) x hx)
        have hg := from_l0 M (decs 2 (D * M) (t.drop 10)) hL2 (by rw [decs_length]; omega) (by omega) D (by omega) (decs_length _ _ _) (dec 8 (t.take 8)) D 0 (List.replicate D []) (by omega) (by simp)
        refine Ev.step (fun k => ?_) hg
        simp only [book_From.j0, Bool.false_eq_true, if_false]
        rw [if_pos (by simp), if_pos (by omega), Int.toNat_natCast, if_pos (by omega)]
        simp only [Option.bind_some]
        rw [List.length_replicate]
        rfl
      · rw [if_neg h4, decide_eq_true (by omega)]
        exact bad _ _ _
/-- What was read is written anew. -/
theorem bytes_from {t : List Int} (hb : ∀ x ∈ t, 0 ≤ x ∧ x < 256) {way : Int} {cuts : List (List Int)} {e : Int} (h : fromP t = (way, cuts, e)) (he : e = 0) : bookOk way cuts = true ∧ i16LL cuts ∧ bytesB way cuts = t := by
  unfold fromP at h
  by_cases h1 : t.length < 10
  · rw [if_pos h1] at h; cases h; cases he
  rw [if_neg h1] at h
  by_cases h2 : t.length = 10 + (t.getD 8 0).toNat * (t.getD 9 0).toNat * 2
  · rw [if_pos h2] at h
    have hm8 := hb (t.getD 8 0) (getD_mem 0 t 8 (by omega) (by omega))
    have hm9 := hb (t.getD 9 0) (getD_mem 0 t 9 (by omega) (by omega))
    have e8 : ((t.getD 8 0).toNat : Int) = t.getD 8 0 := by omega
    have e9 : ((t.getD 9 0).toNat : Int) = t.getD 9 0 := by omega
    generalize (t.getD 8 0).toNat = D at *
    generalize (t.getD 9 0).toNat = M at *
    have hbd : ∀ y ∈ t.drop 10, 0 ≤ y ∧ y < 256 := fun y hy => hb y (List.mem_of_mem_drop hy)
    have hld : D * M * 2 ≤ (t.drop 10).length := by rw [List.length_drop]; omega
    have hLf := decs_fits 2 (by decide) (by decide) (D * M) (t.drop 10) hld hbd
    have hLe := decs_enc 2 (by decide) (by decide) (D * M) (t.drop 10) hld hbd
    have hLl := decs_length 2 (D * M) (t.drop 10)
    generalize decs 2 (D * M) (t.drop 10) = L at *
    by_cases h3 : bookOk (dec 8 (t.take 8)) (rowsOf M D L) = true
    · rw [if_pos h3] at h
      cases h
      have hfl := rowsOf_flatten M D L
      rw [List.take_of_length_le (by omega)] at hfl
      refine ⟨h3, ?_, ?_⟩
      · intro c hc x hx
        exact fits2_iff (hLf x (by rw [← hfl]; exact List.mem_flatten.2 ⟨c, hc, hx⟩))
      · obtain ⟨p1, p2, p3, p4⟩ := bookOk_parts h3
        rw [rowsOf_length] at p1
        have hg0 := rowsOf_getD M D L 0 (by omega)
        have hM1 : M ≤ D * M := Nat.le_mul_of_pos_left M (by omega)
        unfold bytesB
        rw [flat2, hfl, hLe, rowsOf_length, hg0, enc_dec 8 (by decide) (by decide) _ (by rw [List.length_take]; omega) (fun y hy => hb y (List.mem_of_mem_take hy))]
        rw [List.length_take, List.length_drop, Nat.zero_mul, Nat.sub_zero, hLl, Nat.min_eq_left hM1, e8, e9, List.take_of_length_le (l := t.drop 10) (by rw [List.length_drop]; omega)]
        have s1 := rdI t 8 (by omega)
        have s2 := rdI t 9 (by omega)
        rw [s2] at s1
        conv => rhs; rw [← List.take_append_drop 8 t, s1]
        simp
    · rw [if_neg h3] at h; cases h; cases he
  · rw [if_neg h2] at h; cases h; cases he
/-- What was written is read. -/
theorem from_bytes {way : Int} {cuts : List (List Int)} (h : bookOk way cuts = true) (hc : i16LL cuts) : fromP (bytesB way cuts) = (way, cuts, 0) ∧ (∀ x ∈ bytesB way cuts, 0 ≤ x ∧ x < 256) ∧ (bytesB way cuts).length = 10 + cuts.length * (cuts.getD 0 []).length * 2 := by
  obtain ⟨p1, p2, p3, p4⟩ := bookOk_parts h
  have hM := cutsOk_len (p4 _ (getD0_mem p1)).2
  have hw := wayOk_i64 p3
  have hfl : (cuts.flatten).length = cuts.length * (cuts.getD 0 []).length := by
    have : ∀ m, (∀ c ∈ cuts, c.length = m) → (cuts.flatten).length = cuts.length * m := by
      intro m
      clear h hc p1 p2 p4 hM
      induction cuts with
      | nil => intro _; simp
      | cons a t ih => intro hh; rw [List.flatten_cons, List.length_append, ih fun c hc => hh c (List.mem_cons_of_mem _ hc), hh a (by simp), List.length_cons, Nat.succ_mul]; omega
    exact this _ fun c hcc => (p4 c hcc).1
  have hff : ∀ x ∈ cuts.flatten, fitsB 2 x = true := by
    intro x hx
    obtain ⟨c, hcc, hx⟩ := List.mem_flatten.1 hx
    exact fits2 (hc c hcc x hx)
  have hflat := flat2 2 cuts
  have hlen8 := enc_length 8 way
  have hall : ∀ x ∈ bytesB way cuts, 0 ≤ x ∧ x < 256 := by
    intro x hx
    unfold bytesB at hx
    simp only [List.mem_append, List.mem_cons, List.not_mem_nil, or_false, List.mem_flatMap] at hx
    rcases hx with (hx | rfl | rfl) | ⟨c, hcc, y, hy, hx⟩
    · exact enc_byte 8 way x hx
    · omega
    · omega
    · exact enc_byte 2 y x hx
  have hlen : (bytesB way cuts).length = 10 + cuts.length * (cuts.getD 0 []).length * 2 := by
    unfold bytesB
    rw [hflat, List.length_append, List.length_append, hlen8, flat_enc_length, hfl]
    rfl
  refine ⟨?_, hall, hlen⟩
  have e8 : (bytesB way cuts).getD 8 0 = (cuts.length : Int) := by
    unfold bytesB
    rw [List.append_assoc, List.getD_eq_getElem?_getD, List.getElem?_append_right (by omega), hlen8]
    rfl
  have e9 : (bytesB way cuts).getD 9 0 = ((cuts.getD 0 []).length : Int) := by
    unfold bytesB
    rw [List.append_assoc, List.getD_eq_getElem?_getD, List.getElem?_append_right (by omega), hlen8]
    rfl
  have ed : (bytesB way cuts).drop 10 = cuts.flatten.flatMap (enc 2) := by
    unfold bytesB
    rw [hflat, List.drop_append_of_le_length (by simp [hlen8]), List.drop_eq_nil_of_le (by simp [hlen8]), List.nil_append]
  have et : (bytesB way cuts).take 8 = enc 8 way := by
    unfold bytesB
    rw [List.append_assoc, List.take_append_of_le_length (by omega), List.take_of_length_le (by omega)]
  unfold fromP
  rw [if_neg (by omega), e8, e9, Int.toNat_natCast, Int.toNat_natCast, if_pos hlen, ed, et, dec_enc 8 (by decide) (by decide) way (fits8 (by omega)), ← hfl, decs_of 2 (by decide) (by decide) _ hff, rowsOf_of _ cuts (fun c hcc => (p4 c hcc).1), if_pos h]
end Go.Proofs.Ytkjibgfgbfacdaa.P
end
/-! part: PBookP -/
section
set_option linter.unusedVariables false
set_option linter.unusedSimpArgs false
namespace Go.Proofs.Ytkjibgfgbfacdaa.P
open Go.RowKit Go.Proofs.YtkjibgfgbfacdaaW.PrintWords Go.Proofs.YtkjibgfgbfacdaaW.PrintLast Go.Proofs.YtkjibgfgbfacdaaW.PrintMore
set_option linter.unusedVariables false

/-- Where a plain book is cut. -/
def pcut (j : Nat) (c : Int) : Int := IntKind.i16.wrap (wrap64 ((wrap64 (Int.tdiv (wrap64 (((j + 1 : Nat) : Int) * 65536)) c)) - 32768))
def plainC (c : Int) : List Int := (List.range (c.toNat - 1)).map (fun j => pcut j c)
theorem plainC_length (c : Int) : (plainC c).length = c.toNat - 1 := by simp [plainC]
theorem plainC_take (c : Int) (j : Nat) (h : j < c.toNat - 1) : (plainC c).take (j + 1) = (plainC c).take j ++ [pcut j c] := by
  rw [List.take_succ_eq_append_getElem (by rw [plainC_length]; exact h)]
  simp [plainC]
def plainB (D : Int) (c : Int) : List (List Int) := List.replicate D.toNat (plainC c)
def withinB (D c : Int) : Bool := decide (1 ≤ D) && decide (1 ≤ c) && decide (D ≤ 64) && decide (c ≤ 16)
theorem within_eq (D c : Int) : book_within.f D c = some (withinB D c) := by
  unfold book_within.f withinB mn
  by_cases h1 : 1 ≤ D ∧ 1 ≤ c
  · rw [if_pos (by split <;> omega), decide_eq_true h1.1, decide_eq_true h1.2]
    by_cases h2 : D ≤ 64
    · rw [if_pos h2, decide_eq_true h2]; simp
    · rw [if_neg h2, decide_eq_false h2]; simp
  · rw [if_neg (by split <;> omega)]
    by_cases h3 : 1 ≤ D
    · rw [decide_eq_false (p := 1 ≤ c) (by omega)]; simp
    · rw [decide_eq_false h3]; simp
theorem rdL_set (C : List (List Int)) (i : Nat) (r : List Int) (h : i < C.length) : rd_L3 (C.set i r) (i : Int) = r := by
  show (C.set i r).getD ((i : Int)).toNat [] = r
  rw [Int.toNat_natCast]
  simp [List.getD_eq_getElem?_getD, h]
theorem plain_l1 (D : Int) (c : Int) (hc : 1 ≤ c) (hc' : c ≤ 16) (C : List (List Int)) (i : Nat) (hi : i < C.length) (hCl : C.length ≤ 64) (w : Int) (V : Int × List (List Int) × Int)
    (hV : Ev (fun k => book_Plain.l0 k c D (wrap64 ((i : Int) + 1)) w (C.set i (plainC c))) V) (d : Nat) : ∀ j : Nat, j + d = c.toNat - 1 →
    Ev (fun k => book_Plain.l1 k c i ((j + 1 : Nat) : Int) D i w (C.set i ((plainC c).take j))) V := by
  induction d with
  | zero =>
    intro j hj
    rw [List.take_of_length_le (by rw [plainC_length]; omega)]
    refine Ev.step (fun k => ?_) hV
    simp only [book_Plain.l1]
    rw [if_neg (by omega)]
  | succ d ih =>
    intro j hj
    refine Ev.step (fun k => ?_) (ih (j + 1) (by omega))
    simp only [book_Plain.l1]
    rw [if_pos (by omega), if_pos (by omega), if_pos (by rw [List.length_set]; omega), if_neg (by omega), rdL_set C i _ hi, if_pos (by rw [List.length_take, plainC_length]; omega), Int.toNat_natCast, List.set_set,
      plainC_take c j (by omega), idxCast (j + 1) (by omega)]
    rfl
theorem plain_l0 (c : Int) (hc : 1 ≤ c) (hc' : c ≤ 16) (D : Nat) (hD : D ≤ 64) (d : Nat) : ∀ (i : Nat) (C : List (List Int)), i + d = D → C = List.replicate i (plainC c) ++ List.replicate d [] →
    Ev (fun k => book_Plain.l0 k c (D : Int) i 0 C) (0, List.replicate D (plainC c), 0) := by
  induction d with
  | zero =>
    intro i C hi hC
    obtain rfl : i = D := by omega
    simp only [List.replicate_zero, List.append_nil] at hC
    subst hC
    refine Ev.step (g' := fun _ => _) (fun k => ?_) (Ev.const _)
    simp only [book_Plain.l0]
    rw [if_neg (by omega)]
  | succ d ih =>
    intro i C hi hC
    have hl : C.length = D := by rw [hC]; simp; omega
    have hset : C.set i (plainC c) = List.replicate (i + 1) (plainC c) ++ List.replicate d [] := by
      have := set_midV (List.replicate i (plainC c)) (plainC c) [] d
      rw [List.length_replicate] at this
      rw [hC, this]
      congr 1
      rw [List.replicate_succ']
    have hnext := ih (i + 1) _ (by omega) hset
    have hg := plain_l1 (D : Int) c hc hc' C i (by omega) (by omega) 0 _ (by rw [idxCast i (by omega)]; exact hnext) (c.toNat - 1) 0 (by omega)
    have e0 : C.set i ((plainC c).take 0) = C := by
      rw [List.take_zero]
      refine List.ext_getElem? fun m => ?_
      rw [List.getElem?_set]
      by_cases e : i = m
      · subst e
        rw [if_pos rfl, if_pos (by omega), hC, List.getElem?_append_right (by simp)]
        simp
      · rw [if_neg e]
    rw [e0] at hg
    refine Ev.step (fun k => ?_) hg
    simp only [book_Plain.l0]
    rw [if_pos (by omega)]
    rfl
theorem plain_ev (D c : Int) : Ev (fun k => book_Plain.f k D c) (if withinB D c = true then (0, plainB D c, 0) else (0, [], 1)) := by
  unfold book_Plain.f
  rw [within_eq]
  simp only [Option.bind_some]
  by_cases h : withinB D c = true
  · simp only [if_pos h]
    unfold withinB at h
    simp only [Bool.and_eq_true, decide_eq_true_eq] at h
    obtain ⟨⟨⟨h1, h2⟩, h3⟩, h4⟩ := h
    obtain ⟨D, rfl⟩ := Int.eq_ofNat_of_zero_le (show 0 ≤ D by omega)
    have hg := plain_l0 c h2 h4 D (by omega) D 0 (List.replicate D []) (by omega) (by simp)
    refine Ev.congr (fun k => ?_) hg
    rw [if_pos (by omega), Int.toNat_natCast, if_pos (by omega), List.length_replicate]
    rfl
  · simp only [if_neg h]
    exact Ev.const _
theorem i16_bound (n : Int) : -32768 ≤ IntKind.i16.wrap n ∧ IntKind.i16.wrap n ≤ 32767 := by
  simp [IntKind.wrap, IntKind.bits, IntKind.signed]
  split <;> omega
theorem plain_i16 (D c : Int) : i16LL (plainB D c) := by
  intro l hl x hx
  obtain ⟨_, rfl⟩ := List.mem_replicate.1 hl
  simp only [plainC, List.mem_map] at hx
  obtain ⟨j, _, rfl⟩ := hx
  exact i16_bound _
theorem plainC_all : (List.range 16).all (fun j => cutsOk (plainC ((j + 1 : Nat) : Int))) = true := by kernel_rfl
theorem plainC_ok (c : Int) (h : 1 ≤ c) (h' : c ≤ 16) : cutsOk (plainC c) = true := by
  have := List.all_eq_true.1 plainC_all (c.toNat - 1) (List.mem_range.2 (by omega))
  rwa [show ((c.toNat - 1 + 1 : Nat) : Int) = c by omega] at this
theorem plain_ok (D c : Int) (h : withinB D c = true) : bookOk 0 (plainB D c) = true ∧ (plainB D c).length = D.toNat ∧ ((plainB D c).getD 0 []).length = c.toNat - 1 := by
  unfold withinB at h
  simp only [Bool.and_eq_true, decide_eq_true_eq] at h
  obtain ⟨⟨⟨h1, h2⟩, h3⟩, h4⟩ := h
  have hl : (plainB D c).length = D.toNat := by simp [plainB]
  have h0 : (plainB D c).getD 0 [] = plainC c := by
    unfold plainB
    obtain ⟨m, hm⟩ : ∃ m, D.toNat = m + 1 := ⟨D.toNat - 1, by omega⟩
    rw [hm, List.replicate_succ]
    rfl
  refine ⟨?_, hl, by rw [h0, plainC_length]⟩
  unfold bookOk
  rw [h0]
  simp only [Bool.and_eq_true, decide_eq_true_eq, List.all_eq_true]
  refine ⟨⟨⟨by omega, by omega⟩, by decide⟩, fun l hm => ?_⟩
  obtain ⟨_, rfl⟩ := List.mem_replicate.1 hm
  exact ⟨rfl, plainC_ok c h2 h4⟩
theorem size_eq (D c : Int) : book_Size.f D c = some (if withinB D c = true then (10 + 2 * D * (c - 1), 0) else (0, 1)) := by
  unfold book_Size.f
  rw [within_eq]
  simp only [Option.bind_some]
  by_cases h : withinB D c = true
  · rw [if_pos h, if_pos h]
    unfold withinB at h
    simp only [Bool.and_eq_true, decide_eq_true_eq] at h
    obtain ⟨⟨⟨h1, h2⟩, h3⟩, h4⟩ := h
    have e1 : wrap64 (2 * D) = 2 * D := w64 (by omega) (by omega)
    have e2 : wrap64 (c - 1) = c - 1 := w64 (by omega) (by omega)
    have h5 : 2 * D * (c - 1) ≤ 128 * 15 := Int.mul_le_mul (by omega) (by omega) (by omega) (by omega)
    have h6 : 0 ≤ 2 * D * (c - 1) := Int.mul_nonneg (by omega) (by omega)
    rw [e1, e2]
    clear e1 e2
    generalize 2 * D * (c - 1) = z at *
    rw [w64 (i := z) (by omega) (by omega), w64 (by omega) (by omega)]
  · rw [if_neg h, if_neg h]
theorem bookSame_eq (a : Int) (x : List (List Int)) (b : Int) (y : List (List Int)) : book_Same.f a x b y = some (decide (a = b ∧ x = y)) := by
  unfold book_Same.f h_EqCuts.f
  by_cases h : a = b
  · rw [if_pos h]
    simp [h]
  · rw [if_neg h]
    simp [h]
theorem same06 (xs ys : List Int) (hm : xs.length ≤ 9223372036854775807) (k : Nat) (hk : xs.length < k) : cuvetteref06_Same.f k xs ys = some (decide (xs = ys)) := by
  unfold cuvetteref06_Same.f
  exact eqLoop0 0 cuvetteref06_Same.l0 (fun k xs ys n i => by simp only [cuvetteref06_Same.l0]; rfl) xs ys hm k hk
theorem live08 : Ev (fun k => cuvettelaw08_live.f k) true := by
  have h : Ev (fun k => cuvettelaw08_live.f0 k) true := by
    unfold cuvettelaw08_live.f0
    refine Ev.bind (plain_ev 1 2) ?_
    rw [if_pos (by decide)]
    have e : plainB 1 2 = [[0]] := by kernel_rfl
    rw [e]
    refine Ev.congr (g' := fun k => (cuvetteref06_Same.f k [0] [0]).bind fun t447 => (if t447 = true then some true else some false)) (fun k => ?_) (Ev.bind (a := true) ⟨2, fun k hk => (same06 _ _ (by decide) k (by simp; omega)).trans rfl⟩ (Ev.of fun k => rfl))
    simp only [if_true, bookSame_eq]
    rfl
  obtain ⟨K, h⟩ := h
  exact ⟨K, fun k hk => by show cuvettelaw08_live.f k = _; unfold cuvettelaw08_live.f; rw [if_pos (show cuvettelaw08_live.f0 k = some true from h k hk)]⟩
theorem few07_ev (a : Int) (l : List (List Int)) (hm : l.length ≤ 9223372036854775807) : ∃ q, Ev (fun k => cuvetteref07_Few.f k a l) q := by
  have : ∀ d : Nat, ∀ i : Int, 0 ≤ i → i ≤ (l.length : Int) → (l.length : Int) - i = d → ∃ q, Ev (fun k => cuvetteref07_Few.l0 k l (l.length : Int) i a l) q := by
    intro d
    induction d with
    | zero =>
      intro i h0 h1 hd
      refine ⟨_, Ev.step (g' := fun _ => _) (fun k => ?_) (Ev.const (decide ((l.length : Int) ≤ 100)))⟩
      simp only [cuvetteref07_Few.l0]
      rw [if_neg (by omega)]
    | succ d ih =>
      intro i h0 h1 hd
      by_cases h : ((rd_L3 l i).length : Int) > 100
      · refine ⟨_, Ev.step (g' := fun _ => _) (fun k => ?_) (Ev.const false)⟩
        simp only [cuvetteref07_Few.l0]
        rw [if_pos (by omega), if_pos h0, if_pos (by omega), if_pos h]
      · obtain ⟨q, hq⟩ := ih (i + 1) (by omega) (by omega) (by omega)
        refine ⟨q, Ev.step (fun k => ?_) hq⟩
        simp only [cuvetteref07_Few.l0]
        rw [if_pos (by omega), if_pos h0, if_pos (by omega), if_neg h, w64 (by omega) (by omega)]
  exact this l.length 0 (by omega) (by omega) (by omega)
end Go.Proofs.Ytkjibgfgbfacdaa.P
end
/-! part: PureBookBack -/
section
set_option linter.unusedVariables false
set_option linter.unusedSimpArgs false
namespace Go.Proofs.Ytkjibgfgbfacdaa.P
open Go.RowKit Go.Proofs.YtkjibgfgbfacdaaW.PrintWords Go.Proofs.YtkjibgfgbfacdaaW.PrintLast Go.Proofs.YtkjibgfgbfacdaaW.PrintMore
set_option linter.unusedVariables false
theorem bback_j2 (D c : Int) : Ev (fun k => cuvettelaw08_BookBack.j2 k D c true) true := by
  refine Ev.step (g' := fun k => (book_Plain.f k D c).bind fun bt712 => ((book_Size.f D c).bind fun bt718 => (if bt712.2.2 = 0 then ((book_Bytes.f k bt712.1 bt712.2.1).bind fun bt720 => ((quant_Cells.f bt712.1 bt712.2.1).bind fun bt724 => (if true = true then (if bt718.2 = 0 then (if bt720.2 = 0 then (if bt724.2 = 0 then (if (bt720.1.length : Int) = bt718.1 then (if bt724.1 = c then (some ((bt712.2.1.length : Int) == D)) else (some false)) else (some false)) else (some false)) else (some false)) else (some false)) else (some false)))) else (if true = true then (some (bt712.2.2 == bt718.2)) else (some false))))) (fun k => by simp only [cuvettelaw08_BookBack.j2]) ?_
  refine Ev.bind (plain_ev D c) ?_
  rw [size_eq]
  by_cases h : withinB D c = true
  · obtain ⟨p1, p2, p3⟩ := plain_ok D c h
    have hb := bookBytes_ev 0 (plainB D c) (plain_i16 D c)
    rw [if_pos p1] at hb
    simp only [if_pos h, Option.bind_some, if_true]
    refine Ev.bind hb ?_
    rw [cells_eq, if_pos p1]
    have hl := (from_bytes p1 (plain_i16 D c)).2.2
    unfold withinB at h
    simp only [Bool.and_eq_true, decide_eq_true_eq] at h
    obtain ⟨⟨⟨h1, h2⟩, h3⟩, h4⟩ := h
    obtain ⟨D, rfl⟩ := Int.eq_ofNat_of_zero_le (show 0 ≤ D by omega)
    obtain ⟨c, rfl⟩ := Int.eq_ofNat_of_zero_le (show 0 ≤ c by omega)
    rw [p2, p3, Int.toNat_natCast, Int.toNat_natCast] at hl
    rw [p2, p3, Int.toNat_natCast, Int.toNat_natCast]
    have e1 : ((bytesB 0 (plainB (D : Int) (c : Int))).length : Int) = 10 + 2 * (D : Int) * ((c : Int) - 1) := by
      rw [hl]
      have : ((D * (c - 1) : Nat) : Int) = (D : Int) * ((c : Int) - 1) := by rw [Int.natCast_mul, Int.natCast_sub (by omega)]; rfl
      rw [Int.mul_assoc, ← this]
      omega
    simp only [Option.bind_some, if_true]
    rw [if_pos e1, if_pos (by omega)]
    refine Ev.of fun k => ?_
    simp
  · simp only [if_neg h, Option.bind_some, if_neg (show ¬ ((1 : Int) = 0) by decide), if_true]
    exact Ev.of fun k => rfl
theorem bback_j1 (D c way : Int) (cuts : List (List Int)) (hc : i16LL cuts) : Ev (fun k => cuvettelaw08_BookBack.j1 k D c true way cuts) true := by
  refine Ev.step (g' := fun k => (book_Bytes.f k way cuts).bind fun bt701 => (if bt701.2 = 0 then ((book_From.f k bt701.1).bind fun bt705 => (if bt705.2.2 = 0 then ((book_Same.f bt705.1 bt705.2.1 way cuts).bind fun t711 => (if t711 = true then (cuvettelaw08_BookBack.j2 k D c true) else (some false))) else (some false))) else (cuvettelaw08_BookBack.j2 k D c true))) (fun k => by simp only [cuvettelaw08_BookBack.j1]) ?_
  refine Ev.bind (bookBytes_ev way cuts hc) ?_
  by_cases h : bookOk way cuts = true
  · obtain ⟨q1, q2, q3⟩ := from_bytes h hc
    obtain ⟨p1, p2, p3, p4⟩ := bookOk_parts h
    have hM := cutsOk_len (p4 _ (getD0_mem p1)).2
    have hle : cuts.length * (cuts.getD 0 []).length ≤ 64 * 16 := Nat.mul_le_mul (by omega) (by omega)
    have hf := bookFrom_ev (bytesB way cuts) (by omega) q2
    rw [q1] at hf
    simp only [if_pos h, if_true]
    refine Ev.bind hf ?_
    simp only [if_true, bookSame_eq]
    simpa using bback_j2 D c
  · simp only [if_neg h, if_neg (show ¬ ((1 : Int) = 0) by decide)]
    exact bback_j2 D c
theorem bback_j0 (t : List Int) (D c way : Int) (cuts : List (List Int)) (q : Bool) (ht : okI .u8 t) (hq : q = false → t.length ≤ 3000) (hc : i16LL cuts) : Ev (fun k => cuvettelaw08_BookBack.j0 k t D c true q way cuts) true := by
  cases q with
  | true => exact Ev.step (g' := fun _ => some true) (fun k => by simp [cuvettelaw08_BookBack.j0]) (Ev.const _)
  | false =>
    have hl := hq rfl
    refine Ev.step (g' := fun k => (book_From.f k t).bind fun bt690 => (if bt690.2.2 = 0 then ((book_Bytes.f k bt690.1 bt690.2.1).bind fun bt696 => (if bt696.2 = 0 then (if (strOfNums bt696.1).toList = (strOfNums t).toList then ((h_quant_Check.f bt690.1 bt690.2.1).bind fun t700 => (if t700 = 0 then (cuvettelaw08_BookBack.j1 k D c true way cuts) else (some false))) else (some false)) else (some false))) else (cuvettelaw08_BookBack.j1 k D c true way cuts))) (fun k => by simp only [cuvettelaw08_BookBack.j0]; rw [if_neg (by decide)]) ?_
    refine Ev.bind (bookFrom_ev t (by omega) (u8_of ht)) ?_
    obtain ⟨w1, l1, e1⟩ : ∃ w l, ∃ e, fromP t = (w, l, e) := ⟨_, _, _, rfl⟩
    obtain ⟨e1, he⟩ := e1
    rw [he]
    simp only
    by_cases h0 : e1 = 0
    · obtain ⟨q1, q2, q3⟩ := bytes_from (u8_of ht) he h0
      simp only [if_pos h0]
      have hb := bookBytes_ev w1 l1 q2
      rw [if_pos q1, q3] at hb
      refine Ev.bind hb ?_
      unfold h_quant_Check.f
      simp only [if_true, if_pos q1, Option.bind_some]
      exact bback_j1 D c way cuts hc
    · simp only [if_neg h0]
      exact bback_j1 D c way cuts hc
theorem pure_BookBack (a0_0 : Int) (l0_1 : List (List Int)) (l1 : List Int) (a2 : Int) (a3 : Int) (w0_0 : okN .i64 a0_0) (w0_1 : okII .i16 l0_1) (w1 : okI .u8 l1) (w2 : okN .i64 a2) (w3 : okN .i64 a3) : ∃ k, cuvettelaw08_BookBack.f k a0_0 l0_1 l1 a2 a3 = some true := by
  refine Ev.some (g := fun k => cuvettelaw08_BookBack.f k a0_0 l0_1 l1 a2 a3) ?_
  unfold cuvettelaw08_BookBack.f
  refine Ev.bind live08 ?_
  simp only [if_true]
  obtain ⟨q, hq⟩ := few07_ev a0_0 l0_1 w0_1.1
  refine Ev.bind hq ?_
  cases q with
  | false =>
    simp only [Bool.false_eq_true, if_false]
    exact bback_j0 l1 a2 a3 a0_0 l0_1 true w1 (fun h => by cases h) (i16LL_of w0_1)
  | true =>
    simp only [if_true]
    exact bback_j0 l1 a2 a3 a0_0 l0_1 _ w1 (fun h => by have := of_decide_eq_false h; omega) (i16LL_of w0_1)
end Go.Proofs.Ytkjibgfgbfacdaa.P
end
/-! part: LawBookBack -/
section
set_option linter.unusedVariables false
set_option linter.unusedSimpArgs false
namespace Go.Proofs.Ytkjibgfgbfacdaa.bookBack
open Go.ChangeShapes Go.WideShapes Go.ChangeAt Go.RowKit Go.Joins Go.Proofs.YtkjibgfgbfacdaaW.PrintWords
set_option linter.unusedVariables false
theorem own : ownKnob Try.prog.godebug = none := by kernel_rfl
theorem laidOut : laidOutB Try.prog = true := RFacts.f2
set_option maxRecDepth 100000 in
theorem lifted (os : Os) (started : os.Started) (H : Type) (enc : TypeId × Value → H) :
    ReturnsInHanded {} Try.checked os 7 .any (Rows.bookBackSpec.pre6 enc Try.prog Try.f7 Rows.bookBackRow.domain false) (Rows.bookBackSpec.post enc Try.prog Try.f7 false true false false) := by
  refine returnsInHanded_of_change_sized (C := Try.checked) own started (by kernel_rfl) Try.func7
    (ChangeSpec.witness6 (enc := enc) (C := Try.checked) false ⟨#[], #[.agg #[.int .i64 0, .slice none 0 0], .slice none 0 0, .int .i64 0, .int .i64 0], []⟩ 8 (by kernel_rfl) (by kernel_rfl) (by kernel_rfl) (by kernel_rfl)) ?_
  intro W base args ds gs before hval0 hW hcnd hsz0 _
  clear hsz0
  have hval : ∀ (j : Nat) t v, Try.f7.params[j]? = some t → args[j]? = some v → Value.okWide Try.prog W .any base t v := hval0
  have hW' := hW
  obtain ⟨p, q, hA0, hV, rfl, hfz, hnd⟩ := hW
  have hA : DataW.TrodAll enc Try.prog W 0 (fun _ => true) true Try.f7.params.toList args.toList ds p := hA0
  rw [Try.params7] at hA hval
  obtain ⟨v0, vs0, d0, ds0, p0, q0, hargs, rfl, rfl, h0, r0⟩ := trodAll_cons hA
  obtain ⟨v1, vs1, d1, ds1, p1, q1, rfl, rfl, rfl, h1, r1⟩ := trodAll_cons r0
  obtain ⟨v2, vs2, d2, ds2, p2, q2, rfl, rfl, rfl, h2, r2⟩ := trodAll_cons r1
  obtain ⟨v3, vs3, d3, ds3, p3, q3, rfl, rfl, rfl, h3, r3⟩ := trodAll_cons r2
  obtain ⟨rfl, rfl, rfl⟩ := trodAll_nil r3
  obtain rfl : args = #[v0, v1, v2, v3] := by cases args; simp_all
  obtain ⟨rfl, rfl⟩ := trodVars_none hV
  have k0 := h0
  have lt0 : ∀ x ∈ p0, x.block < W.heap.size := by obtain ⟨m, hm⟩ := k0; exact DataW.trod_lt m _ _ _ hm
  obtain ⟨u0_0, u0_1, y0_0, y0_1, m0, hv0, _, _, e0_0, e0_1⟩ := open_agg2 Try.underlying49 (by kernel_rfl) (by kernel_rfl) (hval 0 49 v0 rfl rfl) h0
  subst hv0
  obtain ⟨a0_0, rfl, w0_0⟩ := R.openN Try.underlying2 e0_0
  obtain ⟨A0_1, c0_1, l0_1, rfl, hc0_1, hr0_1, w0_1⟩ := R.openII Try.underlying47 Try.underlying26 Try.underlying74 (by kernel_rfl) (by kernel_rfl) e0_1
  have k1 := h1
  have lt1 : ∀ x ∈ p1, x.block < W.heap.size := by obtain ⟨m, hm⟩ := k1; exact DataW.trod_lt m _ _ _ hm
  obtain ⟨aa1, len1, cap1, rfl⟩ := okWide_slice Try.underlying50 (hval 1 50 v1 rfl rfl)
  obtain ⟨fuel1, hf1⟩ := h1
  obtain ⟨A1, c1, l1, ev1, hc1, hr1, w1⟩ := R.openI Try.underlying50 Try.underlying5 (by kernel_rfl) (by simpa [Value.cells] using hf1)
  rw [ev1] at hW' hval k1 ⊢
  have k2 := h2
  have lt2 : ∀ x ∈ p2, x.block < W.heap.size := by obtain ⟨m, hm⟩ := k2; exact DataW.trod_lt m _ _ _ hm
  obtain ⟨a2, rfl, _, _, w2⟩ := open_int Try.underlying3 (hval 2 3 v2 rfl rfl) h2
  have k3 := h3
  have lt3 : ∀ x ∈ p3, x.block < W.heap.size := by obtain ⟨m, hm⟩ := k3; exact DataW.trod_lt m _ _ _ hm
  obtain ⟨a3, rfl, _, _, w3⟩ := open_int Try.underlying3 (hval 3 3 v3 rfl rfl) h3
  clear hA0 hval0
  obtain ⟨k, hp⟩ := P.pure_BookBack a0_0 l0_1 l1 a2 a3 w0_0 w0_1 w1 w2 w3
  refine (P.cuvettelaw08_BookBack.calls k a0_0 A0_1 c0_1 l0_1 A1 c1 l1 a2 a3 true W hr0_1 hc0_1 hr1 hc1 hp rfl).mono fun e W' ⟨he, bel⟩ => ?_
  subst he
  exact ⟨_, rfl, _, _, _, [], _, [], hW', trodAll_mk1 (shut_bool Try.underlying4 _), (trodAll_cons_mk (Below.trod laidOut (by kernel_rfl) (of_decide_eq_true (by kernel_rfl)) k0 bel lt0) (trodAll_cons_mk (Below.trod laidOut (by kernel_rfl) (of_decide_eq_true (by kernel_rfl)) k1 bel lt1) (trodAll_cons_mk (Below.trod laidOut (by kernel_rfl) (of_decide_eq_true (by kernel_rfl)) k2 bel lt2) (trodAll_cons_mk (Below.trod laidOut (by kernel_rfl) (of_decide_eq_true (by kernel_rfl)) k3 bel lt3) trodAll_mk0)))), rfl, bel.frame _, fun h => by cases h⟩
set_option maxHeartbeats 0 in
theorem facts : joinedFacts Try.pinned.checked.prog 7 Try.f7 Rows.bookBackSpec Rows.bookBackRow = true := by
  unfold joinedFacts
  simp only [Bool.and_eq_true]
  repeat' apply And.intro
  · as_aux_lemma => kernel_rfl
  · exact RFacts.f2
  · exact RFacts.f3
  · as_aux_lemma => kernel_rfl
  · as_aux_lemma => kernel_rfl
  · as_aux_lemma => kernel_rfl
  · as_aux_lemma => kernel_rfl
  · as_aux_lemma => kernel_rfl
  · as_aux_lemma => kernel_rfl
  · as_aux_lemma => kernel_rfl
  · as_aux_lemma => kernel_rfl
  · as_aux_lemma => kernel_rfl
  · as_aux_lemma => kernel_rfl
  · as_aux_lemma => kernel_rfl
  · as_aux_lemma => kernel_rfl
  · as_aux_lemma => kernel_rfl
  · as_aux_lemma => kernel_rfl
  · as_aux_lemma => kernel_rfl
  · as_aux_lemma => kernel_rfl
  · as_aux_lemma => kernel_rfl
  · as_aux_lemma => kernel_rfl
  · as_aux_lemma => kernel_rfl
  · exact RFacts.f23
  · as_aux_lemma => kernel_rfl
  · exact RFacts.f25
  · exact RFacts.f26
  · exact RFacts.f27
  · exact RFacts.f28
  · as_aux_lemma => kernel_rfl
  · as_aux_lemma => kernel_rfl
  · as_aux_lemma => kernel_rfl
  · as_aux_lemma => kernel_rfl
theorem over : Rows.bookBackRow.holds Try.pinned (OpenSpec.ofChange Rows.bookBackSpec) :=
  OpenClaim.holds_of_wide 7 Try.f7 rfl rfl rfl rfl rfl rfl rfl ⟨rfl, rfl, rfl, rfl, rfl⟩ rfl rfl rfl rfl rfl (by as_aux_lemma => kernel_rfl) Try.func7 facts
    (of_decide_eq_true (by as_aux_lemma => kernel_rfl)) (by unfold Func.isWrapper; first | (rw [if_pos (by decide +kernel)]; kernel_rfl) | (rw [if_neg (by decide +kernel)]; exact ⟨rfl, rfl⟩))
    (fun os started H enc _ => lifted os started H enc)
theorem proved : Rows.BookBackSaid := over
#print axioms proved
end Go.Proofs.Ytkjibgfgbfacdaa.bookBack
namespace Go.Proofs.Ytkjibgfgbfacdaa
/-- The row, under a short name, for the claim. -/
theorem bookBack_holds : Rows.BookBackSaid := bookBack.proved
end Go.Proofs.Ytkjibgfgbfacdaa
end
