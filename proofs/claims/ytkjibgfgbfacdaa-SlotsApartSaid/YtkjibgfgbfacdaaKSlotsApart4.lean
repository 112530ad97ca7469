/- The law SlotsApart of this seat answers true for every input, and its arguments read as they did. Conditions: none. This file holds a part of what the proof needs. -/
import Derived.Test.YtkjibgfgbfacdaaKSlotsApart0
import Derived.Test.YtkjibgfgbfacdaaKSlotsApart1
import Derived.Test.YtkjibgfgbfacdaaKSlotsApart2
import Derived.Test.YtkjibgfgbfacdaaKSlotsApart3
/-! part: F14 -/
section
set_option linter.unusedVariables false
set_option linter.unusedSimpArgs false
namespace Go.Proofs.Ytkjibgfgbfacdaa.P
open Go.RowKit Go.Proofs.YtkjibgfgbfacdaaW.PrintWords Go.Proofs.YtkjibgfgbfacdaaW.PrintLast Go.Proofs.YtkjibgfgbfacdaaW.PrintMore
attribute [local go_sem] max2_int min2_int max_two min_two max_three min_three max_four min_four   -- for this text's walks alone
set_option linter.unusedVariables false
set_option linter.unusedSimpArgs false

/-! ### cuvettelaw10_SlotsApart: function 14 -/
mutual
def cuvettelaw10_SlotsApart.j0 : Nat → Int → Int → List Int → List Int → Bool → Bool → Int → List Int → List (List Int) → Option (Bool)
  | 0, _, _, _, _, _, _, _, _, _ => none
  | k + 1, x1, x2, x3, x4, x11, x50, x1173000, x1173001, x1173002 => if x50 = true then (some x11) else ((slots_Put.f k x1173000 x1173001 x1173002 x1 x3).bind fun bt1175 => ((slots_Put.f k x1173000 x1173001 x1173002 x2 x4).bind fun bt1185 => (if bt1175.2.2.2.2 = 0 then (cuvettelaw10_SlotsApart.j1 k x1 x2 x3 x4 x11 (bt1185.2.2.2.2 != 0) x1173000 x1173001 x1173002 bt1175.2.1 bt1175.2.2.1 bt1175.2.2.2.1 bt1185.2.1 bt1185.2.2.1 bt1185.2.2.2.1) else (cuvettelaw10_SlotsApart.j1 k x1 x2 x3 x4 x11 true x1173000 x1173001 x1173002 bt1175.2.1 bt1175.2.2.1 bt1175.2.2.2.1 bt1185.2.1 bt1185.2.2.1 bt1185.2.2.2.1))))
def cuvettelaw10_SlotsApart.j1 : Nat → Int → Int → List Int → List Int → Bool → Bool → Int → List Int → List (List Int) → Int → List Int → List (List Int) → Int → List Int → List (List Int) → Option (Bool)
  | 0, _, _, _, _, _, _, _, _, _, _, _, _, _, _, _ => none
  | k + 1, x1, x2, x3, x4, x11, x73, x1173000, x1173001, x1173002, x1185000, x1185001, x1185002, x1195000, x1195001, x1195002 => if x73 = true then (some x11) else (cuvettelaw10_SlotsApart.l0 k x1 x2 x3 x4 x11 x1173001 (x1173001.length : Int) 0 x1173000 x1173001 x1173002 x1185000 x1185001 x1185002 x1195000 x1195001 x1195002)
def cuvettelaw10_SlotsApart.l0 : Nat → Int → Int → List Int → List Int → Bool → List Int → Int → Int → Int → List Int → List (List Int) → Int → List Int → List (List Int) → Int → List Int → List (List Int) → Option (Bool)
  | 0, _, _, _, _, _, _, _, _, _, _, _, _, _, _, _, _, _ => none
  | k + 1, x1, x2, x3, x4, x11, x76, x77, x78, x1173000, x1173001, x1173002, x1185000, x1185001, x1185002, x1195000, x1195001, x1195002 => if x78 < x77 then (if 0 ≤ x78 then (if x78 < (x76.length : Int) then (if (rd x76 x78) = (-1) then (cuvettelaw10_SlotsApart.l0 k x1 x2 x3 x4 x11 x76 x77 (wrap64 (x78 + 1)) x1173000 x1173001 x1173002 x1185000 x1185001 x1185002 x1195000 x1195001 x1195002) else (if (rd x76 x78) = x1 then (cuvettelaw10_SlotsApart.l0 k x1 x2 x3 x4 x11 x76 x77 (wrap64 (x78 + 1)) x1173000 x1173001 x1173002 x1185000 x1185001 x1185002 x1195000 x1195001 x1195002) else (if x78 < (x1185001.length : Int) then (if (rd x1185001 x78) = (rd x76 x78) then (if x78 < (x1185002.length : Int) then (if x78 < (x1173002.length : Int) then ((cuvetteref04_Same.f k (rd_L3 x1185002 x78) (rd_L3 x1173002 x78)).bind fun t1199 => (if t1199 = true then (cuvettelaw10_SlotsApart.l0 k x1 x2 x3 x4 x11 x76 x77 (wrap64 (x78 + 1)) x1173000 x1173001 x1173002 x1185000 x1185001 x1185002 x1195000 x1195001 x1195002) else (some false))) else (none)) else (none)) else (some false)) else (none)))) else (none)) else (none)) else ((slots_Put.f k x1185000 x1185001 x1185002 x2 x4).bind fun bt1200 => ((slots_Put.f k x1195000 x1195001 x1195002 x1 x3).bind fun bt1210 => (if bt1200.2.2.2.2 = bt1210.2.2.2.2 then (if bt1200.2.2.2.2 = 0 then ((h_slots_Live.f bt1200.2.1 bt1200.2.2.1 bt1200.2.2.2.1).bind fun bt1220 => ((h_slots_Live.f bt1210.2.1 bt1210.2.2.1 bt1210.2.2.2.1).bind fun bt1224 => (if x11 = true then (if bt1220.2 = 0 then (if bt1224.2 = 0 then ((cuvetteref03_SameInts.f k bt1220.1 bt1224.1).bind fun t1228 => (some t1228)) else (some false)) else (some false)) else (some false)))) else (if x11 = true then (some (bt1200.2.2.2.2 == 7)) else (some false))) else (some false))))
end
def cuvettelaw10_SlotsApart.f (k : Nat) (a0_0 : Int) (l0_1 : List Int) (l0_2 : List (List Int)) (a1 : Int) (a2 : Int) (l3 : List Int) (l4 : List Int) : Option (Bool) := (cuvettelaw10_live.f k).bind fun t1173 => (if t1173 = true then ((cuvetteref10_Few.f k a0_0 l0_1 l0_2).bind fun t1174 => (if t1174 = true then (if (l3.length : Int) > 300 then (cuvettelaw10_SlotsApart.j0 k a1 a2 l3 l4 t1173 true a0_0 l0_1 l0_2) else (if (l4.length : Int) > 300 then (cuvettelaw10_SlotsApart.j0 k a1 a2 l3 l4 t1173 true a0_0 l0_1 l0_2) else (cuvettelaw10_SlotsApart.j0 k a1 a2 l3 l4 t1173 (a1 == a2) a0_0 l0_1 l0_2))) else (cuvettelaw10_SlotsApart.j0 k a1 a2 l3 l4 t1173 true a0_0 l0_1 l0_2))) else (some false))
theorem cuvettelaw10_SlotsApart.mono_l : ∀ k, (∀ y0 y1 y2 y3 y4 y5 y6 y7 y8, LeO (cuvettelaw10_SlotsApart.j0 k y0 y1 y2 y3 y4 y5 y6 y7 y8) (cuvettelaw10_SlotsApart.j0 (k + 1) y0 y1 y2 y3 y4 y5 y6 y7 y8)) ∧ (∀ y0 y1 y2 y3 y4 y5 y6 y7 y8 y9 y10 y11 y12 y13 y14, LeO (cuvettelaw10_SlotsApart.j1 k y0 y1 y2 y3 y4 y5 y6 y7 y8 y9 y10 y11 y12 y13 y14) (cuvettelaw10_SlotsApart.j1 (k + 1) y0 y1 y2 y3 y4 y5 y6 y7 y8 y9 y10 y11 y12 y13 y14)) ∧ (∀ y0 y1 y2 y3 y4 y5 y6 y7 y8 y9 y10 y11 y12 y13 y14 y15 y16, LeO (cuvettelaw10_SlotsApart.l0 k y0 y1 y2 y3 y4 y5 y6 y7 y8 y9 y10 y11 y12 y13 y14 y15 y16) (cuvettelaw10_SlotsApart.l0 (k + 1) y0 y1 y2 y3 y4 y5 y6 y7 y8 y9 y10 y11 y12 y13 y14 y15 y16))
  | 0 => ⟨fun _ _ _ _ _ _ _ _ _ r h => by simp [cuvettelaw10_SlotsApart.j0] at h, fun _ _ _ _ _ _ _ _ _ _ _ _ _ _ _ r h => by simp [cuvettelaw10_SlotsApart.j1] at h, fun _ _ _ _ _ _ _ _ _ _ _ _ _ _ _ _ _ r h => by simp [cuvettelaw10_SlotsApart.l0] at h⟩
  | k + 1 => by
    obtain ⟨ih0, ih1, ih2⟩ := cuvettelaw10_SlotsApart.mono_l k
    refine ⟨?_, ?_, ?_⟩
    · intro y0 y1 y2 y3 y4 y5 y6 y7 y8
      unfold cuvettelaw10_SlotsApart.j0
      repeat' first
      | (with_reducible exact ih0 _ _ _ _ _ _ _ _ _)
      | (with_reducible exact ih1 _ _ _ _ _ _ _ _ _ _ _ _ _ _ _)
      | (with_reducible exact ih2 _ _ _ _ _ _ _ _ _ _ _ _ _ _ _ _ _)
      | (with_reducible exact cuvettelaw10_live.mono _)
      | (with_reducible exact cuvetteref03_SameInts.mono _ _ _)
      | (with_reducible exact cuvetteref04_Same.mono _ _ _)
      | (with_reducible exact cuvetteref10_Few.mono _ _ _ _)
      | (with_reducible exact slots_Put.mono _ _ _ _ _ _)
      | (with_reducible exact LeO.refl _)
      | (with_reducible exact LeO.none _)
      | (with_reducible refine LeO.ite ?_ ?_)
      | (with_reducible refine LeO.bind ?_ (fun _ => ?_))
      | exact ih0 _ _ _ _ _ _ _ _ _
      | exact ih1 _ _ _ _ _ _ _ _ _ _ _ _ _ _ _
      | exact ih2 _ _ _ _ _ _ _ _ _ _ _ _ _ _ _ _ _
      | exact cuvettelaw10_live.mono _
      | exact cuvetteref03_SameInts.mono _ _ _
      | exact cuvetteref04_Same.mono _ _ _
      | exact cuvetteref10_Few.mono _ _ _ _
      | exact slots_Put.mono _ _ _ _ _ _
      | exact LeO.none _
      | refine LeO.ite ?_ ?_
      | refine LeO.bind ?_ (fun _ => ?_)
    · intro y0 y1 y2 y3 y4 y5 y6 y7 y8 y9 y10 y11 y12 y13 y14
      unfold cuvettelaw10_SlotsApart.j1
      repeat' first
      | (with_reducible exact ih0 _ _ _ _ _ _ _ _ _)
      | (with_reducible exact ih1 _ _ _ _ _ _ _ _ _ _ _ _ _ _ _)
      | (with_reducible exact ih2 _ _ _ _ _ _ _ _ _ _ _ _ _ _ _ _ _)
      | (with_reducible exact cuvettelaw10_live.mono _)
      | (with_reducible exact cuvetteref03_SameInts.mono _ _ _)
      | (with_reducible exact cuvetteref04_Same.mono _ _ _)
      | (with_reducible exact cuvetteref10_Few.mono _ _ _ _)
      | (with_reducible exact slots_Put.mono _ _ _ _ _ _)
      | (with_reducible exact LeO.refl _)
      | (with_reducible exact LeO.none _)
      | (with_reducible refine LeO.ite ?_ ?_)
      | (with_reducible refine LeO.bind ?_ (fun _ => ?_))
      | exact ih0 _ _ _ _ _ _ _ _ _
      | exact ih1 _ _ _ _ _ _ _ _ _ _ _ _ _ _ _
      | exact ih2 _ _ _ _ _ _ _ _ _ _ _ _ _ _ _ _ _
      | exact cuvettelaw10_live.mono _
      | exact cuvetteref03_SameInts.mono _ _ _
      | exact cuvetteref04_Same.mono _ _ _
      | exact cuvetteref10_Few.mono _ _ _ _
      | exact slots_Put.mono _ _ _ _ _ _
      | exact LeO.none _
      | refine LeO.ite ?_ ?_
      | refine LeO.bind ?_ (fun _ => ?_)
    · intro y0 y1 y2 y3 y4 y5 y6 y7 y8 y9 y10 y11 y12 y13 y14 y15 y16
      unfold cuvettelaw10_SlotsApart.l0
      repeat' first
      | (with_reducible exact ih0 _ _ _ _ _ _ _ _ _)
      | (with_reducible exact ih1 _ _ _ _ _ _ _ _ _ _ _ _ _ _ _)
      | (with_reducible exact ih2 _ _ _ _ _ _ _ _ _ _ _ _ _ _ _ _ _)
      | (with_reducible exact cuvettelaw10_live.mono _)
      | (with_reducible exact cuvetteref03_SameInts.mono _ _ _)
      | (with_reducible exact cuvetteref04_Same.mono _ _ _)
      | (with_reducible exact cuvetteref10_Few.mono _ _ _ _)
      | (with_reducible exact slots_Put.mono _ _ _ _ _ _)
      | (with_reducible exact LeO.refl _)
      | (with_reducible exact LeO.none _)
      | (with_reducible refine LeO.ite ?_ ?_)
      | (with_reducible refine LeO.bind ?_ (fun _ => ?_))
      | exact ih0 _ _ _ _ _ _ _ _ _
      | exact ih1 _ _ _ _ _ _ _ _ _ _ _ _ _ _ _
      | exact ih2 _ _ _ _ _ _ _ _ _ _ _ _ _ _ _ _ _
      | exact cuvettelaw10_live.mono _
      | exact cuvetteref03_SameInts.mono _ _ _
      | exact cuvetteref04_Same.mono _ _ _
      | exact cuvetteref10_Few.mono _ _ _ _
      | exact slots_Put.mono _ _ _ _ _ _
      | exact LeO.none _
      | refine LeO.ite ?_ ?_
      | refine LeO.bind ?_ (fun _ => ?_)
theorem cuvettelaw10_SlotsApart.mono : ∀ a0 a1 a2 a3 a4 a5 a6 k, LeO (cuvettelaw10_SlotsApart.f k a0 a1 a2 a3 a4 a5 a6) (cuvettelaw10_SlotsApart.f (k + 1) a0 a1 a2 a3 a4 a5 a6) := by
  intro a0 a1 a2 a3 a4 a5 a6 k
  obtain ⟨ih0, ih1, ih2⟩ := cuvettelaw10_SlotsApart.mono_l k
  unfold cuvettelaw10_SlotsApart.f
  repeat' first
      | (with_reducible exact ih0 _ _ _ _ _ _ _ _ _)
      | (with_reducible exact ih1 _ _ _ _ _ _ _ _ _ _ _ _ _ _ _)
      | (with_reducible exact ih2 _ _ _ _ _ _ _ _ _ _ _ _ _ _ _ _ _)
      | (with_reducible exact cuvettelaw10_live.mono _)
      | (with_reducible exact cuvetteref03_SameInts.mono _ _ _)
      | (with_reducible exact cuvetteref04_Same.mono _ _ _)
      | (with_reducible exact cuvetteref10_Few.mono _ _ _ _)
      | (with_reducible exact slots_Put.mono _ _ _ _ _ _)
      | (with_reducible exact LeO.refl _)
      | (with_reducible exact LeO.none _)
      | (with_reducible refine LeO.ite ?_ ?_)
      | (with_reducible refine LeO.bind ?_ (fun _ => ?_))
      | exact ih0 _ _ _ _ _ _ _ _ _
      | exact ih1 _ _ _ _ _ _ _ _ _ _ _ _ _ _ _
      | exact ih2 _ _ _ _ _ _ _ _ _ _ _ _ _ _ _ _ _
      | exact cuvettelaw10_live.mono _
      | exact cuvetteref03_SameInts.mono _ _ _
      | exact cuvetteref04_Same.mono _ _ _
      | exact cuvetteref10_Few.mono _ _ _ _
      | exact slots_Put.mono _ _ _ _ _ _
      | exact LeO.none _
      | refine LeO.ite ?_ ?_
      | refine LeO.bind ?_ (fun _ => ?_)
def cuvettelaw10_SlotsApart.T13 : Bool × List (List Nat × List Nat) := (true, [([], []), ([0], [0]), ([1], [1]), ([2], [2]), ([2], [2]), ([3, 4, 2], [2, 3, 4]), ([2, 5], [2, 5]), ([6, 2], [6]), ([7], [7]), ([8, 7], [7, 8]), ([7], [7]), ([9, 10, 7], [7, 9, 10]), ([11, 7], [7, 11]), ([7], [7]), ([12, 13, 7], [7, 12, 13]), ([14, 7, 7], [7, 14]), ([15], [15]), ([16, 15], [15, 16]), ([15], [15]), ([17, 18, 15], [15, 17, 18]), ([19, 15], [15, 19]), ([15], [15]), ([21, 15], [15, 21]), ([15], [15]), ([22, 23, 15], [15, 22, 23]), ([24, 15], [15, 24]), ([20, 25, 15, 15], [15, 20, 25]), ([26, 15], [15, 26]), ([15, 27, 7], [7, 15, 27]), ([7, 28], [7, 28])])
def cuvettelaw10_SlotsApart.B13 : List Nat := [0, 1, 3, 7, 7, 31, 63, 127, 255, 511, 255, 2047, 4095, 255, 16383, 32767, 65535, 131071, 65535, 524287, 1048575, 65535, 2162687, 65535, 14745599, 31522815, 67108863, 134217727, 268435455, 536870911]
theorem cuvettelaw10_SlotsApart.tab13 : rtab .any (opsOf Try.f14 13) = cuvettelaw10_SlotsApart.T13 := by kernel_rfl
theorem cuvettelaw10_SlotsApart.bits13 : waitsOk cuvettelaw10_SlotsApart.T13.2 cuvettelaw10_SlotsApart.B13 = true := by kernel_rfl
set_option maxHeartbeats 8000000 in
set_option maxRecDepth 100000 in
theorem cuvettelaw10_SlotsApart.calls (k : Nat) (a0_0 : Int) (A0_1 : Option Addr) (c0_1 : Nat) (l0_1 : List Int) (A0_2 : Option Addr) (c0_2 : Nat) (l0_2 : List (List Int)) (a1 : Int) (a2 : Int) (A3 : Option Addr) (c3 : Nat) (l3 : List Int) (A4 : Option Addr) (c4 : Nat) (l4 : List Int) (r : Bool) (w : World) (hr0_1 : Kd.C (Kd.int .i64) w A0_1 l0_1.length l0_1) (hc0_1 : l0_1.length ≤ c0_1) (hr0_2 : Kd.C (Kd.slice 74 (Kd.int .i16)) w A0_2 l0_2.length l0_2) (hc0_2 : l0_2.length ≤ c0_2) (hr3 : Kd.C (Kd.int .i16) w A3 l3.length l3) (hc3 : l3.length ≤ c3) (hr4 : Kd.C (Kd.int .i16) w A4 l4.length l4) (hc4 : l4.length ≤ c4) (h : cuvettelaw10_SlotsApart.f k a0_0 l0_1 l0_2 a1 a2 l3 l4 = some r) (hT_ : r = true) :
    Calls Try.prog 14 #[.agg #[.int .i64 a0_0, .slice A0_1 l0_1.length c0_1, .slice A0_2 l0_2.length c0_2], .int .i64 a1, .int .i64 a2, .slice A3 l3.length c3, .slice A4 l4.length c4] w fun e w' => e = .returned (.bool r) ∧ Below w.heap.size w w' := by
  have hu25 := Try.underlying25
  have HR0_1 := Aside0.mk hr0_1
  have HC0_1 := Aside0.mk hc0_1
  clear hr0_1 hc0_1
  have HR0_2 := Aside0.mk hr0_2
  have HC0_2 := Aside0.mk hc0_2
  clear hr0_2 hc0_2
  have HR3 := Aside0.mk hr3
  have HC3 := Aside0.mk hc3
  clear hr3 hc3
  have HR4 := Aside0.mk hr4
  have HC4 := Aside0.mk hc4
  clear hr4 hc4
  have HB := Aside0.mk (Below.refl w.heap.size w)
  have H : ((cuvettelaw10_live.f k).bind fun t1173 => (if t1173 = true then ((cuvetteref10_Few.f k a0_0 l0_1 l0_2).bind fun t1174 => (if t1174 = true then (if (l3.length : Int) > 300 then (cuvettelaw10_SlotsApart.j0 k a1 a2 l3 l4 t1173 true a0_0 l0_1 l0_2) else (if (l4.length : Int) > 300 then (cuvettelaw10_SlotsApart.j0 k a1 a2 l3 l4 t1173 true a0_0 l0_1 l0_2) else (cuvettelaw10_SlotsApart.j0 k a1 a2 l3 l4 t1173 (a1 == a2) a0_0 l0_1 l0_2))) else (cuvettelaw10_SlotsApart.j0 k a1 a2 l3 l4 t1173 true a0_0 l0_1 l0_2))) else (some false))) = some r := h
  clear h
  replace H := Option.bind_eq_some_iff.mp H
  obtain ⟨t1173, A60, H⟩ := H
  replace H : (if t1173 = true then ((cuvetteref10_Few.f k a0_0 l0_1 l0_2).bind fun t1174 => (if t1174 = true then (if (l3.length : Int) > 300 then (cuvettelaw10_SlotsApart.j0 k a1 a2 l3 l4 t1173 true a0_0 l0_1 l0_2) else (if (l4.length : Int) > 300 then (cuvettelaw10_SlotsApart.j0 k a1 a2 l3 l4 t1173 true a0_0 l0_1 l0_2) else (cuvettelaw10_SlotsApart.j0 k a1 a2 l3 l4 t1173 (a1 == a2) a0_0 l0_1 l0_2))) else (cuvettelaw10_SlotsApart.j0 k a1 a2 l3 l4 t1173 true a0_0 l0_1 l0_2))) else (some false)) = some r := H
  have A6 := Aside0.mk A60
  clear A60
  by_cases c7 : t1173 = true
  · subst c7
    have H1 : ((cuvetteref10_Few.f k a0_0 l0_1 l0_2).bind fun t1174 => (if t1174 = true then (if (l3.length : Int) > 300 then (cuvettelaw10_SlotsApart.j0 k a1 a2 l3 l4 true true a0_0 l0_1 l0_2) else (if (l4.length : Int) > 300 then (cuvettelaw10_SlotsApart.j0 k a1 a2 l3 l4 true true a0_0 l0_1 l0_2) else (cuvettelaw10_SlotsApart.j0 k a1 a2 l3 l4 true (a1 == a2) a0_0 l0_1 l0_2))) else (cuvettelaw10_SlotsApart.j0 k a1 a2 l3 l4 true true a0_0 l0_1 l0_2))) = some r := by rw [if_pos rfl] at H; exact H
    clear H
    have H := H1
    clear H1
    have HC8 := Aside0.mk H
    clear H
    go_enter Try.func14, Try.ntmps14
    go_upto_region 4 with (first | ((with_reducible refine gate_dst (N := 5) rfl ?_); (try (refine gate_guard (by rfl) ?_; dsimp only)); refine box_event ?hg (N := 5) ?hd (cs := #[.int .i64 a0_0, .slice A0_1 l0_1.length c0_1, .slice A0_2 l0_2.length c0_2]) (t := 25) ?hr ?_; (case hd => rfl); (case hg => rfl); (case hr => first | (go_simp; done) | (go_simp; rfl)); intro gb1172 hg w9 hbox hb; have n0_ := Aside0.mk (below_step (by repeat (first | (with_reducible first | exact HB.out | apply below_alloc | apply pw_below_drewN | apply below_drew1) | exact HB.out)) hb); have n1_ := Aside0.mk (hbox); have n2_ := Aside0.mk ((by rw [hg]; exact (below_size (by repeat (first | (with_reducible first | exact HB.out | apply below_alloc | apply pw_below_drewN | apply below_drew1) | exact HB.out))) : w.heap.size ≤ gb1172)); have n3_ := Aside0.mk ((by rw [hg]; exact (below_size (by repeat (first | (with_reducible first | exact HB.out | apply below_alloc | apply pw_below_drewN | apply below_drew1) | exact HB.out))) : w.heap.size ≤ gb1172)); clear HB; have HB := n0_; have BK1172 := n1_; have GW1172 := n2_; have GE1172 := n3_; clear n0_ n1_ n2_ n3_; clear hb hbox hg) | ((with_reducible refine gate_callee (f := 24) rfl ?_); refine goesL_ (some 30) rfl rfl Try.func24 (by kernel_rfl) rfl #[] rfl (by (try simp only [List.map_toArray, List.map_cons, List.map_nil]); first | done | rfl | (simp only [List.length_drop, List.length_take]; rfl)) ?_; (with_reducible refine (cuvettelaw10_live.calls k  true _ A6.out).mono ?_); rintro e w10 ⟨rfl, hb⟩; refine ⟨_, rfl, ?_⟩; have n0_ := Aside0.mk (blk_below (g := gb1172) (o := .cells #[.int .i64 a0_0, .slice A0_1 l0_1.length c0_1, .slice A0_2 l0_2.length c0_2] 25 (0, 0)) (by (with_reducible repeat (first | refine blk_drewN ?_ _ | refine blk_drew ?_ | refine blk_alloc ?_ _)); exact BK1172.out) hb); have n1_ := Aside0.mk (below_step (by repeat (first | (with_reducible first | exact HB.out | apply below_alloc | apply pw_below_drewN | apply below_drew1 | refine below_set ?_ GE1172.out) | exact HB.out)) hb); clear BK1172; clear HB; have BK1172 := n0_; have HB := n1_; clear n0_ n1_; (try clear hb); (try clear hb2); (try clear hk); (try clear hi)))
    (try simp only [Act.put, List.setIfInBounds_toArray, List.set_cons_zero, List.set_cons_succ])
    go_cut [50] (fun v50 wc => ∃ (kq : Nat) (x50_7 : Bool), v50 = .bool x50_7 ∧ Aside0 (cuvettelaw10_SlotsApart.j0 kq a1 a2 l3 l4 true x50_7 a0_0 l0_1 l0_2 = some r) ∧ Aside0 (kq ≤ k) ∧ Aside0 (wc.heap[gb1172]? = some (.cells #[.int .i64 a0_0, (.slice A0_1 l0_1.length c0_1), (.slice A0_2 l0_2.length c0_2)] 25 (0, 0))) ∧ Aside0 (Below w.heap.size w wc))
    case first =>
      have H := HC8.out
      clear HC8
      replace H := Option.bind_eq_some_iff.mp H
      obtain ⟨t1174, A110, H⟩ := H
      replace H : (if t1174 = true then (if (l3.length : Int) > 300 then (cuvettelaw10_SlotsApart.j0 k a1 a2 l3 l4 true true a0_0 l0_1 l0_2) else (if (l4.length : Int) > 300 then (cuvettelaw10_SlotsApart.j0 k a1 a2 l3 l4 true true a0_0 l0_1 l0_2) else (cuvettelaw10_SlotsApart.j0 k a1 a2 l3 l4 true (a1 == a2) a0_0 l0_1 l0_2))) else (cuvettelaw10_SlotsApart.j0 k a1 a2 l3 l4 true true a0_0 l0_1 l0_2)) = some r := H
      have A11 := Aside0.mk A110
      clear A110
      by_cases c12 : t1174 = true
      · subst c12
        have H1 : (if (l3.length : Int) > 300 then (cuvettelaw10_SlotsApart.j0 k a1 a2 l3 l4 true true a0_0 l0_1 l0_2) else (if (l4.length : Int) > 300 then (cuvettelaw10_SlotsApart.j0 k a1 a2 l3 l4 true true a0_0 l0_1 l0_2) else (cuvettelaw10_SlotsApart.j0 k a1 a2 l3 l4 true (a1 == a2) a0_0 l0_1 l0_2))) = some r := by rw [if_pos rfl] at H; exact H
        clear H
        have H := H1
        clear H1
        by_cases c13 : (l3.length : Int) > 300
        · rw [if_pos c13] at H
          have c13b0 : decide (300 < (l3.length : Int)) = true := decide_eq_true c13
          have c13b1 : decide (300 < l3.length) = true := decide_eq_true (by omega)
          clear c13
          (first | rw [c13b0] | (simp only [i64_w, i32_w]; rw [c13b0]) | skip)
          have H' := Aside0.mk H
          clear H
          have hcz14_0 : w10.cell? ⟨gb1172, 0, none⟩ = some (.int .i64 a0_0) := (blk_cell BK1172.out 0).trans rfl
          have hcz14_1 : w10.cell? ⟨gb1172, 1, none⟩ = some (.slice A0_1 l0_1.length c0_1) := (blk_cell BK1172.out 1).trans rfl
          have hcz14_2 : w10.cell? ⟨gb1172, 2, none⟩ = some (.slice A0_2 l0_2.length c0_2) := (blk_cell BK1172.out 2).trans rfl
          have hfz14_0 := blk_frozen BK1172.out 0
          have hfz14_1 := blk_frozen BK1172.out 1
          have hfz14_2 := blk_frozen BK1172.out 2
          go_wp2_with (first | ((with_reducible refine gate_callee (f := 25) rfl ?_); refine goesL_ (some 34) rfl rfl Try.func25 (by kernel_rfl) rfl #[.agg #[.int .i64 a0_0, .slice A0_1 l0_1.length c0_1, .slice A0_2 l0_2.length c0_2]] rfl (by (try simp only [List.map_toArray, List.map_cons, List.map_nil]); first | done | rfl | (simp only [List.length_drop, List.length_take]; rfl)) ?_; (with_reducible refine (cuvetteref10_Few.calls k a0_0 _ _ l0_1 _ _ l0_2 true _ ?side1 ?side2 ?side3 ?side4 A11.out).mono ?_); (case side1 => repeat (first | exact (Kd.C_below HR0_1.out HB.out) | (with_reducible refine Kd.C_alloc ?_ _) | (with_reducible refine Kd.C_drewN ?_ _) | (with_reducible refine Kd.C_drew ?_))); (case side2 => exact HC0_1.out); (case side3 => repeat (first | exact (Kd.C_below HR0_2.out HB.out) | (with_reducible refine Kd.C_alloc ?_ _) | (with_reducible refine Kd.C_drewN ?_ _) | (with_reducible refine Kd.C_drew ?_))); (case side4 => exact HC0_2.out); rintro e w15 ⟨rfl, hb⟩; refine ⟨_, rfl, ?_⟩; have n0_ := Aside0.mk (blk_below (g := gb1172) (o := .cells #[.int .i64 a0_0, .slice A0_1 l0_1.length c0_1, .slice A0_2 l0_2.length c0_2] 25 (0, 0)) (by (with_reducible repeat (first | refine blk_drewN ?_ _ | refine blk_drew ?_ | refine blk_alloc ?_ _)); exact BK1172.out) hb); have n1_ := Aside0.mk (below_step (by repeat (first | (with_reducible first | exact HB.out | apply below_alloc | apply pw_below_drewN | apply below_drew1 | refine below_set ?_ GE1172.out) | exact HB.out)) hb); clear BK1172; clear HB; have BK1172 := n0_; have HB := n1_; clear n0_ n1_; (try clear hb); (try clear hb2); (try clear hk); (try clear hi)))
          go_meet
          case rel => exact ⟨_, (true), (by first | rfl | (simp; done) | (simp [*]; done)), H', ⟨by first | omega | exact Nat.le_refl _⟩, ⟨by (with_reducible repeat (first | refine blk_drewN ?_ _ | refine blk_drew ?_ | refine blk_alloc ?_ _)); exact BK1172.out⟩, ⟨by repeat (first | (with_reducible first | exact HB.out | apply below_alloc | apply pw_below_drewN | apply below_drew1 | refine below_set ?_ GE1172.out) | exact HB.out)⟩⟩
        · rw [if_neg c13] at H
          have c13b0 : decide (300 < (l3.length : Int)) = false := decide_eq_false c13
          have c13b1 : decide (300 < l3.length) = false := decide_eq_false (by omega)
          clear c13
          (first | rw [c13b0] | (simp only [i64_w, i32_w]; rw [c13b0]) | skip)
          by_cases c16 : (l4.length : Int) > 300
          · rw [if_pos c16] at H
            have c16b0 : decide (300 < (l4.length : Int)) = true := decide_eq_true c16
            have c16b1 : decide (300 < l4.length) = true := decide_eq_true (by omega)
            clear c16
            have H' := Aside0.mk H
            clear H
            have hcz17_0 : w10.cell? ⟨gb1172, 0, none⟩ = some (.int .i64 a0_0) := (blk_cell BK1172.out 0).trans rfl
            have hcz17_1 : w10.cell? ⟨gb1172, 1, none⟩ = some (.slice A0_1 l0_1.length c0_1) := (blk_cell BK1172.out 1).trans rfl
            have hcz17_2 : w10.cell? ⟨gb1172, 2, none⟩ = some (.slice A0_2 l0_2.length c0_2) := (blk_cell BK1172.out 2).trans rfl
            have hfz17_0 := blk_frozen BK1172.out 0
            have hfz17_1 := blk_frozen BK1172.out 1
            have hfz17_2 := blk_frozen BK1172.out 2
            go_wp2_with (first | ((with_reducible refine gate_callee (f := 25) rfl ?_); refine goesL_ (some 34) rfl rfl Try.func25 (by kernel_rfl) rfl #[.agg #[.int .i64 a0_0, .slice A0_1 l0_1.length c0_1, .slice A0_2 l0_2.length c0_2]] rfl (by (try simp only [List.map_toArray, List.map_cons, List.map_nil]); first | done | rfl | (simp only [List.length_drop, List.length_take]; rfl)) ?_; (with_reducible refine (cuvetteref10_Few.calls k a0_0 _ _ l0_1 _ _ l0_2 true _ ?side1 ?side2 ?side3 ?side4 A11.out).mono ?_); (case side1 => repeat (first | exact (Kd.C_below HR0_1.out HB.out) | (with_reducible refine Kd.C_alloc ?_ _) | (with_reducible refine Kd.C_drewN ?_ _) | (with_reducible refine Kd.C_drew ?_))); (case side2 => exact HC0_1.out); (case side3 => repeat (first | exact (Kd.C_below HR0_2.out HB.out) | (with_reducible refine Kd.C_alloc ?_ _) | (with_reducible refine Kd.C_drewN ?_ _) | (with_reducible refine Kd.C_drew ?_))); (case side4 => exact HC0_2.out); rintro e w18 ⟨rfl, hb⟩; refine ⟨_, rfl, ?_⟩; have n0_ := Aside0.mk (blk_below (g := gb1172) (o := .cells #[.int .i64 a0_0, .slice A0_1 l0_1.length c0_1, .slice A0_2 l0_2.length c0_2] 25 (0, 0)) (by (with_reducible repeat (first | refine blk_drewN ?_ _ | refine blk_drew ?_ | refine blk_alloc ?_ _)); exact BK1172.out) hb); have n1_ := Aside0.mk (below_step (by repeat (first | (with_reducible first | exact HB.out | apply below_alloc | apply pw_below_drewN | apply below_drew1 | refine below_set ?_ GE1172.out) | exact HB.out)) hb); clear BK1172; clear HB; have BK1172 := n0_; have HB := n1_; clear n0_ n1_; (try clear hb); (try clear hb2); (try clear hk); (try clear hi)))
            go_meet
            case rel => exact ⟨_, (true), (by first | rfl | (simp; done) | (simp [*]; done)), H', ⟨by first | omega | exact Nat.le_refl _⟩, ⟨by (with_reducible repeat (first | refine blk_drewN ?_ _ | refine blk_drew ?_ | refine blk_alloc ?_ _)); exact BK1172.out⟩, ⟨by repeat (first | (with_reducible first | exact HB.out | apply below_alloc | apply pw_below_drewN | apply below_drew1 | refine below_set ?_ GE1172.out) | exact HB.out)⟩⟩
          · rw [if_neg c16] at H
            have c16b0 : decide (300 < (l4.length : Int)) = false := decide_eq_false c16
            have c16b1 : decide (300 < l4.length) = false := decide_eq_false (by omega)
            clear c16
            have H' := Aside0.mk H
            clear H
            have hcz19_0 : w10.cell? ⟨gb1172, 0, none⟩ = some (.int .i64 a0_0) := (blk_cell BK1172.out 0).trans rfl
            have hcz19_1 : w10.cell? ⟨gb1172, 1, none⟩ = some (.slice A0_1 l0_1.length c0_1) := (blk_cell BK1172.out 1).trans rfl
            have hcz19_2 : w10.cell? ⟨gb1172, 2, none⟩ = some (.slice A0_2 l0_2.length c0_2) := (blk_cell BK1172.out 2).trans rfl
            have hfz19_0 := blk_frozen BK1172.out 0
            have hfz19_1 := blk_frozen BK1172.out 1
            have hfz19_2 := blk_frozen BK1172.out 2
            go_wp2_with (first | ((with_reducible refine gate_callee (f := 25) rfl ?_); refine goesL_ (some 34) rfl rfl Try.func25 (by kernel_rfl) rfl #[.agg #[.int .i64 a0_0, .slice A0_1 l0_1.length c0_1, .slice A0_2 l0_2.length c0_2]] rfl (by (try simp only [List.map_toArray, List.map_cons, List.map_nil]); first | done | rfl | (simp only [List.length_drop, List.length_take]; rfl)) ?_; (with_reducible refine (cuvetteref10_Few.calls k a0_0 _ _ l0_1 _ _ l0_2 true _ ?side1 ?side2 ?side3 ?side4 A11.out).mono ?_); (case side1 => repeat (first | exact (Kd.C_below HR0_1.out HB.out) | (with_reducible refine Kd.C_alloc ?_ _) | (with_reducible refine Kd.C_drewN ?_ _) | (with_reducible refine Kd.C_drew ?_))); (case side2 => exact HC0_1.out); (case side3 => repeat (first | exact (Kd.C_below HR0_2.out HB.out) | (with_reducible refine Kd.C_alloc ?_ _) | (with_reducible refine Kd.C_drewN ?_ _) | (with_reducible refine Kd.C_drew ?_))); (case side4 => exact HC0_2.out); rintro e w20 ⟨rfl, hb⟩; refine ⟨_, rfl, ?_⟩; have n0_ := Aside0.mk (blk_below (g := gb1172) (o := .cells #[.int .i64 a0_0, .slice A0_1 l0_1.length c0_1, .slice A0_2 l0_2.length c0_2] 25 (0, 0)) (by (with_reducible repeat (first | refine blk_drewN ?_ _ | refine blk_drew ?_ | refine blk_alloc ?_ _)); exact BK1172.out) hb); have n1_ := Aside0.mk (below_step (by repeat (first | (with_reducible first | exact HB.out | apply below_alloc | apply pw_below_drewN | apply below_drew1 | refine below_set ?_ GE1172.out) | exact HB.out)) hb); clear BK1172; clear HB; have BK1172 := n0_; have HB := n1_; clear n0_ n1_; (try clear hb); (try clear hb2); (try clear hk); (try clear hi)))
            go_meet
            case rel => exact ⟨_, ((a1 == a2)), (by first | rfl | (simp; done) | (simp [*]; done)), H', ⟨by first | omega | exact Nat.le_refl _⟩, ⟨by (with_reducible repeat (first | refine blk_drewN ?_ _ | refine blk_drew ?_ | refine blk_alloc ?_ _)); exact BK1172.out⟩, ⟨by repeat (first | (with_reducible first | exact HB.out | apply below_alloc | apply pw_below_drewN | apply below_drew1 | refine below_set ?_ GE1172.out) | exact HB.out)⟩⟩
      · replace c12 := Bool.eq_false_iff.mpr c12
        subst c12
        have H1 : (cuvettelaw10_SlotsApart.j0 k a1 a2 l3 l4 true true a0_0 l0_1 l0_2) = some r := by rw [if_neg (show ¬ (false = true) by decide)] at H; exact H
        clear H
        have H := H1
        clear H1
        have H' := Aside0.mk H
        clear H
        have hcz21_0 : w10.cell? ⟨gb1172, 0, none⟩ = some (.int .i64 a0_0) := (blk_cell BK1172.out 0).trans rfl
        have hcz21_1 : w10.cell? ⟨gb1172, 1, none⟩ = some (.slice A0_1 l0_1.length c0_1) := (blk_cell BK1172.out 1).trans rfl
        have hcz21_2 : w10.cell? ⟨gb1172, 2, none⟩ = some (.slice A0_2 l0_2.length c0_2) := (blk_cell BK1172.out 2).trans rfl
        have hfz21_0 := blk_frozen BK1172.out 0
        have hfz21_1 := blk_frozen BK1172.out 1
        have hfz21_2 := blk_frozen BK1172.out 2
        go_wp2_with (first | ((with_reducible refine gate_callee (f := 25) rfl ?_); refine goesL_ (some 34) rfl rfl Try.func25 (by kernel_rfl) rfl #[.agg #[.int .i64 a0_0, .slice A0_1 l0_1.length c0_1, .slice A0_2 l0_2.length c0_2]] rfl (by (try simp only [List.map_toArray, List.map_cons, List.map_nil]); first | done | rfl | (simp only [List.length_drop, List.length_take]; rfl)) ?_; (with_reducible refine (cuvetteref10_Few.calls k a0_0 _ _ l0_1 _ _ l0_2 false _ ?side1 ?side2 ?side3 ?side4 A11.out).mono ?_); (case side1 => repeat (first | exact (Kd.C_below HR0_1.out HB.out) | (with_reducible refine Kd.C_alloc ?_ _) | (with_reducible refine Kd.C_drewN ?_ _) | (with_reducible refine Kd.C_drew ?_))); (case side2 => exact HC0_1.out); (case side3 => repeat (first | exact (Kd.C_below HR0_2.out HB.out) | (with_reducible refine Kd.C_alloc ?_ _) | (with_reducible refine Kd.C_drewN ?_ _) | (with_reducible refine Kd.C_drew ?_))); (case side4 => exact HC0_2.out); rintro e w22 ⟨rfl, hb⟩; refine ⟨_, rfl, ?_⟩; have n0_ := Aside0.mk (blk_below (g := gb1172) (o := .cells #[.int .i64 a0_0, .slice A0_1 l0_1.length c0_1, .slice A0_2 l0_2.length c0_2] 25 (0, 0)) (by (with_reducible repeat (first | refine blk_drewN ?_ _ | refine blk_drew ?_ | refine blk_alloc ?_ _)); exact BK1172.out) hb); have n1_ := Aside0.mk (below_step (by repeat (first | (with_reducible first | exact HB.out | apply below_alloc | apply pw_below_drewN | apply below_drew1 | refine below_set ?_ GE1172.out) | exact HB.out)) hb); clear BK1172; clear HB; have BK1172 := n0_; have HB := n1_; clear n0_ n1_; (try clear hb); (try clear hb2); (try clear hk); (try clear hi)))
        go_meet
        case rel => exact ⟨_, (true), (by first | rfl | (simp; done) | (simp [*]; done)), H', ⟨by first | omega | exact Nat.le_refl _⟩, ⟨by (with_reducible repeat (first | refine blk_drewN ?_ _ | refine blk_drew ?_ | refine blk_alloc ?_ _)); exact BK1172.out⟩, ⟨by repeat (first | (with_reducible first | exact HB.out | apply below_alloc | apply pw_below_drewN | apply below_drew1 | refine below_set ?_ GE1172.out) | exact HB.out)⟩⟩
    case rest =>
      clear HC8
      try clear c1
      try clear c2
      try clear p2
      try clear c3
      try clear c4
      try clear c7
      try clear c12
      try clear c13
      try clear c13b0
      try clear c13b1
      try clear c14
      try clear c16
      try clear c16b0
      try clear c16b1
      try clear hcz14_0
      try clear hcz14_1
      try clear hcz14_2
      try clear hcz17_0
      try clear hcz17_1
      try clear hcz17_2
      try clear hcz19_0
      try clear hcz19_1
      try clear hcz19_2
      try clear hcz21_0
      try clear hcz21_1
      try clear hcz21_2
      try clear hfz14_0
      try clear hfz14_1
      try clear hfz14_2
      try clear hfz17_0
      try clear hfz17_1
      try clear hfz17_2
      try clear hfz19_0
      try clear hfz19_1
      try clear hfz19_2
      try clear hfz21_0
      try clear hfz21_1
      try clear hfz21_2
      obtain ⟨kq, x50_7, rfl, HA, HJ7, BK1172, HB⟩ := hcut
      cases kq with
      | zero => exact absurd HA.out (by simp [cuvettelaw10_SlotsApart.j0])
      | succ kj7 =>
        have H := HA.out
        clear HA
        simp only [cuvettelaw10_SlotsApart.j0] at H
        by_cases c23 : x50_7 = true
        · subst c23
          have H1 : (some true) = some r := by rw [if_pos rfl] at H; exact H
          clear H
          have H := H1
          clear H1
          obtain rfl := Option.some.inj H
          go_wp2
          go_ret
          exact ⟨by first | rfl | (simp [errW_none, errW_some] <;> rfl) | (simp [*, errW_none, errW_some] <;> rfl), by repeat (first | (with_reducible first | exact HB.out | apply below_alloc | apply pw_below_drewN | apply below_drew1 | refine below_set ?_ GE1172.out) | exact HB.out)⟩
        · replace c23 := Bool.eq_false_iff.mpr c23
          subst c23
          have H1 : ((slots_Put.f kj7 a0_0 l0_1 l0_2 a1 l3).bind fun bt1175 => ((slots_Put.f kj7 a0_0 l0_1 l0_2 a2 l4).bind fun bt1185 => (if bt1175.2.2.2.2 = 0 then (cuvettelaw10_SlotsApart.j1 kj7 a1 a2 l3 l4 true (bt1185.2.2.2.2 != 0) a0_0 l0_1 l0_2 bt1175.2.1 bt1175.2.2.1 bt1175.2.2.2.1 bt1185.2.1 bt1185.2.2.1 bt1185.2.2.2.1) else (cuvettelaw10_SlotsApart.j1 kj7 a1 a2 l3 l4 true true a0_0 l0_1 l0_2 bt1175.2.1 bt1175.2.2.1 bt1175.2.2.2.1 bt1185.2.1 bt1185.2.2.1 bt1185.2.2.2.1)))) = some r := by rw [if_neg (show ¬ (false = true) by decide)] at H; exact H
          clear H
          have H := H1
          clear H1
          replace H := Option.bind_eq_some_iff.mp H
          obtain ⟨⟨t1175, t1176, t1177, t1180, t1183⟩, A240, H⟩ := H
          replace H : ((slots_Put.f kj7 a0_0 l0_1 l0_2 a2 l4).bind fun bt1185 => (if t1183 = 0 then (cuvettelaw10_SlotsApart.j1 kj7 a1 a2 l3 l4 true (bt1185.2.2.2.2 != 0) a0_0 l0_1 l0_2 t1176 t1177 t1180 bt1185.2.1 bt1185.2.2.1 bt1185.2.2.2.1) else (cuvettelaw10_SlotsApart.j1 kj7 a1 a2 l3 l4 true true a0_0 l0_1 l0_2 t1176 t1177 t1180 bt1185.2.1 bt1185.2.2.1 bt1185.2.2.2.1))) = some r := H
          have A24 := Aside0.mk A240
          clear A240
          replace H := Option.bind_eq_some_iff.mp H
          obtain ⟨⟨t1185, t1186, t1187, t1190, t1193⟩, A250, H⟩ := H
          replace H : (if t1183 = 0 then (cuvettelaw10_SlotsApart.j1 kj7 a1 a2 l3 l4 true (t1193 != 0) a0_0 l0_1 l0_2 t1176 t1177 t1180 t1186 t1187 t1190) else (cuvettelaw10_SlotsApart.j1 kj7 a1 a2 l3 l4 true true a0_0 l0_1 l0_2 t1176 t1177 t1180 t1186 t1187 t1190)) = some r := H
          have A25 := Aside0.mk A250
          clear A250
          have HC26 := Aside0.mk H
          clear H
          have hcz27_0 : wc.cell? ⟨gb1172, 0, none⟩ = some (.int .i64 a0_0) := (blk_cell BK1172.out 0).trans rfl
          have hcz27_1 : wc.cell? ⟨gb1172, 1, none⟩ = some (.slice A0_1 l0_1.length c0_1) := (blk_cell BK1172.out 1).trans rfl
          have hcz27_2 : wc.cell? ⟨gb1172, 2, none⟩ = some (.slice A0_2 l0_2.length c0_2) := (blk_cell BK1172.out 2).trans rfl
          have hfz27_0 := blk_frozen BK1172.out 0
          have hfz27_1 := blk_frozen BK1172.out 1
          have hfz27_2 := blk_frozen BK1172.out 2
          go_upto_region 8 with (first | ((with_reducible refine gate_callee (f := 27) rfl ?_); refine goesL_ (some 56) rfl rfl Try.func27 (by kernel_rfl) rfl #[.agg #[.int .i64 a0_0, .slice A0_1 l0_1.length c0_1, .slice A0_2 l0_2.length c0_2], .int .i64 a1, .slice A3 l3.length c3] rfl (by (try simp only [List.map_toArray, List.map_cons, List.map_nil]); first | done | rfl | (simp only [List.length_drop, List.length_take]; rfl)) ?_; (with_reducible refine (slots_Put.calls kj7 a0_0 _ _ l0_1 (fun k_ => k_ < w.heap.size) _ _ l0_2 a1 _ _ l3 t1175 t1176 t1177 t1180 t1183 _ ?side1 ?side2 ?side3 ?side4 ?side5 A24.out).mono ?_); (case side1 => repeat (first | exact (Kd.C_below HR0_1.out HB.out) | (with_reducible refine Kd.C_alloc ?_ _) | (with_reducible refine Kd.C_drewN ?_ _) | (with_reducible refine Kd.C_drew ?_))); (case side2 => exact HC0_1.out); (case side3 => exact Kd.V_mk HC0_2.out (Kd.F_below (Kd.C_F (Kd.heap_slice 74 (Kd.heap_int .i16)) HR0_2.out) (by repeat (first | (with_reducible first | exact HB.out | apply below_alloc | apply pw_below_drewN | apply below_drew1 | refine below_set ?_ GE1172.out) | exact HB.out)))); (case side4 => repeat (first | exact (Kd.C_below HR3.out HB.out) | (with_reducible refine Kd.C_alloc ?_ _) | (with_reducible refine Kd.C_drewN ?_ _) | (with_reducible refine Kd.C_drew ?_))); (case side5 => exact HC3.out); rintro e w28 ⟨v1178, v1181, rfl, ho0, ho1, hb⟩; refine ⟨_, rfl, ?_⟩; have n0_ := Aside0.mk (Kd.R_lower (Kd.R_mono (ok' := fun k_ => True) ho0 (fun _ hk_ => trivial)) (below_size (by repeat (first | (with_reducible first | exact HB.out | apply below_alloc | apply pw_below_drewN | apply below_drew1 | refine below_set ?_ GE1172.out) | exact HB.out)))); have n1_ := Aside0.mk (Kd.N_lower (Kd.N_mono (ok' := fun k_ => some k_ ≠ (v1178 : Value).ownBlock ∧ k_ ≠ gb1172) ho1 (fun k_ hk_ => ⟨hk_.2, Or.elim hk_.1 (fun hs_ => fun e_ => Nat.not_le.2 hs_ (by rw [e_]; exact GW1172.out)) (fun hn_ => (Kd.freshB (g := gb1172) (o := .cells #[.int .i64 a0_0, .slice A0_1 l0_1.length c0_1, .slice A0_2 l0_2.length c0_2] 25 (0, 0)) (by (with_reducible repeat (first | refine blk_drewN ?_ _ | refine blk_drew ?_ | refine blk_alloc ?_ _)); exact BK1172.out) k_ hn_))⟩)) (below_size (by repeat (first | (with_reducible first | exact HB.out | apply below_alloc | apply pw_below_drewN | apply below_drew1 | refine below_set ?_ GE1172.out) | exact HB.out)))); have n2_ := Aside0.mk (blk_below (g := gb1172) (o := .cells #[.int .i64 a0_0, .slice A0_1 l0_1.length c0_1, .slice A0_2 l0_2.length c0_2] 25 (0, 0)) (by (with_reducible repeat (first | refine blk_drewN ?_ _ | refine blk_drew ?_ | refine blk_alloc ?_ _)); exact BK1172.out) hb); have n3_ := Aside0.mk (below_step (by repeat (first | (with_reducible first | exact HB.out | apply below_alloc | apply pw_below_drewN | apply below_drew1 | refine below_set ?_ GE1172.out) | exact HB.out)) hb); clear BK1172; clear HB; have HO1179 := n0_; have HO1182 := n1_; have BK1172 := n2_; have HB := n3_; clear n0_ n1_ n2_ n3_; (try clear hb); (try clear hb2); (try clear hk); (try clear hi); (try clear ho0); (try clear ho1)) | ((with_reducible refine gate_dst (N := 13) rfl ?_); (try (refine gate_guard (by rfl) ?_; dsimp only)); refine box_event ?hg (N := 13) ?hd (cs := #[.int .i64 0, .slice none 0 0, .slice none 0 0]) (t := 25) ?hr ?_; (case hd => rfl); (case hg => rfl); (case hr => first | (go_simp; done) | (go_simp; rfl)); intro gb1184 hg w29 hbox hb; have n0_ := Aside0.mk (Kd.R_below (by (with_reducible repeat (first | apply Kd.R_alloc | apply Kd.R_drewN | apply Kd.R_drew)); exact HO1179.out) hb); have n1_ := Aside0.mk (Kd.N_below (Kd.N_elderB (by (with_reducible repeat (first | apply Kd.N_alloc | apply Kd.N_drewN | apply Kd.N_drew)); exact HO1182.out) gb1184 (Nat.le_of_eq hg.symm)) hb); have n2_ := Aside0.mk (blk_below (g := gb1172) (o := .cells #[.int .i64 a0_0, .slice A0_1 l0_1.length c0_1, .slice A0_2 l0_2.length c0_2] 25 (0, 0)) (by (with_reducible repeat (first | refine blk_drewN ?_ _ | refine blk_drew ?_ | refine blk_alloc ?_ _)); exact BK1172.out) hb); have n3_ := Aside0.mk (below_step (by repeat (first | (with_reducible first | exact HB.out | apply below_alloc | apply pw_below_drewN | apply below_drew1 | refine below_set ?_ GE1172.out) | exact HB.out)) hb); have n4_ := Aside0.mk (hbox); have n5_ := Aside0.mk ((by rw [hg]; exact (below_size (by repeat (first | (with_reducible first | exact HB.out | apply below_alloc | apply pw_below_drewN | apply below_drew1 | refine below_set ?_ GE1172.out) | exact HB.out))) : w.heap.size ≤ gb1184)); have n6_ := Aside0.mk ((by rw [hg]; exact (below_size (by repeat (first | (with_reducible first | exact HB.out | apply below_alloc | apply pw_below_drewN | apply below_drew1 | refine below_set ?_ GE1172.out) | exact HB.out))) : w.heap.size ≤ gb1184)); have n7_ := Aside0.mk ((by rw [hg]; exact Nat.ne_of_lt (blk_lt (g := gb1172) (o := .cells #[.int .i64 a0_0, .slice A0_1 l0_1.length c0_1, .slice A0_2 l0_2.length c0_2] 25 (0, 0)) (by (with_reducible repeat (first | refine blk_drewN ?_ _ | refine blk_drew ?_ | refine blk_alloc ?_ _)); exact BK1172.out)) : gb1172 ≠ gb1184)); have n8_ := Aside0.mk ((by rw [hg]; exact Nat.ne_of_gt (blk_lt (g := gb1172) (o := .cells #[.int .i64 a0_0, .slice A0_1 l0_1.length c0_1, .slice A0_2 l0_2.length c0_2] 25 (0, 0)) (by (with_reducible repeat (first | refine blk_drewN ?_ _ | refine blk_drew ?_ | refine blk_alloc ?_ _)); exact BK1172.out)) : gb1184 ≠ gb1172)); clear HO1179; clear HO1182; clear BK1172; clear HB; have HO1179 := n0_; have HO1182 := n1_; have BK1172 := n2_; have HB := n3_; have BK1184 := n4_; have GW1184 := n5_; have GE1184 := n6_; have NB1172_1184 := n7_; have NB1184_1172 := n8_; clear n0_ n1_ n2_ n3_ n4_ n5_ n6_ n7_ n8_; clear hb hbox hg; have hnb30 := NB1184_1172.out; have hnc30 := NB1172_1184.out; have hcz31_0 : w29.cell? ⟨gb1184, 0, none⟩ = some (.int .i64 0) := (blk_cell BK1184.out 0).trans rfl; have hcz31_1 : w29.cell? ⟨gb1184, 1, none⟩ = some (.slice none 0 0) := (blk_cell BK1184.out 1).trans rfl; have hcz31_2 : w29.cell? ⟨gb1184, 2, none⟩ = some (.slice none 0 0) := (blk_cell BK1184.out 2).trans rfl; have hfz31_0 := blk_frozen BK1184.out 0; have hfz31_1 := blk_frozen BK1184.out 1; have hfz31_2 := blk_frozen BK1184.out 2; obtain ⟨Ao32, co32, eo32⟩ := Kd.R_slice HO1179.out; subst eo32; obtain ⟨Ao33, co33, eo33⟩ := Kd.N_slice HO1182.out; subst eo33) | ((with_reducible refine gate_store (t := 25) (p := 13) rfl ?_); refine store_event (t := 25) (p := 13) (v := ?vo_w34) (w1 := (((w29.setCell ⟨gb1184, 0, none⟩ (.int .i64 t1176)).setCell ⟨gb1184, 1, none⟩ (.slice Ao32 t1177.length co32)).setCell ⟨gb1184, 2, none⟩ (.slice Ao33 t1180.length co33))) ?hg ?ho ?hn ?hr ?_; (case ho => rfl); (case hg => rfl); (case hn => rfl); (case hr => first | (go_simp; done) | (go_simp; rfl)); intro w34 hw; have n0_ : Aside0 (Kd.R (Kd.int .i64) 2 w34 w.heap.size (fun _ => True) (.slice Ao32 t1177.length co32) t1177) := ⟨(by rw [hw]; exact (by (with_reducible repeat (first | apply Kd.R_alloc | apply Kd.R_drewN | apply Kd.R_drew)); exact Kd.R_mono (Kd.R_far (p := ⟨gb1184, 2, none⟩) (Kd.R_far (p := ⟨gb1184, 1, none⟩) (Kd.R_far (p := ⟨gb1184, 0, none⟩) (Kd.R_types HO1179.out BK1184.out (by decide)) (fun _ hk => hk.2) (.int .i64 t1176)) (fun _ hk => hk.2) (.slice Ao32 t1177.length co32)) (fun _ hk => hk.2) (.slice Ao33 t1180.length co33)) (fun _ hk => trivial)))⟩; have n1_ : Aside0 (Kd.N (Kd.slice 74 (Kd.int .i16)) 27 w34 w.heap.size (fun k_ => some k_ ≠ (.slice Ao32 t1177.length co32 : Value).ownBlock ∧ k_ ≠ gb1172 ∧ k_ ≠ gb1184) (.slice Ao33 t1180.length co33) t1180) := ⟨(by rw [hw]; exact (by (with_reducible repeat (first | apply Kd.N_alloc | apply Kd.N_drewN | apply Kd.N_drew)); exact Kd.N_mono (Kd.N_far (p := ⟨gb1184, 2, none⟩) (Kd.N_far (p := ⟨gb1184, 1, none⟩) (Kd.N_far (p := ⟨gb1184, 0, none⟩) (Kd.N_mono HO1182.out (fun k_ hk => (⟨hk, hk.2⟩ : _ ∧ k_ ≠ gb1184))) (fun _ hk => hk.2) (.int .i64 t1176)) (fun _ hk => hk.2) (.slice Ao32 t1177.length co32)) (fun _ hk => hk.2) (.slice Ao33 t1180.length co33)) (fun _ hk => ⟨hk.1.1.1, ⟨hk.1.1.2, hk.1.2⟩⟩)))⟩; have n2_ : Aside0 (w34.heap[gb1172]? = some (.cells #[.int .i64 a0_0, .slice A0_1 l0_1.length c0_1, .slice A0_2 l0_2.length c0_2] 25 (0, 0))) := ⟨(by rw [hw]; exact (by (with_reducible repeat (first | refine blk_drewN ?_ _ | refine blk_drew ?_ | refine blk_alloc ?_ _)); refine blk_far ?_ NB1172_1184.out _; (with_reducible repeat (first | refine blk_drewN ?_ _ | refine blk_drew ?_ | refine blk_alloc ?_ _)); refine blk_far ?_ NB1172_1184.out _; (with_reducible repeat (first | refine blk_drewN ?_ _ | refine blk_drew ?_ | refine blk_alloc ?_ _)); refine blk_far ?_ NB1172_1184.out _; (with_reducible repeat (first | refine blk_drewN ?_ _ | refine blk_drew ?_ | refine blk_alloc ?_ _)); exact BK1172.out))⟩; have n3_ : Aside0 (w34.heap[gb1184]? = some (.cells #[.int .i64 t1176, .slice Ao32 t1177.length co32, .slice Ao33 t1180.length co33] 25 (0, 0))) := ⟨(by rw [hw]; exact (by (with_reducible repeat (first | refine blk_drewN ?_ _ | refine blk_drew ?_ | refine blk_alloc ?_ _)); refine blk_put (cs := #[.int .i64 t1176, .slice Ao32 t1177.length co32, .slice none 0 0]) ?_ 2 _ rfl; (with_reducible repeat (first | refine blk_drewN ?_ _ | refine blk_drew ?_ | refine blk_alloc ?_ _)); refine blk_put (cs := #[.int .i64 t1176, .slice none 0 0, .slice none 0 0]) ?_ 1 _ rfl; (with_reducible repeat (first | refine blk_drewN ?_ _ | refine blk_drew ?_ | refine blk_alloc ?_ _)); refine blk_put (cs := #[.int .i64 0, .slice none 0 0, .slice none 0 0]) ?_ 0 _ rfl; (with_reducible repeat (first | refine blk_drewN ?_ _ | refine blk_drew ?_ | refine blk_alloc ?_ _)); exact BK1184.out))⟩; have n4_ : Aside0 (Below w.heap.size w w34) := ⟨(by rw [hw]; exact (by repeat (first | (with_reducible first | exact HB.out | apply below_alloc | apply pw_below_drewN | apply below_drew1 | refine below_set ?_ GE1172.out | refine below_set ?_ GE1184.out) | exact HB.out)))⟩; clear hw; clear HO1179; clear HO1182; clear BK1172; clear BK1184; clear HB; have HO1179 := n0_; have HO1182 := n1_; have BK1172 := n2_; have BK1184 := n3_; have HB := n4_; clear n0_ n1_ n2_ n3_ n4_; have hcz35_0 : w34.cell? ⟨gb1172, 0, none⟩ = some (.int .i64 a0_0) := (blk_cell BK1172.out 0).trans rfl; have hcz35_1 : w34.cell? ⟨gb1172, 1, none⟩ = some (.slice A0_1 l0_1.length c0_1) := (blk_cell BK1172.out 1).trans rfl; have hcz35_2 : w34.cell? ⟨gb1172, 2, none⟩ = some (.slice A0_2 l0_2.length c0_2) := (blk_cell BK1172.out 2).trans rfl; have hfz35_0 := blk_frozen BK1172.out 0; have hfz35_1 := blk_frozen BK1172.out 1; have hfz35_2 := blk_frozen BK1172.out 2) | ((with_reducible refine gate_callee (f := 27) rfl ?_); refine goesL_ (some 64) rfl rfl Try.func27 (by kernel_rfl) rfl #[.agg #[.int .i64 a0_0, .slice A0_1 l0_1.length c0_1, .slice A0_2 l0_2.length c0_2], .int .i64 a2, .slice A4 l4.length c4] rfl (by (try simp only [List.map_toArray, List.map_cons, List.map_nil]); first | done | rfl | (simp only [List.length_drop, List.length_take]; rfl)) ?_; (with_reducible refine (slots_Put.calls kj7 a0_0 _ _ l0_1 (fun k_ => k_ < w.heap.size) _ _ l0_2 a2 _ _ l4 t1185 t1186 t1187 t1190 t1193 _ ?side1 ?side2 ?side3 ?side4 ?side5 A25.out).mono ?_); (case side1 => repeat (first | exact (Kd.C_below HR0_1.out HB.out) | (with_reducible refine Kd.C_alloc ?_ _) | (with_reducible refine Kd.C_drewN ?_ _) | (with_reducible refine Kd.C_drew ?_))); (case side2 => exact HC0_1.out); (case side3 => exact Kd.V_mk HC0_2.out (Kd.F_below (Kd.C_F (Kd.heap_slice 74 (Kd.heap_int .i16)) HR0_2.out) (by repeat (first | (with_reducible first | exact HB.out | apply below_alloc | apply pw_below_drewN | apply below_drew1 | refine below_set ?_ GE1172.out | refine below_set ?_ GE1184.out) | exact HB.out)))); (case side4 => repeat (first | exact (Kd.C_below HR4.out HB.out) | (with_reducible refine Kd.C_alloc ?_ _) | (with_reducible refine Kd.C_drewN ?_ _) | (with_reducible refine Kd.C_drew ?_))); (case side5 => exact HC4.out); rintro e w36 ⟨v1188, v1191, rfl, ho0, ho1, hb⟩; refine ⟨_, rfl, ?_⟩; have n0_ := Aside0.mk (Kd.R_elder' (by (with_reducible repeat (first | apply Kd.R_alloc | apply Kd.R_drewN | apply Kd.R_drew)); exact HO1179.out) (Kd.R_base ho0) hb); have n1_ := Aside0.mk (Kd.N_mono (Kd.N_told (Kd.N_told (Kd.N_old (by (with_reducible repeat (first | apply Kd.N_alloc | apply Kd.N_drewN | apply Kd.N_drew)); exact HO1182.out) hb) (Kd.R_base ho0)) (Kd.N_base ho1)) (fun _ h_ => h_.1)); have n2_ := Aside0.mk (Kd.R_lower (Kd.R_new' (Kd.R_mono (ok' := fun k_ => True) ho0 (fun _ hk_ => trivial)) (Kd.R_lt (by (with_reducible repeat (first | apply Kd.R_alloc | apply Kd.R_drewN | apply Kd.R_drew)); exact HO1179.out))) (below_size (by repeat (first | (with_reducible first | exact HB.out | apply below_alloc | apply pw_below_drewN | apply below_drew1 | refine below_set ?_ GE1172.out | refine below_set ?_ GE1184.out) | exact HB.out)))); have n3_ := Aside0.mk (Kd.N_lower (Kd.N_mono (ok' := fun k_ => some k_ ≠ (v1188 : Value).ownBlock ∧ some k_ ≠ (.slice Ao32 t1177.length co32 : Value).ownBlock ∧ some k_ ≠ (.slice Ao33 t1180.length co33 : Value).ownBlock ∧ k_ ≠ gb1172 ∧ k_ ≠ gb1184) ho1 (fun k_ hk_ => ⟨hk_.2, Or.elim hk_.1 (fun hs_ => fun e_ => Nat.not_le.2 hs_ (Kd.R_base HO1179.out k_ e_.symm)) (fun hn_ => (Kd.fresh' (Kd.R_lt (by (with_reducible repeat (first | apply Kd.R_alloc | apply Kd.R_drewN | apply Kd.R_drew)); exact HO1179.out)) k_ hn_)), Or.elim hk_.1 (fun hs_ => fun e_ => Nat.not_le.2 hs_ (Kd.N_base HO1182.out k_ e_.symm)) (fun hn_ => (Kd.fresh' (Kd.N_lt (by (with_reducible repeat (first | apply Kd.N_alloc | apply Kd.N_drewN | apply Kd.N_drew)); exact HO1182.out)) k_ hn_)), Or.elim hk_.1 (fun hs_ => fun e_ => Nat.not_le.2 hs_ (by rw [e_]; exact GW1172.out)) (fun hn_ => (Kd.freshB (g := gb1172) (o := .cells #[.int .i64 a0_0, .slice A0_1 l0_1.length c0_1, .slice A0_2 l0_2.length c0_2] 25 (0, 0)) (by (with_reducible repeat (first | refine blk_drewN ?_ _ | refine blk_drew ?_ | refine blk_alloc ?_ _)); exact BK1172.out) k_ hn_)), Or.elim hk_.1 (fun hs_ => fun e_ => Nat.not_le.2 hs_ (by rw [e_]; exact GW1184.out)) (fun hn_ => (Kd.freshB (g := gb1184) (o := .cells #[.int .i64 t1176, .slice Ao32 t1177.length co32, .slice Ao33 t1180.length co33] 25 (0, 0)) (by (with_reducible repeat (first | refine blk_drewN ?_ _ | refine blk_drew ?_ | refine blk_alloc ?_ _)); exact BK1184.out) k_ hn_))⟩)) (below_size (by repeat (first | (with_reducible first | exact HB.out | apply below_alloc | apply pw_below_drewN | apply below_drew1 | refine below_set ?_ GE1172.out | refine below_set ?_ GE1184.out) | exact HB.out)))); have n4_ := Aside0.mk (blk_below (g := gb1172) (o := .cells #[.int .i64 a0_0, .slice A0_1 l0_1.length c0_1, .slice A0_2 l0_2.length c0_2] 25 (0, 0)) (by (with_reducible repeat (first | refine blk_drewN ?_ _ | refine blk_drew ?_ | refine blk_alloc ?_ _)); exact BK1172.out) hb); have n5_ := Aside0.mk (blk_below (g := gb1184) (o := .cells #[.int .i64 t1176, .slice Ao32 t1177.length co32, .slice Ao33 t1180.length co33] 25 (0, 0)) (by (with_reducible repeat (first | refine blk_drewN ?_ _ | refine blk_drew ?_ | refine blk_alloc ?_ _)); exact BK1184.out) hb); have n6_ := Aside0.mk (below_step (by repeat (first | (with_reducible first | exact HB.out | apply below_alloc | apply pw_below_drewN | apply below_drew1 | refine below_set ?_ GE1172.out | refine below_set ?_ GE1184.out) | exact HB.out)) hb); clear HO1179; clear HO1182; clear BK1172; clear BK1184; clear HB; have HO1179 := n0_; have HO1182 := n1_; have HO1189 := n2_; have HO1192 := n3_; have BK1172 := n4_; have BK1184 := n5_; have HB := n6_; clear n0_ n1_ n2_ n3_ n4_ n5_ n6_; (try clear hb); (try clear hb2); (try clear hk); (try clear hi); (try clear ho0); (try clear ho1)) | ((with_reducible refine gate_dst (N := 16) rfl ?_); (try (refine gate_guard (by rfl) ?_; dsimp only)); refine box_event ?hg (N := 16) ?hd (cs := #[.int .i64 0, .slice none 0 0, .slice none 0 0]) (t := 25) ?hr ?_; (case hd => rfl); (case hg => rfl); (case hr => first | (go_simp; done) | (go_simp; rfl)); intro gb1194 hg w37 hbox hb; have n0_ := Aside0.mk (Kd.R_below (by (with_reducible repeat (first | apply Kd.R_alloc | apply Kd.R_drewN | apply Kd.R_drew)); exact HO1179.out) hb); have n1_ := Aside0.mk (Kd.N_below (Kd.N_elderB (by (with_reducible repeat (first | apply Kd.N_alloc | apply Kd.N_drewN | apply Kd.N_drew)); exact HO1182.out) gb1194 (Nat.le_of_eq hg.symm)) hb); have n2_ := Aside0.mk (Kd.R_below (by (with_reducible repeat (first | apply Kd.R_alloc | apply Kd.R_drewN | apply Kd.R_drew)); exact HO1189.out) hb); have n3_ := Aside0.mk (Kd.N_below (Kd.N_elderB (by (with_reducible repeat (first | apply Kd.N_alloc | apply Kd.N_drewN | apply Kd.N_drew)); exact HO1192.out) gb1194 (Nat.le_of_eq hg.symm)) hb); have n4_ := Aside0.mk (blk_below (g := gb1172) (o := .cells #[.int .i64 a0_0, .slice A0_1 l0_1.length c0_1, .slice A0_2 l0_2.length c0_2] 25 (0, 0)) (by (with_reducible repeat (first | refine blk_drewN ?_ _ | refine blk_drew ?_ | refine blk_alloc ?_ _)); exact BK1172.out) hb); have n5_ := Aside0.mk (blk_below (g := gb1184) (o := .cells #[.int .i64 t1176, .slice Ao32 t1177.length co32, .slice Ao33 t1180.length co33] 25 (0, 0)) (by (with_reducible repeat (first | refine blk_drewN ?_ _ | refine blk_drew ?_ | refine blk_alloc ?_ _)); exact BK1184.out) hb); have n6_ := Aside0.mk (below_step (by repeat (first | (with_reducible first | exact HB.out | apply below_alloc | apply pw_below_drewN | apply below_drew1 | refine below_set ?_ GE1172.out | refine below_set ?_ GE1184.out) | exact HB.out)) hb); have n7_ := Aside0.mk (hbox); have n8_ := Aside0.mk ((by rw [hg]; exact (below_size (by repeat (first | (with_reducible first | exact HB.out | apply below_alloc | apply pw_below_drewN | apply below_drew1 | refine below_set ?_ GE1172.out | refine below_set ?_ GE1184.out) | exact HB.out))) : w.heap.size ≤ gb1194)); have n9_ := Aside0.mk ((by rw [hg]; exact (below_size (by repeat (first | (with_reducible first | exact HB.out | apply below_alloc | apply pw_below_drewN | apply below_drew1 | refine below_set ?_ GE1172.out | refine below_set ?_ GE1184.out) | exact HB.out))) : w.heap.size ≤ gb1194)); have n10_ := Aside0.mk ((by rw [hg]; exact Nat.ne_of_lt (blk_lt (g := gb1172) (o := .cells #[.int .i64 a0_0, .slice A0_1 l0_1.length c0_1, .slice A0_2 l0_2.length c0_2] 25 (0, 0)) (by (with_reducible repeat (first | refine blk_drewN ?_ _ | refine blk_drew ?_ | refine blk_alloc ?_ _)); exact BK1172.out)) : gb1172 ≠ gb1194)); have n11_ := Aside0.mk ((by rw [hg]; exact Nat.ne_of_gt (blk_lt (g := gb1172) (o := .cells #[.int .i64 a0_0, .slice A0_1 l0_1.length c0_1, .slice A0_2 l0_2.length c0_2] 25 (0, 0)) (by (with_reducible repeat (first | refine blk_drewN ?_ _ | refine blk_drew ?_ | refine blk_alloc ?_ _)); exact BK1172.out)) : gb1194 ≠ gb1172)); have n12_ := Aside0.mk ((by rw [hg]; exact Nat.ne_of_lt (blk_lt (g := gb1184) (o := .cells #[.int .i64 t1176, .slice Ao32 t1177.length co32, .slice Ao33 t1180.length co33] 25 (0, 0)) (by (with_reducible repeat (first | refine blk_drewN ?_ _ | refine blk_drew ?_ | refine blk_alloc ?_ _)); exact BK1184.out)) : gb1184 ≠ gb1194)); have n13_ := Aside0.mk ((by rw [hg]; exact Nat.ne_of_gt (blk_lt (g := gb1184) (o := .cells #[.int .i64 t1176, .slice Ao32 t1177.length co32, .slice Ao33 t1180.length co33] 25 (0, 0)) (by (with_reducible repeat (first | refine blk_drewN ?_ _ | refine blk_drew ?_ | refine blk_alloc ?_ _)); exact BK1184.out)) : gb1194 ≠ gb1184)); clear HO1179; clear HO1182; clear HO1189; clear HO1192; clear BK1172; clear BK1184; clear HB; have HO1179 := n0_; have HO1182 := n1_; have HO1189 := n2_; have HO1192 := n3_; have BK1172 := n4_; have BK1184 := n5_; have HB := n6_; have BK1194 := n7_; have GW1194 := n8_; have GE1194 := n9_; have NB1172_1194 := n10_; have NB1194_1172 := n11_; have NB1184_1194 := n12_; have NB1194_1184 := n13_; clear n0_ n1_ n2_ n3_ n4_ n5_ n6_ n7_ n8_ n9_ n10_ n11_ n12_ n13_; clear hb hbox hg; have hnb38 := NB1194_1172.out; have hnc38 := NB1172_1194.out; have hnb39 := NB1194_1184.out; have hnc39 := NB1184_1194.out; have hcz40_0 : w37.cell? ⟨gb1194, 0, none⟩ = some (.int .i64 0) := (blk_cell BK1194.out 0).trans rfl; have hcz40_1 : w37.cell? ⟨gb1194, 1, none⟩ = some (.slice none 0 0) := (blk_cell BK1194.out 1).trans rfl; have hcz40_2 : w37.cell? ⟨gb1194, 2, none⟩ = some (.slice none 0 0) := (blk_cell BK1194.out 2).trans rfl; have hfz40_0 := blk_frozen BK1194.out 0; have hfz40_1 := blk_frozen BK1194.out 1; have hfz40_2 := blk_frozen BK1194.out 2; obtain ⟨Ao41, co41, eo41⟩ := Kd.R_slice HO1189.out; subst eo41; obtain ⟨Ao42, co42, eo42⟩ := Kd.N_slice HO1192.out; subst eo42))
          (try simp only [Act.put, List.setIfInBounds_toArray, List.set_cons_zero, List.set_cons_succ])
          go_cut [73] (fun v73 wc => ∃ (kq : Nat) (x73_25 : Bool), v73 = .bool x73_25 ∧ Aside0 (cuvettelaw10_SlotsApart.j1 kq a1 a2 l3 l4 true x73_25 a0_0 l0_1 l0_2 t1176 t1177 t1180 t1186 t1187 t1190 = some r) ∧ Aside0 (kq ≤ kj7) ∧ Aside0 (Kd.R (Kd.int .i64) 2 wc w.heap.size (fun k_ => some k_ ≠ ((.slice Ao41 t1187.length co41) : Value).ownBlock) (.slice Ao32 t1177.length co32) t1177) ∧ Aside0 (Kd.N (Kd.slice 74 (Kd.int .i16)) 27 wc w.heap.size (fun k_ => some k_ ≠ ((.slice Ao32 t1177.length co32) : Value).ownBlock ∧ some k_ ≠ ((.slice Ao41 t1187.length co41) : Value).ownBlock ∧ some k_ ≠ ((.slice Ao42 t1190.length co42) : Value).ownBlock ∧ k_ ≠ gb1172 ∧ k_ ≠ gb1184 ∧ k_ ≠ gb1194) (.slice Ao33 t1180.length co33) t1180) ∧ Aside0 (Kd.R (Kd.int .i64) 2 wc w.heap.size (fun k_ => some k_ ≠ ((.slice Ao32 t1177.length co32) : Value).ownBlock) (.slice Ao41 t1187.length co41) t1187) ∧ Aside0 (Kd.N (Kd.slice 74 (Kd.int .i16)) 27 wc w.heap.size (fun k_ => some k_ ≠ ((.slice Ao32 t1177.length co32) : Value).ownBlock ∧ some k_ ≠ ((.slice Ao33 t1180.length co33) : Value).ownBlock ∧ some k_ ≠ ((.slice Ao41 t1187.length co41) : Value).ownBlock ∧ k_ ≠ gb1172 ∧ k_ ≠ gb1184 ∧ k_ ≠ gb1194) (.slice Ao42 t1190.length co42) t1190) ∧ Aside0 (wc.heap[gb1172]? = some (.cells #[.int .i64 a0_0, (.slice A0_1 l0_1.length c0_1), (.slice A0_2 l0_2.length c0_2)] 25 (0, 0))) ∧ Aside0 (wc.heap[gb1184]? = some (.cells #[.int .i64 t1176, (.slice Ao32 t1177.length co32), (.slice Ao33 t1180.length co33)] 25 (0, 0))) ∧ Aside0 (wc.heap[gb1194]? = some (.cells #[.int .i64 t1186, (.slice Ao41 t1187.length co41), (.slice Ao42 t1190.length co42)] 25 (0, 0))) ∧ Aside0 (Below w.heap.size w wc))
          case first =>
            have H := HC26.out
            clear HC26
            by_cases c43 : t1183 = 0
            · rw [if_pos c43] at H
              have c43b0 : (t1183 == 0) = true := beq_iff_eq.mpr c43
              have c43b1 : (t1183 != 0) = false := bne_eq_false_iff_eq.mpr c43
              clear c43
              (first | rw [c43b0] | (simp only [i64_w, i32_w]; rw [c43b0]) | skip)
              have H' := Aside0.mk H
              clear H
              go_wp2
              go_meet
              case rel => exact ⟨_, ((t1193 != 0)), (by first | rfl | (simp; done) | (simp [*]; done)), H', ⟨by have := HJ7.out; first | omega | exact Nat.le_refl _⟩, ⟨by (with_reducible repeat (first | apply Kd.R_alloc | apply Kd.R_drewN | apply Kd.R_drew)); exact Kd.R_mono (Kd.R_far (p := ⟨gb1194, 2, none⟩) (Kd.R_far (p := ⟨gb1194, 1, none⟩) (Kd.R_far (p := ⟨gb1194, 0, none⟩) (Kd.R_types HO1179.out BK1194.out (by decide)) (fun _ hk => hk.2) (.int .i64 t1186)) (fun _ hk => hk.2) (.slice Ao41 t1187.length co41)) (fun _ hk => hk.2) (.slice Ao42 t1190.length co42)) (fun _ hk => hk.1.2)⟩, ⟨by (with_reducible repeat (first | apply Kd.N_alloc | apply Kd.N_drewN | apply Kd.N_drew)); exact Kd.N_mono (Kd.N_far (p := ⟨gb1194, 2, none⟩) (Kd.N_far (p := ⟨gb1194, 1, none⟩) (Kd.N_far (p := ⟨gb1194, 0, none⟩) (Kd.N_mono HO1182.out (fun k_ hk => (⟨hk, hk.2⟩ : _ ∧ k_ ≠ gb1194))) (fun _ hk => hk.2) (.int .i64 t1186)) (fun _ hk => hk.2) (.slice Ao41 t1187.length co41)) (fun _ hk => hk.2) (.slice Ao42 t1190.length co42)) (fun _ hk => ⟨hk.1.1.1.1.1, ⟨hk.1.1.1.2, ⟨hk.1.1.2, ⟨hk.1.1.1.1.2.1, ⟨hk.1.1.1.1.2.2, hk.1.2⟩⟩⟩⟩⟩)⟩, ⟨by (with_reducible repeat (first | apply Kd.R_alloc | apply Kd.R_drewN | apply Kd.R_drew)); exact Kd.R_mono (Kd.R_far (p := ⟨gb1194, 2, none⟩) (Kd.R_far (p := ⟨gb1194, 1, none⟩) (Kd.R_far (p := ⟨gb1194, 0, none⟩) (Kd.R_types HO1189.out BK1194.out (by decide)) (fun _ hk => hk.2) (.int .i64 t1186)) (fun _ hk => hk.2) (.slice Ao41 t1187.length co41)) (fun _ hk => hk.2) (.slice Ao42 t1190.length co42)) (fun _ hk => hk.1.2)⟩, ⟨by (with_reducible repeat (first | apply Kd.N_alloc | apply Kd.N_drewN | apply Kd.N_drew)); exact Kd.N_mono (Kd.N_far (p := ⟨gb1194, 2, none⟩) (Kd.N_far (p := ⟨gb1194, 1, none⟩) (Kd.N_far (p := ⟨gb1194, 0, none⟩) (Kd.N_mono HO1192.out (fun k_ hk => (⟨hk, hk.2⟩ : _ ∧ k_ ≠ gb1194))) (fun _ hk => hk.2) (.int .i64 t1186)) (fun _ hk => hk.2) (.slice Ao41 t1187.length co41)) (fun _ hk => hk.2) (.slice Ao42 t1190.length co42)) (fun _ hk => ⟨hk.1.1.2.1, ⟨hk.1.1.2.2.1, ⟨hk.1.1.1, ⟨hk.1.1.2.2.2.1, ⟨hk.1.1.2.2.2.2, hk.1.2⟩⟩⟩⟩⟩)⟩, ⟨by (with_reducible repeat (first | refine blk_drewN ?_ _ | refine blk_drew ?_ | refine blk_alloc ?_ _)); refine blk_far ?_ NB1172_1194.out _; (with_reducible repeat (first | refine blk_drewN ?_ _ | refine blk_drew ?_ | refine blk_alloc ?_ _)); refine blk_far ?_ NB1172_1194.out _; (with_reducible repeat (first | refine blk_drewN ?_ _ | refine blk_drew ?_ | refine blk_alloc ?_ _)); refine blk_far ?_ NB1172_1194.out _; (with_reducible repeat (first | refine blk_drewN ?_ _ | refine blk_drew ?_ | refine blk_alloc ?_ _)); exact BK1172.out⟩, ⟨by (with_reducible repeat (first | refine blk_drewN ?_ _ | refine blk_drew ?_ | refine blk_alloc ?_ _)); refine blk_far ?_ NB1184_1194.out _; (with_reducible repeat (first | refine blk_drewN ?_ _ | refine blk_drew ?_ | refine blk_alloc ?_ _)); refine blk_far ?_ NB1184_1194.out _; (with_reducible repeat (first | refine blk_drewN ?_ _ | refine blk_drew ?_ | refine blk_alloc ?_ _)); refine blk_far ?_ NB1184_1194.out _; (with_reducible repeat (first | refine blk_drewN ?_ _ | refine blk_drew ?_ | refine blk_alloc ?_ _)); exact BK1184.out⟩, ⟨by (with_reducible repeat (first | refine blk_drewN ?_ _ | refine blk_drew ?_ | refine blk_alloc ?_ _)); refine blk_put (cs := #[.int .i64 t1186, .slice Ao41 t1187.length co41, .slice none 0 0]) ?_ 2 _ rfl; (with_reducible repeat (first | refine blk_drewN ?_ _ | refine blk_drew ?_ | refine blk_alloc ?_ _)); refine blk_put (cs := #[.int .i64 t1186, .slice none 0 0, .slice none 0 0]) ?_ 1 _ rfl; (with_reducible repeat (first | refine blk_drewN ?_ _ | refine blk_drew ?_ | refine blk_alloc ?_ _)); refine blk_put (cs := #[.int .i64 0, .slice none 0 0, .slice none 0 0]) ?_ 0 _ rfl; (with_reducible repeat (first | refine blk_drewN ?_ _ | refine blk_drew ?_ | refine blk_alloc ?_ _)); exact BK1194.out⟩, ⟨by repeat (first | (with_reducible first | exact HB.out | apply below_alloc | apply pw_below_drewN | apply below_drew1 | refine below_set ?_ GE1172.out | refine below_set ?_ GE1184.out | refine below_set ?_ GE1194.out) | exact HB.out)⟩⟩
            · rw [if_neg c43] at H
              have c43b0 : (t1183 == 0) = false := beq_eq_false_iff_ne.mpr c43
              have c43b1 : (t1183 != 0) = true := bne_iff_ne.mpr c43
              (first | rw [c43b0] | (simp only [i64_w, i32_w]; rw [c43b0]) | skip)
              have H' := Aside0.mk H
              clear H
              go_wp2
              go_meet
              case rel => exact ⟨_, (true), (by first | rfl | (simp; done) | (simp [*]; done)), H', ⟨by have := HJ7.out; first | omega | exact Nat.le_refl _⟩, ⟨by (with_reducible repeat (first | apply Kd.R_alloc | apply Kd.R_drewN | apply Kd.R_drew)); exact Kd.R_mono (Kd.R_far (p := ⟨gb1194, 2, none⟩) (Kd.R_far (p := ⟨gb1194, 1, none⟩) (Kd.R_far (p := ⟨gb1194, 0, none⟩) (Kd.R_types HO1179.out BK1194.out (by decide)) (fun _ hk => hk.2) (.int .i64 t1186)) (fun _ hk => hk.2) (.slice Ao41 t1187.length co41)) (fun _ hk => hk.2) (.slice Ao42 t1190.length co42)) (fun _ hk => hk.1.2)⟩, ⟨by (with_reducible repeat (first | apply Kd.N_alloc | apply Kd.N_drewN | apply Kd.N_drew)); exact Kd.N_mono (Kd.N_far (p := ⟨gb1194, 2, none⟩) (Kd.N_far (p := ⟨gb1194, 1, none⟩) (Kd.N_far (p := ⟨gb1194, 0, none⟩) (Kd.N_mono HO1182.out (fun k_ hk => (⟨hk, hk.2⟩ : _ ∧ k_ ≠ gb1194))) (fun _ hk => hk.2) (.int .i64 t1186)) (fun _ hk => hk.2) (.slice Ao41 t1187.length co41)) (fun _ hk => hk.2) (.slice Ao42 t1190.length co42)) (fun _ hk => ⟨hk.1.1.1.1.1, ⟨hk.1.1.1.2, ⟨hk.1.1.2, ⟨hk.1.1.1.1.2.1, ⟨hk.1.1.1.1.2.2, hk.1.2⟩⟩⟩⟩⟩)⟩, ⟨by (with_reducible repeat (first | apply Kd.R_alloc | apply Kd.R_drewN | apply Kd.R_drew)); exact Kd.R_mono (Kd.R_far (p := ⟨gb1194, 2, none⟩) (Kd.R_far (p := ⟨gb1194, 1, none⟩) (Kd.R_far (p := ⟨gb1194, 0, none⟩) (Kd.R_types HO1189.out BK1194.out (by decide)) (fun _ hk => hk.2) (.int .i64 t1186)) (fun _ hk => hk.2) (.slice Ao41 t1187.length co41)) (fun _ hk => hk.2) (.slice Ao42 t1190.length co42)) (fun _ hk => hk.1.2)⟩, ⟨by (with_reducible repeat (first | apply Kd.N_alloc | apply Kd.N_drewN | apply Kd.N_drew)); exact Kd.N_mono (Kd.N_far (p := ⟨gb1194, 2, none⟩) (Kd.N_far (p := ⟨gb1194, 1, none⟩) (Kd.N_far (p := ⟨gb1194, 0, none⟩) (Kd.N_mono HO1192.out (fun k_ hk => (⟨hk, hk.2⟩ : _ ∧ k_ ≠ gb1194))) (fun _ hk => hk.2) (.int .i64 t1186)) (fun _ hk => hk.2) (.slice Ao41 t1187.length co41)) (fun _ hk => hk.2) (.slice Ao42 t1190.length co42)) (fun _ hk => ⟨hk.1.1.2.1, ⟨hk.1.1.2.2.1, ⟨hk.1.1.1, ⟨hk.1.1.2.2.2.1, ⟨hk.1.1.2.2.2.2, hk.1.2⟩⟩⟩⟩⟩)⟩, ⟨by (with_reducible repeat (first | refine blk_drewN ?_ _ | refine blk_drew ?_ | refine blk_alloc ?_ _)); refine blk_far ?_ NB1172_1194.out _; (with_reducible repeat (first | refine blk_drewN ?_ _ | refine blk_drew ?_ | refine blk_alloc ?_ _)); refine blk_far ?_ NB1172_1194.out _; (with_reducible repeat (first | refine blk_drewN ?_ _ | refine blk_drew ?_ | refine blk_alloc ?_ _)); refine blk_far ?_ NB1172_1194.out _; (with_reducible repeat (first | refine blk_drewN ?_ _ | refine blk_drew ?_ | refine blk_alloc ?_ _)); exact BK1172.out⟩, ⟨by (with_reducible repeat (first | refine blk_drewN ?_ _ | refine blk_drew ?_ | refine blk_alloc ?_ _)); refine blk_far ?_ NB1184_1194.out _; (with_reducible repeat (first | refine blk_drewN ?_ _ | refine blk_drew ?_ | refine blk_alloc ?_ _)); refine blk_far ?_ NB1184_1194.out _; (with_reducible repeat (first | refine blk_drewN ?_ _ | refine blk_drew ?_ | refine blk_alloc ?_ _)); refine blk_far ?_ NB1184_1194.out _; (with_reducible repeat (first | refine blk_drewN ?_ _ | refine blk_drew ?_ | refine blk_alloc ?_ _)); exact BK1184.out⟩, ⟨by (with_reducible repeat (first | refine blk_drewN ?_ _ | refine blk_drew ?_ | refine blk_alloc ?_ _)); refine blk_put (cs := #[.int .i64 t1186, .slice Ao41 t1187.length co41, .slice none 0 0]) ?_ 2 _ rfl; (with_reducible repeat (first | refine blk_drewN ?_ _ | refine blk_drew ?_ | refine blk_alloc ?_ _)); refine blk_put (cs := #[.int .i64 t1186, .slice none 0 0, .slice none 0 0]) ?_ 1 _ rfl; (with_reducible repeat (first | refine blk_drewN ?_ _ | refine blk_drew ?_ | refine blk_alloc ?_ _)); refine blk_put (cs := #[.int .i64 0, .slice none 0 0, .slice none 0 0]) ?_ 0 _ rfl; (with_reducible repeat (first | refine blk_drewN ?_ _ | refine blk_drew ?_ | refine blk_alloc ?_ _)); exact BK1194.out⟩, ⟨by repeat (first | (with_reducible first | exact HB.out | apply below_alloc | apply pw_below_drewN | apply below_drew1 | refine below_set ?_ GE1172.out | refine below_set ?_ GE1184.out | refine below_set ?_ GE1194.out) | exact HB.out)⟩⟩
          case rest =>
            clear HC26
            try clear c1
            try clear c2
            try clear p2
            try clear c3
            try clear c4
            try clear c7
            try clear c12
            try clear c13
            try clear c13b0
            try clear c13b1
            try clear c14
            try clear c16
            try clear c16b0
            try clear c16b1
            try clear c23
            try clear c24
            try clear c25
            try clear c27
            try clear c30
            try clear c38
            try clear c39
            try clear c43
            try clear c43b0
            try clear c43b1
            try clear hcz14_0
            try clear hcz14_1
            try clear hcz14_2
            try clear hcz17_0
            try clear hcz17_1
            try clear hcz17_2
            try clear hcz19_0
            try clear hcz19_1
            try clear hcz19_2
            try clear hcz21_0
            try clear hcz21_1
            try clear hcz21_2
            try clear hcz27_0
            try clear hcz27_1
            try clear hcz27_2
            try clear hcz31_0
            try clear hcz31_1
            try clear hcz31_2
            try clear hcz35_0
            try clear hcz35_1
            try clear hcz35_2
            try clear hcz40_0
            try clear hcz40_1
            try clear hcz40_2
            try clear hfz14_0
            try clear hfz14_1
            try clear hfz14_2
            try clear hfz17_0
            try clear hfz17_1
            try clear hfz17_2
            try clear hfz19_0
            try clear hfz19_1
            try clear hfz19_2
            try clear hfz21_0
            try clear hfz21_1
            try clear hfz21_2
            try clear hfz27_0
            try clear hfz27_1
            try clear hfz27_2
            try clear hfz31_0
            try clear hfz31_1
            try clear hfz31_2
            try clear hfz35_0
            try clear hfz35_1
            try clear hfz35_2
            try clear hfz40_0
            try clear hfz40_1
            try clear hfz40_2
            try clear p2
            obtain ⟨kq, x73_25, rfl, HA, HJ25, HO_1185001, HO_1185002, HO_1195001, HO_1195002, BK1172, BK1184, BK1194, HB⟩ := hcut
            cases kq with
            | zero => exact absurd HA.out (by simp [cuvettelaw10_SlotsApart.j1])
            | succ kj25 =>
              have H := HA.out
              clear HA
              simp only [cuvettelaw10_SlotsApart.j1] at H
              by_cases c44 : x73_25 = true
              · subst c44
                have H1 : (some true) = some r := by rw [if_pos rfl] at H; exact H
                clear H
                have H := H1
                clear H1
                obtain rfl := Option.some.inj H
                go_wp2
                go_ret
                exact ⟨by first | rfl | (simp [errW_none, errW_some] <;> rfl) | (simp [*, errW_none, errW_some] <;> rfl), by repeat (first | (with_reducible first | exact HB.out | apply below_alloc | apply pw_below_drewN | apply below_drew1 | refine below_set ?_ GE1172.out | refine below_set ?_ GE1184.out | refine below_set ?_ GE1194.out) | exact HB.out)⟩
              · replace c44 := Bool.eq_false_iff.mpr c44
                subst c44
                have H1 : (cuvettelaw10_SlotsApart.l0 kj25 a1 a2 l3 l4 true l0_1 (l0_1.length : Int) 0 a0_0 l0_1 l0_2 t1176 t1177 t1180 t1186 t1187 t1190) = some r := by rw [if_neg (show ¬ (false = true) by decide)] at H; exact H
                clear H
                have H := H1
                clear H1
                have H' := Aside0.mk H
                clear H
                have hnb45 := NB1172_1184.out
                have hnc45 := NB1184_1172.out
                have hnb46 := NB1172_1194.out
                have hnc46 := NB1194_1172.out
                have hcz47_0 : wc.cell? ⟨gb1172, 0, none⟩ = some (.int .i64 a0_0) := (blk_cell BK1172.out 0).trans rfl
                have hcz47_1 : wc.cell? ⟨gb1172, 1, none⟩ = some (.slice A0_1 l0_1.length c0_1) := (blk_cell BK1172.out 1).trans rfl
                have hcz47_2 : wc.cell? ⟨gb1172, 2, none⟩ = some (.slice A0_2 l0_2.length c0_2) := (blk_cell BK1172.out 2).trans rfl
                have hfz47_0 := blk_frozen BK1172.out 0
                have hfz47_1 := blk_frozen BK1172.out 1
                have hfz47_2 := blk_frozen BK1172.out 2
                go_wp2
                go_loopg [78] kj25 (fun kq v78 w' => ∃ (x78_3 : Int), v78 = .int .i64 x78_3 ∧ Aside0 (cuvettelaw10_SlotsApart.l0 kq a1 a2 l3 l4 true l0_1 (l0_1.length : Int) x78_3 a0_0 l0_1 l0_2 t1176 t1177 t1180 t1186 t1187 t1190 = some r) ∧ Aside0 (kq ≤ kj25) ∧ Aside0 (Kd.R (Kd.int .i64) 2 w' w.heap.size (fun k_ => some k_ ≠ ((.slice Ao41 t1187.length co41) : Value).ownBlock) (.slice Ao32 t1177.length co32) t1177) ∧ Aside0 (Kd.N (Kd.slice 74 (Kd.int .i16)) 27 w' w.heap.size (fun k_ => some k_ ≠ ((.slice Ao32 t1177.length co32) : Value).ownBlock ∧ some k_ ≠ ((.slice Ao41 t1187.length co41) : Value).ownBlock ∧ some k_ ≠ ((.slice Ao42 t1190.length co42) : Value).ownBlock ∧ k_ ≠ gb1172 ∧ k_ ≠ gb1184 ∧ k_ ≠ gb1194) (.slice Ao33 t1180.length co33) t1180) ∧ Aside0 (Kd.R (Kd.int .i64) 2 w' w.heap.size (fun k_ => some k_ ≠ ((.slice Ao32 t1177.length co32) : Value).ownBlock) (.slice Ao41 t1187.length co41) t1187) ∧ Aside0 (Kd.N (Kd.slice 74 (Kd.int .i16)) 27 w' w.heap.size (fun k_ => some k_ ≠ ((.slice Ao32 t1177.length co32) : Value).ownBlock ∧ some k_ ≠ ((.slice Ao33 t1180.length co33) : Value).ownBlock ∧ some k_ ≠ ((.slice Ao41 t1187.length co41) : Value).ownBlock ∧ k_ ≠ gb1172 ∧ k_ ≠ gb1184 ∧ k_ ≠ gb1194) (.slice Ao42 t1190.length co42) t1190) ∧ Aside0 (w'.heap[gb1172]? = some (.cells #[.int .i64 a0_0, (.slice A0_1 l0_1.length c0_1), (.slice A0_2 l0_2.length c0_2)] 25 (0, 0))) ∧ Aside0 (w'.heap[gb1184]? = some (.cells #[.int .i64 t1176, (.slice Ao32 t1177.length co32), (.slice Ao33 t1180.length co33)] 25 (0, 0))) ∧ Aside0 (w'.heap[gb1194]? = some (.cells #[.int .i64 t1186, (.slice Ao41 t1187.length co41), (.slice Ao42 t1190.length co42)] 25 (0, 0))) ∧ Aside0 (Below w.heap.size w w'))
                case atStart => exact ⟨(0), (by first | rfl | (simp; done) | (simp [*]; done)), H', ⟨Nat.le_refl _⟩, ⟨by (with_reducible repeat (first | apply Kd.R_alloc | apply Kd.R_drewN | apply Kd.R_drew)); exact HO_1185001.out⟩, ⟨by (with_reducible repeat (first | apply Kd.N_alloc | apply Kd.N_drewN | apply Kd.N_drew)); exact HO_1185002.out⟩, ⟨by (with_reducible repeat (first | apply Kd.R_alloc | apply Kd.R_drewN | apply Kd.R_drew)); exact HO_1195001.out⟩, ⟨by (with_reducible repeat (first | apply Kd.N_alloc | apply Kd.N_drewN | apply Kd.N_drew)); exact HO_1195002.out⟩, ⟨by (with_reducible repeat (first | refine blk_drewN ?_ _ | refine blk_drew ?_ | refine blk_alloc ?_ _)); exact BK1172.out⟩, ⟨by (with_reducible repeat (first | refine blk_drewN ?_ _ | refine blk_drew ?_ | refine blk_alloc ?_ _)); exact BK1184.out⟩, ⟨by (with_reducible repeat (first | refine blk_drewN ?_ _ | refine blk_drew ?_ | refine blk_alloc ?_ _)); exact BK1194.out⟩, ⟨by repeat (first | (with_reducible first | exact HB.out | apply below_alloc | apply pw_below_drewN | apply below_drew1 | refine below_set ?_ GE1172.out | refine below_set ?_ GE1184.out | refine below_set ?_ GE1194.out) | exact HB.out)⟩⟩
                case round =>
                  clear H'
                  try clear c1
                  try clear c2
                  try clear p2
                  try clear c3
                  try clear c4
                  try clear c7
                  try clear c12
                  try clear c13
                  try clear c13b0
                  try clear c13b1
                  try clear c14
                  try clear c16
                  try clear c16b0
                  try clear c16b1
                  try clear c23
                  try clear c24
                  try clear c25
                  try clear c27
                  try clear c30
                  try clear c38
                  try clear c39
                  try clear c43
                  try clear c43b0
                  try clear c43b1
                  try clear c44
                  try clear c45
                  try clear c46
                  try clear hcz14_0
                  try clear hcz14_1
                  try clear hcz14_2
                  try clear hcz17_0
                  try clear hcz17_1
                  try clear hcz17_2
                  try clear hcz19_0
                  try clear hcz19_1
                  try clear hcz19_2
                  try clear hcz21_0
                  try clear hcz21_1
                  try clear hcz21_2
                  try clear hcz27_0
                  try clear hcz27_1
                  try clear hcz27_2
                  try clear hcz31_0
                  try clear hcz31_1
                  try clear hcz31_2
                  try clear hcz35_0
                  try clear hcz35_1
                  try clear hcz35_2
                  try clear hcz40_0
                  try clear hcz40_1
                  try clear hcz40_2
                  try clear hcz47_0
                  try clear hcz47_1
                  try clear hcz47_2
                  try clear hfz14_0
                  try clear hfz14_1
                  try clear hfz14_2
                  try clear hfz17_0
                  try clear hfz17_1
                  try clear hfz17_2
                  try clear hfz19_0
                  try clear hfz19_1
                  try clear hfz19_2
                  try clear hfz21_0
                  try clear hfz21_1
                  try clear hfz21_2
                  try clear hfz27_0
                  try clear hfz27_1
                  try clear hfz27_2
                  try clear hfz31_0
                  try clear hfz31_1
                  try clear hfz31_2
                  try clear hfz35_0
                  try clear hfz35_1
                  try clear hfz35_2
                  try clear hfz40_0
                  try clear hfz40_1
                  try clear hfz40_2
                  try clear hfz47_0
                  try clear hfz47_1
                  try clear hfz47_2
                  try clear p2
                  obtain ⟨x78_3, rfl, HA, HK3, HO_1185001, HO_1185002, HO_1195001, HO_1195002, BK1172, BK1184, BK1194, HB⟩ := hrel
                  cases gk with
                  | zero => exact absurd HA.out (by simp [cuvettelaw10_SlotsApart.l0])
                  | succ k3 =>
                    have H := HA.out
                    clear HA
                    simp only [cuvettelaw10_SlotsApart.l0] at H
                    by_cases c48 : x78_3 < (l0_1.length : Int)
                    · rw [if_pos c48] at H
                      have c48b0 : decide (x78_3 < (l0_1.length : Int)) = true := decide_eq_true c48
                      clear c48
                      by_cases c49 : 0 ≤ x78_3
                      · rw [if_pos c49] at H
                        have c49b0 : decide (0 ≤ x78_3) = true := decide_eq_true c49
                        clear c49
                        by_cases c50 : x78_3 < (l0_1.length : Int)
                        · rw [if_pos c50] at H
                          have c50b0 : decide (x78_3 < (l0_1.length : Int)) = true := decide_eq_true c50
                          clear c50
                          by_cases c51 : (rd l0_1 x78_3) = (-1)
                          · rw [if_pos c51] at H
                            have c51b0 : ((rd l0_1 x78_3) == (-1)) = true := beq_iff_eq.mpr c51
                            have c51b1 : ((rd l0_1 x78_3) != (-1)) = false := bne_eq_false_iff_eq.mpr c51
                            clear c51
                            have H' := Aside0.mk H
                            clear H
                            have p1195 : 0 ≤ (x78_3 : Int) := of_decide_eq_true (by first | (with_reducible assumption) | assumption)
                            have q1195 : x78_3 < (l0_1.length : Int) := of_decide_eq_true (by first | (with_reducible assumption) | assumption)
                            obtain ⟨ad1195, e1195, hx1195_0⟩ := Kd.at_int HR0_1.out x78_3 p1195 q1195
                            cases e1195
                            replace hx1195_0 := (HB.out.cell (World.block_lt_of_cell? w _ hx1195_0)).trans hx1195_0
                            replace p1195 := eq_true p1195
                            replace q1195 := eq_true q1195
                            try go_wp2
                            have n0_ := Aside0.mk (Kd.R_drew HO_1185001.out)
                            have n1_ := Aside0.mk (Kd.N_drew HO_1185002.out)
                            have n2_ := Aside0.mk (Kd.R_drew HO_1195001.out)
                            have n3_ := Aside0.mk (Kd.N_drew HO_1195002.out)
                            have n4_ := Aside0.mk (blk_drew BK1172.out)
                            have n5_ := Aside0.mk (blk_drew BK1184.out)
                            have n6_ := Aside0.mk (blk_drew BK1194.out)
                            have n7_ := Aside0.mk (below_drew1 HB.out)
                            clear HO_1185001
                            clear HO_1185002
                            clear HO_1195001
                            clear HO_1195002
                            clear BK1172
                            clear BK1184
                            clear BK1194
                            clear HB
                            have HO_1185001 := n0_
                            have HO_1185002 := n1_
                            have HO_1195001 := n2_
                            have HO_1195002 := n3_
                            have BK1172 := n4_
                            have BK1184 := n5_
                            have BK1194 := n6_
                            have HB := n7_
                            clear n0_ n1_ n2_ n3_ n4_ n5_ n6_ n7_
                            refine start_ (n := 30) (S := fun w' => True) (ds := []) #[false, false, false, false, false, false, false, false, false, false, false, false, false, false, false, false, false, false, false, false, false, false, false, false, false, false, false, false, false, false] (by kernel_rfl) rfl rfl trivial (fun hHeld => ?_); refine with_tabW cuvettelaw10_SlotsApart.tab13 cuvettelaw10_SlotsApart.bits13 (fun HT_ HW_ => ?_)
                            generalize wr.drew = w52 at HO_1185001 HO_1185002 HO_1195001 HO_1195002 BK1172 BK1184 BK1194 HB hHeld ⊢
                            refine pure_ (i := 0) (N := some 83) (v := ?_) (a' := ?_) #[true, false, false, false, false, false, false, false, false, false, false, false, false, false, false, false, false, false, false, false, false, false, false, false, false, false, false, false, false, false] rfl rfl (any_of HT_.out (by kernel_rfl)) (fun _ _ _ h => h) (Or.inl ⟨by rfl, ?_⟩) ?_ ?_
                            rotate_left
                            · intro w'
                              go_simp
                              with_reducible rfl
                            rotate_left
                            · simp only [Act.put, List.setIfInBounds_toArray, List.set_cons_zero, List.set_cons_succ, i64_w, i32_w]
                              rfl
                            refine pure_ (i := 1) (N := some 84) (v := ?_) (a' := ?_) #[true, true, false, false, false, false, false, false, false, false, false, false, false, false, false, false, false, false, false, false, false, false, false, false, false, false, false, false, false, false] rfl rfl (any_of HT_.out (by kernel_rfl)) (fun _ _ _ h => h) (Or.inl ⟨by rfl, ?_⟩) ?_ ?_
                            rotate_left
                            · intro w'
                              go_simp
                              with_reducible rfl
                            rotate_left
                            · simp only [Act.put, List.setIfInBounds_toArray, List.set_cons_zero, List.set_cons_succ, i64_w, i32_w]
                              rfl
                            refine pure_ (i := 2) (N := some 85) (v := ?_) (a' := ?_) #[true, true, true, false, false, false, false, false, false, false, false, false, false, false, false, false, false, false, false, false, false, false, false, false, false, false, false, false, false, false] rfl rfl (any_of HT_.out (by kernel_rfl)) (fun _ _ _ h => h) (Or.inl ⟨by rfl, ?_⟩) ?_ ?_
                            rotate_left
                            · intro w'
                              go_simp
                              with_reducible rfl
                            rotate_left
                            · simp only [Act.put, List.setIfInBounds_toArray, List.set_cons_zero, List.set_cons_succ, i64_w, i32_w]
                              rfl
                            refine pure_ (i := 3) (N := some 86) (v := undef) (a' := ?_) #[true, true, true, true, false, false, false, false, false, false, false, false, false, false, false, false, false, false, false, false, false, false, false, false, false, false, false, false, false, false] rfl rfl (any_of HT_.out (by kernel_rfl)) (fun _ _ _ h => h) (Or.inr ⟨by rfl, rfl⟩) ?_ ?_
                            rotate_left
                            · simp only [Act.put, List.setIfInBounds_toArray, List.set_cons_zero, List.set_cons_succ, i64_w, i32_w]
                              rfl
                            refine pure_ (i := 4) (N := some 87) (v := undef) (a' := ?_) #[true, true, true, true, true, false, false, false, false, false, false, false, false, false, false, false, false, false, false, false, false, false, false, false, false, false, false, false, false, false] rfl rfl (any_of HT_.out (by kernel_rfl)) (fun _ _ _ h => h) (Or.inr ⟨by rfl, rfl⟩) ?_ ?_
                            rotate_left
                            · simp only [Act.put, List.setIfInBounds_toArray, List.set_cons_zero, List.set_cons_succ, i64_w, i32_w]
                              rfl
                            refine pure_ (i := 5) (N := some 88) (v := undef) (a' := ?_) #[true, true, true, true, true, true, false, false, false, false, false, false, false, false, false, false, false, false, false, false, false, false, false, false, false, false, false, false, false, false] rfl rfl (any_of HT_.out (by kernel_rfl)) (fun _ _ _ h => h) (Or.inr ⟨by rfl, rfl⟩) ?_ ?_
                            rotate_left
                            · simp only [Act.put, List.setIfInBounds_toArray, List.set_cons_zero, List.set_cons_succ, i64_w, i32_w]
                              rfl
                            refine pure_ (i := 6) (N := some 89) (v := ?_) (a' := ?_) #[true, true, true, true, true, true, true, false, false, false, false, false, false, false, false, false, false, false, false, false, false, false, false, false, false, false, false, false, false, false] rfl rfl (any_of HT_.out (by kernel_rfl)) (fun _ _ _ h => h) (Or.inl ⟨by rfl, ?_⟩) ?_ ?_
                            rotate_left
                            · intro w'
                              go_simp
                              with_reducible rfl
                            rotate_left
                            · simp only [Act.put, List.setIfInBounds_toArray, List.set_cons_zero, List.set_cons_succ, i64_w, i32_w]
                              rfl
                            refine pure_ (i := 7) (N := some 90) (v := ?_) (a' := ?_) #[true, true, true, true, true, true, true, true, false, false, false, false, false, false, false, false, false, false, false, false, false, false, false, false, false, false, false, false, false, false] rfl rfl (any_of HT_.out (by kernel_rfl)) (fun _ _ _ h => h) (Or.inl ⟨by rfl, ?_⟩) ?_ ?_
                            rotate_left
                            · intro w'
                              go_simp
                              with_reducible rfl
                            rotate_left
                            · simp only [Act.put, List.setIfInBounds_toArray, List.set_cons_zero, List.set_cons_succ, i64_w, i32_w]
                              rfl
                            refine pure_ (i := 8) (N := some 91) (v := undef) (a' := ?_) #[true, true, true, true, true, true, true, true, true, false, false, false, false, false, false, false, false, false, false, false, false, false, false, false, false, false, false, false, false, false] rfl rfl (any_of HT_.out (by kernel_rfl)) (fun _ _ _ h => h) (Or.inr ⟨by rfl, rfl⟩) ?_ ?_
                            rotate_left
                            · simp only [Act.put, List.setIfInBounds_toArray, List.set_cons_zero, List.set_cons_succ, i64_w, i32_w]
                              rfl
                            refine pure_ (i := 9) (N := some 92) (v := undef) (a' := ?_) #[true, true, true, true, true, true, true, true, true, true, false, false, false, false, false, false, false, false, false, false, false, false, false, false, false, false, false, false, false, false] rfl rfl (any_of HT_.out (by kernel_rfl)) (fun _ _ _ h => h) (Or.inr ⟨by rfl, rfl⟩) ?_ ?_
                            rotate_left
                            · simp only [Act.put, List.setIfInBounds_toArray, List.set_cons_zero, List.set_cons_succ, i64_w, i32_w]
                              rfl
                            refine pure_ (i := 10) (N := some 93) (v := undef) (a' := ?_) #[true, true, true, true, true, true, true, true, true, true, true, false, false, false, false, false, false, false, false, false, false, false, false, false, false, false, false, false, false, false] rfl rfl (any_of HT_.out (by kernel_rfl)) (fun _ _ _ h => h) (Or.inr ⟨by rfl, rfl⟩) ?_ ?_
                            rotate_left
                            · simp only [Act.put, List.setIfInBounds_toArray, List.set_cons_zero, List.set_cons_succ, i64_w, i32_w]
                              rfl
                            refine pure_ (i := 11) (N := some 94) (v := undef) (a' := ?_) #[true, true, true, true, true, true, true, true, true, true, true, true, false, false, false, false, false, false, false, false, false, false, false, false, false, false, false, false, false, false] rfl rfl (any_of HT_.out (by kernel_rfl)) (fun _ _ _ h => h) (Or.inr ⟨by rfl, rfl⟩) ?_ ?_
                            rotate_left
                            · simp only [Act.put, List.setIfInBounds_toArray, List.set_cons_zero, List.set_cons_succ, i64_w, i32_w]
                              rfl
                            refine pure_ (i := 12) (N := some 95) (v := undef) (a' := ?_) #[true, true, true, true, true, true, true, true, true, true, true, true, true, false, false, false, false, false, false, false, false, false, false, false, false, false, false, false, false, false] rfl rfl (any_of HT_.out (by kernel_rfl)) (fun _ _ _ h => h) (Or.inr ⟨by rfl, rfl⟩) ?_ ?_
                            rotate_left
                            · simp only [Act.put, List.setIfInBounds_toArray, List.set_cons_zero, List.set_cons_succ, i64_w, i32_w]
                              rfl
                            refine pure_ (i := 13) (N := some 96) (v := undef) (a' := ?_) #[true, true, true, true, true, true, true, true, true, true, true, true, true, true, false, false, false, false, false, false, false, false, false, false, false, false, false, false, false, false] rfl rfl (any_of HT_.out (by kernel_rfl)) (fun _ _ _ h => h) (Or.inr ⟨by rfl, rfl⟩) ?_ ?_
                            rotate_left
                            · simp only [Act.put, List.setIfInBounds_toArray, List.set_cons_zero, List.set_cons_succ, i64_w, i32_w]
                              rfl
                            refine pure_ (i := 14) (N := some 97) (v := undef) (a' := ?_) #[true, true, true, true, true, true, true, true, true, true, true, true, true, true, true, false, false, false, false, false, false, false, false, false, false, false, false, false, false, false] rfl rfl (any_of HT_.out (by kernel_rfl)) (fun _ _ _ h => h) (Or.inr ⟨by rfl, rfl⟩) ?_ ?_
                            rotate_left
                            · simp only [Act.put, List.setIfInBounds_toArray, List.set_cons_zero, List.set_cons_succ, i64_w, i32_w]
                              rfl
                            refine pure_ (i := 15) (N := some 98) (v := undef) (a' := ?_) #[true, true, true, true, true, true, true, true, true, true, true, true, true, true, true, true, false, false, false, false, false, false, false, false, false, false, false, false, false, false] rfl rfl (any_of HT_.out (by kernel_rfl)) (fun _ _ _ h => h) (Or.inr ⟨by rfl, rfl⟩) ?_ ?_
                            rotate_left
                            · simp only [Act.put, List.setIfInBounds_toArray, List.set_cons_zero, List.set_cons_succ, i64_w, i32_w]
                              rfl
                            refine pure_ (i := 16) (N := some 99) (v := undef) (a' := ?_) #[true, true, true, true, true, true, true, true, true, true, true, true, true, true, true, true, true, false, false, false, false, false, false, false, false, false, false, false, false, false] rfl rfl (any_of HT_.out (by kernel_rfl)) (fun _ _ _ h => h) (Or.inr ⟨by rfl, rfl⟩) ?_ ?_
                            rotate_left
                            · simp only [Act.put, List.setIfInBounds_toArray, List.set_cons_zero, List.set_cons_succ, i64_w, i32_w]
                              rfl
                            refine pure_ (i := 17) (N := some 100) (v := undef) (a' := ?_) #[true, true, true, true, true, true, true, true, true, true, true, true, true, true, true, true, true, true, false, false, false, false, false, false, false, false, false, false, false, false] rfl rfl (any_of HT_.out (by kernel_rfl)) (fun _ _ _ h => h) (Or.inr ⟨by rfl, rfl⟩) ?_ ?_
                            rotate_left
                            · simp only [Act.put, List.setIfInBounds_toArray, List.set_cons_zero, List.set_cons_succ, i64_w, i32_w]
                              rfl
                            refine pure_ (i := 18) (N := some 101) (v := undef) (a' := ?_) #[true, true, true, true, true, true, true, true, true, true, true, true, true, true, true, true, true, true, true, false, false, false, false, false, false, false, false, false, false, false] rfl rfl (any_of HT_.out (by kernel_rfl)) (fun _ _ _ h => h) (Or.inr ⟨by rfl, rfl⟩) ?_ ?_
                            rotate_left
                            · simp only [Act.put, List.setIfInBounds_toArray, List.set_cons_zero, List.set_cons_succ, i64_w, i32_w]
                              rfl
                            refine pure_ (i := 19) (N := some 102) (v := undef) (a' := ?_) #[true, true, true, true, true, true, true, true, true, true, true, true, true, true, true, true, true, true, true, true, false, false, false, false, false, false, false, false, false, false] rfl rfl (any_of HT_.out (by kernel_rfl)) (fun _ _ _ h => h) (Or.inr ⟨by rfl, rfl⟩) ?_ ?_
                            rotate_left
                            · simp only [Act.put, List.setIfInBounds_toArray, List.set_cons_zero, List.set_cons_succ, i64_w, i32_w]
                              rfl
                            refine pure_ (i := 20) (N := some 103) (v := undef) (a' := ?_) #[true, true, true, true, true, true, true, true, true, true, true, true, true, true, true, true, true, true, true, true, true, false, false, false, false, false, false, false, false, false] rfl rfl (any_of HT_.out (by kernel_rfl)) (fun _ _ _ h => h) (Or.inr ⟨by rfl, rfl⟩) ?_ ?_
                            rotate_left
                            · simp only [Act.put, List.setIfInBounds_toArray, List.set_cons_zero, List.set_cons_succ, i64_w, i32_w]
                              rfl
                            refine pure_ (i := 21) (N := some 104) (v := undef) (a' := ?_) #[true, true, true, true, true, true, true, true, true, true, true, true, true, true, true, true, true, true, true, true, true, true, false, false, false, false, false, false, false, false] rfl rfl (any_of HT_.out (by kernel_rfl)) (fun _ _ _ h => h) (Or.inr ⟨by rfl, rfl⟩) ?_ ?_
                            rotate_left
                            · simp only [Act.put, List.setIfInBounds_toArray, List.set_cons_zero, List.set_cons_succ, i64_w, i32_w]
                              rfl
                            refine pure_ (i := 22) (N := some 105) (v := undef) (a' := ?_) #[true, true, true, true, true, true, true, true, true, true, true, true, true, true, true, true, true, true, true, true, true, true, true, false, false, false, false, false, false, false] rfl rfl (any_of HT_.out (by kernel_rfl)) (fun _ _ _ h => h) (Or.inr ⟨by rfl, rfl⟩) ?_ ?_
                            rotate_left
                            · simp only [Act.put, List.setIfInBounds_toArray, List.set_cons_zero, List.set_cons_succ, i64_w, i32_w]
                              rfl
                            refine pure_ (i := 23) (N := some 106) (v := undef) (a' := ?_) #[true, true, true, true, true, true, true, true, true, true, true, true, true, true, true, true, true, true, true, true, true, true, true, true, false, false, false, false, false, false] rfl rfl (any_of HT_.out (by kernel_rfl)) (fun _ _ _ h => h) (Or.inr ⟨by rfl, rfl⟩) ?_ ?_
                            rotate_left
                            · simp only [Act.put, List.setIfInBounds_toArray, List.set_cons_zero, List.set_cons_succ, i64_w, i32_w]
                              rfl
                            refine pure_ (i := 24) (N := some 107) (v := undef) (a' := ?_) #[true, true, true, true, true, true, true, true, true, true, true, true, true, true, true, true, true, true, true, true, true, true, true, true, true, false, false, false, false, false] rfl rfl (any_of HT_.out (by kernel_rfl)) (fun _ _ _ h => h) (Or.inr ⟨by rfl, rfl⟩) ?_ ?_
                            rotate_left
                            · simp only [Act.put, List.setIfInBounds_toArray, List.set_cons_zero, List.set_cons_succ, i64_w, i32_w]
                              rfl
                            refine pure_ (i := 25) (N := some 108) (v := undef) (a' := ?_) #[true, true, true, true, true, true, true, true, true, true, true, true, true, true, true, true, true, true, true, true, true, true, true, true, true, true, false, false, false, false] rfl rfl (any_of HT_.out (by kernel_rfl)) (fun _ _ _ h => h) (Or.inr ⟨by rfl, rfl⟩) ?_ ?_
                            rotate_left
                            · simp only [Act.put, List.setIfInBounds_toArray, List.set_cons_zero, List.set_cons_succ, i64_w, i32_w]
                              rfl
                            refine pure_ (i := 26) (N := some 109) (v := undef) (a' := ?_) #[true, true, true, true, true, true, true, true, true, true, true, true, true, true, true, true, true, true, true, true, true, true, true, true, true, true, true, false, false, false] rfl rfl (any_of HT_.out (by kernel_rfl)) (fun _ _ _ h => h) (Or.inr ⟨by rfl, rfl⟩) ?_ ?_
                            rotate_left
                            · simp only [Act.put, List.setIfInBounds_toArray, List.set_cons_zero, List.set_cons_succ, i64_w, i32_w]
                              rfl
                            refine pure_ (i := 27) (N := some 110) (v := undef) (a' := ?_) #[true, true, true, true, true, true, true, true, true, true, true, true, true, true, true, true, true, true, true, true, true, true, true, true, true, true, true, true, false, false] rfl rfl (any_of HT_.out (by kernel_rfl)) (fun _ _ _ h => h) (Or.inr ⟨by rfl, rfl⟩) ?_ ?_
                            rotate_left
                            · simp only [Act.put, List.setIfInBounds_toArray, List.set_cons_zero, List.set_cons_succ, i64_w, i32_w]
                              rfl
                            refine pure_ (i := 28) (N := some 111) (v := undef) (a' := ?_) #[true, true, true, true, true, true, true, true, true, true, true, true, true, true, true, true, true, true, true, true, true, true, true, true, true, true, true, true, true, false] rfl rfl (any_of HT_.out (by kernel_rfl)) (fun _ _ _ h => h) (Or.inr ⟨by rfl, rfl⟩) ?_ ?_
                            rotate_left
                            · simp only [Act.put, List.setIfInBounds_toArray, List.set_cons_zero, List.set_cons_succ, i64_w, i32_w]
                              rfl
                            refine pure_ (i := 29) (N := some 112) (v := ?_) (a' := ?_) #[true, true, true, true, true, true, true, true, true, true, true, true, true, true, true, true, true, true, true, true, true, true, true, true, true, true, true, true, true, true] rfl rfl (any_of HT_.out (by kernel_rfl)) (fun _ _ _ h => h) (Or.inl ⟨by rfl, ?_⟩) ?_ ?_
                            rotate_left
                            · intro w'
                              go_simp
                              with_reducible rfl
                            rotate_left
                            · simp only [Act.put, List.setIfInBounds_toArray, List.set_cons_zero, List.set_cons_succ, i64_w, i32_w]
                              rfl
                            refine done_ (done_of HT_.out (by kernel_rfl)) ?_
                            try go_wp2
                            go_roundg k3
                            case measure => have := HJ7.out; have := HJ25.out; have := HK3.out; omega
                            case rel => exact ⟨(wrap64 (x78_3 + 1)), (by first | rfl | (simp; done) | (simp [*]; done)), H', ⟨by have := HJ7.out; have := HJ25.out; have := HK3.out; omega⟩, ⟨by (with_reducible repeat (first | apply Kd.R_alloc | apply Kd.R_drewN | apply Kd.R_drew)); exact HO_1185001.out⟩, ⟨by (with_reducible repeat (first | apply Kd.N_alloc | apply Kd.N_drewN | apply Kd.N_drew)); exact HO_1185002.out⟩, ⟨by (with_reducible repeat (first | apply Kd.R_alloc | apply Kd.R_drewN | apply Kd.R_drew)); exact HO_1195001.out⟩, ⟨by (with_reducible repeat (first | apply Kd.N_alloc | apply Kd.N_drewN | apply Kd.N_drew)); exact HO_1195002.out⟩, ⟨by (with_reducible repeat (first | refine blk_drewN ?_ _ | refine blk_drew ?_ | refine blk_alloc ?_ _)); exact BK1172.out⟩, ⟨by (with_reducible repeat (first | refine blk_drewN ?_ _ | refine blk_drew ?_ | refine blk_alloc ?_ _)); exact BK1184.out⟩, ⟨by (with_reducible repeat (first | refine blk_drewN ?_ _ | refine blk_drew ?_ | refine blk_alloc ?_ _)); exact BK1194.out⟩, ⟨by repeat (first | (with_reducible first | exact HB.out | apply below_alloc | apply pw_below_drewN | apply below_drew1 | refine below_set ?_ GE1172.out | refine below_set ?_ GE1184.out | refine below_set ?_ GE1194.out) | exact HB.out)⟩⟩
                          · rw [if_neg c51] at H
                            have c51b0 : ((rd l0_1 x78_3) == (-1)) = false := beq_eq_false_iff_ne.mpr c51
                            have c51b1 : ((rd l0_1 x78_3) != (-1)) = true := bne_iff_ne.mpr c51
                            by_cases c53 : (rd l0_1 x78_3) = a1
                            · rw [if_pos c53] at H
                              have c53b0 : ((rd l0_1 x78_3) == a1) = true := beq_iff_eq.mpr c53
                              have c53b1 : ((rd l0_1 x78_3) != a1) = false := bne_eq_false_iff_eq.mpr c53
                              clear c53
                              have H' := Aside0.mk H
                              clear H
                              have p1195 : 0 ≤ (x78_3 : Int) := of_decide_eq_true (by first | (with_reducible assumption) | assumption)
                              have q1195 : x78_3 < (l0_1.length : Int) := of_decide_eq_true (by first | (with_reducible assumption) | assumption)
                              obtain ⟨ad1195, e1195, hx1195_0⟩ := Kd.at_int HR0_1.out x78_3 p1195 q1195
                              cases e1195
                              replace hx1195_0 := (HB.out.cell (World.block_lt_of_cell? w _ hx1195_0)).trans hx1195_0
                              replace p1195 := eq_true p1195
                              replace q1195 := eq_true q1195
                              try go_wp2
                              have n0_ := Aside0.mk (Kd.R_drew HO_1185001.out)
                              have n1_ := Aside0.mk (Kd.N_drew HO_1185002.out)
                              have n2_ := Aside0.mk (Kd.R_drew HO_1195001.out)
                              have n3_ := Aside0.mk (Kd.N_drew HO_1195002.out)
                              have n4_ := Aside0.mk (blk_drew BK1172.out)
                              have n5_ := Aside0.mk (blk_drew BK1184.out)
                              have n6_ := Aside0.mk (blk_drew BK1194.out)
                              have n7_ := Aside0.mk (below_drew1 HB.out)
                              clear HO_1185001
                              clear HO_1185002
                              clear HO_1195001
                              clear HO_1195002
                              clear BK1172
                              clear BK1184
                              clear BK1194
                              clear HB
                              have HO_1185001 := n0_
                              have HO_1185002 := n1_
                              have HO_1195001 := n2_
                              have HO_1195002 := n3_
                              have BK1172 := n4_
                              have BK1184 := n5_
                              have BK1194 := n6_
                              have HB := n7_
                              clear n0_ n1_ n2_ n3_ n4_ n5_ n6_ n7_
                              refine start_ (n := 30) (S := fun w' => True) (ds := []) #[false, false, false, false, false, false, false, false, false, false, false, false, false, false, false, false, false, false, false, false, false, false, false, false, false, false, false, false, false, false] (by kernel_rfl) rfl rfl trivial (fun hHeld => ?_); refine with_tabW cuvettelaw10_SlotsApart.tab13 cuvettelaw10_SlotsApart.bits13 (fun HT_ HW_ => ?_)
                              generalize wr.drew = w54 at HO_1185001 HO_1185002 HO_1195001 HO_1195002 BK1172 BK1184 BK1194 HB hHeld ⊢
                              refine pure_ (i := 0) (N := some 83) (v := ?_) (a' := ?_) #[true, false, false, false, false, false, false, false, false, false, false, false, false, false, false, false, false, false, false, false, false, false, false, false, false, false, false, false, false, false] rfl rfl (any_of HT_.out (by kernel_rfl)) (fun _ _ _ h => h) (Or.inl ⟨by rfl, ?_⟩) ?_ ?_
                              rotate_left
                              · intro w'
                                go_simp
                                with_reducible rfl
                              rotate_left
                              · simp only [Act.put, List.setIfInBounds_toArray, List.set_cons_zero, List.set_cons_succ, i64_w, i32_w]
                                rfl
                              refine pure_ (i := 1) (N := some 84) (v := ?_) (a' := ?_) #[true, true, false, false, false, false, false, false, false, false, false, false, false, false, false, false, false, false, false, false, false, false, false, false, false, false, false, false, false, false] rfl rfl (any_of HT_.out (by kernel_rfl)) (fun _ _ _ h => h) (Or.inl ⟨by rfl, ?_⟩) ?_ ?_
                              rotate_left
                              · intro w'
                                go_simp
                                with_reducible rfl
                              rotate_left
                              · simp only [Act.put, List.setIfInBounds_toArray, List.set_cons_zero, List.set_cons_succ, i64_w, i32_w]
                                rfl
                              refine pure_ (i := 2) (N := some 85) (v := ?_) (a' := ?_) #[true, true, true, false, false, false, false, false, false, false, false, false, false, false, false, false, false, false, false, false, false, false, false, false, false, false, false, false, false, false] rfl rfl (any_of HT_.out (by kernel_rfl)) (fun _ _ _ h => h) (Or.inl ⟨by rfl, ?_⟩) ?_ ?_
                              rotate_left
                              · intro w'
                                go_simp
                                with_reducible rfl
                              rotate_left
                              · simp only [Act.put, List.setIfInBounds_toArray, List.set_cons_zero, List.set_cons_succ, i64_w, i32_w]
                                rfl
                              refine pure_ (i := 3) (N := some 86) (v := ?_) (a' := ?_) #[true, true, true, true, false, false, false, false, false, false, false, false, false, false, false, false, false, false, false, false, false, false, false, false, false, false, false, false, false, false] rfl rfl (any_of HT_.out (by kernel_rfl)) (fun _ _ _ h => h) (Or.inl ⟨by rfl, ?_⟩) ?_ ?_
                              rotate_left
                              · intro w'
                                go_simp
                                with_reducible rfl
                              rotate_left
                              · simp only [Act.put, List.setIfInBounds_toArray, List.set_cons_zero, List.set_cons_succ, i64_w, i32_w]
                                rfl
                              refine pure_ (i := 4) (N := some 87) (v := ?_) (a' := ?_) #[true, true, true, true, true, false, false, false, false, false, false, false, false, false, false, false, false, false, false, false, false, false, false, false, false, false, false, false, false, false] rfl rfl (any_of HT_.out (by kernel_rfl)) (fun _ _ _ h => h) (Or.inl ⟨by rfl, ?_⟩) ?_ ?_
                              rotate_left
                              · intro w'
                                go_simp
                                with_reducible rfl
                              rotate_left
                              · simp only [Act.put, List.setIfInBounds_toArray, List.set_cons_zero, List.set_cons_succ, i64_w, i32_w]
                                rfl
                              refine pure_ (i := 5) (N := some 88) (v := ?_) (a' := ?_) #[true, true, true, true, true, true, false, false, false, false, false, false, false, false, false, false, false, false, false, false, false, false, false, false, false, false, false, false, false, false] rfl rfl (any_of HT_.out (by kernel_rfl)) (fun _ _ _ h => h) (Or.inl ⟨by rfl, ?_⟩) ?_ ?_
                              rotate_left
                              · intro w'
                                go_simp
                                with_reducible rfl
                              rotate_left
                              · simp only [Act.put, List.setIfInBounds_toArray, List.set_cons_zero, List.set_cons_succ, i64_w, i32_w]
                                rfl
                              refine pure_ (i := 6) (N := some 89) (v := ?_) (a' := ?_) #[true, true, true, true, true, true, true, false, false, false, false, false, false, false, false, false, false, false, false, false, false, false, false, false, false, false, false, false, false, false] rfl rfl (any_of HT_.out (by kernel_rfl)) (fun _ _ _ h => h) (Or.inl ⟨by rfl, ?_⟩) ?_ ?_
                              rotate_left
                              · intro w'
                                go_simp
                                with_reducible rfl
                              rotate_left
                              · simp only [Act.put, List.setIfInBounds_toArray, List.set_cons_zero, List.set_cons_succ, i64_w, i32_w]
                                rfl
                              refine pure_ (i := 7) (N := some 90) (v := ?_) (a' := ?_) #[true, true, true, true, true, true, true, true, false, false, false, false, false, false, false, false, false, false, false, false, false, false, false, false, false, false, false, false, false, false] rfl rfl (any_of HT_.out (by kernel_rfl)) (fun _ _ _ h => h) (Or.inl ⟨by rfl, ?_⟩) ?_ ?_
                              rotate_left
                              · intro w'
                                go_simp
                                with_reducible rfl
                              rotate_left
                              · simp only [Act.put, List.setIfInBounds_toArray, List.set_cons_zero, List.set_cons_succ, i64_w, i32_w]
                                rfl
                              refine pure_ (i := 8) (N := some 91) (v := undef) (a' := ?_) #[true, true, true, true, true, true, true, true, true, false, false, false, false, false, false, false, false, false, false, false, false, false, false, false, false, false, false, false, false, false] rfl rfl (any_of HT_.out (by kernel_rfl)) (fun _ _ _ h => h) (Or.inr ⟨by rfl, rfl⟩) ?_ ?_
                              rotate_left
                              · simp only [Act.put, List.setIfInBounds_toArray, List.set_cons_zero, List.set_cons_succ, i64_w, i32_w]
                                rfl
                              refine pure_ (i := 9) (N := some 92) (v := undef) (a' := ?_) #[true, true, true, true, true, true, true, true, true, true, false, false, false, false, false, false, false, false, false, false, false, false, false, false, false, false, false, false, false, false] rfl rfl (any_of HT_.out (by kernel_rfl)) (fun _ _ _ h => h) (Or.inr ⟨by rfl, rfl⟩) ?_ ?_
                              rotate_left
                              · simp only [Act.put, List.setIfInBounds_toArray, List.set_cons_zero, List.set_cons_succ, i64_w, i32_w]
                                rfl
                              refine pure_ (i := 10) (N := some 93) (v := undef) (a' := ?_) #[true, true, true, true, true, true, true, true, true, true, true, false, false, false, false, false, false, false, false, false, false, false, false, false, false, false, false, false, false, false] rfl rfl (any_of HT_.out (by kernel_rfl)) (fun _ _ _ h => h) (Or.inr ⟨by rfl, rfl⟩) ?_ ?_
                              rotate_left
                              · simp only [Act.put, List.setIfInBounds_toArray, List.set_cons_zero, List.set_cons_succ, i64_w, i32_w]
                                rfl
                              refine pure_ (i := 11) (N := some 94) (v := undef) (a' := ?_) #[true, true, true, true, true, true, true, true, true, true, true, true, false, false, false, false, false, false, false, false, false, false, false, false, false, false, false, false, false, false] rfl rfl (any_of HT_.out (by kernel_rfl)) (fun _ _ _ h => h) (Or.inr ⟨by rfl, rfl⟩) ?_ ?_
                              rotate_left
                              · simp only [Act.put, List.setIfInBounds_toArray, List.set_cons_zero, List.set_cons_succ, i64_w, i32_w]
                                rfl
                              refine pure_ (i := 12) (N := some 95) (v := undef) (a' := ?_) #[true, true, true, true, true, true, true, true, true, true, true, true, true, false, false, false, false, false, false, false, false, false, false, false, false, false, false, false, false, false] rfl rfl (any_of HT_.out (by kernel_rfl)) (fun _ _ _ h => h) (Or.inr ⟨by rfl, rfl⟩) ?_ ?_
                              rotate_left
                              · simp only [Act.put, List.setIfInBounds_toArray, List.set_cons_zero, List.set_cons_succ, i64_w, i32_w]
                                rfl
                              refine pure_ (i := 13) (N := some 96) (v := undef) (a' := ?_) #[true, true, true, true, true, true, true, true, true, true, true, true, true, true, false, false, false, false, false, false, false, false, false, false, false, false, false, false, false, false] rfl rfl (any_of HT_.out (by kernel_rfl)) (fun _ _ _ h => h) (Or.inr ⟨by rfl, rfl⟩) ?_ ?_
                              rotate_left
                              · simp only [Act.put, List.setIfInBounds_toArray, List.set_cons_zero, List.set_cons_succ, i64_w, i32_w]
                                rfl
                              refine pure_ (i := 14) (N := some 97) (v := undef) (a' := ?_) #[true, true, true, true, true, true, true, true, true, true, true, true, true, true, true, false, false, false, false, false, false, false, false, false, false, false, false, false, false, false] rfl rfl (any_of HT_.out (by kernel_rfl)) (fun _ _ _ h => h) (Or.inr ⟨by rfl, rfl⟩) ?_ ?_
                              rotate_left
                              · simp only [Act.put, List.setIfInBounds_toArray, List.set_cons_zero, List.set_cons_succ, i64_w, i32_w]
                                rfl
                              refine pure_ (i := 15) (N := some 98) (v := undef) (a' := ?_) #[true, true, true, true, true, true, true, true, true, true, true, true, true, true, true, true, false, false, false, false, false, false, false, false, false, false, false, false, false, false] rfl rfl (any_of HT_.out (by kernel_rfl)) (fun _ _ _ h => h) (Or.inr ⟨by rfl, rfl⟩) ?_ ?_
                              rotate_left
                              · simp only [Act.put, List.setIfInBounds_toArray, List.set_cons_zero, List.set_cons_succ, i64_w, i32_w]
                                rfl
                              refine pure_ (i := 16) (N := some 99) (v := undef) (a' := ?_) #[true, true, true, true, true, true, true, true, true, true, true, true, true, true, true, true, true, false, false, false, false, false, false, false, false, false, false, false, false, false] rfl rfl (any_of HT_.out (by kernel_rfl)) (fun _ _ _ h => h) (Or.inr ⟨by rfl, rfl⟩) ?_ ?_
                              rotate_left
                              · simp only [Act.put, List.setIfInBounds_toArray, List.set_cons_zero, List.set_cons_succ, i64_w, i32_w]
                                rfl
                              refine pure_ (i := 17) (N := some 100) (v := undef) (a' := ?_) #[true, true, true, true, true, true, true, true, true, true, true, true, true, true, true, true, true, true, false, false, false, false, false, false, false, false, false, false, false, false] rfl rfl (any_of HT_.out (by kernel_rfl)) (fun _ _ _ h => h) (Or.inr ⟨by rfl, rfl⟩) ?_ ?_
                              rotate_left
                              · simp only [Act.put, List.setIfInBounds_toArray, List.set_cons_zero, List.set_cons_succ, i64_w, i32_w]
                                rfl
                              refine pure_ (i := 18) (N := some 101) (v := undef) (a' := ?_) #[true, true, true, true, true, true, true, true, true, true, true, true, true, true, true, true, true, true, true, false, false, false, false, false, false, false, false, false, false, false] rfl rfl (any_of HT_.out (by kernel_rfl)) (fun _ _ _ h => h) (Or.inr ⟨by rfl, rfl⟩) ?_ ?_
                              rotate_left
                              · simp only [Act.put, List.setIfInBounds_toArray, List.set_cons_zero, List.set_cons_succ, i64_w, i32_w]
                                rfl
                              refine pure_ (i := 19) (N := some 102) (v := undef) (a' := ?_) #[true, true, true, true, true, true, true, true, true, true, true, true, true, true, true, true, true, true, true, true, false, false, false, false, false, false, false, false, false, false] rfl rfl (any_of HT_.out (by kernel_rfl)) (fun _ _ _ h => h) (Or.inr ⟨by rfl, rfl⟩) ?_ ?_
                              rotate_left
                              · simp only [Act.put, List.setIfInBounds_toArray, List.set_cons_zero, List.set_cons_succ, i64_w, i32_w]
                                rfl
                              refine pure_ (i := 20) (N := some 103) (v := undef) (a' := ?_) #[true, true, true, true, true, true, true, true, true, true, true, true, true, true, true, true, true, true, true, true, true, false, false, false, false, false, false, false, false, false] rfl rfl (any_of HT_.out (by kernel_rfl)) (fun _ _ _ h => h) (Or.inr ⟨by rfl, rfl⟩) ?_ ?_
                              rotate_left
                              · simp only [Act.put, List.setIfInBounds_toArray, List.set_cons_zero, List.set_cons_succ, i64_w, i32_w]
                                rfl
                              refine pure_ (i := 21) (N := some 104) (v := undef) (a' := ?_) #[true, true, true, true, true, true, true, true, true, true, true, true, true, true, true, true, true, true, true, true, true, true, false, false, false, false, false, false, false, false] rfl rfl (any_of HT_.out (by kernel_rfl)) (fun _ _ _ h => h) (Or.inr ⟨by rfl, rfl⟩) ?_ ?_
                              rotate_left
                              · simp only [Act.put, List.setIfInBounds_toArray, List.set_cons_zero, List.set_cons_succ, i64_w, i32_w]
                                rfl
                              refine pure_ (i := 22) (N := some 105) (v := undef) (a' := ?_) #[true, true, true, true, true, true, true, true, true, true, true, true, true, true, true, true, true, true, true, true, true, true, true, false, false, false, false, false, false, false] rfl rfl (any_of HT_.out (by kernel_rfl)) (fun _ _ _ h => h) (Or.inr ⟨by rfl, rfl⟩) ?_ ?_
                              rotate_left
                              · simp only [Act.put, List.setIfInBounds_toArray, List.set_cons_zero, List.set_cons_succ, i64_w, i32_w]
                                rfl
                              refine pure_ (i := 23) (N := some 106) (v := undef) (a' := ?_) #[true, true, true, true, true, true, true, true, true, true, true, true, true, true, true, true, true, true, true, true, true, true, true, true, false, false, false, false, false, false] rfl rfl (any_of HT_.out (by kernel_rfl)) (fun _ _ _ h => h) (Or.inr ⟨by rfl, rfl⟩) ?_ ?_
                              rotate_left
                              · simp only [Act.put, List.setIfInBounds_toArray, List.set_cons_zero, List.set_cons_succ, i64_w, i32_w]
                                rfl
                              refine pure_ (i := 24) (N := some 107) (v := undef) (a' := ?_) #[true, true, true, true, true, true, true, true, true, true, true, true, true, true, true, true, true, true, true, true, true, true, true, true, true, false, false, false, false, false] rfl rfl (any_of HT_.out (by kernel_rfl)) (fun _ _ _ h => h) (Or.inr ⟨by rfl, rfl⟩) ?_ ?_
                              rotate_left
                              · simp only [Act.put, List.setIfInBounds_toArray, List.set_cons_zero, List.set_cons_succ, i64_w, i32_w]
                                rfl
                              refine pure_ (i := 25) (N := some 108) (v := undef) (a' := ?_) #[true, true, true, true, true, true, true, true, true, true, true, true, true, true, true, true, true, true, true, true, true, true, true, true, true, true, false, false, false, false] rfl rfl (any_of HT_.out (by kernel_rfl)) (fun _ _ _ h => h) (Or.inr ⟨by rfl, rfl⟩) ?_ ?_
                              rotate_left
                              · simp only [Act.put, List.setIfInBounds_toArray, List.set_cons_zero, List.set_cons_succ, i64_w, i32_w]
                                rfl
                              refine pure_ (i := 26) (N := some 109) (v := undef) (a' := ?_) #[true, true, true, true, true, true, true, true, true, true, true, true, true, true, true, true, true, true, true, true, true, true, true, true, true, true, true, false, false, false] rfl rfl (any_of HT_.out (by kernel_rfl)) (fun _ _ _ h => h) (Or.inr ⟨by rfl, rfl⟩) ?_ ?_
                              rotate_left
                              · simp only [Act.put, List.setIfInBounds_toArray, List.set_cons_zero, List.set_cons_succ, i64_w, i32_w]
                                rfl
                              refine pure_ (i := 27) (N := some 110) (v := undef) (a' := ?_) #[true, true, true, true, true, true, true, true, true, true, true, true, true, true, true, true, true, true, true, true, true, true, true, true, true, true, true, true, false, false] rfl rfl (any_of HT_.out (by kernel_rfl)) (fun _ _ _ h => h) (Or.inr ⟨by rfl, rfl⟩) ?_ ?_
                              rotate_left
                              · simp only [Act.put, List.setIfInBounds_toArray, List.set_cons_zero, List.set_cons_succ, i64_w, i32_w]
                                rfl
                              refine pure_ (i := 28) (N := some 111) (v := undef) (a' := ?_) #[true, true, true, true, true, true, true, true, true, true, true, true, true, true, true, true, true, true, true, true, true, true, true, true, true, true, true, true, true, false] rfl rfl (any_of HT_.out (by kernel_rfl)) (fun _ _ _ h => h) (Or.inr ⟨by rfl, rfl⟩) ?_ ?_
                              rotate_left
                              · simp only [Act.put, List.setIfInBounds_toArray, List.set_cons_zero, List.set_cons_succ, i64_w, i32_w]
                                rfl
                              refine pure_ (i := 29) (N := some 112) (v := ?_) (a' := ?_) #[true, true, true, true, true, true, true, true, true, true, true, true, true, true, true, true, true, true, true, true, true, true, true, true, true, true, true, true, true, true] rfl rfl (any_of HT_.out (by kernel_rfl)) (fun _ _ _ h => h) (Or.inl ⟨by rfl, ?_⟩) ?_ ?_
                              rotate_left
                              · intro w'
                                go_simp
                                with_reducible rfl
                              rotate_left
                              · simp only [Act.put, List.setIfInBounds_toArray, List.set_cons_zero, List.set_cons_succ, i64_w, i32_w]
                                rfl
                              refine done_ (done_of HT_.out (by kernel_rfl)) ?_
                              try go_wp2
                              go_roundg k3
                              case measure => have := HJ7.out; have := HJ25.out; have := HK3.out; omega
                              case rel => exact ⟨(wrap64 (x78_3 + 1)), (by first | rfl | (simp; done) | (simp [*]; done)), H', ⟨by have := HJ7.out; have := HJ25.out; have := HK3.out; omega⟩, ⟨by (with_reducible repeat (first | apply Kd.R_alloc | apply Kd.R_drewN | apply Kd.R_drew)); exact HO_1185001.out⟩, ⟨by (with_reducible repeat (first | apply Kd.N_alloc | apply Kd.N_drewN | apply Kd.N_drew)); exact HO_1185002.out⟩, ⟨by (with_reducible repeat (first | apply Kd.R_alloc | apply Kd.R_drewN | apply Kd.R_drew)); exact HO_1195001.out⟩, ⟨by (with_reducible repeat (first | apply Kd.N_alloc | apply Kd.N_drewN | apply Kd.N_drew)); exact HO_1195002.out⟩, ⟨by (with_reducible repeat (first | refine blk_drewN ?_ _ | refine blk_drew ?_ | refine blk_alloc ?_ _)); exact BK1172.out⟩, ⟨by (with_reducible repeat (first | refine blk_drewN ?_ _ | refine blk_drew ?_ | refine blk_alloc ?_ _)); exact BK1184.out⟩, ⟨by (with_reducible repeat (first | refine blk_drewN ?_ _ | refine blk_drew ?_ | refine blk_alloc ?_ _)); exact BK1194.out⟩, ⟨by repeat (first | (with_reducible first | exact HB.out | apply below_alloc | apply pw_below_drewN | apply below_drew1 | refine below_set ?_ GE1172.out | refine below_set ?_ GE1184.out | refine below_set ?_ GE1194.out) | exact HB.out)⟩⟩
                            · rw [if_neg c53] at H
                              have c53b0 : ((rd l0_1 x78_3) == a1) = false := beq_eq_false_iff_ne.mpr c53
                              have c53b1 : ((rd l0_1 x78_3) != a1) = true := bne_iff_ne.mpr c53
                              by_cases c55 : x78_3 < (t1177.length : Int)
                              · rw [if_pos c55] at H
                                have c55b0 : decide (x78_3 < (t1177.length : Int)) = true := decide_eq_true c55
                                clear c55
                                by_cases c56 : (rd t1177 x78_3) = (rd l0_1 x78_3)
                                · rw [if_pos c56] at H
                                  have c56b0 : ((rd t1177 x78_3) == (rd l0_1 x78_3)) = true := beq_iff_eq.mpr c56
                                  have c56b1 : ((rd t1177 x78_3) != (rd l0_1 x78_3)) = false := bne_eq_false_iff_eq.mpr c56
                                  clear c56
                                  by_cases c57 : x78_3 < (t1180.length : Int)
                                  · rw [if_pos c57] at H
                                    have c57b0 : decide (x78_3 < (t1180.length : Int)) = true := decide_eq_true c57
                                    clear c57
                                    by_cases c58 : x78_3 < (l0_2.length : Int)
                                    · rw [if_pos c58] at H
                                      have c58b0 : decide (x78_3 < (l0_2.length : Int)) = true := decide_eq_true c58
                                      clear c58
                                      replace H := Option.bind_eq_some_iff.mp H
                                      obtain ⟨t1199, A590, H⟩ := H
                                      replace H : (if t1199 = true then (cuvettelaw10_SlotsApart.l0 k3 a1 a2 l3 l4 true l0_1 (l0_1.length : Int) (wrap64 (x78_3 + 1)) a0_0 l0_1 l0_2 t1176 t1177 t1180 t1186 t1187 t1190) else (some false)) = some r := H
                                      have A59 := Aside0.mk A590
                                      clear A590
                                      by_cases c60 : t1199 = true
                                      · subst c60
                                        have H1 : (cuvettelaw10_SlotsApart.l0 k3 a1 a2 l3 l4 true l0_1 (l0_1.length : Int) (wrap64 (x78_3 + 1)) a0_0 l0_1 l0_2 t1176 t1177 t1180 t1186 t1187 t1190) = some r := by rw [if_pos rfl] at H; exact H
                                        clear H
                                        have H := H1
                                        clear H1
                                        have H' := Aside0.mk H
                                        clear H
                                        have p1195 : 0 ≤ (x78_3 : Int) := of_decide_eq_true (by first | (with_reducible assumption) | assumption)
                                        have q1195 : x78_3 < (l0_1.length : Int) := of_decide_eq_true (by first | (with_reducible assumption) | assumption)
                                        obtain ⟨ad1195, e1195, hx1195_0⟩ := Kd.at_int HR0_1.out x78_3 p1195 q1195
                                        cases e1195
                                        replace hx1195_0 := (HB.out.cell (World.block_lt_of_cell? w _ hx1195_0)).trans hx1195_0
                                        replace p1195 := eq_true p1195
                                        replace q1195 := eq_true q1195
                                        try go_wp2
                                        have n0_ := Aside0.mk (Kd.R_drew HO_1185001.out)
                                        have n1_ := Aside0.mk (Kd.N_drew HO_1185002.out)
                                        have n2_ := Aside0.mk (Kd.R_drew HO_1195001.out)
                                        have n3_ := Aside0.mk (Kd.N_drew HO_1195002.out)
                                        have n4_ := Aside0.mk (blk_drew BK1172.out)
                                        have n5_ := Aside0.mk (blk_drew BK1184.out)
                                        have n6_ := Aside0.mk (blk_drew BK1194.out)
                                        have n7_ := Aside0.mk (below_drew1 HB.out)
                                        clear HO_1185001
                                        clear HO_1185002
                                        clear HO_1195001
                                        clear HO_1195002
                                        clear BK1172
                                        clear BK1184
                                        clear BK1194
                                        clear HB
                                        have HO_1185001 := n0_
                                        have HO_1185002 := n1_
                                        have HO_1195001 := n2_
                                        have HO_1195002 := n3_
                                        have BK1172 := n4_
                                        have BK1184 := n5_
                                        have BK1194 := n6_
                                        have HB := n7_
                                        clear n0_ n1_ n2_ n3_ n4_ n5_ n6_ n7_
                                        have p1196 : 0 ≤ (x78_3 : Int) := of_decide_eq_true (by first | (with_reducible assumption) | assumption)
                                        have q1196 : x78_3 < (t1177.length : Int) := of_decide_eq_true (by first | (with_reducible assumption) | assumption)
                                        obtain ⟨ad1196, e1196, hx1196_0⟩ := Kd.at_int (Kd.R_reads' HO_1185001.out).2.2 x78_3 p1196 q1196
                                        cases e1196
                                        replace p1196 := eq_true p1196
                                        replace q1196 := eq_true q1196
                                        have p1197 : 0 ≤ (x78_3 : Int) := of_decide_eq_true (by first | (with_reducible assumption) | assumption)
                                        have q1197 : x78_3 < (t1180.length : Int) := of_decide_eq_true (by first | (with_reducible assumption) | assumption)
                                        obtain ⟨ad1197, A1197_0, c1197_0, e1197, hx1197_0, hl1197_0, hi1197_0⟩ := at_L3 (Kd.N_reads' HO_1185002.out).2.2 x78_3 p1197 q1197
                                        cases e1197
                                        obtain ⟨ce1197, hce1197, hMe1197, hcc1197⟩ := Kd.N_get HO_1185002.out [] x78_3 p1197 (by first | exact q1197 | exact of_decide_eq_true (by first | (with_reducible assumption) | assumption) | (have e_ := (Kd.N_reads' HO_1185002.out).1; omega))
                                        obtain ⟨ua1197_0, uc1197_0, rfl, ul1197_0, ge1197_0⟩ := Kd.FK_slice_open hMe1197
                                        have hv1197_0 := hcc1197 0 _ rfl
                                        rw [Nat.add_zero, show ((Kd.slice 74 (Kd.int .i16))).sz = 1 from rfl, Nat.mul_one] at hv1197_0
                                        replace hv1197_0 := Option.some.inj (hv1197_0.symm.trans hx1197_0)
                                        injection hv1197_0 with hva_ hvn_ hvc_
                                        rw [hva_] at ge1197_0
                                        rw [hvc_] at ul1197_0
                                        have HL1197_0 := Aside0.mk (show Kd.V (Kd.int .i16) 74 _ w.heap.size _ _ (rd_L3 t1180 x78_3) from Kd.V_mk ul1197_0 ge1197_0)
                                        clear hva_ hvn_ hvc_ ge1197_0 ul1197_0
                                        clear hcc1197 hce1197
                                        have HR1197_0 := Aside0.mk hi1197_0
                                        have HC1197_0 := Aside0.mk hl1197_0
                                        clear hi1197_0 hl1197_0
                                        replace p1197 := eq_true p1197
                                        replace q1197 := eq_true q1197
                                        have p1198 : 0 ≤ (x78_3 : Int) := of_decide_eq_true (by first | (with_reducible assumption) | assumption)
                                        have q1198 : x78_3 < (l0_2.length : Int) := of_decide_eq_true (by first | (with_reducible assumption) | assumption)
                                        obtain ⟨ad1198, A1198_0, c1198_0, e1198, hx1198_0, hl1198_0, hi1198_0⟩ := at_L3 HR0_2.out x78_3 p1198 q1198
                                        have hw1198_0 := hx1198_0
                                        cases e1198
                                        replace hx1198_0 := (HB.out.cell (World.block_lt_of_cell? w _ hx1198_0)).trans hx1198_0
                                        have HR1198_0 := Aside0.mk hi1198_0
                                        have HC1198_0 := Aside0.mk hl1198_0
                                        clear hi1198_0 hl1198_0
                                        replace p1198 := eq_true p1198
                                        replace q1198 := eq_true q1198
                                        refine start_ (n := 30) (S := fun w' => w'.cell? ⟨gb1184, 0, none⟩ = some (.int .i64 t1176) ∧ w'.cell? ⟨gb1184, 1, none⟩ = some (.slice (some ad1196) t1177.length co32) ∧ w'.cell? ⟨gb1184, 2, none⟩ = some (.slice (some ad1197) t1180.length co33) ∧ w'.cell? ⟨gb1172, 0, none⟩ = some (.int .i64 a0_0) ∧ w'.cell? ⟨gb1172, 1, none⟩ = some (.slice (some ad1195) l0_1.length c0_1) ∧ w'.cell? ⟨gb1172, 2, none⟩ = some (.slice (some ad1198) l0_2.length c0_2) ∧ w'.cell? (ad1196.add (x78_3).toNat) = some (.int .i64 (rd t1177 x78_3)) ∧ w'.cell? (ad1197.add (x78_3).toNat) = some (.slice A1197_0 (rd_L3 t1180 x78_3).length c1197_0) ∧ w'.cell? (ad1198.add (x78_3).toNat) = some (.slice A1198_0 (rd_L3 l0_2 x78_3).length c1198_0)) (ds := []) #[false, false, false, false, false, false, false, false, false, false, false, false, false, false, false, false, false, false, false, false, false, false, false, false, false, false, false, false, false, false] (by kernel_rfl) rfl rfl ⟨(blk_cell BK1184.out 0).trans rfl, (blk_cell BK1184.out 1).trans rfl, (blk_cell BK1184.out 2).trans rfl, (blk_cell BK1172.out 0).trans rfl, (blk_cell BK1172.out 1).trans rfl, (blk_cell BK1172.out 2).trans rfl, hx1196_0, hx1197_0, ((HB.out.cell (World.block_lt_of_cell? w _ hw1198_0)).trans hw1198_0)⟩ (fun hHeld => ?_); refine with_tabW cuvettelaw10_SlotsApart.tab13 cuvettelaw10_SlotsApart.bits13 (fun HT_ HW_ => ?_)
                                        generalize wr.drew = w61 at HO_1185001 HO_1185002 HO_1195001 HO_1195002 BK1172 BK1184 BK1194 HB HL1197_0 HR1197_0 HR1198_0 hx1196_0 hx1197_0 hx1198_0 hHeld ⊢
                                        refine pure_ (i := 0) (N := some 83) (v := ?_) (a' := ?_) #[true, false, false, false, false, false, false, false, false, false, false, false, false, false, false, false, false, false, false, false, false, false, false, false, false, false, false, false, false, false] rfl rfl (any_of HT_.out (by kernel_rfl)) (fun _ _ _ h => h) (Or.inl ⟨by rfl, ?_⟩) ?_ ?_
                                        rotate_left
                                        · intro w'
                                          go_simp
                                          with_reducible rfl
                                        rotate_left
                                        · simp only [Act.put, List.setIfInBounds_toArray, List.set_cons_zero, List.set_cons_succ, i64_w, i32_w]
                                          rfl
                                        refine pure_ (i := 1) (N := some 84) (v := ?_) (a' := ?_) #[true, true, false, false, false, false, false, false, false, false, false, false, false, false, false, false, false, false, false, false, false, false, false, false, false, false, false, false, false, false] rfl rfl (any_of HT_.out (by kernel_rfl)) (fun _ _ _ h => h) (Or.inl ⟨by rfl, ?_⟩) ?_ ?_
                                        rotate_left
                                        · intro w'
                                          go_simp
                                          with_reducible rfl
                                        rotate_left
                                        · simp only [Act.put, List.setIfInBounds_toArray, List.set_cons_zero, List.set_cons_succ, i64_w, i32_w]
                                          rfl
                                        refine pure_ (i := 2) (N := some 85) (v := ?_) (a' := ?_) #[true, true, true, false, false, false, false, false, false, false, false, false, false, false, false, false, false, false, false, false, false, false, false, false, false, false, false, false, false, false] rfl rfl (any_of HT_.out (by kernel_rfl)) (fun _ _ _ h => h) (Or.inl ⟨by rfl, ?_⟩) ?_ ?_
                                        rotate_left
                                        · intro w'
                                          go_simp
                                          with_reducible rfl
                                        rotate_left
                                        · simp only [Act.put, List.setIfInBounds_toArray, List.set_cons_zero, List.set_cons_succ, i64_w, i32_w]
                                          rfl
                                        refine pure_ (i := 3) (N := some 86) (v := ?_) (a' := ?_) #[true, true, true, true, false, false, false, false, false, false, false, false, false, false, false, false, false, false, false, false, false, false, false, false, false, false, false, false, false, false] rfl rfl (any_of HT_.out (by kernel_rfl)) (fun _ _ _ h => h) (Or.inl ⟨by rfl, ?_⟩) ?_ ?_
                                        rotate_left
                                        · intro w'
                                          go_simp
                                          with_reducible rfl
                                        rotate_left
                                        · simp only [Act.put, List.setIfInBounds_toArray, List.set_cons_zero, List.set_cons_succ, i64_w, i32_w]
                                          rfl
                                        refine pure_ (i := 4) (N := some 87) (v := ?_) (a' := ?_) #[true, true, true, true, true, false, false, false, false, false, false, false, false, false, false, false, false, false, false, false, false, false, false, false, false, false, false, false, false, false] rfl rfl (any_of HT_.out (by kernel_rfl)) (fun _ _ _ h => h) (Or.inl ⟨by rfl, ?_⟩) ?_ ?_
                                        rotate_left
                                        · intro w'
                                          go_simp
                                          with_reducible rfl
                                        rotate_left
                                        · simp only [Act.put, List.setIfInBounds_toArray, List.set_cons_zero, List.set_cons_succ, i64_w, i32_w]
                                          rfl
                                        refine pure_ (i := 5) (N := some 88) (v := ?_) (a' := ?_) #[true, true, true, true, true, true, false, false, false, false, false, false, false, false, false, false, false, false, false, false, false, false, false, false, false, false, false, false, false, false] rfl rfl (any_of HT_.out (by kernel_rfl)) (fun _ _ _ h => h) (Or.inl ⟨by rfl, ?_⟩) ?_ ?_
                                        rotate_left
                                        · intro w'
                                          go_simp
                                          with_reducible rfl
                                        rotate_left
                                        · simp only [Act.put, List.setIfInBounds_toArray, List.set_cons_zero, List.set_cons_succ, i64_w, i32_w]
                                          rfl
                                        refine pure_ (i := 6) (N := some 89) (v := ?_) (a' := ?_) #[true, true, true, true, true, true, true, false, false, false, false, false, false, false, false, false, false, false, false, false, false, false, false, false, false, false, false, false, false, false] rfl rfl (any_of HT_.out (by kernel_rfl)) (fun _ _ _ h => h) (Or.inl ⟨by rfl, ?_⟩) ?_ ?_
                                        rotate_left
                                        · intro w'
                                          go_simp
                                          with_reducible rfl
                                        rotate_left
                                        · simp only [Act.put, List.setIfInBounds_toArray, List.set_cons_zero, List.set_cons_succ, i64_w, i32_w]
                                          rfl
                                        refine pure_ (i := 7) (N := some 90) (v := ?_) (a' := ?_) #[true, true, true, true, true, true, true, true, false, false, false, false, false, false, false, false, false, false, false, false, false, false, false, false, false, false, false, false, false, false] rfl rfl (any_of HT_.out (by kernel_rfl)) (fun _ _ _ h => h) (Or.inl ⟨by rfl, ?_⟩) ?_ ?_
                                        rotate_left
                                        · intro w'
                                          go_simp
                                          with_reducible rfl
                                        rotate_left
                                        · simp only [Act.put, List.setIfInBounds_toArray, List.set_cons_zero, List.set_cons_succ, i64_w, i32_w]
                                          rfl
                                        refine pure_ (i := 8) (N := some 91) (v := ?_) (a' := ?_) #[true, true, true, true, true, true, true, true, true, false, false, false, false, false, false, false, false, false, false, false, false, false, false, false, false, false, false, false, false, false] rfl rfl (any_of HT_.out (by kernel_rfl)) (fun _ _ _ h => h) (Or.inl ⟨by rfl, ?_⟩) ?_ ?_
                                        rotate_left
                                        · intro w'
                                          go_simp
                                          with_reducible rfl
                                        rotate_left
                                        · simp only [Act.put, List.setIfInBounds_toArray, List.set_cons_zero, List.set_cons_succ, i64_w, i32_w]
                                          rfl
                                        refine pure_ (i := 10) (N := some 93) (v := ?_) (a' := ?_) #[true, true, true, true, true, true, true, true, true, false, true, false, false, false, false, false, false, false, false, false, false, false, false, false, false, false, false, false, false, false] rfl rfl (any_of HT_.out (by kernel_rfl)) (fun _ _ _ h => h) (Or.inl ⟨by rfl, ?_⟩) ?_ ?_
                                        rotate_left
                                        · intro w'
                                          go_simp
                                          with_reducible rfl
                                        rotate_left
                                        · simp only [Act.put, List.setIfInBounds_toArray, List.set_cons_zero, List.set_cons_succ, i64_w, i32_w]
                                          rfl
                                        refine pure_ (i := 13) (N := some 96) (v := ?_) (a' := ?_) #[true, true, true, true, true, true, true, true, true, false, true, false, false, true, false, false, false, false, false, false, false, false, false, false, false, false, false, false, false, false] rfl rfl (any_of HT_.out (by kernel_rfl)) (fun _ _ _ h => h) (Or.inl ⟨by rfl, ?_⟩) ?_ ?_
                                        rotate_left
                                        · intro w'
                                          go_simp
                                          with_reducible rfl
                                        rotate_left
                                        · simp only [Act.put, List.setIfInBounds_toArray, List.set_cons_zero, List.set_cons_succ, i64_w, i32_w]
                                          rfl
                                        refine take_ (i := 9) (N := some 92) (v := ?_) (a' := ?_) #[true, true, true, true, true, true, true, true, true, true, true, false, false, true, false, false, false, false, false, false, false, false, false, false, false, false, false, false, false, false] rfl rfl (take_ofW HT_.out HW_.out (by kernel_rfl)) (fun _ _ _ h => h) (Or.inl ⟨by rfl, ?_⟩) hHeld ?_ ?_
                                        rotate_left
                                        · rintro w' ⟨s0, s1, s2, s3, s4, s5, s6, s7, s8⟩
                                          go_simp
                                          with_reducible rfl
                                        rotate_left
                                        · simp only [Act.put, List.setIfInBounds_toArray, List.set_cons_zero, List.set_cons_succ, i64_w, i32_w]
                                          rfl
                                        refine pure_ (i := 11) (N := some 94) (v := ?_) (a' := ?_) #[true, true, true, true, true, true, true, true, true, true, true, true, false, true, false, false, false, false, false, false, false, false, false, false, false, false, false, false, false, false] rfl rfl (any_of HT_.out (by kernel_rfl)) (fun _ _ _ h => h) (Or.inl ⟨by rfl, ?_⟩) ?_ ?_
                                        rotate_left
                                        · intro w'
                                          go_simp
                                          with_reducible rfl
                                        rotate_left
                                        · simp only [Act.put, List.setIfInBounds_toArray, List.set_cons_zero, List.set_cons_succ, i64_w, i32_w]
                                          rfl
                                        refine take_ (i := 12) (N := some 95) (v := ?_) (a' := ?_) #[true, true, true, true, true, true, true, true, true, true, true, true, true, true, false, false, false, false, false, false, false, false, false, false, false, false, false, false, false, false] rfl rfl (take_ofW HT_.out HW_.out (by kernel_rfl)) (fun _ _ _ h => h) (Or.inl ⟨by rfl, ?_⟩) hHeld ?_ ?_
                                        rotate_left
                                        · rintro w' ⟨s0, s1, s2, s3, s4, s5, s6, s7, s8⟩
                                          go_simp
                                          with_reducible rfl
                                        rotate_left
                                        · simp only [Act.put, List.setIfInBounds_toArray, List.set_cons_zero, List.set_cons_succ, i64_w, i32_w]
                                          rfl
                                        refine pure_ (i := 14) (N := some 97) (v := ?_) (a' := ?_) #[true, true, true, true, true, true, true, true, true, true, true, true, true, true, true, false, false, false, false, false, false, false, false, false, false, false, false, false, false, false] rfl rfl (any_of HT_.out (by kernel_rfl)) (fun _ _ _ h => h) (Or.inl ⟨by rfl, ?_⟩) ?_ ?_
                                        rotate_left
                                        · intro w'
                                          go_simp
                                          with_reducible rfl
                                        rotate_left
                                        · simp only [Act.put, List.setIfInBounds_toArray, List.set_cons_zero, List.set_cons_succ, i64_w, i32_w]
                                          rfl
                                        refine pure_ (i := 15) (N := some 98) (v := ?_) (a' := ?_) #[true, true, true, true, true, true, true, true, true, true, true, true, true, true, true, true, false, false, false, false, false, false, false, false, false, false, false, false, false, false] rfl rfl (any_of HT_.out (by kernel_rfl)) (fun _ _ _ h => h) (Or.inl ⟨by rfl, ?_⟩) ?_ ?_
                                        rotate_left
                                        · intro w'
                                          go_simp
                                          with_reducible rfl
                                        rotate_left
                                        · simp only [Act.put, List.setIfInBounds_toArray, List.set_cons_zero, List.set_cons_succ, i64_w, i32_w]
                                          rfl
                                        refine pure_ (i := 16) (N := some 99) (v := ?_) (a' := ?_) #[true, true, true, true, true, true, true, true, true, true, true, true, true, true, true, true, true, false, false, false, false, false, false, false, false, false, false, false, false, false] rfl rfl (any_of HT_.out (by kernel_rfl)) (fun _ _ _ h => h) (Or.inl ⟨by rfl, ?_⟩) ?_ ?_
                                        rotate_left
                                        · intro w'
                                          go_simp
                                          with_reducible rfl
                                        rotate_left
                                        · simp only [Act.put, List.setIfInBounds_toArray, List.set_cons_zero, List.set_cons_succ, i64_w, i32_w]
                                          rfl
                                        refine pure_ (i := 18) (N := some 101) (v := ?_) (a' := ?_) #[true, true, true, true, true, true, true, true, true, true, true, true, true, true, true, true, true, false, true, false, false, false, false, false, false, false, false, false, false, false] rfl rfl (any_of HT_.out (by kernel_rfl)) (fun _ _ _ h => h) (Or.inl ⟨by rfl, ?_⟩) ?_ ?_
                                        rotate_left
                                        · intro w'
                                          go_simp
                                          with_reducible rfl
                                        rotate_left
                                        · simp only [Act.put, List.setIfInBounds_toArray, List.set_cons_zero, List.set_cons_succ, i64_w, i32_w]
                                          rfl
                                        refine pure_ (i := 21) (N := some 104) (v := ?_) (a' := ?_) #[true, true, true, true, true, true, true, true, true, true, true, true, true, true, true, true, true, false, true, false, false, true, false, false, false, false, false, false, false, false] rfl rfl (any_of HT_.out (by kernel_rfl)) (fun _ _ _ h => h) (Or.inl ⟨by rfl, ?_⟩) ?_ ?_
                                        rotate_left
                                        · intro w'
                                          go_simp
                                          with_reducible rfl
                                        rotate_left
                                        · simp only [Act.put, List.setIfInBounds_toArray, List.set_cons_zero, List.set_cons_succ, i64_w, i32_w]
                                          rfl
                                        refine pure_ (i := 23) (N := some 106) (v := ?_) (a' := ?_) #[true, true, true, true, true, true, true, true, true, true, true, true, true, true, true, true, true, false, true, false, false, true, false, true, false, false, false, false, false, false] rfl rfl (any_of HT_.out (by kernel_rfl)) (fun _ _ _ h => h) (Or.inl ⟨by rfl, ?_⟩) ?_ ?_
                                        rotate_left
                                        · intro w'
                                          go_simp
                                          with_reducible rfl
                                        rotate_left
                                        · simp only [Act.put, List.setIfInBounds_toArray, List.set_cons_zero, List.set_cons_succ, i64_w, i32_w]
                                          rfl
                                        refine take_ (i := 17) (N := some 100) (v := ?_) (a' := ?_) #[true, true, true, true, true, true, true, true, true, true, true, true, true, true, true, true, true, true, true, false, false, true, false, true, false, false, false, false, false, false] rfl rfl (take_ofW HT_.out HW_.out (by kernel_rfl)) (fun _ _ _ h => h) (Or.inl ⟨by rfl, ?_⟩) hHeld ?_ ?_
                                        rotate_left
                                        · rintro w' ⟨s0, s1, s2, s3, s4, s5, s6, s7, s8⟩
                                          go_simp
                                          with_reducible rfl
                                        rotate_left
                                        · simp only [Act.put, List.setIfInBounds_toArray, List.set_cons_zero, List.set_cons_succ, i64_w, i32_w]
                                          rfl
                                        refine pure_ (i := 19) (N := some 102) (v := ?_) (a' := ?_) #[true, true, true, true, true, true, true, true, true, true, true, true, true, true, true, true, true, true, true, true, false, true, false, true, false, false, false, false, false, false] rfl rfl (any_of HT_.out (by kernel_rfl)) (fun _ _ _ h => h) (Or.inl ⟨by rfl, ?_⟩) ?_ ?_
                                        rotate_left
                                        · intro w'
                                          go_simp
                                          with_reducible rfl
                                        rotate_left
                                        · simp only [Act.put, List.setIfInBounds_toArray, List.set_cons_zero, List.set_cons_succ, i64_w, i32_w]
                                          rfl
                                        refine take_ (i := 20) (N := some 103) (v := ?_) (a' := ?_) #[true, true, true, true, true, true, true, true, true, true, true, true, true, true, true, true, true, true, true, true, true, true, false, true, false, false, false, false, false, false] rfl rfl (take_ofW HT_.out HW_.out (by kernel_rfl)) (fun _ _ _ h => h) (Or.inl ⟨by rfl, ?_⟩) hHeld ?_ ?_
                                        rotate_left
                                        · rintro w' ⟨s0, s1, s2, s3, s4, s5, s6, s7, s8⟩
                                          go_simp
                                          with_reducible rfl
                                        rotate_left
                                        · simp only [Act.put, List.setIfInBounds_toArray, List.set_cons_zero, List.set_cons_succ, i64_w, i32_w]
                                          rfl
                                        refine take_ (i := 22) (N := some 105) (v := ?_) (a' := ?_) #[true, true, true, true, true, true, true, true, true, true, true, true, true, true, true, true, true, true, true, true, true, true, true, true, false, false, false, false, false, false] rfl rfl (take_ofW HT_.out HW_.out (by kernel_rfl)) (fun _ _ _ h => h) (Or.inl ⟨by rfl, ?_⟩) hHeld ?_ ?_
                                        rotate_left
                                        · rintro w' ⟨s0, s1, s2, s3, s4, s5, s6, s7, s8⟩
                                          go_simp
                                          with_reducible rfl
                                        rotate_left
                                        · simp only [Act.put, List.setIfInBounds_toArray, List.set_cons_zero, List.set_cons_succ, i64_w, i32_w]
                                          rfl
                                        refine pure_ (i := 24) (N := some 107) (v := ?_) (a' := ?_) #[true, true, true, true, true, true, true, true, true, true, true, true, true, true, true, true, true, true, true, true, true, true, true, true, true, false, false, false, false, false] rfl rfl (any_of HT_.out (by kernel_rfl)) (fun _ _ _ h => h) (Or.inl ⟨by rfl, ?_⟩) ?_ ?_
                                        rotate_left
                                        · intro w'
                                          go_simp
                                          with_reducible rfl
                                        rotate_left
                                        · simp only [Act.put, List.setIfInBounds_toArray, List.set_cons_zero, List.set_cons_succ, i64_w, i32_w]
                                          rfl
                                        refine take_ (i := 25) (N := some 108) (v := ?_) (a' := ?_) #[true, true, true, true, true, true, true, true, true, true, true, true, true, true, true, true, true, true, true, true, true, true, true, true, true, true, false, false, false, false] rfl rfl (take_ofW HT_.out HW_.out (by kernel_rfl)) (fun _ _ _ h => h) (Or.inl ⟨by rfl, ?_⟩) hHeld ?_ ?_
                                        rotate_left
                                        · rintro w' ⟨s0, s1, s2, s3, s4, s5, s6, s7, s8⟩
                                          go_simp
                                          with_reducible rfl
                                        rotate_left
                                        · simp only [Act.put, List.setIfInBounds_toArray, List.set_cons_zero, List.set_cons_succ, i64_w, i32_w]
                                          rfl
                                        refine one_ (i := 26) (N := some 109) #[true, true, true, true, true, true, true, true, true, true, true, true, true, true, true, true, true, true, true, true, true, true, true, true, true, true, true, false, false, false] rfl rfl (one_of HT_.out (by kernel_rfl)) (by decide) (fun K hK => ?_)
                                        refine goes_ Try.func28 (by kernel_rfl) rfl #[.slice A1197_0 (rd_L3 t1180 x78_3).length c1197_0, .slice A1198_0 (rd_L3 l0_2 x78_3).length c1198_0] (by rfl) rfl rfl (by (try simp only [List.map_toArray, List.map_cons, List.map_nil]); first | done | rfl | (simp only [List.length_drop, List.length_take]; rfl)) ?_
                                        with_reducible refine (cuvetteref04_Same.calls k3 _ _ (rd_L3 t1180 x78_3) _ _ (rd_L3 l0_2 x78_3) true _ ?side1 ?side2 ?side3 ?side4 A59.out).mono ?_
                                        (case side1 => repeat (first | exact (by repeat (first | (with_reducible exact HR1197_0.out) | (with_reducible refine Kd.C_alloc ?_ _) | (with_reducible refine Kd.C_drewN ?_ _) | (with_reducible refine Kd.C_drew ?_) | exact HR1197_0.out)) | (with_reducible refine Kd.C_alloc ?_ _) | (with_reducible refine Kd.C_drewN ?_ _) | (with_reducible refine Kd.C_drew ?_)))
                                        (case side2 => exact HC1197_0.out)
                                        (case side3 => repeat (first | exact (Kd.C_below HR1198_0.out HB.out) | (with_reducible refine Kd.C_alloc ?_ _) | (with_reducible refine Kd.C_drewN ?_ _) | (with_reducible refine Kd.C_drew ?_)))
                                        (case side4 => exact HC1198_0.out)
                                        rintro e w' ⟨rfl, ⟨nd, rfl⟩⟩
                                        refine ⟨_, rfl, ?_⟩
                                        refine hK.out _ _ ⟨(blk_cell BK1184.out 0).trans rfl, (blk_cell BK1184.out 1).trans rfl, (blk_cell BK1184.out 2).trans rfl, (blk_cell BK1172.out 0).trans rfl, (blk_cell BK1172.out 1).trans rfl, (blk_cell BK1172.out 2).trans rfl, hHeld.2.2.2.2.2.2.1, hHeld.2.2.2.2.2.2.2.1, ((HB.out.cell (World.block_lt_of_cell? w _ hw1198_0)).trans hw1198_0)⟩ (fun hHeld => ?_)
                                        clear hK K
                                        refine norm_ (a' := ?_) ?_ ?_
                                        rotate_left
                                        · show Act.put _ (some 109) _ = _
                                          simp only [Act.put, List.setIfInBounds_toArray, List.set_cons_zero, List.set_cons_succ, i64_w, i32_w]
                                          rfl
                                        refine pure_ (i := 27) (N := some 110) (v := ?_) (a' := ?_) #[true, true, true, true, true, true, true, true, true, true, true, true, true, true, true, true, true, true, true, true, true, true, true, true, true, true, true, true, false, false] rfl rfl (any_of HT_.out (by kernel_rfl)) (fun _ _ _ h => h) (Or.inl ⟨by rfl, ?_⟩) ?_ ?_
                                        rotate_left
                                        · intro w'
                                          go_simp
                                          with_reducible rfl
                                        rotate_left
                                        · simp only [Act.put, List.setIfInBounds_toArray, List.set_cons_zero, List.set_cons_succ, i64_w, i32_w]
                                          rfl
                                        refine pure_ (i := 28) (N := some 111) (v := ?_) (a' := ?_) #[true, true, true, true, true, true, true, true, true, true, true, true, true, true, true, true, true, true, true, true, true, true, true, true, true, true, true, true, true, false] rfl rfl (any_of HT_.out (by kernel_rfl)) (fun _ _ _ h => h) (Or.inl ⟨by rfl, ?_⟩) ?_ ?_
                                        rotate_left
                                        · intro w'
                                          go_simp
                                          with_reducible rfl
                                        rotate_left
                                        · simp only [Act.put, List.setIfInBounds_toArray, List.set_cons_zero, List.set_cons_succ, i64_w, i32_w]
                                          rfl
                                        refine pure_ (i := 29) (N := some 112) (v := ?_) (a' := ?_) #[true, true, true, true, true, true, true, true, true, true, true, true, true, true, true, true, true, true, true, true, true, true, true, true, true, true, true, true, true, true] rfl rfl (any_of HT_.out (by kernel_rfl)) (fun _ _ _ h => h) (Or.inl ⟨by rfl, ?_⟩) ?_ ?_
                                        rotate_left
                                        · intro w'
                                          go_simp
                                          with_reducible rfl
                                        rotate_left
                                        · simp only [Act.put, List.setIfInBounds_toArray, List.set_cons_zero, List.set_cons_succ, i64_w, i32_w]
                                          rfl
                                        refine done_ (done_of HT_.out (by kernel_rfl)) ?_
                                        try go_wp2
                                        go_roundg k3
                                        case measure => have := HJ7.out; have := HJ25.out; have := HK3.out; omega
                                        case rel => exact ⟨(wrap64 (x78_3 + 1)), (by first | rfl | (simp; done) | (simp [*]; done)), H', ⟨by have := HJ7.out; have := HJ25.out; have := HK3.out; omega⟩, ⟨by (with_reducible repeat (first | apply Kd.R_alloc | apply Kd.R_drewN | apply Kd.R_drew)); exact HO_1185001.out⟩, ⟨by (with_reducible repeat (first | apply Kd.N_alloc | apply Kd.N_drewN | apply Kd.N_drew)); exact HO_1185002.out⟩, ⟨by (with_reducible repeat (first | apply Kd.R_alloc | apply Kd.R_drewN | apply Kd.R_drew)); exact HO_1195001.out⟩, ⟨by (with_reducible repeat (first | apply Kd.N_alloc | apply Kd.N_drewN | apply Kd.N_drew)); exact HO_1195002.out⟩, ⟨by (with_reducible repeat (first | refine blk_drewN ?_ _ | refine blk_drew ?_ | refine blk_alloc ?_ _)); exact BK1172.out⟩, ⟨by (with_reducible repeat (first | refine blk_drewN ?_ _ | refine blk_drew ?_ | refine blk_alloc ?_ _)); exact BK1184.out⟩, ⟨by (with_reducible repeat (first | refine blk_drewN ?_ _ | refine blk_drew ?_ | refine blk_alloc ?_ _)); exact BK1194.out⟩, ⟨by repeat (first | (with_reducible first | exact HB.out | apply below_alloc | apply pw_below_drewN | apply below_drew1 | refine below_set ?_ GE1172.out | refine below_set ?_ GE1184.out | refine below_set ?_ GE1194.out) | exact HB.out)⟩⟩
                                      · replace c60 := Bool.eq_false_iff.mpr c60
                                        subst c60
                                        have H1 : (some false) = some r := by rw [if_neg (show ¬ (false = true) by decide)] at H; exact H
                                        clear H
                                        have H := H1
                                        clear H1
                                        exact absurd (Option.some.inj H) (by rw [hT_]; decide)
                                    · rw [if_neg c58] at H
                                      exact absurd H (by simp)
                                  · rw [if_neg c57] at H
                                    exact absurd H (by simp)
                                · rw [if_neg c56] at H
                                  have c56b0 : ((rd t1177 x78_3) == (rd l0_1 x78_3)) = false := beq_eq_false_iff_ne.mpr c56
                                  have c56b1 : ((rd t1177 x78_3) != (rd l0_1 x78_3)) = true := bne_iff_ne.mpr c56
                                  exact absurd (Option.some.inj H) (by rw [hT_]; decide)
                              · rw [if_neg c55] at H
                                exact absurd H (by simp)
                        · rw [if_neg c50] at H
                          exact absurd H (by simp)
                      · rw [if_neg c49] at H
                        exact absurd H (by simp)
                    · rw [if_neg c48] at H
                      have c48b0 : decide (x78_3 < (l0_1.length : Int)) = false := decide_eq_false c48
                      clear c48
                      replace H := Option.bind_eq_some_iff.mp H
                      obtain ⟨⟨t1200, t1201, t1202, t1205, t1208⟩, A640, H⟩ := H
                      replace H : ((slots_Put.f k3 t1186 t1187 t1190 a1 l3).bind fun bt1210 => (if t1208 = bt1210.2.2.2.2 then (if t1208 = 0 then ((h_slots_Live.f t1201 t1202 t1205).bind fun bt1220 => ((h_slots_Live.f bt1210.2.1 bt1210.2.2.1 bt1210.2.2.2.1).bind fun bt1224 => (if true = true then (if bt1220.2 = 0 then (if bt1224.2 = 0 then ((cuvetteref03_SameInts.f k3 bt1220.1 bt1224.1).bind fun t1228 => (some t1228)) else (some false)) else (some false)) else (some false)))) else (if true = true then (some (t1208 == 7)) else (some false))) else (some false))) = some r := H
                      have A64 := Aside0.mk A640
                      clear A640
                      replace H := Option.bind_eq_some_iff.mp H
                      obtain ⟨⟨t1210, t1211, t1212, t1215, t1218⟩, A650, H⟩ := H
                      replace H : (if t1208 = t1218 then (if t1208 = 0 then ((h_slots_Live.f t1201 t1202 t1205).bind fun bt1220 => ((h_slots_Live.f t1211 t1212 t1215).bind fun bt1224 => (if true = true then (if bt1220.2 = 0 then (if bt1224.2 = 0 then ((cuvetteref03_SameInts.f k3 bt1220.1 bt1224.1).bind fun t1228 => (some t1228)) else (some false)) else (some false)) else (some false)))) else (if true = true then (some (t1208 == 7)) else (some false))) else (some false)) = some r := H
                      have A65 := Aside0.mk A650
                      clear A650
                      by_cases c66 : t1208 = t1218
                      · rw [if_pos c66] at H
                        have c66b0 : (t1208 == t1218) = true := beq_iff_eq.mpr c66
                        have c66b1 : (t1208 != t1218) = false := bne_eq_false_iff_eq.mpr c66
                        clear c66
                        by_cases c67 : t1208 = 0
                        · rw [if_pos c67] at H
                          have c67b0 : (t1208 == 0) = true := beq_iff_eq.mpr c67
                          have c67b1 : (t1208 != 0) = false := bne_eq_false_iff_eq.mpr c67
                          clear c67
                          replace H := Option.bind_eq_some_iff.mp H
                          obtain ⟨⟨t1220, t1223⟩, A680, H⟩ := H
                          replace H : ((h_slots_Live.f t1211 t1212 t1215).bind fun bt1224 => (if true = true then (if t1223 = 0 then (if bt1224.2 = 0 then ((cuvetteref03_SameInts.f k3 t1220 bt1224.1).bind fun t1228 => (some t1228)) else (some false)) else (some false)) else (some false))) = some r := H
                          have A68 := Aside0.mk A680
                          clear A680
                          replace H := Option.bind_eq_some_iff.mp H
                          obtain ⟨⟨t1224, t1227⟩, A690, H⟩ := H
                          replace H : (if true = true then (if t1223 = 0 then (if t1227 = 0 then ((cuvetteref03_SameInts.f k3 t1220 t1224).bind fun t1228 => (some t1228)) else (some false)) else (some false)) else (some false)) = some r := H
                          have A69 := Aside0.mk A690
                          clear A690
                          by_cases c70 : true = true
                          · clear c70
                            have H1 : (if t1223 = 0 then (if t1227 = 0 then ((cuvetteref03_SameInts.f k3 t1220 t1224).bind fun t1228 => (some t1228)) else (some false)) else (some false)) = some r := by rw [if_pos rfl] at H; exact H
                            clear H
                            have H := H1
                            clear H1
                            by_cases c71 : t1223 = 0
                            · rw [if_pos c71] at H
                              have c71b0 : (t1223 == 0) = true := beq_iff_eq.mpr c71
                              have c71b1 : (t1223 != 0) = false := bne_eq_false_iff_eq.mpr c71
                              clear c71
                              by_cases c72 : t1227 = 0
                              · rw [if_pos c72] at H
                                have c72b0 : (t1227 == 0) = true := beq_iff_eq.mpr c72
                                have c72b1 : (t1227 != 0) = false := bne_eq_false_iff_eq.mpr c72
                                clear c72
                                replace H := Option.bind_eq_some_iff.mp H
                                obtain ⟨t1228, A730, H⟩ := H
                                replace H : (some t1228) = some r := H
                                have A73 := Aside0.mk A730
                                clear A730
                                obtain rfl := Option.some.inj H
                                have hnb74 := NB1184_1172.out
                                have hnc74 := NB1172_1184.out
                                have hnb75 := NB1184_1194.out
                                have hnc75 := NB1194_1184.out
                                have hcz76_0 : wr.cell? ⟨gb1184, 0, none⟩ = some (.int .i64 t1176) := (blk_cell BK1184.out 0).trans rfl
                                have hcz76_1 : wr.cell? ⟨gb1184, 1, none⟩ = some (.slice Ao32 t1177.length co32) := (blk_cell BK1184.out 1).trans rfl
                                have hcz76_2 : wr.cell? ⟨gb1184, 2, none⟩ = some (.slice Ao33 t1180.length co33) := (blk_cell BK1184.out 2).trans rfl
                                have hfz76_0 := blk_frozen BK1184.out 0
                                have hfz76_1 := blk_frozen BK1184.out 1
                                have hfz76_2 := blk_frozen BK1184.out 2
                                go_wp2_with (first | ((with_reducible refine gate_callee (f := 27) rfl ?_); refine goesL_ (some 118) rfl rfl Try.func27 (by kernel_rfl) rfl #[.agg #[.int .i64 t1176, .slice Ao32 t1177.length co32, .slice Ao33 t1180.length co33], .int .i64 a2, .slice A4 l4.length c4] rfl (by (try simp only [List.map_toArray, List.map_cons, List.map_nil]); first | done | rfl | (simp only [List.length_drop, List.length_take]; rfl)) ?_; (with_reducible refine (slots_Put.calls k3 t1176 _ _ t1177 (fun k_ => (some k_ ≠ (.slice Ao32 t1177.length co32 : Value).ownBlock ∧ (some k_ ≠ (.slice Ao41 t1187.length co41 : Value).ownBlock ∧ (some k_ ≠ (.slice Ao42 t1190.length co42 : Value).ownBlock ∧ (k_ ≠ gb1172 ∧ (k_ ≠ gb1184 ∧ k_ ≠ gb1194)))))) _ _ t1180 a2 _ _ l4 t1200 t1201 t1202 t1205 t1208 _ ?side1 ?side2 ?side3 ?side4 ?side5 A64.out).mono ?_); (case side1 => repeat (first | exact (Kd.R_reads' HO_1185001.out).2.2 | (with_reducible refine Kd.C_alloc ?_ _) | (with_reducible refine Kd.C_drewN ?_ _) | (with_reducible refine Kd.C_drew ?_))); (case side2 => exact (Kd.R_reads' HO_1185001.out).2.1); (case side3 => exact Kd.N_V (HO_1185002.out)); (case side4 => repeat (first | exact (Kd.C_below HR4.out HB.out) | (with_reducible refine Kd.C_alloc ?_ _) | (with_reducible refine Kd.C_drewN ?_ _) | (with_reducible refine Kd.C_drew ?_))); (case side5 => exact HC4.out); rintro e w77 ⟨v1203, v1206, rfl, ho0, ho1, hb⟩; refine ⟨_, rfl, ?_⟩; have n0_ := Aside0.mk (Kd.R_elder' (by (with_reducible repeat (first | apply Kd.R_alloc | apply Kd.R_drewN | apply Kd.R_drew)); exact HO_1185001.out) (Kd.R_base ho0) hb); have n1_ := Aside0.mk (Kd.N_mono (Kd.N_told (Kd.N_told (Kd.N_old (by (with_reducible repeat (first | apply Kd.N_alloc | apply Kd.N_drewN | apply Kd.N_drew)); exact HO_1185002.out) hb) (Kd.R_base ho0)) (Kd.N_base ho1)) (fun _ h_ => h_.1)); have n2_ := Aside0.mk (Kd.R_elder' (by (with_reducible repeat (first | apply Kd.R_alloc | apply Kd.R_drewN | apply Kd.R_drew)); exact HO_1195001.out) (Kd.R_base ho0) hb); have n3_ := Aside0.mk (Kd.N_mono (Kd.N_told (Kd.N_told (Kd.N_old (by (with_reducible repeat (first | apply Kd.N_alloc | apply Kd.N_drewN | apply Kd.N_drew)); exact HO_1195002.out) hb) (Kd.R_base ho0)) (Kd.N_base ho1)) (fun _ h_ => h_.1)); have n4_ := Aside0.mk (Kd.R_lower (Kd.R_new' (Kd.R_new' (Kd.R_mono (ok' := fun k_ => True) ho0 (fun _ hk_ => trivial)) (Kd.R_lt (by (with_reducible repeat (first | apply Kd.R_alloc | apply Kd.R_drewN | apply Kd.R_drew)); exact HO_1185001.out))) (Kd.R_lt (by (with_reducible repeat (first | apply Kd.R_alloc | apply Kd.R_drewN | apply Kd.R_drew)); exact HO_1195001.out))) (below_size (by repeat (first | (with_reducible first | exact HB.out | apply below_alloc | apply pw_below_drewN | apply below_drew1 | refine below_set ?_ GE1172.out | refine below_set ?_ GE1184.out | refine below_set ?_ GE1194.out) | exact HB.out)))); have n5_ := Aside0.mk (Kd.N_lower (Kd.N_mono (ok' := fun k_ => some k_ ≠ (v1203 : Value).ownBlock ∧ some k_ ≠ (.slice Ao32 t1177.length co32 : Value).ownBlock ∧ some k_ ≠ (.slice Ao41 t1187.length co41 : Value).ownBlock ∧ some k_ ≠ (.slice Ao42 t1190.length co42 : Value).ownBlock ∧ k_ ≠ gb1172 ∧ k_ ≠ gb1184 ∧ k_ ≠ gb1194) ho1 (fun k_ hk_ => ⟨hk_.2, Or.elim hk_.1 (fun hs_ => hs_.1) (fun hn_ => (Kd.fresh' (Kd.R_lt (by (with_reducible repeat (first | apply Kd.R_alloc | apply Kd.R_drewN | apply Kd.R_drew)); exact HO_1185001.out)) k_ hn_)), Or.elim hk_.1 (fun hs_ => hs_.2.1) (fun hn_ => (Kd.fresh' (Kd.R_lt (by (with_reducible repeat (first | apply Kd.R_alloc | apply Kd.R_drewN | apply Kd.R_drew)); exact HO_1195001.out)) k_ hn_)), Or.elim hk_.1 (fun hs_ => hs_.2.2.1) (fun hn_ => (Kd.fresh' (Kd.N_lt (by (with_reducible repeat (first | apply Kd.N_alloc | apply Kd.N_drewN | apply Kd.N_drew)); exact HO_1195002.out)) k_ hn_)), Or.elim hk_.1 (fun hs_ => hs_.2.2.2.1) (fun hn_ => (Kd.freshB (g := gb1172) (o := .cells #[.int .i64 a0_0, .slice A0_1 l0_1.length c0_1, .slice A0_2 l0_2.length c0_2] 25 (0, 0)) (by (with_reducible repeat (first | refine blk_drewN ?_ _ | refine blk_drew ?_ | refine blk_alloc ?_ _)); exact BK1172.out) k_ hn_)), Or.elim hk_.1 (fun hs_ => hs_.2.2.2.2.1) (fun hn_ => (Kd.freshB (g := gb1184) (o := .cells #[.int .i64 t1176, .slice Ao32 t1177.length co32, .slice Ao33 t1180.length co33] 25 (0, 0)) (by (with_reducible repeat (first | refine blk_drewN ?_ _ | refine blk_drew ?_ | refine blk_alloc ?_ _)); exact BK1184.out) k_ hn_)), Or.elim hk_.1 (fun hs_ => hs_.2.2.2.2.2) (fun hn_ => (Kd.freshB (g := gb1194) (o := .cells #[.int .i64 t1186, .slice Ao41 t1187.length co41, .slice Ao42 t1190.length co42] 25 (0, 0)) (by (with_reducible repeat (first | refine blk_drewN ?_ _ | refine blk_drew ?_ | refine blk_alloc ?_ _)); exact BK1194.out) k_ hn_))⟩)) (below_size (by repeat (first | (with_reducible first | exact HB.out | apply below_alloc | apply pw_below_drewN | apply below_drew1 | refine below_set ?_ GE1172.out | refine below_set ?_ GE1184.out | refine below_set ?_ GE1194.out) | exact HB.out)))); have n6_ := Aside0.mk (blk_below (g := gb1172) (o := .cells #[.int .i64 a0_0, .slice A0_1 l0_1.length c0_1, .slice A0_2 l0_2.length c0_2] 25 (0, 0)) (by (with_reducible repeat (first | refine blk_drewN ?_ _ | refine blk_drew ?_ | refine blk_alloc ?_ _)); exact BK1172.out) hb); have n7_ := Aside0.mk (blk_below (g := gb1184) (o := .cells #[.int .i64 t1176, .slice Ao32 t1177.length co32, .slice Ao33 t1180.length co33] 25 (0, 0)) (by (with_reducible repeat (first | refine blk_drewN ?_ _ | refine blk_drew ?_ | refine blk_alloc ?_ _)); exact BK1184.out) hb); have n8_ := Aside0.mk (blk_below (g := gb1194) (o := .cells #[.int .i64 t1186, .slice Ao41 t1187.length co41, .slice Ao42 t1190.length co42] 25 (0, 0)) (by (with_reducible repeat (first | refine blk_drewN ?_ _ | refine blk_drew ?_ | refine blk_alloc ?_ _)); exact BK1194.out) hb); have n9_ := Aside0.mk (below_step (by repeat (first | (with_reducible first | exact HB.out | apply below_alloc | apply pw_below_drewN | apply below_drew1 | refine below_set ?_ GE1172.out | refine below_set ?_ GE1184.out | refine below_set ?_ GE1194.out) | exact HB.out)) hb); clear HO_1185001; clear HO_1185002; clear HO_1195001; clear HO_1195002; clear BK1172; clear BK1184; clear BK1194; clear HB; have HO_1185001 := n0_; have HO_1185002 := n1_; have HO_1195001 := n2_; have HO_1195002 := n3_; have HO1204 := n4_; have HO1207 := n5_; have BK1172 := n6_; have BK1184 := n7_; have BK1194 := n8_; have HB := n9_; clear n0_ n1_ n2_ n3_ n4_ n5_ n6_ n7_ n8_ n9_; (try clear hb); (try clear hb2); (try clear hk); (try clear hi); (try clear ho0); (try clear ho1)) | ((with_reducible refine gate_dst (N := 21) rfl ?_); (try (refine gate_guard (by rfl) ?_; dsimp only)); refine box_event ?hg (N := 21) ?hd (cs := #[.int .i64 0, .slice none 0 0, .slice none 0 0]) (t := 25) ?hr ?_; (case hd => rfl); (case hg => rfl); (case hr => first | (go_simp; done) | (go_simp; rfl)); intro gb1209 hg w78 hbox hb; have n0_ := Aside0.mk (Kd.R_below (by (with_reducible repeat (first | apply Kd.R_alloc | apply Kd.R_drewN | apply Kd.R_drew)); exact HO_1185001.out) hb); have n1_ := Aside0.mk (Kd.N_below (Kd.N_elderB (by (with_reducible repeat (first | apply Kd.N_alloc | apply Kd.N_drewN | apply Kd.N_drew)); exact HO_1185002.out) gb1209 (Nat.le_of_eq hg.symm)) hb); have n2_ := Aside0.mk (Kd.R_below (by (with_reducible repeat (first | apply Kd.R_alloc | apply Kd.R_drewN | apply Kd.R_drew)); exact HO_1195001.out) hb); have n3_ := Aside0.mk (Kd.N_below (Kd.N_elderB (by (with_reducible repeat (first | apply Kd.N_alloc | apply Kd.N_drewN | apply Kd.N_drew)); exact HO_1195002.out) gb1209 (Nat.le_of_eq hg.symm)) hb); have n4_ := Aside0.mk (Kd.R_below (by (with_reducible repeat (first | apply Kd.R_alloc | apply Kd.R_drewN | apply Kd.R_drew)); exact HO1204.out) hb); have n5_ := Aside0.mk (Kd.N_below (Kd.N_elderB (by (with_reducible repeat (first | apply Kd.N_alloc | apply Kd.N_drewN | apply Kd.N_drew)); exact HO1207.out) gb1209 (Nat.le_of_eq hg.symm)) hb); have n6_ := Aside0.mk (blk_below (g := gb1172) (o := .cells #[.int .i64 a0_0, .slice A0_1 l0_1.length c0_1, .slice A0_2 l0_2.length c0_2] 25 (0, 0)) (by (with_reducible repeat (first | refine blk_drewN ?_ _ | refine blk_drew ?_ | refine blk_alloc ?_ _)); exact BK1172.out) hb); have n7_ := Aside0.mk (blk_below (g := gb1184) (o := .cells #[.int .i64 t1176, .slice Ao32 t1177.length co32, .slice Ao33 t1180.length co33] 25 (0, 0)) (by (with_reducible repeat (first | refine blk_drewN ?_ _ | refine blk_drew ?_ | refine blk_alloc ?_ _)); exact BK1184.out) hb); have n8_ := Aside0.mk (blk_below (g := gb1194) (o := .cells #[.int .i64 t1186, .slice Ao41 t1187.length co41, .slice Ao42 t1190.length co42] 25 (0, 0)) (by (with_reducible repeat (first | refine blk_drewN ?_ _ | refine blk_drew ?_ | refine blk_alloc ?_ _)); exact BK1194.out) hb); have n9_ := Aside0.mk (below_step (by repeat (first | (with_reducible first | exact HB.out | apply below_alloc | apply pw_below_drewN | apply below_drew1 | refine below_set ?_ GE1172.out | refine below_set ?_ GE1184.out | refine below_set ?_ GE1194.out) | exact HB.out)) hb); have n10_ := Aside0.mk (hbox); have n11_ := Aside0.mk ((by rw [hg]; exact (below_size (by repeat (first | (with_reducible first | exact HB.out | apply below_alloc | apply pw_below_drewN | apply below_drew1 | refine below_set ?_ GE1172.out | refine below_set ?_ GE1184.out | refine below_set ?_ GE1194.out) | exact HB.out))) : w.heap.size ≤ gb1209)); have n12_ := Aside0.mk ((by rw [hg]; exact (below_size (by repeat (first | (with_reducible first | exact HB.out | apply below_alloc | apply pw_below_drewN | apply below_drew1 | refine below_set ?_ GE1172.out | refine below_set ?_ GE1184.out | refine below_set ?_ GE1194.out) | exact HB.out))) : w.heap.size ≤ gb1209)); have n13_ := Aside0.mk ((by rw [hg]; exact Nat.ne_of_lt (blk_lt (g := gb1172) (o := .cells #[.int .i64 a0_0, .slice A0_1 l0_1.length c0_1, .slice A0_2 l0_2.length c0_2] 25 (0, 0)) (by (with_reducible repeat (first | refine blk_drewN ?_ _ | refine blk_drew ?_ | refine blk_alloc ?_ _)); exact BK1172.out)) : gb1172 ≠ gb1209)); have n14_ := Aside0.mk ((by rw [hg]; exact Nat.ne_of_gt (blk_lt (g := gb1172) (o := .cells #[.int .i64 a0_0, .slice A0_1 l0_1.length c0_1, .slice A0_2 l0_2.length c0_2] 25 (0, 0)) (by (with_reducible repeat (first | refine blk_drewN ?_ _ | refine blk_drew ?_ | refine blk_alloc ?_ _)); exact BK1172.out)) : gb1209 ≠ gb1172)); have n15_ := Aside0.mk ((by rw [hg]; exact Nat.ne_of_lt (blk_lt (g := gb1184) (o := .cells #[.int .i64 t1176, .slice Ao32 t1177.length co32, .slice Ao33 t1180.length co33] 25 (0, 0)) (by (with_reducible repeat (first | refine blk_drewN ?_ _ | refine blk_drew ?_ | refine blk_alloc ?_ _)); exact BK1184.out)) : gb1184 ≠ gb1209)); have n16_ := Aside0.mk ((by rw [hg]; exact Nat.ne_of_gt (blk_lt (g := gb1184) (o := .cells #[.int .i64 t1176, .slice Ao32 t1177.length co32, .slice Ao33 t1180.length co33] 25 (0, 0)) (by (with_reducible repeat (first | refine blk_drewN ?_ _ | refine blk_drew ?_ | refine blk_alloc ?_ _)); exact BK1184.out)) : gb1209 ≠ gb1184)); have n17_ := Aside0.mk ((by rw [hg]; exact Nat.ne_of_lt (blk_lt (g := gb1194) (o := .cells #[.int .i64 t1186, .slice Ao41 t1187.length co41, .slice Ao42 t1190.length co42] 25 (0, 0)) (by (with_reducible repeat (first | refine blk_drewN ?_ _ | refine blk_drew ?_ | refine blk_alloc ?_ _)); exact BK1194.out)) : gb1194 ≠ gb1209)); have n18_ := Aside0.mk ((by rw [hg]; exact Nat.ne_of_gt (blk_lt (g := gb1194) (o := .cells #[.int .i64 t1186, .slice Ao41 t1187.length co41, .slice Ao42 t1190.length co42] 25 (0, 0)) (by (with_reducible repeat (first | refine blk_drewN ?_ _ | refine blk_drew ?_ | refine blk_alloc ?_ _)); exact BK1194.out)) : gb1209 ≠ gb1194)); clear HO_1185001; clear HO_1185002; clear HO_1195001; clear HO_1195002; clear HO1204; clear HO1207; clear BK1172; clear BK1184; clear BK1194; clear HB; have HO_1185001 := n0_; have HO_1185002 := n1_; have HO_1195001 := n2_; have HO_1195002 := n3_; have HO1204 := n4_; have HO1207 := n5_; have BK1172 := n6_; have BK1184 := n7_; have BK1194 := n8_; have HB := n9_; have BK1209 := n10_; have GW1209 := n11_; have GE1209 := n12_; have NB1172_1209 := n13_; have NB1209_1172 := n14_; have NB1184_1209 := n15_; have NB1209_1184 := n16_; have NB1194_1209 := n17_; have NB1209_1194 := n18_; clear n0_ n1_ n2_ n3_ n4_ n5_ n6_ n7_ n8_ n9_ n10_ n11_ n12_ n13_ n14_ n15_ n16_ n17_ n18_; clear hb hbox hg; have hnb79 := NB1209_1172.out; have hnc79 := NB1172_1209.out; have hnb80 := NB1209_1184.out; have hnc80 := NB1184_1209.out; have hnb81 := NB1209_1194.out; have hnc81 := NB1194_1209.out; have hcz82_0 : w78.cell? ⟨gb1209, 0, none⟩ = some (.int .i64 0) := (blk_cell BK1209.out 0).trans rfl; have hcz82_1 : w78.cell? ⟨gb1209, 1, none⟩ = some (.slice none 0 0) := (blk_cell BK1209.out 1).trans rfl; have hcz82_2 : w78.cell? ⟨gb1209, 2, none⟩ = some (.slice none 0 0) := (blk_cell BK1209.out 2).trans rfl; have hfz82_0 := blk_frozen BK1209.out 0; have hfz82_1 := blk_frozen BK1209.out 1; have hfz82_2 := blk_frozen BK1209.out 2; obtain ⟨Ao83, co83, eo83⟩ := Kd.R_slice HO1204.out; subst eo83; obtain ⟨Ao84, co84, eo84⟩ := Kd.N_slice HO1207.out; subst eo84) | ((with_reducible refine gate_store (t := 25) (p := 21) rfl ?_); refine store_event (t := 25) (p := 21) (v := ?vo_w85) (w1 := (((w78.setCell ⟨gb1209, 0, none⟩ (.int .i64 t1201)).setCell ⟨gb1209, 1, none⟩ (.slice Ao83 t1202.length co83)).setCell ⟨gb1209, 2, none⟩ (.slice Ao84 t1205.length co84))) ?hg ?ho ?hn ?hr ?_; (case ho => rfl); (case hg => rfl); (case hn => rfl); (case hr => first | (go_simp; done) | (go_simp; rfl)); intro w85 hw; have n0_ : Aside0 (Kd.R (Kd.int .i64) 2 w85 w.heap.size (fun k_ => some k_ ≠ (.slice Ao41 t1187.length co41 : Value).ownBlock ∧ some k_ ≠ (.slice Ao83 t1202.length co83 : Value).ownBlock) (.slice Ao32 t1177.length co32) t1177) := ⟨(by rw [hw]; exact (by (with_reducible repeat (first | apply Kd.R_alloc | apply Kd.R_drewN | apply Kd.R_drew)); exact Kd.R_mono (Kd.R_far (p := ⟨gb1209, 2, none⟩) (Kd.R_far (p := ⟨gb1209, 1, none⟩) (Kd.R_far (p := ⟨gb1209, 0, none⟩) (Kd.R_types HO_1185001.out BK1209.out (by decide)) (fun _ hk => hk.2) (.int .i64 t1201)) (fun _ hk => hk.2) (.slice Ao83 t1202.length co83)) (fun _ hk => hk.2) (.slice Ao84 t1205.length co84)) (fun _ hk => ⟨hk.1.1, hk.1.2⟩)))⟩; have n1_ : Aside0 (Kd.N (Kd.slice 74 (Kd.int .i16)) 27 w85 w.heap.size (fun k_ => some k_ ≠ (.slice Ao32 t1177.length co32 : Value).ownBlock ∧ some k_ ≠ (.slice Ao41 t1187.length co41 : Value).ownBlock ∧ some k_ ≠ (.slice Ao42 t1190.length co42 : Value).ownBlock ∧ some k_ ≠ (.slice Ao83 t1202.length co83 : Value).ownBlock ∧ some k_ ≠ (.slice Ao84 t1205.length co84 : Value).ownBlock ∧ k_ ≠ gb1172 ∧ k_ ≠ gb1184 ∧ k_ ≠ gb1194 ∧ k_ ≠ gb1209) (.slice Ao33 t1180.length co33) t1180) := ⟨(by rw [hw]; exact (by (with_reducible repeat (first | apply Kd.N_alloc | apply Kd.N_drewN | apply Kd.N_drew)); exact Kd.N_mono (Kd.N_far (p := ⟨gb1209, 2, none⟩) (Kd.N_far (p := ⟨gb1209, 1, none⟩) (Kd.N_far (p := ⟨gb1209, 0, none⟩) (Kd.N_mono HO_1185002.out (fun k_ hk => (⟨hk, hk.2⟩ : _ ∧ k_ ≠ gb1209))) (fun _ hk => hk.2) (.int .i64 t1201)) (fun _ hk => hk.2) (.slice Ao83 t1202.length co83)) (fun _ hk => hk.2) (.slice Ao84 t1205.length co84)) (fun _ hk => ⟨hk.1.1.1.1.1, ⟨hk.1.1.1.1.2.1, ⟨hk.1.1.1.1.2.2.1, ⟨hk.1.1.1.2, ⟨hk.1.1.2, ⟨hk.1.1.1.1.2.2.2.1, ⟨hk.1.1.1.1.2.2.2.2.1, ⟨hk.1.1.1.1.2.2.2.2.2, hk.1.2⟩⟩⟩⟩⟩⟩⟩⟩)))⟩; have n2_ : Aside0 (Kd.R (Kd.int .i64) 2 w85 w.heap.size (fun k_ => some k_ ≠ (.slice Ao32 t1177.length co32 : Value).ownBlock ∧ some k_ ≠ (.slice Ao83 t1202.length co83 : Value).ownBlock) (.slice Ao41 t1187.length co41) t1187) := ⟨(by rw [hw]; exact (by (with_reducible repeat (first | apply Kd.R_alloc | apply Kd.R_drewN | apply Kd.R_drew)); exact Kd.R_mono (Kd.R_far (p := ⟨gb1209, 2, none⟩) (Kd.R_far (p := ⟨gb1209, 1, none⟩) (Kd.R_far (p := ⟨gb1209, 0, none⟩) (Kd.R_types HO_1195001.out BK1209.out (by decide)) (fun _ hk => hk.2) (.int .i64 t1201)) (fun _ hk => hk.2) (.slice Ao83 t1202.length co83)) (fun _ hk => hk.2) (.slice Ao84 t1205.length co84)) (fun _ hk => ⟨hk.1.1, hk.1.2⟩)))⟩; have n3_ : Aside0 (Kd.N (Kd.slice 74 (Kd.int .i16)) 27 w85 w.heap.size (fun k_ => some k_ ≠ (.slice Ao32 t1177.length co32 : Value).ownBlock ∧ some k_ ≠ (.slice Ao33 t1180.length co33 : Value).ownBlock ∧ some k_ ≠ (.slice Ao41 t1187.length co41 : Value).ownBlock ∧ some k_ ≠ (.slice Ao83 t1202.length co83 : Value).ownBlock ∧ some k_ ≠ (.slice Ao84 t1205.length co84 : Value).ownBlock ∧ k_ ≠ gb1172 ∧ k_ ≠ gb1184 ∧ k_ ≠ gb1194 ∧ k_ ≠ gb1209) (.slice Ao42 t1190.length co42) t1190) := ⟨(by rw [hw]; exact (by (with_reducible repeat (first | apply Kd.N_alloc | apply Kd.N_drewN | apply Kd.N_drew)); exact Kd.N_mono (Kd.N_far (p := ⟨gb1209, 2, none⟩) (Kd.N_far (p := ⟨gb1209, 1, none⟩) (Kd.N_far (p := ⟨gb1209, 0, none⟩) (Kd.N_mono HO_1195002.out (fun k_ hk => (⟨hk, hk.2⟩ : _ ∧ k_ ≠ gb1209))) (fun _ hk => hk.2) (.int .i64 t1201)) (fun _ hk => hk.2) (.slice Ao83 t1202.length co83)) (fun _ hk => hk.2) (.slice Ao84 t1205.length co84)) (fun _ hk => ⟨hk.1.1.1.1.1, ⟨hk.1.1.1.1.2.1, ⟨hk.1.1.1.1.2.2.1, ⟨hk.1.1.1.2, ⟨hk.1.1.2, ⟨hk.1.1.1.1.2.2.2.1, ⟨hk.1.1.1.1.2.2.2.2.1, ⟨hk.1.1.1.1.2.2.2.2.2, hk.1.2⟩⟩⟩⟩⟩⟩⟩⟩)))⟩; have n4_ : Aside0 (Kd.R (Kd.int .i64) 2 w85 w.heap.size (fun k_ => some k_ ≠ (.slice Ao32 t1177.length co32 : Value).ownBlock ∧ some k_ ≠ (.slice Ao41 t1187.length co41 : Value).ownBlock) (.slice Ao83 t1202.length co83) t1202) := ⟨(by rw [hw]; exact (by (with_reducible repeat (first | apply Kd.R_alloc | apply Kd.R_drewN | apply Kd.R_drew)); exact Kd.R_mono (Kd.R_far (p := ⟨gb1209, 2, none⟩) (Kd.R_far (p := ⟨gb1209, 1, none⟩) (Kd.R_far (p := ⟨gb1209, 0, none⟩) (Kd.R_types HO1204.out BK1209.out (by decide)) (fun _ hk => hk.2) (.int .i64 t1201)) (fun _ hk => hk.2) (.slice Ao83 t1202.length co83)) (fun _ hk => hk.2) (.slice Ao84 t1205.length co84)) (fun _ hk => ⟨hk.1.1.2, hk.1.2⟩)))⟩; have n5_ : Aside0 (Kd.N (Kd.slice 74 (Kd.int .i16)) 27 w85 w.heap.size (fun k_ => some k_ ≠ (.slice Ao32 t1177.length co32 : Value).ownBlock ∧ some k_ ≠ (.slice Ao41 t1187.length co41 : Value).ownBlock ∧ some k_ ≠ (.slice Ao42 t1190.length co42 : Value).ownBlock ∧ some k_ ≠ (.slice Ao83 t1202.length co83 : Value).ownBlock ∧ k_ ≠ gb1172 ∧ k_ ≠ gb1184 ∧ k_ ≠ gb1194 ∧ k_ ≠ gb1209) (.slice Ao84 t1205.length co84) t1205) := ⟨(by rw [hw]; exact (by (with_reducible repeat (first | apply Kd.N_alloc | apply Kd.N_drewN | apply Kd.N_drew)); exact Kd.N_mono (Kd.N_far (p := ⟨gb1209, 2, none⟩) (Kd.N_far (p := ⟨gb1209, 1, none⟩) (Kd.N_far (p := ⟨gb1209, 0, none⟩) (Kd.N_mono HO1207.out (fun k_ hk => (⟨hk, hk.2⟩ : _ ∧ k_ ≠ gb1209))) (fun _ hk => hk.2) (.int .i64 t1201)) (fun _ hk => hk.2) (.slice Ao83 t1202.length co83)) (fun _ hk => hk.2) (.slice Ao84 t1205.length co84)) (fun _ hk => ⟨hk.1.1.2.1, ⟨hk.1.1.2.2.1, ⟨hk.1.1.2.2.2.1, ⟨hk.1.1.1, ⟨hk.1.1.2.2.2.2.1, ⟨hk.1.1.2.2.2.2.2.1, ⟨hk.1.1.2.2.2.2.2.2, hk.1.2⟩⟩⟩⟩⟩⟩⟩)))⟩; have n6_ : Aside0 (w85.heap[gb1172]? = some (.cells #[.int .i64 a0_0, .slice A0_1 l0_1.length c0_1, .slice A0_2 l0_2.length c0_2] 25 (0, 0))) := ⟨(by rw [hw]; exact (by (with_reducible repeat (first | refine blk_drewN ?_ _ | refine blk_drew ?_ | refine blk_alloc ?_ _)); refine blk_far ?_ NB1172_1209.out _; (with_reducible repeat (first | refine blk_drewN ?_ _ | refine blk_drew ?_ | refine blk_alloc ?_ _)); refine blk_far ?_ NB1172_1209.out _; (with_reducible repeat (first | refine blk_drewN ?_ _ | refine blk_drew ?_ | refine blk_alloc ?_ _)); refine blk_far ?_ NB1172_1209.out _; (with_reducible repeat (first | refine blk_drewN ?_ _ | refine blk_drew ?_ | refine blk_alloc ?_ _)); exact BK1172.out))⟩; have n7_ : Aside0 (w85.heap[gb1184]? = some (.cells #[.int .i64 t1176, .slice Ao32 t1177.length co32, .slice Ao33 t1180.length co33] 25 (0, 0))) := ⟨(by rw [hw]; exact (by (with_reducible repeat (first | refine blk_drewN ?_ _ | refine blk_drew ?_ | refine blk_alloc ?_ _)); refine blk_far ?_ NB1184_1209.out _; (with_reducible repeat (first | refine blk_drewN ?_ _ | refine blk_drew ?_ | refine blk_alloc ?_ _)); refine blk_far ?_ NB1184_1209.out _; (with_reducible repeat (first | refine blk_drewN ?_ _ | refine blk_drew ?_ | refine blk_alloc ?_ _)); refine blk_far ?_ NB1184_1209.out _; (with_reducible repeat (first | refine blk_drewN ?_ _ | refine blk_drew ?_ | refine blk_alloc ?_ _)); exact BK1184.out))⟩; have n8_ : Aside0 (w85.heap[gb1194]? = some (.cells #[.int .i64 t1186, .slice Ao41 t1187.length co41, .slice Ao42 t1190.length co42] 25 (0, 0))) := ⟨(by rw [hw]; exact (by (with_reducible repeat (first | refine blk_drewN ?_ _ | refine blk_drew ?_ | refine blk_alloc ?_ _)); refine blk_far ?_ NB1194_1209.out _; (with_reducible repeat (first | refine blk_drewN ?_ _ | refine blk_drew ?_ | refine blk_alloc ?_ _)); refine blk_far ?_ NB1194_1209.out _; (with_reducible repeat (first | refine blk_drewN ?_ _ | refine blk_drew ?_ | refine blk_alloc ?_ _)); refine blk_far ?_ NB1194_1209.out _; (with_reducible repeat (first | refine blk_drewN ?_ _ | refine blk_drew ?_ | refine blk_alloc ?_ _)); exact BK1194.out))⟩; have n9_ : Aside0 (w85.heap[gb1209]? = some (.cells #[.int .i64 t1201, .slice Ao83 t1202.length co83, .slice Ao84 t1205.length co84] 25 (0, 0))) := ⟨(by rw [hw]; exact (by (with_reducible repeat (first | refine blk_drewN ?_ _ | refine blk_drew ?_ | refine blk_alloc ?_ _)); refine blk_put (cs := #[.int .i64 t1201, .slice Ao83 t1202.length co83, .slice none 0 0]) ?_ 2 _ rfl; (with_reducible repeat (first | refine blk_drewN ?_ _ | refine blk_drew ?_ | refine blk_alloc ?_ _)); refine blk_put (cs := #[.int .i64 t1201, .slice none 0 0, .slice none 0 0]) ?_ 1 _ rfl; (with_reducible repeat (first | refine blk_drewN ?_ _ | refine blk_drew ?_ | refine blk_alloc ?_ _)); refine blk_put (cs := #[.int .i64 0, .slice none 0 0, .slice none 0 0]) ?_ 0 _ rfl; (with_reducible repeat (first | refine blk_drewN ?_ _ | refine blk_drew ?_ | refine blk_alloc ?_ _)); exact BK1209.out))⟩; have n10_ : Aside0 (Below w.heap.size w w85) := ⟨(by rw [hw]; exact (by repeat (first | (with_reducible first | exact HB.out | apply below_alloc | apply pw_below_drewN | apply below_drew1 | refine below_set ?_ GE1172.out | refine below_set ?_ GE1184.out | refine below_set ?_ GE1194.out | refine below_set ?_ GE1209.out) | exact HB.out)))⟩; clear hw; clear HO_1185001; clear HO_1185002; clear HO_1195001; clear HO_1195002; clear HO1204; clear HO1207; clear BK1172; clear BK1184; clear BK1194; clear BK1209; clear HB; have HO_1185001 := n0_; have HO_1185002 := n1_; have HO_1195001 := n2_; have HO_1195002 := n3_; have HO1204 := n4_; have HO1207 := n5_; have BK1172 := n6_; have BK1184 := n7_; have BK1194 := n8_; have BK1209 := n9_; have HB := n10_; clear n0_ n1_ n2_ n3_ n4_ n5_ n6_ n7_ n8_ n9_ n10_; have hnb86 := NB1194_1172.out; have hnc86 := NB1172_1194.out; have hcz87_0 : w85.cell? ⟨gb1194, 0, none⟩ = some (.int .i64 t1186) := (blk_cell BK1194.out 0).trans rfl; have hcz87_1 : w85.cell? ⟨gb1194, 1, none⟩ = some (.slice Ao41 t1187.length co41) := (blk_cell BK1194.out 1).trans rfl; have hcz87_2 : w85.cell? ⟨gb1194, 2, none⟩ = some (.slice Ao42 t1190.length co42) := (blk_cell BK1194.out 2).trans rfl; have hfz87_0 := blk_frozen BK1194.out 0; have hfz87_1 := blk_frozen BK1194.out 1; have hfz87_2 := blk_frozen BK1194.out 2) | ((with_reducible refine gate_callee (f := 27) rfl ?_); refine goesL_ (some 126) rfl rfl Try.func27 (by kernel_rfl) rfl #[.agg #[.int .i64 t1186, .slice Ao41 t1187.length co41, .slice Ao42 t1190.length co42], .int .i64 a1, .slice A3 l3.length c3] rfl (by (try simp only [List.map_toArray, List.map_cons, List.map_nil]); first | done | rfl | (simp only [List.length_drop, List.length_take]; rfl)) ?_; (with_reducible refine (slots_Put.calls k3 t1186 _ _ t1187 (fun k_ => (some k_ ≠ (.slice Ao32 t1177.length co32 : Value).ownBlock ∧ (some k_ ≠ (.slice Ao33 t1180.length co33 : Value).ownBlock ∧ (some k_ ≠ (.slice Ao41 t1187.length co41 : Value).ownBlock ∧ (some k_ ≠ (.slice Ao83 t1202.length co83 : Value).ownBlock ∧ (some k_ ≠ (.slice Ao84 t1205.length co84 : Value).ownBlock ∧ (k_ ≠ gb1172 ∧ (k_ ≠ gb1184 ∧ (k_ ≠ gb1194 ∧ k_ ≠ gb1209))))))))) _ _ t1190 a1 _ _ l3 t1210 t1211 t1212 t1215 t1218 _ ?side1 ?side2 ?side3 ?side4 ?side5 A65.out).mono ?_); (case side1 => repeat (first | exact (Kd.R_reads' HO_1195001.out).2.2 | (with_reducible refine Kd.C_alloc ?_ _) | (with_reducible refine Kd.C_drewN ?_ _) | (with_reducible refine Kd.C_drew ?_))); (case side2 => exact (Kd.R_reads' HO_1195001.out).2.1); (case side3 => exact Kd.N_V (HO_1195002.out)); (case side4 => repeat (first | exact (Kd.C_below HR3.out HB.out) | (with_reducible refine Kd.C_alloc ?_ _) | (with_reducible refine Kd.C_drewN ?_ _) | (with_reducible refine Kd.C_drew ?_))); (case side5 => exact HC3.out); rintro e w88 ⟨v1213, v1216, rfl, ho0, ho1, hb⟩; refine ⟨_, rfl, ?_⟩; have n0_ := Aside0.mk (Kd.R_elder' (by (with_reducible repeat (first | apply Kd.R_alloc | apply Kd.R_drewN | apply Kd.R_drew)); exact HO_1185001.out) (Kd.R_base ho0) hb); have n1_ := Aside0.mk (Kd.N_mono (Kd.N_told (Kd.N_told (Kd.N_old (by (with_reducible repeat (first | apply Kd.N_alloc | apply Kd.N_drewN | apply Kd.N_drew)); exact HO_1185002.out) hb) (Kd.R_base ho0)) (Kd.N_base ho1)) (fun _ h_ => h_.1)); have n2_ := Aside0.mk (Kd.R_elder' (by (with_reducible repeat (first | apply Kd.R_alloc | apply Kd.R_drewN | apply Kd.R_drew)); exact HO_1195001.out) (Kd.R_base ho0) hb); have n3_ := Aside0.mk (Kd.N_mono (Kd.N_told (Kd.N_told (Kd.N_old (by (with_reducible repeat (first | apply Kd.N_alloc | apply Kd.N_drewN | apply Kd.N_drew)); exact HO_1195002.out) hb) (Kd.R_base ho0)) (Kd.N_base ho1)) (fun _ h_ => h_.1)); have n4_ := Aside0.mk (Kd.R_elder' (by (with_reducible repeat (first | apply Kd.R_alloc | apply Kd.R_drewN | apply Kd.R_drew)); exact HO1204.out) (Kd.R_base ho0) hb); have n5_ := Aside0.mk (Kd.N_mono (Kd.N_told (Kd.N_told (Kd.N_old (by (with_reducible repeat (first | apply Kd.N_alloc | apply Kd.N_drewN | apply Kd.N_drew)); exact HO1207.out) hb) (Kd.R_base ho0)) (Kd.N_base ho1)) (fun _ h_ => h_.1)); have n6_ := Aside0.mk (Kd.R_lower (Kd.R_new' (Kd.R_new' (Kd.R_new' (Kd.R_mono (ok' := fun k_ => True) ho0 (fun _ hk_ => trivial)) (Kd.R_lt (by (with_reducible repeat (first | apply Kd.R_alloc | apply Kd.R_drewN | apply Kd.R_drew)); exact HO_1185001.out))) (Kd.R_lt (by (with_reducible repeat (first | apply Kd.R_alloc | apply Kd.R_drewN | apply Kd.R_drew)); exact HO_1195001.out))) (Kd.R_lt (by (with_reducible repeat (first | apply Kd.R_alloc | apply Kd.R_drewN | apply Kd.R_drew)); exact HO1204.out))) (below_size (by repeat (first | (with_reducible first | exact HB.out | apply below_alloc | apply pw_below_drewN | apply below_drew1 | refine below_set ?_ GE1172.out | refine below_set ?_ GE1184.out | refine below_set ?_ GE1194.out | refine below_set ?_ GE1209.out) | exact HB.out)))); have n7_ := Aside0.mk (Kd.N_lower (Kd.N_mono (ok' := fun k_ => some k_ ≠ (v1213 : Value).ownBlock ∧ some k_ ≠ (.slice Ao32 t1177.length co32 : Value).ownBlock ∧ some k_ ≠ (.slice Ao33 t1180.length co33 : Value).ownBlock ∧ some k_ ≠ (.slice Ao41 t1187.length co41 : Value).ownBlock ∧ some k_ ≠ (.slice Ao83 t1202.length co83 : Value).ownBlock ∧ some k_ ≠ (.slice Ao84 t1205.length co84 : Value).ownBlock ∧ k_ ≠ gb1172 ∧ k_ ≠ gb1184 ∧ k_ ≠ gb1194 ∧ k_ ≠ gb1209) ho1 (fun k_ hk_ => ⟨hk_.2, Or.elim hk_.1 (fun hs_ => hs_.1) (fun hn_ => (Kd.fresh' (Kd.R_lt (by (with_reducible repeat (first | apply Kd.R_alloc | apply Kd.R_drewN | apply Kd.R_drew)); exact HO_1185001.out)) k_ hn_)), Or.elim hk_.1 (fun hs_ => hs_.2.1) (fun hn_ => (Kd.fresh' (Kd.N_lt (by (with_reducible repeat (first | apply Kd.N_alloc | apply Kd.N_drewN | apply Kd.N_drew)); exact HO_1185002.out)) k_ hn_)), Or.elim hk_.1 (fun hs_ => hs_.2.2.1) (fun hn_ => (Kd.fresh' (Kd.R_lt (by (with_reducible repeat (first | apply Kd.R_alloc | apply Kd.R_drewN | apply Kd.R_drew)); exact HO_1195001.out)) k_ hn_)), Or.elim hk_.1 (fun hs_ => hs_.2.2.2.1) (fun hn_ => (Kd.fresh' (Kd.R_lt (by (with_reducible repeat (first | apply Kd.R_alloc | apply Kd.R_drewN | apply Kd.R_drew)); exact HO1204.out)) k_ hn_)), Or.elim hk_.1 (fun hs_ => hs_.2.2.2.2.1) (fun hn_ => (Kd.fresh' (Kd.N_lt (by (with_reducible repeat (first | apply Kd.N_alloc | apply Kd.N_drewN | apply Kd.N_drew)); exact HO1207.out)) k_ hn_)), Or.elim hk_.1 (fun hs_ => hs_.2.2.2.2.2.1) (fun hn_ => (Kd.freshB (g := gb1172) (o := .cells #[.int .i64 a0_0, .slice A0_1 l0_1.length c0_1, .slice A0_2 l0_2.length c0_2] 25 (0, 0)) (by (with_reducible repeat (first | refine blk_drewN ?_ _ | refine blk_drew ?_ | refine blk_alloc ?_ _)); exact BK1172.out) k_ hn_)), Or.elim hk_.1 (fun hs_ => hs_.2.2.2.2.2.2.1) (fun hn_ => (Kd.freshB (g := gb1184) (o := .cells #[.int .i64 t1176, .slice Ao32 t1177.length co32, .slice Ao33 t1180.length co33] 25 (0, 0)) (by (with_reducible repeat (first | refine blk_drewN ?_ _ | refine blk_drew ?_ | refine blk_alloc ?_ _)); exact BK1184.out) k_ hn_)), Or.elim hk_.1 (fun hs_ => hs_.2.2.2.2.2.2.2.1) (fun hn_ => (Kd.freshB (g := gb1194) (o := .cells #[.int .i64 t1186, .slice Ao41 t1187.length co41, .slice Ao42 t1190.length co42] 25 (0, 0)) (by (with_reducible repeat (first | refine blk_drewN ?_ _ | refine blk_drew ?_ | refine blk_alloc ?_ _)); exact BK1194.out) k_ hn_)), Or.elim hk_.1 (fun hs_ => hs_.2.2.2.2.2.2.2.2) (fun hn_ => (Kd.freshB (g := gb1209) (o := .cells #[.int .i64 t1201, .slice Ao83 t1202.length co83, .slice Ao84 t1205.length co84] 25 (0, 0)) (by (with_reducible repeat (first | refine blk_drewN ?_ _ | refine blk_drew ?_ | refine blk_alloc ?_ _)); exact BK1209.out) k_ hn_))⟩)) (below_size (by repeat (first | (with_reducible first | exact HB.out | apply below_alloc | apply pw_below_drewN | apply below_drew1 | refine below_set ?_ GE1172.out | refine below_set ?_ GE1184.out | refine below_set ?_ GE1194.out | refine below_set ?_ GE1209.out) | exact HB.out)))); have n8_ := Aside0.mk (blk_below (g := gb1172) (o := .cells #[.int .i64 a0_0, .slice A0_1 l0_1.length c0_1, .slice A0_2 l0_2.length c0_2] 25 (0, 0)) (by (with_reducible repeat (first | refine blk_drewN ?_ _ | refine blk_drew ?_ | refine blk_alloc ?_ _)); exact BK1172.out) hb); have n9_ := Aside0.mk (blk_below (g := gb1184) (o := .cells #[.int .i64 t1176, .slice Ao32 t1177.length co32, .slice Ao33 t1180.length co33] 25 (0, 0)) (by (with_reducible repeat (first | refine blk_drewN ?_ _ | refine blk_drew ?_ | refine blk_alloc ?_ _)); exact BK1184.out) hb); have n10_ := Aside0.mk (blk_below (g := gb1194) (o := .cells #[.int .i64 t1186, .slice Ao41 t1187.length co41, .slice Ao42 t1190.length co42] 25 (0, 0)) (by (with_reducible repeat (first | refine blk_drewN ?_ _ | refine blk_drew ?_ | refine blk_alloc ?_ _)); exact BK1194.out) hb); have n11_ := Aside0.mk (blk_below (g := gb1209) (o := .cells #[.int .i64 t1201, .slice Ao83 t1202.length co83, .slice Ao84 t1205.length co84] 25 (0, 0)) (by (with_reducible repeat (first | refine blk_drewN ?_ _ | refine blk_drew ?_ | refine blk_alloc ?_ _)); exact BK1209.out) hb); have n12_ := Aside0.mk (below_step (by repeat (first | (with_reducible first | exact HB.out | apply below_alloc | apply pw_below_drewN | apply below_drew1 | refine below_set ?_ GE1172.out | refine below_set ?_ GE1184.out | refine below_set ?_ GE1194.out | refine below_set ?_ GE1209.out) | exact HB.out)) hb); clear HO_1185001; clear HO_1185002; clear HO_1195001; clear HO_1195002; clear HO1204; clear HO1207; clear BK1172; clear BK1184; clear BK1194; clear BK1209; clear HB; have HO_1185001 := n0_; have HO_1185002 := n1_; have HO_1195001 := n2_; have HO_1195002 := n3_; have HO1204 := n4_; have HO1207 := n5_; have HO1214 := n6_; have HO1217 := n7_; have BK1172 := n8_; have BK1184 := n9_; have BK1194 := n10_; have BK1209 := n11_; have HB := n12_; clear n0_ n1_ n2_ n3_ n4_ n5_ n6_ n7_ n8_ n9_ n10_ n11_ n12_; (try clear hb); (try clear hb2); (try clear hk); (try clear hi); (try clear ho0); (try clear ho1)) | ((with_reducible refine gate_dst (N := 24) rfl ?_); (try (refine gate_guard (by rfl) ?_; dsimp only)); refine box_event ?hg (N := 24) ?hd (cs := #[.int .i64 0, .slice none 0 0, .slice none 0 0]) (t := 25) ?hr ?_; (case hd => rfl); (case hg => rfl); (case hr => first | (go_simp; done) | (go_simp; rfl)); intro gb1219 hg w89 hbox hb; have n0_ := Aside0.mk (Kd.R_below (by (with_reducible repeat (first | apply Kd.R_alloc | apply Kd.R_drewN | apply Kd.R_drew)); exact HO_1185001.out) hb); have n1_ := Aside0.mk (Kd.N_below (Kd.N_elderB (by (with_reducible repeat (first | apply Kd.N_alloc | apply Kd.N_drewN | apply Kd.N_drew)); exact HO_1185002.out) gb1219 (Nat.le_of_eq hg.symm)) hb); have n2_ := Aside0.mk (Kd.R_below (by (with_reducible repeat (first | apply Kd.R_alloc | apply Kd.R_drewN | apply Kd.R_drew)); exact HO_1195001.out) hb); have n3_ := Aside0.mk (Kd.N_below (Kd.N_elderB (by (with_reducible repeat (first | apply Kd.N_alloc | apply Kd.N_drewN | apply Kd.N_drew)); exact HO_1195002.out) gb1219 (Nat.le_of_eq hg.symm)) hb); have n4_ := Aside0.mk (Kd.R_below (by (with_reducible repeat (first | apply Kd.R_alloc | apply Kd.R_drewN | apply Kd.R_drew)); exact HO1204.out) hb); have n5_ := Aside0.mk (Kd.N_below (Kd.N_elderB (by (with_reducible repeat (first | apply Kd.N_alloc | apply Kd.N_drewN | apply Kd.N_drew)); exact HO1207.out) gb1219 (Nat.le_of_eq hg.symm)) hb); have n6_ := Aside0.mk (Kd.R_below (by (with_reducible repeat (first | apply Kd.R_alloc | apply Kd.R_drewN | apply Kd.R_drew)); exact HO1214.out) hb); have n7_ := Aside0.mk (Kd.N_below (Kd.N_elderB (by (with_reducible repeat (first | apply Kd.N_alloc | apply Kd.N_drewN | apply Kd.N_drew)); exact HO1217.out) gb1219 (Nat.le_of_eq hg.symm)) hb); have n8_ := Aside0.mk (blk_below (g := gb1172) (o := .cells #[.int .i64 a0_0, .slice A0_1 l0_1.length c0_1, .slice A0_2 l0_2.length c0_2] 25 (0, 0)) (by (with_reducible repeat (first | refine blk_drewN ?_ _ | refine blk_drew ?_ | refine blk_alloc ?_ _)); exact BK1172.out) hb); have n9_ := Aside0.mk (blk_below (g := gb1184) (o := .cells #[.int .i64 t1176, .slice Ao32 t1177.length co32, .slice Ao33 t1180.length co33] 25 (0, 0)) (by (with_reducible repeat (first | refine blk_drewN ?_ _ | refine blk_drew ?_ | refine blk_alloc ?_ _)); exact BK1184.out) hb); have n10_ := Aside0.mk (blk_below (g := gb1194) (o := .cells #[.int .i64 t1186, .slice Ao41 t1187.length co41, .slice Ao42 t1190.length co42] 25 (0, 0)) (by (with_reducible repeat (first | refine blk_drewN ?_ _ | refine blk_drew ?_ | refine blk_alloc ?_ _)); exact BK1194.out) hb); have n11_ := Aside0.mk (blk_below (g := gb1209) (o := .cells #[.int .i64 t1201, .slice Ao83 t1202.length co83, .slice Ao84 t1205.length co84] 25 (0, 0)) (by (with_reducible repeat (first | refine blk_drewN ?_ _ | refine blk_drew ?_ | refine blk_alloc ?_ _)); exact BK1209.out) hb); have n12_ := Aside0.mk (below_step (by repeat (first | (with_reducible first | exact HB.out | apply below_alloc | apply pw_below_drewN | apply below_drew1 | refine below_set ?_ GE1172.out | refine below_set ?_ GE1184.out | refine below_set ?_ GE1194.out | refine below_set ?_ GE1209.out) | exact HB.out)) hb); have n13_ := Aside0.mk (hbox); have n14_ := Aside0.mk ((by rw [hg]; exact (below_size (by repeat (first | (with_reducible first | exact HB.out | apply below_alloc | apply pw_below_drewN | apply below_drew1 | refine below_set ?_ GE1172.out | refine below_set ?_ GE1184.out | refine below_set ?_ GE1194.out | refine below_set ?_ GE1209.out) | exact HB.out))) : w.heap.size ≤ gb1219)); have n15_ := Aside0.mk ((by rw [hg]; exact (below_size (by repeat (first | (with_reducible first | exact HB.out | apply below_alloc | apply pw_below_drewN | apply below_drew1 | refine below_set ?_ GE1172.out | refine below_set ?_ GE1184.out | refine below_set ?_ GE1194.out | refine below_set ?_ GE1209.out) | exact HB.out))) : w.heap.size ≤ gb1219)); have n16_ := Aside0.mk ((by rw [hg]; exact Nat.ne_of_lt (blk_lt (g := gb1172) (o := .cells #[.int .i64 a0_0, .slice A0_1 l0_1.length c0_1, .slice A0_2 l0_2.length c0_2] 25 (0, 0)) (by (with_reducible repeat (first | refine blk_drewN ?_ _ | refine blk_drew ?_ | refine blk_alloc ?_ _)); exact BK1172.out)) : gb1172 ≠ gb1219)); have n17_ := Aside0.mk ((by rw [hg]; exact Nat.ne_of_gt (blk_lt (g := gb1172) (o := .cells #[.int .i64 a0_0, .slice A0_1 l0_1.length c0_1, .slice A0_2 l0_2.length c0_2] 25 (0, 0)) (by (with_reducible repeat (first | refine blk_drewN ?_ _ | refine blk_drew ?_ | refine blk_alloc ?_ _)); exact BK1172.out)) : gb1219 ≠ gb1172)); have n18_ := Aside0.mk ((by rw [hg]; exact Nat.ne_of_lt (blk_lt (g := gb1184) (o := .cells #[.int .i64 t1176, .slice Ao32 t1177.length co32, .slice Ao33 t1180.length co33] 25 (0, 0)) (by (with_reducible repeat (first | refine blk_drewN ?_ _ | refine blk_drew ?_ | refine blk_alloc ?_ _)); exact BK1184.out)) : gb1184 ≠ gb1219)); have n19_ := Aside0.mk ((by rw [hg]; exact Nat.ne_of_gt (blk_lt (g := gb1184) (o := .cells #[.int .i64 t1176, .slice Ao32 t1177.length co32, .slice Ao33 t1180.length co33] 25 (0, 0)) (by (with_reducible repeat (first | refine blk_drewN ?_ _ | refine blk_drew ?_ | refine blk_alloc ?_ _)); exact BK1184.out)) : gb1219 ≠ gb1184)); have n20_ := Aside0.mk ((by rw [hg]; exact Nat.ne_of_lt (blk_lt (g := gb1194) (o := .cells #[.int .i64 t1186, .slice Ao41 t1187.length co41, .slice Ao42 t1190.length co42] 25 (0, 0)) (by (with_reducible repeat (first | refine blk_drewN ?_ _ | refine blk_drew ?_ | refine blk_alloc ?_ _)); exact BK1194.out)) : gb1194 ≠ gb1219)); have n21_ := Aside0.mk ((by rw [hg]; exact Nat.ne_of_gt (blk_lt (g := gb1194) (o := .cells #[.int .i64 t1186, .slice Ao41 t1187.length co41, .slice Ao42 t1190.length co42] 25 (0, 0)) (by (with_reducible repeat (first | refine blk_drewN ?_ _ | refine blk_drew ?_ | refine blk_alloc ?_ _)); exact BK1194.out)) : gb1219 ≠ gb1194)); have n22_ := Aside0.mk ((by rw [hg]; exact Nat.ne_of_lt (blk_lt (g := gb1209) (o := .cells #[.int .i64 t1201, .slice Ao83 t1202.length co83, .slice Ao84 t1205.length co84] 25 (0, 0)) (by (with_reducible repeat (first | refine blk_drewN ?_ _ | refine blk_drew ?_ | refine blk_alloc ?_ _)); exact BK1209.out)) : gb1209 ≠ gb1219)); have n23_ := Aside0.mk ((by rw [hg]; exact Nat.ne_of_gt (blk_lt (g := gb1209) (o := .cells #[.int .i64 t1201, .slice Ao83 t1202.length co83, .slice Ao84 t1205.length co84] 25 (0, 0)) (by (with_reducible repeat (first | refine blk_drewN ?_ _ | refine blk_drew ?_ | refine blk_alloc ?_ _)); exact BK1209.out)) : gb1219 ≠ gb1209)); clear HO_1185001; clear HO_1185002; clear HO_1195001; clear HO_1195002; clear HO1204; clear HO1207; clear HO1214; clear HO1217; clear BK1172; clear BK1184; clear BK1194; clear BK1209; clear HB; have HO_1185001 := n0_; have HO_1185002 := n1_; have HO_1195001 := n2_; have HO_1195002 := n3_; have HO1204 := n4_; have HO1207 := n5_; have HO1214 := n6_; have HO1217 := n7_; have BK1172 := n8_; have BK1184 := n9_; have BK1194 := n10_; have BK1209 := n11_; have HB := n12_; have BK1219 := n13_; have GW1219 := n14_; have GE1219 := n15_; have NB1172_1219 := n16_; have NB1219_1172 := n17_; have NB1184_1219 := n18_; have NB1219_1184 := n19_; have NB1194_1219 := n20_; have NB1219_1194 := n21_; have NB1209_1219 := n22_; have NB1219_1209 := n23_; clear n0_ n1_ n2_ n3_ n4_ n5_ n6_ n7_ n8_ n9_ n10_ n11_ n12_ n13_ n14_ n15_ n16_ n17_ n18_ n19_ n20_ n21_ n22_ n23_; clear hb hbox hg; have hnb90 := NB1219_1172.out; have hnc90 := NB1172_1219.out; have hnb91 := NB1219_1184.out; have hnc91 := NB1184_1219.out; have hnb92 := NB1219_1194.out; have hnc92 := NB1194_1219.out; have hnb93 := NB1219_1209.out; have hnc93 := NB1209_1219.out; have hcz94_0 : w89.cell? ⟨gb1219, 0, none⟩ = some (.int .i64 0) := (blk_cell BK1219.out 0).trans rfl; have hcz94_1 : w89.cell? ⟨gb1219, 1, none⟩ = some (.slice none 0 0) := (blk_cell BK1219.out 1).trans rfl; have hcz94_2 : w89.cell? ⟨gb1219, 2, none⟩ = some (.slice none 0 0) := (blk_cell BK1219.out 2).trans rfl; have hfz94_0 := blk_frozen BK1219.out 0; have hfz94_1 := blk_frozen BK1219.out 1; have hfz94_2 := blk_frozen BK1219.out 2; obtain ⟨Ao95, co95, eo95⟩ := Kd.R_slice HO1214.out; subst eo95; obtain ⟨Ao96, co96, eo96⟩ := Kd.N_slice HO1217.out; subst eo96; have hcz97_0 : w89.cell? ⟨gb1209, 0, none⟩ = some (.int .i64 t1201) := (blk_cell BK1209.out 0).trans rfl; have hcz97_1 : w89.cell? ⟨gb1209, 1, none⟩ = some (.slice Ao83 t1202.length co83) := (blk_cell BK1209.out 1).trans rfl; have hcz97_2 : w89.cell? ⟨gb1209, 2, none⟩ = some (.slice Ao84 t1205.length co84) := (blk_cell BK1209.out 2).trans rfl; have hfz97_0 := blk_frozen BK1209.out 0; have hfz97_1 := blk_frozen BK1209.out 1; have hfz97_2 := blk_frozen BK1209.out 2) | ((with_reducible refine gate_callee (f := 62) rfl ?_); refine goesL_ (some 142) rfl rfl Try.func62 (by kernel_rfl) rfl #[.agg #[.int .i64 t1201, .slice Ao83 t1202.length co83, .slice Ao84 t1205.length co84]] rfl (by (try simp only [List.map_toArray, List.map_cons, List.map_nil]); first | done | rfl | (simp only [List.length_drop, List.length_take]; rfl)) ?_; (with_reducible refine (h_slots_Live.calls t1201 _ _ t1202 _ _ t1205 t1220 t1223 _ ?side1 ?side2 ?side3 ?side4 A68.out).mono ?_); (case side1 => refine (Kd.R_reads' (e := 2) (base := w.heap.size) (ok := fun k_ => ((some k_ ≠ (.slice Ao32 t1177.length co32 : Value).ownBlock ∧ some k_ ≠ (.slice Ao41 t1187.length co41 : Value).ownBlock) ∧ some k_ ≠ (.slice Ao95 t1212.length co95 : Value).ownBlock)) (n := t1202.length) (c := co83) ?_).2.2; exact (by (with_reducible repeat (first | apply Kd.R_alloc | apply Kd.R_drewN | apply Kd.R_drew)); exact (Kd.R_mono (Kd.R_far (p := ⟨gb1219, 2, none⟩) (Kd.R_far (p := ⟨gb1219, 1, none⟩) (Kd.R_far (p := ⟨gb1219, 0, none⟩) (Kd.R_types HO1204.out BK1219.out (by decide)) (fun _ hk => hk.2) (.int .i64 t1211)) (fun _ hk => hk.2) (.slice Ao95 t1212.length co95)) (fun _ hk => hk.2) (.slice Ao96 t1215.length co96)) (fun _ h_ => h_.1)))); (case side2 => exact (Kd.R_reads' HO1204.out).2.1); (case side3 => refine (Kd.N_reads' (e := 27) (base := w.heap.size) (ok := fun k_ => ((((some k_ ≠ (.slice Ao32 t1177.length co32 : Value).ownBlock ∧ (some k_ ≠ (.slice Ao41 t1187.length co41 : Value).ownBlock ∧ (some k_ ≠ (.slice Ao42 t1190.length co42 : Value).ownBlock ∧ (some k_ ≠ (.slice Ao83 t1202.length co83 : Value).ownBlock ∧ (k_ ≠ gb1172 ∧ (k_ ≠ gb1184 ∧ (k_ ≠ gb1194 ∧ k_ ≠ gb1209))))))) ∧ some k_ ≠ (.slice Ao95 t1212.length co95 : Value).ownBlock) ∧ some k_ ≠ (.slice Ao96 t1215.length co96 : Value).ownBlock) ∧ k_ ≠ gb1219)) (n := t1205.length) (c := co84) ?_).2.2; exact (by (with_reducible repeat (first | apply Kd.N_alloc | apply Kd.N_drewN | apply Kd.N_drew)); exact (Kd.N_mono (Kd.N_far (p := ⟨gb1219, 2, none⟩) (Kd.N_far (p := ⟨gb1219, 1, none⟩) (Kd.N_far (p := ⟨gb1219, 0, none⟩) (Kd.N_mono HO1207.out (fun k_ hk => (⟨hk, hk.2⟩ : _ ∧ k_ ≠ gb1219))) (fun _ hk => hk.2) (.int .i64 t1211)) (fun _ hk => hk.2) (.slice Ao95 t1212.length co95)) (fun _ hk => hk.2) (.slice Ao96 t1215.length co96)) (fun _ h_ => h_.1)))); (case side4 => exact (Kd.N_reads' HO1207.out).2.1); rintro e w98 ⟨v1221, rfl, ho0, hb⟩; refine ⟨_, rfl, ?_⟩; have n0_ := Aside0.mk (Kd.R_elder' (by (with_reducible repeat (first | apply Kd.R_alloc | apply Kd.R_drewN | apply Kd.R_drew)); exact (Kd.R_mono (Kd.R_far (p := ⟨gb1219, 2, none⟩) (Kd.R_far (p := ⟨gb1219, 1, none⟩) (Kd.R_far (p := ⟨gb1219, 0, none⟩) (Kd.R_types HO_1185001.out BK1219.out (by decide)) (fun _ hk => hk.2) (.int .i64 t1211)) (fun _ hk => hk.2) (.slice Ao95 t1212.length co95)) (fun _ hk => hk.2) (.slice Ao96 t1215.length co96)) (fun _ h_ => h_.1))) (Kd.R_base ho0) hb); have n1_ := Aside0.mk (Kd.N_elder' (by (with_reducible repeat (first | apply Kd.N_alloc | apply Kd.N_drewN | apply Kd.N_drew)); exact (Kd.N_mono (Kd.N_far (p := ⟨gb1219, 2, none⟩) (Kd.N_far (p := ⟨gb1219, 1, none⟩) (Kd.N_far (p := ⟨gb1219, 0, none⟩) (Kd.N_mono HO_1185002.out (fun k_ hk => (⟨hk, hk.2⟩ : _ ∧ k_ ≠ gb1219))) (fun _ hk => hk.2) (.int .i64 t1211)) (fun _ hk => hk.2) (.slice Ao95 t1212.length co95)) (fun _ hk => hk.2) (.slice Ao96 t1215.length co96)) (fun _ h_ => h_.1))) (Kd.R_base ho0) hb); have n2_ := Aside0.mk (Kd.R_elder' (by (with_reducible repeat (first | apply Kd.R_alloc | apply Kd.R_drewN | apply Kd.R_drew)); exact (Kd.R_mono (Kd.R_far (p := ⟨gb1219, 2, none⟩) (Kd.R_far (p := ⟨gb1219, 1, none⟩) (Kd.R_far (p := ⟨gb1219, 0, none⟩) (Kd.R_types HO_1195001.out BK1219.out (by decide)) (fun _ hk => hk.2) (.int .i64 t1211)) (fun _ hk => hk.2) (.slice Ao95 t1212.length co95)) (fun _ hk => hk.2) (.slice Ao96 t1215.length co96)) (fun _ h_ => h_.1))) (Kd.R_base ho0) hb); have n3_ := Aside0.mk (Kd.N_elder' (by (with_reducible repeat (first | apply Kd.N_alloc | apply Kd.N_drewN | apply Kd.N_drew)); exact (Kd.N_mono (Kd.N_far (p := ⟨gb1219, 2, none⟩) (Kd.N_far (p := ⟨gb1219, 1, none⟩) (Kd.N_far (p := ⟨gb1219, 0, none⟩) (Kd.N_mono HO_1195002.out (fun k_ hk => (⟨hk, hk.2⟩ : _ ∧ k_ ≠ gb1219))) (fun _ hk => hk.2) (.int .i64 t1211)) (fun _ hk => hk.2) (.slice Ao95 t1212.length co95)) (fun _ hk => hk.2) (.slice Ao96 t1215.length co96)) (fun _ h_ => h_.1))) (Kd.R_base ho0) hb); have n4_ := Aside0.mk (Kd.R_elder' (by (with_reducible repeat (first | apply Kd.R_alloc | apply Kd.R_drewN | apply Kd.R_drew)); exact (Kd.R_mono (Kd.R_far (p := ⟨gb1219, 2, none⟩) (Kd.R_far (p := ⟨gb1219, 1, none⟩) (Kd.R_far (p := ⟨gb1219, 0, none⟩) (Kd.R_types HO1204.out BK1219.out (by decide)) (fun _ hk => hk.2) (.int .i64 t1211)) (fun _ hk => hk.2) (.slice Ao95 t1212.length co95)) (fun _ hk => hk.2) (.slice Ao96 t1215.length co96)) (fun _ h_ => h_.1))) (Kd.R_base ho0) hb); have n5_ := Aside0.mk (Kd.N_elder' (by (with_reducible repeat (first | apply Kd.N_alloc | apply Kd.N_drewN | apply Kd.N_drew)); exact (Kd.N_mono (Kd.N_far (p := ⟨gb1219, 2, none⟩) (Kd.N_far (p := ⟨gb1219, 1, none⟩) (Kd.N_far (p := ⟨gb1219, 0, none⟩) (Kd.N_mono HO1207.out (fun k_ hk => (⟨hk, hk.2⟩ : _ ∧ k_ ≠ gb1219))) (fun _ hk => hk.2) (.int .i64 t1211)) (fun _ hk => hk.2) (.slice Ao95 t1212.length co95)) (fun _ hk => hk.2) (.slice Ao96 t1215.length co96)) (fun _ h_ => h_.1))) (Kd.R_base ho0) hb); have n6_ := Aside0.mk (Kd.R_elder' (by (with_reducible repeat (first | apply Kd.R_alloc | apply Kd.R_drewN | apply Kd.R_drew)); exact (Kd.R_mono (Kd.R_far (p := ⟨gb1219, 2, none⟩) (Kd.R_far (p := ⟨gb1219, 1, none⟩) (Kd.R_far (p := ⟨gb1219, 0, none⟩) (Kd.R_types HO1214.out BK1219.out (by decide)) (fun _ hk => hk.2) (.int .i64 t1211)) (fun _ hk => hk.2) (.slice Ao95 t1212.length co95)) (fun _ hk => hk.2) (.slice Ao96 t1215.length co96)) (fun _ h_ => h_.1))) (Kd.R_base ho0) hb); have n7_ := Aside0.mk (Kd.N_elder' (by (with_reducible repeat (first | apply Kd.N_alloc | apply Kd.N_drewN | apply Kd.N_drew)); exact (Kd.N_mono (Kd.N_far (p := ⟨gb1219, 2, none⟩) (Kd.N_far (p := ⟨gb1219, 1, none⟩) (Kd.N_far (p := ⟨gb1219, 0, none⟩) (Kd.N_mono HO1217.out (fun k_ hk => (⟨hk, hk.2⟩ : _ ∧ k_ ≠ gb1219))) (fun _ hk => hk.2) (.int .i64 t1211)) (fun _ hk => hk.2) (.slice Ao95 t1212.length co95)) (fun _ hk => hk.2) (.slice Ao96 t1215.length co96)) (fun _ h_ => h_.1))) (Kd.R_base ho0) hb); have n8_ := Aside0.mk (Kd.R_lower (Kd.R_new' (Kd.R_new' (Kd.R_new' (Kd.R_new' ho0 (Kd.R_lt (by (with_reducible repeat (first | apply Kd.R_alloc | apply Kd.R_drewN | apply Kd.R_drew)); exact (Kd.R_mono (Kd.R_far (p := ⟨gb1219, 2, none⟩) (Kd.R_far (p := ⟨gb1219, 1, none⟩) (Kd.R_far (p := ⟨gb1219, 0, none⟩) (Kd.R_types HO_1185001.out BK1219.out (by decide)) (fun _ hk => hk.2) (.int .i64 t1211)) (fun _ hk => hk.2) (.slice Ao95 t1212.length co95)) (fun _ hk => hk.2) (.slice Ao96 t1215.length co96)) (fun _ h_ => h_.1))))) (Kd.R_lt (by (with_reducible repeat (first | apply Kd.R_alloc | apply Kd.R_drewN | apply Kd.R_drew)); exact (Kd.R_mono (Kd.R_far (p := ⟨gb1219, 2, none⟩) (Kd.R_far (p := ⟨gb1219, 1, none⟩) (Kd.R_far (p := ⟨gb1219, 0, none⟩) (Kd.R_types HO_1195001.out BK1219.out (by decide)) (fun _ hk => hk.2) (.int .i64 t1211)) (fun _ hk => hk.2) (.slice Ao95 t1212.length co95)) (fun _ hk => hk.2) (.slice Ao96 t1215.length co96)) (fun _ h_ => h_.1))))) (Kd.R_lt (by (with_reducible repeat (first | apply Kd.R_alloc | apply Kd.R_drewN | apply Kd.R_drew)); exact (Kd.R_mono (Kd.R_far (p := ⟨gb1219, 2, none⟩) (Kd.R_far (p := ⟨gb1219, 1, none⟩) (Kd.R_far (p := ⟨gb1219, 0, none⟩) (Kd.R_types HO1204.out BK1219.out (by decide)) (fun _ hk => hk.2) (.int .i64 t1211)) (fun _ hk => hk.2) (.slice Ao95 t1212.length co95)) (fun _ hk => hk.2) (.slice Ao96 t1215.length co96)) (fun _ h_ => h_.1))))) (Kd.R_lt (by (with_reducible repeat (first | apply Kd.R_alloc | apply Kd.R_drewN | apply Kd.R_drew)); exact (Kd.R_mono (Kd.R_far (p := ⟨gb1219, 2, none⟩) (Kd.R_far (p := ⟨gb1219, 1, none⟩) (Kd.R_far (p := ⟨gb1219, 0, none⟩) (Kd.R_types HO1214.out BK1219.out (by decide)) (fun _ hk => hk.2) (.int .i64 t1211)) (fun _ hk => hk.2) (.slice Ao95 t1212.length co95)) (fun _ hk => hk.2) (.slice Ao96 t1215.length co96)) (fun _ h_ => h_.1))))) (below_size (by repeat (first | (with_reducible first | exact HB.out | apply below_alloc | apply pw_below_drewN | apply below_drew1 | refine below_set ?_ GE1172.out | refine below_set ?_ GE1184.out | refine below_set ?_ GE1194.out | refine below_set ?_ GE1209.out | refine below_set ?_ GE1219.out) | exact HB.out)))); have n9_ := Aside0.mk (blk_below (g := gb1172) (o := .cells #[.int .i64 a0_0, .slice A0_1 l0_1.length c0_1, .slice A0_2 l0_2.length c0_2] 25 (0, 0)) (by (with_reducible repeat (first | refine blk_drewN ?_ _ | refine blk_drew ?_ | refine blk_alloc ?_ _)); refine blk_far ?_ NB1172_1219.out _; (with_reducible repeat (first | refine blk_drewN ?_ _ | refine blk_drew ?_ | refine blk_alloc ?_ _)); refine blk_far ?_ NB1172_1219.out _; (with_reducible repeat (first | refine blk_drewN ?_ _ | refine blk_drew ?_ | refine blk_alloc ?_ _)); refine blk_far ?_ NB1172_1219.out _; (with_reducible repeat (first | refine blk_drewN ?_ _ | refine blk_drew ?_ | refine blk_alloc ?_ _)); exact BK1172.out) hb); have n10_ := Aside0.mk (blk_below (g := gb1184) (o := .cells #[.int .i64 t1176, .slice Ao32 t1177.length co32, .slice Ao33 t1180.length co33] 25 (0, 0)) (by (with_reducible repeat (first | refine blk_drewN ?_ _ | refine blk_drew ?_ | refine blk_alloc ?_ _)); refine blk_far ?_ NB1184_1219.out _; (with_reducible repeat (first | refine blk_drewN ?_ _ | refine blk_drew ?_ | refine blk_alloc ?_ _)); refine blk_far ?_ NB1184_1219.out _; (with_reducible repeat (first | refine blk_drewN ?_ _ | refine blk_drew ?_ | refine blk_alloc ?_ _)); refine blk_far ?_ NB1184_1219.out _; (with_reducible repeat (first | refine blk_drewN ?_ _ | refine blk_drew ?_ | refine blk_alloc ?_ _)); exact BK1184.out) hb); have n11_ := Aside0.mk (blk_below (g := gb1194) (o := .cells #[.int .i64 t1186, .slice Ao41 t1187.length co41, .slice Ao42 t1190.length co42] 25 (0, 0)) (by (with_reducible repeat (first | refine blk_drewN ?_ _ | refine blk_drew ?_ | refine blk_alloc ?_ _)); refine blk_far ?_ NB1194_1219.out _; (with_reducible repeat (first | refine blk_drewN ?_ _ | refine blk_drew ?_ | refine blk_alloc ?_ _)); refine blk_far ?_ NB1194_1219.out _; (with_reducible repeat (first | refine blk_drewN ?_ _ | refine blk_drew ?_ | refine blk_alloc ?_ _)); refine blk_far ?_ NB1194_1219.out _; (with_reducible repeat (first | refine blk_drewN ?_ _ | refine blk_drew ?_ | refine blk_alloc ?_ _)); exact BK1194.out) hb); have n12_ := Aside0.mk (blk_below (g := gb1209) (o := .cells #[.int .i64 t1201, .slice Ao83 t1202.length co83, .slice Ao84 t1205.length co84] 25 (0, 0)) (by (with_reducible repeat (first | refine blk_drewN ?_ _ | refine blk_drew ?_ | refine blk_alloc ?_ _)); refine blk_far ?_ NB1209_1219.out _; (with_reducible repeat (first | refine blk_drewN ?_ _ | refine blk_drew ?_ | refine blk_alloc ?_ _)); refine blk_far ?_ NB1209_1219.out _; (with_reducible repeat (first | refine blk_drewN ?_ _ | refine blk_drew ?_ | refine blk_alloc ?_ _)); refine blk_far ?_ NB1209_1219.out _; (with_reducible repeat (first | refine blk_drewN ?_ _ | refine blk_drew ?_ | refine blk_alloc ?_ _)); exact BK1209.out) hb); have n13_ := Aside0.mk (blk_below (g := gb1219) (o := .cells #[.int .i64 t1211, .slice Ao95 t1212.length co95, .slice Ao96 t1215.length co96] 25 (0, 0)) (by (with_reducible repeat (first | refine blk_drewN ?_ _ | refine blk_drew ?_ | refine blk_alloc ?_ _)); refine blk_put (cs := #[.int .i64 t1211, .slice Ao95 t1212.length co95, .slice none 0 0]) ?_ 2 _ rfl; (with_reducible repeat (first | refine blk_drewN ?_ _ | refine blk_drew ?_ | refine blk_alloc ?_ _)); refine blk_put (cs := #[.int .i64 t1211, .slice none 0 0, .slice none 0 0]) ?_ 1 _ rfl; (with_reducible repeat (first | refine blk_drewN ?_ _ | refine blk_drew ?_ | refine blk_alloc ?_ _)); refine blk_put (cs := #[.int .i64 0, .slice none 0 0, .slice none 0 0]) ?_ 0 _ rfl; (with_reducible repeat (first | refine blk_drewN ?_ _ | refine blk_drew ?_ | refine blk_alloc ?_ _)); exact BK1219.out) hb); have n14_ := Aside0.mk (below_step (by repeat (first | (with_reducible first | exact HB.out | apply below_alloc | apply pw_below_drewN | apply below_drew1 | refine below_set ?_ GE1172.out | refine below_set ?_ GE1184.out | refine below_set ?_ GE1194.out | refine below_set ?_ GE1209.out | refine below_set ?_ GE1219.out) | exact HB.out)) hb); clear HO_1185001; clear HO_1185002; clear HO_1195001; clear HO_1195002; clear HO1204; clear HO1207; clear HO1214; clear HO1217; clear BK1172; clear BK1184; clear BK1194; clear BK1209; clear BK1219; clear HB; have HO_1185001 := n0_; have HO_1185002 := n1_; have HO_1195001 := n2_; have HO_1195002 := n3_; have HO1204 := n4_; have HO1207 := n5_; have HO1214 := n6_; have HO1217 := n7_; have HO1222 := n8_; have BK1172 := n9_; have BK1184 := n10_; have BK1194 := n11_; have BK1209 := n12_; have BK1219 := n13_; have HB := n14_; clear n0_ n1_ n2_ n3_ n4_ n5_ n6_ n7_ n8_ n9_ n10_ n11_ n12_ n13_ n14_; (try clear hb); (try clear hb2); (try clear hk); (try clear hi); (try clear ho0); have hcz99_0 : w98.cell? ⟨gb1219, 0, none⟩ = some (.int .i64 t1211) := (blk_cell BK1219.out 0).trans rfl; have hcz99_1 : w98.cell? ⟨gb1219, 1, none⟩ = some (.slice Ao95 t1212.length co95) := (blk_cell BK1219.out 1).trans rfl; have hcz99_2 : w98.cell? ⟨gb1219, 2, none⟩ = some (.slice Ao96 t1215.length co96) := (blk_cell BK1219.out 2).trans rfl; have hfz99_0 := blk_frozen BK1219.out 0; have hfz99_1 := blk_frozen BK1219.out 1; have hfz99_2 := blk_frozen BK1219.out 2) | ((with_reducible refine gate_callee (f := 62) rfl ?_); refine goesL_ (some 147) rfl rfl Try.func62 (by kernel_rfl) rfl #[.agg #[.int .i64 t1211, .slice Ao95 t1212.length co95, .slice Ao96 t1215.length co96]] rfl (by (try simp only [List.map_toArray, List.map_cons, List.map_nil]); first | done | rfl | (simp only [List.length_drop, List.length_take]; rfl)) ?_; (with_reducible refine (h_slots_Live.calls t1211 _ _ t1212 _ _ t1215 t1224 t1227 _ ?side1 ?side2 ?side3 ?side4 A69.out).mono ?_); (case side1 => repeat (first | exact (Kd.R_reads' HO1214.out).2.2 | (with_reducible refine Kd.C_alloc ?_ _) | (with_reducible refine Kd.C_drewN ?_ _) | (with_reducible refine Kd.C_drew ?_))); (case side2 => exact (Kd.R_reads' HO1214.out).2.1); (case side3 => repeat (first | exact (Kd.N_reads' HO1217.out).2.2 | (with_reducible refine Kd.C_alloc ?_ _) | (with_reducible refine Kd.C_drewN ?_ _) | (with_reducible refine Kd.C_drew ?_))); (case side4 => exact (Kd.N_reads' HO1217.out).2.1); rintro e w100 ⟨v1225, rfl, ho0, hb⟩; refine ⟨_, rfl, ?_⟩; have n0_ := Aside0.mk (Kd.R_elder' (by (with_reducible repeat (first | apply Kd.R_alloc | apply Kd.R_drewN | apply Kd.R_drew)); exact HO_1185001.out) (Kd.R_base ho0) hb); have n1_ := Aside0.mk (Kd.N_elder' (by (with_reducible repeat (first | apply Kd.N_alloc | apply Kd.N_drewN | apply Kd.N_drew)); exact HO_1185002.out) (Kd.R_base ho0) hb); have n2_ := Aside0.mk (Kd.R_elder' (by (with_reducible repeat (first | apply Kd.R_alloc | apply Kd.R_drewN | apply Kd.R_drew)); exact HO_1195001.out) (Kd.R_base ho0) hb); have n3_ := Aside0.mk (Kd.N_elder' (by (with_reducible repeat (first | apply Kd.N_alloc | apply Kd.N_drewN | apply Kd.N_drew)); exact HO_1195002.out) (Kd.R_base ho0) hb); have n4_ := Aside0.mk (Kd.R_elder' (by (with_reducible repeat (first | apply Kd.R_alloc | apply Kd.R_drewN | apply Kd.R_drew)); exact HO1204.out) (Kd.R_base ho0) hb); have n5_ := Aside0.mk (Kd.N_elder' (by (with_reducible repeat (first | apply Kd.N_alloc | apply Kd.N_drewN | apply Kd.N_drew)); exact HO1207.out) (Kd.R_base ho0) hb); have n6_ := Aside0.mk (Kd.R_elder' (by (with_reducible repeat (first | apply Kd.R_alloc | apply Kd.R_drewN | apply Kd.R_drew)); exact HO1214.out) (Kd.R_base ho0) hb); have n7_ := Aside0.mk (Kd.N_elder' (by (with_reducible repeat (first | apply Kd.N_alloc | apply Kd.N_drewN | apply Kd.N_drew)); exact HO1217.out) (Kd.R_base ho0) hb); have n8_ := Aside0.mk (Kd.R_elder' (by (with_reducible repeat (first | apply Kd.R_alloc | apply Kd.R_drewN | apply Kd.R_drew)); exact HO1222.out) (Kd.R_base ho0) hb); have n9_ := Aside0.mk (Kd.R_lower (Kd.R_new' (Kd.R_new' (Kd.R_new' (Kd.R_new' (Kd.R_new' ho0 (Kd.R_lt (by (with_reducible repeat (first | apply Kd.R_alloc | apply Kd.R_drewN | apply Kd.R_drew)); exact HO_1185001.out))) (Kd.R_lt (by (with_reducible repeat (first | apply Kd.R_alloc | apply Kd.R_drewN | apply Kd.R_drew)); exact HO_1195001.out))) (Kd.R_lt (by (with_reducible repeat (first | apply Kd.R_alloc | apply Kd.R_drewN | apply Kd.R_drew)); exact HO1204.out))) (Kd.R_lt (by (with_reducible repeat (first | apply Kd.R_alloc | apply Kd.R_drewN | apply Kd.R_drew)); exact HO1214.out))) (Kd.R_lt (by (with_reducible repeat (first | apply Kd.R_alloc | apply Kd.R_drewN | apply Kd.R_drew)); exact HO1222.out))) (below_size (by repeat (first | (with_reducible first | exact HB.out | apply below_alloc | apply pw_below_drewN | apply below_drew1 | refine below_set ?_ GE1172.out | refine below_set ?_ GE1184.out | refine below_set ?_ GE1194.out | refine below_set ?_ GE1209.out | refine below_set ?_ GE1219.out) | exact HB.out)))); have n10_ := Aside0.mk (blk_below (g := gb1172) (o := .cells #[.int .i64 a0_0, .slice A0_1 l0_1.length c0_1, .slice A0_2 l0_2.length c0_2] 25 (0, 0)) (by (with_reducible repeat (first | refine blk_drewN ?_ _ | refine blk_drew ?_ | refine blk_alloc ?_ _)); exact BK1172.out) hb); have n11_ := Aside0.mk (blk_below (g := gb1184) (o := .cells #[.int .i64 t1176, .slice Ao32 t1177.length co32, .slice Ao33 t1180.length co33] 25 (0, 0)) (by (with_reducible repeat (first | refine blk_drewN ?_ _ | refine blk_drew ?_ | refine blk_alloc ?_ _)); exact BK1184.out) hb); have n12_ := Aside0.mk (blk_below (g := gb1194) (o := .cells #[.int .i64 t1186, .slice Ao41 t1187.length co41, .slice Ao42 t1190.length co42] 25 (0, 0)) (by (with_reducible repeat (first | refine blk_drewN ?_ _ | refine blk_drew ?_ | refine blk_alloc ?_ _)); exact BK1194.out) hb); have n13_ := Aside0.mk (blk_below (g := gb1209) (o := .cells #[.int .i64 t1201, .slice Ao83 t1202.length co83, .slice Ao84 t1205.length co84] 25 (0, 0)) (by (with_reducible repeat (first | refine blk_drewN ?_ _ | refine blk_drew ?_ | refine blk_alloc ?_ _)); exact BK1209.out) hb); have n14_ := Aside0.mk (blk_below (g := gb1219) (o := .cells #[.int .i64 t1211, .slice Ao95 t1212.length co95, .slice Ao96 t1215.length co96] 25 (0, 0)) (by (with_reducible repeat (first | refine blk_drewN ?_ _ | refine blk_drew ?_ | refine blk_alloc ?_ _)); exact BK1219.out) hb); have n15_ := Aside0.mk (below_step (by repeat (first | (with_reducible first | exact HB.out | apply below_alloc | apply pw_below_drewN | apply below_drew1 | refine below_set ?_ GE1172.out | refine below_set ?_ GE1184.out | refine below_set ?_ GE1194.out | refine below_set ?_ GE1209.out | refine below_set ?_ GE1219.out) | exact HB.out)) hb); clear HO_1185001; clear HO_1185002; clear HO_1195001; clear HO_1195002; clear HO1204; clear HO1207; clear HO1214; clear HO1217; clear HO1222; clear BK1172; clear BK1184; clear BK1194; clear BK1209; clear BK1219; clear HB; have HO_1185001 := n0_; have HO_1185002 := n1_; have HO_1195001 := n2_; have HO_1195002 := n3_; have HO1204 := n4_; have HO1207 := n5_; have HO1214 := n6_; have HO1217 := n7_; have HO1222 := n8_; have HO1226 := n9_; have BK1172 := n10_; have BK1184 := n11_; have BK1194 := n12_; have BK1209 := n13_; have BK1219 := n14_; have HB := n15_; clear n0_ n1_ n2_ n3_ n4_ n5_ n6_ n7_ n8_ n9_ n10_ n11_ n12_ n13_ n14_ n15_; (try clear hb); (try clear hb2); (try clear hk); (try clear hi); (try clear ho0); obtain ⟨Ao101, co101, eo101⟩ := Kd.R_slice HO1222.out; subst eo101; obtain ⟨Ao102, co102, eo102⟩ := Kd.R_slice HO1226.out; subst eo102) | (go_at_call 63; (with_reducible refine (cuvetteref03_SameInts.calls k3 _ _ t1220 _ _ t1224 t1228 _ ?side1 ?side2 ?side3 ?side4 A73.out).mono ?_); (case side1 => repeat (first | exact (Kd.R_reads' HO1222.out).2.2 | (with_reducible refine Kd.C_alloc ?_ _) | (with_reducible refine Kd.C_drewN ?_ _) | (with_reducible refine Kd.C_drew ?_))); (case side2 => exact (Kd.R_reads' HO1222.out).2.1); (case side3 => repeat (first | exact (Kd.R_reads' HO1226.out).2.2 | (with_reducible refine Kd.C_alloc ?_ _) | (with_reducible refine Kd.C_drewN ?_ _) | (with_reducible refine Kd.C_drew ?_))); (case side4 => exact (Kd.R_reads' HO1226.out).2.1); rintro e w' ⟨rfl, ⟨nd, rfl⟩⟩))
                                go_ret
                                exact ⟨by first | rfl | (simp [errW_none, errW_some] <;> rfl) | (simp [*, errW_none, errW_some] <;> rfl), by repeat (first | (with_reducible first | exact HB.out | apply below_alloc | apply pw_below_drewN | apply below_drew1 | refine below_set ?_ GE1172.out | refine below_set ?_ GE1184.out | refine below_set ?_ GE1194.out | refine below_set ?_ GE1209.out | refine below_set ?_ GE1219.out) | exact HB.out)⟩
                              · rw [if_neg c72] at H
                                have c72b0 : (t1227 == 0) = false := beq_eq_false_iff_ne.mpr c72
                                have c72b1 : (t1227 != 0) = true := bne_iff_ne.mpr c72
                                exact absurd (Option.some.inj H) (by rw [hT_]; decide)
                            · rw [if_neg c71] at H
                              have c71b0 : (t1223 == 0) = false := beq_eq_false_iff_ne.mpr c71
                              have c71b1 : (t1223 != 0) = true := bne_iff_ne.mpr c71
                              exact absurd (Option.some.inj H) (by rw [hT_]; decide)
                          · exact absurd rfl c70
                        · rw [if_neg c67] at H
                          have c67b0 : (t1208 == 0) = false := beq_eq_false_iff_ne.mpr c67
                          have c67b1 : (t1208 != 0) = true := bne_iff_ne.mpr c67
                          by_cases c184 : true = true
                          · clear c184
                            have H1 : (some (t1208 == 7)) = some r := by rw [if_pos rfl] at H; exact H
                            clear H
                            have H := H1
                            clear H1
                            obtain rfl := Option.some.inj H
                            have hnb185 := NB1184_1172.out
                            have hnc185 := NB1172_1184.out
                            have hnb186 := NB1184_1194.out
                            have hnc186 := NB1194_1184.out
                            have hcz187_0 : wr.cell? ⟨gb1184, 0, none⟩ = some (.int .i64 t1176) := (blk_cell BK1184.out 0).trans rfl
                            have hcz187_1 : wr.cell? ⟨gb1184, 1, none⟩ = some (.slice Ao32 t1177.length co32) := (blk_cell BK1184.out 1).trans rfl
                            have hcz187_2 : wr.cell? ⟨gb1184, 2, none⟩ = some (.slice Ao33 t1180.length co33) := (blk_cell BK1184.out 2).trans rfl
                            have hfz187_0 := blk_frozen BK1184.out 0
                            have hfz187_1 := blk_frozen BK1184.out 1
                            have hfz187_2 := blk_frozen BK1184.out 2
                            go_wp2_with (first | ((with_reducible refine gate_callee (f := 27) rfl ?_); refine goesL_ (some 118) rfl rfl Try.func27 (by kernel_rfl) rfl #[.agg #[.int .i64 t1176, .slice Ao32 t1177.length co32, .slice Ao33 t1180.length co33], .int .i64 a2, .slice A4 l4.length c4] rfl (by (try simp only [List.map_toArray, List.map_cons, List.map_nil]); first | done | rfl | (simp only [List.length_drop, List.length_take]; rfl)) ?_; (with_reducible refine (slots_Put.calls k3 t1176 _ _ t1177 (fun k_ => (some k_ ≠ (.slice Ao32 t1177.length co32 : Value).ownBlock ∧ (some k_ ≠ (.slice Ao41 t1187.length co41 : Value).ownBlock ∧ (some k_ ≠ (.slice Ao42 t1190.length co42 : Value).ownBlock ∧ (k_ ≠ gb1172 ∧ (k_ ≠ gb1184 ∧ k_ ≠ gb1194)))))) _ _ t1180 a2 _ _ l4 t1200 t1201 t1202 t1205 t1208 _ ?side1 ?side2 ?side3 ?side4 ?side5 A64.out).mono ?_); (case side1 => repeat (first | exact (Kd.R_reads' HO_1185001.out).2.2 | (with_reducible refine Kd.C_alloc ?_ _) | (with_reducible refine Kd.C_drewN ?_ _) | (with_reducible refine Kd.C_drew ?_))); (case side2 => exact (Kd.R_reads' HO_1185001.out).2.1); (case side3 => exact Kd.N_V (HO_1185002.out)); (case side4 => repeat (first | exact (Kd.C_below HR4.out HB.out) | (with_reducible refine Kd.C_alloc ?_ _) | (with_reducible refine Kd.C_drewN ?_ _) | (with_reducible refine Kd.C_drew ?_))); (case side5 => exact HC4.out); rintro e w188 ⟨v1203, v1206, rfl, ho0, ho1, hb⟩; refine ⟨_, rfl, ?_⟩; have n0_ := Aside0.mk (Kd.R_elder' (by (with_reducible repeat (first | apply Kd.R_alloc | apply Kd.R_drewN | apply Kd.R_drew)); exact HO_1185001.out) (Kd.R_base ho0) hb); have n1_ := Aside0.mk (Kd.N_mono (Kd.N_told (Kd.N_told (Kd.N_old (by (with_reducible repeat (first | apply Kd.N_alloc | apply Kd.N_drewN | apply Kd.N_drew)); exact HO_1185002.out) hb) (Kd.R_base ho0)) (Kd.N_base ho1)) (fun _ h_ => h_.1)); have n2_ := Aside0.mk (Kd.R_elder' (by (with_reducible repeat (first | apply Kd.R_alloc | apply Kd.R_drewN | apply Kd.R_drew)); exact HO_1195001.out) (Kd.R_base ho0) hb); have n3_ := Aside0.mk (Kd.N_mono (Kd.N_told (Kd.N_told (Kd.N_old (by (with_reducible repeat (first | apply Kd.N_alloc | apply Kd.N_drewN | apply Kd.N_drew)); exact HO_1195002.out) hb) (Kd.R_base ho0)) (Kd.N_base ho1)) (fun _ h_ => h_.1)); have n4_ := Aside0.mk (Kd.R_lower (Kd.R_new' (Kd.R_new' (Kd.R_mono (ok' := fun k_ => True) ho0 (fun _ hk_ => trivial)) (Kd.R_lt (by (with_reducible repeat (first | apply Kd.R_alloc | apply Kd.R_drewN | apply Kd.R_drew)); exact HO_1185001.out))) (Kd.R_lt (by (with_reducible repeat (first | apply Kd.R_alloc | apply Kd.R_drewN | apply Kd.R_drew)); exact HO_1195001.out))) (below_size (by repeat (first | (with_reducible first | exact HB.out | apply below_alloc | apply pw_below_drewN | apply below_drew1 | refine below_set ?_ GE1172.out | refine below_set ?_ GE1184.out | refine below_set ?_ GE1194.out) | exact HB.out)))); have n5_ := Aside0.mk (Kd.N_lower (Kd.N_mono (ok' := fun k_ => some k_ ≠ (v1203 : Value).ownBlock ∧ some k_ ≠ (.slice Ao32 t1177.length co32 : Value).ownBlock ∧ some k_ ≠ (.slice Ao41 t1187.length co41 : Value).ownBlock ∧ some k_ ≠ (.slice Ao42 t1190.length co42 : Value).ownBlock ∧ k_ ≠ gb1172 ∧ k_ ≠ gb1184 ∧ k_ ≠ gb1194) ho1 (fun k_ hk_ => ⟨hk_.2, Or.elim hk_.1 (fun hs_ => hs_.1) (fun hn_ => (Kd.fresh' (Kd.R_lt (by (with_reducible repeat (first | apply Kd.R_alloc | apply Kd.R_drewN | apply Kd.R_drew)); exact HO_1185001.out)) k_ hn_)), Or.elim hk_.1 (fun hs_ => hs_.2.1) (fun hn_ => (Kd.fresh' (Kd.R_lt (by (with_reducible repeat (first | apply Kd.R_alloc | apply Kd.R_drewN | apply Kd.R_drew)); exact HO_1195001.out)) k_ hn_)), Or.elim hk_.1 (fun hs_ => hs_.2.2.1) (fun hn_ => (Kd.fresh' (Kd.N_lt (by (with_reducible repeat (first | apply Kd.N_alloc | apply Kd.N_drewN | apply Kd.N_drew)); exact HO_1195002.out)) k_ hn_)), Or.elim hk_.1 (fun hs_ => hs_.2.2.2.1) (fun hn_ => (Kd.freshB (g := gb1172) (o := .cells #[.int .i64 a0_0, .slice A0_1 l0_1.length c0_1, .slice A0_2 l0_2.length c0_2] 25 (0, 0)) (by (with_reducible repeat (first | refine blk_drewN ?_ _ | refine blk_drew ?_ | refine blk_alloc ?_ _)); exact BK1172.out) k_ hn_)), Or.elim hk_.1 (fun hs_ => hs_.2.2.2.2.1) (fun hn_ => (Kd.freshB (g := gb1184) (o := .cells #[.int .i64 t1176, .slice Ao32 t1177.length co32, .slice Ao33 t1180.length co33] 25 (0, 0)) (by (with_reducible repeat (first | refine blk_drewN ?_ _ | refine blk_drew ?_ | refine blk_alloc ?_ _)); exact BK1184.out) k_ hn_)), Or.elim hk_.1 (fun hs_ => hs_.2.2.2.2.2) (fun hn_ => (Kd.freshB (g := gb1194) (o := .cells #[.int .i64 t1186, .slice Ao41 t1187.length co41, .slice Ao42 t1190.length co42] 25 (0, 0)) (by (with_reducible repeat (first | refine blk_drewN ?_ _ | refine blk_drew ?_ | refine blk_alloc ?_ _)); exact BK1194.out) k_ hn_))⟩)) (below_size (by repeat (first | (with_reducible first | exact HB.out | apply below_alloc | apply pw_below_drewN | apply below_drew1 | refine below_set ?_ GE1172.out | refine below_set ?_ GE1184.out | refine below_set ?_ GE1194.out) | exact HB.out)))); have n6_ := Aside0.mk (blk_below (g := gb1172) (o := .cells #[.int .i64 a0_0, .slice A0_1 l0_1.length c0_1, .slice A0_2 l0_2.length c0_2] 25 (0, 0)) (by (with_reducible repeat (first | refine blk_drewN ?_ _ | refine blk_drew ?_ | refine blk_alloc ?_ _)); exact BK1172.out) hb); have n7_ := Aside0.mk (blk_below (g := gb1184) (o := .cells #[.int .i64 t1176, .slice Ao32 t1177.length co32, .slice Ao33 t1180.length co33] 25 (0, 0)) (by (with_reducible repeat (first | refine blk_drewN ?_ _ | refine blk_drew ?_ | refine blk_alloc ?_ _)); exact BK1184.out) hb); have n8_ := Aside0.mk (blk_below (g := gb1194) (o := .cells #[.int .i64 t1186, .slice Ao41 t1187.length co41, .slice Ao42 t1190.length co42] 25 (0, 0)) (by (with_reducible repeat (first | refine blk_drewN ?_ _ | refine blk_drew ?_ | refine blk_alloc ?_ _)); exact BK1194.out) hb); have n9_ := Aside0.mk (below_step (by repeat (first | (with_reducible first | exact HB.out | apply below_alloc | apply pw_below_drewN | apply below_drew1 | refine below_set ?_ GE1172.out | refine below_set ?_ GE1184.out | refine below_set ?_ GE1194.out) | exact HB.out)) hb); clear HO_1185001; clear HO_1185002; clear HO_1195001; clear HO_1195002; clear BK1172; clear BK1184; clear BK1194; clear HB; have HO_1185001 := n0_; have HO_1185002 := n1_; have HO_1195001 := n2_; have HO_1195002 := n3_; have HO1204 := n4_; have HO1207 := n5_; have BK1172 := n6_; have BK1184 := n7_; have BK1194 := n8_; have HB := n9_; clear n0_ n1_ n2_ n3_ n4_ n5_ n6_ n7_ n8_ n9_; (try clear hb); (try clear hb2); (try clear hk); (try clear hi); (try clear ho0); (try clear ho1)) | ((with_reducible refine gate_dst (N := 21) rfl ?_); (try (refine gate_guard (by rfl) ?_; dsimp only)); refine box_event ?hg (N := 21) ?hd (cs := #[.int .i64 0, .slice none 0 0, .slice none 0 0]) (t := 25) ?hr ?_; (case hd => rfl); (case hg => rfl); (case hr => first | (go_simp; done) | (go_simp; rfl)); intro gb1209 hg w189 hbox hb; have n0_ := Aside0.mk (Kd.R_below (by (with_reducible repeat (first | apply Kd.R_alloc | apply Kd.R_drewN | apply Kd.R_drew)); exact HO_1185001.out) hb); have n1_ := Aside0.mk (Kd.N_below (Kd.N_elderB (by (with_reducible repeat (first | apply Kd.N_alloc | apply Kd.N_drewN | apply Kd.N_drew)); exact HO_1185002.out) gb1209 (Nat.le_of_eq hg.symm)) hb); have n2_ := Aside0.mk (Kd.R_below (by (with_reducible repeat (first | apply Kd.R_alloc | apply Kd.R_drewN | apply Kd.R_drew)); exact HO_1195001.out) hb); have n3_ := Aside0.mk (Kd.N_below (Kd.N_elderB (by (with_reducible repeat (first | apply Kd.N_alloc | apply Kd.N_drewN | apply Kd.N_drew)); exact HO_1195002.out) gb1209 (Nat.le_of_eq hg.symm)) hb); have n4_ := Aside0.mk (Kd.R_below (by (with_reducible repeat (first | apply Kd.R_alloc | apply Kd.R_drewN | apply Kd.R_drew)); exact HO1204.out) hb); have n5_ := Aside0.mk (Kd.N_below (Kd.N_elderB (by (with_reducible repeat (first | apply Kd.N_alloc | apply Kd.N_drewN | apply Kd.N_drew)); exact HO1207.out) gb1209 (Nat.le_of_eq hg.symm)) hb); have n6_ := Aside0.mk (blk_below (g := gb1172) (o := .cells #[.int .i64 a0_0, .slice A0_1 l0_1.length c0_1, .slice A0_2 l0_2.length c0_2] 25 (0, 0)) (by (with_reducible repeat (first | refine blk_drewN ?_ _ | refine blk_drew ?_ | refine blk_alloc ?_ _)); exact BK1172.out) hb); have n7_ := Aside0.mk (blk_below (g := gb1184) (o := .cells #[.int .i64 t1176, .slice Ao32 t1177.length co32, .slice Ao33 t1180.length co33] 25 (0, 0)) (by (with_reducible repeat (first | refine blk_drewN ?_ _ | refine blk_drew ?_ | refine blk_alloc ?_ _)); exact BK1184.out) hb); have n8_ := Aside0.mk (blk_below (g := gb1194) (o := .cells #[.int .i64 t1186, .slice Ao41 t1187.length co41, .slice Ao42 t1190.length co42] 25 (0, 0)) (by (with_reducible repeat (first | refine blk_drewN ?_ _ | refine blk_drew ?_ | refine blk_alloc ?_ _)); exact BK1194.out) hb); have n9_ := Aside0.mk (below_step (by repeat (first | (with_reducible first | exact HB.out | apply below_alloc | apply pw_below_drewN | apply below_drew1 | refine below_set ?_ GE1172.out | refine below_set ?_ GE1184.out | refine below_set ?_ GE1194.out) | exact HB.out)) hb); have n10_ := Aside0.mk (hbox); have n11_ := Aside0.mk ((by rw [hg]; exact (below_size (by repeat (first | (with_reducible first | exact HB.out | apply below_alloc | apply pw_below_drewN | apply below_drew1 | refine below_set ?_ GE1172.out | refine below_set ?_ GE1184.out | refine below_set ?_ GE1194.out) | exact HB.out))) : w.heap.size ≤ gb1209)); have n12_ := Aside0.mk ((by rw [hg]; exact (below_size (by repeat (first | (with_reducible first | exact HB.out | apply below_alloc | apply pw_below_drewN | apply below_drew1 | refine below_set ?_ GE1172.out | refine below_set ?_ GE1184.out | refine below_set ?_ GE1194.out) | exact HB.out))) : w.heap.size ≤ gb1209)); have n13_ := Aside0.mk ((by rw [hg]; exact Nat.ne_of_lt (blk_lt (g := gb1172) (o := .cells #[.int .i64 a0_0, .slice A0_1 l0_1.length c0_1, .slice A0_2 l0_2.length c0_2] 25 (0, 0)) (by (with_reducible repeat (first | refine blk_drewN ?_ _ | refine blk_drew ?_ | refine blk_alloc ?_ _)); exact BK1172.out)) : gb1172 ≠ gb1209)); have n14_ := Aside0.mk ((by rw [hg]; exact Nat.ne_of_gt (blk_lt (g := gb1172) (o := .cells #[.int .i64 a0_0, .slice A0_1 l0_1.length c0_1, .slice A0_2 l0_2.length c0_2] 25 (0, 0)) (by (with_reducible repeat (first | refine blk_drewN ?_ _ | refine blk_drew ?_ | refine blk_alloc ?_ _)); exact BK1172.out)) : gb1209 ≠ gb1172)); have n15_ := Aside0.mk ((by rw [hg]; exact Nat.ne_of_lt (blk_lt (g := gb1184) (o := .cells #[.int .i64 t1176, .slice Ao32 t1177.length co32, .slice Ao33 t1180.length co33] 25 (0, 0)) (by (with_reducible repeat (first | refine blk_drewN ?_ _ | refine blk_drew ?_ | refine blk_alloc ?_ _)); exact BK1184.out)) : gb1184 ≠ gb1209)); have n16_ := Aside0.mk ((by rw [hg]; exact Nat.ne_of_gt (blk_lt (g := gb1184) (o := .cells #[.int .i64 t1176, .slice Ao32 t1177.length co32, .slice Ao33 t1180.length co33] 25 (0, 0)) (by (with_reducible repeat (first | refine blk_drewN ?_ _ | refine blk_drew ?_ | refine blk_alloc ?_ _)); exact BK1184.out)) : gb1209 ≠ gb1184)); have n17_ := Aside0.mk ((by rw [hg]; exact Nat.ne_of_lt (blk_lt (g := gb1194) (o := .cells #[.int .i64 t1186, .slice Ao41 t1187.length co41, .slice Ao42 t1190.length co42] 25 (0, 0)) (by (with_reducible repeat (first | refine blk_drewN ?_ _ | refine blk_drew ?_ | refine blk_alloc ?_ _)); exact BK1194.out)) : gb1194 ≠ gb1209)); have n18_ := Aside0.mk ((by rw [hg]; exact Nat.ne_of_gt (blk_lt (g := gb1194) (o := .cells #[.int .i64 t1186, .slice Ao41 t1187.length co41, .slice Ao42 t1190.length co42] 25 (0, 0)) (by (with_reducible repeat (first | refine blk_drewN ?_ _ | refine blk_drew ?_ | refine blk_alloc ?_ _)); exact BK1194.out)) : gb1209 ≠ gb1194)); clear HO_1185001; clear HO_1185002; clear HO_1195001; clear HO_1195002; clear HO1204; clear HO1207; clear BK1172; clear BK1184; clear BK1194; clear HB; have HO_1185001 := n0_; have HO_1185002 := n1_; have HO_1195001 := n2_; have HO_1195002 := n3_; have HO1204 := n4_; have HO1207 := n5_; have BK1172 := n6_; have BK1184 := n7_; have BK1194 := n8_; have HB := n9_; have BK1209 := n10_; have GW1209 := n11_; have GE1209 := n12_; have NB1172_1209 := n13_; have NB1209_1172 := n14_; have NB1184_1209 := n15_; have NB1209_1184 := n16_; have NB1194_1209 := n17_; have NB1209_1194 := n18_; clear n0_ n1_ n2_ n3_ n4_ n5_ n6_ n7_ n8_ n9_ n10_ n11_ n12_ n13_ n14_ n15_ n16_ n17_ n18_; clear hb hbox hg; have hnb190 := NB1209_1172.out; have hnc190 := NB1172_1209.out; have hnb191 := NB1209_1184.out; have hnc191 := NB1184_1209.out; have hnb192 := NB1209_1194.out; have hnc192 := NB1194_1209.out; have hcz193_0 : w189.cell? ⟨gb1209, 0, none⟩ = some (.int .i64 0) := (blk_cell BK1209.out 0).trans rfl; have hcz193_1 : w189.cell? ⟨gb1209, 1, none⟩ = some (.slice none 0 0) := (blk_cell BK1209.out 1).trans rfl; have hcz193_2 : w189.cell? ⟨gb1209, 2, none⟩ = some (.slice none 0 0) := (blk_cell BK1209.out 2).trans rfl; have hfz193_0 := blk_frozen BK1209.out 0; have hfz193_1 := blk_frozen BK1209.out 1; have hfz193_2 := blk_frozen BK1209.out 2; obtain ⟨Ao194, co194, eo194⟩ := Kd.R_slice HO1204.out; subst eo194; obtain ⟨Ao195, co195, eo195⟩ := Kd.N_slice HO1207.out; subst eo195) | ((with_reducible refine gate_store (t := 25) (p := 21) rfl ?_); refine store_event (t := 25) (p := 21) (v := ?vo_w196) (w1 := (((w189.setCell ⟨gb1209, 0, none⟩ (.int .i64 t1201)).setCell ⟨gb1209, 1, none⟩ (.slice Ao194 t1202.length co194)).setCell ⟨gb1209, 2, none⟩ (.slice Ao195 t1205.length co195))) ?hg ?ho ?hn ?hr ?_; (case ho => rfl); (case hg => rfl); (case hn => rfl); (case hr => first | (go_simp; done) | (go_simp; rfl)); intro w196 hw; have n0_ : Aside0 (Kd.R (Kd.int .i64) 2 w196 w.heap.size (fun k_ => some k_ ≠ (.slice Ao41 t1187.length co41 : Value).ownBlock ∧ some k_ ≠ (.slice Ao194 t1202.length co194 : Value).ownBlock) (.slice Ao32 t1177.length co32) t1177) := ⟨(by rw [hw]; exact (by (with_reducible repeat (first | apply Kd.R_alloc | apply Kd.R_drewN | apply Kd.R_drew)); exact Kd.R_mono (Kd.R_far (p := ⟨gb1209, 2, none⟩) (Kd.R_far (p := ⟨gb1209, 1, none⟩) (Kd.R_far (p := ⟨gb1209, 0, none⟩) (Kd.R_types HO_1185001.out BK1209.out (by decide)) (fun _ hk => hk.2) (.int .i64 t1201)) (fun _ hk => hk.2) (.slice Ao194 t1202.length co194)) (fun _ hk => hk.2) (.slice Ao195 t1205.length co195)) (fun _ hk => ⟨hk.1.1, hk.1.2⟩)))⟩; have n1_ : Aside0 (Kd.N (Kd.slice 74 (Kd.int .i16)) 27 w196 w.heap.size (fun k_ => some k_ ≠ (.slice Ao32 t1177.length co32 : Value).ownBlock ∧ some k_ ≠ (.slice Ao41 t1187.length co41 : Value).ownBlock ∧ some k_ ≠ (.slice Ao42 t1190.length co42 : Value).ownBlock ∧ some k_ ≠ (.slice Ao194 t1202.length co194 : Value).ownBlock ∧ some k_ ≠ (.slice Ao195 t1205.length co195 : Value).ownBlock ∧ k_ ≠ gb1172 ∧ k_ ≠ gb1184 ∧ k_ ≠ gb1194 ∧ k_ ≠ gb1209) (.slice Ao33 t1180.length co33) t1180) := ⟨(by rw [hw]; exact (by (with_reducible repeat (first | apply Kd.N_alloc | apply Kd.N_drewN | apply Kd.N_drew)); exact Kd.N_mono (Kd.N_far (p := ⟨gb1209, 2, none⟩) (Kd.N_far (p := ⟨gb1209, 1, none⟩) (Kd.N_far (p := ⟨gb1209, 0, none⟩) (Kd.N_mono HO_1185002.out (fun k_ hk => (⟨hk, hk.2⟩ : _ ∧ k_ ≠ gb1209))) (fun _ hk => hk.2) (.int .i64 t1201)) (fun _ hk => hk.2) (.slice Ao194 t1202.length co194)) (fun _ hk => hk.2) (.slice Ao195 t1205.length co195)) (fun _ hk => ⟨hk.1.1.1.1.1, ⟨hk.1.1.1.1.2.1, ⟨hk.1.1.1.1.2.2.1, ⟨hk.1.1.1.2, ⟨hk.1.1.2, ⟨hk.1.1.1.1.2.2.2.1, ⟨hk.1.1.1.1.2.2.2.2.1, ⟨hk.1.1.1.1.2.2.2.2.2, hk.1.2⟩⟩⟩⟩⟩⟩⟩⟩)))⟩; have n2_ : Aside0 (Kd.R (Kd.int .i64) 2 w196 w.heap.size (fun k_ => some k_ ≠ (.slice Ao32 t1177.length co32 : Value).ownBlock ∧ some k_ ≠ (.slice Ao194 t1202.length co194 : Value).ownBlock) (.slice Ao41 t1187.length co41) t1187) := ⟨(by rw [hw]; exact (by (with_reducible repeat (first | apply Kd.R_alloc | apply Kd.R_drewN | apply Kd.R_drew)); exact Kd.R_mono (Kd.R_far (p := ⟨gb1209, 2, none⟩) (Kd.R_far (p := ⟨gb1209, 1, none⟩) (Kd.R_far (p := ⟨gb1209, 0, none⟩) (Kd.R_types HO_1195001.out BK1209.out (by decide)) (fun _ hk => hk.2) (.int .i64 t1201)) (fun _ hk => hk.2) (.slice Ao194 t1202.length co194)) (fun _ hk => hk.2) (.slice Ao195 t1205.length co195)) (fun _ hk => ⟨hk.1.1, hk.1.2⟩)))⟩; have n3_ : Aside0 (Kd.N (Kd.slice 74 (Kd.int .i16)) 27 w196 w.heap.size (fun k_ => some k_ ≠ (.slice Ao32 t1177.length co32 : Value).ownBlock ∧ some k_ ≠ (.slice Ao33 t1180.length co33 : Value).ownBlock ∧ some k_ ≠ (.slice Ao41 t1187.length co41 : Value).ownBlock ∧ some k_ ≠ (.slice Ao194 t1202.length co194 : Value).ownBlock ∧ some k_ ≠ (.slice Ao195 t1205.length co195 : Value).ownBlock ∧ k_ ≠ gb1172 ∧ k_ ≠ gb1184 ∧ k_ ≠ gb1194 ∧ k_ ≠ gb1209) (.slice Ao42 t1190.length co42) t1190) := ⟨(by rw [hw]; exact (by (with_reducible repeat (first | apply Kd.N_alloc | apply Kd.N_drewN | apply Kd.N_drew)); exact Kd.N_mono (Kd.N_far (p := ⟨gb1209, 2, none⟩) (Kd.N_far (p := ⟨gb1209, 1, none⟩) (Kd.N_far (p := ⟨gb1209, 0, none⟩) (Kd.N_mono HO_1195002.out (fun k_ hk => (⟨hk, hk.2⟩ : _ ∧ k_ ≠ gb1209))) (fun _ hk => hk.2) (.int .i64 t1201)) (fun _ hk => hk.2) (.slice Ao194 t1202.length co194)) (fun _ hk => hk.2) (.slice Ao195 t1205.length co195)) (fun _ hk => ⟨hk.1.1.1.1.1, ⟨hk.1.1.1.1.2.1, ⟨hk.1.1.1.1.2.2.1, ⟨hk.1.1.1.2, ⟨hk.1.1.2, ⟨hk.1.1.1.1.2.2.2.1, ⟨hk.1.1.1.1.2.2.2.2.1, ⟨hk.1.1.1.1.2.2.2.2.2, hk.1.2⟩⟩⟩⟩⟩⟩⟩⟩)))⟩; have n4_ : Aside0 (Kd.R (Kd.int .i64) 2 w196 w.heap.size (fun k_ => some k_ ≠ (.slice Ao32 t1177.length co32 : Value).ownBlock ∧ some k_ ≠ (.slice Ao41 t1187.length co41 : Value).ownBlock) (.slice Ao194 t1202.length co194) t1202) := ⟨(by rw [hw]; exact (by (with_reducible repeat (first | apply Kd.R_alloc | apply Kd.R_drewN | apply Kd.R_drew)); exact Kd.R_mono (Kd.R_far (p := ⟨gb1209, 2, none⟩) (Kd.R_far (p := ⟨gb1209, 1, none⟩) (Kd.R_far (p := ⟨gb1209, 0, none⟩) (Kd.R_types HO1204.out BK1209.out (by decide)) (fun _ hk => hk.2) (.int .i64 t1201)) (fun _ hk => hk.2) (.slice Ao194 t1202.length co194)) (fun _ hk => hk.2) (.slice Ao195 t1205.length co195)) (fun _ hk => ⟨hk.1.1.2, hk.1.2⟩)))⟩; have n5_ : Aside0 (Kd.N (Kd.slice 74 (Kd.int .i16)) 27 w196 w.heap.size (fun k_ => some k_ ≠ (.slice Ao32 t1177.length co32 : Value).ownBlock ∧ some k_ ≠ (.slice Ao41 t1187.length co41 : Value).ownBlock ∧ some k_ ≠ (.slice Ao42 t1190.length co42 : Value).ownBlock ∧ some k_ ≠ (.slice Ao194 t1202.length co194 : Value).ownBlock ∧ k_ ≠ gb1172 ∧ k_ ≠ gb1184 ∧ k_ ≠ gb1194 ∧ k_ ≠ gb1209) (.slice Ao195 t1205.length co195) t1205) := ⟨(by rw [hw]; exact (by (with_reducible repeat (first | apply Kd.N_alloc | apply Kd.N_drewN | apply Kd.N_drew)); exact Kd.N_mono (Kd.N_far (p := ⟨gb1209, 2, none⟩) (Kd.N_far (p := ⟨gb1209, 1, none⟩) (Kd.N_far (p := ⟨gb1209, 0, none⟩) (Kd.N_mono HO1207.out (fun k_ hk => (⟨hk, hk.2⟩ : _ ∧ k_ ≠ gb1209))) (fun _ hk => hk.2) (.int .i64 t1201)) (fun _ hk => hk.2) (.slice Ao194 t1202.length co194)) (fun _ hk => hk.2) (.slice Ao195 t1205.length co195)) (fun _ hk => ⟨hk.1.1.2.1, ⟨hk.1.1.2.2.1, ⟨hk.1.1.2.2.2.1, ⟨hk.1.1.1, ⟨hk.1.1.2.2.2.2.1, ⟨hk.1.1.2.2.2.2.2.1, ⟨hk.1.1.2.2.2.2.2.2, hk.1.2⟩⟩⟩⟩⟩⟩⟩)))⟩; have n6_ : Aside0 (w196.heap[gb1172]? = some (.cells #[.int .i64 a0_0, .slice A0_1 l0_1.length c0_1, .slice A0_2 l0_2.length c0_2] 25 (0, 0))) := ⟨(by rw [hw]; exact (by (with_reducible repeat (first | refine blk_drewN ?_ _ | refine blk_drew ?_ | refine blk_alloc ?_ _)); refine blk_far ?_ NB1172_1209.out _; (with_reducible repeat (first | refine blk_drewN ?_ _ | refine blk_drew ?_ | refine blk_alloc ?_ _)); refine blk_far ?_ NB1172_1209.out _; (with_reducible repeat (first | refine blk_drewN ?_ _ | refine blk_drew ?_ | refine blk_alloc ?_ _)); refine blk_far ?_ NB1172_1209.out _; (with_reducible repeat (first | refine blk_drewN ?_ _ | refine blk_drew ?_ | refine blk_alloc ?_ _)); exact BK1172.out))⟩; have n7_ : Aside0 (w196.heap[gb1184]? = some (.cells #[.int .i64 t1176, .slice Ao32 t1177.length co32, .slice Ao33 t1180.length co33] 25 (0, 0))) := ⟨(by rw [hw]; exact (by (with_reducible repeat (first | refine blk_drewN ?_ _ | refine blk_drew ?_ | refine blk_alloc ?_ _)); refine blk_far ?_ NB1184_1209.out _; (with_reducible repeat (first | refine blk_drewN ?_ _ | refine blk_drew ?_ | refine blk_alloc ?_ _)); refine blk_far ?_ NB1184_1209.out _; (with_reducible repeat (first | refine blk_drewN ?_ _ | refine blk_drew ?_ | refine blk_alloc ?_ _)); refine blk_far ?_ NB1184_1209.out _; (with_reducible repeat (first | refine blk_drewN ?_ _ | refine blk_drew ?_ | refine blk_alloc ?_ _)); exact BK1184.out))⟩; have n8_ : Aside0 (w196.heap[gb1194]? = some (.cells #[.int .i64 t1186, .slice Ao41 t1187.length co41, .slice Ao42 t1190.length co42] 25 (0, 0))) := ⟨(by rw [hw]; exact (by (with_reducible repeat (first | refine blk_drewN ?_ _ | refine blk_drew ?_ | refine blk_alloc ?_ _)); refine blk_far ?_ NB1194_1209.out _; (with_reducible repeat (first | refine blk_drewN ?_ _ | refine blk_drew ?_ | refine blk_alloc ?_ _)); refine blk_far ?_ NB1194_1209.out _; (with_reducible repeat (first | refine blk_drewN ?_ _ | refine blk_drew ?_ | refine blk_alloc ?_ _)); refine blk_far ?_ NB1194_1209.out _; (with_reducible repeat (first | refine blk_drewN ?_ _ | refine blk_drew ?_ | refine blk_alloc ?_ _)); exact BK1194.out))⟩; have n9_ : Aside0 (w196.heap[gb1209]? = some (.cells #[.int .i64 t1201, .slice Ao194 t1202.length co194, .slice Ao195 t1205.length co195] 25 (0, 0))) := ⟨(by rw [hw]; exact (by (with_reducible repeat (first | refine blk_drewN ?_ _ | refine blk_drew ?_ | refine blk_alloc ?_ _)); refine blk_put (cs := #[.int .i64 t1201, .slice Ao194 t1202.length co194, .slice none 0 0]) ?_ 2 _ rfl; (with_reducible repeat (first | refine blk_drewN ?_ _ | refine blk_drew ?_ | refine blk_alloc ?_ _)); refine blk_put (cs := #[.int .i64 t1201, .slice none 0 0, .slice none 0 0]) ?_ 1 _ rfl; (with_reducible repeat (first | refine blk_drewN ?_ _ | refine blk_drew ?_ | refine blk_alloc ?_ _)); refine blk_put (cs := #[.int .i64 0, .slice none 0 0, .slice none 0 0]) ?_ 0 _ rfl; (with_reducible repeat (first | refine blk_drewN ?_ _ | refine blk_drew ?_ | refine blk_alloc ?_ _)); exact BK1209.out))⟩; have n10_ : Aside0 (Below w.heap.size w w196) := ⟨(by rw [hw]; exact (by repeat (first | (with_reducible first | exact HB.out | apply below_alloc | apply pw_below_drewN | apply below_drew1 | refine below_set ?_ GE1172.out | refine below_set ?_ GE1184.out | refine below_set ?_ GE1194.out | refine below_set ?_ GE1209.out) | exact HB.out)))⟩; clear hw; clear HO_1185001; clear HO_1185002; clear HO_1195001; clear HO_1195002; clear HO1204; clear HO1207; clear BK1172; clear BK1184; clear BK1194; clear BK1209; clear HB; have HO_1185001 := n0_; have HO_1185002 := n1_; have HO_1195001 := n2_; have HO_1195002 := n3_; have HO1204 := n4_; have HO1207 := n5_; have BK1172 := n6_; have BK1184 := n7_; have BK1194 := n8_; have BK1209 := n9_; have HB := n10_; clear n0_ n1_ n2_ n3_ n4_ n5_ n6_ n7_ n8_ n9_ n10_; have hnb197 := NB1194_1172.out; have hnc197 := NB1172_1194.out; have hcz198_0 : w196.cell? ⟨gb1194, 0, none⟩ = some (.int .i64 t1186) := (blk_cell BK1194.out 0).trans rfl; have hcz198_1 : w196.cell? ⟨gb1194, 1, none⟩ = some (.slice Ao41 t1187.length co41) := (blk_cell BK1194.out 1).trans rfl; have hcz198_2 : w196.cell? ⟨gb1194, 2, none⟩ = some (.slice Ao42 t1190.length co42) := (blk_cell BK1194.out 2).trans rfl; have hfz198_0 := blk_frozen BK1194.out 0; have hfz198_1 := blk_frozen BK1194.out 1; have hfz198_2 := blk_frozen BK1194.out 2) | ((with_reducible refine gate_callee (f := 27) rfl ?_); refine goesL_ (some 126) rfl rfl Try.func27 (by kernel_rfl) rfl #[.agg #[.int .i64 t1186, .slice Ao41 t1187.length co41, .slice Ao42 t1190.length co42], .int .i64 a1, .slice A3 l3.length c3] rfl (by (try simp only [List.map_toArray, List.map_cons, List.map_nil]); first | done | rfl | (simp only [List.length_drop, List.length_take]; rfl)) ?_; (with_reducible refine (slots_Put.calls k3 t1186 _ _ t1187 (fun k_ => (some k_ ≠ (.slice Ao32 t1177.length co32 : Value).ownBlock ∧ (some k_ ≠ (.slice Ao33 t1180.length co33 : Value).ownBlock ∧ (some k_ ≠ (.slice Ao41 t1187.length co41 : Value).ownBlock ∧ (some k_ ≠ (.slice Ao194 t1202.length co194 : Value).ownBlock ∧ (some k_ ≠ (.slice Ao195 t1205.length co195 : Value).ownBlock ∧ (k_ ≠ gb1172 ∧ (k_ ≠ gb1184 ∧ (k_ ≠ gb1194 ∧ k_ ≠ gb1209))))))))) _ _ t1190 a1 _ _ l3 t1210 t1211 t1212 t1215 t1218 _ ?side1 ?side2 ?side3 ?side4 ?side5 A65.out).mono ?_); (case side1 => repeat (first | exact (Kd.R_reads' HO_1195001.out).2.2 | (with_reducible refine Kd.C_alloc ?_ _) | (with_reducible refine Kd.C_drewN ?_ _) | (with_reducible refine Kd.C_drew ?_))); (case side2 => exact (Kd.R_reads' HO_1195001.out).2.1); (case side3 => exact Kd.N_V (HO_1195002.out)); (case side4 => repeat (first | exact (Kd.C_below HR3.out HB.out) | (with_reducible refine Kd.C_alloc ?_ _) | (with_reducible refine Kd.C_drewN ?_ _) | (with_reducible refine Kd.C_drew ?_))); (case side5 => exact HC3.out); rintro e w199 ⟨v1213, v1216, rfl, ho0, ho1, hb⟩; refine ⟨_, rfl, ?_⟩; have n0_ := Aside0.mk (Kd.R_elder' (by (with_reducible repeat (first | apply Kd.R_alloc | apply Kd.R_drewN | apply Kd.R_drew)); exact HO_1185001.out) (Kd.R_base ho0) hb); have n1_ := Aside0.mk (Kd.N_mono (Kd.N_told (Kd.N_told (Kd.N_old (by (with_reducible repeat (first | apply Kd.N_alloc | apply Kd.N_drewN | apply Kd.N_drew)); exact HO_1185002.out) hb) (Kd.R_base ho0)) (Kd.N_base ho1)) (fun _ h_ => h_.1)); have n2_ := Aside0.mk (Kd.R_elder' (by (with_reducible repeat (first | apply Kd.R_alloc | apply Kd.R_drewN | apply Kd.R_drew)); exact HO_1195001.out) (Kd.R_base ho0) hb); have n3_ := Aside0.mk (Kd.N_mono (Kd.N_told (Kd.N_told (Kd.N_old (by (with_reducible repeat (first | apply Kd.N_alloc | apply Kd.N_drewN | apply Kd.N_drew)); exact HO_1195002.out) hb) (Kd.R_base ho0)) (Kd.N_base ho1)) (fun _ h_ => h_.1)); have n4_ := Aside0.mk (Kd.R_elder' (by (with_reducible repeat (first | apply Kd.R_alloc | apply Kd.R_drewN | apply Kd.R_drew)); exact HO1204.out) (Kd.R_base ho0) hb); have n5_ := Aside0.mk (Kd.N_mono (Kd.N_told (Kd.N_told (Kd.N_old (by (with_reducible repeat (first | apply Kd.N_alloc | apply Kd.N_drewN | apply Kd.N_drew)); exact HO1207.out) hb) (Kd.R_base ho0)) (Kd.N_base ho1)) (fun _ h_ => h_.1)); have n6_ := Aside0.mk (Kd.R_lower (Kd.R_new' (Kd.R_new' (Kd.R_new' (Kd.R_mono (ok' := fun k_ => True) ho0 (fun _ hk_ => trivial)) (Kd.R_lt (by (with_reducible repeat (first | apply Kd.R_alloc | apply Kd.R_drewN | apply Kd.R_drew)); exact HO_1185001.out))) (Kd.R_lt (by (with_reducible repeat (first | apply Kd.R_alloc | apply Kd.R_drewN | apply Kd.R_drew)); exact HO_1195001.out))) (Kd.R_lt (by (with_reducible repeat (first | apply Kd.R_alloc | apply Kd.R_drewN | apply Kd.R_drew)); exact HO1204.out))) (below_size (by repeat (first | (with_reducible first | exact HB.out | apply below_alloc | apply pw_below_drewN | apply below_drew1 | refine below_set ?_ GE1172.out | refine below_set ?_ GE1184.out | refine below_set ?_ GE1194.out | refine below_set ?_ GE1209.out) | exact HB.out)))); have n7_ := Aside0.mk (Kd.N_lower (Kd.N_mono (ok' := fun k_ => some k_ ≠ (v1213 : Value).ownBlock ∧ some k_ ≠ (.slice Ao32 t1177.length co32 : Value).ownBlock ∧ some k_ ≠ (.slice Ao33 t1180.length co33 : Value).ownBlock ∧ some k_ ≠ (.slice Ao41 t1187.length co41 : Value).ownBlock ∧ some k_ ≠ (.slice Ao194 t1202.length co194 : Value).ownBlock ∧ some k_ ≠ (.slice Ao195 t1205.length co195 : Value).ownBlock ∧ k_ ≠ gb1172 ∧ k_ ≠ gb1184 ∧ k_ ≠ gb1194 ∧ k_ ≠ gb1209) ho1 (fun k_ hk_ => ⟨hk_.2, Or.elim hk_.1 (fun hs_ => hs_.1) (fun hn_ => (Kd.fresh' (Kd.R_lt (by (with_reducible repeat (first | apply Kd.R_alloc | apply Kd.R_drewN | apply Kd.R_drew)); exact HO_1185001.out)) k_ hn_)), Or.elim hk_.1 (fun hs_ => hs_.2.1) (fun hn_ => (Kd.fresh' (Kd.N_lt (by (with_reducible repeat (first | apply Kd.N_alloc | apply Kd.N_drewN | apply Kd.N_drew)); exact HO_1185002.out)) k_ hn_)), Or.elim hk_.1 (fun hs_ => hs_.2.2.1) (fun hn_ => (Kd.fresh' (Kd.R_lt (by (with_reducible repeat (first | apply Kd.R_alloc | apply Kd.R_drewN | apply Kd.R_drew)); exact HO_1195001.out)) k_ hn_)), Or.elim hk_.1 (fun hs_ => hs_.2.2.2.1) (fun hn_ => (Kd.fresh' (Kd.R_lt (by (with_reducible repeat (first | apply Kd.R_alloc | apply Kd.R_drewN | apply Kd.R_drew)); exact HO1204.out)) k_ hn_)), Or.elim hk_.1 (fun hs_ => hs_.2.2.2.2.1) (fun hn_ => (Kd.fresh' (Kd.N_lt (by (with_reducible repeat (first | apply Kd.N_alloc | apply Kd.N_drewN | apply Kd.N_drew)); exact HO1207.out)) k_ hn_)), Or.elim hk_.1 (fun hs_ => hs_.2.2.2.2.2.1) (fun hn_ => (Kd.freshB (g := gb1172) (o := .cells #[.int .i64 a0_0, .slice A0_1 l0_1.length c0_1, .slice A0_2 l0_2.length c0_2] 25 (0, 0)) (by (with_reducible repeat (first | refine blk_drewN ?_ _ | refine blk_drew ?_ | refine blk_alloc ?_ _)); exact BK1172.out) k_ hn_)), Or.elim hk_.1 (fun hs_ => hs_.2.2.2.2.2.2.1) (fun hn_ => (Kd.freshB (g := gb1184) (o := .cells #[.int .i64 t1176, .slice Ao32 t1177.length co32, .slice Ao33 t1180.length co33] 25 (0, 0)) (by (with_reducible repeat (first | refine blk_drewN ?_ _ | refine blk_drew ?_ | refine blk_alloc ?_ _)); exact BK1184.out) k_ hn_)), Or.elim hk_.1 (fun hs_ => hs_.2.2.2.2.2.2.2.1) (fun hn_ => (Kd.freshB (g := gb1194) (o := .cells #[.int .i64 t1186, .slice Ao41 t1187.length co41, .slice Ao42 t1190.length co42] 25 (0, 0)) (by (with_reducible repeat (first | refine blk_drewN ?_ _ | refine blk_drew ?_ | refine blk_alloc ?_ _)); exact BK1194.out) k_ hn_)), Or.elim hk_.1 (fun hs_ => hs_.2.2.2.2.2.2.2.2) (fun hn_ => (Kd.freshB (g := gb1209) (o := .cells #[.int .i64 t1201, .slice Ao194 t1202.length co194, .slice Ao195 t1205.length co195] 25 (0, 0)) (by (with_reducible repeat (first | refine blk_drewN ?_ _ | refine blk_drew ?_ | refine blk_alloc ?_ _)); exact BK1209.out) k_ hn_))⟩)) (below_size (by repeat (first | (with_reducible first | exact HB.out | apply below_alloc | apply pw_below_drewN | apply below_drew1 | refine below_set ?_ GE1172.out | refine below_set ?_ GE1184.out | refine below_set ?_ GE1194.out | refine below_set ?_ GE1209.out) | exact HB.out)))); have n8_ := Aside0.mk (blk_below (g := gb1172) (o := .cells #[.int .i64 a0_0, .slice A0_1 l0_1.length c0_1, .slice A0_2 l0_2.length c0_2] 25 (0, 0)) (by (with_reducible repeat (first | refine blk_drewN ?_ _ | refine blk_drew ?_ | refine blk_alloc ?_ _)); exact BK1172.out) hb); have n9_ := Aside0.mk (blk_below (g := gb1184) (o := .cells #[.int .i64 t1176, .slice Ao32 t1177.length co32, .slice Ao33 t1180.length co33] 25 (0, 0)) (by (with_reducible repeat (first | refine blk_drewN ?_ _ | refine blk_drew ?_ | refine blk_alloc ?_ _)); exact BK1184.out) hb); have n10_ := Aside0.mk (blk_below (g := gb1194) (o := .cells #[.int .i64 t1186, .slice Ao41 t1187.length co41, .slice Ao42 t1190.length co42] 25 (0, 0)) (by (with_reducible repeat (first | refine blk_drewN ?_ _ | refine blk_drew ?_ | refine blk_alloc ?_ _)); exact BK1194.out) hb); have n11_ := Aside0.mk (blk_below (g := gb1209) (o := .cells #[.int .i64 t1201, .slice Ao194 t1202.length co194, .slice Ao195 t1205.length co195] 25 (0, 0)) (by (with_reducible repeat (first | refine blk_drewN ?_ _ | refine blk_drew ?_ | refine blk_alloc ?_ _)); exact BK1209.out) hb); have n12_ := Aside0.mk (below_step (by repeat (first | (with_reducible first | exact HB.out | apply below_alloc | apply pw_below_drewN | apply below_drew1 | refine below_set ?_ GE1172.out | refine below_set ?_ GE1184.out | refine below_set ?_ GE1194.out | refine below_set ?_ GE1209.out) | exact HB.out)) hb); clear HO_1185001; clear HO_1185002; clear HO_1195001; clear HO_1195002; clear HO1204; clear HO1207; clear BK1172; clear BK1184; clear BK1194; clear BK1209; clear HB; have HO_1185001 := n0_; have HO_1185002 := n1_; have HO_1195001 := n2_; have HO_1195002 := n3_; have HO1204 := n4_; have HO1207 := n5_; have HO1214 := n6_; have HO1217 := n7_; have BK1172 := n8_; have BK1184 := n9_; have BK1194 := n10_; have BK1209 := n11_; have HB := n12_; clear n0_ n1_ n2_ n3_ n4_ n5_ n6_ n7_ n8_ n9_ n10_ n11_ n12_; (try clear hb); (try clear hb2); (try clear hk); (try clear hi); (try clear ho0); (try clear ho1)) | ((with_reducible refine gate_dst (N := 24) rfl ?_); (try (refine gate_guard (by rfl) ?_; dsimp only)); refine box_event ?hg (N := 24) ?hd (cs := #[.int .i64 0, .slice none 0 0, .slice none 0 0]) (t := 25) ?hr ?_; (case hd => rfl); (case hg => rfl); (case hr => first | (go_simp; done) | (go_simp; rfl)); intro gb1219 hg w200 hbox hb; have n0_ := Aside0.mk (Kd.R_below (by (with_reducible repeat (first | apply Kd.R_alloc | apply Kd.R_drewN | apply Kd.R_drew)); exact HO_1185001.out) hb); have n1_ := Aside0.mk (Kd.N_below (Kd.N_elderB (by (with_reducible repeat (first | apply Kd.N_alloc | apply Kd.N_drewN | apply Kd.N_drew)); exact HO_1185002.out) gb1219 (Nat.le_of_eq hg.symm)) hb); have n2_ := Aside0.mk (Kd.R_below (by (with_reducible repeat (first | apply Kd.R_alloc | apply Kd.R_drewN | apply Kd.R_drew)); exact HO_1195001.out) hb); have n3_ := Aside0.mk (Kd.N_below (Kd.N_elderB (by (with_reducible repeat (first | apply Kd.N_alloc | apply Kd.N_drewN | apply Kd.N_drew)); exact HO_1195002.out) gb1219 (Nat.le_of_eq hg.symm)) hb); have n4_ := Aside0.mk (Kd.R_below (by (with_reducible repeat (first | apply Kd.R_alloc | apply Kd.R_drewN | apply Kd.R_drew)); exact HO1204.out) hb); have n5_ := Aside0.mk (Kd.N_below (Kd.N_elderB (by (with_reducible repeat (first | apply Kd.N_alloc | apply Kd.N_drewN | apply Kd.N_drew)); exact HO1207.out) gb1219 (Nat.le_of_eq hg.symm)) hb); have n6_ := Aside0.mk (Kd.R_below (by (with_reducible repeat (first | apply Kd.R_alloc | apply Kd.R_drewN | apply Kd.R_drew)); exact HO1214.out) hb); have n7_ := Aside0.mk (Kd.N_below (Kd.N_elderB (by (with_reducible repeat (first | apply Kd.N_alloc | apply Kd.N_drewN | apply Kd.N_drew)); exact HO1217.out) gb1219 (Nat.le_of_eq hg.symm)) hb); have n8_ := Aside0.mk (blk_below (g := gb1172) (o := .cells #[.int .i64 a0_0, .slice A0_1 l0_1.length c0_1, .slice A0_2 l0_2.length c0_2] 25 (0, 0)) (by (with_reducible repeat (first | refine blk_drewN ?_ _ | refine blk_drew ?_ | refine blk_alloc ?_ _)); exact BK1172.out) hb); have n9_ := Aside0.mk (blk_below (g := gb1184) (o := .cells #[.int .i64 t1176, .slice Ao32 t1177.length co32, .slice Ao33 t1180.length co33] 25 (0, 0)) (by (with_reducible repeat (first | refine blk_drewN ?_ _ | refine blk_drew ?_ | refine blk_alloc ?_ _)); exact BK1184.out) hb); have n10_ := Aside0.mk (blk_below (g := gb1194) (o := .cells #[.int .i64 t1186, .slice Ao41 t1187.length co41, .slice Ao42 t1190.length co42] 25 (0, 0)) (by (with_reducible repeat (first | refine blk_drewN ?_ _ | refine blk_drew ?_ | refine blk_alloc ?_ _)); exact BK1194.out) hb); have n11_ := Aside0.mk (blk_below (g := gb1209) (o := .cells #[.int .i64 t1201, .slice Ao194 t1202.length co194, .slice Ao195 t1205.length co195] 25 (0, 0)) (by (with_reducible repeat (first | refine blk_drewN ?_ _ | refine blk_drew ?_ | refine blk_alloc ?_ _)); exact BK1209.out) hb); have n12_ := Aside0.mk (below_step (by repeat (first | (with_reducible first | exact HB.out | apply below_alloc | apply pw_below_drewN | apply below_drew1 | refine below_set ?_ GE1172.out | refine below_set ?_ GE1184.out | refine below_set ?_ GE1194.out | refine below_set ?_ GE1209.out) | exact HB.out)) hb); have n13_ := Aside0.mk (hbox); have n14_ := Aside0.mk ((by rw [hg]; exact (below_size (by repeat (first | (with_reducible first | exact HB.out | apply below_alloc | apply pw_below_drewN | apply below_drew1 | refine below_set ?_ GE1172.out | refine below_set ?_ GE1184.out | refine below_set ?_ GE1194.out | refine below_set ?_ GE1209.out) | exact HB.out))) : w.heap.size ≤ gb1219)); have n15_ := Aside0.mk ((by rw [hg]; exact (below_size (by repeat (first | (with_reducible first | exact HB.out | apply below_alloc | apply pw_below_drewN | apply below_drew1 | refine below_set ?_ GE1172.out | refine below_set ?_ GE1184.out | refine below_set ?_ GE1194.out | refine below_set ?_ GE1209.out) | exact HB.out))) : w.heap.size ≤ gb1219)); have n16_ := Aside0.mk ((by rw [hg]; exact Nat.ne_of_lt (blk_lt (g := gb1172) (o := .cells #[.int .i64 a0_0, .slice A0_1 l0_1.length c0_1, .slice A0_2 l0_2.length c0_2] 25 (0, 0)) (by (with_reducible repeat (first | refine blk_drewN ?_ _ | refine blk_drew ?_ | refine blk_alloc ?_ _)); exact BK1172.out)) : gb1172 ≠ gb1219)); have n17_ := Aside0.mk ((by rw [hg]; exact Nat.ne_of_gt (blk_lt (g := gb1172) (o := .cells #[.int .i64 a0_0, .slice A0_1 l0_1.length c0_1, .slice A0_2 l0_2.length c0_2] 25 (0, 0)) (by (with_reducible repeat (first | refine blk_drewN ?_ _ | refine blk_drew ?_ | refine blk_alloc ?_ _)); exact BK1172.out)) : gb1219 ≠ gb1172)); have n18_ := Aside0.mk ((by rw [hg]; exact Nat.ne_of_lt (blk_lt (g := gb1184) (o := .cells #[.int .i64 t1176, .slice Ao32 t1177.length co32, .slice Ao33 t1180.length co33] 25 (0, 0)) (by (with_reducible repeat (first | refine blk_drewN ?_ _ | refine blk_drew ?_ | refine blk_alloc ?_ _)); exact BK1184.out)) : gb1184 ≠ gb1219)); have n19_ := Aside0.mk ((by rw [hg]; exact Nat.ne_of_gt (blk_lt (g := gb1184) (o := .cells #[.int .i64 t1176, .slice Ao32 t1177.length co32, .slice Ao33 t1180.length co33] 25 (0, 0)) (by (with_reducible repeat (first | refine blk_drewN ?_ _ | refine blk_drew ?_ | refine blk_alloc ?_ _)); exact BK1184.out)) : gb1219 ≠ gb1184)); have n20_ := Aside0.mk ((by rw [hg]; exact Nat.ne_of_lt (blk_lt (g := gb1194) (o := .cells #[.int .i64 t1186, .slice Ao41 t1187.length co41, .slice Ao42 t1190.length co42] 25 (0, 0)) (by (with_reducible repeat (first | refine blk_drewN ?_ _ | refine blk_drew ?_ | refine blk_alloc ?_ _)); exact BK1194.out)) : gb1194 ≠ gb1219)); have n21_ := Aside0.mk ((by rw [hg]; exact Nat.ne_of_gt (blk_lt (g := gb1194) (o := .cells #[.int .i64 t1186, .slice Ao41 t1187.length co41, .slice Ao42 t1190.length co42] 25 (0, 0)) (by (with_reducible repeat (first | refine blk_drewN ?_ _ | refine blk_drew ?_ | refine blk_alloc ?_ _)); exact BK1194.out)) : gb1219 ≠ gb1194)); have n22_ := Aside0.mk ((by rw [hg]; exact Nat.ne_of_lt (blk_lt (g := gb1209) (o := .cells #[.int .i64 t1201, .slice Ao194 t1202.length co194, .slice Ao195 t1205.length co195] 25 (0, 0)) (by (with_reducible repeat (first | refine blk_drewN ?_ _ | refine blk_drew ?_ | refine blk_alloc ?_ _)); exact BK1209.out)) : gb1209 ≠ gb1219)); have n23_ := Aside0.mk ((by rw [hg]; exact Nat.ne_of_gt (blk_lt (g := gb1209) (o := .cells #[.int .i64 t1201, .slice Ao194 t1202.length co194, .slice Ao195 t1205.length co195] 25 (0, 0)) (by (with_reducible repeat (first | refine blk_drewN ?_ _ | refine blk_drew ?_ | refine blk_alloc ?_ _)); exact BK1209.out)) : gb1219 ≠ gb1209)); clear HO_1185001; clear HO_1185002; clear HO_1195001; clear HO_1195002; clear HO1204; clear HO1207; clear HO1214; clear HO1217; clear BK1172; clear BK1184; clear BK1194; clear BK1209; clear HB; have HO_1185001 := n0_; have HO_1185002 := n1_; have HO_1195001 := n2_; have HO_1195002 := n3_; have HO1204 := n4_; have HO1207 := n5_; have HO1214 := n6_; have HO1217 := n7_; have BK1172 := n8_; have BK1184 := n9_; have BK1194 := n10_; have BK1209 := n11_; have HB := n12_; have BK1219 := n13_; have GW1219 := n14_; have GE1219 := n15_; have NB1172_1219 := n16_; have NB1219_1172 := n17_; have NB1184_1219 := n18_; have NB1219_1184 := n19_; have NB1194_1219 := n20_; have NB1219_1194 := n21_; have NB1209_1219 := n22_; have NB1219_1209 := n23_; clear n0_ n1_ n2_ n3_ n4_ n5_ n6_ n7_ n8_ n9_ n10_ n11_ n12_ n13_ n14_ n15_ n16_ n17_ n18_ n19_ n20_ n21_ n22_ n23_; clear hb hbox hg; have hnb201 := NB1219_1172.out; have hnc201 := NB1172_1219.out; have hnb202 := NB1219_1184.out; have hnc202 := NB1184_1219.out; have hnb203 := NB1219_1194.out; have hnc203 := NB1194_1219.out; have hnb204 := NB1219_1209.out; have hnc204 := NB1209_1219.out; have hcz205_0 : w200.cell? ⟨gb1219, 0, none⟩ = some (.int .i64 0) := (blk_cell BK1219.out 0).trans rfl; have hcz205_1 : w200.cell? ⟨gb1219, 1, none⟩ = some (.slice none 0 0) := (blk_cell BK1219.out 1).trans rfl; have hcz205_2 : w200.cell? ⟨gb1219, 2, none⟩ = some (.slice none 0 0) := (blk_cell BK1219.out 2).trans rfl; have hfz205_0 := blk_frozen BK1219.out 0; have hfz205_1 := blk_frozen BK1219.out 1; have hfz205_2 := blk_frozen BK1219.out 2; obtain ⟨Ao206, co206, eo206⟩ := Kd.R_slice HO1214.out; subst eo206; obtain ⟨Ao207, co207, eo207⟩ := Kd.N_slice HO1217.out; subst eo207))
                            go_ret
                            exact ⟨by first | rfl | (simp [errW_none, errW_some] <;> rfl) | (simp [*, errW_none, errW_some] <;> rfl), by repeat (first | (with_reducible first | exact HB.out | apply below_alloc | apply pw_below_drewN | apply below_drew1 | refine below_set ?_ GE1172.out | refine below_set ?_ GE1184.out | refine below_set ?_ GE1194.out | refine below_set ?_ GE1209.out | refine below_set ?_ GE1219.out) | exact HB.out)⟩
                          · exact absurd rfl c184
                      · rw [if_neg c66] at H
                        have c66b0 : (t1208 == t1218) = false := beq_eq_false_iff_ne.mpr c66
                        have c66b1 : (t1208 != t1218) = true := bne_iff_ne.mpr c66
                        exact absurd (Option.some.inj H) (by rw [hT_]; decide)
  · replace c7 := Bool.eq_false_iff.mpr c7
    subst c7
    have H1 : (some false) = some r := by rw [if_neg (show ¬ (false = true) by decide)] at H; exact H
    clear H
    have H := H1
    clear H1
    exact absurd (Option.some.inj H) (by rw [hT_]; decide)

end Go.Proofs.Ytkjibgfgbfacdaa.P
end
/-! part: PSlotsBase -/
section
set_option linter.unusedVariables false
set_option linter.unusedSimpArgs false
namespace Go.Proofs.Ytkjibgfgbfacdaa.P
open Go.RowKit Go.Proofs.YtkjibgfgbfacdaaW.PrintWords Go.Proofs.YtkjibgfgbfacdaaW.PrintLast Go.Proofs.YtkjibgfgbfacdaaW.PrintMore
set_option linter.unusedVariables false
def few10 (ids : List Int) (vecs : List (List Int)) : Bool := vecs.all (fun v => decide (v.length ≤ 100)) && ((decide (ids.length ≤ 60) && decide (vecs.length ≤ 60)) || (decide (ids.length = 257) && decide (vecs.length = 257)))
theorem few10_l (dim : Int) (ids : List Int) (s : List (List Int)) (hm : s.length ≤ 9223372036854775807) (d : Nat) : ∀ i : Int, 0 ≤ i → i ≤ (s.length : Int) → (s.length : Int) - i = d →
    Ev (fun k => cuvetteref10_Few.l0 k s (s.length : Int) i dim ids s) ((s.drop i.toNat).all (fun v => decide (v.length ≤ 100)) && ((decide (ids.length ≤ 60) && decide (s.length ≤ 60)) || (decide (ids.length = 257) && decide (s.length = 257)))) := by
  induction d with
  | zero =>
    intro i h0 h1 hd
    refine Ev.step (fun k => by simp only [cuvetteref10_Few.l0]; rw [if_neg (by omega)]) ?_
    rw [List.drop_eq_nil_of_le (by omega)]
    refine Ev.of fun k => ?_
    have b2 : ((s.length : Int) == 257) = decide (s.length = 257) := by rw [Bool.eq_iff_iff]; simp; omega
    rw [b2]
    by_cases g1 : ids.length ≤ 60
    · rw [if_pos (by omega), decide_eq_true g1, decide_eq_false (p := ids.length = 257) (by omega)]
      by_cases g2 : s.length ≤ 60
      · rw [if_pos (by omega), decide_eq_true g2]; rfl
      · rw [if_neg (by omega), if_neg (by omega), decide_eq_false g2]; rfl
    · rw [if_neg (by omega), decide_eq_false g1]
      by_cases g3 : ids.length = 257
      · rw [if_pos (by omega), decide_eq_true g3]; simp
      · rw [if_neg (by omega), decide_eq_false g3]; simp
  | succ d ih =>
    intro i h0 h1 hd
    have e := rdO [] s i h0 (by omega)
    refine Ev.step (fun k => by simp only [cuvetteref10_Few.l0]; rw [if_pos (by omega), if_pos h0, if_pos (by omega), w64 (by omega) (by omega)]) ?_
    rw [e]
    have er : rd_L3 s i = s.getD i.toNat [] := rfl
    by_cases h : ((rd_L3 s i).length : Int) > 100
    · simp only [if_pos h]
      rw [er] at h
      have : decide ((s.getD i.toNat []).length ≤ 100) = false := decide_eq_false (by omega)
      rw [List.all_cons, this]
      exact Ev.const _
    · simp only [if_neg h]
      rw [er] at h
      have : decide ((s.getD i.toNat []).length ≤ 100) = true := decide_eq_true (by omega)
      rw [List.all_cons, this, Bool.true_and]
      exact ih (i + 1) (by omega) (by omega) (by omega)
theorem few10_ev (dim : Int) (ids : List Int) (s : List (List Int)) (hm : s.length ≤ 9223372036854775807) : Ev (fun k => cuvetteref10_Few.f k dim ids s) (few10 ids s) :=
  few10_l dim ids s hm s.length 0 (by omega) (by omega) (by omega)

theorem cloneVec (v : List Int) (h : v.length < 70368744177664) : api_Vec_int16_98.f v = some v := by
  unfold api_Vec_int16_98.f
  simp [h]
theorem vecOk_len {v : List Int} (h : vecOk v = true) : 1 ≤ v.length ∧ v.length ≤ 64 := by
  unfold vecOk at h
  simp only [Bool.and_eq_true, decide_eq_true_eq] at h
  exact h.1
theorem slotsOk_parts {dim : Int} {ids : List Int} {vecs : List (List Int)} (h : slotsOk dim ids vecs = true) :
    1 ≤ dim ∧ dim ≤ 64 ∧ 1 ≤ ids.length ∧ ids.length ≤ 256 ∧ vecs.length = ids.length ∧ (∀ j : Nat, j < ids.length → slotOk dim (ids.getD j 0) (vecs.getD j []) = true) ∧ (ids.filter (fun x => decide (x ≠ -1))).Nodup := by
  unfold slotsOk at h
  simp only [Bool.and_eq_true, decide_eq_true_eq] at h
  obtain ⟨⟨⟨⟨⟨⟨h1, h2⟩, h3⟩, h4⟩, h5⟩, h6⟩, h7⟩ := h
  refine ⟨h1, h2, h3, h4, h5, fun j hj => ?_, h7⟩
  have hv : j < vecs.length := by omega
  have hm : (ids[j], vecs[j]) ∈ ids.zip vecs := by
    have hz : j < (ids.zip vecs).length := by rw [List.length_zip]; omega
    have := List.getElem_mem hz
    rwa [List.getElem_zip] at this
  have := List.all_eq_true.1 h6 _ hm
  simpa [List.getD_eq_getElem?_getD, hj, hv] using this
theorem i64B_of {l : List Int} (h : okI .i64 l) : l.all i64B = true := by
  refine List.all_eq_true.2 fun n hn => ?_
  obtain ⟨h0, h1⟩ := okN_i64 (h.2 n hn)
  unfold i64B
  rw [decide_eq_true h0, decide_eq_true h1]
  rfl
end Go.Proofs.Ytkjibgfgbfacdaa.P
end
