/- The law SlotsApart of this seat answers true for every input, and its arguments read as they did. Conditions: none. -/
import Derived.Test.YtkjibgfgbfacdaaRows
import Derived.Test.YtkjibgfgbfacdaaKSlotsApart0
import Derived.Test.YtkjibgfgbfacdaaKSlotsApart1
import Derived.Test.YtkjibgfgbfacdaaKSlotsApart2
import Derived.Test.YtkjibgfgbfacdaaKSlotsApart3
import Derived.Test.YtkjibgfgbfacdaaKSlotsApart4
/-! part: F101 -/
section
set_option linter.unusedVariables false
set_option linter.unusedSimpArgs false
namespace Go.Proofs.Ytkjibgfgbfacdaa.P
open Go.RowKit Go.Proofs.YtkjibgfgbfacdaaW.PrintWords Go.Proofs.YtkjibgfgbfacdaaW.PrintLast Go.Proofs.YtkjibgfgbfacdaaW.PrintMore
attribute [local go_sem] max2_int min2_int max_two min_two max_three min_three max_four min_four   -- for this text's walks alone
set_option linter.unusedVariables false
set_option linter.unusedSimpArgs false

/-! ### slices_Equal_int64_int64: function 101 -/
def slices_Equal_int64_int64.l0 : Nat → List Int → List Int → Int → Int → Option (Bool)
  | 0, _, _, _, _ => none
  | k + 1, x0, x1, x12, x13 => if x13 < x12 then (if 0 ≤ x13 then (if x13 < (x0.length : Int) then (if x13 < (x1.length : Int) then (if (rd x0 x13) = (rd x1 x13) then (slices_Equal_int64_int64.l0 k x0 x1 x12 (wrap64 (x13 + 1))) else (some false)) else (none)) else (none)) else (none)) else (some true)
def slices_Equal_int64_int64.f (k : Nat) (l0 : List Int) (l1 : List Int) : Option (Bool) := if (l0.length : Int) = (l1.length : Int) then (slices_Equal_int64_int64.l0 k l0 l1 (l0.length : Int) 0) else (some false)
theorem slices_Equal_int64_int64.mono_l : ∀ k, (∀ y0 y1 y2 y3, LeO (slices_Equal_int64_int64.l0 k y0 y1 y2 y3) (slices_Equal_int64_int64.l0 (k + 1) y0 y1 y2 y3))
  | 0 => fun _ _ _ _ r h => by simp [slices_Equal_int64_int64.l0] at h
  | k + 1 => by
    have ih0 := slices_Equal_int64_int64.mono_l k
    · intro y0 y1 y2 y3
      unfold slices_Equal_int64_int64.l0
      repeat' first
      | (with_reducible exact ih0 _ _ _ _)
      | (with_reducible exact LeO.refl _)
      | (with_reducible exact LeO.none _)
      | (with_reducible refine LeO.ite ?_ ?_)
      | (with_reducible refine LeO.bind ?_ (fun _ => ?_))
      | exact ih0 _ _ _ _
      | exact LeO.none _
      | refine LeO.ite ?_ ?_
      | refine LeO.bind ?_ (fun _ => ?_)
theorem slices_Equal_int64_int64.mono : ∀ a0 a1 k, LeO (slices_Equal_int64_int64.f k a0 a1) (slices_Equal_int64_int64.f (k + 1) a0 a1) := by
  intro a0 a1 k
  have ih0 := slices_Equal_int64_int64.mono_l k
  unfold slices_Equal_int64_int64.f
  repeat' first
      | (with_reducible exact ih0 _ _ _ _)
      | (with_reducible exact LeO.refl _)
      | (with_reducible exact LeO.none _)
      | (with_reducible refine LeO.ite ?_ ?_)
      | (with_reducible refine LeO.bind ?_ (fun _ => ?_))
      | exact ih0 _ _ _ _
      | exact LeO.none _
      | refine LeO.ite ?_ ?_
      | refine LeO.bind ?_ (fun _ => ?_)
set_option maxHeartbeats 8000000 in
set_option maxRecDepth 100000 in
theorem slices_Equal_int64_int64.calls (k : Nat) (A0 : Option Addr) (c0 : Nat) (l0 : List Int) (A1 : Option Addr) (c1 : Nat) (l1 : List Int) (r : Bool) (w : World) (hr0 : Kd.C (Kd.int .i64) w A0 l0.length l0) (hc0 : l0.length ≤ c0) (hr1 : Kd.C (Kd.int .i64) w A1 l1.length l1) (hc1 : l1.length ≤ c1) (h : slices_Equal_int64_int64.f k l0 l1 = some r) :
    Calls Try.prog 101 #[.slice A0 l0.length c0, .slice A1 l1.length c1] w fun e w' => e = .returned (.bool r) ∧ Drawn0 w w' := by
  have HR0 := Aside0.mk hr0
  have HC0 := Aside0.mk hc0
  clear hr0 hc0
  have HR1 := Aside0.mk hr1
  have HC1 := Aside0.mk hc1
  clear hr1 hc1
  have H : (if (l0.length : Int) = (l1.length : Int) then (slices_Equal_int64_int64.l0 k l0 l1 (l0.length : Int) 0) else (some false)) = some r := h
  clear h
  by_cases c3 : (l0.length : Int) = (l1.length : Int)
  · rw [if_pos c3] at H
    have c3b0 : ((l0.length : Int) == (l1.length : Int)) = true := beq_iff_eq.mpr c3
    have c3b1 : ((l0.length : Int) != (l1.length : Int)) = false := bne_eq_false_iff_eq.mpr c3
    have c3b2 : (l0.length == l1.length) = true := by first | simpa using c3 | (simp at c3 ⊢; omega)
    clear c3
    have H' := Aside0.mk H
    clear H
    go_enter Try.func101, Try.ntmps101
    go_wp2
    repeat (go_quiet (fail); try go_wp2)
    go_loopg [13] k (fun kq v13 w' => ∃ (x13_1 : Int), v13 = .int .i64 x13_1 ∧ Aside0 (slices_Equal_int64_int64.l0 kq l0 l1 (l0.length : Int) x13_1 = some r) ∧ Aside0 (kq ≤ k) ∧ Drawn0 w w')
    case atStart => exact ⟨(0), (by first | rfl | (simp; done) | (simp [*]; done)), H', ⟨Nat.le_refl _⟩, by repeat (first | exact Drawn0.refl _ | apply Drawn0.step)⟩
    case round =>
      clear H'
      try clear c1
      try clear p2
      try clear c3
      try clear c3b0
      try clear c3b1
      try clear c3b2
      obtain ⟨x13_1, rfl, HA, HK1, ⟨m1, rfl⟩⟩ := hrel
      cases gk with
      | zero => exact absurd HA.out (by simp [slices_Equal_int64_int64.l0])
      | succ k1 =>
        have H := HA.out
        clear HA
        simp only [slices_Equal_int64_int64.l0] at H
        by_cases c4 : x13_1 < (l0.length : Int)
        · rw [if_pos c4] at H
          have c4b0 : decide (x13_1 < (l0.length : Int)) = true := decide_eq_true c4
          clear c4
          by_cases c5 : 0 ≤ x13_1
          · rw [if_pos c5] at H
            have c5b0 : decide (0 ≤ x13_1) = true := decide_eq_true c5
            clear c5
            by_cases c6 : x13_1 < (l0.length : Int)
            · rw [if_pos c6] at H
              have c6b0 : decide (x13_1 < (l0.length : Int)) = true := decide_eq_true c6
              clear c6
              by_cases c7 : x13_1 < (l1.length : Int)
              · rw [if_pos c7] at H
                have c7b0 : decide (x13_1 < (l1.length : Int)) = true := decide_eq_true c7
                clear c7
                by_cases c8 : (rd l0 x13_1) = (rd l1 x13_1)
                · rw [if_pos c8] at H
                  have c8b0 : ((rd l0 x13_1) == (rd l1 x13_1)) = true := beq_iff_eq.mpr c8
                  have c8b1 : ((rd l0 x13_1) != (rd l1 x13_1)) = false := bne_eq_false_iff_eq.mpr c8
                  clear c8
                  have H' := Aside0.mk H
                  clear H
                  have p377 : 0 ≤ (x13_1 : Int) := of_decide_eq_true (by first | (with_reducible assumption) | assumption)
                  have q377 : x13_1 < (l0.length : Int) := of_decide_eq_true (by first | (with_reducible assumption) | assumption)
                  obtain ⟨ad377, e377, hx377_0⟩ := Kd.at_int HR0.out x13_1 p377 q377
                  cases e377
                  replace p377 := eq_true p377
                  replace q377 := eq_true q377
                  have p378 : 0 ≤ (x13_1 : Int) := of_decide_eq_true (by first | (with_reducible assumption) | assumption)
                  have q378 : x13_1 < (l1.length : Int) := of_decide_eq_true (by first | (with_reducible assumption) | assumption)
                  obtain ⟨ad378, e378, hx378_0⟩ := Kd.at_int HR1.out x13_1 p378 q378
                  cases e378
                  replace p378 := eq_true p378
                  replace q378 := eq_true q378
                  go_wp2
                  repeat (go_quiet (fail); try go_wp2)
                  go_roundg k1
                  case measure => have := HK1.out; omega
                  case rel => exact ⟨(wrap64 (x13_1 + 1)), (by first | rfl | (simp; done) | (simp [*]; done)), H', ⟨by have := HK1.out; omega⟩, by repeat (first | exact Drawn0.refl _ | apply Drawn0.step)⟩
                · rw [if_neg c8] at H
                  have c8b0 : ((rd l0 x13_1) == (rd l1 x13_1)) = false := beq_eq_false_iff_ne.mpr c8
                  have c8b1 : ((rd l0 x13_1) != (rd l1 x13_1)) = true := bne_iff_ne.mpr c8
                  obtain rfl := Option.some.inj H
                  have p377 : 0 ≤ (x13_1 : Int) := of_decide_eq_true (by first | (with_reducible assumption) | assumption)
                  have q377 : x13_1 < (l0.length : Int) := of_decide_eq_true (by first | (with_reducible assumption) | assumption)
                  obtain ⟨ad377, e377, hx377_0⟩ := Kd.at_int HR0.out x13_1 p377 q377
                  cases e377
                  replace p377 := eq_true p377
                  replace q377 := eq_true q377
                  have p378 : 0 ≤ (x13_1 : Int) := of_decide_eq_true (by first | (with_reducible assumption) | assumption)
                  have q378 : x13_1 < (l1.length : Int) := of_decide_eq_true (by first | (with_reducible assumption) | assumption)
                  obtain ⟨ad378, e378, hx378_0⟩ := Kd.at_int HR1.out x13_1 p378 q378
                  cases e378
                  replace p378 := eq_true p378
                  replace q378 := eq_true q378
                  go_wp2
                  repeat (go_quiet (fail); try go_wp2)
                  go_ret
                  exact ⟨by first | rfl | (simp; done) | (simp [*]; done), by repeat (first | exact Drawn0.refl _ | apply Drawn0.step)⟩
              · rw [if_neg c7] at H
                exact absurd H (by simp)
            · rw [if_neg c6] at H
              exact absurd H (by simp)
          · rw [if_neg c5] at H
            exact absurd H (by simp)
        · rw [if_neg c4] at H
          have c4b0 : decide (x13_1 < (l0.length : Int)) = false := decide_eq_false c4
          clear c4
          obtain rfl := Option.some.inj H
          go_wp2
          repeat (go_quiet (fail); try go_wp2)
          go_ret
          exact ⟨by first | rfl | (simp; done) | (simp [*]; done), by repeat (first | exact Drawn0.refl _ | apply Drawn0.step)⟩
  · rw [if_neg c3] at H
    have c3b0 : ((l0.length : Int) == (l1.length : Int)) = false := beq_eq_false_iff_ne.mpr c3
    have c3b1 : ((l0.length : Int) != (l1.length : Int)) = true := bne_iff_ne.mpr c3
    have c3b2 : (l0.length == l1.length) = false := by first | simpa using c3 | (simp at c3 ⊢; omega)
    obtain rfl := Option.some.inj H
    go_enter Try.func101, Try.ntmps101
    go_wp2
    repeat (go_quiet (fail); try go_wp2)
    go_ret
    exact ⟨by first | rfl | (simp; done) | (simp [*]; done), by repeat (first | exact Drawn0.refl _ | apply Drawn0.step)⟩

end Go.Proofs.Ytkjibgfgbfacdaa.P
end
/-! part: HEqualFunc -/
section
set_option linter.unusedVariables false
set_option linter.unusedSimpArgs false
namespace Go.Proofs.Ytkjibgfgbfacdaa.P
open Go.RowKit Go.Proofs.YtkjibgfgbfacdaaW.PrintWords Go.Proofs.YtkjibgfgbfacdaaW.PrintLast Go.Proofs.YtkjibgfgbfacdaaW.PrintMore
set_option linter.unusedVariables false
set_option linter.unusedSimpArgs false

/-- What the function value at g tells of two vectors: whether they are the same. -/
def EqV (g : Nat) (lb : Array Value) (w : World) : Prop :=
  ∀ (W : World) (x y : List Int) (A B : Option Addr) (c d : Nat), Below w.heap.size w W → Kd.C (Kd.int .i16) W A x.length x → x.length ≤ c → Kd.C (Kd.int .i16) W B y.length y → y.length ≤ d →
    Calls Try.prog g (#[.slice A x.length c, .slice B y.length d] ++ lb) W fun e W' => e = .returned (.bool (decide (x = y))) ∧ Below w.heap.size w W'
theorem ne_of_len {α : Type} [DecidableEq α] {a b : List α} (h : ¬ ((a.length : Int) = (b.length : Int))) : decide (a = b) = false := by
  rw [decide_eq_false_iff_not]
  rintro rfl
  exact h rfl
set_option maxHeartbeats 4000000 in
set_option maxRecDepth 100000 in
theorem equalFunc_vecs (g : Nat) (lb : Array Value) (A0 A1 : Option Addr) (c0 c1 : Nat) (l0 l1 : List (List Int)) (w : World)
    (eg : ∀ args w, (callFunc g args).run Try.prog w = .ok (.enter g args) w) (hp : EqV g lb w)
    (hr0 : Kd.C (Kd.slice 74 (Kd.int .i16)) w A0 l0.length l0) (hc0 : l0.length ≤ c0) (hr1 : Kd.C (Kd.slice 74 (Kd.int .i16)) w A1 l1.length l1) (hc1 : l1.length ≤ c1) :
    Calls Try.prog 99 #[.slice A0 l0.length c0, .slice A1 l1.length c1, .func (.func g) #[] lb] w fun e w' => e = .returned (.bool (decide (l0 = l1))) ∧ Below w.heap.size w w' := by
  have HR0 := Aside0.mk hr0
  have HR1 := Aside0.mk hr1
  have HP := Aside0.mk hp
  have hmax : l0.length ≤ 9223372036854775807 := hr0.2.1
  clear hr0 hr1 hp
  by_cases hlen : (l0.length : Int) = (l1.length : Int)
  · have HL := Aside0.mk hlen
    have c3b0 : ((l0.length : Int) == (l1.length : Int)) = true := beq_iff_eq.mpr hlen
    have c3b1 : ((l0.length : Int) != (l1.length : Int)) = false := bne_eq_false_iff_eq.mpr hlen
    have c3b2 : (l0.length == l1.length) = true := by first | simpa using hlen | (simp at hlen ⊢; omega)
    clear hlen
    go_enter Try.func99, Try.ntmps99
    go_wp2
    repeat (go_quiet (fail); try go_wp2)
    go_loopg [7, 8, 9, 17] l0.length (fun kq v7 v8 v9 v17 w' => ∃ (i : Int), v17 = .int .i64 i ∧ Aside0 (decide (l0.drop i.toNat = l1.drop i.toNat) = decide (l0 = l1)) ∧ Aside0 (0 ≤ i ∧ i ≤ (l0.length : Int) ∧ (l0.length : Int) - i ≤ (kq : Int)) ∧ Aside0 (Below w.heap.size w w'))
    case atStart => exact ⟨0, rfl, ⟨rfl⟩, ⟨by omega, by omega, by omega⟩, ⟨by repeat (first | exact Below.refl _ _ | apply below_drew | apply pw_below_drewN)⟩⟩
    case round =>
      clear c3b0 c3b1 c3b2
      obtain ⟨i, rfl, HI, HK, HB⟩ := hrel
      obtain ⟨h0, h1, h2⟩ := HK.out
      have hL := HL.out
      by_cases hlt : i < (l0.length : Int)
      · have hlt1 : i < (l1.length : Int) := by omega
        have hdr := drop_rdV l0 i h0 hlt
        have hdr1 := drop_rdV l1 i h0 hlt1
        obtain ⟨ad, B0, d0, e1, hx, hl0, hC0⟩ := Kd.at_sl (Kd.C_below HR0.out HB.out) i h0 hlt
        obtain ⟨ad1, B1, d1, e2, hx1, hl1, hC1⟩ := Kd.at_sl (Kd.C_below HR1.out HB.out) i h0 hlt1
        cases e1
        cases e2
        have hI := HI.out
        rw [hdr, hdr1] at hI
        have hcall := fun W hb hCx hCy => HP.out W (l0.getD i.toNat []) (l1.getD i.toNat []) B0 B1 d0 d1 hb hCx hl0 hCy hl1
        generalize (l0.getD i.toNat []) = x at *
        generalize (l1.getD i.toNat []) = y at *
        have HC0 := Aside0.mk hC0
        have HC1 := Aside0.mk hC1
        clear hdr hdr1 HI hC0 hC1 hL
        by_cases hxy : x = y
        · rw [decide_eq_true hxy] at hcall
          have hI' : decide (l0.drop (i + 1).toNat = l1.drop (i + 1).toNat) = decide (l0 = l1) := by rw [← hI, hxy]; simp
          have HCALL := Aside0.mk hcall
          have HI2 := Aside0.mk hI'
          clear hI hI' hcall hxy
          go_wp2_with (go_at_fn g; refine (HCALL.out _ (by first | exact HB.out | exact HB.out.drew) HC0.out HC1.out).mono ?_; rintro e w' ⟨rfl, hb'⟩)
          have HB2 := Aside0.mk hb'
          clear hb'
          cases gk with
          | zero => exact absurd h2 (by omega)
          | succ gk1 =>
            go_roundg gk1
            case measure => omega
            case rel => exact ⟨i + 1, rfl, ⟨HI2.out⟩, ⟨by omega, by omega, by omega⟩, HB2⟩
        · rw [decide_eq_false hxy] at hcall
          have hI' : decide (l0 = l1) = false := by rw [← hI]; simp [hxy]
          have HCALL := Aside0.mk hcall
          have HI2 := Aside0.mk hI'
          clear hI hI' hcall hxy
          go_wp2_with (go_at_fn g; refine (HCALL.out _ (by first | exact HB.out | exact HB.out.drew) HC0.out HC1.out).mono ?_; rintro e w' ⟨rfl, hb'⟩)
          go_ret
          exact ⟨by rw [HI2.out]; rfl, hb'⟩
      · have hI := HI.out
        rw [List.drop_eq_nil_of_le (by omega), List.drop_eq_nil_of_le (by omega)] at hI
        have HI2 := Aside0.mk hI
        clear hI HI hL
        go_wp2
        go_ret
        exact ⟨by rw [← HI2.out]; rfl, HB.out⟩
  · have HE := Aside0.mk (ne_of_len hlen)
    have c3b0 : ((l0.length : Int) == (l1.length : Int)) = false := beq_eq_false_iff_ne.mpr hlen
    have c3b1 : ((l0.length : Int) != (l1.length : Int)) = true := bne_iff_ne.mpr hlen
    have c3b2 : (l0.length == l1.length) = false := by first | simpa using hlen | (simp at hlen ⊢; omega)
    clear hlen
    go_enter Try.func99, Try.ntmps99
    go_wp2
    repeat (go_quiet (fail); try go_wp2)
    go_ret
    exact ⟨by rw [HE.out]; rfl, by repeat (first | exact Below.refl _ _ | apply below_drew | apply pw_below_drewN)⟩
set_option maxHeartbeats 4000000 in
set_option maxRecDepth 100000 in
theorem equalFunc_cuts (g : Nat) (lb : Array Value) (A0 A1 : Option Addr) (c0 c1 : Nat) (l0 l1 : List (List Int)) (w : World)
    (eg : ∀ args w, (callFunc g args).run Try.prog w = .ok (.enter g args) w) (hp : EqV g lb w)
    (hr0 : Kd.C (Kd.slice 74 (Kd.int .i16)) w A0 l0.length l0) (hc0 : l0.length ≤ c0) (hr1 : Kd.C (Kd.slice 74 (Kd.int .i16)) w A1 l1.length l1) (hc1 : l1.length ≤ c1) :
    Calls Try.prog 109 #[.slice A0 l0.length c0, .slice A1 l1.length c1, .func (.func g) #[] lb] w fun e w' => e = .returned (.bool (decide (l0 = l1))) ∧ Below w.heap.size w w' := by
  have HR0 := Aside0.mk hr0
  have HR1 := Aside0.mk hr1
  have HP := Aside0.mk hp
  have hmax : l0.length ≤ 9223372036854775807 := hr0.2.1
  clear hr0 hr1 hp
  by_cases hlen : (l0.length : Int) = (l1.length : Int)
  · have HL := Aside0.mk hlen
    have c3b0 : ((l0.length : Int) == (l1.length : Int)) = true := beq_iff_eq.mpr hlen
    have c3b1 : ((l0.length : Int) != (l1.length : Int)) = false := bne_eq_false_iff_eq.mpr hlen
    have c3b2 : (l0.length == l1.length) = true := by first | simpa using hlen | (simp at hlen ⊢; omega)
    clear hlen
    go_enter Try.func109, Try.ntmps109
    go_wp2
    repeat (go_quiet (fail); try go_wp2)
    go_loopg [7, 8, 9, 17] l0.length (fun kq v7 v8 v9 v17 w' => ∃ (i : Int), v17 = .int .i64 i ∧ Aside0 (decide (l0.drop i.toNat = l1.drop i.toNat) = decide (l0 = l1)) ∧ Aside0 (0 ≤ i ∧ i ≤ (l0.length : Int) ∧ (l0.length : Int) - i ≤ (kq : Int)) ∧ Aside0 (Below w.heap.size w w'))
    case atStart => exact ⟨0, rfl, ⟨rfl⟩, ⟨by omega, by omega, by omega⟩, ⟨by repeat (first | exact Below.refl _ _ | apply below_drew | apply pw_below_drewN)⟩⟩
    case round =>
      clear c3b0 c3b1 c3b2
      obtain ⟨i, rfl, HI, HK, HB⟩ := hrel
      obtain ⟨h0, h1, h2⟩ := HK.out
      have hL := HL.out
      by_cases hlt : i < (l0.length : Int)
      · have hlt1 : i < (l1.length : Int) := by omega
        have hdr := drop_rdV l0 i h0 hlt
        have hdr1 := drop_rdV l1 i h0 hlt1
        obtain ⟨ad, B0, d0, e1, hx, hl0, hC0⟩ := Kd.at_sl (Kd.C_below HR0.out HB.out) i h0 hlt
        obtain ⟨ad1, B1, d1, e2, hx1, hl1, hC1⟩ := Kd.at_sl (Kd.C_below HR1.out HB.out) i h0 hlt1
        cases e1
        cases e2
        have hI := HI.out
        rw [hdr, hdr1] at hI
        have hcall := fun W hb hCx hCy => HP.out W (l0.getD i.toNat []) (l1.getD i.toNat []) B0 B1 d0 d1 hb hCx hl0 hCy hl1
        generalize (l0.getD i.toNat []) = x at *
        generalize (l1.getD i.toNat []) = y at *
        have HC0 := Aside0.mk hC0
        have HC1 := Aside0.mk hC1
        clear hdr hdr1 HI hC0 hC1 hL
        by_cases hxy : x = y
        · rw [decide_eq_true hxy] at hcall
          have hI' : decide (l0.drop (i + 1).toNat = l1.drop (i + 1).toNat) = decide (l0 = l1) := by rw [← hI, hxy]; simp
          have HCALL := Aside0.mk hcall
          have HI2 := Aside0.mk hI'
          clear hI hI' hcall hxy
          go_wp2_with (go_at_fn g; refine (HCALL.out _ (by first | exact HB.out | exact HB.out.drew) HC0.out HC1.out).mono ?_; rintro e w' ⟨rfl, hb'⟩)
          have HB2 := Aside0.mk hb'
          clear hb'
          cases gk with
          | zero => exact absurd h2 (by omega)
          | succ gk1 =>
            go_roundg gk1
            case measure => omega
            case rel => exact ⟨i + 1, rfl, ⟨HI2.out⟩, ⟨by omega, by omega, by omega⟩, HB2⟩
        · rw [decide_eq_false hxy] at hcall
          have hI' : decide (l0 = l1) = false := by rw [← hI]; simp [hxy]
          have HCALL := Aside0.mk hcall
          have HI2 := Aside0.mk hI'
          clear hI hI' hcall hxy
          go_wp2_with (go_at_fn g; refine (HCALL.out _ (by first | exact HB.out | exact HB.out.drew) HC0.out HC1.out).mono ?_; rintro e w' ⟨rfl, hb'⟩)
          go_ret
          exact ⟨by rw [HI2.out]; rfl, hb'⟩
      · have hI := HI.out
        rw [List.drop_eq_nil_of_le (by omega), List.drop_eq_nil_of_le (by omega)] at hI
        have HI2 := Aside0.mk hI
        clear hI HI hL
        go_wp2
        go_ret
        exact ⟨by rw [← HI2.out]; rfl, HB.out⟩
  · have HE := Aside0.mk (ne_of_len hlen)
    have c3b0 : ((l0.length : Int) == (l1.length : Int)) = false := beq_eq_false_iff_ne.mpr hlen
    have c3b1 : ((l0.length : Int) != (l1.length : Int)) = true := bne_iff_ne.mpr hlen
    have c3b2 : (l0.length == l1.length) = false := by first | simpa using hlen | (simp at hlen ⊢; omega)
    clear hlen
    go_enter Try.func109, Try.ntmps109
    go_wp2
    repeat (go_quiet (fail); try go_wp2)
    go_ret
    exact ⟨by rw [HE.out]; rfl, by repeat (first | exact Below.refl _ _ | apply below_drew | apply pw_below_drewN)⟩
end Go.Proofs.Ytkjibgfgbfacdaa.P
end
/-! part: F110 -/
section
set_option linter.unusedVariables false
set_option linter.unusedSimpArgs false
namespace Go.Proofs.Ytkjibgfgbfacdaa.P
open Go.RowKit Go.Proofs.YtkjibgfgbfacdaaW.PrintWords Go.Proofs.YtkjibgfgbfacdaaW.PrintLast Go.Proofs.YtkjibgfgbfacdaaW.PrintMore
attribute [local go_sem] max2_int min2_int max_two min_two max_three min_three max_four min_four   -- for this text's walks alone
set_option linter.unusedVariables false
set_option linter.unusedSimpArgs false

/-! ### slices_Equal_int16_int16: function 110 -/
def slices_Equal_int16_int16.l0 : Nat → List Int → List Int → Int → Int → Option (Bool)
  | 0, _, _, _, _ => none
  | k + 1, x0, x1, x12, x13 => if x13 < x12 then (if 0 ≤ x13 then (if x13 < (x0.length : Int) then (if x13 < (x1.length : Int) then (if (rd x0 x13) = (rd x1 x13) then (slices_Equal_int16_int16.l0 k x0 x1 x12 (wrap64 (x13 + 1))) else (some false)) else (none)) else (none)) else (none)) else (some true)
def slices_Equal_int16_int16.f (k : Nat) (l0 : List Int) (l1 : List Int) : Option (Bool) := if (l0.length : Int) = (l1.length : Int) then (slices_Equal_int16_int16.l0 k l0 l1 (l0.length : Int) 0) else (some false)
theorem slices_Equal_int16_int16.mono_l : ∀ k, (∀ y0 y1 y2 y3, LeO (slices_Equal_int16_int16.l0 k y0 y1 y2 y3) (slices_Equal_int16_int16.l0 (k + 1) y0 y1 y2 y3))
  | 0 => fun _ _ _ _ r h => by simp [slices_Equal_int16_int16.l0] at h
  | k + 1 => by
    have ih0 := slices_Equal_int16_int16.mono_l k
    · intro y0 y1 y2 y3
      unfold slices_Equal_int16_int16.l0
      repeat' first
      | (with_reducible exact ih0 _ _ _ _)
      | (with_reducible exact LeO.refl _)
      | (with_reducible exact LeO.none _)
      | (with_reducible refine LeO.ite ?_ ?_)
      | (with_reducible refine LeO.bind ?_ (fun _ => ?_))
      | exact ih0 _ _ _ _
      | exact LeO.none _
      | refine LeO.ite ?_ ?_
      | refine LeO.bind ?_ (fun _ => ?_)
theorem slices_Equal_int16_int16.mono : ∀ a0 a1 k, LeO (slices_Equal_int16_int16.f k a0 a1) (slices_Equal_int16_int16.f (k + 1) a0 a1) := by
  intro a0 a1 k
  have ih0 := slices_Equal_int16_int16.mono_l k
  unfold slices_Equal_int16_int16.f
  repeat' first
      | (with_reducible exact ih0 _ _ _ _)
      | (with_reducible exact LeO.refl _)
      | (with_reducible exact LeO.none _)
      | (with_reducible refine LeO.ite ?_ ?_)
      | (with_reducible refine LeO.bind ?_ (fun _ => ?_))
      | exact ih0 _ _ _ _
      | exact LeO.none _
      | refine LeO.ite ?_ ?_
      | refine LeO.bind ?_ (fun _ => ?_)
set_option maxHeartbeats 8000000 in
set_option maxRecDepth 100000 in
theorem slices_Equal_int16_int16.calls (k : Nat) (A0 : Option Addr) (c0 : Nat) (l0 : List Int) (A1 : Option Addr) (c1 : Nat) (l1 : List Int) (r : Bool) (w : World) (hr0 : Kd.C (Kd.int .i16) w A0 l0.length l0) (hc0 : l0.length ≤ c0) (hr1 : Kd.C (Kd.int .i16) w A1 l1.length l1) (hc1 : l1.length ≤ c1) (h : slices_Equal_int16_int16.f k l0 l1 = some r) :
    Calls Try.prog 110 #[.slice A0 l0.length c0, .slice A1 l1.length c1] w fun e w' => e = .returned (.bool r) ∧ Drawn0 w w' := by
  have HR0 := Aside0.mk hr0
  have HC0 := Aside0.mk hc0
  clear hr0 hc0
  have HR1 := Aside0.mk hr1
  have HC1 := Aside0.mk hc1
  clear hr1 hc1
  have H : (if (l0.length : Int) = (l1.length : Int) then (slices_Equal_int16_int16.l0 k l0 l1 (l0.length : Int) 0) else (some false)) = some r := h
  clear h
  by_cases c3 : (l0.length : Int) = (l1.length : Int)
  · rw [if_pos c3] at H
    have c3b0 : ((l0.length : Int) == (l1.length : Int)) = true := beq_iff_eq.mpr c3
    have c3b1 : ((l0.length : Int) != (l1.length : Int)) = false := bne_eq_false_iff_eq.mpr c3
    have c3b2 : (l0.length == l1.length) = true := by first | simpa using c3 | (simp at c3 ⊢; omega)
    clear c3
    have H' := Aside0.mk H
    clear H
    go_enter Try.func110, Try.ntmps110
    go_wp2
    repeat (go_quiet (fail); try go_wp2)
    go_loopg [13] k (fun kq v13 w' => ∃ (x13_1 : Int), v13 = .int .i64 x13_1 ∧ Aside0 (slices_Equal_int16_int16.l0 kq l0 l1 (l0.length : Int) x13_1 = some r) ∧ Aside0 (kq ≤ k) ∧ Drawn0 w w')
    case atStart => exact ⟨(0), (by first | rfl | (simp; done) | (simp [*]; done)), H', ⟨Nat.le_refl _⟩, by repeat (first | exact Drawn0.refl _ | apply Drawn0.step)⟩
    case round =>
      clear H'
      try clear c1
      try clear p2
      try clear c3
      try clear c3b0
      try clear c3b1
      try clear c3b2
      obtain ⟨x13_1, rfl, HA, HK1, ⟨m1, rfl⟩⟩ := hrel
      cases gk with
      | zero => exact absurd HA.out (by simp [slices_Equal_int16_int16.l0])
      | succ k1 =>
        have H := HA.out
        clear HA
        simp only [slices_Equal_int16_int16.l0] at H
        by_cases c4 : x13_1 < (l0.length : Int)
        · rw [if_pos c4] at H
          have c4b0 : decide (x13_1 < (l0.length : Int)) = true := decide_eq_true c4
          clear c4
          by_cases c5 : 0 ≤ x13_1
          · rw [if_pos c5] at H
            have c5b0 : decide (0 ≤ x13_1) = true := decide_eq_true c5
            clear c5
            by_cases c6 : x13_1 < (l0.length : Int)
            · rw [if_pos c6] at H
              have c6b0 : decide (x13_1 < (l0.length : Int)) = true := decide_eq_true c6
              clear c6
              by_cases c7 : x13_1 < (l1.length : Int)
              · rw [if_pos c7] at H
                have c7b0 : decide (x13_1 < (l1.length : Int)) = true := decide_eq_true c7
                clear c7
                by_cases c8 : (rd l0 x13_1) = (rd l1 x13_1)
                · rw [if_pos c8] at H
                  have c8b0 : ((rd l0 x13_1) == (rd l1 x13_1)) = true := beq_iff_eq.mpr c8
                  have c8b1 : ((rd l0 x13_1) != (rd l1 x13_1)) = false := bne_eq_false_iff_eq.mpr c8
                  clear c8
                  have H' := Aside0.mk H
                  clear H
                  have p117 : 0 ≤ (x13_1 : Int) := of_decide_eq_true (by first | (with_reducible assumption) | assumption)
                  have q117 : x13_1 < (l0.length : Int) := of_decide_eq_true (by first | (with_reducible assumption) | assumption)
                  obtain ⟨ad117, e117, hx117_0⟩ := Kd.at_int HR0.out x13_1 p117 q117
                  cases e117
                  replace p117 := eq_true p117
                  replace q117 := eq_true q117
                  have p118 : 0 ≤ (x13_1 : Int) := of_decide_eq_true (by first | (with_reducible assumption) | assumption)
                  have q118 : x13_1 < (l1.length : Int) := of_decide_eq_true (by first | (with_reducible assumption) | assumption)
                  obtain ⟨ad118, e118, hx118_0⟩ := Kd.at_int HR1.out x13_1 p118 q118
                  cases e118
                  replace p118 := eq_true p118
                  replace q118 := eq_true q118
                  go_wp2
                  repeat (go_quiet (fail); try go_wp2)
                  go_roundg k1
                  case measure => have := HK1.out; omega
                  case rel => exact ⟨(wrap64 (x13_1 + 1)), (by first | rfl | (simp; done) | (simp [*]; done)), H', ⟨by have := HK1.out; omega⟩, by repeat (first | exact Drawn0.refl _ | apply Drawn0.step)⟩
                · rw [if_neg c8] at H
                  have c8b0 : ((rd l0 x13_1) == (rd l1 x13_1)) = false := beq_eq_false_iff_ne.mpr c8
                  have c8b1 : ((rd l0 x13_1) != (rd l1 x13_1)) = true := bne_iff_ne.mpr c8
                  obtain rfl := Option.some.inj H
                  have p117 : 0 ≤ (x13_1 : Int) := of_decide_eq_true (by first | (with_reducible assumption) | assumption)
                  have q117 : x13_1 < (l0.length : Int) := of_decide_eq_true (by first | (with_reducible assumption) | assumption)
                  obtain ⟨ad117, e117, hx117_0⟩ := Kd.at_int HR0.out x13_1 p117 q117
                  cases e117
                  replace p117 := eq_true p117
                  replace q117 := eq_true q117
                  have p118 : 0 ≤ (x13_1 : Int) := of_decide_eq_true (by first | (with_reducible assumption) | assumption)
                  have q118 : x13_1 < (l1.length : Int) := of_decide_eq_true (by first | (with_reducible assumption) | assumption)
                  obtain ⟨ad118, e118, hx118_0⟩ := Kd.at_int HR1.out x13_1 p118 q118
                  cases e118
                  replace p118 := eq_true p118
                  replace q118 := eq_true q118
                  go_wp2
                  repeat (go_quiet (fail); try go_wp2)
                  go_ret
                  exact ⟨by first | rfl | (simp; done) | (simp [*]; done), by repeat (first | exact Drawn0.refl _ | apply Drawn0.step)⟩
              · rw [if_neg c7] at H
                exact absurd H (by simp)
            · rw [if_neg c6] at H
              exact absurd H (by simp)
          · rw [if_neg c5] at H
            exact absurd H (by simp)
        · rw [if_neg c4] at H
          have c4b0 : decide (x13_1 < (l0.length : Int)) = false := decide_eq_false c4
          clear c4
          obtain rfl := Option.some.inj H
          go_wp2
          repeat (go_quiet (fail); try go_wp2)
          go_ret
          exact ⟨by first | rfl | (simp; done) | (simp [*]; done), by repeat (first | exact Drawn0.refl _ | apply Drawn0.step)⟩
  · rw [if_neg c3] at H
    have c3b0 : ((l0.length : Int) == (l1.length : Int)) = false := beq_eq_false_iff_ne.mpr c3
    have c3b1 : ((l0.length : Int) != (l1.length : Int)) = true := bne_iff_ne.mpr c3
    have c3b2 : (l0.length == l1.length) = false := by first | simpa using c3 | (simp at c3 ⊢; omega)
    obtain rfl := Option.some.inj H
    go_enter Try.func110, Try.ntmps110
    go_wp2
    repeat (go_quiet (fail); try go_wp2)
    go_ret
    exact ⟨by first | rfl | (simp; done) | (simp [*]; done), by repeat (first | exact Drawn0.refl _ | apply Drawn0.step)⟩

end Go.Proofs.Ytkjibgfgbfacdaa.P
end
/-! part: HEqFns -/
section
set_option linter.unusedVariables false
set_option linter.unusedSimpArgs false
namespace Go.Proofs.Ytkjibgfgbfacdaa.P
open Go.RowKit Go.Proofs.YtkjibgfgbfacdaaW.PrintWords Go.Proofs.YtkjibgfgbfacdaaW.PrintLast Go.Proofs.YtkjibgfgbfacdaaW.PrintMore
theorem h_EqVecs.calls (A0 : Option Addr) (c0 : Nat) (l0 : List (List Int)) (A1 : Option Addr) (c1 : Nat) (l1 : List (List Int)) (r : Bool) (w : World) (hr0 : Kd.C (Kd.slice 74 (Kd.int .i16)) w A0 l0.length l0) (hc0 : l0.length ≤ c0)
    (hr1 : Kd.C (Kd.slice 74 (Kd.int .i16)) w A1 l1.length l1) (hc1 : l1.length ≤ c1) (h : h_EqVecs.f l0 l1 = some r) :
    Calls Try.prog 99 #[.slice A0 l0.length c0, .slice A1 l1.length c1, .func (.func 100) #[] #[]] w fun e w' => e = .returned (.bool r) ∧ Below w.heap.size w w' := by
  obtain rfl := Option.some.inj h
  refine equalFunc_vecs 100 #[] A0 A1 c0 c1 l0 l1 w (enters_of Try.func100 (by kernel_rfl) rfl) ?_ hr0 hc0 hr1 hc1
  intro W x y A B c d hb hC hl hD hl2
  refine (vec_Same.calls (x.length + 1) A c x B d y _ W hC hl hD hl2 (equalVec x y hC.2.1 _ (by omega))).mono ?_
  rintro e W' ⟨he, hd⟩
  exact ⟨he, hb.trans (hd.below.mono hb.size)⟩
theorem equalCuts (xs ys : List Int) (hm : xs.length ≤ 9223372036854775807) (k : Nat) (hk : xs.length < k) : slices_Equal_int16_int16.f k xs ys = some (decide (xs = ys)) := by
  unfold slices_Equal_int16_int16.f
  exact eqLoop0 0 slices_Equal_int16_int16.l0 (fun k xs ys n i => by simp only [slices_Equal_int16_int16.l0]; rfl) xs ys hm k hk
theorem h_EqCuts.calls (A0 : Option Addr) (c0 : Nat) (l0 : List (List Int)) (A1 : Option Addr) (c1 : Nat) (l1 : List (List Int)) (r : Bool) (w : World) (hr0 : Kd.C (Kd.slice 74 (Kd.int .i16)) w A0 l0.length l0) (hc0 : l0.length ≤ c0)
    (hr1 : Kd.C (Kd.slice 74 (Kd.int .i16)) w A1 l1.length l1) (hc1 : l1.length ≤ c1) (h : h_EqCuts.f l0 l1 = some r) :
    Calls Try.prog 109 #[.slice A0 l0.length c0, .slice A1 l1.length c1, .func (.func 110) #[] #[]] w fun e w' => e = .returned (.bool r) ∧ Below w.heap.size w w' := by
  obtain rfl := Option.some.inj h
  refine equalFunc_cuts 110 #[] A0 A1 c0 c1 l0 l1 w (enters_of Try.func110 (by kernel_rfl) rfl) ?_ hr0 hc0 hr1 hc1
  intro W x y A B c d hb hC hl hD hl2
  refine (slices_Equal_int16_int16.calls (x.length + 1) A c x B d y _ W hC hl hD hl2 (equalCuts x y hC.2.1 _ (by omega))).mono ?_
  rintro e W' ⟨he, hd⟩
  exact ⟨he, hb.trans (hd.below.mono hb.size)⟩
end Go.Proofs.Ytkjibgfgbfacdaa.P
end
/-! part: F33 -/
section
set_option linter.unusedVariables false
set_option linter.unusedSimpArgs false
namespace Go.Proofs.Ytkjibgfgbfacdaa.P
open Go.RowKit Go.Proofs.YtkjibgfgbfacdaaW.PrintWords Go.Proofs.YtkjibgfgbfacdaaW.PrintLast Go.Proofs.YtkjibgfgbfacdaaW.PrintMore
attribute [local go_sem] max2_int min2_int max_two min_two max_three min_three max_four min_four   -- for this text's walks alone
set_option linter.unusedVariables false
set_option linter.unusedSimpArgs false

/-! ### slots_Same: function 33 -/
def slots_Same.f (k : Nat) (a0_0 : Int) (l0_1 : List Int) (l0_2 : List (List Int)) (a1_0 : Int) (l1_1 : List Int) (l1_2 : List (List Int)) : Option (Bool) := if a0_0 = a1_0 then ((slices_Equal_int64_int64.f k l0_1 l1_1).bind fun t381 => (if t381 = true then ((h_EqVecs.f l0_2 l1_2).bind fun t382 => (some t382)) else (some false))) else (some false)
theorem slots_Same.mono : ∀ a0 a1 a2 a3 a4 a5 k, LeO (slots_Same.f k a0 a1 a2 a3 a4 a5) (slots_Same.f (k + 1) a0 a1 a2 a3 a4 a5) := by
  intro a0 a1 a2 a3 a4 a5 k
  unfold slots_Same.f
  repeat' first
      | (with_reducible exact slices_Equal_int64_int64.mono _ _ _)
      | (with_reducible exact LeO.refl _)
      | (with_reducible exact LeO.none _)
      | (with_reducible refine LeO.ite ?_ ?_)
      | (with_reducible refine LeO.bind ?_ (fun _ => ?_))
      | exact slices_Equal_int64_int64.mono _ _ _
      | exact LeO.none _
      | refine LeO.ite ?_ ?_
      | refine LeO.bind ?_ (fun _ => ?_)
set_option maxHeartbeats 8000000 in
set_option maxRecDepth 100000 in
theorem slots_Same.calls (k : Nat) (a0_0 : Int) (A0_1 : Option Addr) (c0_1 : Nat) (l0_1 : List Int) (A0_2 : Option Addr) (c0_2 : Nat) (l0_2 : List (List Int)) (a1_0 : Int) (A1_1 : Option Addr) (c1_1 : Nat) (l1_1 : List Int) (A1_2 : Option Addr) (c1_2 : Nat) (l1_2 : List (List Int)) (r : Bool) (w : World) (hr0_1 : Kd.C (Kd.int .i64) w A0_1 l0_1.length l0_1) (hc0_1 : l0_1.length ≤ c0_1) (hr0_2 : Kd.C (Kd.slice 74 (Kd.int .i16)) w A0_2 l0_2.length l0_2) (hc0_2 : l0_2.length ≤ c0_2) (hr1_1 : Kd.C (Kd.int .i64) w A1_1 l1_1.length l1_1) (hc1_1 : l1_1.length ≤ c1_1) (hr1_2 : Kd.C (Kd.slice 74 (Kd.int .i16)) w A1_2 l1_2.length l1_2) (hc1_2 : l1_2.length ≤ c1_2) (h : slots_Same.f k a0_0 l0_1 l0_2 a1_0 l1_1 l1_2 = some r) :
    Calls Try.prog 33 #[.agg #[.int .i64 a0_0, .slice A0_1 l0_1.length c0_1, .slice A0_2 l0_2.length c0_2], .agg #[.int .i64 a1_0, .slice A1_1 l1_1.length c1_1, .slice A1_2 l1_2.length c1_2]] w fun e w' => e = .returned (.bool r) ∧ Below w.heap.size w w' := by
  have hu25 := Try.underlying25
  have HR0_1 := Aside0.mk hr0_1
  have HC0_1 := Aside0.mk hc0_1
  clear hr0_1 hc0_1
  have HR0_2 := Aside0.mk hr0_2
  have HC0_2 := Aside0.mk hc0_2
  clear hr0_2 hc0_2
  have HR1_1 := Aside0.mk hr1_1
  have HC1_1 := Aside0.mk hc1_1
  clear hr1_1 hc1_1
  have HR1_2 := Aside0.mk hr1_2
  have HC1_2 := Aside0.mk hc1_2
  clear hr1_2 hc1_2
  have HB := Aside0.mk (Below.refl w.heap.size w)
  have H : (if a0_0 = a1_0 then ((slices_Equal_int64_int64.f k l0_1 l1_1).bind fun t381 => (if t381 = true then ((h_EqVecs.f l0_2 l1_2).bind fun t382 => (some t382)) else (some false))) else (some false)) = some r := h
  clear h
  by_cases c3 : a0_0 = a1_0
  · rw [if_pos c3] at H
    have c3b0 : (a0_0 == a1_0) = true := beq_iff_eq.mpr c3
    have c3b1 : (a0_0 != a1_0) = false := bne_eq_false_iff_eq.mpr c3
    clear c3
    replace H := Option.bind_eq_some_iff.mp H
    obtain ⟨t381, A40, H⟩ := H
    replace H : (if t381 = true then ((h_EqVecs.f l0_2 l1_2).bind fun t382 => (some t382)) else (some false)) = some r := H
    have A4 := Aside0.mk A40
    clear A40
    by_cases c5 : t381 = true
    · subst c5
      have H1 : ((h_EqVecs.f l0_2 l1_2).bind fun t382 => (some t382)) = some r := by rw [if_pos rfl] at H; exact H
      clear H
      have H := H1
      clear H1
      replace H := Option.bind_eq_some_iff.mp H
      obtain ⟨t382, A60, H⟩ := H
      replace H : (some t382) = some r := H
      have A6 := Aside0.mk A60
      clear A60
      obtain rfl := Option.some.inj H
      go_enter Try.func33, Try.ntmps33
      go_wp2_with (first | ((with_reducible refine gate_dst (N := 2) rfl ?_); refine box_event ?hg (N := 2) ?hd (cs := #[.int .i64 a0_0, .slice A0_1 l0_1.length c0_1, .slice A0_2 l0_2.length c0_2]) (t := 25) ?hr ?_; (case hd => rfl); (case hg => rfl); (case hr => first | (go_simp; done) | (go_simp; rfl)); intro gb379 hg w7 hbox hb; have n0_ := Aside0.mk (below_step (by repeat (first | (with_reducible first | exact HB.out | apply below_alloc | apply pw_below_drewN | apply below_drew1) | exact HB.out)) hb); have n1_ := Aside0.mk (hbox); have n2_ := Aside0.mk ((by rw [hg]; exact (below_size (by repeat (first | (with_reducible first | exact HB.out | apply below_alloc | apply pw_below_drewN | apply below_drew1) | exact HB.out))) : w.heap.size ≤ gb379)); have n3_ := Aside0.mk ((by rw [hg]; exact (below_size (by repeat (first | (with_reducible first | exact HB.out | apply below_alloc | apply pw_below_drewN | apply below_drew1) | exact HB.out))) : w.heap.size ≤ gb379)); clear HB; have HB := n0_; have BK379 := n1_; have GW379 := n2_; have GE379 := n3_; clear n0_ n1_ n2_ n3_; clear hb hbox hg) | ((with_reducible refine gate_dst (N := 3) rfl ?_); refine box_event ?hg (N := 3) ?hd (cs := #[.int .i64 a1_0, .slice A1_1 l1_1.length c1_1, .slice A1_2 l1_2.length c1_2]) (t := 25) ?hr ?_; (case hd => rfl); (case hg => rfl); (case hr => first | (go_simp; done) | (go_simp; rfl)); intro gb380 hg w8 hbox hb; have n0_ := Aside0.mk (blk_below (g := gb379) (o := .cells #[.int .i64 a0_0, .slice A0_1 l0_1.length c0_1, .slice A0_2 l0_2.length c0_2] 25 (0, 0)) (by (with_reducible repeat (first | refine blk_drewN ?_ _ | refine blk_drew ?_ | refine blk_alloc ?_ _)); exact BK379.out) hb); have n1_ := Aside0.mk (below_step (by repeat (first | (with_reducible first | exact HB.out | apply below_alloc | apply pw_below_drewN | apply below_drew1 | refine below_set ?_ GE379.out) | exact HB.out)) hb); have n2_ := Aside0.mk (hbox); have n3_ := Aside0.mk ((by rw [hg]; exact (below_size (by repeat (first | (with_reducible first | exact HB.out | apply below_alloc | apply pw_below_drewN | apply below_drew1 | refine below_set ?_ GE379.out) | exact HB.out))) : w.heap.size ≤ gb380)); have n4_ := Aside0.mk ((by rw [hg]; exact (below_size (by repeat (first | (with_reducible first | exact HB.out | apply below_alloc | apply pw_below_drewN | apply below_drew1 | refine below_set ?_ GE379.out) | exact HB.out))) : w.heap.size ≤ gb380)); have n5_ := Aside0.mk ((by rw [hg]; exact Nat.ne_of_lt (blk_lt (g := gb379) (o := .cells #[.int .i64 a0_0, .slice A0_1 l0_1.length c0_1, .slice A0_2 l0_2.length c0_2] 25 (0, 0)) (by (with_reducible repeat (first | refine blk_drewN ?_ _ | refine blk_drew ?_ | refine blk_alloc ?_ _)); exact BK379.out)) : gb379 ≠ gb380)); have n6_ := Aside0.mk ((by rw [hg]; exact Nat.ne_of_gt (blk_lt (g := gb379) (o := .cells #[.int .i64 a0_0, .slice A0_1 l0_1.length c0_1, .slice A0_2 l0_2.length c0_2] 25 (0, 0)) (by (with_reducible repeat (first | refine blk_drewN ?_ _ | refine blk_drew ?_ | refine blk_alloc ?_ _)); exact BK379.out)) : gb380 ≠ gb379)); clear BK379; clear HB; have BK379 := n0_; have HB := n1_; have BK380 := n2_; have GW380 := n3_; have GE380 := n4_; have NB379_380 := n5_; have NB380_379 := n6_; clear n0_ n1_ n2_ n3_ n4_ n5_ n6_; clear hb hbox hg; have hnb9 := NB379_380.out; have hnc9 := NB380_379.out; have hcz10_0 : w8.cell? ⟨gb379, 0, none⟩ = some (.int .i64 a0_0) := (blk_cell BK379.out 0).trans rfl; have hcz10_1 : w8.cell? ⟨gb379, 1, none⟩ = some (.slice A0_1 l0_1.length c0_1) := (blk_cell BK379.out 1).trans rfl; have hcz10_2 : w8.cell? ⟨gb379, 2, none⟩ = some (.slice A0_2 l0_2.length c0_2) := (blk_cell BK379.out 2).trans rfl; have hfz10_0 := blk_frozen BK379.out 0; have hfz10_1 := blk_frozen BK379.out 1; have hfz10_2 := blk_frozen BK379.out 2; have hcz11_0 : w8.cell? ⟨gb380, 0, none⟩ = some (.int .i64 a1_0) := (blk_cell BK380.out 0).trans rfl; have hcz11_1 : w8.cell? ⟨gb380, 1, none⟩ = some (.slice A1_1 l1_1.length c1_1) := (blk_cell BK380.out 1).trans rfl; have hcz11_2 : w8.cell? ⟨gb380, 2, none⟩ = some (.slice A1_2 l1_2.length c1_2) := (blk_cell BK380.out 2).trans rfl; have hfz11_0 := blk_frozen BK380.out 0; have hfz11_1 := blk_frozen BK380.out 1; have hfz11_2 := blk_frozen BK380.out 2) | (go_at_call 101; (with_reducible refine (slices_Equal_int64_int64.calls k _ _ l0_1 _ _ l1_1 true _ ?side1 ?side2 ?side3 ?side4 A4.out).mono ?_); (case side1 => repeat (first | exact (Kd.C_below HR0_1.out HB.out) | (with_reducible refine Kd.C_alloc ?_ _) | (with_reducible refine Kd.C_drewN ?_ _) | (with_reducible refine Kd.C_drew ?_))); (case side2 => exact HC0_1.out); (case side3 => repeat (first | exact (Kd.C_below HR1_1.out HB.out) | (with_reducible refine Kd.C_alloc ?_ _) | (with_reducible refine Kd.C_drewN ?_ _) | (with_reducible refine Kd.C_drew ?_))); (case side4 => exact HC1_1.out); rintro e w' ⟨rfl, ⟨nd, rfl⟩⟩) | (go_at_call 99; (with_reducible refine (h_EqVecs.calls _ _ l0_2 _ _ l1_2 t382 _ ?side1 ?side2 ?side3 ?side4 A6.out).mono ?_); (case side1 => repeat (first | exact (Kd.C_below HR0_2.out (by repeat (first | (with_reducible first | exact HB.out | apply below_alloc | apply pw_below_drewN | apply below_drew1 | refine below_set ?_ GE379.out | refine below_set ?_ GE380.out) | exact HB.out))) | (with_reducible refine Kd.C_alloc ?_ _) | (with_reducible refine Kd.C_drewN ?_ _) | (with_reducible refine Kd.C_drew ?_))); (case side2 => exact HC0_2.out); (case side3 => repeat (first | exact (Kd.C_below HR1_2.out (by repeat (first | (with_reducible first | exact HB.out | apply below_alloc | apply pw_below_drewN | apply below_drew1 | refine below_set ?_ GE379.out | refine below_set ?_ GE380.out) | exact HB.out))) | (with_reducible refine Kd.C_alloc ?_ _) | (with_reducible refine Kd.C_drewN ?_ _) | (with_reducible refine Kd.C_drew ?_))); (case side4 => exact HC1_2.out); rintro e w12 ⟨rfl, hb⟩; have n0_ := Aside0.mk (blk_below (g := gb379) (o := .cells #[.int .i64 a0_0, .slice A0_1 l0_1.length c0_1, .slice A0_2 l0_2.length c0_2] 25 (0, 0)) (by (with_reducible repeat (first | refine blk_drewN ?_ _ | refine blk_drew ?_ | refine blk_alloc ?_ _)); exact BK379.out) hb); have n1_ := Aside0.mk (blk_below (g := gb380) (o := .cells #[.int .i64 a1_0, .slice A1_1 l1_1.length c1_1, .slice A1_2 l1_2.length c1_2] 25 (0, 0)) (by (with_reducible repeat (first | refine blk_drewN ?_ _ | refine blk_drew ?_ | refine blk_alloc ?_ _)); exact BK380.out) hb); have n2_ := Aside0.mk (below_step (by repeat (first | (with_reducible first | exact HB.out | apply below_alloc | apply pw_below_drewN | apply below_drew1 | refine below_set ?_ GE379.out | refine below_set ?_ GE380.out) | exact HB.out)) hb); clear BK379; clear BK380; clear HB; have BK379 := n0_; have BK380 := n1_; have HB := n2_; clear n0_ n1_ n2_; (try clear hb); (try clear hb2); (try clear hk); (try clear hi)))
      go_ret
      exact ⟨by first | rfl | (simp [errW_none, errW_some] <;> rfl) | (simp [*, errW_none, errW_some] <;> rfl), by repeat (first | (with_reducible first | exact HB.out | apply below_alloc | apply pw_below_drewN | apply below_drew1 | refine below_set ?_ GE379.out | refine below_set ?_ GE380.out) | exact HB.out)⟩
    · replace c5 := Bool.eq_false_iff.mpr c5
      subst c5
      have H1 : (some false) = some r := by rw [if_neg (show ¬ (false = true) by decide)] at H; exact H
      clear H
      have H := H1
      clear H1
      obtain rfl := Option.some.inj H
      go_enter Try.func33, Try.ntmps33
      go_wp2_with (first | ((with_reducible refine gate_dst (N := 2) rfl ?_); refine box_event ?hg (N := 2) ?hd (cs := #[.int .i64 a0_0, .slice A0_1 l0_1.length c0_1, .slice A0_2 l0_2.length c0_2]) (t := 25) ?hr ?_; (case hd => rfl); (case hg => rfl); (case hr => first | (go_simp; done) | (go_simp; rfl)); intro gb379 hg w13 hbox hb; have n0_ := Aside0.mk (below_step (by repeat (first | (with_reducible first | exact HB.out | apply below_alloc | apply pw_below_drewN | apply below_drew1) | exact HB.out)) hb); have n1_ := Aside0.mk (hbox); have n2_ := Aside0.mk ((by rw [hg]; exact (below_size (by repeat (first | (with_reducible first | exact HB.out | apply below_alloc | apply pw_below_drewN | apply below_drew1) | exact HB.out))) : w.heap.size ≤ gb379)); have n3_ := Aside0.mk ((by rw [hg]; exact (below_size (by repeat (first | (with_reducible first | exact HB.out | apply below_alloc | apply pw_below_drewN | apply below_drew1) | exact HB.out))) : w.heap.size ≤ gb379)); clear HB; have HB := n0_; have BK379 := n1_; have GW379 := n2_; have GE379 := n3_; clear n0_ n1_ n2_ n3_; clear hb hbox hg) | ((with_reducible refine gate_dst (N := 3) rfl ?_); refine box_event ?hg (N := 3) ?hd (cs := #[.int .i64 a1_0, .slice A1_1 l1_1.length c1_1, .slice A1_2 l1_2.length c1_2]) (t := 25) ?hr ?_; (case hd => rfl); (case hg => rfl); (case hr => first | (go_simp; done) | (go_simp; rfl)); intro gb380 hg w14 hbox hb; have n0_ := Aside0.mk (blk_below (g := gb379) (o := .cells #[.int .i64 a0_0, .slice A0_1 l0_1.length c0_1, .slice A0_2 l0_2.length c0_2] 25 (0, 0)) (by (with_reducible repeat (first | refine blk_drewN ?_ _ | refine blk_drew ?_ | refine blk_alloc ?_ _)); exact BK379.out) hb); have n1_ := Aside0.mk (below_step (by repeat (first | (with_reducible first | exact HB.out | apply below_alloc | apply pw_below_drewN | apply below_drew1 | refine below_set ?_ GE379.out) | exact HB.out)) hb); have n2_ := Aside0.mk (hbox); have n3_ := Aside0.mk ((by rw [hg]; exact (below_size (by repeat (first | (with_reducible first | exact HB.out | apply below_alloc | apply pw_below_drewN | apply below_drew1 | refine below_set ?_ GE379.out) | exact HB.out))) : w.heap.size ≤ gb380)); have n4_ := Aside0.mk ((by rw [hg]; exact (below_size (by repeat (first | (with_reducible first | exact HB.out | apply below_alloc | apply pw_below_drewN | apply below_drew1 | refine below_set ?_ GE379.out) | exact HB.out))) : w.heap.size ≤ gb380)); have n5_ := Aside0.mk ((by rw [hg]; exact Nat.ne_of_lt (blk_lt (g := gb379) (o := .cells #[.int .i64 a0_0, .slice A0_1 l0_1.length c0_1, .slice A0_2 l0_2.length c0_2] 25 (0, 0)) (by (with_reducible repeat (first | refine blk_drewN ?_ _ | refine blk_drew ?_ | refine blk_alloc ?_ _)); exact BK379.out)) : gb379 ≠ gb380)); have n6_ := Aside0.mk ((by rw [hg]; exact Nat.ne_of_gt (blk_lt (g := gb379) (o := .cells #[.int .i64 a0_0, .slice A0_1 l0_1.length c0_1, .slice A0_2 l0_2.length c0_2] 25 (0, 0)) (by (with_reducible repeat (first | refine blk_drewN ?_ _ | refine blk_drew ?_ | refine blk_alloc ?_ _)); exact BK379.out)) : gb380 ≠ gb379)); clear BK379; clear HB; have BK379 := n0_; have HB := n1_; have BK380 := n2_; have GW380 := n3_; have GE380 := n4_; have NB379_380 := n5_; have NB380_379 := n6_; clear n0_ n1_ n2_ n3_ n4_ n5_ n6_; clear hb hbox hg; have hnb15 := NB379_380.out; have hnc15 := NB380_379.out; have hcz16_0 : w14.cell? ⟨gb379, 0, none⟩ = some (.int .i64 a0_0) := (blk_cell BK379.out 0).trans rfl; have hcz16_1 : w14.cell? ⟨gb379, 1, none⟩ = some (.slice A0_1 l0_1.length c0_1) := (blk_cell BK379.out 1).trans rfl; have hcz16_2 : w14.cell? ⟨gb379, 2, none⟩ = some (.slice A0_2 l0_2.length c0_2) := (blk_cell BK379.out 2).trans rfl; have hfz16_0 := blk_frozen BK379.out 0; have hfz16_1 := blk_frozen BK379.out 1; have hfz16_2 := blk_frozen BK379.out 2; have hcz17_0 : w14.cell? ⟨gb380, 0, none⟩ = some (.int .i64 a1_0) := (blk_cell BK380.out 0).trans rfl; have hcz17_1 : w14.cell? ⟨gb380, 1, none⟩ = some (.slice A1_1 l1_1.length c1_1) := (blk_cell BK380.out 1).trans rfl; have hcz17_2 : w14.cell? ⟨gb380, 2, none⟩ = some (.slice A1_2 l1_2.length c1_2) := (blk_cell BK380.out 2).trans rfl; have hfz17_0 := blk_frozen BK380.out 0; have hfz17_1 := blk_frozen BK380.out 1; have hfz17_2 := blk_frozen BK380.out 2) | (go_at_call 101; (with_reducible refine (slices_Equal_int64_int64.calls k _ _ l0_1 _ _ l1_1 false _ ?side1 ?side2 ?side3 ?side4 A4.out).mono ?_); (case side1 => repeat (first | exact (Kd.C_below HR0_1.out HB.out) | (with_reducible refine Kd.C_alloc ?_ _) | (with_reducible refine Kd.C_drewN ?_ _) | (with_reducible refine Kd.C_drew ?_))); (case side2 => exact HC0_1.out); (case side3 => repeat (first | exact (Kd.C_below HR1_1.out HB.out) | (with_reducible refine Kd.C_alloc ?_ _) | (with_reducible refine Kd.C_drewN ?_ _) | (with_reducible refine Kd.C_drew ?_))); (case side4 => exact HC1_1.out); rintro e w' ⟨rfl, ⟨nd, rfl⟩⟩))
      go_ret
      exact ⟨by first | rfl | (simp [errW_none, errW_some] <;> rfl) | (simp [*, errW_none, errW_some] <;> rfl), by repeat (first | (with_reducible first | exact HB.out | apply below_alloc | apply pw_below_drewN | apply below_drew1 | refine below_set ?_ GE379.out | refine below_set ?_ GE380.out) | exact HB.out)⟩
  · rw [if_neg c3] at H
    have c3b0 : (a0_0 == a1_0) = false := beq_eq_false_iff_ne.mpr c3
    have c3b1 : (a0_0 != a1_0) = true := bne_iff_ne.mpr c3
    obtain rfl := Option.some.inj H
    go_enter Try.func33, Try.ntmps33
    go_wp2_with (first | ((with_reducible refine gate_dst (N := 2) rfl ?_); refine box_event ?hg (N := 2) ?hd (cs := #[.int .i64 a0_0, .slice A0_1 l0_1.length c0_1, .slice A0_2 l0_2.length c0_2]) (t := 25) ?hr ?_; (case hd => rfl); (case hg => rfl); (case hr => first | (go_simp; done) | (go_simp; rfl)); intro gb379 hg w18 hbox hb; have n0_ := Aside0.mk (below_step (by repeat (first | (with_reducible first | exact HB.out | apply below_alloc | apply pw_below_drewN | apply below_drew1) | exact HB.out)) hb); have n1_ := Aside0.mk (hbox); have n2_ := Aside0.mk ((by rw [hg]; exact (below_size (by repeat (first | (with_reducible first | exact HB.out | apply below_alloc | apply pw_below_drewN | apply below_drew1) | exact HB.out))) : w.heap.size ≤ gb379)); have n3_ := Aside0.mk ((by rw [hg]; exact (below_size (by repeat (first | (with_reducible first | exact HB.out | apply below_alloc | apply pw_below_drewN | apply below_drew1) | exact HB.out))) : w.heap.size ≤ gb379)); clear HB; have HB := n0_; have BK379 := n1_; have GW379 := n2_; have GE379 := n3_; clear n0_ n1_ n2_ n3_; clear hb hbox hg) | ((with_reducible refine gate_dst (N := 3) rfl ?_); refine box_event ?hg (N := 3) ?hd (cs := #[.int .i64 a1_0, .slice A1_1 l1_1.length c1_1, .slice A1_2 l1_2.length c1_2]) (t := 25) ?hr ?_; (case hd => rfl); (case hg => rfl); (case hr => first | (go_simp; done) | (go_simp; rfl)); intro gb380 hg w19 hbox hb; have n0_ := Aside0.mk (blk_below (g := gb379) (o := .cells #[.int .i64 a0_0, .slice A0_1 l0_1.length c0_1, .slice A0_2 l0_2.length c0_2] 25 (0, 0)) (by (with_reducible repeat (first | refine blk_drewN ?_ _ | refine blk_drew ?_ | refine blk_alloc ?_ _)); exact BK379.out) hb); have n1_ := Aside0.mk (below_step (by repeat (first | (with_reducible first | exact HB.out | apply below_alloc | apply pw_below_drewN | apply below_drew1 | refine below_set ?_ GE379.out) | exact HB.out)) hb); have n2_ := Aside0.mk (hbox); have n3_ := Aside0.mk ((by rw [hg]; exact (below_size (by repeat (first | (with_reducible first | exact HB.out | apply below_alloc | apply pw_below_drewN | apply below_drew1 | refine below_set ?_ GE379.out) | exact HB.out))) : w.heap.size ≤ gb380)); have n4_ := Aside0.mk ((by rw [hg]; exact (below_size (by repeat (first | (with_reducible first | exact HB.out | apply below_alloc | apply pw_below_drewN | apply below_drew1 | refine below_set ?_ GE379.out) | exact HB.out))) : w.heap.size ≤ gb380)); have n5_ := Aside0.mk ((by rw [hg]; exact Nat.ne_of_lt (blk_lt (g := gb379) (o := .cells #[.int .i64 a0_0, .slice A0_1 l0_1.length c0_1, .slice A0_2 l0_2.length c0_2] 25 (0, 0)) (by (with_reducible repeat (first | refine blk_drewN ?_ _ | refine blk_drew ?_ | refine blk_alloc ?_ _)); exact BK379.out)) : gb379 ≠ gb380)); have n6_ := Aside0.mk ((by rw [hg]; exact Nat.ne_of_gt (blk_lt (g := gb379) (o := .cells #[.int .i64 a0_0, .slice A0_1 l0_1.length c0_1, .slice A0_2 l0_2.length c0_2] 25 (0, 0)) (by (with_reducible repeat (first | refine blk_drewN ?_ _ | refine blk_drew ?_ | refine blk_alloc ?_ _)); exact BK379.out)) : gb380 ≠ gb379)); clear BK379; clear HB; have BK379 := n0_; have HB := n1_; have BK380 := n2_; have GW380 := n3_; have GE380 := n4_; have NB379_380 := n5_; have NB380_379 := n6_; clear n0_ n1_ n2_ n3_ n4_ n5_ n6_; clear hb hbox hg; have hnb20 := NB379_380.out; have hnc20 := NB380_379.out; have hcz21_0 : w19.cell? ⟨gb379, 0, none⟩ = some (.int .i64 a0_0) := (blk_cell BK379.out 0).trans rfl; have hcz21_1 : w19.cell? ⟨gb379, 1, none⟩ = some (.slice A0_1 l0_1.length c0_1) := (blk_cell BK379.out 1).trans rfl; have hcz21_2 : w19.cell? ⟨gb379, 2, none⟩ = some (.slice A0_2 l0_2.length c0_2) := (blk_cell BK379.out 2).trans rfl; have hfz21_0 := blk_frozen BK379.out 0; have hfz21_1 := blk_frozen BK379.out 1; have hfz21_2 := blk_frozen BK379.out 2; have hcz22_0 : w19.cell? ⟨gb380, 0, none⟩ = some (.int .i64 a1_0) := (blk_cell BK380.out 0).trans rfl; have hcz22_1 : w19.cell? ⟨gb380, 1, none⟩ = some (.slice A1_1 l1_1.length c1_1) := (blk_cell BK380.out 1).trans rfl; have hcz22_2 : w19.cell? ⟨gb380, 2, none⟩ = some (.slice A1_2 l1_2.length c1_2) := (blk_cell BK380.out 2).trans rfl; have hfz22_0 := blk_frozen BK380.out 0; have hfz22_1 := blk_frozen BK380.out 1; have hfz22_2 := blk_frozen BK380.out 2))
    go_ret
    exact ⟨by first | rfl | (simp [errW_none, errW_some] <;> rfl) | (simp [*, errW_none, errW_some] <;> rfl), by repeat (first | (with_reducible first | exact HB.out | apply below_alloc | apply pw_below_drewN | apply below_drew1 | refine below_set ?_ GE379.out | refine below_set ?_ GE380.out) | exact HB.out)⟩

end Go.Proofs.Ytkjibgfgbfacdaa.P
end
/-! part: PSlotsPut -/
section
set_option linter.unusedVariables false
set_option linter.unusedSimpArgs false
namespace Go.Proofs.Ytkjibgfgbfacdaa.P
open Go.RowKit Go.Proofs.YtkjibgfgbfacdaaW.PrintWords Go.Proofs.YtkjibgfgbfacdaaW.PrintLast Go.Proofs.YtkjibgfgbfacdaaW.PrintMore
set_option linter.unusedVariables false

/-! ### with -/
theorem cloneI64 (v : List Int) (h : v.length < 17592186044416) : slices_Clone_int64_int64.f v = some v := by
  unfold slices_Clone_int64_int64.f
  simp [h]
theorem cloneVecs (v : List (List Int)) (h : v.length < 5864062014805) : api_Vec_144.f v = some v := by
  unfold api_Vec_144.f
  simp [h]
theorem with_l (dim : Int) (ids : List Int) (vecs : List (List Int)) (i id : Int) (v : List Int) (hl : vecs.length = ids.length) (hm : ids.length ≤ 256) (hr : ∀ y ∈ vecs, y.length ≤ 64) (hv : v.length ≤ 64)
    (h0 : 0 ≤ i) (h1 : i < (ids.length : Int)) (d : Nat) : ∀ j : Int, 0 ≤ j → j ≤ (vecs.length : Int) → (vecs.length : Int) - j = d →
    Ev (fun k => slots_with.l0 k i id v (vecs.length : Int) j dim ids vecs) (dim, ids.set i.toNat id, vecs.set i.toNat v) := by
  induction d with
  | zero =>
    intro j j0 j1 hd
    refine Ev.step (fun k => by
      simp only [slots_with.l0]
      rw [if_neg (by omega), cloneVec v (by omega)]
      simp only [Option.bind_some]
      rw [if_pos h0, if_pos h1, if_pos (by omega)]) (Ev.const _)
  | succ d ih =>
    intro j j0 j1 hd
    have hj := hr _ (getD_mem [] vecs j j0 (by omega))
    have e : vecs.set j.toNat (vecs.getD j.toNat []) = vecs := by
      have hjl : j.toNat < vecs.length := by omega
      simp [List.getD_eq_getElem?_getD, hjl]
    refine Ev.step (g' := fun k => slots_with.l0 k i id v (vecs.length : Int) (j + 1) dim ids vecs) (fun k => by
      simp only [slots_with.l0]
      rw [if_pos (by omega), if_pos j0, if_pos (by omega), show rd_L3 vecs j = vecs.getD j.toNat [] from rfl, cloneVec _ (by omega), w64 (by omega) (by omega)]
      simp only [Option.bind_some]
      rw [e]) (ih (j + 1) (by omega) (by omega) (by omega))
theorem with_ev (dim : Int) (ids : List Int) (vecs : List (List Int)) (i id : Int) (v : List Int) (hl : vecs.length = ids.length) (hm : ids.length ≤ 256) (hr : ∀ y ∈ vecs, y.length ≤ 64) (hv : v.length ≤ 64)
    (h0 : 0 ≤ i) (h1 : i < (ids.length : Int)) : Ev (fun k => slots_with.f k dim ids vecs i id v) (dim, ids.set i.toNat id, vecs.set i.toNat v) := by
  refine Ev.congr (g' := fun k => slots_with.l0 k i id v (vecs.length : Int) 0 dim ids vecs) (fun k => by
    unfold slots_with.f
    rw [cloneI64 ids (by omega), cloneVecs vecs (by omega)]
    simp only [Option.bind_some]) ?_
  exact with_l dim ids vecs i id v hl hm hr hv h0 h1 vecs.length 0 (by omega) (by omega) (by omega)

/-! ### what put and del do -/
def putS (dim : Int) (ids : List Int) (vecs : List (List Int)) (id : Int) (v : List Int) : Int × Int × List Int × List (List Int) × Int :=
  if slotsOk dim ids vecs = true ∧ isIdB id = true ∧ vecOk v = true ∧ (v.length : Int) = dim then
    (if ids.idxOf id < ids.length then ((ids.idxOf id : Int), dim, ids.set (ids.idxOf id) id, vecs.set (ids.idxOf id) v, 0)
     else if ids.idxOf (-1) < ids.length then ((ids.idxOf (-1) : Int), dim, ids.set (ids.idxOf (-1)) id, vecs.set (ids.idxOf (-1)) v, 0)
     else (0, 0, [], [], 7))
  else (0, 0, [], [], 1)
def delS (dim : Int) (ids : List Int) (vecs : List (List Int)) (id : Int) : Int × Int × List Int × List (List Int) × Int :=
  if slotsOk dim ids vecs = true ∧ isIdB id = true then
    (if ids.idxOf id < ids.length then ((ids.idxOf id : Int), dim, ids.set (ids.idxOf id) (-1), vecs.set (ids.idxOf id) [], 0) else (0, 0, [], [], 5))
  else (0, 0, [], [], 1)
theorem index_l (ids : List Int) (x : Int) (hm : ids.length ≤ 9223372036854775807) (d : Nat) : ∀ i : Int, 0 ≤ i → i ≤ (ids.length : Int) → (ids.length : Int) - i = d →
    Ev (fun k => slices_Index_int64_int64.l0 k ids x (ids.length : Int) i) (if (ids.drop i.toNat).idxOf x < (ids.drop i.toNat).length then i + ((ids.drop i.toNat).idxOf x : Int) else -1) := by
  induction d with
  | zero =>
    intro i h0 h1 hd
    refine Ev.step (fun k => by simp only [slices_Index_int64_int64.l0]; rw [if_neg (by omega)]) ?_
    rw [List.drop_eq_nil_of_le (by omega)]
    exact Ev.const _
  | succ d ih =>
    intro i h0 h1 hd
    rw [rdO 0 ids i h0 (by omega)]
    by_cases e : x = rd ids i
    · refine Ev.step (fun k => by simp only [slices_Index_int64_int64.l0]; rw [if_pos (by omega), if_pos h0, if_pos (by omega), if_pos e]) ?_
      have e' : ids.getD i.toNat 0 = x := e.symm
      rw [List.idxOf_cons, e']
      simp only [beq_self_eq_true, if_true, cond_true]
      refine Ev.of fun k => ?_
      simp
    · have e' : ids.getD i.toNat 0 ≠ x := fun h => e h.symm
      refine Ev.step (fun k => by simp only [slices_Index_int64_int64.l0]; rw [if_pos (by omega), if_pos h0, if_pos (by omega), if_neg e, w64 (by omega) (by omega)]) ?_
      have := ih (i + 1) (by omega) (by omega) (by omega)
      rw [List.idxOf_cons, (beq_eq_false_iff_ne).2 e']
      simp only [cond_false, List.length_cons]
      by_cases hc : (ids.drop (i + 1).toNat).idxOf x < (ids.drop (i + 1).toNat).length
      · rw [if_pos hc] at this
        rw [if_pos (by omega)]
        rw [show i + (((ids.drop (i + 1).toNat).idxOf x + 1 : Nat) : Int) = i + 1 + ((ids.drop (i + 1).toNat).idxOf x : Int) by omega]
        exact this
      · rw [if_neg hc] at this
        rw [if_neg (by omega)]
        exact this
theorem index_ev (ids : List Int) (x : Int) (hm : ids.length ≤ 9223372036854775807) : Ev (fun k => slices_Index_int64_int64.f k ids x) (if ids.idxOf x < ids.length then (ids.idxOf x : Int) else -1) := by
  have := index_l ids x hm ids.length 0 (by omega) (by omega) (by omega)
  simpa [slices_Index_int64_int64.f] using this
theorem rows64 {dim : Int} {ids : List Int} {vecs : List (List Int)} (h : slotsOk dim ids vecs = true) : ∀ y ∈ vecs, y.length ≤ 64 := by
  obtain ⟨_, _, _, _, h5, h6, _⟩ := slotsOk_parts h
  intro y hy
  obtain ⟨j, hj, rfl⟩ := List.getElem_of_mem hy
  have := h6 j (by omega)
  rw [show vecs.getD j [] = vecs[j] by simp [List.getD_eq_getElem?_getD, hj]] at this
  unfold slotOk at this
  simp only [Bool.or_eq_true, Bool.and_eq_true, decide_eq_true_eq] at this
  rcases this with ⟨_, h1⟩ | ⟨⟨_, h2⟩, _⟩
  · rw [List.isEmpty_iff] at h1; rw [h1]; exact Nat.zero_le _
  · exact (vecOk_len h2).2
theorem find_eq (dim : Int) (ids : List Int) (vecs : List (List Int)) (id : Int) (hi : ids.all i64B = true) (hd : i64B id = true) :
    h_slots_Find.f dim ids vecs id = some (if slotsOk dim ids vecs = true ∧ isIdB id = true then (if ids.idxOf id < ids.length then ((ids.idxOf id : Int), 0) else (0, 5)) else (0, 1)) := by
  unfold h_slots_Find.f
  rw [if_pos ⟨hi, hd⟩]
theorem fits_ev (dim : Int) (ids : List Int) (vecs : List (List Int)) (v : List Int) : Ev (fun k => slots_fits.f k dim ids vecs v) (vecOk v && decide ((v.length : Int) = dim)) :=
  ⟨65, fun k hk => fitsP dim ids vecs v k hk⟩
theorem put_ev (dim : Int) (ids : List Int) (vecs : List (List Int)) (id : Int) (v : List Int) (hi : ids.all i64B = true) (hd : i64B id = true) : Ev (fun k => slots_Put.f k dim ids vecs id v) (putS dim ids vecs id v) := by
  have hf := find_eq dim ids vecs id hi hd
  unfold putS
  by_cases hk : slotsOk dim ids vecs = true ∧ isIdB id = true
  · rw [if_pos hk] at hf
    obtain ⟨s1, s2, s3, s4, s5, _, _⟩ := slotsOk_parts hk.1
    by_cases hv : vecOk v = true ∧ (v.length : Int) = dim
    · have hvl := vecOk_len hv.1
      rw [if_pos ⟨hk.1, hk.2, hv.1, hv.2⟩]
      have hfit : (vecOk v && decide ((v.length : Int) = dim)) = true := by rw [hv.1, decide_eq_true hv.2]; rfl
      by_cases hx : ids.idxOf id < ids.length
      · rw [if_pos hx] at hf ⊢
        refine Ev.congr (g' := fun k => (slots_fits.f k dim ids vecs v).bind fun t => slots_Put.j0 k id v (ids.idxOf id : Int) 0 (!t) dim ids vecs) (fun k => by
          unfold slots_Put.f
          rw [hf]
          simp only [Option.bind_some]
          rw [if_neg (by decide)]) ?_
        refine Ev.bind (fits_ev dim ids vecs v) ?_
        rw [hfit]
        refine Ev.step (g' := fun k => (slots_with.f k dim ids vecs (ids.idxOf id : Int) id v).bind fun bt => some ((ids.idxOf id : Int), bt.1, bt.2.1, bt.2.2, 0)) (fun k => by
          simp only [slots_Put.j0]
          rw [if_neg (by decide), if_neg (by decide)]) ?_
        refine Ev.bind (with_ev dim ids vecs (ids.idxOf id : Int) id v s5 s4 (rows64 hk.1) hvl.2 (by omega) (by omega)) ?_
        simp only [Int.toNat_natCast]
        exact Ev.const _
      · rw [if_neg hx] at hf ⊢
        refine Ev.congr (g' := fun k => (slots_fits.f k dim ids vecs v).bind fun t => slots_Put.j0 k id v 0 5 (!t) dim ids vecs) (fun k => by
          unfold slots_Put.f
          rw [hf]
          simp only [Option.bind_some]
          rw [if_neg (by decide)]) ?_
        refine Ev.bind (fits_ev dim ids vecs v) ?_
        rw [hfit]
        refine Ev.step (g' := fun k => (slices_Index_int64_int64.f k ids (-1)).bind fun t166 => (if t166 < 0 then (some (0, 0, ([] : List Int), ([] : List (List Int)), 7)) else ((slots_with.f k dim ids vecs t166 id v).bind fun bt167 => (some (t166, bt167.1, bt167.2.1, bt167.2.2, 0))))) (fun k => by
          simp only [slots_Put.j0]
          rw [if_neg (by decide), if_pos (by decide)]) ?_
        refine Ev.bind (index_ev ids (-1) (by omega)) ?_
        by_cases hn : ids.idxOf (-1) < ids.length
        · rw [if_pos hn, if_pos hn]
          have hneg : ¬ ((ids.idxOf (-1) : Int) < 0) := by omega
          simp only [if_neg hneg]
          refine Ev.bind (with_ev dim ids vecs (ids.idxOf (-1) : Int) id v s5 s4 (rows64 hk.1) hvl.2 (by omega) (by omega)) ?_
          simp only [Int.toNat_natCast]
          exact Ev.const _
        · rw [if_neg hn, if_neg hn]
          exact Ev.of fun k => by simp
    · rw [if_neg (fun z => hv ⟨z.2.2.1, z.2.2.2⟩)]
      have hfit : (vecOk v && decide ((v.length : Int) = dim)) = false := by
        cases h1 : vecOk v
        · rfl
        · rw [decide_eq_false (fun z => hv ⟨h1, z⟩)]; rfl
      have hne : ¬ (if ids.idxOf id < ids.length then ((ids.idxOf id : Int), (0 : Int)) else (0, 5)).2 = 1 := by split <;> simp
      refine Ev.congr (g' := fun k => (slots_fits.f k dim ids vecs v).bind fun t => slots_Put.j0 k id v (if ids.idxOf id < ids.length then ((ids.idxOf id : Int), (0 : Int)) else (0, 5)).1 (if ids.idxOf id < ids.length then ((ids.idxOf id : Int), (0 : Int)) else (0, 5)).2 (!t) dim ids vecs) (fun k => by
        unfold slots_Put.f
        rw [hf]
        simp only [Option.bind_some]
        rw [if_neg hne]) ?_
      refine Ev.bind (fits_ev dim ids vecs v) ?_
      rw [hfit]
      exact Ev.step (g' := fun _ => some (0, 0, [], [], 1)) (fun k => by simp [slots_Put.j0]) (Ev.const _)
  · rw [if_neg hk] at hf
    rw [if_neg (fun z => hk ⟨z.1, z.2.1⟩)]
    refine Ev.congr (g' := fun k => slots_Put.j0 k id v 0 1 true dim ids vecs) (fun k => by
      unfold slots_Put.f
      rw [hf]
      simp only [Option.bind_some, if_true]) ?_
    exact Ev.step (g' := fun _ => some (0, 0, [], [], 1)) (fun k => by simp [slots_Put.j0]) (Ev.const _)
theorem del_ev (dim : Int) (ids : List Int) (vecs : List (List Int)) (id : Int) (hi : ids.all i64B = true) (hd : i64B id = true) : Ev (fun k => slots_Del.f k dim ids vecs id) (delS dim ids vecs id) := by
  have hf := find_eq dim ids vecs id hi hd
  unfold delS slots_Del.f
  by_cases hk : slotsOk dim ids vecs = true ∧ isIdB id = true
  · rw [if_pos hk] at hf ⊢
    obtain ⟨s1, s2, s3, s4, s5, _, _⟩ := slotsOk_parts hk.1
    by_cases hx : ids.idxOf id < ids.length
    · rw [if_pos hx] at hf ⊢
      simp only [hf, Option.bind_some, if_true]
      refine Ev.bind (with_ev dim ids vecs (ids.idxOf id : Int) (-1) [] s5 s4 (rows64 hk.1) (by simp) (by omega) (by omega)) ?_
      simp only [Int.toNat_natCast]
      exact Ev.const _
    · rw [if_neg hx] at hf ⊢
      simp only [hf, Option.bind_some]
      exact Ev.of fun k => by simp
  · rw [if_neg hk] at hf ⊢
    simp only [hf, Option.bind_some]
    exact Ev.of fun k => by simp

/-! ### slots stay slots -/
theorem getD_idxOf (x : Int) (l : List Int) : l.idxOf x < l.length → l.getD (l.idxOf x) 0 = x := by
  induction l with
  | nil => intro h; simp at h
  | cons a t ih =>
    intro h
    rw [List.idxOf_cons] at h ⊢
    by_cases c : a = x
    · rw [(beq_iff_eq).2 c]; simpa using c
    · rw [(beq_eq_false_iff_ne).2 c] at h ⊢
      simp only [cond_false, List.length_cons] at h ⊢
      have := ih (by omega)
      simpa using this
theorem slotsOk_mk {dim : Int} {ids : List Int} {vecs : List (List Int)} (h1 : 1 ≤ dim) (h2 : dim ≤ 64) (h3 : 1 ≤ ids.length) (h4 : ids.length ≤ 256) (h5 : vecs.length = ids.length)
    (h6 : ∀ j : Nat, j < ids.length → slotOk dim (ids.getD j 0) (vecs.getD j []) = true) (h7 : (ids.filter (fun x => decide (x ≠ -1))).Nodup) : slotsOk dim ids vecs = true := by
  unfold slotsOk
  simp only [Bool.and_eq_true, decide_eq_true_eq]
  refine ⟨⟨⟨⟨⟨⟨h1, h2⟩, h3⟩, h4⟩, h5⟩, ?_⟩, h7⟩
  refine List.all_eq_true.2 fun p hp => ?_
  obtain ⟨j, hj, rfl⟩ := List.getElem_of_mem hp
  have hz : j < ids.length := by rw [List.length_zip] at hj; omega
  have hv : j < vecs.length := by omega
  have := h6 j hz
  rw [List.getElem_zip]
  simpa [List.getD_eq_getElem?_getD, hz, hv] using this
theorem live_set {ids : List Int} {j : Nat} {id : Int} (hj : j < ids.length) (h : (ids.filter (fun x => decide (x ≠ -1))).Nodup) (hc : ids.getD j 0 = id ∨ id = -1 ∨ id ∉ ids) : ((ids.set j id).filter (fun x => decide (x ≠ -1))).Nodup := by
  have e0 : ids = ids.take j ++ ids.getD j 0 :: ids.drop (j + 1) := by
    rw [show ids.getD j 0 = ids[j] by simp [List.getD_eq_getElem?_getD, hj], ← List.drop_eq_getElem_cons hj, List.take_append_drop]
  have e1 : ids.set j id = ids.take j ++ id :: ids.drop (j + 1) := by rw [List.set_eq_take_append_cons_drop, if_pos hj]
  have hAB : ((ids.take j).filter (fun x => decide (x ≠ -1)) ++ (ids.drop (j + 1)).filter (fun x => decide (x ≠ -1))).Nodup := by
    refine List.Sublist.nodup ?_ h
    conv => rhs; rw [e0]
    rw [List.filter_append]
    refine List.Sublist.append (List.Sublist.refl _) ?_
    rw [List.filter_cons]
    split
    · exact List.sublist_cons_self _ _
    · exact List.Sublist.refl _
  rcases hc with hc | hc | hc
  · have : ids.set j id = ids := by rw [e1, ← hc, ← e0]
    rw [this]
    exact h
  · rw [e1, List.filter_append, List.filter_cons, if_neg (by simp [hc])]
    exact hAB
  · rw [e1, List.filter_append, List.filter_cons]
    split
    · rw [List.perm_middle.nodup_iff, List.nodup_cons]
      refine ⟨fun hm => hc ?_, hAB⟩
      rcases List.mem_append.1 hm with hm | hm
      · exact List.mem_of_mem_take (List.mem_filter.1 hm).1
      · exact List.mem_of_mem_drop (List.mem_filter.1 hm).1
    · exact hAB
theorem slotsOk_set {dim : Int} {ids : List Int} {vecs : List (List Int)} (h : slotsOk dim ids vecs = true) {j : Nat} (hj : j < ids.length) {id : Int} {v : List Int} (hs : slotOk dim id v = true) (hc : ids.getD j 0 = id ∨ id = -1 ∨ id ∉ ids) :
    slotsOk dim (ids.set j id) (vecs.set j v) = true := by
  obtain ⟨h1, h2, h3, h4, h5, h6, h7⟩ := slotsOk_parts h
  refine slotsOk_mk h1 h2 (by simpa using h3) (by simpa using h4) (by simpa using h5) (fun q hq => ?_) (live_set hj h7 hc)
  rw [List.length_set] at hq
  by_cases e : q = j
  · subst e
    have hv : q < vecs.length := by omega
    simpa [List.getD_eq_getElem?_getD, hj, hv] using hs
  · have := h6 q hq
    simpa [List.getD_eq_getElem?_getD, List.getElem?_set, Ne.symm e] using this
theorem slotOk_new {dim id : Int} {v : List Int} (h1 : isIdB id = true) (h2 : vecOk v = true) (h3 : (v.length : Int) = dim) : slotOk dim id v = true := by
  unfold slotOk
  rw [h1, h2, decide_eq_true h3]
  simp
theorem sameVec04 (a b : List Int) (hm : a.length ≤ 9223372036854775807) : Ev (fun k => cuvetteref04_Same.f k a b) (decide (a = b)) :=
  ⟨a.length + 1, fun k hk => eqLoop0 0 cuvetteref04_Same.l0 (fun k xs ys n i => by simp only [cuvetteref04_Same.l0]; rfl) a b hm k (by omega)⟩
theorem sameInts03 (a b : List Int) (hm : a.length ≤ 9223372036854775807) : Ev (fun k => cuvetteref03_SameInts.f k a b) (decide (a = b)) :=
  ⟨a.length + 1, fun k hk => eqLoop0 0 cuvetteref03_SameInts.l0 (fun k xs ys n i => by simp only [cuvetteref03_SameInts.l0]; rfl) a b hm k (by omega)⟩
theorem live10 : Ev (fun k => cuvettelaw10_live.f k) true := by
  suffices h : Ev (fun k => cuvettelaw10_live.f0 k) true by
    obtain ⟨K, h⟩ := h
    exact ⟨K, fun k hk => by simp only [cuvettelaw10_live.f]; rw [if_pos (h k hk)]⟩
  unfold cuvettelaw10_live.f0
  have hn : slots_New.f 2 1 = some (1, [-1, -1], [[], []], 0) := by decide +kernel
  rw [hn]
  simp only [Option.bind_some]
  refine Ev.bind (put_ev 1 [-1, -1] [[], []] 7 [1] (by decide) (by decide)) ?_
  rw [show putS 1 [-1, -1] [[], []] 7 [1] = (0, 1, [7, -1], [[1], []], 0) by decide +kernel]
  refine Ev.bind (put_ev 1 [7, -1] [[1], []] 3 [2] (by decide) (by decide)) ?_
  rw [show putS 1 [7, -1] [[1], []] 3 [2] = (1, 1, [7, 3], [[1], [2]], 0) by decide +kernel]
  refine Ev.bind (del_ev 1 [7, 3] [[1], [2]] 7 (by decide) (by decide)) ?_
  rw [show delS 1 [7, 3] [[1], [2]] 7 = (0, 1, [-1, 3], [[], [2]], 0) by decide +kernel]
  refine Ev.bind (put_ev 1 [-1, 3] [[], [2]] 9 [4] (by decide) (by decide)) ?_
  rw [show putS 1 [-1, 3] [[], [2]] 9 [4] = (0, 1, [9, 3], [[4], [2]], 0) by decide +kernel]
  simp only [if_true]
  refine Ev.bind (sameInts03 [9, 3] [9, 3] (by decide)) ?_
  exact Ev.of fun k => by simp
theorem i64B_id {a : Int} (h : okN .i64 a) : i64B a = true := by
  obtain ⟨h0, h1⟩ := okN_i64 h
  unfold i64B
  rw [decide_eq_true h0, decide_eq_true h1]
  rfl
theorem i64B_set {ids : List Int} (h : ids.all i64B = true) (j : Nat) {x : Int} (hx : i64B x = true) : (ids.set j x).all i64B = true := by
  refine List.all_eq_true.2 fun y hy => ?_
  rcases List.mem_or_eq_of_mem_set hy with hy | rfl
  · exact List.all_eq_true.1 h y hy
  · exact hx
end Go.Proofs.Ytkjibgfgbfacdaa.P
end
/-! part: PureSlotsApart -/
section
set_option linter.unusedVariables false
set_option linter.unusedSimpArgs false
namespace Go.Proofs.Ytkjibgfgbfacdaa.P
open Go.RowKit Go.Proofs.YtkjibgfgbfacdaaW.PrintWords Go.Proofs.YtkjibgfgbfacdaaW.PrintLast Go.Proofs.YtkjibgfgbfacdaaW.PrintMore
set_option linter.unusedVariables false
theorem isId_ne {x : Int} (h : isIdB x = true) : x ≠ -1 := by rintro rfl; exact absurd h (by decide)
theorem mem_set_iff (l : List Int) (i : Nat) (y x : Int) (h : i < l.length) : x ∈ l.set i y ↔ x = y ∨ ∃ k, k < l.length ∧ k ≠ i ∧ l.getD k 0 = x := by
  rw [List.mem_iff_getElem]
  constructor
  · rintro ⟨k, hk, e⟩
    rw [List.length_set] at hk
    rw [List.getElem_set] at e
    by_cases hki : i = k
    · rw [if_pos hki] at e; exact .inl e.symm
    · rw [if_neg hki] at e
      exact .inr ⟨k, hk, fun z => hki z.symm, by simp [List.getD_eq_getElem?_getD, hk, e]⟩
  · rintro (rfl | ⟨k, hk, hki, e⟩)
    · exact ⟨i, by rw [List.length_set]; exact h, by rw [List.getElem_set_self]⟩
    · refine ⟨k, by rw [List.length_set]; exact hk, ?_⟩
      rw [List.getElem_set, if_neg (fun z => hki z.symm)]
      simpa [List.getD_eq_getElem?_getD, hk] using e
theorem mem_getD {l : List Int} {x : Int} : x ∈ l ↔ ∃ k, k < l.length ∧ l.getD k 0 = x := by
  rw [List.mem_iff_getElem]
  constructor
  · rintro ⟨k, hk, e⟩; exact ⟨k, hk, by simpa [List.getD_eq_getElem?_getD, hk] using e⟩
  · rintro ⟨k, hk, e⟩; exact ⟨k, hk, by simpa [List.getD_eq_getElem?_getD, hk] using e⟩
theorem mem_set_live (l : List Int) (i : Nat) (y x : Int) (h : i < l.length) (hx : x ≠ -1) (hc : l.getD i 0 = y ∨ l.getD i 0 = -1) : x ∈ l.set i y ↔ x = y ∨ x ∈ l := by
  rw [mem_set_iff l i y x h, mem_getD]
  constructor
  · rintro (e | ⟨k, hk, _, e⟩)
    · exact .inl e
    · exact .inr ⟨k, hk, e⟩
  · rintro (e | ⟨k, hk, e⟩)
    · exact .inl e
    · by_cases hki : k = i
      · subst hki
        rcases hc with hc | hc
        · exact .inl (by rw [← e, hc])
        · exact absurd (e.symm.trans hc) hx
      · exact .inr ⟨k, hk, hki, e⟩
/-- What a put that was let in comes to. -/
structure PutOk (dim : Int) (ids : List Int) (vecs : List (List Int)) (id : Int) (v : List Int) (i : Nat) : Prop where
  ok : slotsOk dim ids vecs = true
  isId : isIdB id = true
  vok : vecOk v = true
  len : (v.length : Int) = dim
  lt : i < ids.length
  at_ : ids.getD i 0 = id ∨ (ids.getD i 0 = -1 ∧ id ∉ ids)
  first : id ∉ ids → i = ids.idxOf (-1)
  eq : putS dim ids vecs id v = ((i : Int), dim, ids.set i id, vecs.set i v, 0)
theorem putS_inv {dim : Int} {ids : List Int} {vecs : List (List Int)} {id : Int} {v : List Int} (h : (putS dim ids vecs id v).2.2.2.2 = 0) : ∃ i, PutOk dim ids vecs id v i := by
  unfold putS at h
  by_cases hk : slotsOk dim ids vecs = true ∧ isIdB id = true ∧ vecOk v = true ∧ (v.length : Int) = dim
  · rw [if_pos hk] at h
    by_cases hx : ids.idxOf id < ids.length
    · exact ⟨ids.idxOf id, hk.1, hk.2.1, hk.2.2.1, hk.2.2.2, hx, .inl (getD_idxOf id ids hx), fun hn => absurd (List.idxOf_lt_length_iff.1 hx) hn, by unfold putS; rw [if_pos hk, if_pos hx]⟩
    · rw [if_neg hx] at h
      by_cases hn : ids.idxOf (-1) < ids.length
      · exact ⟨ids.idxOf (-1), hk.1, hk.2.1, hk.2.2.1, hk.2.2.2, hn, .inr ⟨getD_idxOf (-1) ids hn, fun hm => hx (List.idxOf_lt_length_iff.2 hm)⟩, fun _ => rfl, by unfold putS; rw [if_pos hk, if_neg hx, if_pos hn]⟩
      · rw [if_neg hn] at h; exact absurd h (by decide)
  · rw [if_neg hk] at h; exact absurd h (by decide)
theorem putS_err {dim : Int} {ids : List Int} {vecs : List (List Int)} {id : Int} {v : List Int} (hk : slotsOk dim ids vecs = true ∧ isIdB id = true ∧ vecOk v = true ∧ (v.length : Int) = dim) :
    (putS dim ids vecs id v).2.2.2.2 = if id ∈ ids ∨ (-1) ∈ ids then 0 else 7 := by
  unfold putS
  rw [if_pos hk]
  have e1 : ids.idxOf id < ids.length ↔ id ∈ ids := List.idxOf_lt_length_iff
  have e2 : ids.idxOf (-1) < ids.length ↔ (-1 : Int) ∈ ids := List.idxOf_lt_length_iff
  by_cases h1 : id ∈ ids
  · rw [if_pos (e1.2 h1), if_pos (.inl h1)]
  · rw [if_neg (fun z => h1 (e1.1 z))]
    by_cases h2 : (-1 : Int) ∈ ids
    · rw [if_pos (e2.2 h2), if_pos (.inr h2)]
    · rw [if_neg (fun z => h2 (e2.1 z)), if_neg (fun z => z.elim h1 h2)]
theorem PutOk.ok2 {dim : Int} {ids : List Int} {vecs : List (List Int)} {id : Int} {v : List Int} {i : Nat} (h : PutOk dim ids vecs id v i) : slotsOk dim (ids.set i id) (vecs.set i v) = true :=
  slotsOk_set h.ok h.lt (slotOk_new h.isId h.vok h.len) (h.at_.elim .inl fun z => .inr (.inr z.2))
theorem PutOk.mem {dim : Int} {ids : List Int} {vecs : List (List Int)} {id : Int} {v : List Int} {i : Nat} (h : PutOk dim ids vecs id v i) (x : Int) (hx : x ≠ -1) : x ∈ ids.set i id ↔ x = id ∨ x ∈ ids :=
  mem_set_live ids i id x h.lt hx (h.at_.elim .inl fun z => .inr z.1)
theorem PutOk.free {dim : Int} {ids : List Int} {vecs : List (List Int)} {id : Int} {v : List Int} {i : Nat} (h : PutOk dim ids vecs id v i) : (-1 : Int) ∈ ids.set i id ↔ ∃ k, k < ids.length ∧ k ≠ i ∧ ids.getD k 0 = -1 := by
  rw [mem_set_iff ids i id (-1) h.lt]
  constructor
  · rintro (e | e)
    · exact absurd e.symm (isId_ne h.isId)
    · exact e
  · exact .inr
/-- Both orders are refused alike. -/
theorem apart_err {dim : Int} {ids : List Int} {vecs : List (List Int)} {id other : Int} {v w : List Int} {i j : Nat} (ha : PutOk dim ids vecs id v i) (hb : PutOk dim ids vecs other w j) (hne : id ≠ other) :
    (other ∈ ids.set i id ∨ (-1 : Int) ∈ ids.set i id) ↔ (id ∈ ids.set j other ∨ (-1 : Int) ∈ ids.set j other) := by
  rw [ha.mem other (isId_ne hb.isId), hb.mem id (isId_ne ha.isId), ha.free, hb.free]
  have k1 : ∀ {id' : Int} {v' : List Int} {i' : Nat}, PutOk dim ids vecs id' v' i' → id' ∉ ids → ids.getD i' 0 = -1 := fun h hn => h.at_.elim (fun z => absurd (mem_getD.2 ⟨_, h.lt, z⟩) hn) (fun z => z.1)
  by_cases h1 : id ∈ ids
  · by_cases h2 : other ∈ ids
    · exact ⟨fun _ => .inl (.inr h1), fun _ => .inl (.inr h2)⟩
    · refine ⟨fun _ => .inl (.inr h1), fun _ => .inr ⟨j, hb.lt, ?_, k1 hb h2⟩⟩
      rintro rfl
      rcases ha.at_ with z | z
      · have := k1 hb h2
        rw [z] at this
        exact isId_ne ha.isId this
      · exact z.2 h1
  · by_cases h2 : other ∈ ids
    · refine ⟨fun _ => .inr ⟨i, ha.lt, ?_, k1 ha h1⟩, fun _ => .inl (.inr h2)⟩
      rintro rfl
      rcases hb.at_ with z | z
      · have := k1 ha h1
        rw [z] at this
        exact isId_ne hb.isId this
      · exact z.2 h2
    · have e : i = j := (ha.first h1).trans (hb.first h2).symm
      subst e
      have n1 : other ≠ id := fun z => hne z.symm
      constructor
      · rintro ((z | z) | z)
        · exact absurd z n1
        · exact absurd z h2
        · exact .inr z
      · rintro ((z | z) | z)
        · exact absurd z hne
        · exact absurd z h1
        · exact .inr z
theorem live_same {dim : Int} {ids1 ids2 : List Int} {vecs1 vecs2 : List (List Int)} (h1 : slotsOk dim ids1 vecs1 = true) (h2 : slotsOk dim ids2 vecs2 = true) (hm : ∀ x, x ≠ -1 → (x ∈ ids1 ↔ x ∈ ids2)) :
    (ids1.filter (fun x => decide (x ≠ -1))).mergeSort (fun a b => decide (a ≤ b)) = (ids2.filter (fun x => decide (x ≠ -1))).mergeSort (fun a b => decide (a ≤ b)) := by
  obtain ⟨_, _, _, _, _, _, n1⟩ := slotsOk_parts h1
  obtain ⟨_, _, _, _, _, _, n2⟩ := slotsOk_parts h2
  have hp : (ids1.filter (fun x => decide (x ≠ -1))).Perm (ids2.filter (fun x => decide (x ≠ -1))) := by
    refine (List.perm_ext_iff_of_nodup n1 n2).2 fun x => ?_
    rw [List.mem_filter, List.mem_filter]
    by_cases hx : x = -1
    · simp [hx]
    · simp [hx, hm x hx]
  have tr : ∀ a b c : Int, decide (a ≤ b) = true → decide (b ≤ c) = true → decide (a ≤ c) = true := fun a b c h1 h2 => by simp only [decide_eq_true_eq] at *; omega
  have tot : ∀ a b : Int, (decide (a ≤ b) || decide (b ≤ a)) = true := fun a b => by simp only [Bool.or_eq_true, decide_eq_true_eq]; omega
  refine List.Perm.eq_of_pairwise (le := fun a b => decide (a ≤ b) = true) (fun a b _ _ h1 h2 => ?_) (List.pairwise_mergeSort tr tot _) (List.pairwise_mergeSort tr tot _) (((List.mergeSort_perm _ _).trans hp).trans (List.mergeSort_perm _ _).symm)
  simp only [decide_eq_true_eq] at h1 h2
  omega
theorem live_eq {dim : Int} {ids : List Int} {vecs : List (List Int)} (hi : ids.all i64B = true) (h : slotsOk dim ids vecs = true) : h_slots_Live.f dim ids vecs = some ((ids.filter (fun x => decide (x ≠ -1))).mergeSort (fun a b => decide (a ≤ b)), 0) := by
  unfold h_slots_Live.f
  rw [if_pos hi, if_pos h]
theorem apart_end (id other : Int) (v w : List Int) (dim : Int) (ids : List Int) (vecs : List (List Int)) (hi : ids.all i64B = true) (hd : i64B id = true) (ho : i64B other = true) (hne : id ≠ other) {i j : Nat}
    (ha : PutOk dim ids vecs id v i) (hb : PutOk dim ids vecs other w j) :
    Ev (fun k => (slots_Put.f k dim (ids.set i id) (vecs.set i v) other w).bind fun bt1200 => ((slots_Put.f k dim (ids.set j other) (vecs.set j w) id v).bind fun bt1210 => (if bt1200.2.2.2.2 = bt1210.2.2.2.2 then (if bt1200.2.2.2.2 = 0 then ((h_slots_Live.f bt1200.2.1 bt1200.2.2.1 bt1200.2.2.2.1).bind fun bt1220 => ((h_slots_Live.f bt1210.2.1 bt1210.2.2.1 bt1210.2.2.2.1).bind fun bt1224 => (if true = true then (if bt1220.2 = 0 then (if bt1224.2 = 0 then ((cuvetteref03_SameInts.f k bt1220.1 bt1224.1).bind fun t1228 => (some t1228)) else (some false)) else (some false)) else (some false)))) else (if true = true then (some (bt1200.2.2.2.2 == 7)) else (some false))) else (some false)))) true := by
  have hia := i64B_set hi i hd
  have hib := i64B_set hi j ho
  refine Ev.bind (put_ev dim _ _ other w hia ho) (Ev.bind (put_ev dim _ _ id v hib hd) ?_)
  have hc := putS_err (ids := ids.set i id) (vecs := vecs.set i v) (id := other) (v := w) ⟨ha.ok2, hb.isId, hb.vok, hb.len⟩
  have hdd := putS_err (ids := ids.set j other) (vecs := vecs.set j w) (id := id) (v := v) ⟨hb.ok2, ha.isId, ha.vok, ha.len⟩
  have hiff := apart_err ha hb hne
  by_cases hq : other ∈ ids.set i id ∨ (-1 : Int) ∈ ids.set i id
  · rw [if_pos hq] at hc
    rw [if_pos (hiff.1 hq)] at hdd
    obtain ⟨m, hm⟩ := putS_inv hc
    obtain ⟨n, hn⟩ := putS_inv hdd
    rw [hm.eq, hn.eq]
    simp only [if_true]
    have e1 := live_eq (dim := dim) (i64B_set hia m ho) hm.ok2
    have e2 := live_eq (dim := dim) (i64B_set hib n hd) hn.ok2
    rw [e1, e2]
    simp only [Option.bind_some, if_true]
    have es := live_same hm.ok2 hn.ok2 (fun x hx => by rw [hm.mem x hx, hn.mem x hx, ha.mem x hx, hb.mem x hx]; constructor <;> rintro (z | z | z) <;> simp [z])
    rw [es]
    have hl : ((((ids.set j other).set n id).filter (fun x => decide (x ≠ -1))).mergeSort (fun a b => decide (a ≤ b))).length ≤ 9223372036854775807 := by
      obtain ⟨_, _, _, h4, _⟩ := slotsOk_parts hn.ok2
      rw [List.length_mergeSort]
      exact Nat.le_trans (List.length_filter_le _ _) (by omega)
    refine Ev.bind (sameInts03 _ _ hl) ?_
    simpa using Ev.const true
  · rw [if_neg hq] at hc
    rw [if_neg (fun z => hq (hiff.2 z))] at hdd
    simp only [hc, hdd, if_true, if_neg (show ¬ ((7 : Int) = 0) by decide)]
    exact Ev.of fun k => rfl
theorem apart_l0 (id other : Int) (v w : List Int) (dim : Int) (ids : List Int) (vecs : List (List Int)) (hi : ids.all i64B = true) (hd : i64B id = true) (ho : i64B other = true) (hne : id ≠ other) {i j : Nat}
    (ha : PutOk dim ids vecs id v i) (hb : PutOk dim ids vecs other w j) (d : Nat) : ∀ n : Nat, n + d = ids.length →
    Ev (fun k => cuvettelaw10_SlotsApart.l0 k id other v w true ids (ids.length : Int) n dim ids vecs dim (ids.set i id) (vecs.set i v) dim (ids.set j other) (vecs.set j w)) true := by
  obtain ⟨s1, s2, s3, s4, s5, s6, s7⟩ := slotsOk_parts ha.ok
  induction d with
  | zero =>
    intro n hn
    refine Ev.step (fun k => ?_) (apart_end id other v w dim ids vecs hi hd ho hne ha hb)
    simp only [cuvettelaw10_SlotsApart.l0]
    rw [if_neg (by omega)]
  | succ d ih =>
    intro n hn
    have hnext := ih (n + 1) (by omega)
    have er : rd ids (n : Int) = ids.getD n 0 := by show ids.getD ((n : Int)).toNat 0 = _; rw [Int.toNat_natCast]
    have e1 : wrap64 ((n : Int) + 1) = ((n + 1 : Nat) : Int) := by unfold wrap64; omega
    by_cases h1 : ids.getD n 0 = -1
    · refine Ev.step (fun k => ?_) hnext
      simp only [cuvettelaw10_SlotsApart.l0]
      rw [if_pos (by omega), if_pos (by omega), if_pos (by omega), er, if_pos h1, e1]
    · by_cases h2 : ids.getD n 0 = id
      · refine Ev.step (fun k => ?_) hnext
        simp only [cuvettelaw10_SlotsApart.l0]
        rw [if_pos (by omega), if_pos (by omega), if_pos (by omega), er, if_neg h1, if_pos h2, e1]
      · have hni : n ≠ i := by
          rintro rfl
          rcases ha.at_ with z | z
          · exact h2 z
          · exact h1 z.1
        have g1 : rd (ids.set i id) (n : Int) = ids.getD n 0 := by
          show (ids.set i id).getD ((n : Int)).toNat 0 = _
          rw [Int.toNat_natCast, List.getD_eq_getElem?_getD, List.getElem?_set, if_neg (fun z => hni z.symm), ← List.getD_eq_getElem?_getD]
        have g2 : rd_L3 (vecs.set i v) (n : Int) = vecs.getD n [] := by
          show (vecs.set i v).getD ((n : Int)).toNat [] = _
          rw [Int.toNat_natCast, List.getD_eq_getElem?_getD, List.getElem?_set, if_neg (fun z => hni z.symm), ← List.getD_eq_getElem?_getD]
        have g3 : rd_L3 vecs (n : Int) = vecs.getD n [] := by show vecs.getD ((n : Int)).toNat [] = _; rw [Int.toNat_natCast]
        have hvl : (vecs.getD n []).length ≤ 9223372036854775807 := by
          have := rows64 ha.ok (vecs.getD n []) (by have := getD_mem [] vecs (n : Int) (by omega) (by omega); rwa [Int.toNat_natCast] at this)
          omega
        refine Ev.step (g' := fun k => (cuvetteref04_Same.f k (vecs.getD n []) (vecs.getD n [])).bind fun t1199 => (if t1199 = true then (cuvettelaw10_SlotsApart.l0 k id other v w true ids (ids.length : Int) ((n + 1 : Nat) : Int) dim ids vecs dim (ids.set i id) (vecs.set i v) dim (ids.set j other) (vecs.set j w)) else (some false))) (fun k => ?_) (Ev.bind (sameVec04 _ _ hvl) ?_)
        · simp only [cuvettelaw10_SlotsApart.l0]
          rw [if_pos (by omega), if_pos (by omega), if_pos (by omega), er, if_neg h1, if_neg h2, if_pos (by rw [List.length_set]; omega), g1, if_pos rfl, if_pos (by rw [List.length_set]; omega), if_pos (by omega), g2, g3, e1]
        · simpa using hnext
theorem apart_j0 (id other : Int) (v w : List Int) (dim : Int) (ids : List Int) (vecs : List (List Int)) (hi : ids.all i64B = true) (hd : i64B id = true) (ho : i64B other = true) (q : Bool) (hq : q = false → id ≠ other) :
    Ev (fun k => cuvettelaw10_SlotsApart.j0 k id other v w true q dim ids vecs) true := by
  cases q with
  | true => exact Ev.step (g' := fun _ => some true) (fun k => by simp [cuvettelaw10_SlotsApart.j0]) (Ev.const _)
  | false =>
    have hne := hq rfl
    refine Ev.step (g' := fun k => (slots_Put.f k dim ids vecs id v).bind fun bt1175 => ((slots_Put.f k dim ids vecs other w).bind fun bt1185 => (if bt1175.2.2.2.2 = 0 then (cuvettelaw10_SlotsApart.j1 k id other v w true (bt1185.2.2.2.2 != 0) dim ids vecs bt1175.2.1 bt1175.2.2.1 bt1175.2.2.2.1 bt1185.2.1 bt1185.2.2.1 bt1185.2.2.2.1) else (cuvettelaw10_SlotsApart.j1 k id other v w true true dim ids vecs bt1175.2.1 bt1175.2.2.1 bt1175.2.2.2.1 bt1185.2.1 bt1185.2.2.1 bt1185.2.2.2.1)))) (fun k => by simp only [cuvettelaw10_SlotsApart.j0]; rw [if_neg (by decide)]) ?_
    refine Ev.bind (put_ev dim ids vecs id v hi hd) (Ev.bind (put_ev dim ids vecs other w hi ho) ?_)
    have stop : ∀ a b c d e f, Ev (fun k => cuvettelaw10_SlotsApart.j1 k id other v w true true dim ids vecs a b c d e f) true := fun a b c d e f => Ev.step (g' := fun _ => some true) (fun k => by simp [cuvettelaw10_SlotsApart.j1]) (Ev.const _)
    by_cases h1 : (putS dim ids vecs id v).2.2.2.2 = 0
    · simp only [if_pos h1]
      by_cases h2 : (putS dim ids vecs other w).2.2.2.2 = 0
      · obtain ⟨i, ha⟩ := putS_inv h1
        obtain ⟨j, hb⟩ := putS_inv h2
        rw [ha.eq, hb.eq]
        refine Ev.step (fun k => ?_) (apart_l0 id other v w dim ids vecs hi hd ho hne ha hb ids.length 0 (by omega))
        simp [cuvettelaw10_SlotsApart.j1]
      · have e : ((putS dim ids vecs other w).2.2.2.2 != 0) = true := by simp [h2]
        rw [e]
        exact stop _ _ _ _ _ _
    · simp only [if_neg h1]
      exact stop _ _ _ _ _ _
theorem pure_SlotsApart (a0_0 : Int) (l0_1 : List Int) (l0_2 : List (List Int)) (a1 : Int) (a2 : Int) (l3 : List Int) (l4 : List Int) (w0_0 : okN .i64 a0_0) (w0_1 : okI .i64 l0_1) (w0_2 : okII .i16 l0_2) (w1 : okN .i64 a1) (w2 : okN .i64 a2) (w3 : okI .i16 l3) (w4 : okI .i16 l4) : ∃ k, cuvettelaw10_SlotsApart.f k a0_0 l0_1 l0_2 a1 a2 l3 l4 = some true := by
  refine Ev.some (g := fun k => cuvettelaw10_SlotsApart.f k a0_0 l0_1 l0_2 a1 a2 l3 l4) ?_
  unfold cuvettelaw10_SlotsApart.f
  refine Ev.bind live10 ?_
  simp only [if_true]
  refine Ev.bind (few10_ev a0_0 l0_1 l0_2 w0_2.1) ?_
  have J := fun q hq => apart_j0 a1 a2 l3 l4 a0_0 l0_1 l0_2 (i64B_of w0_1) (i64B_id w1) (i64B_id w2) q hq
  cases few10 l0_1 l0_2 with
  | false =>
    simp only [Bool.false_eq_true, if_false]
    exact J true (fun h => by cases h)
  | true =>
    simp only [if_true]
    by_cases h1 : (l3.length : Int) > 300
    · simp only [if_pos h1]
      exact J true (fun h => by cases h)
    · simp only [if_neg h1]
      by_cases h2 : (l4.length : Int) > 300
      · simp only [if_pos h2]
        exact J true (fun h => by cases h)
      · simp only [if_neg h2]
        exact J _ (fun h => by simpa using h)
end Go.Proofs.Ytkjibgfgbfacdaa.P
end
/-! part: LawSlotsApart -/
section
set_option linter.unusedVariables false
set_option linter.unusedSimpArgs false
namespace Go.Proofs.Ytkjibgfgbfacdaa.slotsApart
open Go.ChangeShapes Go.WideShapes Go.ChangeAt Go.RowKit Go.Joins Go.Proofs.YtkjibgfgbfacdaaW.PrintWords
set_option linter.unusedVariables false
theorem own : ownKnob Try.prog.godebug = none := by kernel_rfl
theorem laidOut : laidOutB Try.prog = true := RFacts.f2
set_option maxRecDepth 100000 in
theorem lifted (os : Os) (started : os.Started) (H : Type) (enc : TypeId × Value → H) :
    ReturnsInHanded {} Try.checked os 14 .any (Rows.slotsApartSpec.pre6 enc Try.prog Try.f14 Rows.slotsApartRow.domain false) (Rows.slotsApartSpec.post enc Try.prog Try.f14 false true false false) := by
  refine returnsInHanded_of_change_sized (C := Try.checked) own started (by kernel_rfl) Try.func14
    (ChangeSpec.witness6 (enc := enc) (C := Try.checked) false ⟨#[], #[.agg #[.int .i64 0, .slice none 0 0, .slice none 0 0], .int .i64 0, .int .i64 0, .slice none 0 0, .slice none 0 0], []⟩ 8 (by kernel_rfl) (by kernel_rfl) (by kernel_rfl) (by kernel_rfl)) ?_
  intro W base args ds gs before hval0 hW hcnd hsz0 _
  clear hsz0
  have hval : ∀ (j : Nat) t v, Try.f14.params[j]? = some t → args[j]? = some v → Value.okWide Try.prog W .any base t v := hval0
  have hW' := hW
  obtain ⟨p, q, hA0, hV, rfl, hfz, hnd⟩ := hW
  have hA : DataW.TrodAll enc Try.prog W 0 (fun _ => true) true Try.f14.params.toList args.toList ds p := hA0
  rw [Try.params14] at hA hval
  obtain ⟨v0, vs0, d0, ds0, p0, q0, hargs, rfl, rfl, h0, r0⟩ := trodAll_cons hA
  obtain ⟨v1, vs1, d1, ds1, p1, q1, rfl, rfl, rfl, h1, r1⟩ := trodAll_cons r0
  obtain ⟨v2, vs2, d2, ds2, p2, q2, rfl, rfl, rfl, h2, r2⟩ := trodAll_cons r1
  obtain ⟨v3, vs3, d3, ds3, p3, q3, rfl, rfl, rfl, h3, r3⟩ := trodAll_cons r2
  obtain ⟨v4, vs4, d4, ds4, p4, q4, rfl, rfl, rfl, h4, r4⟩ := trodAll_cons r3
  obtain ⟨rfl, rfl, rfl⟩ := trodAll_nil r4
  obtain rfl : args = #[v0, v1, v2, v3, v4] := by cases args; simp_all
  obtain ⟨rfl, rfl⟩ := trodVars_none hV
  have k0 := h0
  have lt0 : ∀ x ∈ p0, x.block < W.heap.size := by obtain ⟨m, hm⟩ := k0; exact DataW.trod_lt m _ _ _ hm
  obtain ⟨u0_0, u0_1, u0_2, y0_0, y0_1, y0_2, m0, hv0, _, _, e0_0, e0_1, e0_2⟩ := open_agg3 Try.underlying25 (by kernel_rfl) (by kernel_rfl) (hval 0 25 v0 rfl rfl) h0
  subst hv0
  obtain ⟨a0_0, rfl, w0_0⟩ := R.openN Try.underlying3 e0_0
  obtain ⟨A0_1, c0_1, l0_1, rfl, hc0_1, hr0_1, w0_1⟩ := R.openI Try.underlying22 Try.underlying2 (by kernel_rfl) e0_1
  obtain ⟨A0_2, c0_2, l0_2, rfl, hc0_2, hr0_2, w0_2⟩ := R.openII Try.underlying23 Try.underlying27 Try.underlying74 (by kernel_rfl) (by kernel_rfl) e0_2
  have k1 := h1
  have lt1 : ∀ x ∈ p1, x.block < W.heap.size := by obtain ⟨m, hm⟩ := k1; exact DataW.trod_lt m _ _ _ hm
  obtain ⟨a1, rfl, _, _, w1⟩ := open_int Try.underlying2 (hval 1 2 v1 rfl rfl) h1
  have k2 := h2
  have lt2 : ∀ x ∈ p2, x.block < W.heap.size := by obtain ⟨m, hm⟩ := k2; exact DataW.trod_lt m _ _ _ hm
  obtain ⟨a2, rfl, _, _, w2⟩ := open_int Try.underlying2 (hval 2 2 v2 rfl rfl) h2
  have k3 := h3
  have lt3 : ∀ x ∈ p3, x.block < W.heap.size := by obtain ⟨m, hm⟩ := k3; exact DataW.trod_lt m _ _ _ hm
  obtain ⟨aa3, len3, cap3, rfl⟩ := okWide_slice Try.underlying27 (hval 3 27 v3 rfl rfl)
  obtain ⟨fuel3, hf3⟩ := h3
  obtain ⟨A3, c3, l3, ev3, hc3, hr3, w3⟩ := R.openI Try.underlying27 Try.underlying74 (by kernel_rfl) (by simpa [Value.cells] using hf3)
  rw [ev3] at hW' hval k3 ⊢
  have k4 := h4
  have lt4 : ∀ x ∈ p4, x.block < W.heap.size := by obtain ⟨m, hm⟩ := k4; exact DataW.trod_lt m _ _ _ hm
  obtain ⟨aa4, len4, cap4, rfl⟩ := okWide_slice Try.underlying27 (hval 4 27 v4 rfl rfl)
  obtain ⟨fuel4, hf4⟩ := h4
  obtain ⟨A4, c4, l4, ev4, hc4, hr4, w4⟩ := R.openI Try.underlying27 Try.underlying74 (by kernel_rfl) (by simpa [Value.cells] using hf4)
  rw [ev4] at hW' hval k4 ⊢
  clear hA0 hval0
  obtain ⟨k, hp⟩ := P.pure_SlotsApart a0_0 l0_1 l0_2 a1 a2 l3 l4 w0_0 w0_1 w0_2 w1 w2 w3 w4
  refine (P.cuvettelaw10_SlotsApart.calls k a0_0 A0_1 c0_1 l0_1 A0_2 c0_2 l0_2 a1 a2 A3 c3 l3 A4 c4 l4 true W hr0_1 hc0_1 hr0_2 hc0_2 hr3 hc3 hr4 hc4 hp rfl).mono fun e W' ⟨he, bel⟩ => ?_
  subst he
  exact ⟨_, rfl, _, _, _, [], _, [], hW', trodAll_mk1 (shut_bool Try.underlying4 _), (trodAll_cons_mk (Below.trod laidOut (by kernel_rfl) (of_decide_eq_true (by kernel_rfl)) k0 bel lt0) (trodAll_cons_mk (Below.trod laidOut (by kernel_rfl) (of_decide_eq_true (by kernel_rfl)) k1 bel lt1) (trodAll_cons_mk (Below.trod laidOut (by kernel_rfl) (of_decide_eq_true (by kernel_rfl)) k2 bel lt2) (trodAll_cons_mk (Below.trod laidOut (by kernel_rfl) (of_decide_eq_true (by kernel_rfl)) k3 bel lt3) (trodAll_cons_mk (Below.trod laidOut (by kernel_rfl) (of_decide_eq_true (by kernel_rfl)) k4 bel lt4) trodAll_mk0))))), rfl, bel.frame _, fun h => by cases h⟩
set_option maxHeartbeats 0 in
theorem facts : joinedFacts Try.pinned.checked.prog 14 Try.f14 Rows.slotsApartSpec Rows.slotsApartRow = true := by
  unfold joinedFacts
  simp only [Bool.and_eq_true]
  repeat' apply And.intro
  · as_aux_lemma => kernel_rfl
  · exact RFacts.f2
  · exact RFacts.f3
  · as_aux_lemma => kernel_rfl
  · as_aux_lemma => kernel_rfl
  · as_aux_lemma => kernel_rfl
  · as_aux_lemma => kernel_rfl
  · as_aux_lemma => kernel_rfl
  · as_aux_lemma => kernel_rfl
  · as_aux_lemma => kernel_rfl
  · as_aux_lemma => kernel_rfl
  · as_aux_lemma => kernel_rfl
  · as_aux_lemma => kernel_rfl
  · as_aux_lemma => kernel_rfl
  · as_aux_lemma => kernel_rfl
  · as_aux_lemma => kernel_rfl
  · as_aux_lemma => kernel_rfl
  · as_aux_lemma => kernel_rfl
  · as_aux_lemma => kernel_rfl
  · as_aux_lemma => kernel_rfl
  · as_aux_lemma => kernel_rfl
  · as_aux_lemma => kernel_rfl
  · exact RFacts.f23
  · as_aux_lemma => kernel_rfl
  · exact RFacts.f25
  · exact RFacts.f26
  · exact RFacts.f27
  · exact RFacts.f28
  · as_aux_lemma => kernel_rfl
  · as_aux_lemma => kernel_rfl
  · as_aux_lemma => kernel_rfl
  · as_aux_lemma => kernel_rfl
theorem over : Rows.slotsApartRow.holds Try.pinned (OpenSpec.ofChange Rows.slotsApartSpec) :=
  OpenClaim.holds_of_wide 14 Try.f14 rfl rfl rfl rfl rfl rfl rfl ⟨rfl, rfl, rfl, rfl, rfl⟩ rfl rfl rfl rfl rfl (by as_aux_lemma => kernel_rfl) Try.func14 facts
    (of_decide_eq_true (by as_aux_lemma => kernel_rfl)) (by unfold Func.isWrapper; first | (rw [if_pos (by decide +kernel)]; kernel_rfl) | (rw [if_neg (by decide +kernel)]; exact ⟨rfl, rfl⟩))
    (fun os started H enc _ => lifted os started H enc)
theorem proved : Rows.SlotsApartSaid := over
#print axioms proved
end Go.Proofs.Ytkjibgfgbfacdaa.slotsApart
namespace Go.Proofs.Ytkjibgfgbfacdaa
/-- The row, under a short name, for the claim. -/
theorem slotsApart_holds : Rows.SlotsApartSaid := slotsApart.proved
end Go.Proofs.Ytkjibgfgbfacdaa
end
