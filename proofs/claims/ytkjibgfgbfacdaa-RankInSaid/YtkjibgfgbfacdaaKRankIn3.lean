/- The law RankIn of this seat answers true for every input, and its arguments read as they did. Conditions: none. -/
import Derived.KernelRfl
import Derived.Test.YtkjibgfgbfacdaaRows
import Derived.Test.YtkjibgfgbfacdaaKRankIn0
import Derived.Test.YtkjibgfgbfacdaaKRankIn1
import Derived.Test.YtkjibgfgbfacdaaKRankIn2
/-! part: F60 -/
section
set_option linter.unusedVariables false
set_option linter.unusedSimpArgs false
namespace Go.Proofs.Ytkjibgfgbfacdaa.P
open Go.RowKit Go.Proofs.YtkjibgfgbfacdaaW.PrintWords Go.Proofs.YtkjibgfgbfacdaaW.PrintLast Go.Proofs.YtkjibgfgbfacdaaW.PrintMore
attribute [local go_sem] max2_int min2_int max_two min_two max_three min_three max_four min_four   -- for this text's walks alone
set_option linter.unusedVariables false
set_option linter.unusedSimpArgs false

/-! ### rank_Count: function 60 -/
def rank_Count.l0 : Nat → List Int → List Int → List Int → Int → Int → Option (List Int × Int)
  | 0, _, _, _, _, _ => none
  | k + 1, x0, x6, x23, x24, x25 => if x25 < x24 then (if 0 ≤ x25 then (if x25 < (x23.length : Int) then ((h_rank_Cell.f x0 (rd x23 x25)).bind fun bt1018 => (if bt1018.2 = 0 then (if 0 ≤ bt1018.1 then (if bt1018.1 < (x6.length : Int) then (rank_Count.l0 k x0 (x6.set (bt1018.1 : Int).toNat (wrap64 ((rd x6 bt1018.1) + 1))) x23 x24 (wrap64 (x25 + 1))) else (none)) else (none)) else (some (([] : List Int), bt1018.2)))) else (none)) else (none)) else (some (x6, 0))
def rank_Count.f (k : Nat) (l0 : List Int) (l1 : List Int) : Option (List Int × Int) := if (l1.length : Int) > 4096 then (some (([] : List Int), 3)) else ((rank_Check.f k l0).bind fun t1013 => (if t1013 = 0 then (if 0 ≤ (wrap64 ((l0.length : Int) + 1)) then (if (wrap64 ((l0.length : Int) + 1) : Int).toNat ≤ 35184372088832 then (rank_Count.l0 k l0 (List.replicate (wrap64 ((l0.length : Int) + 1) : Int).toNat 0) l1 (l1.length : Int) 0) else (none)) else (none)) else (some (([] : List Int), 1))))
theorem rank_Count.mono_l : ∀ k, (∀ y0 y1 y2 y3 y4, LeO (rank_Count.l0 k y0 y1 y2 y3 y4) (rank_Count.l0 (k + 1) y0 y1 y2 y3 y4))
  | 0 => fun _ _ _ _ _ r h => by simp [rank_Count.l0] at h
  | k + 1 => by
    have ih0 := rank_Count.mono_l k
    · intro y0 y1 y2 y3 y4
      unfold rank_Count.l0
      repeat' first
      | (with_reducible exact ih0 _ _ _ _ _)
      | (with_reducible exact rank_Check.mono _ _)
      | (with_reducible exact LeO.refl _)
      | (with_reducible exact LeO.none _)
      | (with_reducible refine LeO.ite ?_ ?_)
      | (with_reducible refine LeO.bind ?_ (fun _ => ?_))
      | exact ih0 _ _ _ _ _
      | exact rank_Check.mono _ _
      | exact LeO.none _
      | refine LeO.ite ?_ ?_
      | refine LeO.bind ?_ (fun _ => ?_)
theorem rank_Count.mono : ∀ a0 a1 k, LeO (rank_Count.f k a0 a1) (rank_Count.f (k + 1) a0 a1) := by
  intro a0 a1 k
  have ih0 := rank_Count.mono_l k
  unfold rank_Count.f
  repeat' first
      | (with_reducible exact ih0 _ _ _ _ _)
      | (with_reducible exact rank_Check.mono _ _)
      | (with_reducible exact LeO.refl _)
      | (with_reducible exact LeO.none _)
      | (with_reducible refine LeO.ite ?_ ?_)
      | (with_reducible refine LeO.bind ?_ (fun _ => ?_))
      | exact ih0 _ _ _ _ _
      | exact rank_Check.mono _ _
      | exact LeO.none _
      | refine LeO.ite ?_ ?_
      | refine LeO.bind ?_ (fun _ => ?_)
set_option maxHeartbeats 8000000 in
set_option maxRecDepth 100000 in
theorem rank_Count.calls (k : Nat) (A0 : Option Addr) (c0 : Nat) (l0 : List Int) (A1 : Option Addr) (c1 : Nat) (l1 : List Int) (r1 : List Int) (r2 : Int) (w : World) (hr0 : Kd.C (Kd.int .i16) w A0 l0.length l0) (hc0 : l0.length ≤ c0) (hr1 : Kd.C (Kd.int .i16) w A1 l1.length l1) (hc1 : l1.length ≤ c1) (h : rank_Count.f k l0 l1 = some (r1, r2)) :
    Calls Try.prog 60 #[.slice A0 l0.length c0, .slice A1 l1.length c1] w fun e w' => ∃ v0_ : Value, e = .returned (.tuple #[v0_, .int .i64 r2]) ∧ Kd.R (Kd.int .i64) 3 w' w.heap.size (fun _ => True) v0_ r1 ∧ Below w.heap.size w w' := by
  have HR0 := Aside0.mk hr0
  have HC0 := Aside0.mk hc0
  clear hr0 hc0
  have HR1 := Aside0.mk hr1
  have HC1 := Aside0.mk hc1
  clear hr1 hc1
  have HB := Aside0.mk (Below.refl w.heap.size w)
  have H : (if (l1.length : Int) > 4096 then (some (([] : List Int), 3)) else ((rank_Check.f k l0).bind fun t1013 => (if t1013 = 0 then (if 0 ≤ (wrap64 ((l0.length : Int) + 1)) then (if (wrap64 ((l0.length : Int) + 1) : Int).toNat ≤ 35184372088832 then (rank_Count.l0 k l0 (List.replicate (wrap64 ((l0.length : Int) + 1) : Int).toNat 0) l1 (l1.length : Int) 0) else (none)) else (none)) else (some (([] : List Int), 1))))) = some (r1, r2) := h
  clear h
  by_cases c3 : (l1.length : Int) > 4096
  · rw [if_pos c3] at H
    have c3b0 : decide (4096 < (l1.length : Int)) = true := decide_eq_true c3
    have c3b1 : decide (4096 < l1.length) = true := decide_eq_true (by omega)
    clear c3
    simp only [Option.some.injEq, Prod.mk.injEq] at H
    obtain ⟨rfl, rfl⟩ := H
    go_enter Try.func60, Try.ntmps60
    go_wp2
    go_ret2
    exact ⟨_, by first | rfl | (simp [errW_none, errW_some] <;> rfl) | (simp [*, errW_none, errW_some] <;> rfl), by first | exact Kd.R_nil _ _ _ _ _ | exact Kd.N_nil _ _ _ _ _ | exact Kd.V_nil _ _ _ _ _ | exact Kd.Q_nil _ _ _ _ _ | exact Kd.S_nil _ _ _ _ _, by repeat (first | (with_reducible first | exact HB.out | apply below_alloc | apply pw_below_drewN | apply below_drew1) | exact HB.out)⟩
  · rw [if_neg c3] at H
    have c3b0 : decide (4096 < (l1.length : Int)) = false := decide_eq_false c3
    have c3b1 : decide (4096 < l1.length) = false := decide_eq_false (by omega)
    clear c3
    replace H := Option.bind_eq_some_iff.mp H
    obtain ⟨t1013, A40, H⟩ := H
    replace H : (if t1013 = 0 then (if 0 ≤ (wrap64 ((l0.length : Int) + 1)) then (if (wrap64 ((l0.length : Int) + 1) : Int).toNat ≤ 35184372088832 then (rank_Count.l0 k l0 (List.replicate (wrap64 ((l0.length : Int) + 1) : Int).toNat 0) l1 (l1.length : Int) 0) else (none)) else (none)) else (some (([] : List Int), 1))) = some (r1, r2) := H
    have A4 := Aside0.mk A40
    clear A40
    by_cases c5 : t1013 = 0
    · rw [if_pos c5] at H
      have c5b0 : (t1013 == 0) = true := beq_iff_eq.mpr c5
      have c5b1 : (t1013 != 0) = false := bne_eq_false_iff_eq.mpr c5
      clear c5
      obtain ⟨ji6, hji6⟩ : ∃ j_ : Int, (wrap64 ((l0.length : Int) + 1)) = j_ := ⟨_, rfl⟩
      replace H : (if 0 ≤ (ji6) then (if (ji6 : Int).toNat ≤ 35184372088832 then (rank_Count.l0 k l0 (List.replicate (ji6 : Int).toNat 0) l1 (l1.length : Int) 0) else (none)) else (none)) = some (r1, r2) := by first | (rw [hji6] at H; exact H) | (simp only [hji6] at H ⊢; exact H)
      (try rw [hji6] at A4)
      have hji6w : (IntKind.i64.wrap ((l0.length : Int) + 1)) = ji6 := (i64_w _).trans hji6
      by_cases c7 : 0 ≤ (ji6)
      · rw [if_pos c7] at H
        have c7b0 := eq_true c7
        have c7b1 : decide (0 ≤ (ji6)) = true := decide_eq_true c7
        clear c7
        by_cases c8 : (ji6 : Int).toNat ≤ 35184372088832
        · rw [if_pos c8] at H
          have c8b0 := eq_true c8
          have c8b1 : decide ((ji6 : Int).toNat ≤ 35184372088832) = true := decide_eq_true c8
          clear c8
          obtain ⟨y1014, hy1014⟩ : ∃ y_ : List Int, y_ = (List.replicate (ji6 : Int).toNat 0) := ⟨_, rfl⟩
          replace H : (rank_Count.l0 k l0 y1014 l1 (l1.length : Int) 0) = some (r1, r2) := by first | (rw [hy1014]; with_reducible exact H) | (have H2_ := (Option.bind_some _ _).symm.trans H; rw [hy1014]; with_reducible exact H2_) | (have H2_ := (Option.bind_some _ _).symm.trans H; with_reducible exact H2_) | with_reducible exact H | (rw [hy1014]; exact H) | exact H
          have Ny1014 := Aside0.mk hy1014
          clear hy1014
          have H' := Aside0.mk H
          clear H
          go_enter Try.func60, Try.ntmps60
          go_wp2_with (first | ((with_reducible refine gate_callee (f := 61) rfl ?_); refine goesL_ (some 17) rfl rfl Try.func61 (by kernel_rfl) rfl #[.slice A0 l0.length c0] rfl (by (try simp only [List.map_toArray, List.map_cons, List.map_nil]); first | done | rfl | (simp only [List.length_drop, List.length_take]; rfl)) ?_; (with_reducible refine (rank_Check.calls k _ _ l0 t1013 _ ?side1 ?side2 A4.out).mono ?_); (case side1 => repeat (first | exact HR0.out | (with_reducible refine Kd.C_alloc ?_ _) | (with_reducible refine Kd.C_drewN ?_ _) | (with_reducible refine Kd.C_drew ?_))); (case side2 => exact HC0.out); rintro e w' ⟨rfl, ⟨nd, rfl⟩⟩; refine ⟨_, rfl, ?_⟩) | ((with_reducible refine gate_dst (N := 22) rfl ?_); refine Kd.R_make (Kd.int .i64) _ 3 rfl (N := 22) rfl 84 _ _ rfl ji6 rfl rfl Try.underlying84 (.int .i64 0) 8 info3 rfl (by decide) (by omega) 0 (ok := fun _ => True) (okp := fun _ => True) rfl (fun _ hk => hk) trivial (of_decide_eq_true (by first | (with_reducible assumption) | assumption)) (Nat.le_trans (Nat.mul_le_mul_right _ (of_decide_eq_true (by first | (with_reducible assumption) | assumption) : ji6.toNat ≤ 35184372088832)) (by omega)) (Below.refl _ _) (Nat.le_refl _) ?_; intro v1015 w9 ho10 hb hg_ hnew_; clear hg_ hnew_; (first | rw [← Ny1014.out] at ho10 | (simp only [Int.reduceToNat] at ho10; rw [← Ny1014.out] at ho10)); have n0_ := Aside0.mk (Kd.R_lower ho10 (below_size (by repeat (first | (with_reducible first | exact HB.out | apply below_alloc | apply pw_below_drewN | apply below_drew1) | exact HB.out)))); have n1_ := Aside0.mk (below_step (by repeat (first | (with_reducible first | exact HB.out | apply below_alloc | apply pw_below_drewN | apply below_drew1) | exact HB.out)) hb); clear HB; have HO1016 := n0_; have HB := n1_; clear n0_ n1_; clear hb ho10))
          go_loopg [25] k (fun kq v25 w' => ∃ (x6_1 : List Int) (x25_1 : Int), v25 = .int .i64 x25_1 ∧ Aside0 (rank_Count.l0 kq l0 x6_1 l1 (l1.length : Int) x25_1 = some (r1, r2)) ∧ Aside0 (kq ≤ k) ∧ Aside0 (Kd.R (Kd.int .i64) 3 w' w.heap.size (fun _ => True) v1015 x6_1) ∧ Aside0 (Below w.heap.size w w'))
          case atStart => exact ⟨(y1014), (0), (by first | rfl | (simp; done) | (simp [*]; done)), H', ⟨Nat.le_refl _⟩, ⟨by (with_reducible repeat (first | apply Kd.R_alloc | apply Kd.R_drewN | apply Kd.R_drew)); exact HO1016.out⟩, ⟨by repeat (first | (with_reducible first | exact HB.out | apply below_alloc | apply pw_below_drewN | apply below_drew1) | exact HB.out)⟩⟩
          case round =>
            clear H'
            try clear c1
            try clear p2
            try clear c3
            try clear c3b0
            try clear c3b1
            try clear c5
            try clear c5b0
            try clear c5b1
            try clear c6
            try clear p6
            try clear c7
            try clear c7b0
            try clear c7b1
            try clear c8
            try clear c8b0
            try clear c8b1
            obtain ⟨x6_1, x25_1, rfl, HA, HK1, HO_6, HB⟩ := hrel
            cases gk with
            | zero => exact absurd HA.out (by simp [rank_Count.l0])
            | succ k1 =>
              have H := HA.out
              clear HA
              simp only [rank_Count.l0] at H
              by_cases c11 : x25_1 < (l1.length : Int)
              · rw [if_pos c11] at H
                have c11b0 : decide (x25_1 < (l1.length : Int)) = true := decide_eq_true c11
                clear c11
                by_cases c12 : 0 ≤ x25_1
                · rw [if_pos c12] at H
                  have c12b0 : decide (0 ≤ x25_1) = true := decide_eq_true c12
                  clear c12
                  by_cases c13 : x25_1 < (l1.length : Int)
                  · rw [if_pos c13] at H
                    have c13b0 : decide (x25_1 < (l1.length : Int)) = true := decide_eq_true c13
                    clear c13
                    replace H := Option.bind_eq_some_iff.mp H
                    obtain ⟨⟨t1018, t1019⟩, A140, H⟩ := H
                    replace H : (if t1019 = 0 then (if 0 ≤ t1018 then (if t1018 < (x6_1.length : Int) then (rank_Count.l0 k1 l0 (x6_1.set (t1018 : Int).toNat (wrap64 ((rd x6_1 t1018) + 1))) l1 (l1.length : Int) (wrap64 (x25_1 + 1))) else (none)) else (none)) else (some (([] : List Int), t1019))) = some (r1, r2) := H
                    have A14 := Aside0.mk A140
                    clear A140
                    by_cases c15 : t1019 = 0
                    · rw [if_pos c15] at H
                      have c15b0 : (t1019 == 0) = true := beq_iff_eq.mpr c15
                      have c15b1 : (t1019 != 0) = false := bne_eq_false_iff_eq.mpr c15
                      clear c15
                      by_cases c16 : 0 ≤ t1018
                      · rw [if_pos c16] at H
                        have c16b0 : decide (0 ≤ t1018) = true := decide_eq_true c16
                        clear c16
                        by_cases c17 : t1018 < (x6_1.length : Int)
                        · rw [if_pos c17] at H
                          have c17b0 : decide (t1018 < (x6_1.length : Int)) = true := decide_eq_true c17
                          clear c17
                          obtain ⟨y1021, hy1021⟩ : ∃ y_ : List Int, y_ = (x6_1.set (t1018 : Int).toNat (wrap64 ((rd x6_1 t1018) + 1))) := ⟨_, rfl⟩
                          replace H : (rank_Count.l0 k1 l0 y1021 l1 (l1.length : Int) (wrap64 (x25_1 + 1))) = some (r1, r2) := by first | (rw [hy1021]; with_reducible exact H) | (have H2_ := (Option.bind_some _ _).symm.trans H; rw [hy1021]; with_reducible exact H2_) | (have H2_ := (Option.bind_some _ _).symm.trans H; with_reducible exact H2_) | with_reducible exact H | (rw [hy1021]; exact H) | exact H
                          have Ny1021 := Aside0.mk hy1021
                          clear hy1021
                          have H' := Aside0.mk H
                          clear H
                          have p1017 : 0 ≤ (x25_1 : Int) := of_decide_eq_true (by first | (with_reducible assumption) | assumption)
                          have q1017 : x25_1 < (l1.length : Int) := of_decide_eq_true (by first | (with_reducible assumption) | assumption)
                          obtain ⟨ad1017, e1017, hx1017_0⟩ := Kd.at_int HR1.out x25_1 p1017 q1017
                          cases e1017
                          (try replace hx1017_0 := (HB.out.cell (World.block_lt_of_cell? w _ hx1017_0)).trans hx1017_0)
                          replace p1017 := eq_true p1017
                          replace q1017 := eq_true q1017
                          go_wp2_with (first | ((with_reducible refine gate_callee (f := 58) rfl ?_); refine goesL_ (some 32) rfl rfl Try.func58 (by kernel_rfl) rfl #[.slice A0 l0.length c0, .int .i16 (rd l1 x25_1)] rfl (by (try simp only [List.map_toArray, List.map_cons, List.map_nil]); first | done | rfl | (simp only [List.length_drop, List.length_take]; rfl)) ?_; (with_reducible refine (h_rank_Cell.calls _ _ l0 (rd l1 x25_1) t1018 t1019 _ ?side1 ?side2 A14.out).mono ?_); (case side1 => repeat (first | exact (Kd.C_below HR0.out HB.out) | (with_reducible refine Kd.C_alloc ?_ _) | (with_reducible refine Kd.C_drewN ?_ _) | (with_reducible refine Kd.C_drew ?_))); (case side2 => exact HC0.out); rintro e w19 ⟨rfl, hb⟩; refine ⟨_, rfl, ?_⟩; have n0_ := Aside0.mk (Kd.R_below (by (with_reducible repeat (first | apply Kd.R_alloc | apply Kd.R_drewN | apply Kd.R_drew)); exact HO_6.out) hb); have n1_ := Aside0.mk (below_step (by repeat (first | (with_reducible first | exact HB.out | apply below_alloc | apply pw_below_drewN | apply below_drew1) | exact HB.out)) hb); clear HO_6; clear HB; have HO_6 := n0_; have HB := n1_; clear n0_ n1_; (try clear hb); (try clear hb2); (try clear hk); (try clear hi); obtain ⟨Ao20, co20, eo20⟩ := Kd.R_slice HO_6.out; subst eo20; have p1020 : 0 ≤ (t1018 : Int) := of_decide_eq_true (by first | (with_reducible assumption) | assumption); have q1020 : t1018 < (x6_1.length : Int) := of_decide_eq_true (by first | (with_reducible assumption) | assumption); obtain ⟨ad1020, e1020, hx1020_0⟩ := Kd.at_int (Kd.R_reads' HO_6.out).2.2 t1018 p1020 q1020; cases e1020; replace p1020 := eq_true p1020; replace q1020 := eq_true q1020; have p18 : 0 ≤ (t1018 : Int) := of_decide_eq_true (by first | (with_reducible assumption) | assumption); have q18 : (t1018 : Int) < ((x6_1.length : Int) : Int) := of_decide_eq_true (by first | (with_reducible assumption) | assumption); obtain ⟨go18, co18, eo18, gb18, gl18, cl18, HG18⟩ := Kd.R_form HO_6.out (by omega); (first | cases eo18 | (injection eo18 with ea_ en_ ec_; (first | subst ea_ | (injection ea_ with ea_; subst ea_)); subst ec_; clear en_)); have GB18 := Aside0.mk gb18; have GG18 := Aside0.mk HG18; clear gb18 gl18 HG18; (first | simp only [add_plain] at hx1020_0 | skip); obtain ⟨hx18_0, hf18_0⟩ := Kd.R_celln 0 HO_6.out (t1018 : Int) p18 q18; replace p18 := eq_true p18; replace q18 := eq_true q18; obtain ⟨hy21_, hz21_⟩ := Kd.R_celln 0 HO_6.out (t1018 : Int) (of_decide_eq_true (by first | (with_reducible assumption) | assumption)) (of_decide_eq_true (by first | (with_reducible assumption) | assumption)); have HP21 := Kd.R_putg HO_6.out (t1018 : Int) (wrap64 ((rd x6_1 t1018) + 1))) | ((with_reducible refine gate_store (t := 3) (p := 43) rfl ?_); refine store_event (t := 3) (p := 43) (v := ?vo_w22) (w1 := (w19.setCell ⟨go18, (t1018 : Int).toNat, none⟩ (.int .i64 (wrap64 ((rd x6_1 t1018) + 1))))) ?hg ?ho ?hn ?hr ?_; (case ho => rfl); (case hg => rfl); (case hn => rfl); (case hr => first | (go_simp; done) | (go_simp; rfl)); intro w22 hw; have hg : w19.grownBy w22 (some go18) := (by rw [hw]; exact HP21.2); have hp_ : Kd.R (Kd.int .i64) 3 w22 w.heap.size (fun _ => True) (.slice (some ⟨go18, 0, none⟩) x6_1.length co20) y1021 := (by rw [hw, Ny1021.out]; exact HP21.1); clear HP21; have n0_ := Aside0.mk (hp_); have n1_ := Aside0.mk ((by rw [hw]; exact below_set (HB.out) GB18.out : Below w.heap.size w w22)); clear HO_6; clear HB; have HO_6 := n0_; have HB := n1_; clear n0_ n1_; clear hg hw hp_))
                          first | go_roundg k1 | (simp only [← hji6]; go_roundg k1)
                          case measure => have := HK1.out; omega
                          case rel => exact ⟨(y1021), (wrap64 (x25_1 + 1)), (by first | rfl | (simp; done) | (simp [*]; done)), (by first | exact H' | (rw [hji6]; exact H')), ⟨by have := HK1.out; omega⟩, ⟨by (with_reducible repeat (first | apply Kd.R_alloc | apply Kd.R_drewN | apply Kd.R_drew)); exact HO_6.out⟩, ⟨by repeat (first | (with_reducible first | exact HB.out | apply below_alloc | apply pw_below_drewN | apply below_drew1) | exact HB.out)⟩⟩
                        · rw [if_neg c17] at H
                          exact absurd H (by simp)
                      · rw [if_neg c16] at H
                        exact absurd H (by simp)
                    · rw [if_neg c15] at H
                      have c15b0 : (t1019 == 0) = false := beq_eq_false_iff_ne.mpr c15
                      have c15b1 : (t1019 != 0) = true := bne_iff_ne.mpr c15
                      simp only [Option.some.injEq, Prod.mk.injEq] at H
                      obtain ⟨rfl, rfl⟩ := H
                      have p1017 : 0 ≤ (x25_1 : Int) := of_decide_eq_true (by first | (with_reducible assumption) | assumption)
                      have q1017 : x25_1 < (l1.length : Int) := of_decide_eq_true (by first | (with_reducible assumption) | assumption)
                      obtain ⟨ad1017, e1017, hx1017_0⟩ := Kd.at_int HR1.out x25_1 p1017 q1017
                      cases e1017
                      (try replace hx1017_0 := (HB.out.cell (World.block_lt_of_cell? w _ hx1017_0)).trans hx1017_0)
                      replace p1017 := eq_true p1017
                      replace q1017 := eq_true q1017
                      go_wp2_with (first | ((with_reducible refine gate_callee (f := 58) rfl ?_); refine goesL_ (some 32) rfl rfl Try.func58 (by kernel_rfl) rfl #[.slice A0 l0.length c0, .int .i16 (rd l1 x25_1)] rfl (by (try simp only [List.map_toArray, List.map_cons, List.map_nil]); first | done | rfl | (simp only [List.length_drop, List.length_take]; rfl)) ?_; (with_reducible refine (h_rank_Cell.calls _ _ l0 (rd l1 x25_1) t1018 t1019 _ ?side1 ?side2 A14.out).mono ?_); (case side1 => repeat (first | exact (Kd.C_below HR0.out HB.out) | (with_reducible refine Kd.C_alloc ?_ _) | (with_reducible refine Kd.C_drewN ?_ _) | (with_reducible refine Kd.C_drew ?_))); (case side2 => exact HC0.out); rintro e w23 ⟨rfl, hb⟩; refine ⟨_, rfl, ?_⟩; have n0_ := Aside0.mk (Kd.R_below (by (with_reducible repeat (first | apply Kd.R_alloc | apply Kd.R_drewN | apply Kd.R_drew)); exact HO_6.out) hb); have n1_ := Aside0.mk (below_step (by repeat (first | (with_reducible first | exact HB.out | apply below_alloc | apply pw_below_drewN | apply below_drew1) | exact HB.out)) hb); clear HO_6; clear HB; have HO_6 := n0_; have HB := n1_; clear n0_ n1_; (try clear hb); (try clear hb2); (try clear hk); (try clear hi)))
                      go_ret2
                      exact ⟨_, by first | rfl | (simp [errW_none, errW_some] <;> rfl) | (simp only [← hji6]; first | rfl | (simp [errW_none, errW_some] <;> rfl)) | (simp [*, errW_none, errW_some] <;> rfl), by first | exact Kd.R_nil _ _ _ _ _ | exact Kd.N_nil _ _ _ _ _ | exact Kd.V_nil _ _ _ _ _ | exact Kd.Q_nil _ _ _ _ _ | exact Kd.S_nil _ _ _ _ _, by repeat (first | (with_reducible first | exact HB.out | apply below_alloc | apply pw_below_drewN | apply below_drew1) | exact HB.out)⟩
                  · rw [if_neg c13] at H
                    exact absurd H (by simp)
                · rw [if_neg c12] at H
                  exact absurd H (by simp)
              · rw [if_neg c11] at H
                have c11b0 : decide (x25_1 < (l1.length : Int)) = false := decide_eq_false c11
                clear c11
                simp only [Option.some.injEq, Prod.mk.injEq] at H
                obtain ⟨rfl, rfl⟩ := H
                go_wp2
                go_ret2
                exact ⟨_, by first | rfl | (simp [errW_none, errW_some] <;> rfl) | (simp only [← hji6]; first | rfl | (simp [errW_none, errW_some] <;> rfl)) | (simp [*, errW_none, errW_some] <;> rfl), by (with_reducible repeat (first | apply Kd.R_alloc | apply Kd.R_drewN | apply Kd.R_drew)); exact HO_6.out, by repeat (first | (with_reducible first | exact HB.out | apply below_alloc | apply pw_below_drewN | apply below_drew1) | exact HB.out)⟩
        · rw [if_neg c8] at H
          exact absurd H (by simp)
      · rw [if_neg c7] at H
        exact absurd H (by simp)
    · rw [if_neg c5] at H
      have c5b0 : (t1013 == 0) = false := beq_eq_false_iff_ne.mpr c5
      have c5b1 : (t1013 != 0) = true := bne_iff_ne.mpr c5
      simp only [Option.some.injEq, Prod.mk.injEq] at H
      obtain ⟨rfl, rfl⟩ := H
      go_enter Try.func60, Try.ntmps60
      go_wp2_with (first | ((with_reducible refine gate_callee (f := 61) rfl ?_); refine goesL_ (some 17) rfl rfl Try.func61 (by kernel_rfl) rfl #[.slice A0 l0.length c0] rfl (by (try simp only [List.map_toArray, List.map_cons, List.map_nil]); first | done | rfl | (simp only [List.length_drop, List.length_take]; rfl)) ?_; (with_reducible refine (rank_Check.calls k _ _ l0 t1013 _ ?side1 ?side2 A4.out).mono ?_); (case side1 => repeat (first | exact HR0.out | (with_reducible refine Kd.C_alloc ?_ _) | (with_reducible refine Kd.C_drewN ?_ _) | (with_reducible refine Kd.C_drew ?_))); (case side2 => exact HC0.out); rintro e w' ⟨rfl, ⟨nd, rfl⟩⟩; refine ⟨_, rfl, ?_⟩))
      go_ret2
      exact ⟨_, by first | rfl | (simp [errW_none, errW_some] <;> rfl) | (simp [*, errW_none, errW_some] <;> rfl), by first | exact Kd.R_nil _ _ _ _ _ | exact Kd.N_nil _ _ _ _ _ | exact Kd.V_nil _ _ _ _ _ | exact Kd.Q_nil _ _ _ _ _ | exact Kd.S_nil _ _ _ _ _, by repeat (first | (with_reducible first | exact HB.out | apply below_alloc | apply pw_below_drewN | apply below_drew1) | exact HB.out)⟩

end Go.Proofs.Ytkjibgfgbfacdaa.P
end
/-! part: PRank -/
section
set_option linter.unusedVariables false
set_option linter.unusedSimpArgs false
namespace Go.Proofs.Ytkjibgfgbfacdaa.P
open Go.RowKit Go.Proofs.YtkjibgfgbfacdaaW.PrintWords Go.Proofs.YtkjibgfgbfacdaaW.PrintLast Go.Proofs.YtkjibgfgbfacdaaW.PrintMore
set_option linter.unusedVariables false

theorem countP_iff (x : Int) : ∀ l : List Int, (∀ a b : Nat, a ≤ b → b < l.length → l.getD a 0 ≤ l.getD b 0) → ∀ i, i < l.length → (l.getD i 0 ≤ x ↔ i < l.countP (fun c => decide (c ≤ x))) := by
  intro l
  induction l with
  | nil => intro _ i hi; simp at hi
  | cons a t ih =>
    intro hm i hi
    have hm' : ∀ p q : Nat, p ≤ q → q < t.length → t.getD p 0 ≤ t.getD q 0 := by
      intro p q hpq hq
      have := hm (p + 1) (q + 1) (by omega) (by simp; omega)
      simpa using this
    by_cases ha : a ≤ x
    · rw [List.countP_cons_of_pos (by simpa using ha)]
      cases i with
      | zero => simp [ha]
      | succ i =>
        have := ih hm' i (by simpa using hi)
        simp only [List.getD_cons_succ]
        rw [this]
        omega
    · have h0 : (a :: t).countP (fun c => decide (c ≤ x)) = 0 := by
        rw [List.countP_eq_zero]
        intro c hc
        obtain ⟨j, hj, e⟩ := List.getElem_of_mem hc
        have := hm 0 j (by omega) hj
        simp only [List.getD_cons_zero] at this
        rw [List.getD_eq_getElem?_getD, List.getElem?_eq_getElem hj, Option.getD_some, e] at this
        simp
        omega
      rw [h0]
      have := hm 0 i (by omega) hi
      simp only [List.getD_cons_zero] at this
      constructor
      · intro h; omega
      · intro h; omega
theorem cellOf_nat (l : List Int) (x : Int) : ∃ n : Nat, cellOf l x = (n : Int) ∧ n ≤ l.length ∧ (cutsOk l = true → ∀ i, i < l.length → (l.getD i 0 ≤ x ↔ i < n)) :=
  ⟨l.countP (fun c => decide (c ≤ x)), rfl, List.countP_le_length, fun h => countP_iff x l (sorted_mono h)⟩
theorem cellOf_mono (l : List Int) {x y : Int} (h : x ≤ y) : cellOf l x ≤ cellOf l y := by
  unfold cellOf
  have : l.countP (fun c => decide (c ≤ x)) ≤ l.countP (fun c => decide (c ≤ y)) := List.countP_mono_left fun c _ hc => by simp at hc ⊢; omega
  omega
/-- Which numbers are in a cell. -/
def spanP (l : List Int) (c : Nat) : Int × Int × Int :=
  let low := if c = 0 then -32767 else l.getD (c - 1) 0
  if c < l.length then (if l.getD c 0 ≤ low then (0, 0, 5) else (low, l.getD c 0 - 1, 0)) else (low, 32767, 0)
theorem span_ev (l : List Int) (hi : i16L l) (h : cutsOk l = true) (c : Nat) (hc : c ≤ l.length) : Ev (fun k => rank_Span.f k l c) (spanP l c) := by
  have hlen := cutsLen h
  have hlow : ∀ j, j < l.length → -32768 ≤ l.getD j 0 ∧ l.getD j 0 ≤ 32767 := fun j hj => hi _ (by have := getD_mem 0 l (j : Int) (by omega) (by omega); rwa [Int.toNat_natCast] at this)
  have hc1 : Ev (fun k => rank_Check.f k l) 0 := ⟨17, fun k hk => by show rank_Check.f k l = _; rw [rankCheck l k hk, if_pos h]⟩
  have er : rd l (c : Int) = l.getD c 0 := by show l.getD ((c : Int)).toNat 0 = _; rw [Int.toNat_natCast]
  have j1 : ∀ low : Int, -32768 ≤ low → Ev (fun k => rank_Span.j1 k l c low 32767) (if c < l.length then (if l.getD c 0 ≤ low then (0, 0, 5) else (low, l.getD c 0 - 1, 0)) else (low, 32767, 0)) := by
    intro low hl
    refine Ev.step (g' := fun _ => _) (fun k => ?_) (Ev.const _)
    simp only [rank_Span.j1]
    by_cases h1 : c < l.length
    · have := hlow c h1
      rw [if_pos (by omega), if_pos (by omega), er, if_pos h1]
      by_cases h2 : l.getD c 0 ≤ low
      · rw [if_pos h2, if_pos h2]
      · rw [if_neg h2, if_neg h2]
        have e16 : IntKind.i16.wrap (l.getD c 0 - 1) = l.getD c 0 - 1 := i16_wrap (by omega)
        rw [e16]
    · rw [if_neg (by omega), if_neg h1]
  unfold rank_Span.f
  refine Ev.bind hc1 ?_
  simp only [if_true, if_neg (show ¬ ((c : Int) < 0) by omega), decide_eq_false (show ¬ ((c : Int) > (l.length : Int)) by omega)]
  unfold spanP
  by_cases h0 : c = 0
  · have := j1 (-32767) (by decide)
    rw [if_pos h0]
    refine Ev.step (fun k => ?_) this
    simp only [rank_Span.j0]
    rw [if_neg (by decide), if_neg (by omega)]
  · have e1 : wrap64 ((c : Int) - 1) = ((c - 1 : Nat) : Int) := by rw [w64 (by omega) (by omega)]; omega
    have er1 : rd l ((c - 1 : Nat) : Int) = l.getD (c - 1) 0 := by show l.getD (((c - 1 : Nat) : Int)).toNat 0 = _; rw [Int.toNat_natCast]
    have := j1 (l.getD (c - 1) 0) (hlow (c - 1) (by omega)).1
    rw [if_neg h0]
    refine Ev.step (fun k => ?_) this
    simp only [rank_Span.j0]
    rw [if_neg (by decide), if_pos (by omega), e1, if_pos (by omega), if_pos (by omega), er1]
/-- Just one cell's span has a number. -/
theorem span_cell (l : List Int) (hi : i16L l) (h : cutsOk l = true) (x : Int) (hx : -32767 ≤ x) (hx' : x ≤ 32767) (c : Nat) (hc : c ≤ l.length) :
    ((spanP l c).2.2 = 0 ∨ (spanP l c).2.2 = 5) ∧ (((spanP l c).2.2 = 0 ∧ (spanP l c).1 ≤ x ∧ x ≤ (spanP l c).2.1) ↔ (c : Int) = cellOf l x) := by
  obtain ⟨n, hn, hnl, hiff⟩ := cellOf_nat l x
  have hiff := hiff h
  rw [hn]
  unfold spanP
  have h1 : c < l.length → (l.getD c 0 ≤ x ↔ c < n) := hiff c
  have h2 : c ≠ 0 → (l.getD (c - 1) 0 ≤ x ↔ c - 1 < n) := fun h0 => hiff (c - 1) (by omega)
  generalize l.getD c 0 = p at *
  generalize l.getD (c - 1) 0 = q at *
  clear hiff hi h
  by_cases h0 : c = 0
  · simp only [if_pos h0]
    by_cases hl : c < l.length
    · have := h1 hl
      simp only [if_pos hl]
      by_cases hp : p ≤ -32767
      · simp only [if_pos hp]
        exact ⟨.inr trivial, by constructor <;> intro z <;> first | omega | (refine ⟨trivial, ?_, ?_⟩ <;> omega)⟩
      · simp only [if_neg hp]
        exact ⟨.inl trivial, by constructor <;> intro z <;> first | omega | (refine ⟨trivial, ?_, ?_⟩ <;> omega)⟩
    · simp only [if_neg hl]
      exact ⟨.inl trivial, by constructor <;> intro z <;> first | omega | (refine ⟨trivial, ?_, ?_⟩ <;> omega)⟩
  · have h2 := h2 h0
    simp only [if_neg h0]
    by_cases hl : c < l.length
    · have := h1 hl
      simp only [if_pos hl]
      by_cases hp : p ≤ q
      · simp only [if_pos hp]
        exact ⟨.inr trivial, by constructor <;> intro z <;> first | omega | (refine ⟨trivial, ?_, ?_⟩ <;> omega)⟩
      · simp only [if_neg hp]
        exact ⟨.inl trivial, by constructor <;> intro z <;> first | omega | (refine ⟨trivial, ?_, ?_⟩ <;> omega)⟩
    · simp only [if_neg hl]
      exact ⟨.inl trivial, by constructor <;> intro z <;> first | omega | (refine ⟨trivial, ?_, ?_⟩ <;> omega)⟩
end Go.Proofs.Ytkjibgfgbfacdaa.P
end
/-! part: PLive06 -/
section
set_option linter.unusedVariables false
set_option linter.unusedSimpArgs false
namespace Go.Proofs.Ytkjibgfgbfacdaa.P
open Go.RowKit Go.Proofs.YtkjibgfgbfacdaaW.PrintWords Go.Proofs.YtkjibgfgbfacdaaW.PrintLast Go.Proofs.YtkjibgfgbfacdaaW.PrintMore
theorem sort16_eq {l s : List Int} (hp : l.Perm s) (hs : s.Pairwise (fun a b => decide (a ≤ b) = true)) : sort16 l = s := by
  have tr : ∀ a b c : Int, decide (a ≤ b) = true → decide (b ≤ c) = true → decide (a ≤ c) = true := fun a b c h1 h2 => by simp only [decide_eq_true_eq] at *; omega
  have tot : ∀ a b : Int, (decide (a ≤ b) || decide (b ≤ a)) = true := fun a b => by simp only [Bool.or_eq_true, decide_eq_true_eq]; omega
  refine List.Perm.eq_of_pairwise (le := fun a b => decide (a ≤ b) = true) (fun a b _ _ h1 h2 => ?_) (List.pairwise_mergeSort tr tot _) hs ((List.mergeSort_perm _ _).trans hp)
  simp only [decide_eq_true_eq] at h1 h2
  omega
theorem live06_0 : cuvettelaw06_live.f0 = some true := by
  have e1 : h_rank_Cuts.f [1, 5, 9, 3] 2 = some ([5], 0) := by
    unfold h_rank_Cuts.f
    rw [sort16_eq (s := [1, 3, 5, 9]) (by decide) (by decide)]
    rfl
  unfold cuvettelaw06_live.f0
  rw [e1]
  rfl
theorem live06 : cuvettelaw06_live.f = some true := by
  unfold cuvettelaw06_live.f
  rw [if_pos live06_0]
end Go.Proofs.Ytkjibgfgbfacdaa.P
end
/-! part: PureRankIn -/
section
set_option linter.unusedVariables false
set_option linter.unusedSimpArgs false
namespace Go.Proofs.Ytkjibgfgbfacdaa.P
open Go.RowKit Go.Proofs.YtkjibgfgbfacdaaW.PrintWords Go.Proofs.YtkjibgfgbfacdaaW.PrintLast Go.Proofs.YtkjibgfgbfacdaaW.PrintMore
set_option linter.unusedVariables false
theorem in_l0 (l : List Int) (hi : i16L l) (h : cutsOk l = true) (x y : Int) (hx : -32767 ≤ x) (hx' : x ≤ 32767) (d : Nat) : ∀ c : Nat, c + d = l.length + 1 →
    Ev (fun k => cuvettelaw06_RankIn.l0 k l x y true (cellOf l x) (cellOf l y) ((l.length : Int) + 1) c) true := by
  have hlen := cutsLen h
  induction d with
  | zero =>
    intro c hc
    refine Ev.step (g' := fun _ => _) (fun k => ?_) (Ev.const _)
    simp only [cuvettelaw06_RankIn.l0]
    rw [if_neg (by omega), if_pos trivial]
    by_cases hxy : x > y
    · rw [if_pos hxy]
    · rw [if_neg hxy, decide_eq_true (cellOf_mono l (by omega))]
  | succ d ih =>
    intro c hc
    have hnext := ih (c + 1) (by omega)
    obtain ⟨s1, s2⟩ := span_cell l hi h x hx hx' c (by omega)
    refine Ev.step (g' := fun k => (rank_Span.f k l c).bind fun bt1010 => (if bt1010.2.2 = 0 then (if bt1010.1 ≤ x then (cuvettelaw06_RankIn.j2 k l x y true (cellOf l x) (cellOf l y) bt1010.2.2 ((l.length : Int) + 1) c ((decide (x ≤ bt1010.2.1)) != ((c : Int) == cellOf l x))) else (cuvettelaw06_RankIn.j2 k l x y true (cellOf l x) (cellOf l y) bt1010.2.2 ((l.length : Int) + 1) c (false != ((c : Int) == cellOf l x)))) else (cuvettelaw06_RankIn.j2 k l x y true (cellOf l x) (cellOf l y) bt1010.2.2 ((l.length : Int) + 1) c (false != ((c : Int) == cellOf l x))))) (fun k => by simp only [cuvettelaw06_RankIn.l0]; rw [if_pos (by omega)]) ?_
    refine Ev.bind (span_ev l hi h c (by omega)) ?_
    have go : ∀ e : Int, e = 0 ∨ e = 5 → Ev (fun k => cuvettelaw06_RankIn.j2 k l x y true (cellOf l x) (cellOf l y) e ((l.length : Int) + 1) c false) true := by
      intro e he
      refine Ev.step (fun k => ?_) hnext
      simp only [cuvettelaw06_RankIn.j2]
      rw [if_neg (by decide), idxCast c (by omega)]
      rcases he with rfl | rfl
      · rw [if_pos rfl]
      · rw [if_neg (by decide), if_pos rfl]
    generalize spanP l c = s at *
    by_cases h0 : s.2.2 = 0
    · simp only [if_pos h0]
      by_cases h1 : s.1 ≤ x
      · simp only [if_pos h1]
        have e : (decide (x ≤ s.2.1) != ((c : Int) == cellOf l x)) = false := by
          by_cases h2 : x ≤ s.2.1
          · have := s2.1 ⟨h0, h1, h2⟩
            rw [decide_eq_true h2, this]
            simp
          · have : ¬ (c : Int) = cellOf l x := fun z => h2 (s2.2 z).2.2
            rw [decide_eq_false h2]
            simp [this]
        rw [e]
        exact go _ s1
      · simp only [if_neg h1]
        have : ¬ (c : Int) = cellOf l x := fun z => h1 (s2.2 z).2.1
        have e : (false != ((c : Int) == cellOf l x)) = false := by simp [this]
        rw [e]
        exact go _ s1
    · simp only [if_neg h0]
      have : ¬ (c : Int) = cellOf l x := fun z => h0 (s2.2 z).1
      have e : (false != ((c : Int) == cellOf l x)) = false := by simp [this]
      rw [e]
      exact go _ s1
theorem pure_RankIn (l0 : List Int) (a1 : Int) (a2 : Int) (w0 : okI .i16 l0) (w1 : okN .i16 a1) (w2 : okN .i16 a2) : ∃ k, cuvettelaw06_RankIn.f k l0 a1 a2 = some true := by
  refine Ev.some (g := fun k => cuvettelaw06_RankIn.f k l0 a1 a2) ?_
  have hb1 := i16_of (l := [a1]) ⟨by simp, by simpa [okN] using w1⟩ a1 (by simp)
  unfold cuvettelaw06_RankIn.f
  rw [live06]
  simp only [Option.bind_some, if_true]
  by_cases hl : (l0.length : Int) > 300
  · simp only [if_pos hl]
    exact Ev.const _
  · simp only [if_neg hl]
    unfold h_rank_Cell.f
    simp only [Option.bind_some]
    by_cases h1 : cutsOk l0 = true ∧ -32767 ≤ a1
    · simp only [if_pos h1, if_true]
      by_cases h2 : cutsOk l0 = true ∧ -32767 ≤ a2
      · simp only [if_pos h2]
        have hlen := cutsLen h1.1
        have hg := in_l0 l0 (i16_of w0) h1.1 a1 a2 h1.2 hb1.2 (l0.length + 1) 0 (by omega)
        refine Ev.step (fun k => ?_) hg
        simp only [cuvettelaw06_RankIn.j0]
        rw [if_neg (by decide), w64 (by omega) (by omega)]
        rfl
      · simp only [if_neg h2]
        refine Ev.step (g' := fun _ => _) (fun k => ?_) (Ev.const _)
        simp [cuvettelaw06_RankIn.j0]
    · simp only [if_neg h1, if_neg (show ¬ ((1 : Int) = 0) by decide)]
      refine Ev.step (g' := fun _ => _) (fun k => ?_) (Ev.const _)
      simp [cuvettelaw06_RankIn.j0]
end Go.Proofs.Ytkjibgfgbfacdaa.P
end
/-! part: LawRankIn -/
section
set_option linter.unusedVariables false
set_option linter.unusedSimpArgs false
namespace Go.Proofs.Ytkjibgfgbfacdaa.rankIn
open Go.ChangeShapes Go.WideShapes Go.ChangeAt Go.RowKit Go.Joins Go.Proofs.YtkjibgfgbfacdaaW.PrintWords
set_option linter.unusedVariables false
theorem own : ownKnob Try.prog.godebug = none := by kernel_rfl
theorem laidOut : laidOutB Try.prog = true := RFacts.f2
set_option maxRecDepth 100000 in
theorem lifted (os : Os) (started : os.Started) (H : Type) (enc : TypeId × Value → H) :
    ReturnsInHanded {} Try.checked os 11 .any (Rows.rankInSpec.pre6 enc Try.prog Try.f11 Rows.rankInRow.domain false) (Rows.rankInSpec.post enc Try.prog Try.f11 false true false false) := by
  refine returnsInHanded_of_change_sized (C := Try.checked) own started (by kernel_rfl) Try.func11
    (ChangeSpec.witness6 (enc := enc) (C := Try.checked) false ⟨#[], #[.slice none 0 0, .int .i16 0, .int .i16 0], []⟩ 8 (by kernel_rfl) (by kernel_rfl) (by kernel_rfl) (by kernel_rfl)) ?_
  intro W base args ds gs before hval0 hW hcnd hsz0 _
  clear hsz0
  have hval : ∀ (j : Nat) t v, Try.f11.params[j]? = some t → args[j]? = some v → Value.okWide Try.prog W .any base t v := hval0
  have hW' := hW
  obtain ⟨p, q, hA0, hV, rfl, hfz, hnd⟩ := hW
  have hA : DataW.TrodAll enc Try.prog W 0 (fun _ => true) true Try.f11.params.toList args.toList ds p := hA0
  rw [Try.params11] at hA hval
  obtain ⟨v0, vs0, d0, ds0, p0, q0, hargs, rfl, rfl, h0, r0⟩ := trodAll_cons hA
  obtain ⟨v1, vs1, d1, ds1, p1, q1, rfl, rfl, rfl, h1, r1⟩ := trodAll_cons r0
  obtain ⟨v2, vs2, d2, ds2, p2, q2, rfl, rfl, rfl, h2, r2⟩ := trodAll_cons r1
  obtain ⟨rfl, rfl, rfl⟩ := trodAll_nil r2
  obtain rfl : args = #[v0, v1, v2] := by cases args; simp_all
  obtain ⟨rfl, rfl⟩ := trodVars_none hV
  have k0 := h0
  have lt0 : ∀ x ∈ p0, x.block < W.heap.size := by obtain ⟨m, hm⟩ := k0; exact DataW.trod_lt m _ _ _ hm
  obtain ⟨aa0, len0, cap0, rfl⟩ := okWide_slice Try.underlying26 (hval 0 26 v0 rfl rfl)
  obtain ⟨fuel0, hf0⟩ := h0
  obtain ⟨A0, c0, l0, ev0, hc0, hr0, w0⟩ := R.openI Try.underlying26 Try.underlying74 (by kernel_rfl) (by simpa [Value.cells] using hf0)
  rw [ev0] at hW' hval k0 ⊢
  have k1 := h1
  have lt1 : ∀ x ∈ p1, x.block < W.heap.size := by obtain ⟨m, hm⟩ := k1; exact DataW.trod_lt m _ _ _ hm
  obtain ⟨a1, rfl, _, _, w1⟩ := open_int Try.underlying74 (hval 1 74 v1 rfl rfl) h1
  have k2 := h2
  have lt2 : ∀ x ∈ p2, x.block < W.heap.size := by obtain ⟨m, hm⟩ := k2; exact DataW.trod_lt m _ _ _ hm
  obtain ⟨a2, rfl, _, _, w2⟩ := open_int Try.underlying74 (hval 2 74 v2 rfl rfl) h2
  clear hA0 hval0
  obtain ⟨k, hp⟩ := P.pure_RankIn l0 a1 a2 w0 w1 w2
  refine (P.cuvettelaw06_RankIn.calls k A0 c0 l0 a1 a2 true W hr0 hc0 hp rfl).mono fun e W' ⟨he, bel⟩ => ?_
  subst he
  exact ⟨_, rfl, _, _, _, [], _, [], hW', trodAll_mk1 (shut_bool Try.underlying4 _), (trodAll_cons_mk (Below.trod laidOut (by kernel_rfl) (of_decide_eq_true (by kernel_rfl)) k0 bel lt0) (trodAll_cons_mk (Below.trod laidOut (by kernel_rfl) (of_decide_eq_true (by kernel_rfl)) k1 bel lt1) (trodAll_cons_mk (Below.trod laidOut (by kernel_rfl) (of_decide_eq_true (by kernel_rfl)) k2 bel lt2) trodAll_mk0))), rfl, bel.frame _, fun h => by cases h⟩
set_option maxHeartbeats 0 in
theorem facts : joinedFacts Try.pinned.checked.prog 11 Try.f11 Rows.rankInSpec Rows.rankInRow = true := by
  unfold joinedFacts
  simp only [Bool.and_eq_true]
  repeat' apply And.intro
  · as_aux_lemma => kernel_rfl
  · exact RFacts.f2
  · exact RFacts.f3
  · as_aux_lemma => kernel_rfl
  · as_aux_lemma => kernel_rfl
  · as_aux_lemma => kernel_rfl
  · as_aux_lemma => kernel_rfl
  · as_aux_lemma => kernel_rfl
  · as_aux_lemma => kernel_rfl
  · as_aux_lemma => kernel_rfl
  · as_aux_lemma => kernel_rfl
  · as_aux_lemma => kernel_rfl
  · as_aux_lemma => kernel_rfl
  · as_aux_lemma => kernel_rfl
  · as_aux_lemma => kernel_rfl
  · as_aux_lemma => kernel_rfl
  · as_aux_lemma => kernel_rfl
  · as_aux_lemma => kernel_rfl
  · as_aux_lemma => kernel_rfl
  · as_aux_lemma => kernel_rfl
  · as_aux_lemma => kernel_rfl
  · as_aux_lemma => kernel_rfl
  · exact RFacts.f23
  · as_aux_lemma => kernel_rfl
  · exact RFacts.f25
  · exact RFacts.f26
  · exact RFacts.f27
  · exact RFacts.f28
  · as_aux_lemma => kernel_rfl
  · as_aux_lemma => kernel_rfl
  · as_aux_lemma => kernel_rfl
  · as_aux_lemma => kernel_rfl
theorem over : Rows.rankInRow.holds Try.pinned (OpenSpec.ofChange Rows.rankInSpec) :=
  OpenClaim.holds_of_wide 11 Try.f11 rfl rfl rfl rfl rfl rfl rfl ⟨rfl, rfl, rfl, rfl, rfl⟩ rfl rfl rfl rfl rfl (by as_aux_lemma => kernel_rfl) Try.func11 facts
    (of_decide_eq_true (by as_aux_lemma => kernel_rfl)) (by unfold Func.isWrapper; first | (rw [if_pos (by decide +kernel)]; kernel_rfl) | (rw [if_neg (by decide +kernel)]; exact ⟨rfl, rfl⟩))
    (fun os started H enc _ => lifted os started H enc)
theorem proved : Rows.RankInSaid := over
#print axioms proved
end Go.Proofs.Ytkjibgfgbfacdaa.rankIn
namespace Go.Proofs.Ytkjibgfgbfacdaa
/-- The row, under a short name, for the claim. -/
theorem rankIn_holds : Rows.RankInSaid := rankIn.proved
end Go.Proofs.Ytkjibgfgbfacdaa
end
