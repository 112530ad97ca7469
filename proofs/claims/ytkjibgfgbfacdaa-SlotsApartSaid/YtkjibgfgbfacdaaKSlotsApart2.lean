/- The law SlotsApart of this seat answers true for every input, and its arguments read as they did. Conditions: none. This file holds a part of what the proof needs. -/
import Derived.Laws.IdiomCopy
import Derived.Test.YtkjibgfgbfacdaaKSlotsApart0
import Derived.Test.YtkjibgfgbfacdaaKSlotsApart1
/-! part: F100 -/
section
set_option linter.unusedVariables false
set_option linter.unusedSimpArgs false
namespace Go.Proofs.Ytkjibgfgbfacdaa.P
open Go.RowKit Go.Proofs.YtkjibgfgbfacdaaW.PrintWords Go.Proofs.YtkjibgfgbfacdaaW.PrintLast Go.Proofs.YtkjibgfgbfacdaaW.PrintMore
attribute [local go_sem] max2_int min2_int max_two min_two max_three min_three max_four min_four   -- for this text's walks alone
set_option linter.unusedVariables false
set_option linter.unusedSimpArgs false

/-! ### vec_Same: function 100 -/
def vec_Same.f (k : Nat) (l0 : List Int) (l1 : List Int) : Option (Bool) := (api_Vec_int16_147.f k l0 l1).bind fun t121 => (some t121)
theorem vec_Same.mono : ∀ a0 a1 k, LeO (vec_Same.f k a0 a1) (vec_Same.f (k + 1) a0 a1) := by
  intro a0 a1 k
  unfold vec_Same.f
  repeat' first
      | (with_reducible exact api_Vec_int16_147.mono _ _ _)
      | (with_reducible exact LeO.refl _)
      | (with_reducible exact LeO.none _)
      | (with_reducible refine LeO.ite ?_ ?_)
      | (with_reducible refine LeO.bind ?_ (fun _ => ?_))
      | exact api_Vec_int16_147.mono _ _ _
      | exact LeO.none _
      | refine LeO.ite ?_ ?_
      | refine LeO.bind ?_ (fun _ => ?_)
set_option maxHeartbeats 8000000 in
set_option maxRecDepth 100000 in
theorem vec_Same.calls (k : Nat) (A0 : Option Addr) (c0 : Nat) (l0 : List Int) (A1 : Option Addr) (c1 : Nat) (l1 : List Int) (r : Bool) (w : World) (hr0 : Kd.C (Kd.int .i16) w A0 l0.length l0) (hc0 : l0.length ≤ c0) (hr1 : Kd.C (Kd.int .i16) w A1 l1.length l1) (hc1 : l1.length ≤ c1) (h : vec_Same.f k l0 l1 = some r) :
    Calls Try.prog 100 #[.slice A0 l0.length c0, .slice A1 l1.length c1] w fun e w' => e = .returned (.bool r) ∧ Drawn0 w w' := by
  have HR0 := Aside0.mk hr0
  have HC0 := Aside0.mk hc0
  clear hr0 hc0
  have HR1 := Aside0.mk hr1
  have HC1 := Aside0.mk hc1
  clear hr1 hc1
  have H : ((api_Vec_int16_147.f k l0 l1).bind fun t121 => (some t121)) = some r := h
  clear h
  replace H := Option.bind_eq_some_iff.mp H
  obtain ⟨t121, A30, H⟩ := H
  replace H : (some t121) = some r := H
  have A3 := Aside0.mk A30
  clear A30
  obtain rfl := Option.some.inj H
  go_enter Try.func100, Try.ntmps100
  go_wp2_with (first | ((with_reducible refine gate_callee (f := 147) rfl ?_); refine goesL_ (some 7) rfl rfl Try.func147 (by kernel_rfl) rfl #[.slice A0 l0.length c0, .slice A1 l1.length c1] rfl (by (try simp only [List.map_toArray, List.map_cons, List.map_nil]); first | done | rfl | (simp only [List.length_drop, List.length_take]; rfl)) ?_; (with_reducible refine (api_Vec_int16_147.calls k _ _ l0 _ _ l1 t121 _ ?side1 ?side2 ?side3 ?side4 A3.out).mono ?_); (case side1 => repeat (first | exact HR0.out | (with_reducible refine Kd.C_alloc ?_ _) | (with_reducible refine Kd.C_drewN ?_ _) | (with_reducible refine Kd.C_drew ?_))); (case side2 => exact HC0.out); (case side3 => repeat (first | exact HR1.out | (with_reducible refine Kd.C_alloc ?_ _) | (with_reducible refine Kd.C_drewN ?_ _) | (with_reducible refine Kd.C_drew ?_))); (case side4 => exact HC1.out); rintro e w' ⟨rfl, ⟨nd, rfl⟩⟩; refine ⟨_, rfl, ?_⟩))
  go_ret
  exact ⟨by first | rfl | (simp; done) | (simp [*]; done), by repeat (first | exact Drawn0.refl _ | apply Drawn0.step)⟩

end Go.Proofs.Ytkjibgfgbfacdaa.P
end
/-! part: PVec -/
section
set_option linter.unusedVariables false
set_option linter.unusedSimpArgs false
namespace Go.Proofs.Ytkjibgfgbfacdaa.P
open Go.RowKit Go.Proofs.YtkjibgfgbfacdaaW.PrintWords Go.Proofs.YtkjibgfgbfacdaaW.PrintLast Go.Proofs.YtkjibgfgbfacdaaW.PrintMore

theorem equalVec (xs ys : List Int) (hm : xs.length ≤ 9223372036854775807) (k : Nat) (hk : xs.length < k) : vec_Same.f k xs ys = some (decide (xs = ys)) := by
  unfold vec_Same.f
  have h := eqLoop0 0 api_Vec_int16_147.l0 (fun k xs ys n i => by simp only [api_Vec_int16_147.l0]; rfl) xs ys hm k hk
  unfold api_Vec_int16_147.f
  rw [h]
  rfl
theorem mn_lt (a b c : Int) : mn a b < c ↔ a < c ∨ b < c := by unfold mn; split <;> omega
theorem foldl_mn_lt (l : List Int) (c : Int) : ∀ m, l.foldl mn m < c ↔ m < c ∨ ∃ x ∈ l, x < c := by
  induction l with
  | nil => intro m; simp
  | cons x t ih =>
    intro m
    simp only [List.foldl_cons, ih, mn_lt, List.mem_cons, exists_eq_or_imp]
    constructor
    · rintro ((h | h) | h)
      · exact .inl h
      · exact .inr (.inl h)
      · exact .inr (.inr h)
    · rintro (h | h | h)
      · exact .inl (.inl h)
      · exact .inl (.inr h)
      · exact .inr h
theorem minLoop (xs : List Int) (hm : xs.length ≤ 9223372036854775807) (d : Nat) : ∀ (k : Nat) (i m : Int), 0 ≤ i → i ≤ (xs.length : Int) → (xs.length : Int) - i = d → d < k →
    api_Vec_int16_167.l0 k xs m i = some ((xs.drop i.toNat).foldl mn m) := by
  induction d with
  | zero =>
    intro k i m h0 h1 hd hk
    obtain ⟨k, rfl⟩ : ∃ m, k = m + 1 := ⟨k - 1, by omega⟩
    simp only [api_Vec_int16_167.l0]
    rw [if_neg (by omega), List.drop_eq_nil_of_le (by omega)]
    rfl
  | succ d ih =>
    intro k i m h0 h1 hd hk
    obtain ⟨k, rfl⟩ : ∃ m, k = m + 1 := ⟨k - 1, by omega⟩
    simp only [api_Vec_int16_167.l0]
    rw [if_pos (by omega), if_pos h0, w64 (by omega) (by omega), ih k (i + 1) _ (by omega) (by omega) (by omega) (by omega), rdO 0 xs i h0 (by omega)]
    rfl
theorem vecCheck (v : List Int) (k : Nat) (hk : v.length < k) (hm : v.length ≤ 9223372036854775807) : vec_Check.f k v = some (if vecOk v = true then 0 else 1) := by
  unfold vec_Check.f
  by_cases h1 : (v.length : Int) < 1
  · rw [if_pos h1]
    have : vecOk v = false := by unfold vecOk; rw [decide_eq_false (by omega)]; rfl
    simp [this]
  by_cases h2 : (v.length : Int) > 64
  · rw [if_neg h1, if_pos h2]
    have : vecOk v = false := by unfold vecOk; rw [decide_eq_false (p := v.length ≤ 64) (by omega)]; simp
    simp [this]
  rw [if_neg h1, if_neg h2]
  unfold api_Vec_int16_167.f
  rw [if_neg h1, if_pos (by omega), minLoop v hm (v.length - 1) k 1 _ (by omega) (by omega) (by omega) (by omega)]
  simp only [Option.bind_some]
  have e : (List.drop (Int.toNat 1) v).foldl mn (rd v 0) < -32767 ↔ ∃ x ∈ v, x < -32767 := by
    rw [foldl_mn_lt]
    cases v with
    | nil => simp at h1
    | cons a t => simp [rd]
  have ev : vecOk v = !decide (∃ x ∈ v, x < -32767) := by
    unfold vecOk
    rw [decide_eq_true (by omega), decide_eq_true (p := v.length ≤ 64) (by omega), Bool.true_and, Bool.true_and, Bool.eq_iff_iff]
    simp
  by_cases h3 : ∃ x ∈ v, x < -32767
  · rw [if_pos (e.2 h3), ev, decide_eq_true h3]; rfl
  · rw [if_neg (fun z => h3 (e.1 z)), ev, decide_eq_false h3]; rfl
end Go.Proofs.Ytkjibgfgbfacdaa.P
end
/-! part: PSlots -/
section
set_option linter.unusedVariables false
set_option linter.unusedSimpArgs false
namespace Go.Proofs.Ytkjibgfgbfacdaa.P
open Go.RowKit Go.Proofs.YtkjibgfgbfacdaaW.PrintWords Go.Proofs.YtkjibgfgbfacdaaW.PrintLast Go.Proofs.YtkjibgfgbfacdaaW.PrintMore

theorem vecCheck65 (v : List Int) (k : Nat) (hk : 65 ≤ k) : vec_Check.f k v = some (if vecOk v = true then 0 else 1) := by
  by_cases h : v.length ≤ 64
  · exact vecCheck v k (by omega) (by omega)
  · unfold vec_Check.f
    rw [if_neg (by omega), if_pos (by omega)]
    have : vecOk v = false := by unfold vecOk; rw [decide_eq_false (p := v.length ≤ 64) h]; simp
    simp [this]
theorem fitsP (dim : Int) (ids : List Int) (vecs : List (List Int)) (v : List Int) (k : Nat) (hk : 65 ≤ k) : slots_fits.f k dim ids vecs v = some (vecOk v && decide ((v.length : Int) = dim)) := by
  unfold slots_fits.f
  rw [vecCheck65 v k hk]
  simp only [Option.bind_some]
  cases vecOk v
  · rfl
  · simp only [if_true, Bool.true_and]
    rfl
theorem isP (x : Int) : slots_is.f x = some (isIdB x) := by
  unfold slots_is.f isIdB
  by_cases h : x ≥ 0
  · rw [if_pos h, decide_eq_true (p := 0 ≤ x) h, Bool.true_and]
  · rw [if_neg h, decide_eq_false (p := 0 ≤ x) h, Bool.false_and]
theorem withinP (a b : Int) : slots_within.f a b = some (decide (1 ≤ a) && decide (a ≤ b)) := by
  unfold slots_within.f
  by_cases h : a ≥ 1
  · rw [if_pos h, decide_eq_true (p := 1 ≤ a) h, Bool.true_and]
  · rw [if_neg h, decide_eq_false (p := 1 ≤ a) h, Bool.false_and]

/-- Slot by slot: what comes ahead is pre. -/
def dirRec (dim : Int) : List Int → List (Int × List Int) → Bool
  | _, [] => true
  | pre, (id, v) :: t => (decide (id = -1) && v.isEmpty || (!(decide (id ≠ -1) && pre.contains id) && (isIdB id && (vecOk v && decide ((v.length : Int) = dim))))) && dirRec dim (pre ++ [id]) t
def live (ids : List Int) : List Int := ids.filter (fun x => decide (x ≠ -1))
theorem mem_live {ids : List Int} {x : Int} : x ∈ live ids ↔ x ∈ ids ∧ x ≠ -1 := by simp [live]
theorem live_cons_no (t : List Int) : live (-1 :: t) = live t := by simp [live]
theorem live_cons_yes {id : Int} (h : id ≠ -1) (t : List Int) : live (id :: t) = id :: live t := by simp [live, h]
theorem slotOk_no (dim : Int) (v : List Int) : slotOk dim (-1) v = v.isEmpty := by
  have hI : isIdB (-1) = false := by decide
  simp [slotOk, hI]
theorem slotOk_yes (dim : Int) {id : Int} (h : id ≠ -1) (v : List Int) : slotOk dim id v = (isIdB id && (vecOk v && decide ((v.length : Int) = dim))) := by
  simp [slotOk, h, Bool.and_assoc]
theorem dirRec_no (dim : Int) (pre : List Int) (v : List Int) (t : List (Int × List Int)) : dirRec dim pre ((-1, v) :: t) = (slotOk dim (-1) v && dirRec dim (pre ++ [-1]) t) := by
  have hI : isIdB (-1) = false := by decide
  rw [slotOk_no]
  simp [dirRec, hI]
theorem dirRec_yes (dim : Int) (pre : List Int) {id : Int} (h : id ≠ -1) (v : List Int) (t : List (Int × List Int)) : dirRec dim pre ((id, v) :: t) = (!(pre.contains id) && slotOk dim id v && dirRec dim (pre ++ [id]) t) := by
  rw [slotOk_yes dim h]
  simp [dirRec, h]
theorem dirRec_iff (dim : Int) (l : List (Int × List Int)) : ∀ pre, dirRec dim pre l = true ↔ ((∀ p ∈ l, slotOk dim p.1 p.2 = true) ∧ (live (l.map Prod.fst)).Nodup ∧ ∀ x ∈ live (l.map Prod.fst), x ∉ pre) := by
  induction l with
  | nil => intro pre; simp [dirRec, live]
  | cons p t ih =>
    obtain ⟨id, v⟩ := p
    intro pre
    by_cases h1 : id = -1
    · subst h1
      rw [dirRec_no, Bool.and_eq_true, ih, List.map_cons, live_cons_no]
      constructor
      · rintro ⟨h, h2, h3, h4⟩
        refine ⟨?_, h3, fun x hx => fun hp => h4 x hx (List.mem_append_left _ hp)⟩
        intro p hp
        rcases List.mem_cons.1 hp with rfl | hp
        · exact h
        · exact h2 p hp
      · rintro ⟨h2, h3, h4⟩
        refine ⟨h2 _ List.mem_cons_self, fun p hp => h2 p (List.mem_cons_of_mem _ hp), h3, fun x hx hp => ?_⟩
        rcases List.mem_append.1 hp with hp | hp
        · exact h4 x hx hp
        · exact (mem_live.1 hx).2 (List.mem_singleton.1 hp)
    · rw [dirRec_yes dim pre h1, Bool.and_eq_true, Bool.and_eq_true, ih, List.map_cons, live_cons_yes h1, List.nodup_cons]
      constructor
      · rintro ⟨⟨h, h2⟩, h3, h4, h5⟩
        have hpre : id ∉ pre := by simpa using h
        refine ⟨?_, ⟨fun hx => h5 id hx (by simp), h4⟩, ?_⟩
        · intro p hp
          rcases List.mem_cons.1 hp with rfl | hp
          · exact h2
          · exact h3 p hp
        · intro x hx hp
          rcases List.mem_cons.1 hx with rfl | hx
          · exact hpre hp
          · exact h5 x hx (List.mem_append_left _ hp)
      · rintro ⟨h2, ⟨h3, h4⟩, h5⟩
        refine ⟨⟨by simpa using h5 id List.mem_cons_self, h2 _ List.mem_cons_self⟩, fun p hp => h2 p (List.mem_cons_of_mem _ hp), h4, fun x hx hp => ?_⟩
        rcases List.mem_append.1 hp with hp | hp
        · exact h5 x (List.mem_cons_of_mem _ hx) hp
        · rw [List.mem_singleton.1 hp] at hx
          exact h3 hx

theorem zip_drop (ids : List Int) (vecs : List (List Int)) (i : Int) (h0 : 0 ≤ i) (h1 : i < (ids.length : Int)) (h2 : i < (vecs.length : Int)) :
    (ids.zip vecs).drop i.toNat = (rd ids i, vecs.getD i.toNat []) :: (ids.zip vecs).drop (i + 1).toNat := by
  have h3 : i.toNat < (ids.zip vecs).length := by rw [List.length_zip]; omega
  rw [List.drop_eq_getElem_cons h3, show (i + 1).toNat = i.toNat + 1 by omega, List.getElem_zip]
  have e1 : rd ids i = ids[i.toNat]'(by omega) := by simp [rd, List.getD_eq_getElem?_getD, show i.toNat < ids.length by omega]
  have e2 : vecs.getD i.toNat [] = vecs[i.toNat]'(by omega) := by simp [List.getD_eq_getElem?_getD, show i.toNat < vecs.length by omega]
  rw [e1, e2]
theorem take_succ_rd (ids : List Int) (i : Int) (h0 : 0 ≤ i) (h1 : i < (ids.length : Int)) : ids.take (i + 1).toNat = ids.take i.toNat ++ [rd ids i] := by
  have h : i.toNat < ids.length := by omega
  rw [show (i + 1).toNat = i.toNat + 1 by omega, List.take_succ_eq_append_getElem h]
  simp [rd, List.getD_eq_getElem?_getD, h]
theorem dirLoop (dim : Int) (ids : List Int) (vecs : List (List Int)) (hl : vecs.length = ids.length) (hm : ids.length ≤ 9223372036854775807) (d : Nat) : ∀ (k : Nat) (i : Int), 0 ≤ i → i ≤ (ids.length : Int) → (ids.length : Int) - i = d → 2 * d + 66 ≤ k →
    slots_directory.l0 k ids (ids.length : Int) i dim ids vecs = some (dirRec dim (ids.take i.toNat) ((ids.zip vecs).drop i.toNat)) := by
  induction d with
  | zero =>
    intro k i h0 h1 hd hk
    obtain ⟨k, rfl⟩ : ∃ m, k = m + 1 := ⟨k - 1, by omega⟩
    simp only [slots_directory.l0]
    rw [if_neg (by omega), List.drop_eq_nil_of_le (by rw [List.length_zip]; omega)]
    rfl
  | succ d ih =>
    intro k i h0 h1 hd hk
    obtain ⟨k, rfl⟩ : ∃ m, k = m + 2 := ⟨k - 2, by omega⟩
    have hlt : i < (ids.length : Int) := by omega
    have hih := ih k (i + 1) (by omega) (by omega) (by omega) (by omega)
    rw [take_succ_rd ids i h0 hlt] at hih
    have e3 : rd_L3 vecs i = vecs.getD i.toNat [] := rfl
    simp only [slots_directory.l0]
    rw [if_pos hlt, if_pos h0, if_pos hlt, zip_drop ids vecs i h0 hlt (by omega)]
    by_cases hm1 : rd ids i = -1
    · rw [if_pos hm1, if_pos (by omega)]
      simp only [slots_directory.j2]
      rw [hm1] at hih ⊢
      rw [dirRec_no, slotOk_no, e3]
      cases hv : vecs.getD i.toNat [] with
      | nil =>
        rw [if_pos (by simp), w64 (by omega) (by omega), hih]
        simp
      | cons a t =>
        have hag : dirAg ids (-1) i = false := by simp [dirAg]
        have hI : isIdB (-1) = false := by decide
        rw [if_neg (by simp; omega), isP, hag, hI]
        simp
    · rw [if_neg hm1]
      simp only [slots_directory.j2]
      rw [dirRec_yes dim _ hm1, slotOk_yes dim hm1, e3]
      have hag : dirAg ids (rd ids i) i = (ids.take i.toNat).contains (rd ids i) := by simp [dirAg, hm1]
      rw [if_neg (by simp), hag]
      simp only [Option.bind_some]
      cases hc : (ids.take i.toNat).contains (rd ids i) with
      | true => simp
      | false =>
        rw [if_neg (by simp), isP]
        simp only [Option.bind_some]
        cases hI : isIdB (rd ids i) with
        | false => simp
        | true =>
          rw [if_pos rfl, if_pos h0, if_pos (by omega), fitsP dim ids vecs _ k (by omega)]
          simp only [Option.bind_some]
          cases hF : (vecOk (vecs.getD i.toNat []) && decide (((vecs.getD i.toNat []).length : Int) = dim)) with
          | false => simp
          | true =>
            rw [if_pos rfl, w64 (by omega) (by omega), hih]
            simp
theorem slotsOk_iff (dim : Int) (ids : List Int) (vecs : List (List Int)) : slotsOk dim ids vecs = true ↔ (1 ≤ dim ∧ dim ≤ 64 ∧ 1 ≤ ids.length ∧ ids.length ≤ 256 ∧ vecs.length = ids.length ∧ (∀ p ∈ ids.zip vecs, slotOk dim p.1 p.2 = true) ∧ (live ids).Nodup) := by
  simp only [slotsOk, Bool.and_eq_true, decide_eq_true_eq, List.all_eq_true, live]
  constructor
  · rintro ⟨⟨⟨⟨⟨⟨a, b⟩, c⟩, d⟩, e⟩, f⟩, g⟩
    exact ⟨a, b, c, d, e, f, g⟩
  · rintro ⟨a, b, c, d, e, f, g⟩
    exact ⟨⟨⟨⟨⟨⟨a, b⟩, c⟩, d⟩, e⟩, f⟩, g⟩
/-- What directory tells: whether slots may be. -/
theorem dirP (dim : Int) (ids : List Int) (vecs : List (List Int)) (k : Nat) (hk : 2 * ids.length + 67 ≤ k) : slots_directory.f k dim ids vecs = some (slotsOk dim ids vecs) := by
  unfold slots_directory.f
  rw [withinP, withinP]
  simp only [Option.bind_some]
  obtain ⟨k, rfl⟩ : ∃ m, k = m + 1 := ⟨k - 1, by omega⟩
  by_cases h1 : 1 ≤ dim ∧ dim ≤ 64
  · rw [if_pos (by simp [h1])]
    by_cases h2 : 1 ≤ ids.length ∧ ids.length ≤ 256
    · rw [if_pos (by simp; omega)]
      simp only [slots_directory.j0]
      by_cases h3 : vecs.length = ids.length
      · rw [if_neg (by simp [h3]), dirLoop dim ids vecs h3 (by omega) ids.length k 0 (by omega) (by omega) (by omega) (by omega)]
        congr 1
        rw [Bool.eq_iff_iff, dirRec_iff, slotsOk_iff]
        have em : (ids.zip vecs).map Prod.fst = ids := by rw [List.map_fst_zip (by omega)]
        simp only [Int.toNat_zero, List.drop_zero, List.take_zero, em]
        constructor
        · rintro ⟨a, b, _⟩
          exact ⟨h1.1, h1.2, h2.1, h2.2, h3, a, b⟩
        · rintro ⟨_, _, _, _, _, a, b⟩
          exact ⟨a, b, fun x _ => by simp⟩
      · have hs : slotsOk dim ids vecs = false := by rw [Bool.eq_false_iff]; intro h; exact h3 ((slotsOk_iff dim ids vecs).1 h).2.2.2.2.1
        rw [if_pos (by simp; omega), hs]
    · have hs : slotsOk dim ids vecs = false := by rw [Bool.eq_false_iff]; intro h; have := (slotsOk_iff dim ids vecs).1 h; exact h2 ⟨this.2.2.1, this.2.2.2.1⟩
      rw [if_neg (by simp; omega), hs]
      simp [slots_directory.j0]
  · have hs : slotsOk dim ids vecs = false := by rw [Bool.eq_false_iff]; intro h; have := (slotsOk_iff dim ids vecs).1 h; exact h1 ⟨this.1, this.2.1⟩
    rw [if_neg (by simp; omega), hs]
    simp [slots_directory.j0]
end Go.Proofs.Ytkjibgfgbfacdaa.P
end
/-! part: HslotsCheck -/
section
set_option linter.unusedVariables false
set_option linter.unusedSimpArgs false
namespace Go.Proofs.Ytkjibgfgbfacdaa.P
open Go.RowKit Go.Maps Go.Proofs.YtkjibgfgbfacdaaW.PrintWords Go.Proofs.YtkjibgfgbfacdaaW.PrintLast Go.Proofs.YtkjibgfgbfacdaaW.PrintMore
set_option linter.unusedVariables false
set_option linter.unusedSimpArgs false
theorem all_wf {l : List Int} (h : l.all i64B = true) : ∀ x ∈ l, (Lit.int .i64 x).wf = true := by
  intro x hx
  have := List.all_eq_true.1 h x hx
  simp only [i64B, Bool.and_eq_true, decide_eq_true_eq] at this
  exact WalkArith.wf_i64 (by omega)
theorem i64B_wf {x : Int} (h : i64B x = true) : (Lit.int .i64 x).wf = true := all_wf (l := [x]) (by simpa using h) x (by simp)
set_option maxHeartbeats 4000000 in
set_option maxRecDepth 100000 in
theorem h_slots_Check.calls (a0_0 : Int) (A0_1 : Option Addr) (c0_1 : Nat) (l0_1 : List Int) (A0_2 : Option Addr) (c0_2 : Nat) (l0_2 : List (List Int)) (r : Int) (w : World) (hr0_1 : Kd.C (Kd.int .i64) w A0_1 l0_1.length l0_1) (hc0_1 : l0_1.length ≤ c0_1) (hr0_2 : Kd.C (Kd.slice 74 (Kd.int .i16)) w A0_2 l0_2.length l0_2) (hc0_2 : l0_2.length ≤ c0_2) (h : h_slots_Check.f a0_0 l0_1 l0_2 = some r) :
    Calls Try.prog 65 #[.agg #[.int .i64 a0_0, .slice A0_1 l0_1.length c0_1, .slice A0_2 l0_2.length c0_2]] w fun e w' => e = .returned (.int .i64 r) ∧ Below w.heap.size w w' := by
  unfold h_slots_Check.f at h
  by_cases hw : l0_1.all i64B = true
  · rw [if_pos hw] at h
    obtain rfl := Option.some.inj h
    clear h
    have hu25 := Try.underlying25
    have HWF := Aside0.mk (all_wf hw)
    have HD := Aside0.mk (dirP a0_0 l0_1 l0_2 (2 * l0_1.length + 67) (Nat.le_refl _))
    have HR0_1 := Aside0.mk hr0_1
    have HR0_2 := Aside0.mk hr0_2
    have HC0_1 := Aside0.mk hc0_1
    have HC0_2 := Aside0.mk hc0_2
    clear hr0_1 hr0_2 hc0_1 hc0_2 hw
    generalize slotsOk a0_0 l0_1 l0_2 = ok at *
    cases ok with
    | true =>
      go_enter Try.func65, Try.ntmps65
      go_wp2_with (go_at_call 91; refine (slots_directory.calls _ a0_0 _ _ l0_1 _ _ l0_2 true _ HWF.out ?s1 HC0_1.out ?s2 HC0_2.out HD.out).mono ?_; (case s1 => exact Kd.C_alloc HR0_1.out _); (case s2 => exact Kd.C_alloc HR0_2.out _); rintro e w' ⟨v, rfl, hp, hb⟩; have HB := Aside0.mk hb; clear hb hp)
      go_ret
      exact ⟨rfl, below_then (below_alloc (Below.refl _ _) _) (below_alloc (Below.refl _ _) _).size HB.out⟩
    | false =>
      go_enter Try.func65, Try.ntmps65
      go_wp2_with (go_at_call 91; refine (slots_directory.calls _ a0_0 _ _ l0_1 _ _ l0_2 false _ HWF.out ?s1 HC0_1.out ?s2 HC0_2.out HD.out).mono ?_; (case s1 => exact Kd.C_alloc HR0_1.out _); (case s2 => exact Kd.C_alloc HR0_2.out _); rintro e w' ⟨v, rfl, hp, hb⟩; have HB := Aside0.mk hb; clear hb hp)
      go_ret
      exact ⟨rfl, below_then (below_alloc (Below.refl _ _) _) (below_alloc (Below.refl _ _) _).size HB.out⟩
  · rw [if_neg hw] at h
    cases h
end Go.Proofs.Ytkjibgfgbfacdaa.P
end
/-! part: HslotsFind -/
section
set_option linter.unusedVariables false
set_option linter.unusedSimpArgs false
namespace Go.Proofs.Ytkjibgfgbfacdaa.P
open Go.RowKit Go.Maps Go.Proofs.YtkjibgfgbfacdaaW.PrintWords Go.Proofs.YtkjibgfgbfacdaaW.PrintLast Go.Proofs.YtkjibgfgbfacdaaW.PrintMore
set_option linter.unusedVariables false
set_option linter.unusedSimpArgs false
theorem dirAg_all (ids : List Int) (x : Int) (hx : isIdB x = true) : dirAg ids x ids.length = decide (ids.idxOf x < ids.length) := by
  have hne : x ≠ -1 := by rintro rfl; simp [isIdB] at hx
  have e : ids.idxOf x < ids.length ↔ x ∈ ids := List.idxOf_lt_length_iff
  rw [Bool.eq_iff_iff]
  simp [dirAg, hne, e]
set_option maxHeartbeats 4000000 in
set_option maxRecDepth 100000 in
theorem h_slots_Find.calls (a0_0 : Int) (A0_1 : Option Addr) (c0_1 : Nat) (l0_1 : List Int) (A0_2 : Option Addr) (c0_2 : Nat) (l0_2 : List (List Int)) (a1 : Int) (r1 : Int) (r2 : Int) (w : World) (hr0_1 : Kd.C (Kd.int .i64) w A0_1 l0_1.length l0_1) (hc0_1 : l0_1.length ≤ c0_1) (hr0_2 : Kd.C (Kd.slice 74 (Kd.int .i16)) w A0_2 l0_2.length l0_2) (hc0_2 : l0_2.length ≤ c0_2) (h : h_slots_Find.f a0_0 l0_1 l0_2 a1 = some (r1, r2)) :
    Calls Try.prog 26 #[.agg #[.int .i64 a0_0, .slice A0_1 l0_1.length c0_1, .slice A0_2 l0_2.length c0_2], .int .i64 a1] w fun e w' => e = .returned (.tuple #[.int .i64 r1, .int .i64 r2]) ∧ Below w.heap.size w w' := by
  unfold h_slots_Find.f at h
  by_cases hw : l0_1.all i64B = true ∧ i64B a1 = true
  · rw [if_pos hw] at h
    have h := Option.some.inj h
    have hu25 := Try.underlying25
    have HWF := Aside0.mk (all_wf hw.1)
    have HKW := Aside0.mk (i64B_wf hw.2)
    have HD := Aside0.mk (dirP a0_0 l0_1 l0_2 (2 * l0_1.length + 67) (Nat.le_refl _))
    have HAG := Aside0.mk (dirAg_all l0_1 a1)
    have HIS := Aside0.mk (isP a1)
    have HMX := Aside0.mk hr0_1.2.1
    have HR0_1 := Aside0.mk hr0_1
    have HR0_2 := Aside0.mk hr0_2
    have HC0_1 := Aside0.mk hc0_1
    have HC0_2 := Aside0.mk hc0_2
    clear hr0_1 hr0_2 hc0_1 hc0_2 hw
    generalize slotsOk a0_0 l0_1 l0_2 = ok at *
    cases ok with
    | false =>
      rw [if_neg (by simp)] at h
      cases h
      go_enter Try.func26, Try.ntmps26
      go_wp2_with (go_at_call 91; refine (slots_directory.calls _ a0_0 _ _ l0_1 _ _ l0_2 false _ HWF.out ?s1 HC0_1.out ?s2 HC0_2.out HD.out).mono ?_; (case s1 => exact Kd.C_alloc HR0_1.out _); (case s2 => exact Kd.C_alloc HR0_2.out _); rintro e w' ⟨v, rfl, hp, hb⟩; have HB := Aside0.mk hb; clear hb hp)
      go_ret2
      exact ⟨rfl, below_then (below_alloc (Below.refl _ _) _) (below_alloc (Below.refl _ _) _).size HB.out⟩
    | true =>
      generalize hI : isIdB a1 = isid at *
      cases isid with
      | false =>
        rw [if_neg (by simp)] at h
        cases h
        clear hI
        go_enter Try.func26, Try.ntmps26
        go_wp2_with (first | (go_at_call 91; refine (slots_directory.calls _ a0_0 _ _ l0_1 _ _ l0_2 true _ HWF.out ?s1 HC0_1.out ?s2 HC0_2.out HD.out).mono ?_; (case s1 => exact Kd.C_alloc HR0_1.out _); (case s2 => exact Kd.C_alloc HR0_2.out _); rintro e w' ⟨v, rfl, hp, hb⟩; have HB := Aside0.mk hb; clear hb hp) | (go_at_call 92; refine (slots_is.calls a1 false _ HIS.out).mono ?_; rintro e w' ⟨rfl, hd⟩; have HB2 := Aside0.mk hd; clear hd))
        go_ret2
        exact ⟨rfl, below_then (below_alloc (Below.refl _ _) _) (below_alloc (Below.refl _ _) _).size (HB.out.trans (HB2.out.below.mono HB.out.size))⟩
      | true =>
        rw [if_pos (by simp)] at h
        have hag := HAG.out rfl
        by_cases hlt : l0_1.idxOf a1 < l0_1.length
        · rw [if_pos hlt] at h
          cases h
          rw [decide_eq_true hlt] at hag
          have HA := Aside0.mk hag
          have HLT := Aside0.mk hlt
          clear hI hag hlt HAG
          go_enter Try.func26, Try.ntmps26
          go_wp2_with (first | (go_at_call 91; refine (slots_directory.calls _ a0_0 _ _ l0_1 _ _ l0_2 true _ HWF.out ?s1 HC0_1.out ?s2 HC0_2.out HD.out).mono ?_; (case s1 => exact Kd.C_alloc HR0_1.out _); (case s2 => exact Kd.C_alloc HR0_2.out _); rintro e w' ⟨v, rfl, hp, hb⟩; have HB := Aside0.mk hb; obtain ⟨g, ob, rfl, hob, hdm⟩ := hp.1 rfl; obtain ⟨D, HMO, HHAS, HAT⟩ := hdm; have hhas : Maps.has D (.int .i64 a1) = true := (HHAS.out a1).trans HA.out; have HAT2 := Aside0.mk (HAT.out a1 (.lit (.int .i64 0)) HA.out); have HOB := Aside0.mk hob; clear hb hp hob HHAS HAT) | (go_at_call 92; refine (slots_is.calls a1 true _ HIS.out).mono ?_; rintro e w' ⟨rfl, ⟨nd, rfl⟩⟩) | (at_lookup; refine wpList_lookup_own_ok_int (H := Unit) _ rfl _ _ 98 rfl 2 3 .i64 (Maps.int_keyed Try.underlying2) Try.underlying98 Try.underlying3 (zero_int _) g ((l0_1.length : Int).toNat) D rfl ?hO _ _ rfl (keyOf_int_mk Try.underlying2 HKW.out) ?_; (case hO => exact HMO.out _ _ (blk_drewN HOB.out _)); intro c hat hwc; have HC := Aside0.mk (show c = (l0_1.idxOf a1 : Int) from by rw [HAT2.out] at hat; injection hat with hat; injection hat with _ hat; exact hat.symm); clear hat hwc))
          go_ret2
          exact ⟨by rw [HC.out]; rfl, below_then (below_alloc (Below.refl _ _) _) (below_alloc (Below.refl _ _) _).size (pw_below_drewN HB.out _)⟩
        · rw [if_neg hlt] at h
          cases h
          rw [decide_eq_false hlt] at hag
          have HA := Aside0.mk hag
          clear hI hag hlt HAG
          go_enter Try.func26, Try.ntmps26
          go_wp2_with (first | (go_at_call 91; refine (slots_directory.calls _ a0_0 _ _ l0_1 _ _ l0_2 true _ HWF.out ?s1 HC0_1.out ?s2 HC0_2.out HD.out).mono ?_; (case s1 => exact Kd.C_alloc HR0_1.out _); (case s2 => exact Kd.C_alloc HR0_2.out _); rintro e w' ⟨v, rfl, hp, hb⟩; have HB := Aside0.mk hb; obtain ⟨g, ob, rfl, hob, hdm⟩ := hp.1 rfl; obtain ⟨D, HMO, HHAS, HAT⟩ := hdm; have hhas : Maps.has D (.int .i64 a1) = false := (HHAS.out a1).trans HA.out; have HOB := Aside0.mk hob; clear hb hp hob HHAS HAT) | (go_at_call 92; refine (slots_is.calls a1 true _ HIS.out).mono ?_; rintro e w' ⟨rfl, ⟨nd, rfl⟩⟩) | (at_lookup; refine wpList_lookup_own_ok_int (H := Unit) _ rfl _ _ 98 rfl 2 3 .i64 (Maps.int_keyed Try.underlying2) Try.underlying98 Try.underlying3 (zero_int _) g ((l0_1.length : Int).toNat) D rfl ?hO _ _ rfl (keyOf_int_mk Try.underlying2 HKW.out) ?_; (case hO => exact HMO.out _ _ (blk_drewN HOB.out _)); intro c hat hwc; clear hat hwc))
          go_ret2
          exact ⟨rfl, below_then (below_alloc (Below.refl _ _) _) (below_alloc (Below.refl _ _) _).size (pw_below_drewN HB.out _)⟩
  · rw [if_neg hw] at h
    cases h
end Go.Proofs.Ytkjibgfgbfacdaa.P
end
/-! part: F27 -/
section
set_option linter.unusedVariables false
set_option linter.unusedSimpArgs false
namespace Go.Proofs.Ytkjibgfgbfacdaa.P
open Go.RowKit Go.Proofs.YtkjibgfgbfacdaaW.PrintWords Go.Proofs.YtkjibgfgbfacdaaW.PrintLast Go.Proofs.YtkjibgfgbfacdaaW.PrintMore
attribute [local go_sem] max2_int min2_int max_two min_two max_three min_three max_four min_four   -- for this text's walks alone
set_option linter.unusedVariables false
set_option linter.unusedSimpArgs false

/-! ### slots_Put: function 27 -/
def slots_Put.j0 : Nat → Int → List Int → Int → Int → Bool → Int → List Int → List (List Int) → Option (Int × Int × List Int × (List (List Int)) × Int)
  | 0, _, _, _, _, _, _, _, _ => none
  | k + 1, x1, x2, x9, x10, x17, x162000, x162001, x162002 => if x17 = true then (some (0, 0, ([] : List Int), ([] : List (List Int)), 1)) else (if x10 = 5 then ((slices_Index_int64_int64.f k x162001 (-1)).bind fun t166 => (if t166 < 0 then (some (0, 0, ([] : List Int), ([] : List (List Int)), 7)) else ((slots_with.f k x162000 x162001 x162002 t166 x1 x2).bind fun bt167 => (some (t166, bt167.1, bt167.2.1, bt167.2.2, 0))))) else ((slots_with.f k x162000 x162001 x162002 x9 x1 x2).bind fun bt174 => (some (x9, bt174.1, bt174.2.1, bt174.2.2, 0))))
def slots_Put.f (k : Nat) (a0_0 : Int) (l0_1 : List Int) (l0_2 : List (List Int)) (a1 : Int) (l2 : List Int) : Option (Int × Int × List Int × (List (List Int)) × Int) := (h_slots_Find.f a0_0 l0_1 l0_2 a1).bind fun bt163 => (if bt163.2 = 1 then (slots_Put.j0 k a1 l2 bt163.1 bt163.2 true a0_0 l0_1 l0_2) else ((slots_fits.f k a0_0 l0_1 l0_2 l2).bind fun t165 => (slots_Put.j0 k a1 l2 bt163.1 bt163.2 (!t165) a0_0 l0_1 l0_2)))
theorem slots_Put.mono_l : ∀ k, (∀ y0 y1 y2 y3 y4 y5 y6 y7, LeO (slots_Put.j0 k y0 y1 y2 y3 y4 y5 y6 y7) (slots_Put.j0 (k + 1) y0 y1 y2 y3 y4 y5 y6 y7))
  | 0 => fun _ _ _ _ _ _ _ _ r h => by simp [slots_Put.j0] at h
  | k + 1 => by
    have ih0 := slots_Put.mono_l k
    · intro y0 y1 y2 y3 y4 y5 y6 y7
      unfold slots_Put.j0
      repeat' first
      | (with_reducible exact ih0 _ _ _ _ _ _ _ _)
      | (with_reducible exact slices_Index_int64_int64.mono _ _ _)
      | (with_reducible exact slots_fits.mono _ _ _ _ _)
      | (with_reducible exact slots_with.mono _ _ _ _ _ _ _)
      | (with_reducible exact LeO.refl _)
      | (with_reducible exact LeO.none _)
      | (with_reducible refine LeO.ite ?_ ?_)
      | (with_reducible refine LeO.bind ?_ (fun _ => ?_))
      | exact ih0 _ _ _ _ _ _ _ _
      | exact slices_Index_int64_int64.mono _ _ _
      | exact slots_fits.mono _ _ _ _ _
      | exact slots_with.mono _ _ _ _ _ _ _
      | exact LeO.none _
      | refine LeO.ite ?_ ?_
      | refine LeO.bind ?_ (fun _ => ?_)
theorem slots_Put.mono : ∀ a0 a1 a2 a3 a4 k, LeO (slots_Put.f k a0 a1 a2 a3 a4) (slots_Put.f (k + 1) a0 a1 a2 a3 a4) := by
  intro a0 a1 a2 a3 a4 k
  have ih0 := slots_Put.mono_l k
  unfold slots_Put.f
  repeat' first
      | (with_reducible exact ih0 _ _ _ _ _ _ _ _)
      | (with_reducible exact slices_Index_int64_int64.mono _ _ _)
      | (with_reducible exact slots_fits.mono _ _ _ _ _)
      | (with_reducible exact slots_with.mono _ _ _ _ _ _ _)
      | (with_reducible exact LeO.refl _)
      | (with_reducible exact LeO.none _)
      | (with_reducible refine LeO.ite ?_ ?_)
      | (with_reducible refine LeO.bind ?_ (fun _ => ?_))
      | exact ih0 _ _ _ _ _ _ _ _
      | exact slices_Index_int64_int64.mono _ _ _
      | exact slots_fits.mono _ _ _ _ _
      | exact slots_with.mono _ _ _ _ _ _ _
      | exact LeO.none _
      | refine LeO.ite ?_ ?_
      | refine LeO.bind ?_ (fun _ => ?_)
set_option maxHeartbeats 8000000 in
set_option maxRecDepth 100000 in
theorem slots_Put.calls (k : Nat) (a0_0 : Int) (A0_1 : Option Addr) (c0_1 : Nat) (l0_1 : List Int) (P0_2_ : Nat → Prop) (A0_2 : Option Addr) (c0_2 : Nat) (l0_2 : List (List Int)) (a1 : Int) (A2 : Option Addr) (c2 : Nat) (l2 : List Int) (r1 : Int) (r2 : Int) (r3 : List Int) (r4 : List (List Int)) (r5 : Int) (w : World) (hr0_1 : Kd.C (Kd.int .i64) w A0_1 l0_1.length l0_1) (hc0_1 : l0_1.length ≤ c0_1) (hs0_2 : Kd.V (Kd.slice 74 (Kd.int .i16)) 27 w w.heap.size (fun k_ => P0_2_ k_) (.slice A0_2 l0_2.length c0_2) l0_2) (hr2 : Kd.C (Kd.int .i16) w A2 l2.length l2) (hc2 : l2.length ≤ c2) (h : slots_Put.f k a0_0 l0_1 l0_2 a1 l2 = some (r1, r2, r3, r4, r5)) :
    Calls Try.prog 27 #[.agg #[.int .i64 a0_0, .slice A0_1 l0_1.length c0_1, .slice A0_2 l0_2.length c0_2], .int .i64 a1, .slice A2 l2.length c2] w fun e w' => ∃ v2_ v3_ : Value, e = .returned (.tuple #[.int .i64 r1, .agg #[.int .i64 r2, v2_, v3_], .int .i64 r5]) ∧ Kd.R (Kd.int .i64) 2 w' w.heap.size (fun k_ => (w.heap.size ≤ k_)) v2_ r3 ∧ Kd.N (Kd.slice 74 (Kd.int .i16)) 27 w' w.heap.size (fun k_ => (P0_2_ k_ ∨ w.heap.size ≤ k_) ∧ some k_ ≠ (v2_ : Value).ownBlock) v3_ r4 ∧ Below w.heap.size w w' := by
  have hu25 := Try.underlying25
  have HR0_1 := Aside0.mk hr0_1
  have HC0_1 := Aside0.mk hc0_1
  clear hr0_1 hc0_1
  have HO0_2 := Aside0.mk (show Kd.V (Kd.slice 74 (Kd.int .i16)) 27 w w.heap.size (fun k_ => (P0_2_ k_ ∨ w.heap.size ≤ k_)) (.slice A0_2 l0_2.length c0_2) l0_2 from Kd.V_mono hs0_2 (fun k_ hk => .inl hk))
  have HR2 := Aside0.mk hr2
  have HC2 := Aside0.mk hc2
  clear hr2 hc2
  have HB := Aside0.mk (Below.refl w.heap.size w)
  have H : ((h_slots_Find.f a0_0 l0_1 l0_2 a1).bind fun bt163 => (if bt163.2 = 1 then (slots_Put.j0 k a1 l2 bt163.1 bt163.2 true a0_0 l0_1 l0_2) else ((slots_fits.f k a0_0 l0_1 l0_2 l2).bind fun t165 => (slots_Put.j0 k a1 l2 bt163.1 bt163.2 (!t165) a0_0 l0_1 l0_2)))) = some (r1, r2, r3, r4, r5) := h
  clear h
  replace H := Option.bind_eq_some_iff.mp H
  obtain ⟨⟨t163, t164⟩, A40, H⟩ := H
  replace H : (if t164 = 1 then (slots_Put.j0 k a1 l2 t163 t164 true a0_0 l0_1 l0_2) else ((slots_fits.f k a0_0 l0_1 l0_2 l2).bind fun t165 => (slots_Put.j0 k a1 l2 t163 t164 (!t165) a0_0 l0_1 l0_2))) = some (r1, r2, r3, r4, r5) := H
  have A4 := Aside0.mk A40
  clear A40
  have HC5 := Aside0.mk H
  clear H
  go_enter Try.func27, Try.ntmps27
  go_upto_region 2 with (first | ((with_reducible refine gate_dst (N := 3) rfl ?_); refine box_event ?hg (N := 3) ?hd (cs := #[.int .i64 a0_0, .slice A0_1 l0_1.length c0_1, .slice A0_2 l0_2.length c0_2]) (t := 25) ?hr ?_; (case hd => rfl); (case hg => rfl); (case hr => first | (go_simp; done) | (go_simp; rfl)); intro gb161 hg w6 hbox hb; have n0_ := Aside0.mk (Kd.V_below (Kd.V_elderB (by (with_reducible repeat (first | apply Kd.V_alloc | apply Kd.V_drewN | apply Kd.V_drew)); exact HO0_2.out) gb161 (Nat.le_of_eq hg.symm)) hb); have n1_ := Aside0.mk (below_step (by repeat (first | (with_reducible first | exact HB.out | apply below_alloc | apply pw_below_drewN | apply below_drew1) | exact HB.out)) hb); have n2_ := Aside0.mk (hbox); have n3_ := Aside0.mk ((by rw [hg]; exact (below_size (by repeat (first | (with_reducible first | exact HB.out | apply below_alloc | apply pw_below_drewN | apply below_drew1) | exact HB.out))) : w.heap.size ≤ gb161)); have n4_ := Aside0.mk ((by rw [hg]; exact (below_size (by repeat (first | (with_reducible first | exact HB.out | apply below_alloc | apply pw_below_drewN | apply below_drew1) | exact HB.out))) : w.heap.size ≤ gb161)); clear HO0_2; clear HB; have HO0_2 := n0_; have HB := n1_; have BK161 := n2_; have GW161 := n3_; have GE161 := n4_; clear n0_ n1_ n2_ n3_ n4_; clear hb hbox hg) | ((with_reducible refine gate_dst (N := 7) rfl ?_); refine box_event ?hg (N := 7) ?hd (cs := #[.int .i64 0, .slice none 0 0, .slice none 0 0]) (t := 25) ?hr ?_; (case hd => rfl); (case hg => rfl); (case hr => first | (go_simp; done) | (go_simp; rfl)); intro gb162 hg w7 hbox hb; have n0_ := Aside0.mk (Kd.V_below (Kd.V_elderB (by (with_reducible repeat (first | apply Kd.V_alloc | apply Kd.V_drewN | apply Kd.V_drew)); exact HO0_2.out) gb162 (Nat.le_of_eq hg.symm)) hb); have n1_ := Aside0.mk (blk_below (g := gb161) (o := .cells #[.int .i64 a0_0, .slice A0_1 l0_1.length c0_1, .slice A0_2 l0_2.length c0_2] 25 (0, 0)) (by (with_reducible repeat (first | refine blk_drewN ?_ _ | refine blk_drew ?_ | refine blk_alloc ?_ _)); exact BK161.out) hb); have n2_ := Aside0.mk (below_step (by repeat (first | (with_reducible first | exact HB.out | apply below_alloc | apply pw_below_drewN | apply below_drew1 | refine below_set ?_ GE161.out) | exact HB.out)) hb); have n3_ := Aside0.mk (hbox); have n4_ := Aside0.mk ((by rw [hg]; exact (below_size (by repeat (first | (with_reducible first | exact HB.out | apply below_alloc | apply pw_below_drewN | apply below_drew1 | refine below_set ?_ GE161.out) | exact HB.out))) : w.heap.size ≤ gb162)); have n5_ := Aside0.mk ((by rw [hg]; exact (below_size (by repeat (first | (with_reducible first | exact HB.out | apply below_alloc | apply pw_below_drewN | apply below_drew1 | refine below_set ?_ GE161.out) | exact HB.out))) : w.heap.size ≤ gb162)); have n6_ := Aside0.mk ((by rw [hg]; exact Nat.ne_of_lt (blk_lt (g := gb161) (o := .cells #[.int .i64 a0_0, .slice A0_1 l0_1.length c0_1, .slice A0_2 l0_2.length c0_2] 25 (0, 0)) (by (with_reducible repeat (first | refine blk_drewN ?_ _ | refine blk_drew ?_ | refine blk_alloc ?_ _)); exact BK161.out)) : gb161 ≠ gb162)); have n7_ := Aside0.mk ((by rw [hg]; exact Nat.ne_of_gt (blk_lt (g := gb161) (o := .cells #[.int .i64 a0_0, .slice A0_1 l0_1.length c0_1, .slice A0_2 l0_2.length c0_2] 25 (0, 0)) (by (with_reducible repeat (first | refine blk_drewN ?_ _ | refine blk_drew ?_ | refine blk_alloc ?_ _)); exact BK161.out)) : gb162 ≠ gb161)); clear HO0_2; clear BK161; clear HB; have HO0_2 := n0_; have BK161 := n1_; have HB := n2_; have BK162 := n3_; have GW162 := n4_; have GE162 := n5_; have NB161_162 := n6_; have NB162_161 := n7_; clear n0_ n1_ n2_ n3_ n4_ n5_ n6_ n7_; clear hb hbox hg; have hnb8 := NB161_162.out; have hnc8 := NB162_161.out; have hcz9_0 : w7.cell? ⟨gb161, 0, none⟩ = some (.int .i64 a0_0) := (blk_cell BK161.out 0).trans rfl; have hcz9_1 : w7.cell? ⟨gb161, 1, none⟩ = some (.slice A0_1 l0_1.length c0_1) := (blk_cell BK161.out 1).trans rfl; have hcz9_2 : w7.cell? ⟨gb161, 2, none⟩ = some (.slice A0_2 l0_2.length c0_2) := (blk_cell BK161.out 2).trans rfl; have hfz9_0 := blk_frozen BK161.out 0; have hfz9_1 := blk_frozen BK161.out 1; have hfz9_2 := blk_frozen BK161.out 2) | ((with_reducible refine gate_callee (f := 26) rfl ?_); refine goesL_ (some 14) rfl rfl Try.func26 (by kernel_rfl) rfl #[.agg #[.int .i64 a0_0, .slice A0_1 l0_1.length c0_1, .slice A0_2 l0_2.length c0_2], .int .i64 a1] rfl (by (try simp only [List.map_toArray, List.map_cons, List.map_nil]); first | done | rfl | (simp only [List.length_drop, List.length_take]; rfl)) ?_; (with_reducible refine (h_slots_Find.calls a0_0 _ _ l0_1 _ _ l0_2 a1 t163 t164 _ ?side1 ?side2 ?side3 ?side4 A4.out).mono ?_); (case side1 => repeat (first | exact (Kd.C_below HR0_1.out HB.out) | (with_reducible refine Kd.C_alloc ?_ _) | (with_reducible refine Kd.C_drewN ?_ _) | (with_reducible refine Kd.C_drew ?_))); (case side2 => exact HC0_1.out); (case side3 => repeat (first | exact (Kd.V_reads' HO0_2.out).2.2 | (with_reducible refine Kd.C_alloc ?_ _) | (with_reducible refine Kd.C_drewN ?_ _) | (with_reducible refine Kd.C_drew ?_))); (case side4 => exact (Kd.V_reads' HO0_2.out).2.1); rintro e w10 ⟨rfl, hb⟩; refine ⟨_, rfl, ?_⟩; have n0_ := Aside0.mk (Kd.V_below (by (with_reducible repeat (first | apply Kd.V_alloc | apply Kd.V_drewN | apply Kd.V_drew)); exact HO0_2.out) hb); have n1_ := Aside0.mk (blk_below (g := gb161) (o := .cells #[.int .i64 a0_0, .slice A0_1 l0_1.length c0_1, .slice A0_2 l0_2.length c0_2] 25 (0, 0)) (by (with_reducible repeat (first | refine blk_drewN ?_ _ | refine blk_drew ?_ | refine blk_alloc ?_ _)); exact BK161.out) hb); have n2_ := Aside0.mk (blk_below (g := gb162) (o := .cells #[.int .i64 0, .slice none 0 0, .slice none 0 0] 25 (0, 0)) (by (with_reducible repeat (first | refine blk_drewN ?_ _ | refine blk_drew ?_ | refine blk_alloc ?_ _)); exact BK162.out) hb); have n3_ := Aside0.mk (below_step (by repeat (first | (with_reducible first | exact HB.out | apply below_alloc | apply pw_below_drewN | apply below_drew1 | refine below_set ?_ GE161.out | refine below_set ?_ GE162.out) | exact HB.out)) hb); clear HO0_2; clear BK161; clear BK162; clear HB; have HO0_2 := n0_; have BK161 := n1_; have BK162 := n2_; have HB := n3_; clear n0_ n1_ n2_ n3_; (try clear hb); (try clear hb2); (try clear hk); (try clear hi)))
  (try simp only [Act.put, List.setIfInBounds_toArray, List.set_cons_zero, List.set_cons_succ])
  go_cut [17] (fun v17 wc => ∃ (kq : Nat) (x17_4 : Bool), v17 = .bool x17_4 ∧ Aside0 (slots_Put.j0 kq a1 l2 t163 t164 x17_4 a0_0 l0_1 l0_2 = some (r1, r2, r3, r4, r5)) ∧ Aside0 (kq ≤ k) ∧ Aside0 (Kd.V (Kd.slice 74 (Kd.int .i16)) 27 wc w.heap.size (fun k_ => (P0_2_ k_ ∨ w.heap.size ≤ k_) ∧ k_ ≠ gb161 ∧ k_ ≠ gb162) (.slice A0_2 l0_2.length c0_2) l0_2) ∧ Aside0 (wc.heap[gb161]? = some (.cells #[.int .i64 a0_0, (.slice A0_1 l0_1.length c0_1), (.slice A0_2 l0_2.length c0_2)] 25 (0, 0))) ∧ Aside0 (wc.heap[gb162]? = some (.cells #[.int .i64 0, (.slice none 0 0), (.slice none 0 0)] 25 (0, 0))) ∧ Aside0 (Below w.heap.size w wc))
  case first =>
    have H := HC5.out
    clear HC5
    by_cases c11 : t164 = 1
    · rw [if_pos c11] at H
      have c11b0 : (t164 == 1) = true := beq_iff_eq.mpr c11
      have c11b1 : (t164 != 1) = false := bne_eq_false_iff_eq.mpr c11
      clear c11
      (first | rw [c11b0] | (simp only [i64_w, i32_w]; rw [c11b0]) | skip)
      have H' := Aside0.mk H
      clear H
      go_wp2
      go_meet
      case rel => exact ⟨_, (true), (by first | rfl | (simp; done) | (simp [*]; done)), H', ⟨by first | omega | exact Nat.le_refl _⟩, ⟨by (with_reducible repeat (first | apply Kd.V_alloc | apply Kd.V_drewN | apply Kd.V_drew)); exact Kd.V_mono HO0_2.out (fun _ hk => ⟨hk.1.1, ⟨hk.1.2, hk.2⟩⟩)⟩, ⟨by (with_reducible repeat (first | refine blk_drewN ?_ _ | refine blk_drew ?_ | refine blk_alloc ?_ _)); exact BK161.out⟩, ⟨by (with_reducible repeat (first | refine blk_drewN ?_ _ | refine blk_drew ?_ | refine blk_alloc ?_ _)); exact BK162.out⟩, ⟨by repeat (first | (with_reducible first | exact HB.out | apply below_alloc | apply pw_below_drewN | apply below_drew1 | refine below_set ?_ GE161.out | refine below_set ?_ GE162.out) | exact HB.out)⟩⟩
    · rw [if_neg c11] at H
      have c11b0 : (t164 == 1) = false := beq_eq_false_iff_ne.mpr c11
      have c11b1 : (t164 != 1) = true := bne_iff_ne.mpr c11
      (first | rw [c11b0] | (simp only [i64_w, i32_w]; rw [c11b0]) | skip)
      replace H := Option.bind_eq_some_iff.mp H
      obtain ⟨t165, A120, H⟩ := H
      replace H : (slots_Put.j0 k a1 l2 t163 t164 (!t165) a0_0 l0_1 l0_2) = some (r1, r2, r3, r4, r5) := H
      have A12 := Aside0.mk A120
      clear A120
      have H' := Aside0.mk H
      clear H
      have hnb13 := NB161_162.out
      have hnc13 := NB162_161.out
      have hcz14_0 : w10.cell? ⟨gb161, 0, none⟩ = some (.int .i64 a0_0) := (blk_cell BK161.out 0).trans rfl
      have hcz14_1 : w10.cell? ⟨gb161, 1, none⟩ = some (.slice A0_1 l0_1.length c0_1) := (blk_cell BK161.out 1).trans rfl
      have hcz14_2 : w10.cell? ⟨gb161, 2, none⟩ = some (.slice A0_2 l0_2.length c0_2) := (blk_cell BK161.out 2).trans rfl
      have hfz14_0 := blk_frozen BK161.out 0
      have hfz14_1 := blk_frozen BK161.out 1
      have hfz14_2 := blk_frozen BK161.out 2
      go_wp2_with (first | (go_at_call 93; (with_reducible refine (slots_fits.calls k a0_0 _ _ l0_1 _ _ l0_2 _ _ l2 t165 _ ?side1 ?side2 ?side3 ?side4 ?side5 ?side6 A12.out).mono ?_); (case side1 => repeat (first | exact (Kd.C_below HR0_1.out HB.out) | (with_reducible refine Kd.C_alloc ?_ _) | (with_reducible refine Kd.C_drewN ?_ _) | (with_reducible refine Kd.C_drew ?_))); (case side2 => exact HC0_1.out); (case side3 => repeat (first | exact (Kd.V_reads' HO0_2.out).2.2 | (with_reducible refine Kd.C_alloc ?_ _) | (with_reducible refine Kd.C_drewN ?_ _) | (with_reducible refine Kd.C_drew ?_))); (case side4 => exact (Kd.V_reads' HO0_2.out).2.1); (case side5 => repeat (first | exact (Kd.C_below HR2.out HB.out) | (with_reducible refine Kd.C_alloc ?_ _) | (with_reducible refine Kd.C_drewN ?_ _) | (with_reducible refine Kd.C_drew ?_))); (case side6 => exact HC2.out); rintro e w15 ⟨rfl, hb⟩; have n0_ := Aside0.mk (Kd.V_below (by (with_reducible repeat (first | apply Kd.V_alloc | apply Kd.V_drewN | apply Kd.V_drew)); exact HO0_2.out) hb); have n1_ := Aside0.mk (blk_below (g := gb161) (o := .cells #[.int .i64 a0_0, .slice A0_1 l0_1.length c0_1, .slice A0_2 l0_2.length c0_2] 25 (0, 0)) (by (with_reducible repeat (first | refine blk_drewN ?_ _ | refine blk_drew ?_ | refine blk_alloc ?_ _)); exact BK161.out) hb); have n2_ := Aside0.mk (blk_below (g := gb162) (o := .cells #[.int .i64 0, .slice none 0 0, .slice none 0 0] 25 (0, 0)) (by (with_reducible repeat (first | refine blk_drewN ?_ _ | refine blk_drew ?_ | refine blk_alloc ?_ _)); exact BK162.out) hb); have n3_ := Aside0.mk (below_step (by repeat (first | (with_reducible first | exact HB.out | apply below_alloc | apply pw_below_drewN | apply below_drew1 | refine below_set ?_ GE161.out | refine below_set ?_ GE162.out) | exact HB.out)) hb); clear HO0_2; clear BK161; clear BK162; clear HB; have HO0_2 := n0_; have BK161 := n1_; have BK162 := n2_; have HB := n3_; clear n0_ n1_ n2_ n3_; (try clear hb); (try clear hb2); (try clear hk); (try clear hi)))
      go_meet
      case rel => exact ⟨_, (!t165), (by first | rfl | (simp; done) | (simp [*]; done)), H', ⟨by first | omega | exact Nat.le_refl _⟩, ⟨by (with_reducible repeat (first | apply Kd.V_alloc | apply Kd.V_drewN | apply Kd.V_drew)); exact Kd.V_mono HO0_2.out (fun _ hk => ⟨hk.1.1, ⟨hk.1.2, hk.2⟩⟩)⟩, ⟨by (with_reducible repeat (first | refine blk_drewN ?_ _ | refine blk_drew ?_ | refine blk_alloc ?_ _)); exact BK161.out⟩, ⟨by (with_reducible repeat (first | refine blk_drewN ?_ _ | refine blk_drew ?_ | refine blk_alloc ?_ _)); exact BK162.out⟩, ⟨by repeat (first | (with_reducible first | exact HB.out | apply below_alloc | apply pw_below_drewN | apply below_drew1 | refine below_set ?_ GE161.out | refine below_set ?_ GE162.out) | exact HB.out)⟩⟩
  case rest =>
    clear HC5
    try clear c1
    try clear c2
    try clear p2
    try clear c8
    try clear c11
    try clear c11b0
    try clear c11b1
    try clear c13
    try clear hcz14_0
    try clear hcz14_1
    try clear hcz14_2
    try clear hcz9_0
    try clear hcz9_1
    try clear hcz9_2
    try clear hfz14_0
    try clear hfz14_1
    try clear hfz14_2
    try clear hfz9_0
    try clear hfz9_1
    try clear hfz9_2
    obtain ⟨kq, x17_4, rfl, HA, HJ4, HO_162002, BK161, BK162, HB⟩ := hcut
    cases kq with
    | zero => exact absurd HA.out (by simp [slots_Put.j0])
    | succ kj4 =>
      have H := HA.out
      clear HA
      simp only [slots_Put.j0] at H
      by_cases c16 : x17_4 = true
      · subst c16
        have H1 : (some (0, 0, ([] : List Int), ([] : List (List Int)), 1)) = some (r1, r2, r3, r4, r5) := by rw [if_pos rfl] at H; exact H
        clear H
        have H := H1
        clear H1
        simp only [Option.some.injEq, Prod.mk.injEq] at H
        obtain ⟨rfl, rfl, rfl, rfl, rfl⟩ := H
        have hnb17 := NB162_161.out
        have hnc17 := NB161_162.out
        have hcz18_0 : wc.cell? ⟨gb162, 0, none⟩ = some (.int .i64 0) := (blk_cell BK162.out 0).trans rfl
        have hcz18_1 : wc.cell? ⟨gb162, 1, none⟩ = some (.slice none 0 0) := (blk_cell BK162.out 1).trans rfl
        have hcz18_2 : wc.cell? ⟨gb162, 2, none⟩ = some (.slice none 0 0) := (blk_cell BK162.out 2).trans rfl
        have hfz18_0 := blk_frozen BK162.out 0
        have hfz18_1 := blk_frozen BK162.out 1
        have hfz18_2 := blk_frozen BK162.out 2
        go_wp2
        refine bodyPost_ret (results_list (rs := [.tmp 6, .cell 7 25, .tmp 8]) rfl (by simp) (.tmp (.cell gb162 25 #[.int .i64 0, .slice none 0 0, .slice none 0 0] (0, 0) _ rfl (by (with_reducible repeat (first | refine blk_drewN ?_ _ | refine blk_drew ?_ | refine blk_alloc ?_ _)); refine blk_put (cs := #[.int .i64 0, .slice none 0 0, .slice none 0 0]) ?_ 2 _ rfl; (with_reducible repeat (first | refine blk_drewN ?_ _ | refine blk_drew ?_ | refine blk_alloc ?_ _)); refine blk_put (cs := #[.int .i64 0, .slice none 0 0, .slice none 0 0]) ?_ 1 _ rfl; (with_reducible repeat (first | refine blk_drewN ?_ _ | refine blk_drew ?_ | refine blk_alloc ?_ _)); refine blk_put (cs := #[.int .i64 0, .slice none 0 0, .slice none 0 0]) ?_ 0 _ rfl; (with_reducible repeat (first | refine blk_drewN ?_ _ | refine blk_drew ?_ | refine blk_alloc ?_ _)); exact BK162.out) Try.underlying25 rfl (by kernel_rfl) (.tmp .nil)))) rfl ?_
        exact ⟨_, _, by first | rfl | (simp [errW_none, errW_some] <;> rfl) | (simp [*, errW_none, errW_some] <;> rfl), by first | exact Kd.R_nil _ _ _ _ _ | exact Kd.N_nil _ _ _ _ _ | exact Kd.V_nil _ _ _ _ _ | exact Kd.Q_nil _ _ _ _ _ | exact Kd.S_nil _ _ _ _ _, by first | exact Kd.S_nil _ _ _ _ _ | exact Kd.N_nil _ _ _ _ _ | exact Kd.V_nil _ _ _ _ _ | exact Kd.Q_nil _ _ _ _ _ | exact Kd.R_nil _ _ _ _ _, by repeat (first | (with_reducible first | exact HB.out | apply below_alloc | apply pw_below_drewN | apply below_drew1 | refine below_set ?_ GE161.out | refine below_set ?_ GE162.out) | exact HB.out)⟩
      · replace c16 := Bool.eq_false_iff.mpr c16
        subst c16
        have H1 : (if t164 = 5 then ((slices_Index_int64_int64.f kj4 l0_1 (-1)).bind fun t166 => (if t166 < 0 then (some (0, 0, ([] : List Int), ([] : List (List Int)), 7)) else ((slots_with.f kj4 a0_0 l0_1 l0_2 t166 a1 l2).bind fun bt167 => (some (t166, bt167.1, bt167.2.1, bt167.2.2, 0))))) else ((slots_with.f kj4 a0_0 l0_1 l0_2 t163 a1 l2).bind fun bt174 => (some (t163, bt174.1, bt174.2.1, bt174.2.2, 0)))) = some (r1, r2, r3, r4, r5) := by rw [if_neg (show ¬ (false = true) by decide)] at H; exact H
        clear H
        have H := H1
        clear H1
        by_cases c19 : t164 = 5
        · rw [if_pos c19] at H
          have c19b0 : (t164 == 5) = true := beq_iff_eq.mpr c19
          have c19b1 : (t164 != 5) = false := bne_eq_false_iff_eq.mpr c19
          clear c19
          replace H := Option.bind_eq_some_iff.mp H
          obtain ⟨t166, A200, H⟩ := H
          replace H : (if t166 < 0 then (some (0, 0, ([] : List Int), ([] : List (List Int)), 7)) else ((slots_with.f kj4 a0_0 l0_1 l0_2 t166 a1 l2).bind fun bt167 => (some (t166, bt167.1, bt167.2.1, bt167.2.2, 0)))) = some (r1, r2, r3, r4, r5) := H
          have A20 := Aside0.mk A200
          clear A200
          by_cases c21 : t166 < 0
          · rw [if_pos c21] at H
            have c21b0 : decide (t166 < 0) = true := decide_eq_true c21
            clear c21
            simp only [Option.some.injEq, Prod.mk.injEq] at H
            obtain ⟨rfl, rfl, rfl, rfl, rfl⟩ := H
            have hnb22 := NB161_162.out
            have hnc22 := NB162_161.out
            have hcz23_0 : wc.cell? ⟨gb161, 0, none⟩ = some (.int .i64 a0_0) := (blk_cell BK161.out 0).trans rfl
            have hcz23_1 : wc.cell? ⟨gb161, 1, none⟩ = some (.slice A0_1 l0_1.length c0_1) := (blk_cell BK161.out 1).trans rfl
            have hcz23_2 : wc.cell? ⟨gb161, 2, none⟩ = some (.slice A0_2 l0_2.length c0_2) := (blk_cell BK161.out 2).trans rfl
            have hfz23_0 := blk_frozen BK161.out 0
            have hfz23_1 := blk_frozen BK161.out 1
            have hfz23_2 := blk_frozen BK161.out 2
            go_wp2_with (first | ((with_reducible refine gate_callee (f := 94) rfl ?_); refine goesL_ (some 32) rfl rfl Try.func94 (by kernel_rfl) rfl #[.slice A0_1 l0_1.length c0_1, .int .i64 (-1)] rfl (by (try simp only [List.map_toArray, List.map_cons, List.map_nil]); first | done | rfl | (simp only [List.length_drop, List.length_take]; rfl)) ?_; (with_reducible refine (slices_Index_int64_int64.calls kj4 _ _ l0_1 (-1) t166 _ ?side1 ?side2 A20.out).mono ?_); (case side1 => repeat (first | exact (Kd.C_below HR0_1.out HB.out) | (with_reducible refine Kd.C_alloc ?_ _) | (with_reducible refine Kd.C_drewN ?_ _) | (with_reducible refine Kd.C_drew ?_))); (case side2 => exact HC0_1.out); rintro e w' ⟨rfl, ⟨nd, rfl⟩⟩; refine ⟨_, rfl, ?_⟩; (try (rw [drewN_self wc]; generalize hq_ : World.drewN wc _ = wc; have n0_ : Aside0 (Kd.V (Kd.slice 74 (Kd.int .i16)) 27 wc w.heap.size (fun k_ => (P0_2_ k_ ∨ w.heap.size ≤ k_) ∧ k_ ≠ gb161 ∧ k_ ≠ gb162) (.slice A0_2 l0_2.length c0_2) l0_2) := ⟨by rw [← hq_]; exact (by (with_reducible repeat (first | apply Kd.V_alloc | apply Kd.V_drewN | apply Kd.V_drew)); exact HO_162002.out)⟩; have n1_ : Aside0 (wc.heap[gb161]? = some (.cells #[.int .i64 a0_0, .slice A0_1 l0_1.length c0_1, .slice A0_2 l0_2.length c0_2] 25 (0, 0))) := ⟨by rw [← hq_]; exact (by (with_reducible repeat (first | refine blk_drewN ?_ _ | refine blk_drew ?_ | refine blk_alloc ?_ _)); exact BK161.out)⟩; have n2_ : Aside0 (wc.heap[gb162]? = some (.cells #[.int .i64 0, .slice none 0 0, .slice none 0 0] 25 (0, 0))) := ⟨by rw [← hq_]; exact (by (with_reducible repeat (first | refine blk_drewN ?_ _ | refine blk_drew ?_ | refine blk_alloc ?_ _)); exact BK162.out)⟩; have n3_ : Aside0 (Below w.heap.size w wc) := ⟨by rw [← hq_]; exact (by repeat (first | (with_reducible first | exact HB.out | apply below_alloc | apply pw_below_drewN | apply below_drew1 | refine below_set ?_ GE161.out | refine below_set ?_ GE162.out) | exact HB.out))⟩; clear HO_162002 BK161 BK162 HB hq_; have HO_162002 := n0_; have BK161 := n1_; have BK162 := n2_; have HB := n3_; clear n0_ n1_ n2_ n3_; have hcz23_0 : wc.cell? ⟨gb161, 0, none⟩ = some (.int .i64 a0_0) := (blk_cell BK161.out 0).trans rfl; have hcz23_1 : wc.cell? ⟨gb161, 1, none⟩ = some (.slice A0_1 l0_1.length c0_1) := (blk_cell BK161.out 1).trans rfl; have hcz23_2 : wc.cell? ⟨gb161, 2, none⟩ = some (.slice A0_2 l0_2.length c0_2) := (blk_cell BK161.out 2).trans rfl; have hfz23_0 := blk_frozen BK161.out 0; have hfz23_1 := blk_frozen BK161.out 1; have hfz23_2 := blk_frozen BK161.out 2)); have hcz24_0 : wc.cell? ⟨gb162, 0, none⟩ = some (.int .i64 0) := (blk_cell BK162.out 0).trans rfl; have hcz24_1 : wc.cell? ⟨gb162, 1, none⟩ = some (.slice none 0 0) := (blk_cell BK162.out 1).trans rfl; have hcz24_2 : wc.cell? ⟨gb162, 2, none⟩ = some (.slice none 0 0) := (blk_cell BK162.out 2).trans rfl; have hfz24_0 := blk_frozen BK162.out 0; have hfz24_1 := blk_frozen BK162.out 1; have hfz24_2 := blk_frozen BK162.out 2))
            refine bodyPost_ret (results_list (rs := [.tmp 6, .cell 7 25, .tmp 8]) rfl (by simp) (.tmp (.cell gb162 25 #[.int .i64 0, .slice none 0 0, .slice none 0 0] (0, 0) _ rfl (by (with_reducible repeat (first | refine blk_drewN ?_ _ | refine blk_drew ?_ | refine blk_alloc ?_ _)); refine blk_put (cs := #[.int .i64 0, .slice none 0 0, .slice none 0 0]) ?_ 2 _ rfl; (with_reducible repeat (first | refine blk_drewN ?_ _ | refine blk_drew ?_ | refine blk_alloc ?_ _)); refine blk_put (cs := #[.int .i64 0, .slice none 0 0, .slice none 0 0]) ?_ 1 _ rfl; (with_reducible repeat (first | refine blk_drewN ?_ _ | refine blk_drew ?_ | refine blk_alloc ?_ _)); refine blk_put (cs := #[.int .i64 0, .slice none 0 0, .slice none 0 0]) ?_ 0 _ rfl; (with_reducible repeat (first | refine blk_drewN ?_ _ | refine blk_drew ?_ | refine blk_alloc ?_ _)); exact BK162.out) Try.underlying25 rfl (by kernel_rfl) (.tmp .nil)))) rfl ?_
            exact ⟨_, _, by first | rfl | (simp [errW_none, errW_some] <;> rfl) | (simp [*, errW_none, errW_some] <;> rfl), by first | exact Kd.R_nil _ _ _ _ _ | exact Kd.N_nil _ _ _ _ _ | exact Kd.V_nil _ _ _ _ _ | exact Kd.Q_nil _ _ _ _ _ | exact Kd.S_nil _ _ _ _ _, by first | exact Kd.S_nil _ _ _ _ _ | exact Kd.N_nil _ _ _ _ _ | exact Kd.V_nil _ _ _ _ _ | exact Kd.Q_nil _ _ _ _ _ | exact Kd.R_nil _ _ _ _ _, by repeat (first | (with_reducible first | exact HB.out | apply below_alloc | apply pw_below_drewN | apply below_drew1 | refine below_set ?_ GE161.out | refine below_set ?_ GE162.out) | exact HB.out)⟩
          · rw [if_neg c21] at H
            have c21b0 : decide (t166 < 0) = false := decide_eq_false c21
            clear c21
            replace H := Option.bind_eq_some_iff.mp H
            obtain ⟨⟨t167, t168, t171⟩, A250, H⟩ := H
            replace H : (some (t166, t167, t168, t171, 0)) = some (r1, r2, r3, r4, r5) := H
            have A25 := Aside0.mk A250
            clear A250
            simp only [Option.some.injEq, Prod.mk.injEq] at H
            obtain ⟨rfl, rfl, rfl, rfl, rfl⟩ := H
            have hnb26 := NB161_162.out
            have hnc26 := NB162_161.out
            have hcz27_0 : wc.cell? ⟨gb161, 0, none⟩ = some (.int .i64 a0_0) := (blk_cell BK161.out 0).trans rfl
            have hcz27_1 : wc.cell? ⟨gb161, 1, none⟩ = some (.slice A0_1 l0_1.length c0_1) := (blk_cell BK161.out 1).trans rfl
            have hcz27_2 : wc.cell? ⟨gb161, 2, none⟩ = some (.slice A0_2 l0_2.length c0_2) := (blk_cell BK161.out 2).trans rfl
            have hfz27_0 := blk_frozen BK161.out 0
            have hfz27_1 := blk_frozen BK161.out 1
            have hfz27_2 := blk_frozen BK161.out 2
            go_wp2_with (first | ((with_reducible refine gate_callee (f := 94) rfl ?_); refine goesL_ (some 32) rfl rfl Try.func94 (by kernel_rfl) rfl #[.slice A0_1 l0_1.length c0_1, .int .i64 (-1)] rfl (by (try simp only [List.map_toArray, List.map_cons, List.map_nil]); first | done | rfl | (simp only [List.length_drop, List.length_take]; rfl)) ?_; (with_reducible refine (slices_Index_int64_int64.calls kj4 _ _ l0_1 (-1) t166 _ ?side1 ?side2 A20.out).mono ?_); (case side1 => repeat (first | exact (Kd.C_below HR0_1.out HB.out) | (with_reducible refine Kd.C_alloc ?_ _) | (with_reducible refine Kd.C_drewN ?_ _) | (with_reducible refine Kd.C_drew ?_))); (case side2 => exact HC0_1.out); rintro e w' ⟨rfl, ⟨nd, rfl⟩⟩; refine ⟨_, rfl, ?_⟩; (try (rw [drewN_self wc]; generalize hq_ : World.drewN wc _ = wc; have n0_ : Aside0 (Kd.V (Kd.slice 74 (Kd.int .i16)) 27 wc w.heap.size (fun k_ => (P0_2_ k_ ∨ w.heap.size ≤ k_) ∧ k_ ≠ gb161 ∧ k_ ≠ gb162) (.slice A0_2 l0_2.length c0_2) l0_2) := ⟨by rw [← hq_]; exact (by (with_reducible repeat (first | apply Kd.V_alloc | apply Kd.V_drewN | apply Kd.V_drew)); exact HO_162002.out)⟩; have n1_ : Aside0 (wc.heap[gb161]? = some (.cells #[.int .i64 a0_0, .slice A0_1 l0_1.length c0_1, .slice A0_2 l0_2.length c0_2] 25 (0, 0))) := ⟨by rw [← hq_]; exact (by (with_reducible repeat (first | refine blk_drewN ?_ _ | refine blk_drew ?_ | refine blk_alloc ?_ _)); exact BK161.out)⟩; have n2_ : Aside0 (wc.heap[gb162]? = some (.cells #[.int .i64 0, .slice none 0 0, .slice none 0 0] 25 (0, 0))) := ⟨by rw [← hq_]; exact (by (with_reducible repeat (first | refine blk_drewN ?_ _ | refine blk_drew ?_ | refine blk_alloc ?_ _)); exact BK162.out)⟩; have n3_ : Aside0 (Below w.heap.size w wc) := ⟨by rw [← hq_]; exact (by repeat (first | (with_reducible first | exact HB.out | apply below_alloc | apply pw_below_drewN | apply below_drew1 | refine below_set ?_ GE161.out | refine below_set ?_ GE162.out) | exact HB.out))⟩; clear HO_162002 BK161 BK162 HB hq_; have HO_162002 := n0_; have BK161 := n1_; have BK162 := n2_; have HB := n3_; clear n0_ n1_ n2_ n3_; have hcz27_0 : wc.cell? ⟨gb161, 0, none⟩ = some (.int .i64 a0_0) := (blk_cell BK161.out 0).trans rfl; have hcz27_1 : wc.cell? ⟨gb161, 1, none⟩ = some (.slice A0_1 l0_1.length c0_1) := (blk_cell BK161.out 1).trans rfl; have hcz27_2 : wc.cell? ⟨gb161, 2, none⟩ = some (.slice A0_2 l0_2.length c0_2) := (blk_cell BK161.out 2).trans rfl; have hfz27_0 := blk_frozen BK161.out 0; have hfz27_1 := blk_frozen BK161.out 1; have hfz27_2 := blk_frozen BK161.out 2))) | ((with_reducible refine gate_callee (f := 95) rfl ?_); refine goesL_ (some 41) rfl rfl Try.func95 (by kernel_rfl) rfl #[.agg #[.int .i64 a0_0, .slice A0_1 l0_1.length c0_1, .slice A0_2 l0_2.length c0_2], .int .i64 t166, .int .i64 a1, .slice A2 l2.length c2] rfl (by (try simp only [List.map_toArray, List.map_cons, List.map_nil]); first | done | rfl | (simp only [List.length_drop, List.length_take]; rfl)) ?_; (with_reducible refine (slots_with.calls kj4 a0_0 _ _ l0_1 (fun k_ => ((P0_2_ k_ ∨ w.heap.size ≤ k_) ∧ (k_ ≠ gb161 ∧ k_ ≠ gb162))) _ _ l0_2 t166 a1 _ _ l2 t167 t168 t171 _ ?side1 ?side2 ?side3 ?side4 ?side5 A25.out).mono ?_); (case side1 => repeat (first | exact (Kd.C_below HR0_1.out HB.out) | (with_reducible refine Kd.C_alloc ?_ _) | (with_reducible refine Kd.C_drewN ?_ _) | (with_reducible refine Kd.C_drew ?_))); (case side2 => exact HC0_1.out); (case side3 => exact HO_162002.out); (case side4 => repeat (first | exact (Kd.C_below HR2.out HB.out) | (with_reducible refine Kd.C_alloc ?_ _) | (with_reducible refine Kd.C_drewN ?_ _) | (with_reducible refine Kd.C_drew ?_))); (case side5 => exact HC2.out); rintro e w28 ⟨v169, v172, rfl, ho0, ho1, hb⟩; refine ⟨_, rfl, ?_⟩; have n0_ := Aside0.mk (Kd.V_mono (Kd.V_told (Kd.V_told (Kd.V_old (by (with_reducible repeat (first | apply Kd.V_alloc | apply Kd.V_drewN | apply Kd.V_drew)); exact HO_162002.out) hb) (Kd.R_base ho0)) (Kd.N_base ho1)) (fun _ h_ => h_.1)); have n1_ := Aside0.mk (Kd.R_lower (Kd.R_newM (M := fun k_ => (w.heap.size ≤ k_)) (Kd.R_mono (ok' := fun k_ => True) ho0 (fun _ hk_ => trivial)) (below_size (by repeat (first | (with_reducible first | exact HB.out | apply below_alloc | apply pw_below_drewN | apply below_drew1 | refine below_set ?_ GE161.out | refine below_set ?_ GE162.out) | exact HB.out))) (fun k_ h_ => h_)) (below_size (by repeat (first | (with_reducible first | exact HB.out | apply below_alloc | apply pw_below_drewN | apply below_drew1 | refine below_set ?_ GE161.out | refine below_set ?_ GE162.out) | exact HB.out)))); have n2_ := Aside0.mk (Kd.N_lower (Kd.N_mono (ok' := fun k_ => (P0_2_ k_ ∨ w.heap.size ≤ k_) ∧ some k_ ≠ (v169 : Value).ownBlock ∧ k_ ≠ gb161 ∧ k_ ≠ gb162) ho1 (fun k_ hk_ => ⟨Or.elim hk_.1 (fun hs_ => hs_.1) (fun hn_ => (.inr (Nat.le_trans (below_size (by repeat (first | (with_reducible first | exact HB.out | apply below_alloc | apply pw_below_drewN | apply below_drew1 | refine below_set ?_ GE161.out | refine below_set ?_ GE162.out) | exact HB.out))) hn_))), hk_.2, Or.elim hk_.1 (fun hs_ => hs_.2.1) (fun hn_ => (Kd.freshB (g := gb161) (o := .cells #[.int .i64 a0_0, .slice A0_1 l0_1.length c0_1, .slice A0_2 l0_2.length c0_2] 25 (0, 0)) (by (with_reducible repeat (first | refine blk_drewN ?_ _ | refine blk_drew ?_ | refine blk_alloc ?_ _)); exact BK161.out) k_ hn_)), Or.elim hk_.1 (fun hs_ => hs_.2.2) (fun hn_ => (Kd.freshB (g := gb162) (o := .cells #[.int .i64 0, .slice none 0 0, .slice none 0 0] 25 (0, 0)) (by (with_reducible repeat (first | refine blk_drewN ?_ _ | refine blk_drew ?_ | refine blk_alloc ?_ _)); exact BK162.out) k_ hn_))⟩)) (below_size (by repeat (first | (with_reducible first | exact HB.out | apply below_alloc | apply pw_below_drewN | apply below_drew1 | refine below_set ?_ GE161.out | refine below_set ?_ GE162.out) | exact HB.out)))); have n3_ := Aside0.mk (blk_below (g := gb161) (o := .cells #[.int .i64 a0_0, .slice A0_1 l0_1.length c0_1, .slice A0_2 l0_2.length c0_2] 25 (0, 0)) (by (with_reducible repeat (first | refine blk_drewN ?_ _ | refine blk_drew ?_ | refine blk_alloc ?_ _)); exact BK161.out) hb); have n4_ := Aside0.mk (blk_below (g := gb162) (o := .cells #[.int .i64 0, .slice none 0 0, .slice none 0 0] 25 (0, 0)) (by (with_reducible repeat (first | refine blk_drewN ?_ _ | refine blk_drew ?_ | refine blk_alloc ?_ _)); exact BK162.out) hb); have n5_ := Aside0.mk (below_step (by repeat (first | (with_reducible first | exact HB.out | apply below_alloc | apply pw_below_drewN | apply below_drew1 | refine below_set ?_ GE161.out | refine below_set ?_ GE162.out) | exact HB.out)) hb); clear HO_162002; clear BK161; clear BK162; clear HB; have HO_162002 := n0_; have HO170 := n1_; have HO173 := n2_; have BK161 := n3_; have BK162 := n4_; have HB := n5_; clear n0_ n1_ n2_ n3_ n4_ n5_; (try clear hb); (try clear hb2); (try clear hk); (try clear hi); (try clear ho0); (try clear ho1); have hcz29_0 : w28.cell? ⟨gb162, 0, none⟩ = some (.int .i64 0) := (blk_cell BK162.out 0).trans rfl; have hcz29_1 : w28.cell? ⟨gb162, 1, none⟩ = some (.slice none 0 0) := (blk_cell BK162.out 1).trans rfl; have hcz29_2 : w28.cell? ⟨gb162, 2, none⟩ = some (.slice none 0 0) := (blk_cell BK162.out 2).trans rfl; have hfz29_0 := blk_frozen BK162.out 0; have hfz29_1 := blk_frozen BK162.out 1; have hfz29_2 := blk_frozen BK162.out 2; obtain ⟨Ao30, co30, eo30⟩ := Kd.R_slice HO170.out; subst eo30; obtain ⟨Ao31, co31, eo31⟩ := Kd.N_slice HO173.out; subst eo31))
            refine bodyPost_ret (results_list (rs := [.tmp 6, .cell 7 25, .tmp 8]) rfl (by simp) (.tmp (.cell gb162 25 #[.int .i64 t167, .slice Ao30 t168.length co30, .slice Ao31 t171.length co31] (0, 0) _ rfl (by (with_reducible repeat (first | refine blk_drewN ?_ _ | refine blk_drew ?_ | refine blk_alloc ?_ _)); refine blk_put (cs := #[.int .i64 t167, .slice Ao30 t168.length co30, .slice none 0 0]) ?_ 2 _ rfl; (with_reducible repeat (first | refine blk_drewN ?_ _ | refine blk_drew ?_ | refine blk_alloc ?_ _)); refine blk_put (cs := #[.int .i64 t167, .slice none 0 0, .slice none 0 0]) ?_ 1 _ rfl; (with_reducible repeat (first | refine blk_drewN ?_ _ | refine blk_drew ?_ | refine blk_alloc ?_ _)); refine blk_put (cs := #[.int .i64 0, .slice none 0 0, .slice none 0 0]) ?_ 0 _ rfl; (with_reducible repeat (first | refine blk_drewN ?_ _ | refine blk_drew ?_ | refine blk_alloc ?_ _)); exact BK162.out) Try.underlying25 rfl (by kernel_rfl) (.tmp .nil)))) rfl ?_
            exact ⟨_, _, by first | rfl | (simp [errW_none, errW_some] <;> rfl) | (simp [*, errW_none, errW_some] <;> rfl), by (with_reducible repeat (first | apply Kd.R_alloc | apply Kd.R_drewN | apply Kd.R_drew)); exact Kd.R_mono (Kd.R_far (p := ⟨gb162, 2, none⟩) (Kd.R_far (p := ⟨gb162, 1, none⟩) (Kd.R_far (p := ⟨gb162, 0, none⟩) (Kd.R_types HO170.out BK162.out (by decide)) (fun _ hk => hk.2) (.int .i64 t167)) (fun _ hk => hk.2) (.slice Ao30 t168.length co30)) (fun _ hk => hk.2) (.slice Ao31 t171.length co31)) (fun _ hk => hk.1.1), by (with_reducible repeat (first | apply Kd.N_alloc | apply Kd.N_drewN | apply Kd.N_drew)); exact Kd.N_mono (Kd.N_far (p := ⟨gb162, 2, none⟩) (Kd.N_far (p := ⟨gb162, 1, none⟩) (Kd.N_far (p := ⟨gb162, 0, none⟩) (Kd.N_mono HO173.out (fun k_ hk => (⟨hk, hk.2.2.2⟩ : _ ∧ k_ ≠ gb162))) (fun _ hk => hk.2) (.int .i64 t167)) (fun _ hk => hk.2) (.slice Ao30 t168.length co30)) (fun _ hk => hk.2) (.slice Ao31 t171.length co31)) (fun _ hk => ⟨hk.1.1, hk.1.2.1⟩), by repeat (first | (with_reducible first | exact HB.out | apply below_alloc | apply pw_below_drewN | apply below_drew1 | refine below_set ?_ GE161.out | refine below_set ?_ GE162.out) | exact HB.out)⟩
        · rw [if_neg c19] at H
          have c19b0 : (t164 == 5) = false := beq_eq_false_iff_ne.mpr c19
          have c19b1 : (t164 != 5) = true := bne_iff_ne.mpr c19
          replace H := Option.bind_eq_some_iff.mp H
          obtain ⟨⟨t174, t175, t178⟩, A320, H⟩ := H
          replace H : (some (t163, t174, t175, t178, 0)) = some (r1, r2, r3, r4, r5) := H
          have A32 := Aside0.mk A320
          clear A320
          simp only [Option.some.injEq, Prod.mk.injEq] at H
          obtain ⟨rfl, rfl, rfl, rfl, rfl⟩ := H
          have hnb33 := NB161_162.out
          have hnc33 := NB162_161.out
          have hcz34_0 : wc.cell? ⟨gb161, 0, none⟩ = some (.int .i64 a0_0) := (blk_cell BK161.out 0).trans rfl
          have hcz34_1 : wc.cell? ⟨gb161, 1, none⟩ = some (.slice A0_1 l0_1.length c0_1) := (blk_cell BK161.out 1).trans rfl
          have hcz34_2 : wc.cell? ⟨gb161, 2, none⟩ = some (.slice A0_2 l0_2.length c0_2) := (blk_cell BK161.out 2).trans rfl
          have hfz34_0 := blk_frozen BK161.out 0
          have hfz34_1 := blk_frozen BK161.out 1
          have hfz34_2 := blk_frozen BK161.out 2
          go_wp2_with (first | ((with_reducible refine gate_callee (f := 95) rfl ?_); refine goesL_ (some 41) rfl rfl Try.func95 (by kernel_rfl) rfl #[.agg #[.int .i64 a0_0, .slice A0_1 l0_1.length c0_1, .slice A0_2 l0_2.length c0_2], .int .i64 t163, .int .i64 a1, .slice A2 l2.length c2] rfl (by (try simp only [List.map_toArray, List.map_cons, List.map_nil]); first | done | rfl | (simp only [List.length_drop, List.length_take]; rfl)) ?_; (with_reducible refine (slots_with.calls kj4 a0_0 _ _ l0_1 (fun k_ => ((P0_2_ k_ ∨ w.heap.size ≤ k_) ∧ (k_ ≠ gb161 ∧ k_ ≠ gb162))) _ _ l0_2 t163 a1 _ _ l2 t174 t175 t178 _ ?side1 ?side2 ?side3 ?side4 ?side5 A32.out).mono ?_); (case side1 => repeat (first | exact (Kd.C_below HR0_1.out HB.out) | (with_reducible refine Kd.C_alloc ?_ _) | (with_reducible refine Kd.C_drewN ?_ _) | (with_reducible refine Kd.C_drew ?_))); (case side2 => exact HC0_1.out); (case side3 => exact HO_162002.out); (case side4 => repeat (first | exact (Kd.C_below HR2.out HB.out) | (with_reducible refine Kd.C_alloc ?_ _) | (with_reducible refine Kd.C_drewN ?_ _) | (with_reducible refine Kd.C_drew ?_))); (case side5 => exact HC2.out); rintro e w35 ⟨v176, v179, rfl, ho0, ho1, hb⟩; refine ⟨_, rfl, ?_⟩; have n0_ := Aside0.mk (Kd.V_mono (Kd.V_told (Kd.V_told (Kd.V_old (by (with_reducible repeat (first | apply Kd.V_alloc | apply Kd.V_drewN | apply Kd.V_drew)); exact HO_162002.out) hb) (Kd.R_base ho0)) (Kd.N_base ho1)) (fun _ h_ => h_.1)); have n1_ := Aside0.mk (Kd.R_lower (Kd.R_newM (M := fun k_ => (w.heap.size ≤ k_)) (Kd.R_mono (ok' := fun k_ => True) ho0 (fun _ hk_ => trivial)) (below_size (by repeat (first | (with_reducible first | exact HB.out | apply below_alloc | apply pw_below_drewN | apply below_drew1 | refine below_set ?_ GE161.out | refine below_set ?_ GE162.out) | exact HB.out))) (fun k_ h_ => h_)) (below_size (by repeat (first | (with_reducible first | exact HB.out | apply below_alloc | apply pw_below_drewN | apply below_drew1 | refine below_set ?_ GE161.out | refine below_set ?_ GE162.out) | exact HB.out)))); have n2_ := Aside0.mk (Kd.N_lower (Kd.N_mono (ok' := fun k_ => (P0_2_ k_ ∨ w.heap.size ≤ k_) ∧ some k_ ≠ (v176 : Value).ownBlock ∧ k_ ≠ gb161 ∧ k_ ≠ gb162) ho1 (fun k_ hk_ => ⟨Or.elim hk_.1 (fun hs_ => hs_.1) (fun hn_ => (.inr (Nat.le_trans (below_size (by repeat (first | (with_reducible first | exact HB.out | apply below_alloc | apply pw_below_drewN | apply below_drew1 | refine below_set ?_ GE161.out | refine below_set ?_ GE162.out) | exact HB.out))) hn_))), hk_.2, Or.elim hk_.1 (fun hs_ => hs_.2.1) (fun hn_ => (Kd.freshB (g := gb161) (o := .cells #[.int .i64 a0_0, .slice A0_1 l0_1.length c0_1, .slice A0_2 l0_2.length c0_2] 25 (0, 0)) (by (with_reducible repeat (first | refine blk_drewN ?_ _ | refine blk_drew ?_ | refine blk_alloc ?_ _)); exact BK161.out) k_ hn_)), Or.elim hk_.1 (fun hs_ => hs_.2.2) (fun hn_ => (Kd.freshB (g := gb162) (o := .cells #[.int .i64 0, .slice none 0 0, .slice none 0 0] 25 (0, 0)) (by (with_reducible repeat (first | refine blk_drewN ?_ _ | refine blk_drew ?_ | refine blk_alloc ?_ _)); exact BK162.out) k_ hn_))⟩)) (below_size (by repeat (first | (with_reducible first | exact HB.out | apply below_alloc | apply pw_below_drewN | apply below_drew1 | refine below_set ?_ GE161.out | refine below_set ?_ GE162.out) | exact HB.out)))); have n3_ := Aside0.mk (blk_below (g := gb161) (o := .cells #[.int .i64 a0_0, .slice A0_1 l0_1.length c0_1, .slice A0_2 l0_2.length c0_2] 25 (0, 0)) (by (with_reducible repeat (first | refine blk_drewN ?_ _ | refine blk_drew ?_ | refine blk_alloc ?_ _)); exact BK161.out) hb); have n4_ := Aside0.mk (blk_below (g := gb162) (o := .cells #[.int .i64 0, .slice none 0 0, .slice none 0 0] 25 (0, 0)) (by (with_reducible repeat (first | refine blk_drewN ?_ _ | refine blk_drew ?_ | refine blk_alloc ?_ _)); exact BK162.out) hb); have n5_ := Aside0.mk (below_step (by repeat (first | (with_reducible first | exact HB.out | apply below_alloc | apply pw_below_drewN | apply below_drew1 | refine below_set ?_ GE161.out | refine below_set ?_ GE162.out) | exact HB.out)) hb); clear HO_162002; clear BK161; clear BK162; clear HB; have HO_162002 := n0_; have HO177 := n1_; have HO180 := n2_; have BK161 := n3_; have BK162 := n4_; have HB := n5_; clear n0_ n1_ n2_ n3_ n4_ n5_; (try clear hb); (try clear hb2); (try clear hk); (try clear hi); (try clear ho0); (try clear ho1); have hcz36_0 : w35.cell? ⟨gb162, 0, none⟩ = some (.int .i64 0) := (blk_cell BK162.out 0).trans rfl; have hcz36_1 : w35.cell? ⟨gb162, 1, none⟩ = some (.slice none 0 0) := (blk_cell BK162.out 1).trans rfl; have hcz36_2 : w35.cell? ⟨gb162, 2, none⟩ = some (.slice none 0 0) := (blk_cell BK162.out 2).trans rfl; have hfz36_0 := blk_frozen BK162.out 0; have hfz36_1 := blk_frozen BK162.out 1; have hfz36_2 := blk_frozen BK162.out 2; obtain ⟨Ao37, co37, eo37⟩ := Kd.R_slice HO177.out; subst eo37; obtain ⟨Ao38, co38, eo38⟩ := Kd.N_slice HO180.out; subst eo38))
          refine bodyPost_ret (results_list (rs := [.tmp 6, .cell 7 25, .tmp 8]) rfl (by simp) (.tmp (.cell gb162 25 #[.int .i64 t174, .slice Ao37 t175.length co37, .slice Ao38 t178.length co38] (0, 0) _ rfl (by (with_reducible repeat (first | refine blk_drewN ?_ _ | refine blk_drew ?_ | refine blk_alloc ?_ _)); refine blk_put (cs := #[.int .i64 t174, .slice Ao37 t175.length co37, .slice none 0 0]) ?_ 2 _ rfl; (with_reducible repeat (first | refine blk_drewN ?_ _ | refine blk_drew ?_ | refine blk_alloc ?_ _)); refine blk_put (cs := #[.int .i64 t174, .slice none 0 0, .slice none 0 0]) ?_ 1 _ rfl; (with_reducible repeat (first | refine blk_drewN ?_ _ | refine blk_drew ?_ | refine blk_alloc ?_ _)); refine blk_put (cs := #[.int .i64 0, .slice none 0 0, .slice none 0 0]) ?_ 0 _ rfl; (with_reducible repeat (first | refine blk_drewN ?_ _ | refine blk_drew ?_ | refine blk_alloc ?_ _)); exact BK162.out) Try.underlying25 rfl (by kernel_rfl) (.tmp .nil)))) rfl ?_
          exact ⟨_, _, by first | rfl | (simp [errW_none, errW_some] <;> rfl) | (simp [*, errW_none, errW_some] <;> rfl), by (with_reducible repeat (first | apply Kd.R_alloc | apply Kd.R_drewN | apply Kd.R_drew)); exact Kd.R_mono (Kd.R_far (p := ⟨gb162, 2, none⟩) (Kd.R_far (p := ⟨gb162, 1, none⟩) (Kd.R_far (p := ⟨gb162, 0, none⟩) (Kd.R_types HO177.out BK162.out (by decide)) (fun _ hk => hk.2) (.int .i64 t174)) (fun _ hk => hk.2) (.slice Ao37 t175.length co37)) (fun _ hk => hk.2) (.slice Ao38 t178.length co38)) (fun _ hk => hk.1.1), by (with_reducible repeat (first | apply Kd.N_alloc | apply Kd.N_drewN | apply Kd.N_drew)); exact Kd.N_mono (Kd.N_far (p := ⟨gb162, 2, none⟩) (Kd.N_far (p := ⟨gb162, 1, none⟩) (Kd.N_far (p := ⟨gb162, 0, none⟩) (Kd.N_mono HO180.out (fun k_ hk => (⟨hk, hk.2.2.2⟩ : _ ∧ k_ ≠ gb162))) (fun _ hk => hk.2) (.int .i64 t174)) (fun _ hk => hk.2) (.slice Ao37 t175.length co37)) (fun _ hk => hk.2) (.slice Ao38 t178.length co38)) (fun _ hk => ⟨hk.1.1, hk.1.2.1⟩), by repeat (first | (with_reducible first | exact HB.out | apply below_alloc | apply pw_below_drewN | apply below_drew1 | refine below_set ?_ GE161.out | refine below_set ?_ GE162.out) | exact HB.out)⟩

end Go.Proofs.Ytkjibgfgbfacdaa.P
end
/-! part: F34 -/
section
set_option linter.unusedVariables false
set_option linter.unusedSimpArgs false
namespace Go.Proofs.Ytkjibgfgbfacdaa.P
open Go.RowKit Go.Proofs.YtkjibgfgbfacdaaW.PrintWords Go.Proofs.YtkjibgfgbfacdaaW.PrintLast Go.Proofs.YtkjibgfgbfacdaaW.PrintMore
attribute [local go_sem] max2_int min2_int max_two min_two max_three min_three max_four min_four   -- for this text's walks alone
set_option linter.unusedVariables false
set_option linter.unusedSimpArgs false

/-! ### slots_Del: function 34 -/
def slots_Del.f (k : Nat) (a0_0 : Int) (l0_1 : List Int) (l0_2 : List (List Int)) (a1 : Int) : Option (Int × Int × List Int × (List (List Int)) × Int) := (h_slots_Find.f a0_0 l0_1 l0_2 a1).bind fun bt183 => (if bt183.2 = 0 then ((slots_with.f k a0_0 l0_1 l0_2 bt183.1 (-1) ([] : List Int)).bind fun bt185 => (some (bt183.1, bt185.1, bt185.2.1, bt185.2.2, 0))) else (some (0, 0, ([] : List Int), ([] : List (List Int)), bt183.2)))
theorem slots_Del.mono : ∀ a0 a1 a2 a3 k, LeO (slots_Del.f k a0 a1 a2 a3) (slots_Del.f (k + 1) a0 a1 a2 a3) := by
  intro a0 a1 a2 a3 k
  unfold slots_Del.f
  repeat' first
      | (with_reducible exact slots_with.mono _ _ _ _ _ _ _)
      | (with_reducible exact LeO.refl _)
      | (with_reducible exact LeO.none _)
      | (with_reducible refine LeO.ite ?_ ?_)
      | (with_reducible refine LeO.bind ?_ (fun _ => ?_))
      | exact slots_with.mono _ _ _ _ _ _ _
      | exact LeO.none _
      | refine LeO.ite ?_ ?_
      | refine LeO.bind ?_ (fun _ => ?_)
set_option maxHeartbeats 8000000 in
set_option maxRecDepth 100000 in
theorem slots_Del.calls (k : Nat) (a0_0 : Int) (A0_1 : Option Addr) (c0_1 : Nat) (l0_1 : List Int) (P0_2_ : Nat → Prop) (A0_2 : Option Addr) (c0_2 : Nat) (l0_2 : List (List Int)) (a1 : Int) (r1 : Int) (r2 : Int) (r3 : List Int) (r4 : List (List Int)) (r5 : Int) (w : World) (hr0_1 : Kd.C (Kd.int .i64) w A0_1 l0_1.length l0_1) (hc0_1 : l0_1.length ≤ c0_1) (hs0_2 : Kd.V (Kd.slice 74 (Kd.int .i16)) 27 w w.heap.size (fun k_ => P0_2_ k_) (.slice A0_2 l0_2.length c0_2) l0_2) (h : slots_Del.f k a0_0 l0_1 l0_2 a1 = some (r1, r2, r3, r4, r5)) :
    Calls Try.prog 34 #[.agg #[.int .i64 a0_0, .slice A0_1 l0_1.length c0_1, .slice A0_2 l0_2.length c0_2], .int .i64 a1] w fun e w' => ∃ v2_ v3_ : Value, e = .returned (.tuple #[.int .i64 r1, .agg #[.int .i64 r2, v2_, v3_], .int .i64 r5]) ∧ Kd.R (Kd.int .i64) 2 w' w.heap.size (fun k_ => (w.heap.size ≤ k_)) v2_ r3 ∧ Kd.N (Kd.slice 74 (Kd.int .i16)) 27 w' w.heap.size (fun k_ => (P0_2_ k_ ∨ w.heap.size ≤ k_) ∧ some k_ ≠ (v2_ : Value).ownBlock) v3_ r4 ∧ Below w.heap.size w w' := by
  have hu25 := Try.underlying25
  have HR0_1 := Aside0.mk hr0_1
  have HC0_1 := Aside0.mk hc0_1
  clear hr0_1 hc0_1
  have HO0_2 := Aside0.mk (show Kd.V (Kd.slice 74 (Kd.int .i16)) 27 w w.heap.size (fun k_ => (P0_2_ k_ ∨ w.heap.size ≤ k_)) (.slice A0_2 l0_2.length c0_2) l0_2 from Kd.V_mono hs0_2 (fun k_ hk => .inl hk))
  have HB := Aside0.mk (Below.refl w.heap.size w)
  have H : ((h_slots_Find.f a0_0 l0_1 l0_2 a1).bind fun bt183 => (if bt183.2 = 0 then ((slots_with.f k a0_0 l0_1 l0_2 bt183.1 (-1) ([] : List Int)).bind fun bt185 => (some (bt183.1, bt185.1, bt185.2.1, bt185.2.2, 0))) else (some (0, 0, ([] : List Int), ([] : List (List Int)), bt183.2)))) = some (r1, r2, r3, r4, r5) := h
  clear h
  replace H := Option.bind_eq_some_iff.mp H
  obtain ⟨⟨t183, t184⟩, A30, H⟩ := H
  replace H : (if t184 = 0 then ((slots_with.f k a0_0 l0_1 l0_2 t183 (-1) ([] : List Int)).bind fun bt185 => (some (t183, bt185.1, bt185.2.1, bt185.2.2, 0))) else (some (0, 0, ([] : List Int), ([] : List (List Int)), t184))) = some (r1, r2, r3, r4, r5) := H
  have A3 := Aside0.mk A30
  clear A30
  by_cases c4 : t184 = 0
  · rw [if_pos c4] at H
    have c4b0 : (t184 == 0) = true := beq_iff_eq.mpr c4
    have c4b1 : (t184 != 0) = false := bne_eq_false_iff_eq.mpr c4
    clear c4
    replace H := Option.bind_eq_some_iff.mp H
    obtain ⟨⟨t185, t186, t189⟩, A50, H⟩ := H
    replace H : (some (t183, t185, t186, t189, 0)) = some (r1, r2, r3, r4, r5) := H
    have A5 := Aside0.mk A50
    clear A50
    simp only [Option.some.injEq, Prod.mk.injEq] at H
    obtain ⟨rfl, rfl, rfl, rfl, rfl⟩ := H
    go_enter Try.func34, Try.ntmps34
    go_wp2_with (first | ((with_reducible refine gate_dst (N := 2) rfl ?_); refine box_event ?hg (N := 2) ?hd (cs := #[.int .i64 a0_0, .slice A0_1 l0_1.length c0_1, .slice A0_2 l0_2.length c0_2]) (t := 25) ?hr ?_; (case hd => rfl); (case hg => rfl); (case hr => first | (go_simp; done) | (go_simp; rfl)); intro gb181 hg w6 hbox hb; have n0_ := Aside0.mk (Kd.V_below (Kd.V_elderB (by (with_reducible repeat (first | apply Kd.V_alloc | apply Kd.V_drewN | apply Kd.V_drew)); exact HO0_2.out) gb181 (Nat.le_of_eq hg.symm)) hb); have n1_ := Aside0.mk (below_step (by repeat (first | (with_reducible first | exact HB.out | apply below_alloc | apply pw_below_drewN | apply below_drew1) | exact HB.out)) hb); have n2_ := Aside0.mk (hbox); have n3_ := Aside0.mk ((by rw [hg]; exact (below_size (by repeat (first | (with_reducible first | exact HB.out | apply below_alloc | apply pw_below_drewN | apply below_drew1) | exact HB.out))) : w.heap.size ≤ gb181)); have n4_ := Aside0.mk ((by rw [hg]; exact (below_size (by repeat (first | (with_reducible first | exact HB.out | apply below_alloc | apply pw_below_drewN | apply below_drew1) | exact HB.out))) : w.heap.size ≤ gb181)); clear HO0_2; clear HB; have HO0_2 := n0_; have HB := n1_; have BK181 := n2_; have GW181 := n3_; have GE181 := n4_; clear n0_ n1_ n2_ n3_ n4_; clear hb hbox hg) | ((with_reducible refine gate_dst (N := 5) rfl ?_); refine box_event ?hg (N := 5) ?hd (cs := #[.int .i64 0, .slice none 0 0, .slice none 0 0]) (t := 25) ?hr ?_; (case hd => rfl); (case hg => rfl); (case hr => first | (go_simp; done) | (go_simp; rfl)); intro gb182 hg w7 hbox hb; have n0_ := Aside0.mk (Kd.V_below (Kd.V_elderB (by (with_reducible repeat (first | apply Kd.V_alloc | apply Kd.V_drewN | apply Kd.V_drew)); exact HO0_2.out) gb182 (Nat.le_of_eq hg.symm)) hb); have n1_ := Aside0.mk (blk_below (g := gb181) (o := .cells #[.int .i64 a0_0, .slice A0_1 l0_1.length c0_1, .slice A0_2 l0_2.length c0_2] 25 (0, 0)) (by (with_reducible repeat (first | refine blk_drewN ?_ _ | refine blk_drew ?_ | refine blk_alloc ?_ _)); exact BK181.out) hb); have n2_ := Aside0.mk (below_step (by repeat (first | (with_reducible first | exact HB.out | apply below_alloc | apply pw_below_drewN | apply below_drew1 | refine below_set ?_ GE181.out) | exact HB.out)) hb); have n3_ := Aside0.mk (hbox); have n4_ := Aside0.mk ((by rw [hg]; exact (below_size (by repeat (first | (with_reducible first | exact HB.out | apply below_alloc | apply pw_below_drewN | apply below_drew1 | refine below_set ?_ GE181.out) | exact HB.out))) : w.heap.size ≤ gb182)); have n5_ := Aside0.mk ((by rw [hg]; exact (below_size (by repeat (first | (with_reducible first | exact HB.out | apply below_alloc | apply pw_below_drewN | apply below_drew1 | refine below_set ?_ GE181.out) | exact HB.out))) : w.heap.size ≤ gb182)); have n6_ := Aside0.mk ((by rw [hg]; exact Nat.ne_of_lt (blk_lt (g := gb181) (o := .cells #[.int .i64 a0_0, .slice A0_1 l0_1.length c0_1, .slice A0_2 l0_2.length c0_2] 25 (0, 0)) (by (with_reducible repeat (first | refine blk_drewN ?_ _ | refine blk_drew ?_ | refine blk_alloc ?_ _)); exact BK181.out)) : gb181 ≠ gb182)); have n7_ := Aside0.mk ((by rw [hg]; exact Nat.ne_of_gt (blk_lt (g := gb181) (o := .cells #[.int .i64 a0_0, .slice A0_1 l0_1.length c0_1, .slice A0_2 l0_2.length c0_2] 25 (0, 0)) (by (with_reducible repeat (first | refine blk_drewN ?_ _ | refine blk_drew ?_ | refine blk_alloc ?_ _)); exact BK181.out)) : gb182 ≠ gb181)); clear HO0_2; clear BK181; clear HB; have HO0_2 := n0_; have BK181 := n1_; have HB := n2_; have BK182 := n3_; have GW182 := n4_; have GE182 := n5_; have NB181_182 := n6_; have NB182_181 := n7_; clear n0_ n1_ n2_ n3_ n4_ n5_ n6_ n7_; clear hb hbox hg; have hnb8 := NB181_182.out; have hnc8 := NB182_181.out; have hcz9_0 : w7.cell? ⟨gb181, 0, none⟩ = some (.int .i64 a0_0) := (blk_cell BK181.out 0).trans rfl; have hcz9_1 : w7.cell? ⟨gb181, 1, none⟩ = some (.slice A0_1 l0_1.length c0_1) := (blk_cell BK181.out 1).trans rfl; have hcz9_2 : w7.cell? ⟨gb181, 2, none⟩ = some (.slice A0_2 l0_2.length c0_2) := (blk_cell BK181.out 2).trans rfl; have hfz9_0 := blk_frozen BK181.out 0; have hfz9_1 := blk_frozen BK181.out 1; have hfz9_2 := blk_frozen BK181.out 2) | ((with_reducible refine gate_callee (f := 26) rfl ?_); refine goesL_ (some 12) rfl rfl Try.func26 (by kernel_rfl) rfl #[.agg #[.int .i64 a0_0, .slice A0_1 l0_1.length c0_1, .slice A0_2 l0_2.length c0_2], .int .i64 a1] rfl (by (try simp only [List.map_toArray, List.map_cons, List.map_nil]); first | done | rfl | (simp only [List.length_drop, List.length_take]; rfl)) ?_; (with_reducible refine (h_slots_Find.calls a0_0 _ _ l0_1 _ _ l0_2 a1 t183 t184 _ ?side1 ?side2 ?side3 ?side4 A3.out).mono ?_); (case side1 => repeat (first | exact (Kd.C_below HR0_1.out HB.out) | (with_reducible refine Kd.C_alloc ?_ _) | (with_reducible refine Kd.C_drewN ?_ _) | (with_reducible refine Kd.C_drew ?_))); (case side2 => exact HC0_1.out); (case side3 => repeat (first | exact (Kd.V_reads' HO0_2.out).2.2 | (with_reducible refine Kd.C_alloc ?_ _) | (with_reducible refine Kd.C_drewN ?_ _) | (with_reducible refine Kd.C_drew ?_))); (case side4 => exact (Kd.V_reads' HO0_2.out).2.1); rintro e w10 ⟨rfl, hb⟩; refine ⟨_, rfl, ?_⟩; have n0_ := Aside0.mk (Kd.V_below (by (with_reducible repeat (first | apply Kd.V_alloc | apply Kd.V_drewN | apply Kd.V_drew)); exact HO0_2.out) hb); have n1_ := Aside0.mk (blk_below (g := gb181) (o := .cells #[.int .i64 a0_0, .slice A0_1 l0_1.length c0_1, .slice A0_2 l0_2.length c0_2] 25 (0, 0)) (by (with_reducible repeat (first | refine blk_drewN ?_ _ | refine blk_drew ?_ | refine blk_alloc ?_ _)); exact BK181.out) hb); have n2_ := Aside0.mk (blk_below (g := gb182) (o := .cells #[.int .i64 0, .slice none 0 0, .slice none 0 0] 25 (0, 0)) (by (with_reducible repeat (first | refine blk_drewN ?_ _ | refine blk_drew ?_ | refine blk_alloc ?_ _)); exact BK182.out) hb); have n3_ := Aside0.mk (below_step (by repeat (first | (with_reducible first | exact HB.out | apply below_alloc | apply pw_below_drewN | apply below_drew1 | refine below_set ?_ GE181.out | refine below_set ?_ GE182.out) | exact HB.out)) hb); clear HO0_2; clear BK181; clear BK182; clear HB; have HO0_2 := n0_; have BK181 := n1_; have BK182 := n2_; have HB := n3_; clear n0_ n1_ n2_ n3_; (try clear hb); (try clear hb2); (try clear hk); (try clear hi); have hcz11_0 : w10.cell? ⟨gb181, 0, none⟩ = some (.int .i64 a0_0) := (blk_cell BK181.out 0).trans rfl; have hcz11_1 : w10.cell? ⟨gb181, 1, none⟩ = some (.slice A0_1 l0_1.length c0_1) := (blk_cell BK181.out 1).trans rfl; have hcz11_2 : w10.cell? ⟨gb181, 2, none⟩ = some (.slice A0_2 l0_2.length c0_2) := (blk_cell BK181.out 2).trans rfl; have hfz11_0 := blk_frozen BK181.out 0; have hfz11_1 := blk_frozen BK181.out 1; have hfz11_2 := blk_frozen BK181.out 2) | ((with_reducible refine gate_callee (f := 95) rfl ?_); refine goesL_ (some 22) rfl rfl Try.func95 (by kernel_rfl) rfl #[.agg #[.int .i64 a0_0, .slice A0_1 l0_1.length c0_1, .slice A0_2 l0_2.length c0_2], .int .i64 t183, .int .i64 (-1), .slice none 0 0] rfl (by (try simp only [List.map_toArray, List.map_cons, List.map_nil]); first | done | rfl | (simp only [List.length_drop, List.length_take]; rfl)) ?_; (refine (slots_with.calls k a0_0 _ _ l0_1 (fun k_ => (((P0_2_ k_ ∨ w.heap.size ≤ k_) ∧ k_ ≠ gb181) ∧ k_ ≠ gb182)) _ _ l0_2 t183 (-1) _ _ ([] : List Int) t185 t186 t189 _ ?side1 ?side2 ?side3 ?side4 ?side5 A5.out).mono ?_); (case side1 => repeat (first | exact (Kd.C_below HR0_1.out HB.out) | (with_reducible refine Kd.C_alloc ?_ _) | (with_reducible refine Kd.C_drewN ?_ _) | (with_reducible refine Kd.C_drew ?_))); (case side2 => exact HC0_1.out); (case side3 => exact HO0_2.out); (case side4 => exact Kd.C_nil _ _); (case side5 => exact Nat.le_refl _); rintro e w12 ⟨v187, v190, rfl, ho0, ho1, hb⟩; refine ⟨_, rfl, ?_⟩; have n0_ := Aside0.mk (Kd.V_mono (Kd.V_told (Kd.V_told (Kd.V_old (by (with_reducible repeat (first | apply Kd.V_alloc | apply Kd.V_drewN | apply Kd.V_drew)); exact HO0_2.out) hb) (Kd.R_base ho0)) (Kd.N_base ho1)) (fun _ h_ => h_.1)); have n1_ := Aside0.mk (Kd.R_lower (Kd.R_newM (M := fun k_ => (w.heap.size ≤ k_)) (Kd.R_mono (ok' := fun k_ => True) ho0 (fun _ hk_ => trivial)) (below_size (by repeat (first | (with_reducible first | exact HB.out | apply below_alloc | apply pw_below_drewN | apply below_drew1 | refine below_set ?_ GE181.out | refine below_set ?_ GE182.out) | exact HB.out))) (fun k_ h_ => h_)) (below_size (by repeat (first | (with_reducible first | exact HB.out | apply below_alloc | apply pw_below_drewN | apply below_drew1 | refine below_set ?_ GE181.out | refine below_set ?_ GE182.out) | exact HB.out)))); have n2_ := Aside0.mk (Kd.N_lower (Kd.N_mono (ok' := fun k_ => (P0_2_ k_ ∨ w.heap.size ≤ k_) ∧ some k_ ≠ (v187 : Value).ownBlock ∧ k_ ≠ gb181 ∧ k_ ≠ gb182) ho1 (fun k_ hk_ => ⟨Or.elim hk_.1 (fun hs_ => hs_.1.1) (fun hn_ => (.inr (Nat.le_trans (below_size (by repeat (first | (with_reducible first | exact HB.out | apply below_alloc | apply pw_below_drewN | apply below_drew1 | refine below_set ?_ GE181.out | refine below_set ?_ GE182.out) | exact HB.out))) hn_))), hk_.2, Or.elim hk_.1 (fun hs_ => hs_.1.2) (fun hn_ => (Kd.freshB (g := gb181) (o := .cells #[.int .i64 a0_0, .slice A0_1 l0_1.length c0_1, .slice A0_2 l0_2.length c0_2] 25 (0, 0)) (by (with_reducible repeat (first | refine blk_drewN ?_ _ | refine blk_drew ?_ | refine blk_alloc ?_ _)); exact BK181.out) k_ hn_)), Or.elim hk_.1 (fun hs_ => hs_.2) (fun hn_ => (Kd.freshB (g := gb182) (o := .cells #[.int .i64 0, .slice none 0 0, .slice none 0 0] 25 (0, 0)) (by (with_reducible repeat (first | refine blk_drewN ?_ _ | refine blk_drew ?_ | refine blk_alloc ?_ _)); exact BK182.out) k_ hn_))⟩)) (below_size (by repeat (first | (with_reducible first | exact HB.out | apply below_alloc | apply pw_below_drewN | apply below_drew1 | refine below_set ?_ GE181.out | refine below_set ?_ GE182.out) | exact HB.out)))); have n3_ := Aside0.mk (blk_below (g := gb181) (o := .cells #[.int .i64 a0_0, .slice A0_1 l0_1.length c0_1, .slice A0_2 l0_2.length c0_2] 25 (0, 0)) (by (with_reducible repeat (first | refine blk_drewN ?_ _ | refine blk_drew ?_ | refine blk_alloc ?_ _)); exact BK181.out) hb); have n4_ := Aside0.mk (blk_below (g := gb182) (o := .cells #[.int .i64 0, .slice none 0 0, .slice none 0 0] 25 (0, 0)) (by (with_reducible repeat (first | refine blk_drewN ?_ _ | refine blk_drew ?_ | refine blk_alloc ?_ _)); exact BK182.out) hb); have n5_ := Aside0.mk (below_step (by repeat (first | (with_reducible first | exact HB.out | apply below_alloc | apply pw_below_drewN | apply below_drew1 | refine below_set ?_ GE181.out | refine below_set ?_ GE182.out) | exact HB.out)) hb); clear HO0_2; clear BK181; clear BK182; clear HB; have HO0_2 := n0_; have HO188 := n1_; have HO191 := n2_; have BK181 := n3_; have BK182 := n4_; have HB := n5_; clear n0_ n1_ n2_ n3_ n4_ n5_; (try clear hb); (try clear hb2); (try clear hk); (try clear hi); (try clear ho0); (try clear ho1); have hcz13_0 : w12.cell? ⟨gb182, 0, none⟩ = some (.int .i64 0) := (blk_cell BK182.out 0).trans rfl; have hcz13_1 : w12.cell? ⟨gb182, 1, none⟩ = some (.slice none 0 0) := (blk_cell BK182.out 1).trans rfl; have hcz13_2 : w12.cell? ⟨gb182, 2, none⟩ = some (.slice none 0 0) := (blk_cell BK182.out 2).trans rfl; have hfz13_0 := blk_frozen BK182.out 0; have hfz13_1 := blk_frozen BK182.out 1; have hfz13_2 := blk_frozen BK182.out 2; obtain ⟨Ao14, co14, eo14⟩ := Kd.R_slice HO188.out; subst eo14; obtain ⟨Ao15, co15, eo15⟩ := Kd.N_slice HO191.out; subst eo15))
    refine bodyPost_ret (results_list (rs := [.tmp 4, .cell 5 25, .tmp 6]) rfl (by simp) (.tmp (.cell gb182 25 #[.int .i64 t185, .slice Ao14 t186.length co14, .slice Ao15 t189.length co15] (0, 0) _ rfl (by (with_reducible repeat (first | refine blk_drewN ?_ _ | refine blk_drew ?_ | refine blk_alloc ?_ _)); refine blk_put (cs := #[.int .i64 t185, .slice Ao14 t186.length co14, .slice none 0 0]) ?_ 2 _ rfl; (with_reducible repeat (first | refine blk_drewN ?_ _ | refine blk_drew ?_ | refine blk_alloc ?_ _)); refine blk_put (cs := #[.int .i64 t185, .slice none 0 0, .slice none 0 0]) ?_ 1 _ rfl; (with_reducible repeat (first | refine blk_drewN ?_ _ | refine blk_drew ?_ | refine blk_alloc ?_ _)); refine blk_put (cs := #[.int .i64 0, .slice none 0 0, .slice none 0 0]) ?_ 0 _ rfl; (with_reducible repeat (first | refine blk_drewN ?_ _ | refine blk_drew ?_ | refine blk_alloc ?_ _)); exact BK182.out) Try.underlying25 rfl (by kernel_rfl) (.tmp .nil)))) rfl ?_
    exact ⟨_, _, by first | rfl | (simp [errW_none, errW_some] <;> rfl) | (simp [*, errW_none, errW_some] <;> rfl), by (with_reducible repeat (first | apply Kd.R_alloc | apply Kd.R_drewN | apply Kd.R_drew)); exact Kd.R_mono (Kd.R_far (p := ⟨gb182, 2, none⟩) (Kd.R_far (p := ⟨gb182, 1, none⟩) (Kd.R_far (p := ⟨gb182, 0, none⟩) (Kd.R_types HO188.out BK182.out (by decide)) (fun _ hk => hk.2) (.int .i64 t185)) (fun _ hk => hk.2) (.slice Ao14 t186.length co14)) (fun _ hk => hk.2) (.slice Ao15 t189.length co15)) (fun _ hk => hk.1.1), by (with_reducible repeat (first | apply Kd.N_alloc | apply Kd.N_drewN | apply Kd.N_drew)); exact Kd.N_mono (Kd.N_far (p := ⟨gb182, 2, none⟩) (Kd.N_far (p := ⟨gb182, 1, none⟩) (Kd.N_far (p := ⟨gb182, 0, none⟩) (Kd.N_mono HO191.out (fun k_ hk => (⟨hk, hk.2.2.2⟩ : _ ∧ k_ ≠ gb182))) (fun _ hk => hk.2) (.int .i64 t185)) (fun _ hk => hk.2) (.slice Ao14 t186.length co14)) (fun _ hk => hk.2) (.slice Ao15 t189.length co15)) (fun _ hk => ⟨hk.1.1, hk.1.2.1⟩), by repeat (first | (with_reducible first | exact HB.out | apply below_alloc | apply pw_below_drewN | apply below_drew1 | refine below_set ?_ GE181.out | refine below_set ?_ GE182.out) | exact HB.out)⟩
  · rw [if_neg c4] at H
    have c4b0 : (t184 == 0) = false := beq_eq_false_iff_ne.mpr c4
    have c4b1 : (t184 != 0) = true := bne_iff_ne.mpr c4
    simp only [Option.some.injEq, Prod.mk.injEq] at H
    obtain ⟨rfl, rfl, rfl, rfl, rfl⟩ := H
    go_enter Try.func34, Try.ntmps34
    go_wp2_with (first | ((with_reducible refine gate_dst (N := 2) rfl ?_); refine box_event ?hg (N := 2) ?hd (cs := #[.int .i64 a0_0, .slice A0_1 l0_1.length c0_1, .slice A0_2 l0_2.length c0_2]) (t := 25) ?hr ?_; (case hd => rfl); (case hg => rfl); (case hr => first | (go_simp; done) | (go_simp; rfl)); intro gb181 hg w16 hbox hb; have n0_ := Aside0.mk (Kd.V_below (Kd.V_elderB (by (with_reducible repeat (first | apply Kd.V_alloc | apply Kd.V_drewN | apply Kd.V_drew)); exact HO0_2.out) gb181 (Nat.le_of_eq hg.symm)) hb); have n1_ := Aside0.mk (below_step (by repeat (first | (with_reducible first | exact HB.out | apply below_alloc | apply pw_below_drewN | apply below_drew1) | exact HB.out)) hb); have n2_ := Aside0.mk (hbox); have n3_ := Aside0.mk ((by rw [hg]; exact (below_size (by repeat (first | (with_reducible first | exact HB.out | apply below_alloc | apply pw_below_drewN | apply below_drew1) | exact HB.out))) : w.heap.size ≤ gb181)); have n4_ := Aside0.mk ((by rw [hg]; exact (below_size (by repeat (first | (with_reducible first | exact HB.out | apply below_alloc | apply pw_below_drewN | apply below_drew1) | exact HB.out))) : w.heap.size ≤ gb181)); clear HO0_2; clear HB; have HO0_2 := n0_; have HB := n1_; have BK181 := n2_; have GW181 := n3_; have GE181 := n4_; clear n0_ n1_ n2_ n3_ n4_; clear hb hbox hg) | ((with_reducible refine gate_dst (N := 5) rfl ?_); refine box_event ?hg (N := 5) ?hd (cs := #[.int .i64 0, .slice none 0 0, .slice none 0 0]) (t := 25) ?hr ?_; (case hd => rfl); (case hg => rfl); (case hr => first | (go_simp; done) | (go_simp; rfl)); intro gb182 hg w17 hbox hb; have n0_ := Aside0.mk (Kd.V_below (Kd.V_elderB (by (with_reducible repeat (first | apply Kd.V_alloc | apply Kd.V_drewN | apply Kd.V_drew)); exact HO0_2.out) gb182 (Nat.le_of_eq hg.symm)) hb); have n1_ := Aside0.mk (blk_below (g := gb181) (o := .cells #[.int .i64 a0_0, .slice A0_1 l0_1.length c0_1, .slice A0_2 l0_2.length c0_2] 25 (0, 0)) (by (with_reducible repeat (first | refine blk_drewN ?_ _ | refine blk_drew ?_ | refine blk_alloc ?_ _)); exact BK181.out) hb); have n2_ := Aside0.mk (below_step (by repeat (first | (with_reducible first | exact HB.out | apply below_alloc | apply pw_below_drewN | apply below_drew1 | refine below_set ?_ GE181.out) | exact HB.out)) hb); have n3_ := Aside0.mk (hbox); have n4_ := Aside0.mk ((by rw [hg]; exact (below_size (by repeat (first | (with_reducible first | exact HB.out | apply below_alloc | apply pw_below_drewN | apply below_drew1 | refine below_set ?_ GE181.out) | exact HB.out))) : w.heap.size ≤ gb182)); have n5_ := Aside0.mk ((by rw [hg]; exact (below_size (by repeat (first | (with_reducible first | exact HB.out | apply below_alloc | apply pw_below_drewN | apply below_drew1 | refine below_set ?_ GE181.out) | exact HB.out))) : w.heap.size ≤ gb182)); have n6_ := Aside0.mk ((by rw [hg]; exact Nat.ne_of_lt (blk_lt (g := gb181) (o := .cells #[.int .i64 a0_0, .slice A0_1 l0_1.length c0_1, .slice A0_2 l0_2.length c0_2] 25 (0, 0)) (by (with_reducible repeat (first | refine blk_drewN ?_ _ | refine blk_drew ?_ | refine blk_alloc ?_ _)); exact BK181.out)) : gb181 ≠ gb182)); have n7_ := Aside0.mk ((by rw [hg]; exact Nat.ne_of_gt (blk_lt (g := gb181) (o := .cells #[.int .i64 a0_0, .slice A0_1 l0_1.length c0_1, .slice A0_2 l0_2.length c0_2] 25 (0, 0)) (by (with_reducible repeat (first | refine blk_drewN ?_ _ | refine blk_drew ?_ | refine blk_alloc ?_ _)); exact BK181.out)) : gb182 ≠ gb181)); clear HO0_2; clear BK181; clear HB; have HO0_2 := n0_; have BK181 := n1_; have HB := n2_; have BK182 := n3_; have GW182 := n4_; have GE182 := n5_; have NB181_182 := n6_; have NB182_181 := n7_; clear n0_ n1_ n2_ n3_ n4_ n5_ n6_ n7_; clear hb hbox hg; have hnb18 := NB181_182.out; have hnc18 := NB182_181.out; have hcz19_0 : w17.cell? ⟨gb181, 0, none⟩ = some (.int .i64 a0_0) := (blk_cell BK181.out 0).trans rfl; have hcz19_1 : w17.cell? ⟨gb181, 1, none⟩ = some (.slice A0_1 l0_1.length c0_1) := (blk_cell BK181.out 1).trans rfl; have hcz19_2 : w17.cell? ⟨gb181, 2, none⟩ = some (.slice A0_2 l0_2.length c0_2) := (blk_cell BK181.out 2).trans rfl; have hfz19_0 := blk_frozen BK181.out 0; have hfz19_1 := blk_frozen BK181.out 1; have hfz19_2 := blk_frozen BK181.out 2) | ((with_reducible refine gate_callee (f := 26) rfl ?_); refine goesL_ (some 12) rfl rfl Try.func26 (by kernel_rfl) rfl #[.agg #[.int .i64 a0_0, .slice A0_1 l0_1.length c0_1, .slice A0_2 l0_2.length c0_2], .int .i64 a1] rfl (by (try simp only [List.map_toArray, List.map_cons, List.map_nil]); first | done | rfl | (simp only [List.length_drop, List.length_take]; rfl)) ?_; (with_reducible refine (h_slots_Find.calls a0_0 _ _ l0_1 _ _ l0_2 a1 t183 t184 _ ?side1 ?side2 ?side3 ?side4 A3.out).mono ?_); (case side1 => repeat (first | exact (Kd.C_below HR0_1.out HB.out) | (with_reducible refine Kd.C_alloc ?_ _) | (with_reducible refine Kd.C_drewN ?_ _) | (with_reducible refine Kd.C_drew ?_))); (case side2 => exact HC0_1.out); (case side3 => repeat (first | exact (Kd.V_reads' HO0_2.out).2.2 | (with_reducible refine Kd.C_alloc ?_ _) | (with_reducible refine Kd.C_drewN ?_ _) | (with_reducible refine Kd.C_drew ?_))); (case side4 => exact (Kd.V_reads' HO0_2.out).2.1); rintro e w20 ⟨rfl, hb⟩; refine ⟨_, rfl, ?_⟩; have n0_ := Aside0.mk (Kd.V_below (by (with_reducible repeat (first | apply Kd.V_alloc | apply Kd.V_drewN | apply Kd.V_drew)); exact HO0_2.out) hb); have n1_ := Aside0.mk (blk_below (g := gb181) (o := .cells #[.int .i64 a0_0, .slice A0_1 l0_1.length c0_1, .slice A0_2 l0_2.length c0_2] 25 (0, 0)) (by (with_reducible repeat (first | refine blk_drewN ?_ _ | refine blk_drew ?_ | refine blk_alloc ?_ _)); exact BK181.out) hb); have n2_ := Aside0.mk (blk_below (g := gb182) (o := .cells #[.int .i64 0, .slice none 0 0, .slice none 0 0] 25 (0, 0)) (by (with_reducible repeat (first | refine blk_drewN ?_ _ | refine blk_drew ?_ | refine blk_alloc ?_ _)); exact BK182.out) hb); have n3_ := Aside0.mk (below_step (by repeat (first | (with_reducible first | exact HB.out | apply below_alloc | apply pw_below_drewN | apply below_drew1 | refine below_set ?_ GE181.out | refine below_set ?_ GE182.out) | exact HB.out)) hb); clear HO0_2; clear BK181; clear BK182; clear HB; have HO0_2 := n0_; have BK181 := n1_; have BK182 := n2_; have HB := n3_; clear n0_ n1_ n2_ n3_; (try clear hb); (try clear hb2); (try clear hk); (try clear hi); have hcz21_0 : w20.cell? ⟨gb182, 0, none⟩ = some (.int .i64 0) := (blk_cell BK182.out 0).trans rfl; have hcz21_1 : w20.cell? ⟨gb182, 1, none⟩ = some (.slice none 0 0) := (blk_cell BK182.out 1).trans rfl; have hcz21_2 : w20.cell? ⟨gb182, 2, none⟩ = some (.slice none 0 0) := (blk_cell BK182.out 2).trans rfl; have hfz21_0 := blk_frozen BK182.out 0; have hfz21_1 := blk_frozen BK182.out 1; have hfz21_2 := blk_frozen BK182.out 2))
    refine bodyPost_ret (results_list (rs := [.tmp 4, .cell 5 25, .tmp 6]) rfl (by simp) (.tmp (.cell gb182 25 #[.int .i64 0, .slice none 0 0, .slice none 0 0] (0, 0) _ rfl (by (with_reducible repeat (first | refine blk_drewN ?_ _ | refine blk_drew ?_ | refine blk_alloc ?_ _)); refine blk_put (cs := #[.int .i64 0, .slice none 0 0, .slice none 0 0]) ?_ 2 _ rfl; (with_reducible repeat (first | refine blk_drewN ?_ _ | refine blk_drew ?_ | refine blk_alloc ?_ _)); refine blk_put (cs := #[.int .i64 0, .slice none 0 0, .slice none 0 0]) ?_ 1 _ rfl; (with_reducible repeat (first | refine blk_drewN ?_ _ | refine blk_drew ?_ | refine blk_alloc ?_ _)); refine blk_put (cs := #[.int .i64 0, .slice none 0 0, .slice none 0 0]) ?_ 0 _ rfl; (with_reducible repeat (first | refine blk_drewN ?_ _ | refine blk_drew ?_ | refine blk_alloc ?_ _)); exact BK182.out) Try.underlying25 rfl (by kernel_rfl) (.tmp .nil)))) rfl ?_
    exact ⟨_, _, by first | rfl | (simp [errW_none, errW_some] <;> rfl) | (simp [*, errW_none, errW_some] <;> rfl), by first | exact Kd.R_nil _ _ _ _ _ | exact Kd.N_nil _ _ _ _ _ | exact Kd.V_nil _ _ _ _ _ | exact Kd.Q_nil _ _ _ _ _ | exact Kd.S_nil _ _ _ _ _, by first | exact Kd.S_nil _ _ _ _ _ | exact Kd.N_nil _ _ _ _ _ | exact Kd.V_nil _ _ _ _ _ | exact Kd.Q_nil _ _ _ _ _ | exact Kd.R_nil _ _ _ _ _, by repeat (first | (with_reducible first | exact HB.out | apply below_alloc | apply pw_below_drewN | apply below_drew1 | refine below_set ?_ GE181.out | refine below_set ?_ GE182.out) | exact HB.out)⟩

end Go.Proofs.Ytkjibgfgbfacdaa.P
end
/-! part: F63 -/
section
set_option linter.unusedVariables false
set_option linter.unusedSimpArgs false
namespace Go.Proofs.Ytkjibgfgbfacdaa.P
open Go.RowKit Go.Proofs.YtkjibgfgbfacdaaW.PrintWords Go.Proofs.YtkjibgfgbfacdaaW.PrintLast Go.Proofs.YtkjibgfgbfacdaaW.PrintMore
attribute [local go_sem] max2_int min2_int max_two min_two max_three min_three max_four min_four   -- for this text's walks alone
set_option linter.unusedVariables false
set_option linter.unusedSimpArgs false

/-! ### cuvetteref03_SameInts: function 63 -/
def cuvetteref03_SameInts.l0 : Nat → List Int → List Int → Int → Int → Option (Bool)
  | 0, _, _, _, _ => none
  | k + 1, x0, x1, x12, x13 => if x13 < x12 then (if 0 ≤ x13 then (if x13 < (x0.length : Int) then (if x13 < (x1.length : Int) then (if (rd x0 x13) = (rd x1 x13) then (cuvetteref03_SameInts.l0 k x0 x1 x12 (wrap64 (x13 + 1))) else (some false)) else (none)) else (none)) else (none)) else (some true)
def cuvetteref03_SameInts.f (k : Nat) (l0 : List Int) (l1 : List Int) : Option (Bool) := if (l0.length : Int) = (l1.length : Int) then (cuvetteref03_SameInts.l0 k l0 l1 (l0.length : Int) 0) else (some false)
theorem cuvetteref03_SameInts.mono_l : ∀ k, (∀ y0 y1 y2 y3, LeO (cuvetteref03_SameInts.l0 k y0 y1 y2 y3) (cuvetteref03_SameInts.l0 (k + 1) y0 y1 y2 y3))
  | 0 => fun _ _ _ _ r h => by simp [cuvetteref03_SameInts.l0] at h
  | k + 1 => by
    have ih0 := cuvetteref03_SameInts.mono_l k
    · intro y0 y1 y2 y3
      unfold cuvetteref03_SameInts.l0
      repeat' first
      | (with_reducible exact ih0 _ _ _ _)
      | (with_reducible exact LeO.refl _)
      | (with_reducible exact LeO.none _)
      | (with_reducible refine LeO.ite ?_ ?_)
      | (with_reducible refine LeO.bind ?_ (fun _ => ?_))
      | exact ih0 _ _ _ _
      | exact LeO.none _
      | refine LeO.ite ?_ ?_
      | refine LeO.bind ?_ (fun _ => ?_)
theorem cuvetteref03_SameInts.mono : ∀ a0 a1 k, LeO (cuvetteref03_SameInts.f k a0 a1) (cuvetteref03_SameInts.f (k + 1) a0 a1) := by
  intro a0 a1 k
  have ih0 := cuvetteref03_SameInts.mono_l k
  unfold cuvetteref03_SameInts.f
  repeat' first
      | (with_reducible exact ih0 _ _ _ _)
      | (with_reducible exact LeO.refl _)
      | (with_reducible exact LeO.none _)
      | (with_reducible refine LeO.ite ?_ ?_)
      | (with_reducible refine LeO.bind ?_ (fun _ => ?_))
      | exact ih0 _ _ _ _
      | exact LeO.none _
      | refine LeO.ite ?_ ?_
      | refine LeO.bind ?_ (fun _ => ?_)
set_option maxHeartbeats 8000000 in
set_option maxRecDepth 100000 in
theorem cuvetteref03_SameInts.calls (k : Nat) (A0 : Option Addr) (c0 : Nat) (l0 : List Int) (A1 : Option Addr) (c1 : Nat) (l1 : List Int) (r : Bool) (w : World) (hr0 : Kd.C (Kd.int .i64) w A0 l0.length l0) (hc0 : l0.length ≤ c0) (hr1 : Kd.C (Kd.int .i64) w A1 l1.length l1) (hc1 : l1.length ≤ c1) (h : cuvetteref03_SameInts.f k l0 l1 = some r) :
    Calls Try.prog 63 #[.slice A0 l0.length c0, .slice A1 l1.length c1] w fun e w' => e = .returned (.bool r) ∧ Drawn0 w w' := by
  have HR0 := Aside0.mk hr0
  have HC0 := Aside0.mk hc0
  clear hr0 hc0
  have HR1 := Aside0.mk hr1
  have HC1 := Aside0.mk hc1
  clear hr1 hc1
  have H : (if (l0.length : Int) = (l1.length : Int) then (cuvetteref03_SameInts.l0 k l0 l1 (l0.length : Int) 0) else (some false)) = some r := h
  clear h
  by_cases c3 : (l0.length : Int) = (l1.length : Int)
  · rw [if_pos c3] at H
    have c3b0 : ((l0.length : Int) == (l1.length : Int)) = true := beq_iff_eq.mpr c3
    have c3b1 : ((l0.length : Int) != (l1.length : Int)) = false := bne_eq_false_iff_eq.mpr c3
    have c3b2 : (l0.length == l1.length) = true := by first | simpa using c3 | (simp at c3 ⊢; omega)
    clear c3
    have H' := Aside0.mk H
    clear H
    go_enter Try.func63, Try.ntmps63
    go_wp2
    repeat (go_quiet (fail); try go_wp2)
    go_loopg [13] k (fun kq v13 w' => ∃ (x13_1 : Int), v13 = .int .i64 x13_1 ∧ Aside0 (cuvetteref03_SameInts.l0 kq l0 l1 (l0.length : Int) x13_1 = some r) ∧ Aside0 (kq ≤ k) ∧ Drawn0 w w')
    case atStart => exact ⟨(0), (by first | rfl | (simp; done) | (simp [*]; done)), H', ⟨Nat.le_refl _⟩, by repeat (first | exact Drawn0.refl _ | apply Drawn0.step)⟩
    case round =>
      clear H'
      try clear c1
      try clear p2
      try clear c3
      try clear c3b0
      try clear c3b1
      try clear c3b2
      obtain ⟨x13_1, rfl, HA, HK1, ⟨m1, rfl⟩⟩ := hrel
      cases gk with
      | zero => exact absurd HA.out (by simp [cuvetteref03_SameInts.l0])
      | succ k1 =>
        have H := HA.out
        clear HA
        simp only [cuvetteref03_SameInts.l0] at H
        by_cases c4 : x13_1 < (l0.length : Int)
        · rw [if_pos c4] at H
          have c4b0 : decide (x13_1 < (l0.length : Int)) = true := decide_eq_true c4
          clear c4
          by_cases c5 : 0 ≤ x13_1
          · rw [if_pos c5] at H
            have c5b0 : decide (0 ≤ x13_1) = true := decide_eq_true c5
            clear c5
            by_cases c6 : x13_1 < (l0.length : Int)
            · rw [if_pos c6] at H
              have c6b0 : decide (x13_1 < (l0.length : Int)) = true := decide_eq_true c6
              clear c6
              by_cases c7 : x13_1 < (l1.length : Int)
              · rw [if_pos c7] at H
                have c7b0 : decide (x13_1 < (l1.length : Int)) = true := decide_eq_true c7
                clear c7
                by_cases c8 : (rd l0 x13_1) = (rd l1 x13_1)
                · rw [if_pos c8] at H
                  have c8b0 : ((rd l0 x13_1) == (rd l1 x13_1)) = true := beq_iff_eq.mpr c8
                  have c8b1 : ((rd l0 x13_1) != (rd l1 x13_1)) = false := bne_eq_false_iff_eq.mpr c8
                  clear c8
                  have H' := Aside0.mk H
                  clear H
                  have p192 : 0 ≤ (x13_1 : Int) := of_decide_eq_true (by first | (with_reducible assumption) | assumption)
                  have q192 : x13_1 < (l0.length : Int) := of_decide_eq_true (by first | (with_reducible assumption) | assumption)
                  obtain ⟨ad192, e192, hx192_0⟩ := Kd.at_int HR0.out x13_1 p192 q192
                  cases e192
                  replace p192 := eq_true p192
                  replace q192 := eq_true q192
                  have p193 : 0 ≤ (x13_1 : Int) := of_decide_eq_true (by first | (with_reducible assumption) | assumption)
                  have q193 : x13_1 < (l1.length : Int) := of_decide_eq_true (by first | (with_reducible assumption) | assumption)
                  obtain ⟨ad193, e193, hx193_0⟩ := Kd.at_int HR1.out x13_1 p193 q193
                  cases e193
                  replace p193 := eq_true p193
                  replace q193 := eq_true q193
                  go_wp2
                  repeat (go_quiet (fail); try go_wp2)
                  go_roundg k1
                  case measure => have := HK1.out; omega
                  case rel => exact ⟨(wrap64 (x13_1 + 1)), (by first | rfl | (simp; done) | (simp [*]; done)), H', ⟨by have := HK1.out; omega⟩, by repeat (first | exact Drawn0.refl _ | apply Drawn0.step)⟩
                · rw [if_neg c8] at H
                  have c8b0 : ((rd l0 x13_1) == (rd l1 x13_1)) = false := beq_eq_false_iff_ne.mpr c8
                  have c8b1 : ((rd l0 x13_1) != (rd l1 x13_1)) = true := bne_iff_ne.mpr c8
                  obtain rfl := Option.some.inj H
                  have p192 : 0 ≤ (x13_1 : Int) := of_decide_eq_true (by first | (with_reducible assumption) | assumption)
                  have q192 : x13_1 < (l0.length : Int) := of_decide_eq_true (by first | (with_reducible assumption) | assumption)
                  obtain ⟨ad192, e192, hx192_0⟩ := Kd.at_int HR0.out x13_1 p192 q192
                  cases e192
                  replace p192 := eq_true p192
                  replace q192 := eq_true q192
                  have p193 : 0 ≤ (x13_1 : Int) := of_decide_eq_true (by first | (with_reducible assumption) | assumption)
                  have q193 : x13_1 < (l1.length : Int) := of_decide_eq_true (by first | (with_reducible assumption) | assumption)
                  obtain ⟨ad193, e193, hx193_0⟩ := Kd.at_int HR1.out x13_1 p193 q193
                  cases e193
                  replace p193 := eq_true p193
                  replace q193 := eq_true q193
                  go_wp2
                  repeat (go_quiet (fail); try go_wp2)
                  go_ret
                  exact ⟨by first | rfl | (simp; done) | (simp [*]; done), by repeat (first | exact Drawn0.refl _ | apply Drawn0.step)⟩
              · rw [if_neg c7] at H
                exact absurd H (by simp)
            · rw [if_neg c6] at H
              exact absurd H (by simp)
          · rw [if_neg c5] at H
            exact absurd H (by simp)
        · rw [if_neg c4] at H
          have c4b0 : decide (x13_1 < (l0.length : Int)) = false := decide_eq_false c4
          clear c4
          obtain rfl := Option.some.inj H
          go_wp2
          repeat (go_quiet (fail); try go_wp2)
          go_ret
          exact ⟨by first | rfl | (simp; done) | (simp [*]; done), by repeat (first | exact Drawn0.refl _ | apply Drawn0.step)⟩
  · rw [if_neg c3] at H
    have c3b0 : ((l0.length : Int) == (l1.length : Int)) = false := beq_eq_false_iff_ne.mpr c3
    have c3b1 : ((l0.length : Int) != (l1.length : Int)) = true := bne_iff_ne.mpr c3
    have c3b2 : (l0.length == l1.length) = false := by first | simpa using c3 | (simp at c3 ⊢; omega)
    obtain rfl := Option.some.inj H
    go_enter Try.func63, Try.ntmps63
    go_wp2
    repeat (go_quiet (fail); try go_wp2)
    go_ret
    exact ⟨by first | rfl | (simp; done) | (simp [*]; done), by repeat (first | exact Drawn0.refl _ | apply Drawn0.step)⟩

end Go.Proofs.Ytkjibgfgbfacdaa.P
end
/-! part: F188 -/
section
set_option linter.unusedVariables false
set_option linter.unusedSimpArgs false
namespace Go.Proofs.Ytkjibgfgbfacdaa.P
open Go.RowKit Go.Proofs.YtkjibgfgbfacdaaW.PrintWords Go.Proofs.YtkjibgfgbfacdaaW.PrintLast Go.Proofs.YtkjibgfgbfacdaaW.PrintMore
attribute [local go_sem] max2_int min2_int max_two min_two max_three min_three max_four min_four   -- for this text's walks alone
set_option linter.unusedVariables false
set_option linter.unusedSimpArgs false

/-! ### bits_Mul64: function 188 -/
def bits_Mul64.f (a0 : Int) (a1 : Int) : Option (Int × Int) := some (IntKind.u64.wrap ((IntKind.u64.wrap ((IntKind.u64.wrap ((a0 / 4294967296) * (a1 / 4294967296))) + ((IntKind.u64.wrap ((IntKind.u64.wrap ((a0 / 4294967296) * (Go.bits .and .u64 a1 4294967295))) + ((IntKind.u64.wrap ((Go.bits .and .u64 a0 4294967295) * (Go.bits .and .u64 a1 4294967295))) / 4294967296))) / 4294967296))) + ((IntKind.u64.wrap ((Go.bits .and .u64 (IntKind.u64.wrap ((IntKind.u64.wrap ((a0 / 4294967296) * (Go.bits .and .u64 a1 4294967295))) + ((IntKind.u64.wrap ((Go.bits .and .u64 a0 4294967295) * (Go.bits .and .u64 a1 4294967295))) / 4294967296))) 4294967295) + (IntKind.u64.wrap ((Go.bits .and .u64 a0 4294967295) * (a1 / 4294967296))))) / 4294967296)), IntKind.u64.wrap (a0 * a1))
set_option maxHeartbeats 8000000 in
set_option maxRecDepth 100000 in
theorem bits_Mul64.calls (a0 : Int) (a1 : Int) (r1 : Int) (r2 : Int) (w : World) (h : bits_Mul64.f a0 a1 = some (r1, r2)) :
    Calls Try.prog 188 #[.int .u64 a0, .int .u64 a1] w fun e w' => e = .returned (.tuple #[.int .u64 r1, .int .u64 r2]) ∧ Drawn0 w w' := by
  have H : (some (IntKind.u64.wrap ((IntKind.u64.wrap ((IntKind.u64.wrap ((a0 / 4294967296) * (a1 / 4294967296))) + ((IntKind.u64.wrap ((IntKind.u64.wrap ((a0 / 4294967296) * (Go.bits .and .u64 a1 4294967295))) + ((IntKind.u64.wrap ((Go.bits .and .u64 a0 4294967295) * (Go.bits .and .u64 a1 4294967295))) / 4294967296))) / 4294967296))) + ((IntKind.u64.wrap ((Go.bits .and .u64 (IntKind.u64.wrap ((IntKind.u64.wrap ((a0 / 4294967296) * (Go.bits .and .u64 a1 4294967295))) + ((IntKind.u64.wrap ((Go.bits .and .u64 a0 4294967295) * (Go.bits .and .u64 a1 4294967295))) / 4294967296))) 4294967295) + (IntKind.u64.wrap ((Go.bits .and .u64 a0 4294967295) * (a1 / 4294967296))))) / 4294967296)), IntKind.u64.wrap (a0 * a1))) = some (r1, r2) := h
  clear h
  simp only [Option.some.injEq, Prod.mk.injEq] at H
  obtain ⟨rfl, rfl⟩ := H
  go_enter Try.func188, Try.ntmps188
  go_wp2
  go_ret2
  exact ⟨by first | rfl | (simp; done) | (simp [*]; done), by repeat (first | exact Drawn0.refl _ | apply Drawn0.step)⟩

end Go.Proofs.Ytkjibgfgbfacdaa.P
end
/-! part: F166 -/
section
set_option linter.unusedVariables false
set_option linter.unusedSimpArgs false
namespace Go.Proofs.Ytkjibgfgbfacdaa.P
open Go.RowKit Go.Proofs.YtkjibgfgbfacdaaW.PrintWords Go.Proofs.YtkjibgfgbfacdaaW.PrintLast Go.Proofs.YtkjibgfgbfacdaaW.PrintMore
attribute [local go_sem] max2_int min2_int max_two min_two max_three min_three max_four min_four   -- for this text's walks alone
set_option linter.unusedVariables false
set_option linter.unusedSimpArgs false

/-! ### bits_Mul: function 166 -/
def bits_Mul.f (a0 : Int) (a1 : Int) : Option (Int × Int) := (bits_Mul64.f a0 a1).bind fun bt194 => (some (bt194.1, bt194.2))
set_option maxHeartbeats 8000000 in
set_option maxRecDepth 100000 in
theorem bits_Mul.calls (a0 : Int) (a1 : Int) (r1 : Int) (r2 : Int) (w : World) (h : bits_Mul.f a0 a1 = some (r1, r2)) :
    Calls Try.prog 166 #[.int .u64 a0, .int .u64 a1] w fun e w' => e = .returned (.tuple #[.int .u64 r1, .int .u64 r2]) ∧ Drawn0 w w' := by
  have H : ((bits_Mul64.f a0 a1).bind fun bt194 => (some (bt194.1, bt194.2))) = some (r1, r2) := h
  clear h
  replace H := Option.bind_eq_some_iff.mp H
  obtain ⟨⟨t194, t195⟩, A30, H⟩ := H
  replace H : (some (t194, t195)) = some (r1, r2) := H
  have A3 := Aside0.mk A30
  clear A30
  simp only [Option.some.injEq, Prod.mk.injEq] at H
  obtain ⟨rfl, rfl⟩ := H
  go_enter Try.func166, Try.ntmps166
  go_wp2_with (first | ((with_reducible refine gate_callee (f := 188) rfl ?_); refine goesL_ (some 25) rfl rfl Try.func188 (by kernel_rfl) rfl #[.int .u64 a0, .int .u64 a1] rfl (by (try simp only [List.map_toArray, List.map_cons, List.map_nil]); first | done | rfl | (simp only [List.length_drop, List.length_take]; rfl)) ?_; (with_reducible refine (bits_Mul64.calls a0 a1 t194 t195 _ A3.out).mono ?_); rintro e w' ⟨rfl, ⟨nd, rfl⟩⟩; refine ⟨_, rfl, ?_⟩))
  go_ret2
  exact ⟨by first | rfl | (simp; done) | (simp [*]; done), by repeat (first | exact Drawn0.refl _ | apply Drawn0.step)⟩

end Go.Proofs.Ytkjibgfgbfacdaa.P
end
/-! part: HRepeatI64 -/
section
set_option linter.unusedVariables false
set_option linter.unusedSimpArgs false
namespace Go.Proofs.Ytkjibgfgbfacdaa.P
open Go.RowKit Go.Proofs.YtkjibgfgbfacdaaW.PrintWords Go.Proofs.YtkjibgfgbfacdaaW.PrintLast Go.Proofs.YtkjibgfgbfacdaaW.PrintMore
set_option linter.unusedVariables false
set_option linter.unusedSimpArgs false

/-- copy(v[m:], v[:m]), v a row of one's own. -/
theorem copy_self {P : Program} {W : World} {base g cap : Nat} {e t : TypeId} (ht : P.underlying t = some (.slice e)) (hinfo : (P.info? e).map (·.size) = some 1) (ty : TypeId) {k : IntKind} (xs : List Int) (m : Nat) (hm0 : 0 < m) (hm : m ≤ xs.length) {ok : Nat → Prop}
    (HO : (Kd.int k).R e W base ok (.slice (some ⟨g, 0, none⟩) xs.length cap) xs) :
    ∃ w1, (Builtin.copy_ #[t, t] ty #[.slice (some ⟨g, m, none⟩) (xs.length - m) (cap - m), .slice (some ⟨g, 0, none⟩) m cap]).run P W = .ok (goInt ((min m (xs.length - m) : Nat) : Int)) w1 ∧
      (Kd.int k).R e w1 base ok (.slice (some ⟨g, 0, none⟩) xs.length cap) (xs.take m ++ xs.take (min m (xs.length - m)) ++ xs.drop (m + min m (xs.length - m))) ∧ W.grownBy w1 (some g) := by
  have hown := Kd.own_of_R HO
  rcases hown.2 with ⟨hv, _⟩ | ⟨g', cap', cur, hv, hb, hh, hnc, hcm, hcs, htake⟩
  · cases hv
  injection hv with ha _ hc
  injection ha with ha
  injection ha with hg'
  subst hg'
  subst hc
  rw [Nat.mul_one] at hcs
  have htk : cur.toList.take xs.length = encs (Value.int k) xs := by rw [← htake, Nat.mul_one]
  have hlen : (encs (Value.int k) (xs.take (min m (xs.length - m)))).length = min m (xs.length - m) := by rw [encs_length, List.length_take]; omega
  have hsrc : ∀ j u, (encs (Value.int k) (xs.take (min m (xs.length - m))))[j]? = some u → W.cell? ((⟨g, 0, none⟩ : Addr).add j) = some u := by
    intro j u hu
    have hj : j < min m (xs.length - m) := by
      have := (List.getElem?_eq_some_iff.1 hu).1
      omega
    rw [show (⟨g, 0, none⟩ : Addr).add j = ⟨g, j, none⟩ by rw [add_plain]]
    rw [cell_of_row W g _ cur e (0, 0) hh]
    have h2 : (encs (Value.int k) xs)[j]? = some u := by
      rw [← hu]
      simp [encs, List.getElem?_take, hj]
    rw [← htk, List.getElem?_take] at h2
    rw [if_pos (by omega)] at h2
    simpa using h2
  have hr := run_copy_cells (P := P) W t t ty e g m (xs.length - m) (cap - m) ⟨g, 0, none⟩ m cap (encs (Value.int k) (xs.take (min m (xs.length - m)))) ht hinfo (by rw [hlen]) hsrc
    (fun j hj => by rw [cell_of_row W g _ cur e (0, 0) hh]; rw [hlen] at hj; simp only [Array.getElem?_eq_getElem (show m + j < cur.size by omega), Option.isSome_some]) (fun j _ => blk_frozen hh _) (by intro u hu; simp only [encs, List.mem_map] at hu; obtain ⟨q, _, rfl⟩ := hu; rfl)
  obtain ⟨cur', h3, h4, h5⟩ := setCells_row (encs (Value.int k) (xs.take (min m (xs.length - m)))) m W cur hh (by rw [hlen]; omega)
  obtain ⟨s1, s2, s3, s4⟩ := setCells_same g (encs (Value.int k) (xs.take (min m (xs.length - m)))) m W
  refine ⟨_, by rw [hr, hlen], Kd.R_of_own ?_ HO.1, ⟨s1, s2, s3, by rw [s4]; exact Nat.le_refl _, fun q _ hq => setCells_far _ _ q (fun he => hq (by rw [he]))⟩⟩
  have hln : (xs.take m ++ xs.take (min m (xs.length - m)) ++ xs.drop (m + min m (xs.length - m))).length = xs.length := by
    rw [List.length_append, List.length_append, List.length_take, List.length_take, List.length_drop]
    omega
  rw [hln]
  refine ⟨by rw [encs_length, hln, Nat.mul_one], .inr ⟨g, cap, cur', rfl, hb, h3, hnc, hcm, by rw [h4, hcs, Nat.mul_one], ?_⟩⟩
  rw [h5, hlen, encs_append, encs_append, Nat.mul_one]
  have e1 : cur.toList.take m = encs (Value.int k) (xs.take m) := by
    have : cur.toList.take m = (cur.toList.take xs.length).take m := by rw [List.take_take, Nat.min_eq_left hm]
    rw [this, htk]
    simp [encs]
  have e2 : (cur.toList.drop (m + min m (xs.length - m))).take (xs.length - (m + min m (xs.length - m))) = encs (Value.int k) (xs.drop (m + min m (xs.length - m))) := by
    rw [← List.drop_take, htk]
    simp [encs]
  have l1 : (encs (Value.int k) (xs.take m)).length = m := by rw [encs_length, List.length_take]; omega
  rw [e1, List.take_append, List.length_append, l1, hlen, List.take_of_length_le (by rw [List.length_append, l1, hlen]; omega), e2]
theorem fillRow (x : Int) (n m : Nat) (hm : m ≤ n) :
    (List.replicate m x ++ List.replicate (n - m) 0).take m ++ (List.replicate m x ++ List.replicate (n - m) 0).take (min m (n - m)) ++ (List.replicate m x ++ List.replicate (n - m) 0).drop (m + min m (n - m))
      = List.replicate (m + min m (n - m)) x ++ List.replicate (n - (m + min m (n - m))) 0 := by
  have a1 : (List.replicate m x ++ List.replicate (n - m) (0 : Int)).take m = List.replicate m x := by simp
  have a2 : (List.replicate m x ++ List.replicate (n - m) (0 : Int)).take (min m (n - m)) = List.replicate (min m (n - m)) x := by
    rw [List.take_append_of_le_length (by simp; omega), List.take_replicate]
    congr 1
    omega
  have a3 : (List.replicate m x ++ List.replicate (n - m) (0 : Int)).drop (m + min m (n - m)) = List.replicate (n - (m + min m (n - m))) 0 := by
    rw [List.drop_append, List.drop_replicate, List.drop_replicate, List.length_replicate]
    rw [show m - (m + min m (n - m)) = 0 by omega, List.replicate_zero, List.nil_append]
    congr 1
    omega
  rw [a1, a2, a3, List.replicate_append_replicate]
theorem mul1 (n : Int) (h0 : 1 ≤ n) (h1 : n ≤ 256) : bits_Mul.f 1 n = some (0, n) := by
  have h : ∀ m ∈ List.range 257, bits_Mul.f 1 ((m : Nat) : Int) = some (0, ((m : Nat) : Int)) := by decide +kernel
  have := h n.toNat (List.mem_range.2 (by omega))
  rwa [show ((n.toNat : Nat) : Int) = n by omega] at this
theorem copy_run {P : Program} (w : World) {o : Oper} {a : Act} {K : Act → World → Prop} {Q : Exit → Act → World → Prop} (d s : Operand) (t t' : TypeId)
    (ho : o.op = .call { callee := .builtin .copy, args := #[d, s], argTypes := #[t, t'] }) (v u : Value) (hd : a.eval d = v) (hs : a.eval s = u) {v' : Value} {w' : World}
    (hr : (Builtin.copy_ #[t, t'] o.type #[v, u]).run P w = .ok v' w') (h : K (a.put o.dst v') w') : o.wp P a w K Q := by
  unfold Oper.wp execOp
  simp only [ho, resolve, invoke, builtin, Sem.run_bind, Sem.run_pure, Result.andThen_ok, List.map_toArray, List.map_cons, List.map_nil, hd, hs, hr]
  exact h
set_option maxHeartbeats 2000000 in
set_option maxRecDepth 100000 in
theorem h_RepeatI64.calls (A0 : Option Addr) (c0 : Nat) (l0 : List Int) (a1 : Int) (r : List Int) (w : World) (hr0 : Kd.C (Kd.int .i64) w A0 l0.length l0) (hc0 : l0.length ≤ c0) (h : h_RepeatI64.f l0 a1 = some r) :
    Calls Try.prog 125 #[.slice A0 l0.length c0, .int .i64 a1] w fun e w' => ∃ v0_ : Value, e = .returned (v0_) ∧ Kd.R (Kd.int .i64) 2 w' w.heap.size (fun _ => True) v0_ r ∧ Below w.heap.size w w' := by
  unfold h_RepeatI64.f at h
  split at h
  case h_2 => cases h
  rename_i x
  split at h
  case isFalse => cases h
  rename_i hn
  obtain ⟨n1, n2⟩ := hn
  injection h with h
  subst h
  have HR := Aside0.mk hr0
  have HC := Aside0.mk hc0
  have HN := Aside0.mk n1
  have HM := Aside0.mk (mul1 a1 n1 n2)
  have HB := Aside0.mk (Below.refl w.heap.size w)
  clear hr0 hc0
  obtain ⟨n, rfl⟩ : ∃ n : Nat, a1 = (n : Int) := ⟨a1.toNat, by omega⟩
  have c1 : (decide ((n : Int) < 0)) = false := decide_eq_false (by omega)
  have u1 : IntKind.u64.wrap (n : Int) = (n : Int) := by
    have h : IntKind.u64.wrap (n : Int) = (n : Int) % 18446744073709551616 := by simp [IntKind.wrap, IntKind.bits, IntKind.signed]
    rw [h]
    omega
  have ww : wrap64 (n : Int) = (n : Int) := by unfold wrap64; omega
  have c2 : (decide ((n : Int) > 9223372036854775807)) = false := decide_eq_false (by omega)
  have hn1 : 1 ≤ n := by omega
  have hn2 : n ≤ 256 := by omega
  have HL := Aside0.mk (And.intro hn1 hn2)
  clear n1 n2 hn1 hn2
  go_enter Try.func125, Try.ntmps125
  go_wp2_with (first | (go_at_call 166; (with_reducible refine (bits_Mul.calls _ _ _ _ _ HM.out).mono ?_); rintro e w1 ⟨rfl, ⟨nd, rfl⟩⟩) | ((with_reducible refine gate_dst (N := 30) rfl ?_); refine Kd.R_make (w0 := w) (Kd.int .i64) w.heap.size 2 rfl (N := 30) rfl 22 _ _ rfl (wrap64 (n : Int)) rfl rfl Try.underlying22 (.int .i64 0) 8 info2 rfl (by decide) (by omega) 0 (ok := fun _ => True) (okp := fun _ => True) rfl (fun _ hk => hk) trivial (by rw [ww]; omega) (by rw [ww]; have := HL.out; omega) (by exact pw_below_drewN HB.out _) (by exact below_size (pw_below_drewN HB.out _)) ?_; intro v1 w2 ho hb hg_ hnew_; clear hg_ hnew_; rw [ww, show ((n : Int)).toNat = n from Int.toNat_natCast n] at ho; obtain ⟨g, cap, ev, hb1, _, _⟩ := Kd.R_form ho (by rw [List.length_replicate]; have := HL.out; omega); rw [List.length_replicate] at ev; subst ev; have HO := Aside0.mk ho; have HB2 := Aside0.mk hb; have HG := Aside0.mk hb1; clear ho hb hb1) | ((with_reducible refine gate_dst (N := 33) rfl ?_); refine Kd.R_copy (w0 := w) (enc := Value.int .i64) (h1 := fun _ => rfl) (0 : Int) w.heap.size rfl _ _ 22 22 2 rfl Try.underlying22 (by kernel_rfl) _ (List.replicate n 0) [x] A0 1 c0 (fun _ => True) rfl rfl HO.out (Kd.C_below HR.out HB2.out) HB2.out (below_size HB2.out) ?_; intro w3 ho hb hg_; clear hg_; have em : min 1 (List.replicate n (0 : Int)).length = 1 := (by rw [List.length_replicate]; have := HL.out; omega); rw [em] at ho ⊢; clear em; have HO3 := Aside0.mk ho; have HB3 := Aside0.mk hb; clear ho hb))
  have e0 : ([x] : List Int).take 1 ++ (List.replicate n (0 : Int)).drop 1 = List.replicate 1 x ++ List.replicate (n - 1) 0 := by rw [List.drop_replicate]; rfl
  rw [e0] at HO3
  clear e0
  go_loopg [8] n (fun kq v8 w' => ∃ (m : Nat), v8 = .int .i64 (m : Int) ∧ Aside0 (1 ≤ m ∧ m ≤ n ∧ n - m ≤ kq) ∧ Aside0 (Kd.R (Kd.int .i64) 2 w' w.heap.size (fun _ => True) (.slice (some ⟨g, 0, none⟩) n cap) (List.replicate m x ++ List.replicate (n - m) 0)) ∧ Aside0 (Below w.heap.size w w'))
  case atStart => exact ⟨1, rfl, ⟨by have := HL.out; omega⟩, HO3, HB3⟩
  case round =>
  obtain ⟨m, rfl, HM4, HO4, HB4⟩ := hrel
  obtain ⟨m1, m2, m3⟩ := HM4.out
  have hlen : (List.replicate m x ++ List.replicate (n - m) (0 : Int)).length = n := by rw [List.length_append, List.length_replicate, List.length_replicate]; omega
  by_cases hlt : m < n
  · have d1 : decide ((m : Int) < (n : Int)) = true := decide_eq_true (by omega)
    have d2 : (0 : Int) ≤ (m : Int) := by omega
    have d3 : m ≤ n := by omega
    have d4 := (Kd.R_reads' HO4.out).2.1
    have d5 : m ≤ cap := by omega
    have d6 : (cap = m) = False := eq_false (by omega)
    go_wp2
    refine start_ (n := 10) (S := fun _ => True) (ds := []) #[false, false, false, false, false, false, false, false, false, false] (by kernel_rfl) rfl rfl trivial (fun hHeld => ?_)
    have HO5 := Aside0.mk (Kd.R_drew HO4.out)
    have HB5 := Aside0.mk (below_drew1 HB4.out)
    clear HO4 HB4
    have HO4 := HO5
    have HB4 := HB5
    clear HO5 HB5
    generalize World.drew _ = w4 at HO4 HB4 hHeld ⊢
    refine pure_ (i := 0) (N := some 38) (v := ?_) (a' := ?_) #[true, false, false, false, false, false, false, false, false, false] rfl rfl (by kernel_rfl) (fun _ _ _ h => h) (Or.inl ⟨by rfl, ?_⟩) ?_ ?_
    rotate_left
    · intro w'
      go_simp
      with_reducible rfl
    rotate_left
    · simp only [Act.put, List.setIfInBounds_toArray, List.set_cons_zero, List.set_cons_succ, i64_w, i32_w]
      rfl
    refine pure_ (i := 1) (N := some 39) (v := ?_) (a' := ?_) #[true, true, false, false, false, false, false, false, false, false] rfl rfl (by kernel_rfl) (fun _ _ _ h => h) (Or.inl ⟨by rfl, ?_⟩) ?_ ?_
    rotate_left
    · intro w'
      go_simp
      with_reducible rfl
    rotate_left
    · simp only [Act.put, List.setIfInBounds_toArray, List.set_cons_zero, List.set_cons_succ, i64_w, i32_w]
      rfl
    refine pure_ (i := 2) (N := some 40) (v := ?_) (a' := ?_) #[true, true, true, false, false, false, false, false, false, false] rfl rfl (by kernel_rfl) (fun _ _ _ h => h) (Or.inl ⟨by rfl, ?_⟩) ?_ ?_
    rotate_left
    · intro w'
      go_simp
      with_reducible rfl
    rotate_left
    · simp only [Act.put, List.setIfInBounds_toArray, List.set_cons_zero, List.set_cons_succ, i64_w, i32_w]
      rfl
    refine pure_ (i := 3) (N := some 41) (v := ?_) (a' := ?_) #[true, true, true, true, false, false, false, false, false, false] rfl rfl (by kernel_rfl) (fun _ _ _ h => h) (Or.inl ⟨by rfl, ?_⟩) ?_ ?_
    rotate_left
    · intro w'
      go_simp
      with_reducible rfl
    rotate_left
    · simp only [Act.put, List.setIfInBounds_toArray, List.set_cons_zero, List.set_cons_succ, i64_w, i32_w]
      rfl
    refine pure_ (i := 4) (N := some 42) (v := ?_) (a' := ?_) #[true, true, true, true, true, false, false, false, false, false] rfl rfl (by kernel_rfl) (fun _ _ _ h => h) (Or.inl ⟨by rfl, ?_⟩) ?_ ?_
    rotate_left
    · intro w'
      go_simp
      with_reducible rfl
    rotate_left
    · simp only [Act.put, List.setIfInBounds_toArray, List.set_cons_zero, List.set_cons_succ, i64_w, i32_w]
      rfl
    refine pure_ (i := 5) (N := some 43) (v := ?_) (a' := ?_) #[true, true, true, true, true, true, false, false, false, false] rfl rfl (by kernel_rfl) (fun _ _ _ h => h) (Or.inl ⟨by rfl, ?_⟩) ?_ ?_
    rotate_left
    · intro w'
      go_simp
      with_reducible rfl
    rotate_left
    · simp only [Act.put, List.setIfInBounds_toArray, List.set_cons_zero, List.set_cons_succ, i64_w, i32_w]
      rfl
    refine pure_ (i := 6) (N := some 44) (v := ?_) (a' := ?_) #[true, true, true, true, true, true, true, false, false, false] rfl rfl (by kernel_rfl) (fun _ _ _ h => h) (Or.inl ⟨by rfl, ?_⟩) ?_ ?_
    rotate_left
    · intro w'
      go_simp
      with_reducible rfl
    rotate_left
    · simp only [Act.put, List.setIfInBounds_toArray, List.set_cons_zero, List.set_cons_succ, i64_w, i32_w]
      rfl
    obtain ⟨w5, hr5, ho5, hg5⟩ := copy_self (t := 22) (ty := 3) Try.underlying22 (by kernel_rfl) (List.replicate m x ++ List.replicate (n - m) 0) m (by omega) (by rw [List.length_append, List.length_replicate, List.length_replicate]; omega) (by rw [hlen]; exact HO4.out)
    rw [hlen, fillRow x n m (by omega)] at ho5
    rw [hlen] at hr5
    refine one_ (i := 7) (N := some 45) #[true, true, true, true, true, true, true, true, false, false] rfl rfl (by kernel_rfl) (by decide) (fun K hK => ?_)
    rw [if_pos (by rfl)]
    refine copy_run _ _ _ 22 22 rfl _ _ rfl rfl hr5 ?_
    refine hK.out _ _ trivial (fun hHeld => ?_)
    clear hK K
    refine norm_ (a' := ?_) ?_ ?_
    rotate_left
    · show Act.put _ (some 45) _ = _
      simp only [Act.put, List.setIfInBounds_toArray, List.set_cons_zero, List.set_cons_succ, i64_w, i32_w]
      rfl
    refine pure_ (i := 8) (N := some 46) (v := ?_) (a' := ?_) #[true, true, true, true, true, true, true, true, true, false] rfl rfl (by kernel_rfl) (fun _ _ _ h => h) (Or.inl ⟨by rfl, ?_⟩) ?_ ?_
    rotate_left
    · intro w'
      go_simp
      with_reducible rfl
    rotate_left
    · simp only [Act.put, List.setIfInBounds_toArray, List.set_cons_zero, List.set_cons_succ, i64_w, i32_w]
      rfl
    refine pure_ (i := 9) (N := some 8) (v := ?_) (a' := ?_) #[true, true, true, true, true, true, true, true, true, true] rfl rfl (by kernel_rfl) (fun _ _ _ h => h) (Or.inl ⟨by rfl, ?_⟩) ?_ ?_
    rotate_left
    · intro w'
      go_simp
      with_reducible rfl
    rotate_left
    · simp only [Act.put, List.setIfInBounds_toArray, List.set_cons_zero, List.set_cons_succ, i64_w, i32_w]
      rfl
    refine done_ (by kernel_rfl) ?_
    have HB6 := Aside0.mk (HB4.out.grown hg5 (below_size HB4.out) (fun k_ hk_ => by injection hk_ with hk_; have := HG.out; omega))
    have HO6 := Aside0.mk ho5
    clear ho5 hr5 hg5
    go_wp2
    cases gk with
    | zero => exact absurd m3 (by omega)
    | succ gk1 =>
      go_roundg gk1
      case measure => omega
      case rel => exact ⟨m + min m (n - m), by rw [show wrap64 ((m : Int) + ((min m (n - m) : Nat) : Int)) = ((m + min m (n - m) : Nat) : Int) by unfold wrap64; have := HL.out; omega], ⟨by omega⟩, HO6, HB6⟩
  · have d1 : decide ((m : Int) < (n : Int)) = false := decide_eq_false (by omega)
    go_wp2
    go_ret
    have e1 : m = n := by omega
    subst e1
    have h5 := HO4.out
    rw [Nat.sub_self, List.replicate_zero, List.append_nil] at h5
    exact ⟨_, rfl, by simpa using h5, HB4.out⟩
end Go.Proofs.Ytkjibgfgbfacdaa.P
end
/-! part: F64 -/
section
set_option linter.unusedVariables false
set_option linter.unusedSimpArgs false
namespace Go.Proofs.Ytkjibgfgbfacdaa.P
open Go.RowKit Go.Proofs.YtkjibgfgbfacdaaW.PrintWords Go.Proofs.YtkjibgfgbfacdaaW.PrintLast Go.Proofs.YtkjibgfgbfacdaaW.PrintMore
attribute [local go_sem] max2_int min2_int max_two min_two max_three min_three max_four min_four   -- for this text's walks alone
set_option linter.unusedVariables false
set_option linter.unusedSimpArgs false

/-! ### slots_New: function 64 -/
def slots_New.f (a0 : Int) (a1 : Int) : Option (Int × List Int × (List (List Int)) × Int) := (slots_within.f a0 256).bind fun t197 => (if t197 = true then ((slots_within.f a1 64).bind fun t198 => (if t198 = true then ((h_RepeatI64.f (([(-1)] : List Int)) a0).bind fun t202 => (if 0 ≤ a0 then (if (a0 : Int).toNat ≤ 11728124029610 then (some (a1, t202, (List.replicate (a0 : Int).toNat []), 0)) else (none)) else (none))) else (some (0, ([] : List Int), ([] : List (List Int)), 1)))) else (some (0, ([] : List Int), ([] : List (List Int)), 1)))
def slots_New.T3 : Bool × List (List Nat × List Nat) := (true, [([], []), ([], []), ([], []), ([1, 2], [1, 2]), ([], []), ([4, 4], [4]), ([0, 3, 5], [0, 3, 5]), ([6, 3, 0, 1, 2, 3, 4, 5, 6], [6]), ([7, 0, 1, 2, 3, 4, 5, 6, 7], [])])
def slots_New.B3 : List Nat := [0, 0, 0, 6, 0, 16, 63, 127, 255]
theorem slots_New.tab3 : rtab .any (opsOf Try.f64 3) = slots_New.T3 := by kernel_rfl
theorem slots_New.bits3 : waitsOk slots_New.T3.2 slots_New.B3 = true := by kernel_rfl
set_option maxHeartbeats 8000000 in
set_option maxRecDepth 100000 in
theorem slots_New.calls (a0 : Int) (a1 : Int) (r1 : Int) (r2 : List Int) (r3 : List (List Int)) (r4 : Int) (w : World) (h : slots_New.f a0 a1 = some (r1, r2, r3, r4)) :
    Calls Try.prog 64 #[.int .i64 a0, .int .i64 a1] w fun e w' => ∃ v1_ v2_ : Value, e = .returned (.tuple #[.agg #[.int .i64 r1, v1_, v2_], .int .i64 r4]) ∧ Kd.R (Kd.int .i64) 2 w' w.heap.size (fun _ => True) v1_ r2 ∧ Kd.S (Kd.slice 74 (Kd.int .i16)) 27 w' w.heap.size (fun _ => True) v2_ r3 ∧ Below w.heap.size w w' := by
  have hu25 := Try.underlying25
  have HB := Aside0.mk (Below.refl w.heap.size w)
  have H : ((slots_within.f a0 256).bind fun t197 => (if t197 = true then ((slots_within.f a1 64).bind fun t198 => (if t198 = true then ((h_RepeatI64.f (([(-1)] : List Int)) a0).bind fun t202 => (if 0 ≤ a0 then (if (a0 : Int).toNat ≤ 11728124029610 then (some (a1, t202, (List.replicate (a0 : Int).toNat []), 0)) else (none)) else (none))) else (some (0, ([] : List Int), ([] : List (List Int)), 1)))) else (some (0, ([] : List Int), ([] : List (List Int)), 1)))) = some (r1, r2, r3, r4) := h
  clear h
  replace H := Option.bind_eq_some_iff.mp H
  obtain ⟨t197, A30, H⟩ := H
  replace H : (if t197 = true then ((slots_within.f a1 64).bind fun t198 => (if t198 = true then ((h_RepeatI64.f (([(-1)] : List Int)) a0).bind fun t202 => (if 0 ≤ a0 then (if (a0 : Int).toNat ≤ 11728124029610 then (some (a1, t202, (List.replicate (a0 : Int).toNat []), 0)) else (none)) else (none))) else (some (0, ([] : List Int), ([] : List (List Int)), 1)))) else (some (0, ([] : List Int), ([] : List (List Int)), 1))) = some (r1, r2, r3, r4) := H
  have A3 := Aside0.mk A30
  clear A30
  by_cases c4 : t197 = true
  · subst c4
    have H1 : ((slots_within.f a1 64).bind fun t198 => (if t198 = true then ((h_RepeatI64.f (([(-1)] : List Int)) a0).bind fun t202 => (if 0 ≤ a0 then (if (a0 : Int).toNat ≤ 11728124029610 then (some (a1, t202, (List.replicate (a0 : Int).toNat []), 0)) else (none)) else (none))) else (some (0, ([] : List Int), ([] : List (List Int)), 1)))) = some (r1, r2, r3, r4) := by rw [if_pos rfl] at H; exact H
    clear H
    have H := H1
    clear H1
    replace H := Option.bind_eq_some_iff.mp H
    obtain ⟨t198, A50, H⟩ := H
    replace H : (if t198 = true then ((h_RepeatI64.f (([(-1)] : List Int)) a0).bind fun t202 => (if 0 ≤ a0 then (if (a0 : Int).toNat ≤ 11728124029610 then (some (a1, t202, (List.replicate (a0 : Int).toNat []), 0)) else (none)) else (none))) else (some (0, ([] : List Int), ([] : List (List Int)), 1))) = some (r1, r2, r3, r4) := H
    have A5 := Aside0.mk A50
    clear A50
    by_cases c6 : t198 = true
    · subst c6
      have H1 : ((h_RepeatI64.f (([(-1)] : List Int)) a0).bind fun t202 => (if 0 ≤ a0 then (if (a0 : Int).toNat ≤ 11728124029610 then (some (a1, t202, (List.replicate (a0 : Int).toNat []), 0)) else (none)) else (none))) = some (r1, r2, r3, r4) := by rw [if_pos rfl] at H; exact H
      clear H
      have H := H1
      clear H1
      obtain ⟨y199, hy199⟩ : ∃ y_ : List Int, y_ = (([(-1)] : List Int)) := ⟨_, rfl⟩
      replace H : ((h_RepeatI64.f y199 a0).bind fun t202 => (if 0 ≤ a0 then (if (a0 : Int).toNat ≤ 11728124029610 then (some (a1, t202, (List.replicate (a0 : Int).toNat []), 0)) else (none)) else (none))) = some (r1, r2, r3, r4) := by first | (rw [hy199]; with_reducible exact H) | (have H2_ := (Option.bind_some _ _).symm.trans H; rw [hy199]; with_reducible exact H2_) | (have H2_ := (Option.bind_some _ _).symm.trans H; with_reducible exact H2_) | with_reducible exact H | (rw [hy199]; exact H) | exact H
      have Ny199 := Aside0.mk hy199
      clear hy199
      replace H := Option.bind_eq_some_iff.mp H
      obtain ⟨t202, A70, H⟩ := H
      replace H : (if 0 ≤ a0 then (if (a0 : Int).toNat ≤ 11728124029610 then (some (a1, t202, (List.replicate (a0 : Int).toNat []), 0)) else (none)) else (none)) = some (r1, r2, r3, r4) := H
      have A7 := Aside0.mk A70
      clear A70
      by_cases c8 : 0 ≤ a0
      · rw [if_pos c8] at H
        have c8b0 := eq_true c8
        have c8b1 : decide (0 ≤ a0) = true := decide_eq_true c8
        clear c8
        by_cases c9 : (a0 : Int).toNat ≤ 11728124029610
        · rw [if_pos c9] at H
          have c9b0 := eq_true c9
          have c9b1 : decide ((a0 : Int).toNat ≤ 11728124029610) = true := decide_eq_true c9
          clear c9
          obtain ⟨y205, hy205⟩ : ∃ y_ : List (List Int), y_ = (List.replicate (a0 : Int).toNat []) := ⟨_, rfl⟩
          replace H : (some (a1, t202, y205, 0)) = some (r1, r2, r3, r4) := by first | (rw [hy205]; with_reducible exact H) | (have H2_ := (Option.bind_some _ _).symm.trans H; rw [hy205]; with_reducible exact H2_) | (have H2_ := (Option.bind_some _ _).symm.trans H; with_reducible exact H2_) | with_reducible exact H | (rw [hy205]; exact H) | exact H
          have Ny205 := Aside0.mk hy205
          clear hy205
          simp only [Option.some.injEq, Prod.mk.injEq] at H
          obtain ⟨rfl, rfl, rfl, rfl⟩ := H
          go_enter Try.func64, Try.ntmps64
          try go_wp2_with (first | ((with_reducible refine gate_dst (N := 4) rfl ?_); refine box_event ?hg (N := 4) ?hd (cs := #[.int .i64 0, .slice none 0 0, .slice none 0 0]) (t := 25) ?hr ?_; (case hd => rfl); (case hg => rfl); (case hr => first | (go_simp; done) | (go_simp; rfl)); intro gb196 hg w10 hbox hb; have n0_ := Aside0.mk (below_step (by repeat (first | (with_reducible first | exact HB.out | apply below_alloc | apply pw_below_drewN | apply below_drew1) | exact HB.out)) hb); have n1_ := Aside0.mk (hbox); have n2_ := Aside0.mk ((by rw [hg]; exact (below_size (by repeat (first | (with_reducible first | exact HB.out | apply below_alloc | apply pw_below_drewN | apply below_drew1) | exact HB.out))) : w.heap.size ≤ gb196)); have n3_ := Aside0.mk ((by rw [hg]; exact (below_size (by repeat (first | (with_reducible first | exact HB.out | apply below_alloc | apply pw_below_drewN | apply below_drew1) | exact HB.out))) : w.heap.size ≤ gb196)); clear HB; have HB := n0_; have BK196 := n1_; have GW196 := n2_; have GE196 := n3_; clear n0_ n1_ n2_ n3_; clear hb hbox hg) | ((with_reducible refine gate_callee (f := 124) rfl ?_); refine goesL_ (some 7) rfl rfl Try.func124 (by kernel_rfl) rfl #[.int .i64 a0, .int .i64 256] rfl (by (try simp only [List.map_toArray, List.map_cons, List.map_nil]); first | done | rfl | (simp only [List.length_drop, List.length_take]; rfl)) ?_; (with_reducible refine (slots_within.calls a0 256 true _ A3.out).mono ?_); rintro e w' ⟨rfl, ⟨nd, rfl⟩⟩; refine ⟨_, rfl, ?_⟩; (try (rw [drewN_self w10]; generalize hq_ : World.drewN w10 _ = w10; have n0_ : Aside0 (w10.heap[gb196]? = some (.cells #[.int .i64 0, .slice none 0 0, .slice none 0 0] 25 (0, 0))) := ⟨by rw [← hq_]; exact (by (with_reducible repeat (first | refine blk_drewN ?_ _ | refine blk_drew ?_ | refine blk_alloc ?_ _)); exact BK196.out)⟩; have n1_ : Aside0 (Below w.heap.size w w10) := ⟨by rw [← hq_]; exact (by repeat (first | (with_reducible first | exact HB.out | apply below_alloc | apply pw_below_drewN | apply below_drew1 | refine below_set ?_ GE196.out) | exact HB.out))⟩; clear BK196 HB hq_; have BK196 := n0_; have HB := n1_; clear n0_ n1_))) | (go_at_call 124; (with_reducible refine (slots_within.calls a1 64 true _ A5.out).mono ?_); rintro e w' ⟨rfl, ⟨nd, rfl⟩⟩; (try (rw [drewN_self w10]; generalize hq_ : World.drewN w10 _ = w10; have n0_ : Aside0 (w10.heap[gb196]? = some (.cells #[.int .i64 0, .slice none 0 0, .slice none 0 0] 25 (0, 0))) := ⟨by rw [← hq_]; exact (by (with_reducible repeat (first | refine blk_drewN ?_ _ | refine blk_drew ?_ | refine blk_alloc ?_ _)); exact BK196.out)⟩; have n1_ : Aside0 (Below w.heap.size w w10) := ⟨by rw [← hq_]; exact (by repeat (first | (with_reducible first | exact HB.out | apply below_alloc | apply pw_below_drewN | apply below_drew1 | refine below_set ?_ GE196.out) | exact HB.out))⟩; clear BK196 HB hq_; have BK196 := n0_; have HB := n1_; clear n0_ n1_))))
          have n0_ := Aside0.mk (blk_drew BK196.out)
          have n1_ := Aside0.mk (below_drew1 HB.out)
          clear BK196
          clear HB
          have BK196 := n0_
          have HB := n1_
          clear n0_ n1_
          refine start_ (n := 9) (S := fun w' => True) (ds := []) #[false, false, false, false, false, false, false, false, false] (by kernel_rfl) rfl rfl trivial (fun hHeld => ?_); refine with_tabW slots_New.tab3 slots_New.bits3 (fun HT_ HW_ => ?_)
          generalize w10.drew = w11 at BK196 HB hHeld ⊢
          refine pure_ (i := 0) (N := some 15) (v := ?_) (a' := ?_) #[true, false, false, false, false, false, false, false, false] rfl rfl (any_of HT_.out (by kernel_rfl)) (fun _ _ _ h => h) (Or.inl ⟨by rfl, ?_⟩) ?_ ?_
          rotate_left
          · intro w'
            go_simp
            with_reducible rfl
          rotate_left
          · simp only [Act.put, List.setIfInBounds_toArray, List.set_cons_zero, List.set_cons_succ, i64_w, i32_w]
            rfl
          refine pure_ (i := 2) (N := some 17) (v := ?_) (a' := ?_) #[true, false, true, false, false, false, false, false, false] rfl rfl (any_of HT_.out (by kernel_rfl)) (fun _ _ _ h => h) (Or.inl ⟨by rfl, ?_⟩) ?_ ?_
          rotate_left
          · intro w'
            go_simp
            with_reducible rfl
          rotate_left
          · simp only [Act.put, List.setIfInBounds_toArray, List.set_cons_zero, List.set_cons_succ, i64_w, i32_w]
            rfl
          refine pure_ (i := 4) (N := some 19) (v := ?_) (a' := ?_) #[true, false, true, false, true, false, false, false, false] rfl rfl (any_of HT_.out (by kernel_rfl)) (fun _ _ _ h => h) (Or.inl ⟨by rfl, ?_⟩) ?_ ?_
          rotate_left
          · intro w'
            go_simp
            with_reducible rfl
          rotate_left
          · simp only [Act.put, List.setIfInBounds_toArray, List.set_cons_zero, List.set_cons_succ, i64_w, i32_w]
            rfl
          refine join_ (σ := Value × Value × Value) 3 #[true, true, true, true, true, true, false, false, false] (fun s_ => [(16, s_.1), (18, s_.2.1), (20, s_.2.2)]) (fun s_ w' => (Kd.R (Kd.int .i64) 2 w' w.heap.size (fun k_ => some k_ ≠ (s_.2.1 : Value).ownBlock) s_.1 y199) ∧ (Kd.R (Kd.int .i64) 2 w' w.heap.size (fun k_ => some k_ ≠ (s_.1 : Value).ownBlock) s_.2.1 t202) ∧ (Kd.S (Kd.slice 74 (Kd.int .i16)) 27 w' w.heap.size (fun _ => True) s_.2.2 y205) ∧ (w'.heap[gb196]? = some (.cells #[.int .i64 0, .slice none 0 0, .slice none 0 0] 25 (0, 0))) ∧ (Below w.heap.size w w')) ?_ ?_
          rotate_left
          · intro hCont
            refine two_ (i := 1) (j := 5) (Ni := some 16) (Nj := some 20) #[true, true, true, false, true, false, false, false, false] #[true, false, true, false, true, true, false, false, false] rfl rfl rfl rfl (two_of HT_.out (by kernel_rfl)) (by decide) (by decide) (fun K hK => ?_) (fun K hK => ?_)
            · skip
              refine Kd.R_lit_step (Kd.int .i64) _ 2 ?hg (N := 16) ?hd (xs := ([(-1)] : List Int)) (inner := [.int .i64 (-1)]) (ok := fun _ => True) (okp := fun _ => True) ?hr ?hp (fun _ hk => hk) trivial (Below.refl _ _) (Nat.le_refl _) (by simp) ?_; (case hd => rfl); (case hg => rfl); (case hr => first | (go_simp; done) | (go_simp; rfl)); (case hp => exact (Reps.one (show Kd.M (Kd.int .i64) _ _ _ (-1) [.int .i64 (-1)] from rfl) (Reps.none _ _)))
              intro v200 w12 ho13 hb hg_ hnew_
              clear hg_ hnew_
              (first | rw [← Ny199.out] at ho13 | (simp only [Int.reduceToNat] at ho13; rw [← Ny199.out] at ho13))
              have n0_ := Aside0.mk (Kd.R_lower ho13 (below_size (by repeat (first | (with_reducible first | exact HB.out | apply below_alloc | apply pw_below_drewN | apply below_drew1 | refine below_set ?_ GE196.out) | exact HB.out))))
              have n1_ := Aside0.mk (blk_below (g := gb196) (o := .cells #[.int .i64 0, .slice none 0 0, .slice none 0 0] 25 (0, 0)) (by (with_reducible repeat (first | refine blk_drewN ?_ _ | refine blk_drew ?_ | refine blk_alloc ?_ _)); exact BK196.out) hb)
              have n2_ := Aside0.mk (below_step (by repeat (first | (with_reducible first | exact HB.out | apply below_alloc | apply pw_below_drewN | apply below_drew1 | refine below_set ?_ GE196.out) | exact HB.out)) hb)
              clear BK196
              clear HB
              have HO201 := n0_
              have BK196 := n1_
              have HB := n2_
              clear n0_ n1_ n2_
              clear hb ho13
              obtain ⟨Ao14, co14, eo14⟩ := Kd.R_slice HO201.out
              (first | subst eo14 | (injection eo14 with f1_ f2_ f3_; have f4_ := f1_.symm; have f5_ := f3_.symm; clear f1_ f2_ f3_; subst f4_; subst f5_))
              refine hK.out _ _ trivial (fun hHeld => ?_)
              clear hK K
              refine norm_ (a' := ?_) ?_ ?_
              rotate_left
              · show Act.put _ (some 16) _ = _
                simp only [Act.put, List.setIfInBounds_toArray, List.set_cons_zero, List.set_cons_succ, i64_w, i32_w]
                rfl
              refine two_ (i := 3) (j := 5) (Ni := some 18) (Nj := some 20) #[true, true, true, true, true, false, false, false, false] #[true, true, true, false, true, true, false, false, false] rfl rfl rfl rfl (two_of HT_.out (by kernel_rfl)) (by decide) (by decide) (fun K hK => ?_) (fun K hK => ?_)
              · skip
                refine goes_ Try.func125 (by kernel_rfl) rfl #[.slice Ao14 y199.length co14, .int .i64 a0] (by rfl) rfl rfl (by (try simp only [List.map_toArray, List.map_cons, List.map_nil]); first | done | rfl | (simp only [List.length_drop, List.length_take]; rfl)) ?_
                with_reducible refine (h_RepeatI64.calls _ _ y199 a0 t202 _ ?side1 ?side2 A7.out).mono ?_
                (case side1 => repeat (first | exact (Kd.R_reads' HO201.out).2.2 | (with_reducible refine Kd.C_alloc ?_ _) | (with_reducible refine Kd.C_drewN ?_ _) | (with_reducible refine Kd.C_drew ?_)))
                (case side2 => exact (Kd.R_reads' HO201.out).2.1)
                rintro e w15 ⟨v203, rfl, ho0, hb⟩
                refine ⟨_, rfl, ?_⟩
                have n0_ := Aside0.mk (Kd.R_elder' (by (with_reducible repeat (first | apply Kd.R_alloc | apply Kd.R_drewN | apply Kd.R_drew)); exact HO201.out) (Kd.R_base ho0) hb)
                have n1_ := Aside0.mk (Kd.R_lower (Kd.R_new' ho0 (Kd.R_lt (by (with_reducible repeat (first | apply Kd.R_alloc | apply Kd.R_drewN | apply Kd.R_drew)); exact HO201.out))) (below_size (by repeat (first | (with_reducible first | exact HB.out | apply below_alloc | apply pw_below_drewN | apply below_drew1 | refine below_set ?_ GE196.out) | exact HB.out))))
                have n2_ := Aside0.mk (blk_below (g := gb196) (o := .cells #[.int .i64 0, .slice none 0 0, .slice none 0 0] 25 (0, 0)) (by (with_reducible repeat (first | refine blk_drewN ?_ _ | refine blk_drew ?_ | refine blk_alloc ?_ _)); exact BK196.out) hb)
                have n3_ := Aside0.mk (below_step (by repeat (first | (with_reducible first | exact HB.out | apply below_alloc | apply pw_below_drewN | apply below_drew1 | refine below_set ?_ GE196.out) | exact HB.out)) hb)
                clear HO201
                clear BK196
                clear HB
                have HO201 := n0_
                have HO204 := n1_
                have BK196 := n2_
                have HB := n3_
                clear n0_ n1_ n2_ n3_
                (try clear hb)
                (try clear hb2)
                (try clear hk)
                (try clear hi)
                (try clear ho0)
                refine hK.out _ _ trivial (fun hHeld => ?_)
                clear hK K
                refine norm_ (a' := ?_) ?_ ?_
                rotate_left
                · show Act.put _ (some 18) _ = _
                  simp only [Act.put, List.setIfInBounds_toArray, List.set_cons_zero, List.set_cons_succ, i64_w, i32_w]
                  rfl
                refine one_ (i := 5) (N := some 20) #[true, true, true, true, true, true, false, false, false] rfl rfl (one_of HT_.out (by kernel_rfl)) (by decide) (fun K hK => ?_)
                refine Kd.S_make_step (Kd.slice 74 (Kd.int .i16)) _ 27 (by rfl) (N := 20) rfl 23 _ _ rfl a0 rfl rfl Try.underlying23 (.slice none 0 0) 24 info27 rfl (by decide) (by omega) [] (ok := fun _ => True) (okp := fun _ => True) ⟨_, rfl, Kd.R_nil _ _ _ _ _⟩ (fun _ hk => hk) trivial (of_decide_eq_true (by first | (with_reducible assumption) | assumption)) (Nat.le_trans (Nat.mul_le_mul_right _ (of_decide_eq_true (by first | (with_reducible assumption) | assumption) : a0.toNat ≤ 11728124029610)) (by omega)) (Below.refl _ _) (Nat.le_refl _) ?_
                intro v206 w16 ho17 hb hg_ hnew_
                clear hg_ hnew_
                (first | rw [← Ny205.out] at ho17 | (simp only [Int.reduceToNat] at ho17; rw [← Ny205.out] at ho17))
                have n0_ := Aside0.mk (Kd.R_below (by (with_reducible repeat (first | apply Kd.R_alloc | apply Kd.R_drewN | apply Kd.R_drew)); exact HO201.out) hb)
                have n1_ := Aside0.mk (Kd.R_below (by (with_reducible repeat (first | apply Kd.R_alloc | apply Kd.R_drewN | apply Kd.R_drew)); exact HO204.out) hb)
                have n2_ := Aside0.mk (Kd.S_lower ho17 (below_size (by repeat (first | (with_reducible first | exact HB.out | apply below_alloc | apply pw_below_drewN | apply below_drew1 | refine below_set ?_ GE196.out) | exact HB.out))))
                have n3_ := Aside0.mk (blk_below (g := gb196) (o := .cells #[.int .i64 0, .slice none 0 0, .slice none 0 0] 25 (0, 0)) (by (with_reducible repeat (first | refine blk_drewN ?_ _ | refine blk_drew ?_ | refine blk_alloc ?_ _)); exact BK196.out) hb)
                have n4_ := Aside0.mk (below_step (by repeat (first | (with_reducible first | exact HB.out | apply below_alloc | apply pw_below_drewN | apply below_drew1 | refine below_set ?_ GE196.out) | exact HB.out)) hb)
                clear HO201
                clear HO204
                clear BK196
                clear HB
                have HO201 := n0_
                have HO204 := n1_
                have HO207 := n2_
                have BK196 := n3_
                have HB := n4_
                clear n0_ n1_ n2_ n3_ n4_
                clear hb ho17
                obtain ⟨Ao18, co18, eo18⟩ := Kd.S_slice HO207.out
                (first | subst eo18 | (injection eo18 with f1_ f2_ f3_; have f4_ := f1_.symm; have f5_ := f3_.symm; clear f1_ f2_ f3_; subst f4_; subst f5_))
                obtain ⟨Ao19, co19, eo19⟩ := Kd.R_slice HO204.out
                (first | subst eo19 | (injection eo19 with f1_ f2_ f3_; have f4_ := f1_.symm; have f5_ := f3_.symm; clear f1_ f2_ f3_; subst f4_; subst f5_))
                refine hK.out _ _ trivial (fun hHeld => ?_)
                clear hK K
                refine norm_ (a' := ?_) ?_ ?_
                rotate_left
                · show Act.put _ (some 20) _ = _
                  simp only [Act.put, List.setIfInBounds_toArray, List.set_cons_zero, List.set_cons_succ, i64_w, i32_w]
                  rfl
                exact norm_ (by simp only [putAll, Act.put, List.setIfInBounds_toArray, List.set_cons_zero, List.set_cons_succ]) (hCont (.slice Ao14 y199.length co14, .slice Ao19 t202.length co19, .slice Ao18 y205.length co18) _ ⟨(by (with_reducible repeat (first | apply Kd.R_alloc | apply Kd.R_drewN | apply Kd.R_drew)); exact Kd.R_mono HO201.out (fun _ hk => hk.2)), (by (with_reducible repeat (first | apply Kd.R_alloc | apply Kd.R_drewN | apply Kd.R_drew)); exact Kd.R_mono HO204.out (fun _ hk => hk.2)), (by (with_reducible repeat (first | apply Kd.S_alloc | apply Kd.S_drewN | apply Kd.S_drew)); exact HO207.out), (by (with_reducible repeat (first | refine blk_drewN ?_ _ | refine blk_drew ?_ | refine blk_alloc ?_ _)); exact BK196.out), (by repeat (first | (with_reducible first | exact HB.out | apply below_alloc | apply pw_below_drewN | apply below_drew1 | refine below_set ?_ GE196.out) | exact HB.out))⟩)
              · skip
                refine Kd.S_make_step (Kd.slice 74 (Kd.int .i16)) _ 27 (by rfl) (N := 20) rfl 23 _ _ rfl a0 rfl rfl Try.underlying23 (.slice none 0 0) 24 info27 rfl (by decide) (by omega) [] (ok := fun _ => True) (okp := fun _ => True) ⟨_, rfl, Kd.R_nil _ _ _ _ _⟩ (fun _ hk => hk) trivial (of_decide_eq_true (by first | (with_reducible assumption) | assumption)) (Nat.le_trans (Nat.mul_le_mul_right _ (of_decide_eq_true (by first | (with_reducible assumption) | assumption) : a0.toNat ≤ 11728124029610)) (by omega)) (Below.refl _ _) (Nat.le_refl _) ?_
                intro v206 w14 ho15 hb hg_ hnew_
                clear hg_ hnew_
                (first | rw [← Ny205.out] at ho15 | (simp only [Int.reduceToNat] at ho15; rw [← Ny205.out] at ho15))
                have n0_ := Aside0.mk (Kd.R_below (by (with_reducible repeat (first | apply Kd.R_alloc | apply Kd.R_drewN | apply Kd.R_drew)); exact HO201.out) hb)
                have n1_ := Aside0.mk (Kd.S_lower ho15 (below_size (by repeat (first | (with_reducible first | exact HB.out | apply below_alloc | apply pw_below_drewN | apply below_drew1 | refine below_set ?_ GE196.out) | exact HB.out))))
                have n2_ := Aside0.mk (blk_below (g := gb196) (o := .cells #[.int .i64 0, .slice none 0 0, .slice none 0 0] 25 (0, 0)) (by (with_reducible repeat (first | refine blk_drewN ?_ _ | refine blk_drew ?_ | refine blk_alloc ?_ _)); exact BK196.out) hb)
                have n3_ := Aside0.mk (below_step (by repeat (first | (with_reducible first | exact HB.out | apply below_alloc | apply pw_below_drewN | apply below_drew1 | refine below_set ?_ GE196.out) | exact HB.out)) hb)
                clear HO201
                clear BK196
                clear HB
                have HO201 := n0_
                have HO207 := n1_
                have BK196 := n2_
                have HB := n3_
                clear n0_ n1_ n2_ n3_
                clear hb ho15
                obtain ⟨Ao16, co16, eo16⟩ := Kd.R_slice HO201.out
                (first | subst eo16 | (injection eo16 with f1_ f2_ f3_; have f4_ := f1_.symm; have f5_ := f3_.symm; clear f1_ f2_ f3_; subst f4_; subst f5_))
                refine hK.out _ _ trivial (fun hHeld => ?_)
                clear hK K
                refine norm_ (a' := ?_) ?_ ?_
                rotate_left
                · show Act.put _ (some 20) _ = _
                  simp only [Act.put, List.setIfInBounds_toArray, List.set_cons_zero, List.set_cons_succ, i64_w, i32_w]
                  rfl
                refine one_ (i := 3) (N := some 18) #[true, true, true, true, true, true, false, false, false] rfl rfl (one_of HT_.out (by kernel_rfl)) (by decide) (fun K hK => ?_)
                refine goes_ Try.func125 (by kernel_rfl) rfl #[.slice Ao16 y199.length co16, .int .i64 a0] (by rfl) rfl rfl (by (try simp only [List.map_toArray, List.map_cons, List.map_nil]); first | done | rfl | (simp only [List.length_drop, List.length_take]; rfl)) ?_
                with_reducible refine (h_RepeatI64.calls _ _ y199 a0 t202 _ ?side1 ?side2 A7.out).mono ?_
                (case side1 => repeat (first | exact (Kd.R_reads' HO201.out).2.2 | (with_reducible refine Kd.C_alloc ?_ _) | (with_reducible refine Kd.C_drewN ?_ _) | (with_reducible refine Kd.C_drew ?_)))
                (case side2 => exact (Kd.R_reads' HO201.out).2.1)
                rintro e w17 ⟨v203, rfl, ho0, hb⟩
                refine ⟨_, rfl, ?_⟩
                have n0_ := Aside0.mk (Kd.R_elder' (by (with_reducible repeat (first | apply Kd.R_alloc | apply Kd.R_drewN | apply Kd.R_drew)); exact HO201.out) (Kd.R_base ho0) hb)
                have n1_ := Aside0.mk (Kd.S_below (by (with_reducible repeat (first | apply Kd.S_alloc | apply Kd.S_drewN | apply Kd.S_drew)); exact HO207.out) hb)
                have n2_ := Aside0.mk (Kd.R_lower (Kd.R_new' ho0 (Kd.R_lt (by (with_reducible repeat (first | apply Kd.R_alloc | apply Kd.R_drewN | apply Kd.R_drew)); exact HO201.out))) (below_size (by repeat (first | (with_reducible first | exact HB.out | apply below_alloc | apply pw_below_drewN | apply below_drew1 | refine below_set ?_ GE196.out) | exact HB.out))))
                have n3_ := Aside0.mk (blk_below (g := gb196) (o := .cells #[.int .i64 0, .slice none 0 0, .slice none 0 0] 25 (0, 0)) (by (with_reducible repeat (first | refine blk_drewN ?_ _ | refine blk_drew ?_ | refine blk_alloc ?_ _)); exact BK196.out) hb)
                have n4_ := Aside0.mk (below_step (by repeat (first | (with_reducible first | exact HB.out | apply below_alloc | apply pw_below_drewN | apply below_drew1 | refine below_set ?_ GE196.out) | exact HB.out)) hb)
                clear HO201
                clear HO207
                clear BK196
                clear HB
                have HO201 := n0_
                have HO207 := n1_
                have HO204 := n2_
                have BK196 := n3_
                have HB := n4_
                clear n0_ n1_ n2_ n3_ n4_
                (try clear hb)
                (try clear hb2)
                (try clear hk)
                (try clear hi)
                (try clear ho0)
                obtain ⟨Ao18, co18, eo18⟩ := Kd.S_slice HO207.out
                (first | subst eo18 | (injection eo18 with f1_ f2_ f3_; have f4_ := f1_.symm; have f5_ := f3_.symm; clear f1_ f2_ f3_; subst f4_; subst f5_))
                obtain ⟨Ao19, co19, eo19⟩ := Kd.R_slice HO204.out
                (first | subst eo19 | (injection eo19 with f1_ f2_ f3_; have f4_ := f1_.symm; have f5_ := f3_.symm; clear f1_ f2_ f3_; subst f4_; subst f5_))
                refine hK.out _ _ trivial (fun hHeld => ?_)
                clear hK K
                refine norm_ (a' := ?_) ?_ ?_
                rotate_left
                · show Act.put _ (some 18) _ = _
                  simp only [Act.put, List.setIfInBounds_toArray, List.set_cons_zero, List.set_cons_succ, i64_w, i32_w]
                  rfl
                exact norm_ (by simp only [putAll, Act.put, List.setIfInBounds_toArray, List.set_cons_zero, List.set_cons_succ]) (hCont (.slice Ao16 y199.length co16, .slice Ao19 t202.length co19, .slice Ao18 y205.length co18) _ ⟨(by (with_reducible repeat (first | apply Kd.R_alloc | apply Kd.R_drewN | apply Kd.R_drew)); exact Kd.R_mono HO201.out (fun _ hk => hk.2)), (by (with_reducible repeat (first | apply Kd.R_alloc | apply Kd.R_drewN | apply Kd.R_drew)); exact Kd.R_mono HO204.out (fun _ hk => hk.2)), (by (with_reducible repeat (first | apply Kd.S_alloc | apply Kd.S_drewN | apply Kd.S_drew)); exact HO207.out), (by (with_reducible repeat (first | refine blk_drewN ?_ _ | refine blk_drew ?_ | refine blk_alloc ?_ _)); exact BK196.out), (by repeat (first | (with_reducible first | exact HB.out | apply below_alloc | apply pw_below_drewN | apply below_drew1 | refine below_set ?_ GE196.out) | exact HB.out))⟩)
            · skip
              refine Kd.S_make_step (Kd.slice 74 (Kd.int .i16)) _ 27 (by rfl) (N := 20) rfl 23 _ _ rfl a0 rfl rfl Try.underlying23 (.slice none 0 0) 24 info27 rfl (by decide) (by omega) [] (ok := fun _ => True) (okp := fun _ => True) ⟨_, rfl, Kd.R_nil _ _ _ _ _⟩ (fun _ hk => hk) trivial (of_decide_eq_true (by first | (with_reducible assumption) | assumption)) (Nat.le_trans (Nat.mul_le_mul_right _ (of_decide_eq_true (by first | (with_reducible assumption) | assumption) : a0.toNat ≤ 11728124029610)) (by omega)) (Below.refl _ _) (Nat.le_refl _) ?_
              intro v206 w12 ho13 hb hg_ hnew_
              clear hg_ hnew_
              (first | rw [← Ny205.out] at ho13 | (simp only [Int.reduceToNat] at ho13; rw [← Ny205.out] at ho13))
              have n0_ := Aside0.mk (Kd.S_lower ho13 (below_size (by repeat (first | (with_reducible first | exact HB.out | apply below_alloc | apply pw_below_drewN | apply below_drew1 | refine below_set ?_ GE196.out) | exact HB.out))))
              have n1_ := Aside0.mk (blk_below (g := gb196) (o := .cells #[.int .i64 0, .slice none 0 0, .slice none 0 0] 25 (0, 0)) (by (with_reducible repeat (first | refine blk_drewN ?_ _ | refine blk_drew ?_ | refine blk_alloc ?_ _)); exact BK196.out) hb)
              have n2_ := Aside0.mk (below_step (by repeat (first | (with_reducible first | exact HB.out | apply below_alloc | apply pw_below_drewN | apply below_drew1 | refine below_set ?_ GE196.out) | exact HB.out)) hb)
              clear BK196
              clear HB
              have HO207 := n0_
              have BK196 := n1_
              have HB := n2_
              clear n0_ n1_ n2_
              clear hb ho13
              refine hK.out _ _ trivial (fun hHeld => ?_)
              clear hK K
              refine norm_ (a' := ?_) ?_ ?_
              rotate_left
              · show Act.put _ (some 20) _ = _
                simp only [Act.put, List.setIfInBounds_toArray, List.set_cons_zero, List.set_cons_succ, i64_w, i32_w]
                rfl
              refine one_ (i := 1) (N := some 16) #[true, true, true, false, true, true, false, false, false] rfl rfl (one_of HT_.out (by kernel_rfl)) (by decide) (fun K hK => ?_)
              refine Kd.R_lit_step (Kd.int .i64) _ 2 ?hg (N := 16) ?hd (xs := ([(-1)] : List Int)) (inner := [.int .i64 (-1)]) (ok := fun _ => True) (okp := fun _ => True) ?hr ?hp (fun _ hk => hk) trivial (Below.refl _ _) (Nat.le_refl _) (by simp) ?_; (case hd => rfl); (case hg => rfl); (case hr => first | (go_simp; done) | (go_simp; rfl)); (case hp => exact (Reps.one (show Kd.M (Kd.int .i64) _ _ _ (-1) [.int .i64 (-1)] from rfl) (Reps.none _ _)))
              intro v200 w14 ho15 hb hg_ hnew_
              clear hg_ hnew_
              (first | rw [← Ny199.out] at ho15 | (simp only [Int.reduceToNat] at ho15; rw [← Ny199.out] at ho15))
              have n0_ := Aside0.mk (Kd.S_below (by (with_reducible repeat (first | apply Kd.S_alloc | apply Kd.S_drewN | apply Kd.S_drew)); exact HO207.out) hb)
              have n1_ := Aside0.mk (Kd.R_lower ho15 (below_size (by repeat (first | (with_reducible first | exact HB.out | apply below_alloc | apply pw_below_drewN | apply below_drew1 | refine below_set ?_ GE196.out) | exact HB.out))))
              have n2_ := Aside0.mk (blk_below (g := gb196) (o := .cells #[.int .i64 0, .slice none 0 0, .slice none 0 0] 25 (0, 0)) (by (with_reducible repeat (first | refine blk_drewN ?_ _ | refine blk_drew ?_ | refine blk_alloc ?_ _)); exact BK196.out) hb)
              have n3_ := Aside0.mk (below_step (by repeat (first | (with_reducible first | exact HB.out | apply below_alloc | apply pw_below_drewN | apply below_drew1 | refine below_set ?_ GE196.out) | exact HB.out)) hb)
              clear HO207
              clear BK196
              clear HB
              have HO207 := n0_
              have HO201 := n1_
              have BK196 := n2_
              have HB := n3_
              clear n0_ n1_ n2_ n3_
              clear hb ho15
              obtain ⟨Ao16, co16, eo16⟩ := Kd.R_slice HO201.out
              (first | subst eo16 | (injection eo16 with f1_ f2_ f3_; have f4_ := f1_.symm; have f5_ := f3_.symm; clear f1_ f2_ f3_; subst f4_; subst f5_))
              refine hK.out _ _ trivial (fun hHeld => ?_)
              clear hK K
              refine norm_ (a' := ?_) ?_ ?_
              rotate_left
              · show Act.put _ (some 16) _ = _
                simp only [Act.put, List.setIfInBounds_toArray, List.set_cons_zero, List.set_cons_succ, i64_w, i32_w]
                rfl
              refine one_ (i := 3) (N := some 18) #[true, true, true, true, true, true, false, false, false] rfl rfl (one_of HT_.out (by kernel_rfl)) (by decide) (fun K hK => ?_)
              refine goes_ Try.func125 (by kernel_rfl) rfl #[.slice Ao16 y199.length co16, .int .i64 a0] (by rfl) rfl rfl (by (try simp only [List.map_toArray, List.map_cons, List.map_nil]); first | done | rfl | (simp only [List.length_drop, List.length_take]; rfl)) ?_
              with_reducible refine (h_RepeatI64.calls _ _ y199 a0 t202 _ ?side1 ?side2 A7.out).mono ?_
              (case side1 => repeat (first | exact (Kd.R_reads' HO201.out).2.2 | (with_reducible refine Kd.C_alloc ?_ _) | (with_reducible refine Kd.C_drewN ?_ _) | (with_reducible refine Kd.C_drew ?_)))
              (case side2 => exact (Kd.R_reads' HO201.out).2.1)
              rintro e w17 ⟨v203, rfl, ho0, hb⟩
              refine ⟨_, rfl, ?_⟩
              have n0_ := Aside0.mk (Kd.S_below (by (with_reducible repeat (first | apply Kd.S_alloc | apply Kd.S_drewN | apply Kd.S_drew)); exact HO207.out) hb)
              have n1_ := Aside0.mk (Kd.R_elder' (by (with_reducible repeat (first | apply Kd.R_alloc | apply Kd.R_drewN | apply Kd.R_drew)); exact HO201.out) (Kd.R_base ho0) hb)
              have n2_ := Aside0.mk (Kd.R_lower (Kd.R_new' ho0 (Kd.R_lt (by (with_reducible repeat (first | apply Kd.R_alloc | apply Kd.R_drewN | apply Kd.R_drew)); exact HO201.out))) (below_size (by repeat (first | (with_reducible first | exact HB.out | apply below_alloc | apply pw_below_drewN | apply below_drew1 | refine below_set ?_ GE196.out) | exact HB.out))))
              have n3_ := Aside0.mk (blk_below (g := gb196) (o := .cells #[.int .i64 0, .slice none 0 0, .slice none 0 0] 25 (0, 0)) (by (with_reducible repeat (first | refine blk_drewN ?_ _ | refine blk_drew ?_ | refine blk_alloc ?_ _)); exact BK196.out) hb)
              have n4_ := Aside0.mk (below_step (by repeat (first | (with_reducible first | exact HB.out | apply below_alloc | apply pw_below_drewN | apply below_drew1 | refine below_set ?_ GE196.out) | exact HB.out)) hb)
              clear HO207
              clear HO201
              clear BK196
              clear HB
              have HO207 := n0_
              have HO201 := n1_
              have HO204 := n2_
              have BK196 := n3_
              have HB := n4_
              clear n0_ n1_ n2_ n3_ n4_
              (try clear hb)
              (try clear hb2)
              (try clear hk)
              (try clear hi)
              (try clear ho0)
              obtain ⟨Ao18, co18, eo18⟩ := Kd.S_slice HO207.out
              (first | subst eo18 | (injection eo18 with f1_ f2_ f3_; have f4_ := f1_.symm; have f5_ := f3_.symm; clear f1_ f2_ f3_; subst f4_; subst f5_))
              obtain ⟨Ao19, co19, eo19⟩ := Kd.R_slice HO204.out
              (first | subst eo19 | (injection eo19 with f1_ f2_ f3_; have f4_ := f1_.symm; have f5_ := f3_.symm; clear f1_ f2_ f3_; subst f4_; subst f5_))
              refine hK.out _ _ trivial (fun hHeld => ?_)
              clear hK K
              refine norm_ (a' := ?_) ?_ ?_
              rotate_left
              · show Act.put _ (some 18) _ = _
                simp only [Act.put, List.setIfInBounds_toArray, List.set_cons_zero, List.set_cons_succ, i64_w, i32_w]
                rfl
              exact norm_ (by simp only [putAll, Act.put, List.setIfInBounds_toArray, List.set_cons_zero, List.set_cons_succ]) (hCont (.slice Ao16 y199.length co16, .slice Ao19 t202.length co19, .slice Ao18 y205.length co18) _ ⟨(by (with_reducible repeat (first | apply Kd.R_alloc | apply Kd.R_drewN | apply Kd.R_drew)); exact Kd.R_mono HO201.out (fun _ hk => hk.2)), (by (with_reducible repeat (first | apply Kd.R_alloc | apply Kd.R_drewN | apply Kd.R_drew)); exact Kd.R_mono HO204.out (fun _ hk => hk.2)), (by (with_reducible repeat (first | apply Kd.S_alloc | apply Kd.S_drewN | apply Kd.S_drew)); exact HO207.out), (by (with_reducible repeat (first | refine blk_drewN ?_ _ | refine blk_drew ?_ | refine blk_alloc ?_ _)); exact BK196.out), (by repeat (first | (with_reducible first | exact HB.out | apply below_alloc | apply pw_below_drewN | apply below_drew1 | refine below_set ?_ GE196.out) | exact HB.out))⟩)
          rintro ⟨v200, v203, v206⟩ w20 ⟨h0_, h1_, h2_, h3_, h4_⟩
          have n0_ : Aside0 (Kd.R (Kd.int .i64) 2 w20 w.heap.size (fun k_ => some k_ ≠ (v203 : Value).ownBlock) v200 y199) := ⟨h0_⟩
          have n1_ : Aside0 (Kd.R (Kd.int .i64) 2 w20 w.heap.size (fun k_ => some k_ ≠ (v200 : Value).ownBlock) v203 t202) := ⟨h1_⟩
          have n2_ : Aside0 (Kd.S (Kd.slice 74 (Kd.int .i16)) 27 w20 w.heap.size (fun _ => True) v206 y205) := ⟨h2_⟩
          have n3_ : Aside0 (w20.heap[gb196]? = some (.cells #[.int .i64 0, .slice none 0 0, .slice none 0 0] 25 (0, 0))) := ⟨h3_⟩
          have n4_ : Aside0 (Below w.heap.size w w20) := ⟨h4_⟩
          clear BK196
          clear HB
          clear h0_ h1_ h2_ h3_ h4_
          have HO201 := n0_
          have HO204 := n1_
          have HO207 := n2_
          have BK196 := n3_
          have HB := n4_
          clear n0_ n1_ n2_ n3_ n4_
          have hHeld := trivial
          obtain ⟨Ao21, co21, eo21⟩ := Kd.S_slice HO207.out
          (first | subst eo21 | (injection eo21 with f1_ f2_ f3_; have f4_ := f1_.symm; have f5_ := f3_.symm; clear f1_ f2_ f3_; subst f4_; subst f5_))
          obtain ⟨Ao22, co22, eo22⟩ := Kd.R_slice HO204.out
          (first | subst eo22 | (injection eo22 with f1_ f2_ f3_; have f4_ := f1_.symm; have f5_ := f3_.symm; clear f1_ f2_ f3_; subst f4_; subst f5_))
          refine norm_ (a' := ?_) ?_ ?_
          rotate_left
          · simp only [putAll, Act.put, List.setIfInBounds_toArray, List.set_cons_zero, List.set_cons_succ]
            rfl
          refine pure_ (i := 6) (N := some 21) (v := ?_) (a' := ?_) #[true, true, true, true, true, true, true, false, false] rfl rfl (any_of HT_.out (by kernel_rfl)) (fun _ _ _ h => h) (Or.inl ⟨by rfl, ?_⟩) ?_ ?_
          rotate_left
          · intro w'
            go_simp
            with_reducible rfl
          rotate_left
          · simp only [Act.put, List.setIfInBounds_toArray, List.set_cons_zero, List.set_cons_succ, i64_w, i32_w]
            rfl
          refine one_ (i := 7) (N := none) #[true, true, true, true, true, true, true, true, false] rfl rfl (one_of HT_.out (by kernel_rfl)) (by decide) (fun K hK => ?_)
          have hs23 : w20.cell? ⟨gb196, 0, none⟩ = some (.int .i64 0) := (blk_cell BK196.out 0).trans rfl
          have hfs23 := blk_frozen BK196.out 0
          have hs24 : w20.cell? ⟨gb196, 1, none⟩ = some (.slice none 0 0) := (blk_cell BK196.out 1).trans rfl
          have hfs24 := blk_frozen BK196.out 1
          have hs25 : w20.cell? ⟨gb196, 2, none⟩ = some (.slice none 0 0) := (blk_cell BK196.out 2).trans rfl
          have hfs25 := blk_frozen BK196.out 2
          refine skip_ (w1 := ?_) (by rfl) rfl ?_ ?_
          rotate_left
          · go_simp
            rfl
          refine hK.out _ _ trivial (fun hHeld => ?_)
          clear hK K
          refine pure_ (i := 8) (N := some 5) (v := ?_) (a' := ?_) #[true, true, true, true, true, true, true, true, true] rfl rfl (any_of HT_.out (by kernel_rfl)) (fun _ _ _ h => h) (Or.inl ⟨by rfl, ?_⟩) ?_ ?_
          rotate_left
          · intro w'
            go_simp
            with_reducible rfl
          rotate_left
          · simp only [Act.put, List.setIfInBounds_toArray, List.set_cons_zero, List.set_cons_succ, i64_w, i32_w]
            rfl
          refine done_ (done_of HT_.out (by kernel_rfl)) ?_
          try go_wp2
          refine bodyPost_ret (results_ct rfl _ _ gb196 25 #[.int .i64 a1, .slice Ao22 t202.length co22, .slice Ao21 y205.length co21] (0, 0) _ rfl (by (with_reducible repeat (first | refine blk_drewN ?_ _ | refine blk_drew ?_ | refine blk_alloc ?_ _)); refine blk_put (cs := #[.int .i64 a1, .slice Ao22 t202.length co22, .slice none 0 0]) ?_ 2 _ rfl; (with_reducible repeat (first | refine blk_drewN ?_ _ | refine blk_drew ?_ | refine blk_alloc ?_ _)); refine blk_put (cs := #[.int .i64 a1, .slice none 0 0, .slice none 0 0]) ?_ 1 _ rfl; (with_reducible repeat (first | refine blk_drewN ?_ _ | refine blk_drew ?_ | refine blk_alloc ?_ _)); refine blk_put (cs := #[.int .i64 0, .slice none 0 0, .slice none 0 0]) ?_ 0 _ rfl; (with_reducible repeat (first | refine blk_drewN ?_ _ | refine blk_drew ?_ | refine blk_alloc ?_ _)); exact BK196.out) Try.underlying25 rfl (by kernel_rfl)) rfl ?_
          exact ⟨_, _, by first | rfl | (simp [errW_none, errW_some] <;> rfl) | (simp [*, errW_none, errW_some] <;> rfl), by (with_reducible repeat (first | apply Kd.R_alloc | apply Kd.R_drewN | apply Kd.R_drew)); exact Kd.R_mono (Kd.R_far (p := ⟨gb196, 2, none⟩) (Kd.R_far (p := ⟨gb196, 1, none⟩) (Kd.R_far (p := ⟨gb196, 0, none⟩) (Kd.R_types HO204.out BK196.out (by decide)) (fun _ hk => hk.2) (.int .i64 a1)) (fun _ hk => hk.2) (.slice Ao22 t202.length co22)) (fun _ hk => hk.2) (.slice Ao21 y205.length co21)) (fun _ hk => trivial), by (with_reducible repeat (first | apply Kd.S_alloc | apply Kd.S_drewN | apply Kd.S_drew)); exact Kd.S_mono (Kd.S_far (p := ⟨gb196, 2, none⟩) (Kd.S_far (p := ⟨gb196, 1, none⟩) (Kd.S_far (p := ⟨gb196, 0, none⟩) (Kd.S_types HO207.out BK196.out (by decide)) (fun _ hk => hk.2) (.int .i64 a1)) (fun _ hk => hk.2) (.slice Ao22 t202.length co22)) (fun _ hk => hk.2) (.slice Ao21 y205.length co21)) (fun _ hk => trivial), by repeat (first | (with_reducible first | exact HB.out | apply below_alloc | apply pw_below_drewN | apply below_drew1 | refine below_set ?_ GE196.out) | exact HB.out)⟩
        · rw [if_neg c9] at H
          exact absurd H (by simp)
      · rw [if_neg c8] at H
        exact absurd H (by simp)
    · replace c6 := Bool.eq_false_iff.mpr c6
      subst c6
      have H1 : (some (0, ([] : List Int), ([] : List (List Int)), 1)) = some (r1, r2, r3, r4) := by rw [if_neg (show ¬ (false = true) by decide)] at H; exact H
      clear H
      have H := H1
      clear H1
      simp only [Option.some.injEq, Prod.mk.injEq] at H
      obtain ⟨rfl, rfl, rfl, rfl⟩ := H
      go_enter Try.func64, Try.ntmps64
      go_wp2_with (first | ((with_reducible refine gate_dst (N := 4) rfl ?_); refine box_event ?hg (N := 4) ?hd (cs := #[.int .i64 0, .slice none 0 0, .slice none 0 0]) (t := 25) ?hr ?_; (case hd => rfl); (case hg => rfl); (case hr => first | (go_simp; done) | (go_simp; rfl)); intro gb196 hg w26 hbox hb; have n0_ := Aside0.mk (below_step (by repeat (first | (with_reducible first | exact HB.out | apply below_alloc | apply pw_below_drewN | apply below_drew1) | exact HB.out)) hb); have n1_ := Aside0.mk (hbox); have n2_ := Aside0.mk ((by rw [hg]; exact (below_size (by repeat (first | (with_reducible first | exact HB.out | apply below_alloc | apply pw_below_drewN | apply below_drew1) | exact HB.out))) : w.heap.size ≤ gb196)); have n3_ := Aside0.mk ((by rw [hg]; exact (below_size (by repeat (first | (with_reducible first | exact HB.out | apply below_alloc | apply pw_below_drewN | apply below_drew1) | exact HB.out))) : w.heap.size ≤ gb196)); clear HB; have HB := n0_; have BK196 := n1_; have GW196 := n2_; have GE196 := n3_; clear n0_ n1_ n2_ n3_; clear hb hbox hg) | ((with_reducible refine gate_callee (f := 124) rfl ?_); refine goesL_ (some 7) rfl rfl Try.func124 (by kernel_rfl) rfl #[.int .i64 a0, .int .i64 256] rfl (by (try simp only [List.map_toArray, List.map_cons, List.map_nil]); first | done | rfl | (simp only [List.length_drop, List.length_take]; rfl)) ?_; (with_reducible refine (slots_within.calls a0 256 true _ A3.out).mono ?_); rintro e w' ⟨rfl, ⟨nd, rfl⟩⟩; refine ⟨_, rfl, ?_⟩; (try (rw [drewN_self w26]; generalize hq_ : World.drewN w26 _ = w26; have n0_ : Aside0 (w26.heap[gb196]? = some (.cells #[.int .i64 0, .slice none 0 0, .slice none 0 0] 25 (0, 0))) := ⟨by rw [← hq_]; exact (by (with_reducible repeat (first | refine blk_drewN ?_ _ | refine blk_drew ?_ | refine blk_alloc ?_ _)); exact BK196.out)⟩; have n1_ : Aside0 (Below w.heap.size w w26) := ⟨by rw [← hq_]; exact (by repeat (first | (with_reducible first | exact HB.out | apply below_alloc | apply pw_below_drewN | apply below_drew1 | refine below_set ?_ GE196.out) | exact HB.out))⟩; clear BK196 HB hq_; have BK196 := n0_; have HB := n1_; clear n0_ n1_))) | (go_at_call 124; (with_reducible refine (slots_within.calls a1 64 false _ A5.out).mono ?_); rintro e w' ⟨rfl, ⟨nd, rfl⟩⟩; (try (rw [drewN_self w26]; generalize hq_ : World.drewN w26 _ = w26; have n0_ : Aside0 (w26.heap[gb196]? = some (.cells #[.int .i64 0, .slice none 0 0, .slice none 0 0] 25 (0, 0))) := ⟨by rw [← hq_]; exact (by (with_reducible repeat (first | refine blk_drewN ?_ _ | refine blk_drew ?_ | refine blk_alloc ?_ _)); exact BK196.out)⟩; have n1_ : Aside0 (Below w.heap.size w w26) := ⟨by rw [← hq_]; exact (by repeat (first | (with_reducible first | exact HB.out | apply below_alloc | apply pw_below_drewN | apply below_drew1 | refine below_set ?_ GE196.out) | exact HB.out))⟩; clear BK196 HB hq_; have BK196 := n0_; have HB := n1_; clear n0_ n1_)); have hcz27_0 : w26.cell? ⟨gb196, 0, none⟩ = some (.int .i64 0) := (blk_cell BK196.out 0).trans rfl; have hcz27_1 : w26.cell? ⟨gb196, 1, none⟩ = some (.slice none 0 0) := (blk_cell BK196.out 1).trans rfl; have hcz27_2 : w26.cell? ⟨gb196, 2, none⟩ = some (.slice none 0 0) := (blk_cell BK196.out 2).trans rfl; have hfz27_0 := blk_frozen BK196.out 0; have hfz27_1 := blk_frozen BK196.out 1; have hfz27_2 := blk_frozen BK196.out 2))
      refine bodyPost_ret (results_ct rfl _ _ gb196 25 #[.int .i64 0, .slice none 0 0, .slice none 0 0] (0, 0) _ rfl (by (with_reducible repeat (first | refine blk_drewN ?_ _ | refine blk_drew ?_ | refine blk_alloc ?_ _)); refine blk_put (cs := #[.int .i64 0, .slice none 0 0, .slice none 0 0]) ?_ 2 _ rfl; (with_reducible repeat (first | refine blk_drewN ?_ _ | refine blk_drew ?_ | refine blk_alloc ?_ _)); refine blk_put (cs := #[.int .i64 0, .slice none 0 0, .slice none 0 0]) ?_ 1 _ rfl; (with_reducible repeat (first | refine blk_drewN ?_ _ | refine blk_drew ?_ | refine blk_alloc ?_ _)); refine blk_put (cs := #[.int .i64 0, .slice none 0 0, .slice none 0 0]) ?_ 0 _ rfl; (with_reducible repeat (first | refine blk_drewN ?_ _ | refine blk_drew ?_ | refine blk_alloc ?_ _)); exact BK196.out) Try.underlying25 rfl (by kernel_rfl)) rfl ?_
      exact ⟨_, _, by first | rfl | (simp [errW_none, errW_some] <;> rfl) | (simp [*, errW_none, errW_some] <;> rfl), by first | exact Kd.R_nil _ _ _ _ _ | exact Kd.N_nil _ _ _ _ _ | exact Kd.V_nil _ _ _ _ _ | exact Kd.Q_nil _ _ _ _ _ | exact Kd.S_nil _ _ _ _ _, by first | exact Kd.S_nil _ _ _ _ _ | exact Kd.N_nil _ _ _ _ _ | exact Kd.V_nil _ _ _ _ _ | exact Kd.Q_nil _ _ _ _ _ | exact Kd.R_nil _ _ _ _ _, by repeat (first | (with_reducible first | exact HB.out | apply below_alloc | apply pw_below_drewN | apply below_drew1 | refine below_set ?_ GE196.out) | exact HB.out)⟩
  · replace c4 := Bool.eq_false_iff.mpr c4
    subst c4
    have H1 : (some (0, ([] : List Int), ([] : List (List Int)), 1)) = some (r1, r2, r3, r4) := by rw [if_neg (show ¬ (false = true) by decide)] at H; exact H
    clear H
    have H := H1
    clear H1
    simp only [Option.some.injEq, Prod.mk.injEq] at H
    obtain ⟨rfl, rfl, rfl, rfl⟩ := H
    go_enter Try.func64, Try.ntmps64
    go_wp2_with (first | ((with_reducible refine gate_dst (N := 4) rfl ?_); refine box_event ?hg (N := 4) ?hd (cs := #[.int .i64 0, .slice none 0 0, .slice none 0 0]) (t := 25) ?hr ?_; (case hd => rfl); (case hg => rfl); (case hr => first | (go_simp; done) | (go_simp; rfl)); intro gb196 hg w28 hbox hb; have n0_ := Aside0.mk (below_step (by repeat (first | (with_reducible first | exact HB.out | apply below_alloc | apply pw_below_drewN | apply below_drew1) | exact HB.out)) hb); have n1_ := Aside0.mk (hbox); have n2_ := Aside0.mk ((by rw [hg]; exact (below_size (by repeat (first | (with_reducible first | exact HB.out | apply below_alloc | apply pw_below_drewN | apply below_drew1) | exact HB.out))) : w.heap.size ≤ gb196)); have n3_ := Aside0.mk ((by rw [hg]; exact (below_size (by repeat (first | (with_reducible first | exact HB.out | apply below_alloc | apply pw_below_drewN | apply below_drew1) | exact HB.out))) : w.heap.size ≤ gb196)); clear HB; have HB := n0_; have BK196 := n1_; have GW196 := n2_; have GE196 := n3_; clear n0_ n1_ n2_ n3_; clear hb hbox hg) | ((with_reducible refine gate_callee (f := 124) rfl ?_); refine goesL_ (some 7) rfl rfl Try.func124 (by kernel_rfl) rfl #[.int .i64 a0, .int .i64 256] rfl (by (try simp only [List.map_toArray, List.map_cons, List.map_nil]); first | done | rfl | (simp only [List.length_drop, List.length_take]; rfl)) ?_; (with_reducible refine (slots_within.calls a0 256 false _ A3.out).mono ?_); rintro e w' ⟨rfl, ⟨nd, rfl⟩⟩; refine ⟨_, rfl, ?_⟩; (try (rw [drewN_self w28]; generalize hq_ : World.drewN w28 _ = w28; have n0_ : Aside0 (w28.heap[gb196]? = some (.cells #[.int .i64 0, .slice none 0 0, .slice none 0 0] 25 (0, 0))) := ⟨by rw [← hq_]; exact (by (with_reducible repeat (first | refine blk_drewN ?_ _ | refine blk_drew ?_ | refine blk_alloc ?_ _)); exact BK196.out)⟩; have n1_ : Aside0 (Below w.heap.size w w28) := ⟨by rw [← hq_]; exact (by repeat (first | (with_reducible first | exact HB.out | apply below_alloc | apply pw_below_drewN | apply below_drew1 | refine below_set ?_ GE196.out) | exact HB.out))⟩; clear BK196 HB hq_; have BK196 := n0_; have HB := n1_; clear n0_ n1_)); have hcz29_0 : w28.cell? ⟨gb196, 0, none⟩ = some (.int .i64 0) := (blk_cell BK196.out 0).trans rfl; have hcz29_1 : w28.cell? ⟨gb196, 1, none⟩ = some (.slice none 0 0) := (blk_cell BK196.out 1).trans rfl; have hcz29_2 : w28.cell? ⟨gb196, 2, none⟩ = some (.slice none 0 0) := (blk_cell BK196.out 2).trans rfl; have hfz29_0 := blk_frozen BK196.out 0; have hfz29_1 := blk_frozen BK196.out 1; have hfz29_2 := blk_frozen BK196.out 2))
    refine bodyPost_ret (results_ct rfl _ _ gb196 25 #[.int .i64 0, .slice none 0 0, .slice none 0 0] (0, 0) _ rfl (by (with_reducible repeat (first | refine blk_drewN ?_ _ | refine blk_drew ?_ | refine blk_alloc ?_ _)); refine blk_put (cs := #[.int .i64 0, .slice none 0 0, .slice none 0 0]) ?_ 2 _ rfl; (with_reducible repeat (first | refine blk_drewN ?_ _ | refine blk_drew ?_ | refine blk_alloc ?_ _)); refine blk_put (cs := #[.int .i64 0, .slice none 0 0, .slice none 0 0]) ?_ 1 _ rfl; (with_reducible repeat (first | refine blk_drewN ?_ _ | refine blk_drew ?_ | refine blk_alloc ?_ _)); refine blk_put (cs := #[.int .i64 0, .slice none 0 0, .slice none 0 0]) ?_ 0 _ rfl; (with_reducible repeat (first | refine blk_drewN ?_ _ | refine blk_drew ?_ | refine blk_alloc ?_ _)); exact BK196.out) Try.underlying25 rfl (by kernel_rfl)) rfl ?_
    exact ⟨_, _, by first | rfl | (simp [errW_none, errW_some] <;> rfl) | (simp [*, errW_none, errW_some] <;> rfl), by first | exact Kd.R_nil _ _ _ _ _ | exact Kd.N_nil _ _ _ _ _ | exact Kd.V_nil _ _ _ _ _ | exact Kd.Q_nil _ _ _ _ _ | exact Kd.S_nil _ _ _ _ _, by first | exact Kd.S_nil _ _ _ _ _ | exact Kd.N_nil _ _ _ _ _ | exact Kd.V_nil _ _ _ _ _ | exact Kd.Q_nil _ _ _ _ _ | exact Kd.R_nil _ _ _ _ _, by repeat (first | (with_reducible first | exact HB.out | apply below_alloc | apply pw_below_drewN | apply below_drew1 | refine below_set ?_ GE196.out) | exact HB.out)⟩

end Go.Proofs.Ytkjibgfgbfacdaa.P
end
/-! part: F24 -/
section
set_option linter.unusedVariables false
set_option linter.unusedSimpArgs false
namespace Go.Proofs.Ytkjibgfgbfacdaa.P
open Go.RowKit Go.Proofs.YtkjibgfgbfacdaaW.PrintWords Go.Proofs.YtkjibgfgbfacdaaW.PrintLast Go.Proofs.YtkjibgfgbfacdaaW.PrintMore
attribute [local go_sem] max2_int min2_int max_two min_two max_three min_three max_four min_four   -- for this text's walks alone
set_option linter.unusedVariables false
set_option linter.unusedSimpArgs false

/-! ### cuvettelaw10_live: function 24 -/
def cuvettelaw10_live.f0 (k : Nat)  : Option (Bool) := (slots_New.f 2 1).bind fun bt208 => ((slots_Put.f k bt208.1 bt208.2.1 bt208.2.2.1 7 (([1] : List Int))).bind fun bt220 => ((slots_Put.f k bt220.2.1 bt220.2.2.1 bt220.2.2.2.1 3 (([2] : List Int))).bind fun bt232 => ((slots_Del.f k bt232.2.1 bt232.2.2.1 bt232.2.2.2.1 7).bind fun bt241 => ((slots_Put.f k bt241.2.1 bt241.2.2.1 bt241.2.2.2.1 9 (([4] : List Int))).bind fun bt253 => (if bt208.2.2.2 = 0 then (if bt220.2.2.2.2 = 0 then (if bt232.2.2.2.2 = 0 then (if bt241.2.2.2.2 = 0 then (if bt253.2.2.2.2 = 0 then (if bt253.1 = 0 then ((cuvetteref03_SameInts.f k bt253.2.2.1 (([9, 3] : List Int))).bind fun t265 => (some t265)) else (some false)) else (some false)) else (some false)) else (some false)) else (some false)) else (some false))))))
theorem cuvettelaw10_live.mono0 : ∀ k, LeO (cuvettelaw10_live.f0 k ) (cuvettelaw10_live.f0 (k + 1) ) := by
  intro  k
  unfold cuvettelaw10_live.f0
  repeat' first
      | (with_reducible exact cuvetteref03_SameInts.mono _ _ _)
      | (with_reducible exact slots_Del.mono _ _ _ _ _)
      | (with_reducible exact slots_Put.mono _ _ _ _ _ _)
      | (with_reducible exact LeO.refl _)
      | (with_reducible exact LeO.none _)
      | (with_reducible refine LeO.ite ?_ ?_)
      | (with_reducible refine LeO.bind ?_ (fun _ => ?_))
      | exact cuvetteref03_SameInts.mono _ _ _
      | exact slots_Del.mono _ _ _ _ _
      | exact slots_Put.mono _ _ _ _ _ _
      | exact LeO.none _
      | refine LeO.ite ?_ ?_
      | refine LeO.bind ?_ (fun _ => ?_)
set_option maxHeartbeats 8000000 in
set_option maxRecDepth 100000 in
theorem cuvettelaw10_live.calls0 (k : Nat)  (r : Bool) (w : World) (h : cuvettelaw10_live.f0 k  = some r) (hT_ : r = true) :
    Calls Try.prog 24 #[] w fun e w' => e = .returned (.bool r) ∧ Below w.heap.size w w' := by
  have hu25 := Try.underlying25
  have HB := Aside0.mk (Below.refl w.heap.size w)
  have H : ((slots_New.f 2 1).bind fun bt208 => ((slots_Put.f k bt208.1 bt208.2.1 bt208.2.2.1 7 (([1] : List Int))).bind fun bt220 => ((slots_Put.f k bt220.2.1 bt220.2.2.1 bt220.2.2.2.1 3 (([2] : List Int))).bind fun bt232 => ((slots_Del.f k bt232.2.1 bt232.2.2.1 bt232.2.2.2.1 7).bind fun bt241 => ((slots_Put.f k bt241.2.1 bt241.2.2.1 bt241.2.2.2.1 9 (([4] : List Int))).bind fun bt253 => (if bt208.2.2.2 = 0 then (if bt220.2.2.2.2 = 0 then (if bt232.2.2.2.2 = 0 then (if bt241.2.2.2.2 = 0 then (if bt253.2.2.2.2 = 0 then (if bt253.1 = 0 then ((cuvetteref03_SameInts.f k bt253.2.2.1 (([9, 3] : List Int))).bind fun t265 => (some t265)) else (some false)) else (some false)) else (some false)) else (some false)) else (some false)) else (some false))))))) = some r := h
  clear h
  replace H := Option.bind_eq_some_iff.mp H
  obtain ⟨⟨t208, t209, t212, t215⟩, A10, H⟩ := H
  replace H : ((slots_Put.f k t208 t209 t212 7 (([1] : List Int))).bind fun bt220 => ((slots_Put.f k bt220.2.1 bt220.2.2.1 bt220.2.2.2.1 3 (([2] : List Int))).bind fun bt232 => ((slots_Del.f k bt232.2.1 bt232.2.2.1 bt232.2.2.2.1 7).bind fun bt241 => ((slots_Put.f k bt241.2.1 bt241.2.2.1 bt241.2.2.2.1 9 (([4] : List Int))).bind fun bt253 => (if t215 = 0 then (if bt220.2.2.2.2 = 0 then (if bt232.2.2.2.2 = 0 then (if bt241.2.2.2.2 = 0 then (if bt253.2.2.2.2 = 0 then (if bt253.1 = 0 then ((cuvetteref03_SameInts.f k bt253.2.2.1 (([9, 3] : List Int))).bind fun t265 => (some t265)) else (some false)) else (some false)) else (some false)) else (some false)) else (some false)) else (some false)))))) = some r := H
  have A1 := Aside0.mk A10
  clear A10
  obtain ⟨y217, hy217⟩ : ∃ y_ : List Int, y_ = (([1] : List Int)) := ⟨_, rfl⟩
  replace H : ((slots_Put.f k t208 t209 t212 7 y217).bind fun bt220 => ((slots_Put.f k bt220.2.1 bt220.2.2.1 bt220.2.2.2.1 3 (([2] : List Int))).bind fun bt232 => ((slots_Del.f k bt232.2.1 bt232.2.2.1 bt232.2.2.2.1 7).bind fun bt241 => ((slots_Put.f k bt241.2.1 bt241.2.2.1 bt241.2.2.2.1 9 (([4] : List Int))).bind fun bt253 => (if t215 = 0 then (if bt220.2.2.2.2 = 0 then (if bt232.2.2.2.2 = 0 then (if bt241.2.2.2.2 = 0 then (if bt253.2.2.2.2 = 0 then (if bt253.1 = 0 then ((cuvetteref03_SameInts.f k bt253.2.2.1 (([9, 3] : List Int))).bind fun t265 => (some t265)) else (some false)) else (some false)) else (some false)) else (some false)) else (some false)) else (some false)))))) = some r := by first | (rw [hy217]; with_reducible exact H) | (have H2_ := (Option.bind_some _ _).symm.trans H; rw [hy217]; with_reducible exact H2_) | (have H2_ := (Option.bind_some _ _).symm.trans H; with_reducible exact H2_) | with_reducible exact H | (rw [hy217]; exact H) | exact H
  have Ny217 := Aside0.mk hy217
  clear hy217
  replace H := Option.bind_eq_some_iff.mp H
  obtain ⟨⟨t220, t221, t222, t225, t228⟩, A20, H⟩ := H
  replace H : ((slots_Put.f k t221 t222 t225 3 (([2] : List Int))).bind fun bt232 => ((slots_Del.f k bt232.2.1 bt232.2.2.1 bt232.2.2.2.1 7).bind fun bt241 => ((slots_Put.f k bt241.2.1 bt241.2.2.1 bt241.2.2.2.1 9 (([4] : List Int))).bind fun bt253 => (if t215 = 0 then (if t228 = 0 then (if bt232.2.2.2.2 = 0 then (if bt241.2.2.2.2 = 0 then (if bt253.2.2.2.2 = 0 then (if bt253.1 = 0 then ((cuvetteref03_SameInts.f k bt253.2.2.1 (([9, 3] : List Int))).bind fun t265 => (some t265)) else (some false)) else (some false)) else (some false)) else (some false)) else (some false)) else (some false))))) = some r := H
  have A2 := Aside0.mk A20
  clear A20
  obtain ⟨y229, hy229⟩ : ∃ y_ : List Int, y_ = (([2] : List Int)) := ⟨_, rfl⟩
  replace H : ((slots_Put.f k t221 t222 t225 3 y229).bind fun bt232 => ((slots_Del.f k bt232.2.1 bt232.2.2.1 bt232.2.2.2.1 7).bind fun bt241 => ((slots_Put.f k bt241.2.1 bt241.2.2.1 bt241.2.2.2.1 9 (([4] : List Int))).bind fun bt253 => (if t215 = 0 then (if t228 = 0 then (if bt232.2.2.2.2 = 0 then (if bt241.2.2.2.2 = 0 then (if bt253.2.2.2.2 = 0 then (if bt253.1 = 0 then ((cuvetteref03_SameInts.f k bt253.2.2.1 (([9, 3] : List Int))).bind fun t265 => (some t265)) else (some false)) else (some false)) else (some false)) else (some false)) else (some false)) else (some false))))) = some r := by first | (rw [hy229]; with_reducible exact H) | (have H2_ := (Option.bind_some _ _).symm.trans H; rw [hy229]; with_reducible exact H2_) | (have H2_ := (Option.bind_some _ _).symm.trans H; with_reducible exact H2_) | with_reducible exact H | (rw [hy229]; exact H) | exact H
  have Ny229 := Aside0.mk hy229
  clear hy229
  replace H := Option.bind_eq_some_iff.mp H
  obtain ⟨⟨t232, t233, t234, t237, t240⟩, A30, H⟩ := H
  replace H : ((slots_Del.f k t233 t234 t237 7).bind fun bt241 => ((slots_Put.f k bt241.2.1 bt241.2.2.1 bt241.2.2.2.1 9 (([4] : List Int))).bind fun bt253 => (if t215 = 0 then (if t228 = 0 then (if t240 = 0 then (if bt241.2.2.2.2 = 0 then (if bt253.2.2.2.2 = 0 then (if bt253.1 = 0 then ((cuvetteref03_SameInts.f k bt253.2.2.1 (([9, 3] : List Int))).bind fun t265 => (some t265)) else (some false)) else (some false)) else (some false)) else (some false)) else (some false)) else (some false)))) = some r := H
  have A3 := Aside0.mk A30
  clear A30
  replace H := Option.bind_eq_some_iff.mp H
  obtain ⟨⟨t241, t242, t243, t246, t249⟩, A40, H⟩ := H
  replace H : ((slots_Put.f k t242 t243 t246 9 (([4] : List Int))).bind fun bt253 => (if t215 = 0 then (if t228 = 0 then (if t240 = 0 then (if t249 = 0 then (if bt253.2.2.2.2 = 0 then (if bt253.1 = 0 then ((cuvetteref03_SameInts.f k bt253.2.2.1 (([9, 3] : List Int))).bind fun t265 => (some t265)) else (some false)) else (some false)) else (some false)) else (some false)) else (some false)) else (some false))) = some r := H
  have A4 := Aside0.mk A40
  clear A40
  obtain ⟨y250, hy250⟩ : ∃ y_ : List Int, y_ = (([4] : List Int)) := ⟨_, rfl⟩
  replace H : ((slots_Put.f k t242 t243 t246 9 y250).bind fun bt253 => (if t215 = 0 then (if t228 = 0 then (if t240 = 0 then (if t249 = 0 then (if bt253.2.2.2.2 = 0 then (if bt253.1 = 0 then ((cuvetteref03_SameInts.f k bt253.2.2.1 (([9, 3] : List Int))).bind fun t265 => (some t265)) else (some false)) else (some false)) else (some false)) else (some false)) else (some false)) else (some false))) = some r := by first | (rw [hy250]; with_reducible exact H) | (have H2_ := (Option.bind_some _ _).symm.trans H; rw [hy250]; with_reducible exact H2_) | (have H2_ := (Option.bind_some _ _).symm.trans H; with_reducible exact H2_) | with_reducible exact H | (rw [hy250]; exact H) | exact H
  have Ny250 := Aside0.mk hy250
  clear hy250
  replace H := Option.bind_eq_some_iff.mp H
  obtain ⟨⟨t253, t254, t255, t258, t261⟩, A50, H⟩ := H
  replace H : (if t215 = 0 then (if t228 = 0 then (if t240 = 0 then (if t249 = 0 then (if t261 = 0 then (if t253 = 0 then ((cuvetteref03_SameInts.f k t255 (([9, 3] : List Int))).bind fun t265 => (some t265)) else (some false)) else (some false)) else (some false)) else (some false)) else (some false)) else (some false)) = some r := H
  have A5 := Aside0.mk A50
  clear A50
  by_cases c6 : t215 = 0
  · rw [if_pos c6] at H
    have c6b0 : (t215 == 0) = true := beq_iff_eq.mpr c6
    have c6b1 : (t215 != 0) = false := bne_eq_false_iff_eq.mpr c6
    clear c6
    by_cases c7 : t228 = 0
    · rw [if_pos c7] at H
      have c7b0 : (t228 == 0) = true := beq_iff_eq.mpr c7
      have c7b1 : (t228 != 0) = false := bne_eq_false_iff_eq.mpr c7
      clear c7
      by_cases c8 : t240 = 0
      · rw [if_pos c8] at H
        have c8b0 : (t240 == 0) = true := beq_iff_eq.mpr c8
        have c8b1 : (t240 != 0) = false := bne_eq_false_iff_eq.mpr c8
        clear c8
        by_cases c9 : t249 = 0
        · rw [if_pos c9] at H
          have c9b0 : (t249 == 0) = true := beq_iff_eq.mpr c9
          have c9b1 : (t249 != 0) = false := bne_eq_false_iff_eq.mpr c9
          clear c9
          by_cases c10 : t261 = 0
          · rw [if_pos c10] at H
            have c10b0 : (t261 == 0) = true := beq_iff_eq.mpr c10
            have c10b1 : (t261 != 0) = false := bne_eq_false_iff_eq.mpr c10
            clear c10
            by_cases c11 : t253 = 0
            · rw [if_pos c11] at H
              have c11b0 : (t253 == 0) = true := beq_iff_eq.mpr c11
              have c11b1 : (t253 != 0) = false := bne_eq_false_iff_eq.mpr c11
              clear c11
              obtain ⟨y262, hy262⟩ : ∃ y_ : List Int, y_ = (([9, 3] : List Int)) := ⟨_, rfl⟩
              replace H : ((cuvetteref03_SameInts.f k t255 y262).bind fun t265 => (some t265)) = some r := by first | (rw [hy262]; with_reducible exact H) | (have H2_ := (Option.bind_some _ _).symm.trans H; rw [hy262]; with_reducible exact H2_) | (have H2_ := (Option.bind_some _ _).symm.trans H; with_reducible exact H2_) | with_reducible exact H | (rw [hy262]; exact H) | exact H
              have Ny262 := Aside0.mk hy262
              clear hy262
              replace H := Option.bind_eq_some_iff.mp H
              obtain ⟨t265, A120, H⟩ := H
              replace H : (some t265) = some r := H
              have A12 := Aside0.mk A120
              clear A120
              obtain rfl := Option.some.inj H
              go_enter Try.func24, Try.ntmps24
              go_wp2_with (first | ((with_reducible refine gate_callee (f := 64) rfl ?_); refine goesL_ (some 12) rfl rfl Try.func64 (by kernel_rfl) rfl #[.int .i64 2, .int .i64 1] rfl (by (try simp only [List.map_toArray, List.map_cons, List.map_nil]); first | done | rfl | (simp only [List.length_drop, List.length_take]; rfl)) ?_; (with_reducible refine (slots_New.calls 2 1 t208 t209 t212 t215 _ A1.out).mono ?_); rintro e w13 ⟨v210, v213, rfl, ho0, ho1, hb⟩; refine ⟨_, rfl, ?_⟩; have n0_ := Aside0.mk (Kd.R_lower ho0 (below_size (by repeat (first | (with_reducible first | exact HB.out | apply below_alloc | apply pw_below_drewN | apply below_drew1) | exact HB.out)))); have n1_ := Aside0.mk (Kd.N_lower (Kd.N_mono (ok' := fun k_ => some k_ ≠ (v210 : Value).ownBlock) (Kd.S_N (Kd.S_bound (Kd.S_apart' ho1 (Kd.R_typed ho0) (by decide)))) (fun k_ hk_ => hk_.1.2)) (below_size (by repeat (first | (with_reducible first | exact HB.out | apply below_alloc | apply pw_below_drewN | apply below_drew1) | exact HB.out)))); have n2_ := Aside0.mk (below_step (by repeat (first | (with_reducible first | exact HB.out | apply below_alloc | apply pw_below_drewN | apply below_drew1) | exact HB.out)) hb); clear HB; have HO211 := n0_; have HO214 := n1_; have HB := n2_; clear n0_ n1_ n2_; (try clear hb); (try clear hb2); (try clear hk); (try clear hi); (try clear ho0); (try clear ho1)) | ((with_reducible refine gate_dst (N := 1) rfl ?_); (try (refine gate_guard (by rfl) ?_; dsimp only)); refine box_event ?hg (N := 1) ?hd (cs := #[.int .i64 0, .slice none 0 0, .slice none 0 0]) (t := 25) ?hr ?_; (case hd => rfl); (case hg => rfl); (case hr => first | (go_simp; done) | (go_simp; rfl)); intro gb216 hg w14 hbox hb; have n0_ := Aside0.mk (Kd.R_below (by (with_reducible repeat (first | apply Kd.R_alloc | apply Kd.R_drewN | apply Kd.R_drew)); exact HO211.out) hb); have n1_ := Aside0.mk (Kd.N_below (Kd.N_elderB (by (with_reducible repeat (first | apply Kd.N_alloc | apply Kd.N_drewN | apply Kd.N_drew)); exact HO214.out) gb216 (Nat.le_of_eq hg.symm)) hb); have n2_ := Aside0.mk (below_step (by repeat (first | (with_reducible first | exact HB.out | apply below_alloc | apply pw_below_drewN | apply below_drew1) | exact HB.out)) hb); have n3_ := Aside0.mk (hbox); have n4_ := Aside0.mk ((by rw [hg]; exact (below_size (by repeat (first | (with_reducible first | exact HB.out | apply below_alloc | apply pw_below_drewN | apply below_drew1) | exact HB.out))) : w.heap.size ≤ gb216)); have n5_ := Aside0.mk ((by rw [hg]; exact (below_size (by repeat (first | (with_reducible first | exact HB.out | apply below_alloc | apply pw_below_drewN | apply below_drew1) | exact HB.out))) : w.heap.size ≤ gb216)); clear HO211; clear HO214; clear HB; have HO211 := n0_; have HO214 := n1_; have HB := n2_; have BK216 := n3_; have GW216 := n4_; have GE216 := n5_; clear n0_ n1_ n2_ n3_ n4_ n5_; clear hb hbox hg; have hcz15_0 : w14.cell? ⟨gb216, 0, none⟩ = some (.int .i64 0) := (blk_cell BK216.out 0).trans rfl; have hcz15_1 : w14.cell? ⟨gb216, 1, none⟩ = some (.slice none 0 0) := (blk_cell BK216.out 1).trans rfl; have hcz15_2 : w14.cell? ⟨gb216, 2, none⟩ = some (.slice none 0 0) := (blk_cell BK216.out 2).trans rfl; have hfz15_0 := blk_frozen BK216.out 0; have hfz15_1 := blk_frozen BK216.out 1; have hfz15_2 := blk_frozen BK216.out 2; obtain ⟨Ao16, co16, eo16⟩ := Kd.R_slice HO211.out; subst eo16; obtain ⟨Ao17, co17, eo17⟩ := Kd.N_slice HO214.out; subst eo17) | ((with_reducible refine gate_dst (N := 17) rfl ?_); (try (refine gate_guard (by rfl) ?_; dsimp only)); refine Kd.R_lit (Kd.int .i16) _ 74 ?hg (N := 17) ?hd (xs := ([1] : List Int)) (inner := [.int .i16 1]) (ok := fun _ => True) (okp := fun _ => True) ?hr ?hp (fun _ hk => hk) trivial (Below.refl _ _) (Nat.le_refl _) (by simp) ?_; (case hd => rfl); (case hg => rfl); (case hr => first | (go_simp; done) | (go_simp; rfl)); (case hp => exact (Reps.one (show Kd.M (Kd.int .i16) _ _ _ 1 [.int .i16 1] from rfl) (Reps.none _ _))); intro v218 w18 ho19 hb hg_ hnew_; clear hg_ hnew_; (first | rw [← Ny217.out] at ho19 | (simp only [Int.reduceToNat] at ho19; rw [← Ny217.out] at ho19)); have n0_ := Aside0.mk (Kd.R_below (by (with_reducible repeat (first | apply Kd.R_alloc | apply Kd.R_drewN | apply Kd.R_drew)); exact (Kd.R_mono (Kd.R_far (p := ⟨gb216, 2, none⟩) (Kd.R_far (p := ⟨gb216, 1, none⟩) (Kd.R_far (p := ⟨gb216, 0, none⟩) (Kd.R_types HO211.out BK216.out (by decide)) (fun _ hk => hk.2) (.int .i64 t208)) (fun _ hk => hk.2) (.slice Ao16 t209.length co16)) (fun _ hk => hk.2) (.slice Ao17 t212.length co17)) (fun _ h_ => h_.1))) hb); have n1_ := Aside0.mk (Kd.N_elder' (by (with_reducible repeat (first | apply Kd.N_alloc | apply Kd.N_drewN | apply Kd.N_drew)); exact (Kd.N_mono (Kd.N_far (p := ⟨gb216, 2, none⟩) (Kd.N_far (p := ⟨gb216, 1, none⟩) (Kd.N_far (p := ⟨gb216, 0, none⟩) (Kd.N_mono HO214.out (fun k_ hk => (⟨hk, hk.2⟩ : _ ∧ k_ ≠ gb216))) (fun _ hk => hk.2) (.int .i64 t208)) (fun _ hk => hk.2) (.slice Ao16 t209.length co16)) (fun _ hk => hk.2) (.slice Ao17 t212.length co17)) (fun _ h_ => h_.1))) (Kd.R_base ho19) hb); have n2_ := Aside0.mk (Kd.R_lower ho19 (below_size (by repeat (first | (with_reducible first | exact HB.out | apply below_alloc | apply pw_below_drewN | apply below_drew1 | refine below_set ?_ GE216.out) | exact HB.out)))); have n3_ := Aside0.mk (blk_below (g := gb216) (o := .cells #[.int .i64 t208, .slice Ao16 t209.length co16, .slice Ao17 t212.length co17] 25 (0, 0)) (by (with_reducible repeat (first | refine blk_drewN ?_ _ | refine blk_drew ?_ | refine blk_alloc ?_ _)); refine blk_put (cs := #[.int .i64 t208, .slice Ao16 t209.length co16, .slice none 0 0]) ?_ 2 _ rfl; (with_reducible repeat (first | refine blk_drewN ?_ _ | refine blk_drew ?_ | refine blk_alloc ?_ _)); refine blk_put (cs := #[.int .i64 t208, .slice none 0 0, .slice none 0 0]) ?_ 1 _ rfl; (with_reducible repeat (first | refine blk_drewN ?_ _ | refine blk_drew ?_ | refine blk_alloc ?_ _)); refine blk_put (cs := #[.int .i64 0, .slice none 0 0, .slice none 0 0]) ?_ 0 _ rfl; (with_reducible repeat (first | refine blk_drewN ?_ _ | refine blk_drew ?_ | refine blk_alloc ?_ _)); exact BK216.out) hb); have n4_ := Aside0.mk (below_step (by repeat (first | (with_reducible first | exact HB.out | apply below_alloc | apply pw_below_drewN | apply below_drew1 | refine below_set ?_ GE216.out) | exact HB.out)) hb); clear HO211; clear HO214; clear BK216; clear HB; have HO211 := n0_; have HO214 := n1_; have HO219 := n2_; have BK216 := n3_; have HB := n4_; clear n0_ n1_ n2_ n3_ n4_; clear hb ho19; obtain ⟨Ao20, co20, eo20⟩ := Kd.R_slice HO219.out; subst eo20) | ((with_reducible refine gate_callee (f := 27) rfl ?_); refine goesL_ (some 18) rfl rfl Try.func27 (by kernel_rfl) rfl #[.agg #[.int .i64 t208, .slice Ao16 t209.length co16, .slice Ao17 t212.length co17], .int .i64 7, .slice Ao20 y217.length co20] rfl (by (try simp only [List.map_toArray, List.map_cons, List.map_nil]); first | done | rfl | (simp only [List.length_drop, List.length_take]; rfl)) ?_; (with_reducible refine (slots_Put.calls k t208 _ _ t209 (fun k_ => ((some k_ ≠ (.slice Ao16 t209.length co16 : Value).ownBlock ∧ k_ ≠ gb216) ∧ some k_ ≠ (.slice Ao20 y217.length co20 : Value).ownBlock)) _ _ t212 7 _ _ y217 t220 t221 t222 t225 t228 _ ?side1 ?side2 ?side3 ?side4 ?side5 A2.out).mono ?_); (case side1 => repeat (first | exact (Kd.R_reads' HO211.out).2.2 | (with_reducible refine Kd.C_alloc ?_ _) | (with_reducible refine Kd.C_drewN ?_ _) | (with_reducible refine Kd.C_drew ?_))); (case side2 => exact (Kd.R_reads' HO211.out).2.1); (case side3 => exact Kd.N_V (HO214.out)); (case side4 => repeat (first | exact (Kd.R_reads' HO219.out).2.2 | (with_reducible refine Kd.C_alloc ?_ _) | (with_reducible refine Kd.C_drewN ?_ _) | (with_reducible refine Kd.C_drew ?_))); (case side5 => exact (Kd.R_reads' HO219.out).2.1); rintro e w21 ⟨v223, v226, rfl, ho0, ho1, hb⟩; refine ⟨_, rfl, ?_⟩; have n0_ := Aside0.mk (Kd.R_elder' (by (with_reducible repeat (first | apply Kd.R_alloc | apply Kd.R_drewN | apply Kd.R_drew)); exact HO211.out) (Kd.R_base ho0) hb); have n1_ := Aside0.mk (Kd.N_mono (Kd.N_told (Kd.N_told (Kd.N_old (by (with_reducible repeat (first | apply Kd.N_alloc | apply Kd.N_drewN | apply Kd.N_drew)); exact HO214.out) hb) (Kd.R_base ho0)) (Kd.N_base ho1)) (fun _ h_ => h_.1)); have n2_ := Aside0.mk (Kd.R_below (by (with_reducible repeat (first | apply Kd.R_alloc | apply Kd.R_drewN | apply Kd.R_drew)); exact HO219.out) hb); have n3_ := Aside0.mk (Kd.R_lower (Kd.R_new' (Kd.R_mono (ok' := fun k_ => True) ho0 (fun _ hk_ => trivial)) (Kd.R_lt (by (with_reducible repeat (first | apply Kd.R_alloc | apply Kd.R_drewN | apply Kd.R_drew)); exact HO211.out))) (below_size (by repeat (first | (with_reducible first | exact HB.out | apply below_alloc | apply pw_below_drewN | apply below_drew1 | refine below_set ?_ GE216.out) | exact HB.out)))); have n4_ := Aside0.mk (Kd.N_lower (Kd.N_mono (ok' := fun k_ => some k_ ≠ (v223 : Value).ownBlock ∧ some k_ ≠ (.slice Ao16 t209.length co16 : Value).ownBlock ∧ some k_ ≠ (.slice Ao20 y217.length co20 : Value).ownBlock ∧ k_ ≠ gb216) ho1 (fun k_ hk_ => ⟨hk_.2, Or.elim hk_.1 (fun hs_ => hs_.1.1) (fun hn_ => (Kd.fresh' (Kd.R_lt (by (with_reducible repeat (first | apply Kd.R_alloc | apply Kd.R_drewN | apply Kd.R_drew)); exact HO211.out)) k_ hn_)), Or.elim hk_.1 (fun hs_ => hs_.2) (fun hn_ => (Kd.fresh' (Kd.R_lt (by (with_reducible repeat (first | apply Kd.R_alloc | apply Kd.R_drewN | apply Kd.R_drew)); exact HO219.out)) k_ hn_)), Or.elim hk_.1 (fun hs_ => hs_.1.2) (fun hn_ => (Kd.freshB (g := gb216) (o := .cells #[.int .i64 t208, .slice Ao16 t209.length co16, .slice Ao17 t212.length co17] 25 (0, 0)) (by (with_reducible repeat (first | refine blk_drewN ?_ _ | refine blk_drew ?_ | refine blk_alloc ?_ _)); exact BK216.out) k_ hn_))⟩)) (below_size (by repeat (first | (with_reducible first | exact HB.out | apply below_alloc | apply pw_below_drewN | apply below_drew1 | refine below_set ?_ GE216.out) | exact HB.out)))); have n5_ := Aside0.mk (blk_below (g := gb216) (o := .cells #[.int .i64 t208, .slice Ao16 t209.length co16, .slice Ao17 t212.length co17] 25 (0, 0)) (by (with_reducible repeat (first | refine blk_drewN ?_ _ | refine blk_drew ?_ | refine blk_alloc ?_ _)); exact BK216.out) hb); have n6_ := Aside0.mk (below_step (by repeat (first | (with_reducible first | exact HB.out | apply below_alloc | apply pw_below_drewN | apply below_drew1 | refine below_set ?_ GE216.out) | exact HB.out)) hb); clear HO211; clear HO214; clear HO219; clear BK216; clear HB; have HO211 := n0_; have HO214 := n1_; have HO219 := n2_; have HO224 := n3_; have HO227 := n4_; have BK216 := n5_; have HB := n6_; clear n0_ n1_ n2_ n3_ n4_ n5_ n6_; (try clear hb); (try clear hb2); (try clear hk); (try clear hi); (try clear ho0); (try clear ho1); have hcz22_0 : w21.cell? ⟨gb216, 0, none⟩ = some (.int .i64 t208) := (blk_cell BK216.out 0).trans rfl; have hcz22_1 : w21.cell? ⟨gb216, 1, none⟩ = some (.slice Ao16 t209.length co16) := (blk_cell BK216.out 1).trans rfl; have hcz22_2 : w21.cell? ⟨gb216, 2, none⟩ = some (.slice Ao17 t212.length co17) := (blk_cell BK216.out 2).trans rfl; have hfz22_0 := blk_frozen BK216.out 0; have hfz22_1 := blk_frozen BK216.out 1; have hfz22_2 := blk_frozen BK216.out 2; obtain ⟨Ao23, co23, eo23⟩ := Kd.R_slice HO224.out; subst eo23; obtain ⟨Ao24, co24, eo24⟩ := Kd.N_slice HO227.out; subst eo24) | ((with_reducible refine gate_dst (N := 24) rfl ?_); (try (refine gate_guard (by rfl) ?_; dsimp only)); refine Kd.R_lit (Kd.int .i16) _ 74 ?hg (N := 24) ?hd (xs := ([2] : List Int)) (inner := [.int .i16 2]) (ok := fun _ => True) (okp := fun _ => True) ?hr ?hp (fun _ hk => hk) trivial (Below.refl _ _) (Nat.le_refl _) (by simp) ?_; (case hd => rfl); (case hg => rfl); (case hr => first | (go_simp; done) | (go_simp; rfl)); (case hp => exact (Reps.one (show Kd.M (Kd.int .i16) _ _ _ 2 [.int .i16 2] from rfl) (Reps.none _ _))); intro v230 w25 ho26 hb hg_ hnew_; clear hg_ hnew_; (first | rw [← Ny229.out] at ho26 | (simp only [Int.reduceToNat] at ho26; rw [← Ny229.out] at ho26)); have n0_ := Aside0.mk (Kd.R_below (by (with_reducible repeat (first | apply Kd.R_alloc | apply Kd.R_drewN | apply Kd.R_drew)); exact (Kd.R_mono (Kd.R_far (p := ⟨gb216, 2, none⟩) (Kd.R_far (p := ⟨gb216, 1, none⟩) (Kd.R_far (p := ⟨gb216, 0, none⟩) (Kd.R_types HO211.out BK216.out (by decide)) (fun _ hk => hk.2) (.int .i64 t221)) (fun _ hk => hk.2) (.slice Ao23 t222.length co23)) (fun _ hk => hk.2) (.slice Ao24 t225.length co24)) (fun _ h_ => h_.1))) hb); have n1_ := Aside0.mk (Kd.N_elder' (by (with_reducible repeat (first | apply Kd.N_alloc | apply Kd.N_drewN | apply Kd.N_drew)); exact (Kd.N_mono (Kd.N_far (p := ⟨gb216, 2, none⟩) (Kd.N_far (p := ⟨gb216, 1, none⟩) (Kd.N_far (p := ⟨gb216, 0, none⟩) (Kd.N_mono HO214.out (fun k_ hk => (⟨hk, hk.1.1.1.2⟩ : _ ∧ k_ ≠ gb216))) (fun _ hk => hk.2) (.int .i64 t221)) (fun _ hk => hk.2) (.slice Ao23 t222.length co23)) (fun _ hk => hk.2) (.slice Ao24 t225.length co24)) (fun _ h_ => h_.1))) (Kd.R_base ho26) hb); have n2_ := Aside0.mk (Kd.R_elder' (by (with_reducible repeat (first | apply Kd.R_alloc | apply Kd.R_drewN | apply Kd.R_drew)); exact (Kd.R_mono (Kd.R_far (p := ⟨gb216, 2, none⟩) (Kd.R_far (p := ⟨gb216, 1, none⟩) (Kd.R_far (p := ⟨gb216, 0, none⟩) (Kd.R_types HO219.out BK216.out (by decide)) (fun _ hk => hk.2) (.int .i64 t221)) (fun _ hk => hk.2) (.slice Ao23 t222.length co23)) (fun _ hk => hk.2) (.slice Ao24 t225.length co24)) (fun _ h_ => h_.1))) (Kd.R_base ho26) hb); have n3_ := Aside0.mk (Kd.R_below (by (with_reducible repeat (first | apply Kd.R_alloc | apply Kd.R_drewN | apply Kd.R_drew)); exact (Kd.R_mono (Kd.R_far (p := ⟨gb216, 2, none⟩) (Kd.R_far (p := ⟨gb216, 1, none⟩) (Kd.R_far (p := ⟨gb216, 0, none⟩) (Kd.R_types HO224.out BK216.out (by decide)) (fun _ hk => hk.2) (.int .i64 t221)) (fun _ hk => hk.2) (.slice Ao23 t222.length co23)) (fun _ hk => hk.2) (.slice Ao24 t225.length co24)) (fun _ h_ => h_.1))) hb); have n4_ := Aside0.mk (Kd.N_elder' (by (with_reducible repeat (first | apply Kd.N_alloc | apply Kd.N_drewN | apply Kd.N_drew)); exact (Kd.N_mono (Kd.N_far (p := ⟨gb216, 2, none⟩) (Kd.N_far (p := ⟨gb216, 1, none⟩) (Kd.N_far (p := ⟨gb216, 0, none⟩) (Kd.N_mono HO227.out (fun k_ hk => (⟨hk, hk.2.2.2⟩ : _ ∧ k_ ≠ gb216))) (fun _ hk => hk.2) (.int .i64 t221)) (fun _ hk => hk.2) (.slice Ao23 t222.length co23)) (fun _ hk => hk.2) (.slice Ao24 t225.length co24)) (fun _ h_ => h_.1))) (Kd.R_base ho26) hb); have n5_ := Aside0.mk (Kd.R_lower (Kd.R_new' ho26 (Kd.R_lt (by (with_reducible repeat (first | apply Kd.R_alloc | apply Kd.R_drewN | apply Kd.R_drew)); exact (Kd.R_mono (Kd.R_far (p := ⟨gb216, 2, none⟩) (Kd.R_far (p := ⟨gb216, 1, none⟩) (Kd.R_far (p := ⟨gb216, 0, none⟩) (Kd.R_types HO219.out BK216.out (by decide)) (fun _ hk => hk.2) (.int .i64 t221)) (fun _ hk => hk.2) (.slice Ao23 t222.length co23)) (fun _ hk => hk.2) (.slice Ao24 t225.length co24)) (fun _ h_ => h_.1))))) (below_size (by repeat (first | (with_reducible first | exact HB.out | apply below_alloc | apply pw_below_drewN | apply below_drew1 | refine below_set ?_ GE216.out) | exact HB.out)))); have n6_ := Aside0.mk (blk_below (g := gb216) (o := .cells #[.int .i64 t221, .slice Ao23 t222.length co23, .slice Ao24 t225.length co24] 25 (0, 0)) (by (with_reducible repeat (first | refine blk_drewN ?_ _ | refine blk_drew ?_ | refine blk_alloc ?_ _)); refine blk_put (cs := #[.int .i64 t221, .slice Ao23 t222.length co23, .slice Ao17 t212.length co17]) ?_ 2 _ rfl; (with_reducible repeat (first | refine blk_drewN ?_ _ | refine blk_drew ?_ | refine blk_alloc ?_ _)); refine blk_put (cs := #[.int .i64 t221, .slice Ao16 t209.length co16, .slice Ao17 t212.length co17]) ?_ 1 _ rfl; (with_reducible repeat (first | refine blk_drewN ?_ _ | refine blk_drew ?_ | refine blk_alloc ?_ _)); refine blk_put (cs := #[.int .i64 t208, .slice Ao16 t209.length co16, .slice Ao17 t212.length co17]) ?_ 0 _ rfl; (with_reducible repeat (first | refine blk_drewN ?_ _ | refine blk_drew ?_ | refine blk_alloc ?_ _)); exact BK216.out) hb); have n7_ := Aside0.mk (below_step (by repeat (first | (with_reducible first | exact HB.out | apply below_alloc | apply pw_below_drewN | apply below_drew1 | refine below_set ?_ GE216.out) | exact HB.out)) hb); clear HO211; clear HO214; clear HO219; clear HO224; clear HO227; clear BK216; clear HB; have HO211 := n0_; have HO214 := n1_; have HO219 := n2_; have HO224 := n3_; have HO227 := n4_; have HO231 := n5_; have BK216 := n6_; have HB := n7_; clear n0_ n1_ n2_ n3_ n4_ n5_ n6_ n7_; clear hb ho26; obtain ⟨Ao27, co27, eo27⟩ := Kd.R_slice HO231.out; subst eo27) | ((with_reducible refine gate_callee (f := 27) rfl ?_); refine goesL_ (some 25) rfl rfl Try.func27 (by kernel_rfl) rfl #[.agg #[.int .i64 t221, .slice Ao23 t222.length co23, .slice Ao24 t225.length co24], .int .i64 3, .slice Ao27 y229.length co27] rfl (by (try simp only [List.map_toArray, List.map_cons, List.map_nil]); first | done | rfl | (simp only [List.length_drop, List.length_take]; rfl)) ?_; (with_reducible refine (slots_Put.calls k t221 _ _ t222 (fun k_ => ((some k_ ≠ (.slice Ao23 t222.length co23 : Value).ownBlock ∧ (some k_ ≠ (.slice Ao16 t209.length co16 : Value).ownBlock ∧ (some k_ ≠ (.slice Ao20 y217.length co20 : Value).ownBlock ∧ k_ ≠ gb216))) ∧ some k_ ≠ (.slice Ao27 y229.length co27 : Value).ownBlock)) _ _ t225 3 _ _ y229 t232 t233 t234 t237 t240 _ ?side1 ?side2 ?side3 ?side4 ?side5 A3.out).mono ?_); (case side1 => repeat (first | exact (Kd.R_reads' HO224.out).2.2 | (with_reducible refine Kd.C_alloc ?_ _) | (with_reducible refine Kd.C_drewN ?_ _) | (with_reducible refine Kd.C_drew ?_))); (case side2 => exact (Kd.R_reads' HO224.out).2.1); (case side3 => exact Kd.N_V (HO227.out)); (case side4 => repeat (first | exact (Kd.R_reads' HO231.out).2.2 | (with_reducible refine Kd.C_alloc ?_ _) | (with_reducible refine Kd.C_drewN ?_ _) | (with_reducible refine Kd.C_drew ?_))); (case side5 => exact (Kd.R_reads' HO231.out).2.1); rintro e w28 ⟨v235, v238, rfl, ho0, ho1, hb⟩; refine ⟨_, rfl, ?_⟩; have n0_ := Aside0.mk (Kd.R_elder' (by (with_reducible repeat (first | apply Kd.R_alloc | apply Kd.R_drewN | apply Kd.R_drew)); exact HO211.out) (Kd.R_base ho0) hb); have n1_ := Aside0.mk (Kd.N_mono (Kd.N_told (Kd.N_told (Kd.N_old (by (with_reducible repeat (first | apply Kd.N_alloc | apply Kd.N_drewN | apply Kd.N_drew)); exact HO214.out) hb) (Kd.R_base ho0)) (Kd.N_base ho1)) (fun _ h_ => h_.1)); have n2_ := Aside0.mk (Kd.R_below (by (with_reducible repeat (first | apply Kd.R_alloc | apply Kd.R_drewN | apply Kd.R_drew)); exact HO219.out) hb); have n3_ := Aside0.mk (Kd.R_elder' (by (with_reducible repeat (first | apply Kd.R_alloc | apply Kd.R_drewN | apply Kd.R_drew)); exact HO224.out) (Kd.R_base ho0) hb); have n4_ := Aside0.mk (Kd.N_mono (Kd.N_told (Kd.N_told (Kd.N_old (by (with_reducible repeat (first | apply Kd.N_alloc | apply Kd.N_drewN | apply Kd.N_drew)); exact HO227.out) hb) (Kd.R_base ho0)) (Kd.N_base ho1)) (fun _ h_ => h_.1)); have n5_ := Aside0.mk (Kd.R_below (by (with_reducible repeat (first | apply Kd.R_alloc | apply Kd.R_drewN | apply Kd.R_drew)); exact HO231.out) hb); have n6_ := Aside0.mk (Kd.R_lower (Kd.R_new' (Kd.R_new' (Kd.R_mono (ok' := fun k_ => True) ho0 (fun _ hk_ => trivial)) (Kd.R_lt (by (with_reducible repeat (first | apply Kd.R_alloc | apply Kd.R_drewN | apply Kd.R_drew)); exact HO211.out))) (Kd.R_lt (by (with_reducible repeat (first | apply Kd.R_alloc | apply Kd.R_drewN | apply Kd.R_drew)); exact HO224.out))) (below_size (by repeat (first | (with_reducible first | exact HB.out | apply below_alloc | apply pw_below_drewN | apply below_drew1 | refine below_set ?_ GE216.out) | exact HB.out)))); have n7_ := Aside0.mk (Kd.N_lower (Kd.N_mono (ok' := fun k_ => some k_ ≠ (v235 : Value).ownBlock ∧ some k_ ≠ (.slice Ao16 t209.length co16 : Value).ownBlock ∧ some k_ ≠ (.slice Ao20 y217.length co20 : Value).ownBlock ∧ some k_ ≠ (.slice Ao23 t222.length co23 : Value).ownBlock ∧ some k_ ≠ (.slice Ao27 y229.length co27 : Value).ownBlock ∧ k_ ≠ gb216) ho1 (fun k_ hk_ => ⟨hk_.2, Or.elim hk_.1 (fun hs_ => hs_.1.2.1) (fun hn_ => (Kd.fresh' (Kd.R_lt (by (with_reducible repeat (first | apply Kd.R_alloc | apply Kd.R_drewN | apply Kd.R_drew)); exact HO211.out)) k_ hn_)), Or.elim hk_.1 (fun hs_ => hs_.1.2.2.1) (fun hn_ => (Kd.fresh' (Kd.R_lt (by (with_reducible repeat (first | apply Kd.R_alloc | apply Kd.R_drewN | apply Kd.R_drew)); exact HO219.out)) k_ hn_)), Or.elim hk_.1 (fun hs_ => hs_.1.1) (fun hn_ => (Kd.fresh' (Kd.R_lt (by (with_reducible repeat (first | apply Kd.R_alloc | apply Kd.R_drewN | apply Kd.R_drew)); exact HO224.out)) k_ hn_)), Or.elim hk_.1 (fun hs_ => hs_.2) (fun hn_ => (Kd.fresh' (Kd.R_lt (by (with_reducible repeat (first | apply Kd.R_alloc | apply Kd.R_drewN | apply Kd.R_drew)); exact HO231.out)) k_ hn_)), Or.elim hk_.1 (fun hs_ => hs_.1.2.2.2) (fun hn_ => (Kd.freshB (g := gb216) (o := .cells #[.int .i64 t221, .slice Ao23 t222.length co23, .slice Ao24 t225.length co24] 25 (0, 0)) (by (with_reducible repeat (first | refine blk_drewN ?_ _ | refine blk_drew ?_ | refine blk_alloc ?_ _)); exact BK216.out) k_ hn_))⟩)) (below_size (by repeat (first | (with_reducible first | exact HB.out | apply below_alloc | apply pw_below_drewN | apply below_drew1 | refine below_set ?_ GE216.out) | exact HB.out)))); have n8_ := Aside0.mk (blk_below (g := gb216) (o := .cells #[.int .i64 t221, .slice Ao23 t222.length co23, .slice Ao24 t225.length co24] 25 (0, 0)) (by (with_reducible repeat (first | refine blk_drewN ?_ _ | refine blk_drew ?_ | refine blk_alloc ?_ _)); exact BK216.out) hb); have n9_ := Aside0.mk (below_step (by repeat (first | (with_reducible first | exact HB.out | apply below_alloc | apply pw_below_drewN | apply below_drew1 | refine below_set ?_ GE216.out) | exact HB.out)) hb); clear HO211; clear HO214; clear HO219; clear HO224; clear HO227; clear HO231; clear BK216; clear HB; have HO211 := n0_; have HO214 := n1_; have HO219 := n2_; have HO224 := n3_; have HO227 := n4_; have HO231 := n5_; have HO236 := n6_; have HO239 := n7_; have BK216 := n8_; have HB := n9_; clear n0_ n1_ n2_ n3_ n4_ n5_ n6_ n7_ n8_ n9_; (try clear hb); (try clear hb2); (try clear hk); (try clear hi); (try clear ho0); (try clear ho1); have hcz29_0 : w28.cell? ⟨gb216, 0, none⟩ = some (.int .i64 t221) := (blk_cell BK216.out 0).trans rfl; have hcz29_1 : w28.cell? ⟨gb216, 1, none⟩ = some (.slice Ao23 t222.length co23) := (blk_cell BK216.out 1).trans rfl; have hcz29_2 : w28.cell? ⟨gb216, 2, none⟩ = some (.slice Ao24 t225.length co24) := (blk_cell BK216.out 2).trans rfl; have hfz29_0 := blk_frozen BK216.out 0; have hfz29_1 := blk_frozen BK216.out 1; have hfz29_2 := blk_frozen BK216.out 2; obtain ⟨Ao30, co30, eo30⟩ := Kd.R_slice HO236.out; subst eo30; obtain ⟨Ao31, co31, eo31⟩ := Kd.N_slice HO239.out; subst eo31) | ((with_reducible refine gate_store (t := 25) (p := 1) rfl ?_); refine store_event (t := 25) (p := 1) (v := ?vo_w32) (w1 := (((w28.setCell ⟨gb216, 0, none⟩ (.int .i64 t233)).setCell ⟨gb216, 1, none⟩ (.slice Ao30 t234.length co30)).setCell ⟨gb216, 2, none⟩ (.slice Ao31 t237.length co31))) ?hg ?ho ?hn ?hr ?_; (case ho => rfl); (case hg => rfl); (case hn => rfl); (case hr => first | (go_simp; done) | (go_simp; rfl)); intro w32 hw; have n0_ : Aside0 (Kd.R (Kd.int .i64) 2 w32 w.heap.size (fun k_ => some k_ ≠ (.slice Ao23 t222.length co23 : Value).ownBlock ∧ some k_ ≠ (.slice Ao30 t234.length co30 : Value).ownBlock) (.slice Ao16 t209.length co16) t209) := ⟨(by rw [hw]; exact (by (with_reducible repeat (first | apply Kd.R_alloc | apply Kd.R_drewN | apply Kd.R_drew)); exact Kd.R_mono (Kd.R_far (p := ⟨gb216, 2, none⟩) (Kd.R_far (p := ⟨gb216, 1, none⟩) (Kd.R_far (p := ⟨gb216, 0, none⟩) (Kd.R_types HO211.out BK216.out (by decide)) (fun _ hk => hk.2) (.int .i64 t233)) (fun _ hk => hk.2) (.slice Ao30 t234.length co30)) (fun _ hk => hk.2) (.slice Ao31 t237.length co31)) (fun _ hk => ⟨hk.1.1.2, hk.1.2⟩)))⟩; have n1_ : Aside0 (Kd.N (Kd.slice 74 (Kd.int .i16)) 27 w32 w.heap.size (fun k_ => some k_ ≠ (.slice Ao16 t209.length co16 : Value).ownBlock ∧ some k_ ≠ (.slice Ao20 y217.length co20 : Value).ownBlock ∧ some k_ ≠ (.slice Ao23 t222.length co23 : Value).ownBlock ∧ some k_ ≠ (.slice Ao24 t225.length co24 : Value).ownBlock ∧ some k_ ≠ (.slice Ao27 y229.length co27 : Value).ownBlock ∧ some k_ ≠ (.slice Ao30 t234.length co30 : Value).ownBlock ∧ some k_ ≠ (.slice Ao31 t237.length co31 : Value).ownBlock ∧ k_ ≠ gb216) (.slice Ao17 t212.length co17) t212) := ⟨(by rw [hw]; exact (by (with_reducible repeat (first | apply Kd.N_alloc | apply Kd.N_drewN | apply Kd.N_drew)); exact Kd.N_mono (Kd.N_far (p := ⟨gb216, 2, none⟩) (Kd.N_far (p := ⟨gb216, 1, none⟩) (Kd.N_far (p := ⟨gb216, 0, none⟩) (Kd.N_mono HO214.out (fun k_ hk => (⟨hk, hk.1.1.1.1.1.1.2⟩ : _ ∧ k_ ≠ gb216))) (fun _ hk => hk.2) (.int .i64 t233)) (fun _ hk => hk.2) (.slice Ao30 t234.length co30)) (fun _ hk => hk.2) (.slice Ao31 t237.length co31)) (fun _ hk => ⟨hk.1.1.1.1.1.1.1.1, ⟨hk.1.1.1.1.1.1.2, ⟨hk.1.1.1.1.1.2, ⟨hk.1.1.1.1.2, ⟨hk.1.1.1.2, ⟨hk.1.1.2, ⟨hk.1.2, hk.1.1.1.1.1.1.1.2⟩⟩⟩⟩⟩⟩⟩)))⟩; have n2_ : Aside0 (Kd.R (Kd.int .i16) 74 w32 w.heap.size (fun k_ => some k_ ≠ (.slice Ao27 y229.length co27 : Value).ownBlock) (.slice Ao20 y217.length co20) y217) := ⟨(by rw [hw]; exact (by (with_reducible repeat (first | apply Kd.R_alloc | apply Kd.R_drewN | apply Kd.R_drew)); exact Kd.R_mono (Kd.R_far (p := ⟨gb216, 2, none⟩) (Kd.R_far (p := ⟨gb216, 1, none⟩) (Kd.R_far (p := ⟨gb216, 0, none⟩) (Kd.R_types HO219.out BK216.out (by decide)) (fun _ hk => hk.2) (.int .i64 t233)) (fun _ hk => hk.2) (.slice Ao30 t234.length co30)) (fun _ hk => hk.2) (.slice Ao31 t237.length co31)) (fun _ hk => hk.1.2)))⟩; have n3_ : Aside0 (Kd.R (Kd.int .i64) 2 w32 w.heap.size (fun k_ => some k_ ≠ (.slice Ao16 t209.length co16 : Value).ownBlock ∧ some k_ ≠ (.slice Ao30 t234.length co30 : Value).ownBlock) (.slice Ao23 t222.length co23) t222) := ⟨(by rw [hw]; exact (by (with_reducible repeat (first | apply Kd.R_alloc | apply Kd.R_drewN | apply Kd.R_drew)); exact Kd.R_mono (Kd.R_far (p := ⟨gb216, 2, none⟩) (Kd.R_far (p := ⟨gb216, 1, none⟩) (Kd.R_far (p := ⟨gb216, 0, none⟩) (Kd.R_types HO224.out BK216.out (by decide)) (fun _ hk => hk.2) (.int .i64 t233)) (fun _ hk => hk.2) (.slice Ao30 t234.length co30)) (fun _ hk => hk.2) (.slice Ao31 t237.length co31)) (fun _ hk => ⟨hk.1.1.2, hk.1.2⟩)))⟩; have n4_ : Aside0 (Kd.N (Kd.slice 74 (Kd.int .i16)) 27 w32 w.heap.size (fun k_ => some k_ ≠ (.slice Ao16 t209.length co16 : Value).ownBlock ∧ some k_ ≠ (.slice Ao20 y217.length co20 : Value).ownBlock ∧ some k_ ≠ (.slice Ao23 t222.length co23 : Value).ownBlock ∧ some k_ ≠ (.slice Ao27 y229.length co27 : Value).ownBlock ∧ some k_ ≠ (.slice Ao30 t234.length co30 : Value).ownBlock ∧ some k_ ≠ (.slice Ao31 t237.length co31 : Value).ownBlock ∧ k_ ≠ gb216) (.slice Ao24 t225.length co24) t225) := ⟨(by rw [hw]; exact (by (with_reducible repeat (first | apply Kd.N_alloc | apply Kd.N_drewN | apply Kd.N_drew)); exact Kd.N_mono (Kd.N_far (p := ⟨gb216, 2, none⟩) (Kd.N_far (p := ⟨gb216, 1, none⟩) (Kd.N_far (p := ⟨gb216, 0, none⟩) (Kd.N_mono HO227.out (fun k_ hk => (⟨hk, hk.1.1.1.2.2.2⟩ : _ ∧ k_ ≠ gb216))) (fun _ hk => hk.2) (.int .i64 t233)) (fun _ hk => hk.2) (.slice Ao30 t234.length co30)) (fun _ hk => hk.2) (.slice Ao31 t237.length co31)) (fun _ hk => ⟨hk.1.1.1.1.2.1, ⟨hk.1.1.1.1.2.2.1, ⟨hk.1.1.1.1.1, ⟨hk.1.1.1.2, ⟨hk.1.1.2, ⟨hk.1.2, hk.1.1.1.1.2.2.2⟩⟩⟩⟩⟩⟩)))⟩; have n5_ : Aside0 (Kd.R (Kd.int .i16) 74 w32 w.heap.size (fun k_ => some k_ ≠ (.slice Ao20 y217.length co20 : Value).ownBlock) (.slice Ao27 y229.length co27) y229) := ⟨(by rw [hw]; exact (by (with_reducible repeat (first | apply Kd.R_alloc | apply Kd.R_drewN | apply Kd.R_drew)); exact Kd.R_mono (Kd.R_far (p := ⟨gb216, 2, none⟩) (Kd.R_far (p := ⟨gb216, 1, none⟩) (Kd.R_far (p := ⟨gb216, 0, none⟩) (Kd.R_types HO231.out BK216.out (by decide)) (fun _ hk => hk.2) (.int .i64 t233)) (fun _ hk => hk.2) (.slice Ao30 t234.length co30)) (fun _ hk => hk.2) (.slice Ao31 t237.length co31)) (fun _ hk => hk.1.2)))⟩; have n6_ : Aside0 (Kd.R (Kd.int .i64) 2 w32 w.heap.size (fun k_ => some k_ ≠ (.slice Ao16 t209.length co16 : Value).ownBlock ∧ some k_ ≠ (.slice Ao23 t222.length co23 : Value).ownBlock) (.slice Ao30 t234.length co30) t234) := ⟨(by rw [hw]; exact (by (with_reducible repeat (first | apply Kd.R_alloc | apply Kd.R_drewN | apply Kd.R_drew)); exact Kd.R_mono (Kd.R_far (p := ⟨gb216, 2, none⟩) (Kd.R_far (p := ⟨gb216, 1, none⟩) (Kd.R_far (p := ⟨gb216, 0, none⟩) (Kd.R_types HO236.out BK216.out (by decide)) (fun _ hk => hk.2) (.int .i64 t233)) (fun _ hk => hk.2) (.slice Ao30 t234.length co30)) (fun _ hk => hk.2) (.slice Ao31 t237.length co31)) (fun _ hk => ⟨hk.1.1.2, hk.1.2⟩)))⟩; have n7_ : Aside0 (Kd.N (Kd.slice 74 (Kd.int .i16)) 27 w32 w.heap.size (fun k_ => some k_ ≠ (.slice Ao16 t209.length co16 : Value).ownBlock ∧ some k_ ≠ (.slice Ao20 y217.length co20 : Value).ownBlock ∧ some k_ ≠ (.slice Ao23 t222.length co23 : Value).ownBlock ∧ some k_ ≠ (.slice Ao27 y229.length co27 : Value).ownBlock ∧ some k_ ≠ (.slice Ao30 t234.length co30 : Value).ownBlock ∧ k_ ≠ gb216) (.slice Ao31 t237.length co31) t237) := ⟨(by rw [hw]; exact (by (with_reducible repeat (first | apply Kd.N_alloc | apply Kd.N_drewN | apply Kd.N_drew)); exact Kd.N_mono (Kd.N_far (p := ⟨gb216, 2, none⟩) (Kd.N_far (p := ⟨gb216, 1, none⟩) (Kd.N_far (p := ⟨gb216, 0, none⟩) (Kd.N_mono HO239.out (fun k_ hk => (⟨hk, hk.2.2.2.2.2⟩ : _ ∧ k_ ≠ gb216))) (fun _ hk => hk.2) (.int .i64 t233)) (fun _ hk => hk.2) (.slice Ao30 t234.length co30)) (fun _ hk => hk.2) (.slice Ao31 t237.length co31)) (fun _ hk => ⟨hk.1.2.1, ⟨hk.1.2.2.1, ⟨hk.1.2.2.2.1, ⟨hk.1.2.2.2.2.1, ⟨hk.1.1, hk.1.2.2.2.2.2⟩⟩⟩⟩⟩)))⟩; have n8_ : Aside0 (w32.heap[gb216]? = some (.cells #[.int .i64 t233, .slice Ao30 t234.length co30, .slice Ao31 t237.length co31] 25 (0, 0))) := ⟨(by rw [hw]; exact (by (with_reducible repeat (first | refine blk_drewN ?_ _ | refine blk_drew ?_ | refine blk_alloc ?_ _)); refine blk_put (cs := #[.int .i64 t233, .slice Ao30 t234.length co30, .slice Ao24 t225.length co24]) ?_ 2 _ rfl; (with_reducible repeat (first | refine blk_drewN ?_ _ | refine blk_drew ?_ | refine blk_alloc ?_ _)); refine blk_put (cs := #[.int .i64 t233, .slice Ao23 t222.length co23, .slice Ao24 t225.length co24]) ?_ 1 _ rfl; (with_reducible repeat (first | refine blk_drewN ?_ _ | refine blk_drew ?_ | refine blk_alloc ?_ _)); refine blk_put (cs := #[.int .i64 t221, .slice Ao23 t222.length co23, .slice Ao24 t225.length co24]) ?_ 0 _ rfl; (with_reducible repeat (first | refine blk_drewN ?_ _ | refine blk_drew ?_ | refine blk_alloc ?_ _)); exact BK216.out))⟩; have n9_ : Aside0 (Below w.heap.size w w32) := ⟨(by rw [hw]; exact (by repeat (first | (with_reducible first | exact HB.out | apply below_alloc | apply pw_below_drewN | apply below_drew1 | refine below_set ?_ GE216.out) | exact HB.out)))⟩; clear hw; clear HO211; clear HO214; clear HO219; clear HO224; clear HO227; clear HO231; clear HO236; clear HO239; clear BK216; clear HB; have HO211 := n0_; have HO214 := n1_; have HO219 := n2_; have HO224 := n3_; have HO227 := n4_; have HO231 := n5_; have HO236 := n6_; have HO239 := n7_; have BK216 := n8_; have HB := n9_; clear n0_ n1_ n2_ n3_ n4_ n5_ n6_ n7_ n8_ n9_; have hcz33_0 : w32.cell? ⟨gb216, 0, none⟩ = some (.int .i64 t233) := (blk_cell BK216.out 0).trans rfl; have hcz33_1 : w32.cell? ⟨gb216, 1, none⟩ = some (.slice Ao30 t234.length co30) := (blk_cell BK216.out 1).trans rfl; have hcz33_2 : w32.cell? ⟨gb216, 2, none⟩ = some (.slice Ao31 t237.length co31) := (blk_cell BK216.out 2).trans rfl; have hfz33_0 := blk_frozen BK216.out 0; have hfz33_1 := blk_frozen BK216.out 1; have hfz33_2 := blk_frozen BK216.out 2) | ((with_reducible refine gate_callee (f := 34) rfl ?_); refine goesL_ (some 31) rfl rfl Try.func34 (by kernel_rfl) rfl #[.agg #[.int .i64 t233, .slice Ao30 t234.length co30, .slice Ao31 t237.length co31], .int .i64 7] rfl (by (try simp only [List.map_toArray, List.map_cons, List.map_nil]); first | done | rfl | (simp only [List.length_drop, List.length_take]; rfl)) ?_; (with_reducible refine (slots_Del.calls k t233 _ _ t234 (fun k_ => (some k_ ≠ (.slice Ao16 t209.length co16 : Value).ownBlock ∧ (some k_ ≠ (.slice Ao20 y217.length co20 : Value).ownBlock ∧ (some k_ ≠ (.slice Ao23 t222.length co23 : Value).ownBlock ∧ (some k_ ≠ (.slice Ao27 y229.length co27 : Value).ownBlock ∧ (some k_ ≠ (.slice Ao30 t234.length co30 : Value).ownBlock ∧ k_ ≠ gb216)))))) _ _ t237 7 t241 t242 t243 t246 t249 _ ?side1 ?side2 ?side3 A4.out).mono ?_); (case side1 => repeat (first | exact (Kd.R_reads' HO236.out).2.2 | (with_reducible refine Kd.C_alloc ?_ _) | (with_reducible refine Kd.C_drewN ?_ _) | (with_reducible refine Kd.C_drew ?_))); (case side2 => exact (Kd.R_reads' HO236.out).2.1); (case side3 => exact Kd.N_V (HO239.out)); rintro e w34 ⟨v244, v247, rfl, ho0, ho1, hb⟩; refine ⟨_, rfl, ?_⟩; have n0_ := Aside0.mk (Kd.R_elder' (by (with_reducible repeat (first | apply Kd.R_alloc | apply Kd.R_drewN | apply Kd.R_drew)); exact HO211.out) (Kd.R_base ho0) hb); have n1_ := Aside0.mk (Kd.N_mono (Kd.N_told (Kd.N_told (Kd.N_old (by (with_reducible repeat (first | apply Kd.N_alloc | apply Kd.N_drewN | apply Kd.N_drew)); exact HO214.out) hb) (Kd.R_base ho0)) (Kd.N_base ho1)) (fun _ h_ => h_.1)); have n2_ := Aside0.mk (Kd.R_below (by (with_reducible repeat (first | apply Kd.R_alloc | apply Kd.R_drewN | apply Kd.R_drew)); exact HO219.out) hb); have n3_ := Aside0.mk (Kd.R_elder' (by (with_reducible repeat (first | apply Kd.R_alloc | apply Kd.R_drewN | apply Kd.R_drew)); exact HO224.out) (Kd.R_base ho0) hb); have n4_ := Aside0.mk (Kd.N_mono (Kd.N_told (Kd.N_told (Kd.N_old (by (with_reducible repeat (first | apply Kd.N_alloc | apply Kd.N_drewN | apply Kd.N_drew)); exact HO227.out) hb) (Kd.R_base ho0)) (Kd.N_base ho1)) (fun _ h_ => h_.1)); have n5_ := Aside0.mk (Kd.R_below (by (with_reducible repeat (first | apply Kd.R_alloc | apply Kd.R_drewN | apply Kd.R_drew)); exact HO231.out) hb); have n6_ := Aside0.mk (Kd.R_elder' (by (with_reducible repeat (first | apply Kd.R_alloc | apply Kd.R_drewN | apply Kd.R_drew)); exact HO236.out) (Kd.R_base ho0) hb); have n7_ := Aside0.mk (Kd.N_mono (Kd.N_told (Kd.N_told (Kd.N_old (by (with_reducible repeat (first | apply Kd.N_alloc | apply Kd.N_drewN | apply Kd.N_drew)); exact HO239.out) hb) (Kd.R_base ho0)) (Kd.N_base ho1)) (fun _ h_ => h_.1)); have n8_ := Aside0.mk (Kd.R_lower (Kd.R_new' (Kd.R_new' (Kd.R_new' (Kd.R_mono (ok' := fun k_ => True) ho0 (fun _ hk_ => trivial)) (Kd.R_lt (by (with_reducible repeat (first | apply Kd.R_alloc | apply Kd.R_drewN | apply Kd.R_drew)); exact HO211.out))) (Kd.R_lt (by (with_reducible repeat (first | apply Kd.R_alloc | apply Kd.R_drewN | apply Kd.R_drew)); exact HO224.out))) (Kd.R_lt (by (with_reducible repeat (first | apply Kd.R_alloc | apply Kd.R_drewN | apply Kd.R_drew)); exact HO236.out))) (below_size (by repeat (first | (with_reducible first | exact HB.out | apply below_alloc | apply pw_below_drewN | apply below_drew1 | refine below_set ?_ GE216.out) | exact HB.out)))); have n9_ := Aside0.mk (Kd.N_lower (Kd.N_mono (ok' := fun k_ => some k_ ≠ (v244 : Value).ownBlock ∧ some k_ ≠ (.slice Ao16 t209.length co16 : Value).ownBlock ∧ some k_ ≠ (.slice Ao20 y217.length co20 : Value).ownBlock ∧ some k_ ≠ (.slice Ao23 t222.length co23 : Value).ownBlock ∧ some k_ ≠ (.slice Ao27 y229.length co27 : Value).ownBlock ∧ some k_ ≠ (.slice Ao30 t234.length co30 : Value).ownBlock ∧ k_ ≠ gb216) ho1 (fun k_ hk_ => ⟨hk_.2, Or.elim hk_.1 (fun hs_ => hs_.1) (fun hn_ => (Kd.fresh' (Kd.R_lt (by (with_reducible repeat (first | apply Kd.R_alloc | apply Kd.R_drewN | apply Kd.R_drew)); exact HO211.out)) k_ hn_)), Or.elim hk_.1 (fun hs_ => hs_.2.1) (fun hn_ => (Kd.fresh' (Kd.R_lt (by (with_reducible repeat (first | apply Kd.R_alloc | apply Kd.R_drewN | apply Kd.R_drew)); exact HO219.out)) k_ hn_)), Or.elim hk_.1 (fun hs_ => hs_.2.2.1) (fun hn_ => (Kd.fresh' (Kd.R_lt (by (with_reducible repeat (first | apply Kd.R_alloc | apply Kd.R_drewN | apply Kd.R_drew)); exact HO224.out)) k_ hn_)), Or.elim hk_.1 (fun hs_ => hs_.2.2.2.1) (fun hn_ => (Kd.fresh' (Kd.R_lt (by (with_reducible repeat (first | apply Kd.R_alloc | apply Kd.R_drewN | apply Kd.R_drew)); exact HO231.out)) k_ hn_)), Or.elim hk_.1 (fun hs_ => hs_.2.2.2.2.1) (fun hn_ => (Kd.fresh' (Kd.R_lt (by (with_reducible repeat (first | apply Kd.R_alloc | apply Kd.R_drewN | apply Kd.R_drew)); exact HO236.out)) k_ hn_)), Or.elim hk_.1 (fun hs_ => hs_.2.2.2.2.2) (fun hn_ => (Kd.freshB (g := gb216) (o := .cells #[.int .i64 t233, .slice Ao30 t234.length co30, .slice Ao31 t237.length co31] 25 (0, 0)) (by (with_reducible repeat (first | refine blk_drewN ?_ _ | refine blk_drew ?_ | refine blk_alloc ?_ _)); exact BK216.out) k_ hn_))⟩)) (below_size (by repeat (first | (with_reducible first | exact HB.out | apply below_alloc | apply pw_below_drewN | apply below_drew1 | refine below_set ?_ GE216.out) | exact HB.out)))); have n10_ := Aside0.mk (blk_below (g := gb216) (o := .cells #[.int .i64 t233, .slice Ao30 t234.length co30, .slice Ao31 t237.length co31] 25 (0, 0)) (by (with_reducible repeat (first | refine blk_drewN ?_ _ | refine blk_drew ?_ | refine blk_alloc ?_ _)); exact BK216.out) hb); have n11_ := Aside0.mk (below_step (by repeat (first | (with_reducible first | exact HB.out | apply below_alloc | apply pw_below_drewN | apply below_drew1 | refine below_set ?_ GE216.out) | exact HB.out)) hb); clear HO211; clear HO214; clear HO219; clear HO224; clear HO227; clear HO231; clear HO236; clear HO239; clear BK216; clear HB; have HO211 := n0_; have HO214 := n1_; have HO219 := n2_; have HO224 := n3_; have HO227 := n4_; have HO231 := n5_; have HO236 := n6_; have HO239 := n7_; have HO245 := n8_; have HO248 := n9_; have BK216 := n10_; have HB := n11_; clear n0_ n1_ n2_ n3_ n4_ n5_ n6_ n7_ n8_ n9_ n10_ n11_; (try clear hb); (try clear hb2); (try clear hk); (try clear hi); (try clear ho0); (try clear ho1); have hcz35_0 : w34.cell? ⟨gb216, 0, none⟩ = some (.int .i64 t233) := (blk_cell BK216.out 0).trans rfl; have hcz35_1 : w34.cell? ⟨gb216, 1, none⟩ = some (.slice Ao30 t234.length co30) := (blk_cell BK216.out 1).trans rfl; have hcz35_2 : w34.cell? ⟨gb216, 2, none⟩ = some (.slice Ao31 t237.length co31) := (blk_cell BK216.out 2).trans rfl; have hfz35_0 := blk_frozen BK216.out 0; have hfz35_1 := blk_frozen BK216.out 1; have hfz35_2 := blk_frozen BK216.out 2; obtain ⟨Ao36, co36, eo36⟩ := Kd.R_slice HO245.out; subst eo36; obtain ⟨Ao37, co37, eo37⟩ := Kd.N_slice HO248.out; subst eo37) | ((with_reducible refine gate_dst (N := 37) rfl ?_); (try (refine gate_guard (by rfl) ?_; dsimp only)); refine Kd.R_lit (Kd.int .i16) _ 74 ?hg (N := 37) ?hd (xs := ([4] : List Int)) (inner := [.int .i16 4]) (ok := fun _ => True) (okp := fun _ => True) ?hr ?hp (fun _ hk => hk) trivial (Below.refl _ _) (Nat.le_refl _) (by simp) ?_; (case hd => rfl); (case hg => rfl); (case hr => first | (go_simp; done) | (go_simp; rfl)); (case hp => exact (Reps.one (show Kd.M (Kd.int .i16) _ _ _ 4 [.int .i16 4] from rfl) (Reps.none _ _))); intro v251 w38 ho39 hb hg_ hnew_; clear hg_ hnew_; (first | rw [← Ny250.out] at ho39 | (simp only [Int.reduceToNat] at ho39; rw [← Ny250.out] at ho39)); have n0_ := Aside0.mk (Kd.R_below (by (with_reducible repeat (first | apply Kd.R_alloc | apply Kd.R_drewN | apply Kd.R_drew)); exact (Kd.R_mono (Kd.R_far (p := ⟨gb216, 2, none⟩) (Kd.R_far (p := ⟨gb216, 1, none⟩) (Kd.R_far (p := ⟨gb216, 0, none⟩) (Kd.R_types HO211.out BK216.out (by decide)) (fun _ hk => hk.2) (.int .i64 t242)) (fun _ hk => hk.2) (.slice Ao36 t243.length co36)) (fun _ hk => hk.2) (.slice Ao37 t246.length co37)) (fun _ h_ => h_.1))) hb); have n1_ := Aside0.mk (Kd.N_elder' (by (with_reducible repeat (first | apply Kd.N_alloc | apply Kd.N_drewN | apply Kd.N_drew)); exact (Kd.N_mono (Kd.N_far (p := ⟨gb216, 2, none⟩) (Kd.N_far (p := ⟨gb216, 1, none⟩) (Kd.N_far (p := ⟨gb216, 0, none⟩) (Kd.N_mono HO214.out (fun k_ hk => (⟨hk, hk.1.1.2.2.2.2.2.2.2⟩ : _ ∧ k_ ≠ gb216))) (fun _ hk => hk.2) (.int .i64 t242)) (fun _ hk => hk.2) (.slice Ao36 t243.length co36)) (fun _ hk => hk.2) (.slice Ao37 t246.length co37)) (fun _ h_ => h_.1))) (Kd.R_base ho39) hb); have n2_ := Aside0.mk (Kd.R_elder' (by (with_reducible repeat (first | apply Kd.R_alloc | apply Kd.R_drewN | apply Kd.R_drew)); exact (Kd.R_mono (Kd.R_far (p := ⟨gb216, 2, none⟩) (Kd.R_far (p := ⟨gb216, 1, none⟩) (Kd.R_far (p := ⟨gb216, 0, none⟩) (Kd.R_types HO219.out BK216.out (by decide)) (fun _ hk => hk.2) (.int .i64 t242)) (fun _ hk => hk.2) (.slice Ao36 t243.length co36)) (fun _ hk => hk.2) (.slice Ao37 t246.length co37)) (fun _ h_ => h_.1))) (Kd.R_base ho39) hb); have n3_ := Aside0.mk (Kd.R_below (by (with_reducible repeat (first | apply Kd.R_alloc | apply Kd.R_drewN | apply Kd.R_drew)); exact (Kd.R_mono (Kd.R_far (p := ⟨gb216, 2, none⟩) (Kd.R_far (p := ⟨gb216, 1, none⟩) (Kd.R_far (p := ⟨gb216, 0, none⟩) (Kd.R_types HO224.out BK216.out (by decide)) (fun _ hk => hk.2) (.int .i64 t242)) (fun _ hk => hk.2) (.slice Ao36 t243.length co36)) (fun _ hk => hk.2) (.slice Ao37 t246.length co37)) (fun _ h_ => h_.1))) hb); have n4_ := Aside0.mk (Kd.N_elder' (by (with_reducible repeat (first | apply Kd.N_alloc | apply Kd.N_drewN | apply Kd.N_drew)); exact (Kd.N_mono (Kd.N_far (p := ⟨gb216, 2, none⟩) (Kd.N_far (p := ⟨gb216, 1, none⟩) (Kd.N_far (p := ⟨gb216, 0, none⟩) (Kd.N_mono HO227.out (fun k_ hk => (⟨hk, hk.1.1.2.2.2.2.2.2⟩ : _ ∧ k_ ≠ gb216))) (fun _ hk => hk.2) (.int .i64 t242)) (fun _ hk => hk.2) (.slice Ao36 t243.length co36)) (fun _ hk => hk.2) (.slice Ao37 t246.length co37)) (fun _ h_ => h_.1))) (Kd.R_base ho39) hb); have n5_ := Aside0.mk (Kd.R_elder' (by (with_reducible repeat (first | apply Kd.R_alloc | apply Kd.R_drewN | apply Kd.R_drew)); exact (Kd.R_mono (Kd.R_far (p := ⟨gb216, 2, none⟩) (Kd.R_far (p := ⟨gb216, 1, none⟩) (Kd.R_far (p := ⟨gb216, 0, none⟩) (Kd.R_types HO231.out BK216.out (by decide)) (fun _ hk => hk.2) (.int .i64 t242)) (fun _ hk => hk.2) (.slice Ao36 t243.length co36)) (fun _ hk => hk.2) (.slice Ao37 t246.length co37)) (fun _ h_ => h_.1))) (Kd.R_base ho39) hb); have n6_ := Aside0.mk (Kd.R_below (by (with_reducible repeat (first | apply Kd.R_alloc | apply Kd.R_drewN | apply Kd.R_drew)); exact (Kd.R_mono (Kd.R_far (p := ⟨gb216, 2, none⟩) (Kd.R_far (p := ⟨gb216, 1, none⟩) (Kd.R_far (p := ⟨gb216, 0, none⟩) (Kd.R_types HO236.out BK216.out (by decide)) (fun _ hk => hk.2) (.int .i64 t242)) (fun _ hk => hk.2) (.slice Ao36 t243.length co36)) (fun _ hk => hk.2) (.slice Ao37 t246.length co37)) (fun _ h_ => h_.1))) hb); have n7_ := Aside0.mk (Kd.N_elder' (by (with_reducible repeat (first | apply Kd.N_alloc | apply Kd.N_drewN | apply Kd.N_drew)); exact (Kd.N_mono (Kd.N_far (p := ⟨gb216, 2, none⟩) (Kd.N_far (p := ⟨gb216, 1, none⟩) (Kd.N_far (p := ⟨gb216, 0, none⟩) (Kd.N_mono HO239.out (fun k_ hk => (⟨hk, hk.1.1.2.2.2.2.2⟩ : _ ∧ k_ ≠ gb216))) (fun _ hk => hk.2) (.int .i64 t242)) (fun _ hk => hk.2) (.slice Ao36 t243.length co36)) (fun _ hk => hk.2) (.slice Ao37 t246.length co37)) (fun _ h_ => h_.1))) (Kd.R_base ho39) hb); have n8_ := Aside0.mk (Kd.R_below (by (with_reducible repeat (first | apply Kd.R_alloc | apply Kd.R_drewN | apply Kd.R_drew)); exact (Kd.R_mono (Kd.R_far (p := ⟨gb216, 2, none⟩) (Kd.R_far (p := ⟨gb216, 1, none⟩) (Kd.R_far (p := ⟨gb216, 0, none⟩) (Kd.R_types HO245.out BK216.out (by decide)) (fun _ hk => hk.2) (.int .i64 t242)) (fun _ hk => hk.2) (.slice Ao36 t243.length co36)) (fun _ hk => hk.2) (.slice Ao37 t246.length co37)) (fun _ h_ => h_.1))) hb); have n9_ := Aside0.mk (Kd.N_elder' (by (with_reducible repeat (first | apply Kd.N_alloc | apply Kd.N_drewN | apply Kd.N_drew)); exact (Kd.N_mono (Kd.N_far (p := ⟨gb216, 2, none⟩) (Kd.N_far (p := ⟨gb216, 1, none⟩) (Kd.N_far (p := ⟨gb216, 0, none⟩) (Kd.N_mono HO248.out (fun k_ hk => (⟨hk, hk.2.2.2.2.2.2⟩ : _ ∧ k_ ≠ gb216))) (fun _ hk => hk.2) (.int .i64 t242)) (fun _ hk => hk.2) (.slice Ao36 t243.length co36)) (fun _ hk => hk.2) (.slice Ao37 t246.length co37)) (fun _ h_ => h_.1))) (Kd.R_base ho39) hb); have n10_ := Aside0.mk (Kd.R_lower (Kd.R_new' (Kd.R_new' ho39 (Kd.R_lt (by (with_reducible repeat (first | apply Kd.R_alloc | apply Kd.R_drewN | apply Kd.R_drew)); exact (Kd.R_mono (Kd.R_far (p := ⟨gb216, 2, none⟩) (Kd.R_far (p := ⟨gb216, 1, none⟩) (Kd.R_far (p := ⟨gb216, 0, none⟩) (Kd.R_types HO219.out BK216.out (by decide)) (fun _ hk => hk.2) (.int .i64 t242)) (fun _ hk => hk.2) (.slice Ao36 t243.length co36)) (fun _ hk => hk.2) (.slice Ao37 t246.length co37)) (fun _ h_ => h_.1))))) (Kd.R_lt (by (with_reducible repeat (first | apply Kd.R_alloc | apply Kd.R_drewN | apply Kd.R_drew)); exact (Kd.R_mono (Kd.R_far (p := ⟨gb216, 2, none⟩) (Kd.R_far (p := ⟨gb216, 1, none⟩) (Kd.R_far (p := ⟨gb216, 0, none⟩) (Kd.R_types HO231.out BK216.out (by decide)) (fun _ hk => hk.2) (.int .i64 t242)) (fun _ hk => hk.2) (.slice Ao36 t243.length co36)) (fun _ hk => hk.2) (.slice Ao37 t246.length co37)) (fun _ h_ => h_.1))))) (below_size (by repeat (first | (with_reducible first | exact HB.out | apply below_alloc | apply pw_below_drewN | apply below_drew1 | refine below_set ?_ GE216.out) | exact HB.out)))); have n11_ := Aside0.mk (blk_below (g := gb216) (o := .cells #[.int .i64 t242, .slice Ao36 t243.length co36, .slice Ao37 t246.length co37] 25 (0, 0)) (by (with_reducible repeat (first | refine blk_drewN ?_ _ | refine blk_drew ?_ | refine blk_alloc ?_ _)); refine blk_put (cs := #[.int .i64 t242, .slice Ao36 t243.length co36, .slice Ao31 t237.length co31]) ?_ 2 _ rfl; (with_reducible repeat (first | refine blk_drewN ?_ _ | refine blk_drew ?_ | refine blk_alloc ?_ _)); refine blk_put (cs := #[.int .i64 t242, .slice Ao30 t234.length co30, .slice Ao31 t237.length co31]) ?_ 1 _ rfl; (with_reducible repeat (first | refine blk_drewN ?_ _ | refine blk_drew ?_ | refine blk_alloc ?_ _)); refine blk_put (cs := #[.int .i64 t233, .slice Ao30 t234.length co30, .slice Ao31 t237.length co31]) ?_ 0 _ rfl; (with_reducible repeat (first | refine blk_drewN ?_ _ | refine blk_drew ?_ | refine blk_alloc ?_ _)); exact BK216.out) hb); have n12_ := Aside0.mk (below_step (by repeat (first | (with_reducible first | exact HB.out | apply below_alloc | apply pw_below_drewN | apply below_drew1 | refine below_set ?_ GE216.out) | exact HB.out)) hb); clear HO211; clear HO214; clear HO219; clear HO224; clear HO227; clear HO231; clear HO236; clear HO239; clear HO245; clear HO248; clear BK216; clear HB; have HO211 := n0_; have HO214 := n1_; have HO219 := n2_; have HO224 := n3_; have HO227 := n4_; have HO231 := n5_; have HO236 := n6_; have HO239 := n7_; have HO245 := n8_; have HO248 := n9_; have HO252 := n10_; have BK216 := n11_; have HB := n12_; clear n0_ n1_ n2_ n3_ n4_ n5_ n6_ n7_ n8_ n9_ n10_ n11_ n12_; clear hb ho39; obtain ⟨Ao40, co40, eo40⟩ := Kd.R_slice HO252.out; subst eo40) | ((with_reducible refine gate_callee (f := 27) rfl ?_); refine goesL_ (some 38) rfl rfl Try.func27 (by kernel_rfl) rfl #[.agg #[.int .i64 t242, .slice Ao36 t243.length co36, .slice Ao37 t246.length co37], .int .i64 9, .slice Ao40 y250.length co40] rfl (by (try simp only [List.map_toArray, List.map_cons, List.map_nil]); first | done | rfl | (simp only [List.length_drop, List.length_take]; rfl)) ?_; (with_reducible refine (slots_Put.calls k t242 _ _ t243 (fun k_ => ((some k_ ≠ (.slice Ao36 t243.length co36 : Value).ownBlock ∧ (some k_ ≠ (.slice Ao16 t209.length co16 : Value).ownBlock ∧ (some k_ ≠ (.slice Ao20 y217.length co20 : Value).ownBlock ∧ (some k_ ≠ (.slice Ao23 t222.length co23 : Value).ownBlock ∧ (some k_ ≠ (.slice Ao27 y229.length co27 : Value).ownBlock ∧ (some k_ ≠ (.slice Ao30 t234.length co30 : Value).ownBlock ∧ k_ ≠ gb216)))))) ∧ some k_ ≠ (.slice Ao40 y250.length co40 : Value).ownBlock)) _ _ t246 9 _ _ y250 t253 t254 t255 t258 t261 _ ?side1 ?side2 ?side3 ?side4 ?side5 A5.out).mono ?_); (case side1 => repeat (first | exact (Kd.R_reads' HO245.out).2.2 | (with_reducible refine Kd.C_alloc ?_ _) | (with_reducible refine Kd.C_drewN ?_ _) | (with_reducible refine Kd.C_drew ?_))); (case side2 => exact (Kd.R_reads' HO245.out).2.1); (case side3 => exact Kd.N_V (HO248.out)); (case side4 => repeat (first | exact (Kd.R_reads' HO252.out).2.2 | (with_reducible refine Kd.C_alloc ?_ _) | (with_reducible refine Kd.C_drewN ?_ _) | (with_reducible refine Kd.C_drew ?_))); (case side5 => exact (Kd.R_reads' HO252.out).2.1); rintro e w41 ⟨v256, v259, rfl, ho0, ho1, hb⟩; refine ⟨_, rfl, ?_⟩; have n0_ := Aside0.mk (Kd.R_elder' (by (with_reducible repeat (first | apply Kd.R_alloc | apply Kd.R_drewN | apply Kd.R_drew)); exact HO211.out) (Kd.R_base ho0) hb); have n1_ := Aside0.mk (Kd.N_mono (Kd.N_told (Kd.N_told (Kd.N_old (by (with_reducible repeat (first | apply Kd.N_alloc | apply Kd.N_drewN | apply Kd.N_drew)); exact HO214.out) hb) (Kd.R_base ho0)) (Kd.N_base ho1)) (fun _ h_ => h_.1)); have n2_ := Aside0.mk (Kd.R_below (by (with_reducible repeat (first | apply Kd.R_alloc | apply Kd.R_drewN | apply Kd.R_drew)); exact HO219.out) hb); have n3_ := Aside0.mk (Kd.R_elder' (by (with_reducible repeat (first | apply Kd.R_alloc | apply Kd.R_drewN | apply Kd.R_drew)); exact HO224.out) (Kd.R_base ho0) hb); have n4_ := Aside0.mk (Kd.N_mono (Kd.N_told (Kd.N_told (Kd.N_old (by (with_reducible repeat (first | apply Kd.N_alloc | apply Kd.N_drewN | apply Kd.N_drew)); exact HO227.out) hb) (Kd.R_base ho0)) (Kd.N_base ho1)) (fun _ h_ => h_.1)); have n5_ := Aside0.mk (Kd.R_below (by (with_reducible repeat (first | apply Kd.R_alloc | apply Kd.R_drewN | apply Kd.R_drew)); exact HO231.out) hb); have n6_ := Aside0.mk (Kd.R_elder' (by (with_reducible repeat (first | apply Kd.R_alloc | apply Kd.R_drewN | apply Kd.R_drew)); exact HO236.out) (Kd.R_base ho0) hb); have n7_ := Aside0.mk (Kd.N_mono (Kd.N_told (Kd.N_told (Kd.N_old (by (with_reducible repeat (first | apply Kd.N_alloc | apply Kd.N_drewN | apply Kd.N_drew)); exact HO239.out) hb) (Kd.R_base ho0)) (Kd.N_base ho1)) (fun _ h_ => h_.1)); have n8_ := Aside0.mk (Kd.R_elder' (by (with_reducible repeat (first | apply Kd.R_alloc | apply Kd.R_drewN | apply Kd.R_drew)); exact HO245.out) (Kd.R_base ho0) hb); have n9_ := Aside0.mk (Kd.N_mono (Kd.N_told (Kd.N_told (Kd.N_old (by (with_reducible repeat (first | apply Kd.N_alloc | apply Kd.N_drewN | apply Kd.N_drew)); exact HO248.out) hb) (Kd.R_base ho0)) (Kd.N_base ho1)) (fun _ h_ => h_.1)); have n10_ := Aside0.mk (Kd.R_below (by (with_reducible repeat (first | apply Kd.R_alloc | apply Kd.R_drewN | apply Kd.R_drew)); exact HO252.out) hb); have n11_ := Aside0.mk (Kd.R_lower (Kd.R_new' (Kd.R_new' (Kd.R_new' (Kd.R_new' (Kd.R_mono (ok' := fun k_ => True) ho0 (fun _ hk_ => trivial)) (Kd.R_lt (by (with_reducible repeat (first | apply Kd.R_alloc | apply Kd.R_drewN | apply Kd.R_drew)); exact HO211.out))) (Kd.R_lt (by (with_reducible repeat (first | apply Kd.R_alloc | apply Kd.R_drewN | apply Kd.R_drew)); exact HO224.out))) (Kd.R_lt (by (with_reducible repeat (first | apply Kd.R_alloc | apply Kd.R_drewN | apply Kd.R_drew)); exact HO236.out))) (Kd.R_lt (by (with_reducible repeat (first | apply Kd.R_alloc | apply Kd.R_drewN | apply Kd.R_drew)); exact HO245.out))) (below_size (by repeat (first | (with_reducible first | exact HB.out | apply below_alloc | apply pw_below_drewN | apply below_drew1 | refine below_set ?_ GE216.out) | exact HB.out)))); have n12_ := Aside0.mk (Kd.N_lower (Kd.N_mono (ok' := fun k_ => some k_ ≠ (v256 : Value).ownBlock ∧ some k_ ≠ (.slice Ao16 t209.length co16 : Value).ownBlock ∧ some k_ ≠ (.slice Ao20 y217.length co20 : Value).ownBlock ∧ some k_ ≠ (.slice Ao23 t222.length co23 : Value).ownBlock ∧ some k_ ≠ (.slice Ao27 y229.length co27 : Value).ownBlock ∧ some k_ ≠ (.slice Ao30 t234.length co30 : Value).ownBlock ∧ some k_ ≠ (.slice Ao36 t243.length co36 : Value).ownBlock ∧ some k_ ≠ (.slice Ao40 y250.length co40 : Value).ownBlock ∧ k_ ≠ gb216) ho1 (fun k_ hk_ => ⟨hk_.2, Or.elim hk_.1 (fun hs_ => hs_.1.2.1) (fun hn_ => (Kd.fresh' (Kd.R_lt (by (with_reducible repeat (first | apply Kd.R_alloc | apply Kd.R_drewN | apply Kd.R_drew)); exact HO211.out)) k_ hn_)), Or.elim hk_.1 (fun hs_ => hs_.1.2.2.1) (fun hn_ => (Kd.fresh' (Kd.R_lt (by (with_reducible repeat (first | apply Kd.R_alloc | apply Kd.R_drewN | apply Kd.R_drew)); exact HO219.out)) k_ hn_)), Or.elim hk_.1 (fun hs_ => hs_.1.2.2.2.1) (fun hn_ => (Kd.fresh' (Kd.R_lt (by (with_reducible repeat (first | apply Kd.R_alloc | apply Kd.R_drewN | apply Kd.R_drew)); exact HO224.out)) k_ hn_)), Or.elim hk_.1 (fun hs_ => hs_.1.2.2.2.2.1) (fun hn_ => (Kd.fresh' (Kd.R_lt (by (with_reducible repeat (first | apply Kd.R_alloc | apply Kd.R_drewN | apply Kd.R_drew)); exact HO231.out)) k_ hn_)), Or.elim hk_.1 (fun hs_ => hs_.1.2.2.2.2.2.1) (fun hn_ => (Kd.fresh' (Kd.R_lt (by (with_reducible repeat (first | apply Kd.R_alloc | apply Kd.R_drewN | apply Kd.R_drew)); exact HO236.out)) k_ hn_)), Or.elim hk_.1 (fun hs_ => hs_.1.1) (fun hn_ => (Kd.fresh' (Kd.R_lt (by (with_reducible repeat (first | apply Kd.R_alloc | apply Kd.R_drewN | apply Kd.R_drew)); exact HO245.out)) k_ hn_)), Or.elim hk_.1 (fun hs_ => hs_.2) (fun hn_ => (Kd.fresh' (Kd.R_lt (by (with_reducible repeat (first | apply Kd.R_alloc | apply Kd.R_drewN | apply Kd.R_drew)); exact HO252.out)) k_ hn_)), Or.elim hk_.1 (fun hs_ => hs_.1.2.2.2.2.2.2) (fun hn_ => (Kd.freshB (g := gb216) (o := .cells #[.int .i64 t242, .slice Ao36 t243.length co36, .slice Ao37 t246.length co37] 25 (0, 0)) (by (with_reducible repeat (first | refine blk_drewN ?_ _ | refine blk_drew ?_ | refine blk_alloc ?_ _)); exact BK216.out) k_ hn_))⟩)) (below_size (by repeat (first | (with_reducible first | exact HB.out | apply below_alloc | apply pw_below_drewN | apply below_drew1 | refine below_set ?_ GE216.out) | exact HB.out)))); have n13_ := Aside0.mk (blk_below (g := gb216) (o := .cells #[.int .i64 t242, .slice Ao36 t243.length co36, .slice Ao37 t246.length co37] 25 (0, 0)) (by (with_reducible repeat (first | refine blk_drewN ?_ _ | refine blk_drew ?_ | refine blk_alloc ?_ _)); exact BK216.out) hb); have n14_ := Aside0.mk (below_step (by repeat (first | (with_reducible first | exact HB.out | apply below_alloc | apply pw_below_drewN | apply below_drew1 | refine below_set ?_ GE216.out) | exact HB.out)) hb); clear HO211; clear HO214; clear HO219; clear HO224; clear HO227; clear HO231; clear HO236; clear HO239; clear HO245; clear HO248; clear HO252; clear BK216; clear HB; have HO211 := n0_; have HO214 := n1_; have HO219 := n2_; have HO224 := n3_; have HO227 := n4_; have HO231 := n5_; have HO236 := n6_; have HO239 := n7_; have HO245 := n8_; have HO248 := n9_; have HO252 := n10_; have HO257 := n11_; have HO260 := n12_; have BK216 := n13_; have HB := n14_; clear n0_ n1_ n2_ n3_ n4_ n5_ n6_ n7_ n8_ n9_ n10_ n11_ n12_ n13_ n14_; (try clear hb); (try clear hb2); (try clear hk); (try clear hi); (try clear ho0); (try clear ho1); have hcz42_0 : w41.cell? ⟨gb216, 0, none⟩ = some (.int .i64 t242) := (blk_cell BK216.out 0).trans rfl; have hcz42_1 : w41.cell? ⟨gb216, 1, none⟩ = some (.slice Ao36 t243.length co36) := (blk_cell BK216.out 1).trans rfl; have hcz42_2 : w41.cell? ⟨gb216, 2, none⟩ = some (.slice Ao37 t246.length co37) := (blk_cell BK216.out 2).trans rfl; have hfz42_0 := blk_frozen BK216.out 0; have hfz42_1 := blk_frozen BK216.out 1; have hfz42_2 := blk_frozen BK216.out 2; obtain ⟨Ao43, co43, eo43⟩ := Kd.R_slice HO257.out; subst eo43; obtain ⟨Ao44, co44, eo44⟩ := Kd.N_slice HO260.out; subst eo44) | ((with_reducible refine gate_dst (N := 67) rfl ?_); (try (refine gate_guard (by rfl) ?_; dsimp only)); refine Kd.R_lit (Kd.int .i64) _ 2 ?hg (N := 67) ?hd (xs := ([9, 3] : List Int)) (inner := [.int .i64 9, .int .i64 3]) (ok := fun _ => True) (okp := fun _ => True) ?hr ?hp (fun _ hk => hk) trivial (Below.refl _ _) (Nat.le_refl _) (by simp) ?_; (case hd => rfl); (case hg => rfl); (case hr => first | (go_simp; done) | (go_simp; rfl)); (case hp => exact (Reps.one (show Kd.M (Kd.int .i64) _ _ _ 9 [.int .i64 9] from rfl) (Reps.one (show Kd.M (Kd.int .i64) _ _ _ 3 [.int .i64 3] from rfl) (Reps.none _ _)))); intro v263 w45 ho46 hb hg_ hnew_; clear hg_ hnew_; (first | rw [← Ny262.out] at ho46 | (simp only [Int.reduceToNat] at ho46; rw [← Ny262.out] at ho46)); have n0_ := Aside0.mk (Kd.R_elder' (by (with_reducible repeat (first | apply Kd.R_alloc | apply Kd.R_drewN | apply Kd.R_drew)); exact (Kd.R_mono (Kd.R_far (p := ⟨gb216, 2, none⟩) (Kd.R_far (p := ⟨gb216, 1, none⟩) (Kd.R_far (p := ⟨gb216, 0, none⟩) (Kd.R_types HO211.out BK216.out (by decide)) (fun _ hk => hk.2) (.int .i64 t254)) (fun _ hk => hk.2) (.slice Ao43 t255.length co43)) (fun _ hk => hk.2) (.slice Ao44 t258.length co44)) (fun _ h_ => h_.1))) (Kd.R_base ho46) hb); have n1_ := Aside0.mk (Kd.N_elder' (by (with_reducible repeat (first | apply Kd.N_alloc | apply Kd.N_drewN | apply Kd.N_drew)); exact (Kd.N_mono (Kd.N_far (p := ⟨gb216, 2, none⟩) (Kd.N_far (p := ⟨gb216, 1, none⟩) (Kd.N_far (p := ⟨gb216, 0, none⟩) (Kd.N_mono HO214.out (fun k_ hk => (⟨hk, hk.1.1.1.1.1.2.2.2.2.2.2.2⟩ : _ ∧ k_ ≠ gb216))) (fun _ hk => hk.2) (.int .i64 t254)) (fun _ hk => hk.2) (.slice Ao43 t255.length co43)) (fun _ hk => hk.2) (.slice Ao44 t258.length co44)) (fun _ h_ => h_.1))) (Kd.R_base ho46) hb); have n2_ := Aside0.mk (Kd.R_below (by (with_reducible repeat (first | apply Kd.R_alloc | apply Kd.R_drewN | apply Kd.R_drew)); exact (Kd.R_mono (Kd.R_far (p := ⟨gb216, 2, none⟩) (Kd.R_far (p := ⟨gb216, 1, none⟩) (Kd.R_far (p := ⟨gb216, 0, none⟩) (Kd.R_types HO219.out BK216.out (by decide)) (fun _ hk => hk.2) (.int .i64 t254)) (fun _ hk => hk.2) (.slice Ao43 t255.length co43)) (fun _ hk => hk.2) (.slice Ao44 t258.length co44)) (fun _ h_ => h_.1))) hb); have n3_ := Aside0.mk (Kd.R_elder' (by (with_reducible repeat (first | apply Kd.R_alloc | apply Kd.R_drewN | apply Kd.R_drew)); exact (Kd.R_mono (Kd.R_far (p := ⟨gb216, 2, none⟩) (Kd.R_far (p := ⟨gb216, 1, none⟩) (Kd.R_far (p := ⟨gb216, 0, none⟩) (Kd.R_types HO224.out BK216.out (by decide)) (fun _ hk => hk.2) (.int .i64 t254)) (fun _ hk => hk.2) (.slice Ao43 t255.length co43)) (fun _ hk => hk.2) (.slice Ao44 t258.length co44)) (fun _ h_ => h_.1))) (Kd.R_base ho46) hb); have n4_ := Aside0.mk (Kd.N_elder' (by (with_reducible repeat (first | apply Kd.N_alloc | apply Kd.N_drewN | apply Kd.N_drew)); exact (Kd.N_mono (Kd.N_far (p := ⟨gb216, 2, none⟩) (Kd.N_far (p := ⟨gb216, 1, none⟩) (Kd.N_far (p := ⟨gb216, 0, none⟩) (Kd.N_mono HO227.out (fun k_ hk => (⟨hk, hk.1.1.1.1.1.2.2.2.2.2.2⟩ : _ ∧ k_ ≠ gb216))) (fun _ hk => hk.2) (.int .i64 t254)) (fun _ hk => hk.2) (.slice Ao43 t255.length co43)) (fun _ hk => hk.2) (.slice Ao44 t258.length co44)) (fun _ h_ => h_.1))) (Kd.R_base ho46) hb); have n5_ := Aside0.mk (Kd.R_below (by (with_reducible repeat (first | apply Kd.R_alloc | apply Kd.R_drewN | apply Kd.R_drew)); exact (Kd.R_mono (Kd.R_far (p := ⟨gb216, 2, none⟩) (Kd.R_far (p := ⟨gb216, 1, none⟩) (Kd.R_far (p := ⟨gb216, 0, none⟩) (Kd.R_types HO231.out BK216.out (by decide)) (fun _ hk => hk.2) (.int .i64 t254)) (fun _ hk => hk.2) (.slice Ao43 t255.length co43)) (fun _ hk => hk.2) (.slice Ao44 t258.length co44)) (fun _ h_ => h_.1))) hb); have n6_ := Aside0.mk (Kd.R_elder' (by (with_reducible repeat (first | apply Kd.R_alloc | apply Kd.R_drewN | apply Kd.R_drew)); exact (Kd.R_mono (Kd.R_far (p := ⟨gb216, 2, none⟩) (Kd.R_far (p := ⟨gb216, 1, none⟩) (Kd.R_far (p := ⟨gb216, 0, none⟩) (Kd.R_types HO236.out BK216.out (by decide)) (fun _ hk => hk.2) (.int .i64 t254)) (fun _ hk => hk.2) (.slice Ao43 t255.length co43)) (fun _ hk => hk.2) (.slice Ao44 t258.length co44)) (fun _ h_ => h_.1))) (Kd.R_base ho46) hb); have n7_ := Aside0.mk (Kd.N_elder' (by (with_reducible repeat (first | apply Kd.N_alloc | apply Kd.N_drewN | apply Kd.N_drew)); exact (Kd.N_mono (Kd.N_far (p := ⟨gb216, 2, none⟩) (Kd.N_far (p := ⟨gb216, 1, none⟩) (Kd.N_far (p := ⟨gb216, 0, none⟩) (Kd.N_mono HO239.out (fun k_ hk => (⟨hk, hk.1.1.1.1.1.2.2.2.2.2⟩ : _ ∧ k_ ≠ gb216))) (fun _ hk => hk.2) (.int .i64 t254)) (fun _ hk => hk.2) (.slice Ao43 t255.length co43)) (fun _ hk => hk.2) (.slice Ao44 t258.length co44)) (fun _ h_ => h_.1))) (Kd.R_base ho46) hb); have n8_ := Aside0.mk (Kd.R_elder' (by (with_reducible repeat (first | apply Kd.R_alloc | apply Kd.R_drewN | apply Kd.R_drew)); exact (Kd.R_mono (Kd.R_far (p := ⟨gb216, 2, none⟩) (Kd.R_far (p := ⟨gb216, 1, none⟩) (Kd.R_far (p := ⟨gb216, 0, none⟩) (Kd.R_types HO245.out BK216.out (by decide)) (fun _ hk => hk.2) (.int .i64 t254)) (fun _ hk => hk.2) (.slice Ao43 t255.length co43)) (fun _ hk => hk.2) (.slice Ao44 t258.length co44)) (fun _ h_ => h_.1))) (Kd.R_base ho46) hb); have n9_ := Aside0.mk (Kd.N_elder' (by (with_reducible repeat (first | apply Kd.N_alloc | apply Kd.N_drewN | apply Kd.N_drew)); exact (Kd.N_mono (Kd.N_far (p := ⟨gb216, 2, none⟩) (Kd.N_far (p := ⟨gb216, 1, none⟩) (Kd.N_far (p := ⟨gb216, 0, none⟩) (Kd.N_mono HO248.out (fun k_ hk => (⟨hk, hk.1.1.1.2.2.2.2.2.2⟩ : _ ∧ k_ ≠ gb216))) (fun _ hk => hk.2) (.int .i64 t254)) (fun _ hk => hk.2) (.slice Ao43 t255.length co43)) (fun _ hk => hk.2) (.slice Ao44 t258.length co44)) (fun _ h_ => h_.1))) (Kd.R_base ho46) hb); have n10_ := Aside0.mk (Kd.R_below (by (with_reducible repeat (first | apply Kd.R_alloc | apply Kd.R_drewN | apply Kd.R_drew)); exact (Kd.R_mono (Kd.R_far (p := ⟨gb216, 2, none⟩) (Kd.R_far (p := ⟨gb216, 1, none⟩) (Kd.R_far (p := ⟨gb216, 0, none⟩) (Kd.R_types HO252.out BK216.out (by decide)) (fun _ hk => hk.2) (.int .i64 t254)) (fun _ hk => hk.2) (.slice Ao43 t255.length co43)) (fun _ hk => hk.2) (.slice Ao44 t258.length co44)) (fun _ h_ => h_.1))) hb); have n11_ := Aside0.mk (Kd.R_elder' (by (with_reducible repeat (first | apply Kd.R_alloc | apply Kd.R_drewN | apply Kd.R_drew)); exact (Kd.R_mono (Kd.R_far (p := ⟨gb216, 2, none⟩) (Kd.R_far (p := ⟨gb216, 1, none⟩) (Kd.R_far (p := ⟨gb216, 0, none⟩) (Kd.R_types HO257.out BK216.out (by decide)) (fun _ hk => hk.2) (.int .i64 t254)) (fun _ hk => hk.2) (.slice Ao43 t255.length co43)) (fun _ hk => hk.2) (.slice Ao44 t258.length co44)) (fun _ h_ => h_.1))) (Kd.R_base ho46) hb); have n12_ := Aside0.mk (Kd.N_elder' (by (with_reducible repeat (first | apply Kd.N_alloc | apply Kd.N_drewN | apply Kd.N_drew)); exact (Kd.N_mono (Kd.N_far (p := ⟨gb216, 2, none⟩) (Kd.N_far (p := ⟨gb216, 1, none⟩) (Kd.N_far (p := ⟨gb216, 0, none⟩) (Kd.N_mono HO260.out (fun k_ hk => (⟨hk, hk.2.2.2.2.2.2.2.2⟩ : _ ∧ k_ ≠ gb216))) (fun _ hk => hk.2) (.int .i64 t254)) (fun _ hk => hk.2) (.slice Ao43 t255.length co43)) (fun _ hk => hk.2) (.slice Ao44 t258.length co44)) (fun _ h_ => h_.1))) (Kd.R_base ho46) hb); have n13_ := Aside0.mk (Kd.R_lower (Kd.R_new' (Kd.R_new' (Kd.R_new' (Kd.R_new' (Kd.R_new' ho46 (Kd.R_lt (by (with_reducible repeat (first | apply Kd.R_alloc | apply Kd.R_drewN | apply Kd.R_drew)); exact (Kd.R_mono (Kd.R_far (p := ⟨gb216, 2, none⟩) (Kd.R_far (p := ⟨gb216, 1, none⟩) (Kd.R_far (p := ⟨gb216, 0, none⟩) (Kd.R_types HO211.out BK216.out (by decide)) (fun _ hk => hk.2) (.int .i64 t254)) (fun _ hk => hk.2) (.slice Ao43 t255.length co43)) (fun _ hk => hk.2) (.slice Ao44 t258.length co44)) (fun _ h_ => h_.1))))) (Kd.R_lt (by (with_reducible repeat (first | apply Kd.R_alloc | apply Kd.R_drewN | apply Kd.R_drew)); exact (Kd.R_mono (Kd.R_far (p := ⟨gb216, 2, none⟩) (Kd.R_far (p := ⟨gb216, 1, none⟩) (Kd.R_far (p := ⟨gb216, 0, none⟩) (Kd.R_types HO224.out BK216.out (by decide)) (fun _ hk => hk.2) (.int .i64 t254)) (fun _ hk => hk.2) (.slice Ao43 t255.length co43)) (fun _ hk => hk.2) (.slice Ao44 t258.length co44)) (fun _ h_ => h_.1))))) (Kd.R_lt (by (with_reducible repeat (first | apply Kd.R_alloc | apply Kd.R_drewN | apply Kd.R_drew)); exact (Kd.R_mono (Kd.R_far (p := ⟨gb216, 2, none⟩) (Kd.R_far (p := ⟨gb216, 1, none⟩) (Kd.R_far (p := ⟨gb216, 0, none⟩) (Kd.R_types HO236.out BK216.out (by decide)) (fun _ hk => hk.2) (.int .i64 t254)) (fun _ hk => hk.2) (.slice Ao43 t255.length co43)) (fun _ hk => hk.2) (.slice Ao44 t258.length co44)) (fun _ h_ => h_.1))))) (Kd.R_lt (by (with_reducible repeat (first | apply Kd.R_alloc | apply Kd.R_drewN | apply Kd.R_drew)); exact (Kd.R_mono (Kd.R_far (p := ⟨gb216, 2, none⟩) (Kd.R_far (p := ⟨gb216, 1, none⟩) (Kd.R_far (p := ⟨gb216, 0, none⟩) (Kd.R_types HO245.out BK216.out (by decide)) (fun _ hk => hk.2) (.int .i64 t254)) (fun _ hk => hk.2) (.slice Ao43 t255.length co43)) (fun _ hk => hk.2) (.slice Ao44 t258.length co44)) (fun _ h_ => h_.1))))) (Kd.R_lt (by (with_reducible repeat (first | apply Kd.R_alloc | apply Kd.R_drewN | apply Kd.R_drew)); exact (Kd.R_mono (Kd.R_far (p := ⟨gb216, 2, none⟩) (Kd.R_far (p := ⟨gb216, 1, none⟩) (Kd.R_far (p := ⟨gb216, 0, none⟩) (Kd.R_types HO257.out BK216.out (by decide)) (fun _ hk => hk.2) (.int .i64 t254)) (fun _ hk => hk.2) (.slice Ao43 t255.length co43)) (fun _ hk => hk.2) (.slice Ao44 t258.length co44)) (fun _ h_ => h_.1))))) (below_size (by repeat (first | (with_reducible first | exact HB.out | apply below_alloc | apply pw_below_drewN | apply below_drew1 | refine below_set ?_ GE216.out) | exact HB.out)))); have n14_ := Aside0.mk (blk_below (g := gb216) (o := .cells #[.int .i64 t254, .slice Ao43 t255.length co43, .slice Ao44 t258.length co44] 25 (0, 0)) (by (with_reducible repeat (first | refine blk_drewN ?_ _ | refine blk_drew ?_ | refine blk_alloc ?_ _)); refine blk_put (cs := #[.int .i64 t254, .slice Ao43 t255.length co43, .slice Ao37 t246.length co37]) ?_ 2 _ rfl; (with_reducible repeat (first | refine blk_drewN ?_ _ | refine blk_drew ?_ | refine blk_alloc ?_ _)); refine blk_put (cs := #[.int .i64 t254, .slice Ao36 t243.length co36, .slice Ao37 t246.length co37]) ?_ 1 _ rfl; (with_reducible repeat (first | refine blk_drewN ?_ _ | refine blk_drew ?_ | refine blk_alloc ?_ _)); refine blk_put (cs := #[.int .i64 t242, .slice Ao36 t243.length co36, .slice Ao37 t246.length co37]) ?_ 0 _ rfl; (with_reducible repeat (first | refine blk_drewN ?_ _ | refine blk_drew ?_ | refine blk_alloc ?_ _)); exact BK216.out) hb); have n15_ := Aside0.mk (below_step (by repeat (first | (with_reducible first | exact HB.out | apply below_alloc | apply pw_below_drewN | apply below_drew1 | refine below_set ?_ GE216.out) | exact HB.out)) hb); clear HO211; clear HO214; clear HO219; clear HO224; clear HO227; clear HO231; clear HO236; clear HO239; clear HO245; clear HO248; clear HO252; clear HO257; clear HO260; clear BK216; clear HB; have HO211 := n0_; have HO214 := n1_; have HO219 := n2_; have HO224 := n3_; have HO227 := n4_; have HO231 := n5_; have HO236 := n6_; have HO239 := n7_; have HO245 := n8_; have HO248 := n9_; have HO252 := n10_; have HO257 := n11_; have HO260 := n12_; have HO264 := n13_; have BK216 := n14_; have HB := n15_; clear n0_ n1_ n2_ n3_ n4_ n5_ n6_ n7_ n8_ n9_ n10_ n11_ n12_ n13_ n14_ n15_; clear hb ho46; obtain ⟨Ao47, co47, eo47⟩ := Kd.R_slice HO264.out; subst eo47) | (go_at_call 63; (with_reducible refine (cuvetteref03_SameInts.calls k _ _ t255 _ _ y262 t265 _ ?side1 ?side2 ?side3 ?side4 A12.out).mono ?_); (case side1 => repeat (first | exact (Kd.R_reads' HO257.out).2.2 | (with_reducible refine Kd.C_alloc ?_ _) | (with_reducible refine Kd.C_drewN ?_ _) | (with_reducible refine Kd.C_drew ?_))); (case side2 => exact (Kd.R_reads' HO257.out).2.1); (case side3 => repeat (first | exact (Kd.R_reads' HO264.out).2.2 | (with_reducible refine Kd.C_alloc ?_ _) | (with_reducible refine Kd.C_drewN ?_ _) | (with_reducible refine Kd.C_drew ?_))); (case side4 => exact (Kd.R_reads' HO264.out).2.1); rintro e w' ⟨rfl, ⟨nd, rfl⟩⟩))
              go_ret
              exact ⟨by first | rfl | (simp [errW_none, errW_some] <;> rfl) | (simp [*, errW_none, errW_some] <;> rfl), by repeat (first | (with_reducible first | exact HB.out | apply below_alloc | apply pw_below_drewN | apply below_drew1 | refine below_set ?_ GE216.out) | exact HB.out)⟩
            · rw [if_neg c11] at H
              have c11b0 : (t253 == 0) = false := beq_eq_false_iff_ne.mpr c11
              have c11b1 : (t253 != 0) = true := bne_iff_ne.mpr c11
              exact absurd (Option.some.inj H) (by rw [hT_]; decide)
          · rw [if_neg c10] at H
            have c10b0 : (t261 == 0) = false := beq_eq_false_iff_ne.mpr c10
            have c10b1 : (t261 != 0) = true := bne_iff_ne.mpr c10
            exact absurd (Option.some.inj H) (by rw [hT_]; decide)
        · rw [if_neg c9] at H
          have c9b0 : (t249 == 0) = false := beq_eq_false_iff_ne.mpr c9
          have c9b1 : (t249 != 0) = true := bne_iff_ne.mpr c9
          exact absurd (Option.some.inj H) (by rw [hT_]; decide)
      · rw [if_neg c8] at H
        have c8b0 : (t240 == 0) = false := beq_eq_false_iff_ne.mpr c8
        have c8b1 : (t240 != 0) = true := bne_iff_ne.mpr c8
        exact absurd (Option.some.inj H) (by rw [hT_]; decide)
    · rw [if_neg c7] at H
      have c7b0 : (t228 == 0) = false := beq_eq_false_iff_ne.mpr c7
      have c7b1 : (t228 != 0) = true := bne_iff_ne.mpr c7
      exact absurd (Option.some.inj H) (by rw [hT_]; decide)
  · rw [if_neg c6] at H
    have c6b0 : (t215 == 0) = false := beq_eq_false_iff_ne.mpr c6
    have c6b1 : (t215 != 0) = true := bne_iff_ne.mpr c6
    exact absurd (Option.some.inj H) (by rw [hT_]; decide)

/-- What is printed, where it answers true; else nothing. -/
def cuvettelaw10_live.f (k : Nat) : Option Bool := if cuvettelaw10_live.f0 k = some true then some true else none
theorem cuvettelaw10_live.mono : ∀ k, LeO (cuvettelaw10_live.f k) (cuvettelaw10_live.f (k + 1)) := fun k r h => by
  unfold cuvettelaw10_live.f at h ⊢
  split at h
  case isFalse => cases h
  rename_i h0
  rw [if_pos (cuvettelaw10_live.mono0 k _ h0)]
  exact h
theorem cuvettelaw10_live.calls (k : Nat) (r : Bool) (w : World) (h : cuvettelaw10_live.f k = some r) :
    Calls Try.prog 24 #[] w fun e w' => e = .returned (.bool r) ∧ Below w.heap.size w w' := by
  unfold cuvettelaw10_live.f at h
  split at h
  case isFalse => cases h
  rename_i h0
  injection h with h
  subst h
  exact cuvettelaw10_live.calls0 k true w h0 rfl
end Go.Proofs.Ytkjibgfgbfacdaa.P
end
