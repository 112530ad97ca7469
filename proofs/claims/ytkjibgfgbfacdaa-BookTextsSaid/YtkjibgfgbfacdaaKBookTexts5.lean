/- The law BookTexts of this seat answers true for every input, and its arguments read as they did. Conditions: none. -/
import Derived.KernelRfl
import Derived.Test.YtkjibgfgbfacdaaRows
import Derived.Test.YtkjibgfgbfacdaaKBookTexts0
import Derived.Test.YtkjibgfgbfacdaaKBookTexts1
import Derived.Test.YtkjibgfgbfacdaaKBookTexts2
import Derived.Test.YtkjibgfgbfacdaaKBookTexts3
import Derived.Test.YtkjibgfgbfacdaaKBookTexts4
/-! part: PRef03 -/
section
set_option linter.unusedVariables false
set_option linter.unusedSimpArgs false
namespace Go.Proofs.Ytkjibgfgbfacdaa.P
open Go.RowKit Go.Proofs.YtkjibgfgbfacdaaW.PrintWords Go.Proofs.YtkjibgfgbfacdaaW.PrintLast Go.Proofs.YtkjibgfgbfacdaaW.PrintMore
set_option linter.unusedVariables false

theorem fits_l (n : Int) (B : Nat) (hB : B ≤ 55) (d : Nat) : ∀ i : Nat, i + d = B → Ev (fun k => cuvetteref03_fits.l0 k n (2 ^ i) (B : Int) (i : Int)) (decide (-(2 ^ B) ≤ n) && decide (n < 2 ^ B)) := by
  induction d with
  | zero =>
    intro i hi
    obtain rfl : i = B := by omega
    have hp : (2 : Int) ^ i ≤ 2 ^ 55 := by exact_mod_cast Nat.pow_le_pow_right (by decide) hB
    have hp0 : (0 : Int) < 2 ^ i := Int.pow_pos (by decide)
    have e1 : wrap64 (-(2 : Int) ^ i) = -(2 : Int) ^ i := w64 (by omega) (by omega)
    refine Ev.step (g' := fun _ => _) (fun k => ?_) (Ev.const _)
    simp only [cuvetteref03_fits.l0]
    rw [if_neg (by omega), e1]
    by_cases h : n ≥ -(2 : Int) ^ i
    · rw [if_pos h, decide_eq_true (p := -(2 : Int) ^ i ≤ n) h, Bool.true_and]
    · rw [if_neg h, decide_eq_false (p := -(2 : Int) ^ i ≤ n) h, Bool.false_and]
  | succ d ih =>
    intro i hi
    have hp : (2 : Int) ^ (i + 1) ≤ 2 ^ 55 := by exact_mod_cast Nat.pow_le_pow_right (by decide) (show i + 1 ≤ 55 by omega)
    have hp0 : (0 : Int) < 2 ^ (i + 1) := Int.pow_pos (by decide)
    have e1 : wrap64 (2 * (2 : Int) ^ i) = 2 ^ (i + 1) := by rw [Int.pow_succ, Int.mul_comm]; rw [Int.pow_succ] at hp hp0; exact w64 (by omega) (by omega)
    refine Ev.step (fun k => ?_) (ih (i + 1) (by omega))
    simp only [cuvetteref03_fits.l0]
    rw [if_pos (by omega), e1, idxCast i (by omega)]
theorem fits03_ev (n : Int) (w : Nat) (h1 : 1 ≤ w) (h8 : w ≤ 8) (hn : fitsB 8 n = true) : Ev (fun k => cuvetteref03_fits.f k n (w : Int)) (fitsB w n) := by
  unfold cuvetteref03_fits.f
  by_cases h : w = 8
  · subst h
    rw [hn]
    exact Ev.of fun k => rfl
  · simp only [if_neg (show ¬ ((w : Int) = 8) by omega)]
    have e1 : wrap64 (wrap64 (8 * (w : Int)) - 1) = ((8 * w - 1 : Nat) : Int) := by unfold wrap64; omega
    rw [e1]
    exact fits_l n (8 * w - 1) (by omega) (8 * w - 1) 0 (by omega)
theorem u64_wrap (n : Int) : IntKind.u64.wrap n = n % 18446744073709551616 := by simp [IntKind.wrap, IntKind.bits, IntKind.signed]
theorem put03_l2 (w : Nat) (base : List Int) (l : List Int) (L j : Int) (v : List Int × Int) (hb : base.length + w ≤ 70000) (d : Nat) : ∀ (i : Nat) (acc : List Int) (n : Int), i + d = w → acc.length = base.length + i → 0 ≤ n → n < 18446744073709551616 →
    Ev (fun k => cuvetteref03_Put.l1 k w (acc ++ enc d n) l L (wrap64 (j + 1))) v → Ev (fun k => cuvetteref03_Put.l2 k w acc n l L j w i) v := by
  induction d with
  | zero =>
    intro i acc n hi ha h0 h1 hv
    rw [enc, List.append_nil] at hv
    refine Ev.step (fun k => ?_) hv
    simp only [cuvetteref03_Put.l2]
    rw [if_neg (by omega)]
  | succ d ih =>
    intro i acc n hi ha h0 h1 hv
    have e1 : Int.tmod n 256 % 256 = n % 256 := by rw [Int.tmod_eq_emod_of_nonneg h0]; omega
    have e2 : IntKind.u64.wrap (Int.tdiv n 256) = n / 256 := by rw [Int.tdiv_eq_ediv_of_nonneg h0, u64_wrap]; omega
    have := ih (i + 1) (acc ++ [n % 256]) (n / 256) (by omega) (by simp; omega) (by omega) (by omega) (by rw [List.append_assoc]; exact hv)
    refine Ev.step (fun k => ?_) this
    simp only [cuvetteref03_Put.l2]
    rw [if_pos (by omega), if_pos (by omega), e1, e2, idxCast i (by omega)]
/-- One number that has room. -/
theorem put03_ev (b : List Int) (w : Nat) (h1 : 1 ≤ w) (h8 : w ≤ 8) (x : Int) (hx : fitsB 8 x = true) (hf : fitsB w x = true) (hb : b.length ≤ 60000) : Ev (fun k => cuvetteref03_Put.f k b (w : Int) [x]) (b ++ enc w x, 0) := by
  have hend : Ev (fun k => cuvetteref03_Put.l1 k w (b ++ enc w (IntKind.u64.wrap x)) [x] 1 (wrap64 (0 + 1))) (b ++ enc w x, 0) := by
    have e : enc w (IntKind.u64.wrap x) = enc w x := by
      refine enc_mod w _ _ ?_
      rw [u64_wrap]
      refine Int.emod_emod_of_dvd x ?_
      rw [show (18446744073709551616 : Int) = 2 ^ (8 * w) * 2 ^ (64 - 8 * w) by rw [← Int.pow_add, show 8 * w + (64 - 8 * w) = 64 by omega]; rfl]
      exact Int.dvd_mul_right _ _
    rw [e, w64 (i := 0 + 1) (by decide) (by decide)]
    refine Ev.step (g' := fun _ => _) (fun k => ?_) (Ev.const _)
    simp only [cuvetteref03_Put.l1]
    rw [if_neg (by decide)]
  have hu : 0 ≤ IntKind.u64.wrap x ∧ IntKind.u64.wrap x < 18446744073709551616 := by rw [u64_wrap]; omega
  have h2 := put03_l2 w b [x] 1 0 _ (by omega) w 0 b (IntKind.u64.wrap x) (by omega) (by omega) hu.1 hu.2 hend
  have hl1 : Ev (fun k => cuvetteref03_Put.l1 k w b [x] 1 0) (b ++ enc w x, 0) := by
    refine Ev.step (fun k => ?_) h2
    simp only [cuvetteref03_Put.l1]
    rw [if_pos (by decide), if_pos (by decide), if_pos (by simp)]
    rfl
  have hl0 : Ev (fun k => cuvetteref03_Put.l0 k b w [x] [x] 1 1) (b ++ enc w x, 0) := by
    refine Ev.step (fun k => ?_) hl1
    simp only [cuvetteref03_Put.l0]
    have e1 : wrap64 ((w : Int) * (([x] : List Int).length : Int)) = w := by simp; exact w64 (by omega) (by omega)
    rw [if_neg (by decide), e1, if_neg (by rw [w64 (by omega) (by omega)]; omega), if_pos (by simp; omega)]
    rfl
  have hl00 : Ev (fun k => cuvetteref03_Put.l0 k b w [x] [x] 1 0) (b ++ enc w x, 0) := by
    refine Ev.step (g' := fun k => (cuvetteref03_fits.f k x w).bind fun t503 => (if t503 = true then (cuvetteref03_Put.l0 k b w [x] [x] 1 1) else (some (([] : List Int), 4)))) (fun k => ?_) (Ev.bind (fits03_ev x w h1 h8 hx) ?_)
    · simp only [cuvetteref03_Put.l0]
      rw [if_pos (by decide), if_pos (by decide), if_pos (by simp), w64 (i := 0 + 1) (by decide) (by decide)]
      rfl
    · simpa [hf] using hl0
  unfold cuvetteref03_Put.f
  simp only [if_neg (show ¬ ((w : Int) < 1) by omega), decide_eq_false (show ¬ ((w : Int) > 8) by omega)]
  refine Ev.step (fun k => ?_) hl00
  simp only [cuvetteref03_Put.j0]
  rw [if_neg (by decide)]
  rfl

/-! ### Take -/
theorem decs_snoc (w : Nat) (n : Nat) : ∀ b : List Int, decs w (n + 1) b = decs w n b ++ [dec w ((b.drop (n * w)).take w)] := by
  induction n with
  | zero => intro b; simp [decs]
  | succ n ih =>
    intro b
    rw [decs, ih (b.drop w), decs, List.drop_drop, show (n + 1) * w = w + n * w by rw [Nat.succ_mul]; omega]
    rfl
/-- The top octet tells the sign. -/
theorem dec_top (w : Nat) (h1 : 1 ≤ w) (h8 : w ≤ 8) (l : List Int) (hl : l.length = w) (hb : ∀ x ∈ l, 0 ≤ x ∧ x < 256) :
    dec w l = val l - (if l.getD (w - 1) 0 ≥ 128 then 2 ^ (8 * w) else 0) := by
  have hlt : w - 1 < l.length := by omega
  have hs : l = l.take (w - 1) ++ [l.getD (w - 1) 0] := by
    have := List.take_succ_eq_append_getElem hlt
    rw [show w - 1 + 1 = w by omega, List.take_of_length_le (by omega)] at this
    rw [show l.getD (w - 1) 0 = l[w - 1] by simp [List.getD_eq_getElem?_getD, hlt]]
    exact this
  have ht := hb (l.getD (w - 1) 0) (by rw [show l.getD (w - 1) 0 = l[w - 1] by simp [List.getD_eq_getElem?_getD, hlt]]; exact List.getElem_mem hlt)
  have hv := val_bound (l.take (w - 1)) (fun x hx => hb x (List.mem_of_mem_take hx))
  have hval : val l = val (l.take (w - 1)) + l.getD (w - 1) 0 * 2 ^ (8 * (w - 1)) := by
    conv => lhs; rw [hs]
    rw [val_snoc, List.length_take, Nat.min_eq_left (by omega)]
  rw [List.length_take, Nat.min_eq_left (by omega)] at hv
  unfold dec sgn
  rw [hval]
  generalize l.getD (w - 1) 0 = c at *
  generalize val (l.take (w - 1)) = q at *
  clear hval hs hlt hl hb
  revert hv
  rcases wides h1 h8 with rfl | rfl | rfl | rfl | rfl | rfl | rfl | rfl <;> simp only [Nat.reduceMul, Nat.reduceSub, Int.reducePow] <;> intro hv <;> split <;> split <;> omega
theorem take03_l1 (w : Nat) (h1 : 1 ≤ w) (h8 : w ≤ 8) (b x9 : List Int) (N : Nat) (hN : N ≤ 65536) (j : Nat) (hj : j < N) (hbl : N * w ≤ b.length) (hbm : b.length < 140737488355328) (hbb : ∀ x ∈ b, 0 ≤ x ∧ x < 256) (h9 : x9.length ≤ 65536)
    (neg : Int) (hneg : neg = 0 ∨ neg = 1) (V : List Int × List Int × Int)
    (hV : Ev (fun k => cuvetteref03_Take.l0 k b w N (x9 ++ [wrap64 ((val ((b.drop (j * w)).take w) - neg * 2 ^ (8 * w)) % 18446744073709551616)]) N (wrap64 ((j : Int) + 1))) V) (d : Nat) :
    ∀ i : Nat, i + d = w → Ev (fun k => cuvetteref03_Take.l1 k b w N x9 j ((val (((b.drop (j * w)).take w).drop d) - neg * 2 ^ (8 * (w - d))) % 18446744073709551616) ((d : Int) - 1) N j) V := by
  have hjw : j * w + w ≤ N * w := by rw [← Nat.succ_mul]; exact Nat.mul_le_mul_right _ (by omega)
  have hNw : N * w ≤ 65536 * 8 := Nat.mul_le_mul hN h8
  have hcl : ((b.drop (j * w)).take w).length = w := by rw [List.length_take, List.length_drop]; omega
  have hcb : ∀ x ∈ (b.drop (j * w)).take w, 0 ≤ x ∧ x < 256 := fun x hx => hbb x (List.mem_of_mem_drop (List.mem_of_mem_take hx))
  induction d with
  | zero =>
    intro i hi
    rw [List.drop_zero, Nat.sub_zero]
    refine Ev.step (fun k => ?_) hV
    simp only [cuvetteref03_Take.l1]
    rw [if_neg (by omega), if_pos (by omega)]
  | succ d ih =>
    intro i hi
    have hd : d < ((b.drop (j * w)).take w).length := by omega
    have hc := hcb _ (List.getElem_mem hd)
    have hrow : ((b.drop (j * w)).take w)[d] = rd b ((j * w + d : Nat) : Int) := by
      show _ = b.getD (((j * w + d : Nat) : Int)).toNat 0
      rw [Int.toNat_natCast]
      simp [List.getD_eq_getElem?_getD, show j * w + d < b.length by omega]
    have hvd : val (((b.drop (j * w)).take w).drop d) = rd b ((j * w + d : Nat) : Int) + 256 * val (((b.drop (j * w)).take w).drop (d + 1)) := by
      rw [List.drop_eq_getElem_cons hd, val, hrow]
    rw [hrow] at hc
    have e0 : ((j * w : Nat) : Int) = (j : Int) * (w : Int) := by simp
    have e1 : Aside0 (wrap64 ((j : Int) * (w : Int)) = ((j * w : Nat) : Int)) := ⟨by rw [← e0]; exact w64 (by omega) (by omega)⟩
    have e2 : Aside0 (wrap64 (((j * w : Nat) : Int) + (((d + 1 : Nat) : Int) - 1)) = ((j * w + d : Nat) : Int)) := ⟨by rw [w64 (by omega) (by omega)]; omega⟩
    have e3 : Aside0 (wrap64 ((((d + 1 : Nat) : Int) - 1) - 1) = (d : Int) - 1) := ⟨by rw [w64 (by omega) (by omega)]; omega⟩
    clear e0
    refine Ev.step (fun k => ?_) (ih (i + 1) (by omega))
    simp only [cuvetteref03_Take.l1]
    rw [if_pos (by omega), e1.out, e2.out, if_pos (by omega), if_pos (by omega), e3.out, hvd]
    have hpow : (2 : Int) ^ (8 * (w - d)) = 256 * 2 ^ (8 * (w - (d + 1))) := by rw [show w - d = (w - (d + 1)) + 1 by omega, pow8]
    rw [hpow, u64_wrap, u64_wrap, u64_wrap]
    generalize val (((b.drop (j * w)).take w).drop (d + 1)) = q
    generalize (2 : Int) ^ (8 * (w - (d + 1))) = p
    generalize rd b ((j * w + d : Nat) : Int) = c at *
    have e4 : (256 * ((q - neg * p) % 18446744073709551616) % 18446744073709551616 + c % 18446744073709551616) % 18446744073709551616 = (c + 256 * q - neg * (256 * p)) % 18446744073709551616 := by
      rcases hneg with rfl | rfl
      · omega
      · omega
    rw [e4]
theorem take03_l0 (w : Nat) (h1 : 1 ≤ w) (h8 : w ≤ 8) (b : List Int) (N : Nat) (hN : N ≤ 65536) (hbl : N * w ≤ b.length) (hbm : b.length < 140737488355328) (hbb : ∀ x ∈ b, 0 ≤ x ∧ x < 256) (d : Nat) :
    ∀ j : Nat, j + d = N → Ev (fun k => cuvetteref03_Take.l0 k b w N (decs w j b) N j) (decs w N b, b.drop (N * w), 0) := by
  have hNw : N * w ≤ 65536 * 8 := Nat.mul_le_mul hN h8
  have e0 : ((N * w : Nat) : Int) = (N : Int) * (w : Int) := by simp
  induction d with
  | zero =>
    intro j hj
    obtain rfl : j = N := by omega
    have e1 : wrap64 ((j : Int) * (w : Int)) = ((j * w : Nat) : Int) := by rw [← e0]; exact w64 (by omega) (by omega)
    refine Ev.step (g' := fun _ => _) (fun k => ?_) (Ev.const _)
    simp only [cuvetteref03_Take.l0]
    rw [if_neg (by omega), e1, if_pos (by omega), if_pos (by omega), Int.toNat_natCast, if_pos (by rw [List.length_drop]; simp; omega), List.nil_append]
  | succ d ih =>
    intro j hj
    have hnext := ih (j + 1) (by omega)
    have hjw : j * w + w ≤ N * w := by rw [← Nat.succ_mul]; exact Nat.mul_le_mul_right _ (by omega)
    have hcl : ((b.drop (j * w)).take w).length = w := by rw [List.length_take, List.length_drop]; omega
    have hcb : ∀ x ∈ (b.drop (j * w)).take w, 0 ≤ x ∧ x < 256 := fun x hx => hbb x (List.mem_of_mem_drop (List.mem_of_mem_take hx))
    have hdt := dec_top w h1 h8 _ hcl hcb
    have hdf := dec_fits w h1 h8 _ hcl hcb
    have htop : ((b.drop (j * w)).take w).getD (w - 1) 0 = rd b ((j * w + (w - 1) : Nat) : Int) := by
      show _ = b.getD (((j * w + (w - 1) : Nat) : Int)).toNat 0
      rw [Int.toNat_natCast]
      simp [List.getD_eq_getElem?_getD, show w - 1 < w by omega, show j * w + (w - 1) < b.length by omega]
    rw [htop] at hdt
    have hi64 : -9223372036854775808 ≤ dec w ((b.drop (j * w)).take w) ∧ dec w ((b.drop (j * w)).take w) ≤ 9223372036854775807 := by
      unfold fitsB at hdf
      revert hdf
      rcases wides h1 h8 with rfl | rfl | rfl | rfl | rfl | rfl | rfl | rfl <;> simp only [Nat.reduceMul, Nat.reduceSub, Int.reducePow, Int.reduceNeg, Bool.and_eq_true, decide_eq_true_eq] <;> omega
    have ew : ∀ z : Int, -9223372036854775808 ≤ z → z ≤ 9223372036854775807 → wrap64 (z % 18446744073709551616) = z := by intro z h h'; unfold wrap64; omega
    have ex0 : ((j * w : Nat) : Int) = (j : Int) * (w : Int) := by simp
    have e1 : Aside0 (wrap64 ((j : Int) * (w : Int)) = ((j * w : Nat) : Int)) := ⟨by rw [← ex0]; exact w64 (by omega) (by omega)⟩
    have e2 : Aside0 (wrap64 (wrap64 (((j * w : Nat) : Int) + (w : Int)) - 1) = ((j * w + (w - 1) : Nat) : Int)) := ⟨by rw [w64 (i := ((j * w : Nat) : Int) + (w : Int)) (by omega) (by omega), w64 (by omega) (by omega)]; omega⟩
    have e5 : Aside0 (wrap64 ((w : Int) - 1) = ((w : Nat) : Int) - 1) := ⟨w64 (by omega) (by omega)⟩
    have key : ∀ neg : Int, (neg = 0 ∨ neg = 1) → dec w ((b.drop (j * w)).take w) = val ((b.drop (j * w)).take w) - neg * 2 ^ (8 * w) →
        Ev (fun k => cuvetteref03_Take.j2 k b w N (decs w j b) j ((0 - neg) % 18446744073709551616) N j) (decs w N b, b.drop (N * w), 0) := by
      intro neg hn hd
      have hl1 := take03_l1 w h1 h8 b (decs w j b) N hN j (by omega) hbl hbm hbb (by rw [decs_length]; omega) neg hn _ (by rw [← hd, ew _ hi64.1 hi64.2, idxCast j (by omega), ← decs_snoc]; exact hnext) w 0 (by omega)
      rw [List.drop_eq_nil_of_le (by omega), Nat.sub_self] at hl1
      refine Ev.step (fun k => ?_) hl1
      simp only [cuvetteref03_Take.j2]
      rw [e5.out]
      simp [val]
    clear ex0
    by_cases ht : rd b ((j * w + (w - 1) : Nat) : Int) ≥ 128
    · rw [if_pos ht] at hdt
      refine Ev.step (fun k => ?_) (key 1 (.inr rfl) (by rw [hdt]; omega))
      simp only [cuvetteref03_Take.l0]
      rw [if_pos (by omega), e1.out, e2.out, if_pos (by omega), if_pos (by omega), if_pos ht]
      rfl
    · rw [if_neg ht] at hdt
      refine Ev.step (fun k => ?_) (key 0 (.inl rfl) (by rw [hdt]; omega))
      simp only [cuvetteref03_Take.l0]
      rw [if_pos (by omega), e1.out, e2.out, if_pos (by omega), if_pos (by omega), if_neg ht]
      rfl
theorem take03_ev (b : List Int) (w N : Nat) (h1 : 1 ≤ w) (h8 : w ≤ 8) (hN : N ≤ 65536) (hbm : b.length < 140737488355328) (hbb : ∀ x ∈ b, 0 ≤ x ∧ x < 256) : Ev (fun k => cuvetteref03_Take.f k b (w : Int) (N : Int)) (takeP b (w : Int) (N : Int)) := by
  have hNw : N * w ≤ 65536 * 8 := Nat.mul_le_mul hN h8
  have e0 : ((N * w : Nat) : Int) = (N : Int) * (w : Int) := by simp
  have e1 : wrap64 ((N : Int) * (w : Int)) = (N : Int) * (w : Int) := by rw [← e0]; exact w64 (by omega) (by omega)
  unfold cuvetteref03_Take.f takeP
  simp only [if_neg (show ¬ ((w : Int) < 1) by omega), if_neg (show ¬ ((w : Int) > 8) by omega), if_neg (show ¬ ((N : Int) < 0) by omega), decide_eq_false (show ¬ ((N : Int) > 65536) by omega)]
  rw [if_pos (by omega), Int.toNat_natCast, Int.toNat_natCast]
  by_cases h : (b.length : Int) < (N : Int) * (w : Int)
  · rw [if_pos h]
    refine Ev.step (g' := fun _ => _) (fun k => ?_) (Ev.const _)
    simp only [cuvetteref03_Take.j0]
    rw [if_neg (by decide), e1, if_pos h]
  · rw [if_neg h]
    have hl := take03_l0 w h1 h8 b N hN (by omega) hbm hbb N 0 (by omega)
    refine Ev.step (fun k => ?_) hl
    simp only [cuvetteref03_Take.j0]
    rw [if_neg (by decide), e1, if_neg h]
    rfl
end Go.Proofs.Ytkjibgfgbfacdaa.P
end
/-! part: PBookP -/
section
set_option linter.unusedVariables false
set_option linter.unusedSimpArgs false
namespace Go.Proofs.Ytkjibgfgbfacdaa.P
open Go.RowKit Go.Proofs.YtkjibgfgbfacdaaW.PrintWords Go.Proofs.YtkjibgfgbfacdaaW.PrintLast Go.Proofs.YtkjibgfgbfacdaaW.PrintMore
set_option linter.unusedVariables false

/-- Where a plain book is cut. -/
def pcut (j : Nat) (c : Int) : Int := IntKind.i16.wrap (wrap64 ((wrap64 (Int.tdiv (wrap64 (((j + 1 : Nat) : Int) * 65536)) c)) - 32768))
def plainC (c : Int) : List Int := (List.range (c.toNat - 1)).map (fun j => pcut j c)
theorem plainC_length (c : Int) : (plainC c).length = c.toNat - 1 := by simp [plainC]
theorem plainC_take (c : Int) (j : Nat) (h : j < c.toNat - 1) : (plainC c).take (j + 1) = (plainC c).take j ++ [pcut j c] := by
  rw [List.take_succ_eq_append_getElem (by rw [plainC_length]; exact h)]
  simp [plainC]
def plainB (D : Int) (c : Int) : List (List Int) := List.replicate D.toNat (plainC c)
def withinB (D c : Int) : Bool := decide (1 ≤ D) && decide (1 ≤ c) && decide (D ≤ 64) && decide (c ≤ 16)
theorem within_eq (D c : Int) : book_within.f D c = some (withinB D c) := by
  unfold book_within.f withinB mn
  by_cases h1 : 1 ≤ D ∧ 1 ≤ c
  · rw [if_pos (by split <;> omega), decide_eq_true h1.1, decide_eq_true h1.2]
    by_cases h2 : D ≤ 64
    · rw [if_pos h2, decide_eq_true h2]; simp
    · rw [if_neg h2, decide_eq_false h2]; simp
  · rw [if_neg (by split <;> omega)]
    by_cases h3 : 1 ≤ D
    · rw [decide_eq_false (p := 1 ≤ c) (by omega)]; simp
    · rw [decide_eq_false h3]; simp
theorem rdL_set (C : List (List Int)) (i : Nat) (r : List Int) (h : i < C.length) : rd_L3 (C.set i r) (i : Int) = r := by
  show (C.set i r).getD ((i : Int)).toNat [] = r
  rw [Int.toNat_natCast]
  simp [List.getD_eq_getElem?_getD, h]
theorem plain_l1 (D : Int) (c : Int) (hc : 1 ≤ c) (hc' : c ≤ 16) (C : List (List Int)) (i : Nat) (hi : i < C.length) (hCl : C.length ≤ 64) (w : Int) (V : Int × List (List Int) × Int)
    (hV : Ev (fun k => book_Plain.l0 k c D (wrap64 ((i : Int) + 1)) w (C.set i (plainC c))) V) (d : Nat) : ∀ j : Nat, j + d = c.toNat - 1 →
    Ev (fun k => book_Plain.l1 k c i ((j + 1 : Nat) : Int) D i w (C.set i ((plainC c).take j))) V := by
  induction d with
  | zero =>
    intro j hj
    rw [List.take_of_length_le (by rw [plainC_length]; omega)]
    refine Ev.step (fun k => ?_) hV
    simp only [book_Plain.l1]
    rw [if_neg (by omega)]
  | succ d ih =>
    intro j hj
    refine Ev.step (fun k => ?_) (ih (j + 1) (by omega))
    simp only [book_Plain.l1]
    rw [if_pos (by omega), if_pos (by omega), if_pos (by rw [List.length_set]; omega), if_neg (by omega), rdL_set C i _ hi, if_pos (by rw [List.length_take, plainC_length]; omega), Int.toNat_natCast, List.set_set,
      plainC_take c j (by omega), idxCast (j + 1) (by omega)]
    rfl
theorem plain_l0 (c : Int) (hc : 1 ≤ c) (hc' : c ≤ 16) (D : Nat) (hD : D ≤ 64) (d : Nat) : ∀ (i : Nat) (C : List (List Int)), i + d = D → C = List.replicate i (plainC c) ++ List.replicate d [] →
    Ev (fun k => book_Plain.l0 k c (D : Int) i 0 C) (0, List.replicate D (plainC c), 0) := by
  induction d with
  | zero =>
    intro i C hi hC
    obtain rfl : i = D := by omega
    simp only [List.replicate_zero, List.append_nil] at hC
    subst hC
    refine Ev.step (g' := fun _ => _) (fun k => ?_) (Ev.const _)
    simp only [book_Plain.l0]
    rw [if_neg (by omega)]
  | succ d ih =>
    intro i C hi hC
    have hl : C.length = D := by rw [hC]; simp; omega
    have hset : C.set i (plainC c) = List.replicate (i + 1) (plainC c) ++ List.replicate d [] := by
      have := set_midV (List.replicate i (plainC c)) (plainC c) [] d
      rw [List.length_replicate] at this
      rw [hC, this]
      congr 1
      rw [List.replicate_succ']
    have hnext := ih (i + 1) _ (by omega) hset
    have hg := plain_l1 (D : Int) c hc hc' C i (by omega) (by omega) 0 _ (by rw [idxCast i (by omega)]; exact hnext) (c.toNat - 1) 0 (by omega)
    have e0 : C.set i ((plainC c).take 0) = C := by
      rw [List.take_zero]
      refine List.ext_getElem? fun m => ?_
      rw [List.getElem?_set]
      by_cases e : i = m
      · subst e
        rw [if_pos rfl, if_pos (by omega), hC, List.getElem?_append_right (by simp)]
        simp
      · rw [if_neg e]
    rw [e0] at hg
    refine Ev.step (fun k => ?_) hg
    simp only [book_Plain.l0]
    rw [if_pos (by omega)]
    rfl
theorem plain_ev (D c : Int) : Ev (fun k => book_Plain.f k D c) (if withinB D c = true then (0, plainB D c, 0) else (0, [], 1)) := by
  unfold book_Plain.f
  rw [within_eq]
  simp only [Option.bind_some]
  by_cases h : withinB D c = true
  · simp only [if_pos h]
    unfold withinB at h
    simp only [Bool.and_eq_true, decide_eq_true_eq] at h
    obtain ⟨⟨⟨h1, h2⟩, h3⟩, h4⟩ := h
    obtain ⟨D, rfl⟩ := Int.eq_ofNat_of_zero_le (show 0 ≤ D by omega)
    have hg := plain_l0 c h2 h4 D (by omega) D 0 (List.replicate D []) (by omega) (by simp)
    refine Ev.congr (fun k => ?_) hg
    rw [if_pos (by omega), Int.toNat_natCast, if_pos (by omega), List.length_replicate]
    rfl
  · simp only [if_neg h]
    exact Ev.const _
theorem size_eq (D c : Int) : book_Size.f D c = some (if withinB D c = true then (10 + 2 * D * (c - 1), 0) else (0, 1)) := by
  unfold book_Size.f
  rw [within_eq]
  simp only [Option.bind_some]
  by_cases h : withinB D c = true
  · rw [if_pos h, if_pos h]
    unfold withinB at h
    simp only [Bool.and_eq_true, decide_eq_true_eq] at h
    obtain ⟨⟨⟨h1, h2⟩, h3⟩, h4⟩ := h
    have e1 : wrap64 (2 * D) = 2 * D := w64 (by omega) (by omega)
    have e2 : wrap64 (c - 1) = c - 1 := w64 (by omega) (by omega)
    have h5 : 2 * D * (c - 1) ≤ 128 * 15 := Int.mul_le_mul (by omega) (by omega) (by omega) (by omega)
    have h6 : 0 ≤ 2 * D * (c - 1) := Int.mul_nonneg (by omega) (by omega)
    rw [e1, e2]
    clear e1 e2
    generalize 2 * D * (c - 1) = z at *
    rw [w64 (i := z) (by omega) (by omega), w64 (by omega) (by omega)]
  · rw [if_neg h, if_neg h]
theorem bookSame_eq (a : Int) (x : List (List Int)) (b : Int) (y : List (List Int)) : book_Same.f a x b y = some (decide (a = b ∧ x = y)) := by
  unfold book_Same.f h_EqCuts.f
  by_cases h : a = b
  · rw [if_pos h]
    simp [h]
  · rw [if_neg h]
    simp [h]
theorem same06 (xs ys : List Int) (hm : xs.length ≤ 9223372036854775807) (k : Nat) (hk : xs.length < k) : cuvetteref06_Same.f k xs ys = some (decide (xs = ys)) := by
  unfold cuvetteref06_Same.f
  exact eqLoop0 0 cuvetteref06_Same.l0 (fun k xs ys n i => by simp only [cuvetteref06_Same.l0]; rfl) xs ys hm k hk
theorem live08 : Ev (fun k => cuvettelaw08_live.f k) true := by
  have h : Ev (fun k => cuvettelaw08_live.f0 k) true := by
    unfold cuvettelaw08_live.f0
    refine Ev.bind (plain_ev 1 2) ?_
    rw [if_pos (by decide)]
    have e : plainB 1 2 = [[0]] := by kernel_rfl
    rw [e]
    refine Ev.congr (g' := fun k => (cuvetteref06_Same.f k [0] [0]).bind fun t447 => (if t447 = true then some true else some false)) (fun k => ?_) (Ev.bind (a := true) ⟨2, fun k hk => (same06 _ _ (by decide) k (by simp; omega)).trans rfl⟩ (Ev.of fun k => rfl))
    simp only [if_true, bookSame_eq]
    rfl
  obtain ⟨K, h⟩ := h
  exact ⟨K, fun k hk => by show cuvettelaw08_live.f k = _; unfold cuvettelaw08_live.f; rw [if_pos (show cuvettelaw08_live.f0 k = some true from h k hk)]⟩
theorem few07_ev (a : Int) (l : List (List Int)) (hm : l.length ≤ 9223372036854775807) : ∃ q, Ev (fun k => cuvetteref07_Few.f k a l) q := by
  have : ∀ d : Nat, ∀ i : Int, 0 ≤ i → i ≤ (l.length : Int) → (l.length : Int) - i = d → ∃ q, Ev (fun k => cuvetteref07_Few.l0 k l (l.length : Int) i a l) q := by
    intro d
    induction d with
    | zero =>
      intro i h0 h1 hd
      refine ⟨_, Ev.step (g' := fun _ => _) (fun k => ?_) (Ev.const (decide ((l.length : Int) ≤ 100)))⟩
      simp only [cuvetteref07_Few.l0]
      rw [if_neg (by omega)]
    | succ d ih =>
      intro i h0 h1 hd
      by_cases h : ((rd_L3 l i).length : Int) > 100
      · refine ⟨_, Ev.step (g' := fun _ => _) (fun k => ?_) (Ev.const false)⟩
        simp only [cuvetteref07_Few.l0]
        rw [if_pos (by omega), if_pos h0, if_pos (by omega), if_pos h]
      · obtain ⟨q, hq⟩ := ih (i + 1) (by omega) (by omega) (by omega)
        refine ⟨q, Ev.step (fun k => ?_) hq⟩
        simp only [cuvetteref07_Few.l0]
        rw [if_pos (by omega), if_pos h0, if_pos (by omega), if_neg h, w64 (by omega) (by omega)]
  exact this l.length 0 (by omega) (by omega) (by omega)
end Go.Proofs.Ytkjibgfgbfacdaa.P
end
/-! part: PRef08 -/
section
set_option linter.unusedVariables false
set_option linter.unusedSimpArgs false
namespace Go.Proofs.Ytkjibgfgbfacdaa.P
open Go.RowKit Go.Proofs.YtkjibgfgbfacdaaW.PrintWords Go.Proofs.YtkjibgfgbfacdaaW.PrintLast Go.Proofs.YtkjibgfgbfacdaaW.PrintMore
set_option linter.unusedVariables false

/-! ### cuts that may be -/
def stepOk (c : List Int) (i : Nat) : Bool := decide (c.getD i 0 ≠ -32768) && (decide (i = 0) || decide (c.getD (i - 1) 0 ≤ c.getD i 0))
theorem check06_l (c : List Int) (hm : c.length ≤ 15) (d : Nat) : ∀ i : Nat, i + d = c.length → Ev (fun k => cuvetteref06_Check.l0 k c c (c.length : Int) i) (if (List.range' i d).all (stepOk c) = true then 0 else 1) := by
  induction d with
  | zero =>
    intro i hi
    refine Ev.step (g' := fun _ => _) (fun k => ?_) (Ev.const _)
    simp only [cuvetteref06_Check.l0]
    rw [if_neg (by omega)]
    rfl
  | succ d ih =>
    intro i hi
    have hnext := ih (i + 1) (by omega)
    have er : rd c (i : Int) = c.getD i 0 := by show c.getD ((i : Int)).toNat 0 = _; rw [Int.toNat_natCast]
    rw [List.range'_succ, List.all_cons]
    by_cases h1 : c.getD i 0 = -32768
    · have : stepOk c i = false := by unfold stepOk; rw [decide_eq_false (p := c.getD i 0 ≠ -32768) (fun z => z h1), Bool.false_and]
      rw [this, Bool.false_and]
      refine Ev.step (g' := fun _ => _) (fun k => ?_) (Ev.const _)
      simp only [cuvetteref06_Check.l0]
      rw [if_pos (by omega), if_pos (by omega), if_pos (by omega), er, if_pos h1]
      rfl
    · by_cases h0 : i = 0
      · have : stepOk c i = true := by unfold stepOk; rw [decide_eq_true (p := c.getD i 0 ≠ -32768) h1, decide_eq_true h0]; rfl
        rw [this, Bool.true_and]
        refine Ev.step (fun k => ?_) hnext
        simp only [cuvetteref06_Check.l0]
        rw [if_pos (by omega), if_pos (by omega), if_pos (by omega), er, if_neg h1, if_neg (by omega), idxCast i (by omega)]
      · have e1 : wrap64 ((i : Int) - 1) = ((i - 1 : Nat) : Int) := by rw [w64 (by omega) (by omega)]; omega
        have er1 : rd c ((i - 1 : Nat) : Int) = c.getD (i - 1) 0 := by show c.getD (((i - 1 : Nat) : Int)).toNat 0 = _; rw [Int.toNat_natCast]
        by_cases h2 : c.getD i 0 < c.getD (i - 1) 0
        · have : stepOk c i = false := by unfold stepOk; rw [decide_eq_false (p := c.getD (i - 1) 0 ≤ c.getD i 0) (by omega)]; simp [h0]
          rw [this, Bool.false_and]
          refine Ev.step (g' := fun _ => _) (fun k => ?_) (Ev.const _)
          simp only [cuvetteref06_Check.l0]
          rw [if_pos (by omega), if_pos (by omega), if_pos (by omega), er, if_neg h1, if_pos (by omega), e1, if_pos (by omega), if_pos (by omega), er1, if_pos h2]
          rfl
        · have : stepOk c i = true := by unfold stepOk; rw [decide_eq_true (p := c.getD (i - 1) 0 ≤ c.getD i 0) (by omega), decide_eq_true h1]; simp
          rw [this, Bool.true_and]
          refine Ev.step (fun k => ?_) hnext
          simp only [cuvetteref06_Check.l0]
          rw [if_pos (by omega), if_pos (by omega), if_pos (by omega), er, if_neg h1, if_pos (by omega), e1, if_pos (by omega), if_pos (by omega), er1, if_neg h2, idxCast i (by omega)]
theorem sortedTo_iff (c : List Int) (m : Nat) : sortedTo c m = true ↔ ∀ j, j < m → c.getD j 0 ≤ c.getD (j + 1) 0 := by
  unfold sortedTo
  rw [List.all_eq_true]
  constructor
  · intro h j hj; exact of_decide_eq_true (h j (List.mem_range.2 hj))
  · intro h j hj; exact decide_eq_true (h j (List.mem_range.1 hj))
theorem cutsOk_iff (c : List Int) (hc : i16L c) (hm : c.length ≤ 15) : cutsOk c = (List.range' 0 c.length).all (stepOk c) := by
  have hb : ∀ i, i < c.length → -32768 ≤ c.getD i 0 := fun i hi => (hc _ (by have := getD_mem 0 c (i : Int) (by omega) (by omega); rwa [Int.toNat_natCast] at this)).1
  rw [Bool.eq_iff_iff, List.all_eq_true]
  unfold cutsOk
  simp only [Bool.and_eq_true, decide_eq_true_eq, Bool.or_eq_true, sortedTo_iff]
  constructor
  · rintro ⟨⟨_, h2⟩, h3⟩ i hi
    obtain ⟨hi0, hi1⟩ := List.mem_range'_1.1 hi
    have hlow : ∀ j, j < c.length → -32767 ≤ c.getD j 0 := by
      intro j
      induction j with
      | zero =>
        intro hj
        rcases h3 with h3 | h3
        · rw [List.isEmpty_iff] at h3; rw [h3] at hj; simp at hj
        · exact h3
      | succ j ihj =>
        intro hj
        have := ihj (by omega)
        have := h2 j (by omega)
        omega
    unfold stepOk
    simp only [Bool.and_eq_true, decide_eq_true_eq, Bool.or_eq_true]
    refine ⟨by have := hlow i (by omega); omega, ?_⟩
    by_cases h0 : i = 0
    · exact .inl h0
    · have := h2 (i - 1) (by omega)
      rw [show i - 1 + 1 = i by omega] at this
      exact .inr this
  · intro h
    have h' : ∀ i, i < c.length → c.getD i 0 ≠ -32768 ∧ (i = 0 ∨ c.getD (i - 1) 0 ≤ c.getD i 0) := by
      intro i hi
      have := h i (List.mem_range'_1.2 ⟨by omega, by omega⟩)
      unfold stepOk at this
      simpa only [Bool.and_eq_true, decide_eq_true_eq, Bool.or_eq_true] using this
    refine ⟨⟨by omega, fun j hj => ?_⟩, ?_⟩
    · have := (h' (j + 1) (by omega)).2
      rw [Nat.add_sub_cancel] at this
      omega
    · by_cases h0 : c.length = 0
      · exact .inl (by rw [List.isEmpty_iff]; exact List.eq_nil_of_length_eq_zero h0)
      · have h1 := (h' 0 (by omega)).1
        have h2 := hb 0 (by omega)
        exact .inr (by omega)
theorem check06_ev (c : List Int) (hc : i16L c) : Ev (fun k => cuvetteref06_Check.f k c) (if cutsOk c = true then 0 else 1) := by
  unfold cuvetteref06_Check.f
  by_cases h : (c.length : Int) > 15
  · have : cutsOk c = false := by unfold cutsOk; rw [decide_eq_false (p := c.length < 16) (by omega)]; rfl
    simp only [if_pos h, this]
    exact Ev.const _
  · simp only [if_neg h]
    rw [cutsOk_iff c hc (by omega)]
    exact check06_l c (by omega) c.length 0 (by omega)
/-! ### books that may be -/
theorem check07_l (way : Int) (cuts : List (List Int)) (hc : i16LL cuts) (hm : cuts.length ≤ 64) (d : Nat) : ∀ i : Nat, i + d = cuts.length →
    Ev (fun k => cuvetteref07_Check.l0 k cuts (cuts.length : Int) i way cuts) (if (cuts.drop i).all (fun c => decide (c.length = (cuts.getD 0 []).length) && cutsOk c) = true then 0 else 1) := by
  induction d with
  | zero =>
    intro i hi
    rw [List.drop_eq_nil_of_le (by omega)]
    refine Ev.step (g' := fun _ => _) (fun k => ?_) (Ev.const _)
    simp only [cuvetteref07_Check.l0]
    rw [if_neg (by omega)]
    rfl
  | succ d ih =>
    intro i hi
    have hnext := ih (i + 1) (by omega)
    have hmem := getD_mem [] cuts (i : Int) (by omega) (by omega)
    rw [Int.toNat_natCast] at hmem
    have er : rd_L3 cuts (i : Int) = cuts.getD i [] := by show cuts.getD ((i : Int)).toNat [] = _; rw [Int.toNat_natCast]
    have er0 : rd_L3 cuts 0 = cuts.getD 0 [] := rfl
    rw [rdV cuts i (by omega), List.all_cons]
    refine Ev.step (g' := fun k => (cuvetteref06_Check.f k (cuts.getD i [])).bind fun t500 => (if t500 = 0 then (if 0 < (cuts.length : Int) then (if ((cuts.getD i []).length : Int) = ((cuts.getD 0 []).length : Int) then (cuvetteref07_Check.l0 k cuts (cuts.length : Int) ((i + 1 : Nat) : Int) way cuts) else (some 1)) else (none)) else (some 1))) (fun k => ?_) (Ev.bind (check06_ev _ (hc _ hmem)) ?_)
    · simp only [cuvetteref07_Check.l0]
      rw [if_pos (by omega), if_pos (by omega), if_pos (by omega), er, er0, idxCast i (by omega)]
    · cases hq : cutsOk (cuts.getD i []) with
      | false =>
        simp only [Bool.false_eq_true, if_false, if_neg (show ¬ ((1 : Int) = 0) by decide), Bool.and_false, Bool.false_and]
        exact Ev.const _
      | true =>
        simp only [if_true, if_pos (show (0 : Int) < (cuts.length : Int) by omega)]
        by_cases hl : (cuts.getD i []).length = (cuts.getD 0 []).length
        · simp only [if_pos (show ((cuts.getD i []).length : Int) = ((cuts.getD 0 []).length : Int) by omega)]
          rw [decide_eq_true hl, Bool.true_and, Bool.true_and]
          exact hnext
        · simp only [if_neg (show ¬ ((cuts.getD i []).length : Int) = ((cuts.getD 0 []).length : Int) by omega)]
          rw [decide_eq_false hl]
          exact Ev.const _
theorem may_eq (a : Int) : cuvetteref05_May.f a = some (wayOk a) := by
  unfold cuvetteref05_May.f wayOk
  by_cases h : a ≥ 0
  · rw [if_pos h, decide_eq_true (p := 0 ≤ a) h, Bool.true_and]
  · rw [if_neg h, decide_eq_false (p := 0 ≤ a) h, Bool.false_and]
theorem check07_ev (way : Int) (cuts : List (List Int)) (hc : i16LL cuts) : Ev (fun k => cuvetteref07_Check.f k way cuts) (if bookOk way cuts = true then 0 else 1) := by
  have bad : bookOk way cuts = false → Ev (fun k => cuvetteref07_Check.j0 k true way cuts) (if bookOk way cuts = true then 0 else 1) := by
    intro h
    rw [h]
    refine Ev.step (g' := fun _ => _) (fun k => ?_) (Ev.const _)
    simp only [cuvetteref07_Check.j0, if_true]
    rfl
  unfold cuvetteref07_Check.f
  rw [may_eq]
  simp only [Option.bind_some]
  cases hw : wayOk way with
  | false =>
    simp only [Bool.false_eq_true, if_false]
    exact bad (by unfold bookOk; rw [hw]; simp)
  | true =>
    simp only [if_true]
    by_cases h1 : (cuts.length : Int) < 1
    · simp only [if_pos h1]
      exact bad (by unfold bookOk; rw [decide_eq_false (p := 1 ≤ cuts.length) (by omega)]; rfl)
    · simp only [if_neg h1]
      by_cases h2 : (cuts.length : Int) > 64
      · rw [decide_eq_true h2]
        exact bad (by unfold bookOk; rw [decide_eq_false (p := cuts.length ≤ 64) (by omega)]; simp)
      · rw [decide_eq_false h2]
        have hl := check07_l way cuts hc (by omega) cuts.length 0 (by omega)
        have e : bookOk way cuts = (cuts.drop 0).all (fun c => decide (c.length = (cuts.getD 0 []).length) && cutsOk c) := by
          unfold bookOk
          rw [hw, decide_eq_true (p := 1 ≤ cuts.length) (by omega), decide_eq_true (p := cuts.length ≤ 64) (by omega)]
          simp
        rw [e]
        refine Ev.step (fun k => ?_) hl
        simp only [cuvetteref07_Check.j0]
        rw [if_neg (by decide)]
        rfl
/-! ### Bytes -/
theorem rput2_ev (b : List Int) (x : Int) (hx : -32768 ≤ x ∧ x ≤ 32767) (hb : b.length ≤ 60000) : Ev (fun k => cuvetteref03_Put.f k b 2 [wrap64 x]) (b ++ enc 2 x, 0) := by
  rw [w64 (by omega) (by omega)]
  exact put03_ev b 2 (by decide) (by decide) x (fits8 (by omega)) (fits2 hx) hb
theorem rbytes_l1 (cuts : List (List Int)) (i : Int) (c : List Int) (hc : i16L c) (hl : c.length ≤ 100) (v : List Int × Int) (d : Nat) :
    ∀ (j : Nat) (acc : List Int), j + d = c.length → acc.length + 2 * d ≤ 60000 → Ev (fun k => cuvetteref08_Bytes.l0 k (acc ++ (c.drop j).flatMap (enc 2)) cuts (cuts.length : Int) (wrap64 (i + 1))) v →
    Ev (fun k => cuvetteref08_Bytes.l1 k acc cuts (cuts.length : Int) i c (c.length : Int) j) v := by
  induction d with
  | zero =>
    intro j acc hj hb hv
    rw [List.drop_eq_nil_of_le (by omega)] at hv
    simp only [List.flatMap_nil, List.append_nil] at hv
    refine Ev.step (fun k => ?_) hv
    simp only [cuvetteref08_Bytes.l1]
    rw [if_neg (by omega)]
  | succ d ih =>
    intro j acc hj hb hv
    rw [rdI c j (by omega), List.flatMap_cons, ← List.append_assoc] at hv
    have hx := hc (c.getD j 0) (getD_mem 0 c j (by omega) (by omega))
    refine Ev.step (g' := fun k => (cuvetteref03_Put.f k acc 2 [wrap64 (c.getD j 0)]).bind fun bt => (cuvetteref08_Bytes.l1 k bt.1 cuts (cuts.length : Int) i c (c.length : Int) (wrap64 ((j : Int) + 1)))) (fun k => ?_) (Ev.bind (rput2_ev acc _ hx (by omega)) ?_)
    · simp only [cuvetteref08_Bytes.l1]
      rw [if_pos (by omega), if_pos (by omega), if_pos (by omega)]
      rfl
    · rw [idxCast j (by omega)]
      exact ih (j + 1) (acc ++ enc 2 (c.getD j 0)) (by omega) (by rw [List.length_append, enc_length]; omega) hv
theorem rbytes_l0 (cuts : List (List Int)) (hc : i16LL cuts) (hl : ∀ c ∈ cuts, c.length ≤ 15) (hm : cuts.length ≤ 64) (d : Nat) :
    ∀ (i : Nat) (acc : List Int), i + d = cuts.length → acc.length + 30 * d ≤ 30000 →
    Ev (fun k => cuvetteref08_Bytes.l0 k acc cuts (cuts.length : Int) i) (acc ++ (cuts.drop i).flatMap (fun c => c.flatMap (enc 2)), 0) := by
  induction d with
  | zero =>
    intro i acc hi hb
    refine Ev.step (g' := fun _ => _) (fun k => ?_) (Ev.const _)
    simp only [cuvetteref08_Bytes.l0]
    rw [if_neg (by omega), List.drop_eq_nil_of_le (by omega)]
    simp
  | succ d ih =>
    intro i acc hi hb
    have hmem := getD_mem [] cuts i (by omega) (by omega)
    rw [Int.toNat_natCast] at hmem
    have hcl := hl _ hmem
    have hfl := flat_enc_length 2 (cuts.getD i [])
    have hnext := ih (i + 1) (acc ++ (cuts.getD i []).flatMap (enc 2)) (by omega) (by rw [List.length_append]; omega)
    rw [rdV cuts i (by omega), List.flatMap_cons, ← List.append_assoc]
    refine Ev.step (fun k => ?_) (rbytes_l1 cuts i (cuts.getD i []) (hc _ hmem) (by omega) _ (cuts.getD i []).length 0 acc (by omega) (by omega) (by rw [idxCast i (by omega)]; exact hnext))
    simp only [cuvetteref08_Bytes.l0]
    rw [if_pos (by omega), if_pos (by omega), if_pos (by omega)]
    rfl
theorem rbytes_ev (way : Int) (cuts : List (List Int)) (hc : i16LL cuts) : Ev (fun k => cuvetteref08_Bytes.f k way cuts) (if bookOk way cuts = true then (bytesB way cuts, 0) else ([], 1)) := by
  unfold cuvetteref08_Bytes.f
  refine Ev.bind (check07_ev way cuts hc) ?_
  by_cases h : bookOk way cuts = true
  · obtain ⟨h1, h2, h3, h4⟩ := bookOk_parts h
    have hl := cutsOk_len (h4 _ (getD0_mem h1)).2
    have hw := wayOk_i64 h3
    simp only [if_pos h, if_true]
    refine Ev.bind (put03_ev [] 8 (by decide) (by decide) way (fits8 (by omega)) (fits8 (by omega)) (by simp)) ?_
    have e1 : ((rd_L3 cuts 0).length : Int) % 256 = ((cuts.getD 0 []).length : Int) := by show ((cuts.getD 0 []).length : Int) % 256 = _; omega
    have e2 : (cuts.length : Int) % 256 = (cuts.length : Int) := by omega
    rw [e1, e2]
    have hb := rbytes_l0 cuts hc (fun c hcc => by have := cutsOk_len (h4 c hcc).2; omega) h2 cuts.length 0 (enc 8 way ++ [(cuts.length : Int), ((cuts.getD 0 []).length : Int)]) (by omega) (by simp [enc_length]; omega)
    rw [List.drop_zero] at hb
    refine Ev.congr (fun k => ?_) hb
    simp only [Option.bind_some, List.nil_append]
    rw [if_pos (by omega), if_pos (by rw [enc_length]; simp)]
    rfl
  · simp only [if_neg h, if_neg (show ¬ ((1 : Int) = 0) by decide)]
    exact Ev.const _
/-! ### From -/
theorem rfrom_l1 (M : Nat) (L : List Int) (D i : Int) (row : List Int) (hr : ∀ x ∈ row, -32768 ≤ x ∧ x ≤ 32767) (hrl : row.length ≤ 300) (way : Int) (cuts : List (List Int)) (hcl : cuts.length ≤ 300) (V : Int × List (List Int) × Int)
    (hV : Ev (fun k => cuvetteref08_From.l0 k M L D (wrap64 (i + 1)) way (cuts ++ [row])) V) (d : Nat) : ∀ (j : Nat), j + d = row.length →
    Ev (fun k => cuvetteref08_From.l1 k M L (row.take j) D i row (row.length : Int) j way cuts) V := by
  induction d with
  | zero =>
    intro j hj
    rw [List.take_of_length_le (by omega)]
    refine Ev.step (fun k => ?_) hV
    simp only [cuvetteref08_From.l1]
    rw [if_neg (by omega), if_pos (by omega)]
  | succ d ih =>
    intro j hj
    have hlt : j < row.length := by omega
    have er : rd row (j : Int) = row[j] := by
      show row.getD ((j : Int)).toNat 0 = _
      rw [Int.toNat_natCast]
      simp [List.getD_eq_getElem?_getD, hlt]
    refine Ev.step (fun k => ?_) (ih (j + 1) (by omega))
    simp only [cuvetteref08_From.l1]
    rw [if_pos (by omega), if_pos (by omega), if_pos (by omega), if_pos (by rw [List.length_take]; omega), er, i16_wrap (hr _ (List.getElem_mem hlt)), idxCast j (by omega), List.take_succ_eq_append_getElem hlt]
theorem rfrom_l0 (M : Nat) (L : List Int) (hL : ∀ x ∈ L, -32768 ≤ x ∧ x ≤ 32767) (hM : M ≤ 255) (D : Nat) (hD : D ≤ 255) (hDM : L.length = D * M) (way : Int) (d : Nat) :
    ∀ (i : Nat) (cuts : List (List Int)), i + d = D → cuts = (rowsOf M D L).take i →
    Ev (fun k => cuvetteref08_From.l0 k M L (D : Int) i way cuts) (if bookOk way (rowsOf M D L) = true then (way, rowsOf M D L, 0) else (0, [], 2)) := by
  have hrl := rowsOf_length M D L
  have hrm : ∀ c ∈ rowsOf M D L, ∀ x ∈ c, -32768 ≤ x ∧ x ≤ 32767 := by
    intro c hc x hx
    refine hL x ?_
    have := List.mem_flatten.2 ⟨c, hc, hx⟩
    rw [rowsOf_flatten] at this
    exact List.mem_of_mem_take this
  have hDMb : D * M ≤ 255 * 255 := Nat.mul_le_mul hD hM
  induction d with
  | zero =>
    intro i cuts hi hc
    obtain rfl : i = D := by omega
    rw [List.take_of_length_le (by omega)] at hc
    subst hc
    refine Ev.step (g' := fun k => (cuvetteref07_Check.f k way (rowsOf M i L)).bind fun t613 => (if t613 = 0 then (some (way, rowsOf M i L, 0)) else (some (0, ([] : List (List Int)), 2)))) (fun k => ?_) (Ev.bind (check07_ev way _ hrm) ?_)
    · simp only [cuvetteref08_From.l0]
      rw [if_neg (by omega)]
    · by_cases h : bookOk way (rowsOf M i L) = true
      · simp only [if_pos h, if_true]
        exact Ev.const _
      · simp only [if_neg h, if_neg (show ¬ ((1 : Int) = 0) by decide)]
        exact Ev.const _
  | succ d ih =>
    intro i cuts hi hc
    have hi' : i < (rowsOf M D L).length := by omega
    have hrow : (rowsOf M D L)[i] = (L.drop (i * M)).take M := by
      have := rowsOf_getD M D L i (by omega)
      rw [← this]
      simp [List.getD_eq_getElem?_getD, hi']
    have hle : i * M + M ≤ L.length := by
      rw [hDM, ← Nat.succ_mul]
      exact Nat.mul_le_mul_right _ (by omega)
    have hnext := ih (i + 1) (cuts ++ [(L.drop (i * M)).take M]) (by omega) (by rw [hc, List.take_succ_eq_append_getElem hi', hrow])
    have hrowl : ((L.drop (i * M)).take M).length = M := by rw [List.length_take, List.length_drop]; omega
    have hg := rfrom_l1 M L (D : Int) (i : Int) ((L.drop (i * M)).take M) (fun x hx => hL x (List.mem_of_mem_drop (List.mem_of_mem_take hx))) (by omega) way cuts (by rw [hc, List.length_take]; omega) _ (by rw [idxCast i (by omega)]; exact hnext) M 0 (by omega)
    have e0 : ((i * M : Nat) : Int) = (i : Int) * (M : Int) := by simp
    have e0' : ((i * M + M : Nat) : Int) = ((i + 1 : Nat) : Int) * (M : Int) := by rw [← Nat.succ_mul]; simp
    have e1 : Aside0 (wrap64 ((i : Int) * (M : Int)) = ((i * M : Nat) : Int)) := ⟨by rw [← e0]; exact w64 (by omega) (by omega)⟩
    have e2 : Aside0 (wrap64 (((i + 1 : Nat) : Int) * (M : Int)) = ((i * M + M : Nat) : Int)) := ⟨by rw [← e0']; exact w64 (by omega) (by omega)⟩
    clear e0 e0'
    refine Ev.step (fun k => ?_) hg
    simp only [cuvetteref08_From.l0]
    rw [if_pos (by omega), idxCast i (by omega), e1.out, e2.out, if_pos (by omega), if_pos (by omega), if_pos (by omega), Int.toNat_natCast, Int.toNat_natCast]
    have es : (L.take (i * M + M)).drop (i * M) = (L.drop (i * M)).take M := by rw [List.drop_take]; congr 1; omega
    rw [es]
    simp
theorem rfrom_ev (t : List Int) (ht : t.length < 140737488355328) (hb : ∀ x ∈ t, 0 ≤ x ∧ x < 256) : Ev (fun k => cuvetteref08_From.f k t) (fromP t) := by
  unfold cuvetteref08_From.f fromP
  by_cases h : t.length < 10
  · simp only [if_pos (show (t.length : Int) < 10 by omega), if_pos h]
    exact Ev.const _
  · simp only [if_neg (show ¬ (t.length : Int) < 10 by omega), if_neg h]
    have h1 := take03_ev t 8 1 (by decide) (by decide) (by decide) ht hb
    unfold takeP at h1
    rw [if_pos (by decide), if_neg (by omega)] at h1
    refine Ev.bind h1 ?_
    have hm8 := hb (t.getD 8 0) (getD_mem 0 t 8 (by omega) (by omega))
    have hm9 := hb (t.getD 9 0) (getD_mem 0 t 9 (by omega) (by omega))
    have er8 : rd t 8 = t.getD 8 0 := rfl
    have er9 : rd t 9 = t.getD 9 0 := rfl
    simp only [if_pos (show (8 : Int) < (t.length : Int) by omega), if_pos (show (9 : Int) < (t.length : Int) by omega), if_pos (show (10 : Int) ≤ (t.length : Int) by omega), er8, er9]
    have hdD : ∃ D : Nat, t.getD 8 0 = (D : Int) := ⟨(t.getD 8 0).toNat, by omega⟩
    have hdM : ∃ M : Nat, t.getD 9 0 = (M : Int) := ⟨(t.getD 9 0).toNat, by omega⟩
    obtain ⟨D, hD⟩ := hdD
    obtain ⟨M, hM⟩ := hdM
    rw [hD] at hm8 ⊢
    rw [hM] at hm9 ⊢
    clear er8 er9 hD hM
    have eD : Aside0 (wrap64 (D : Int) = D) := ⟨w64 (by omega) (by omega)⟩
    have eM : Aside0 (wrap64 (M : Int) = M) := ⟨w64 (by omega) (by omega)⟩
    have hDM : D * M ≤ 255 * 255 := Nat.mul_le_mul (by omega) (by omega)
    have e0 : ((D * M : Nat) : Int) = (D : Int) * (M : Int) := by simp
    have eP : Aside0 (wrap64 ((D : Int) * (M : Int)) = ((D * M : Nat) : Int)) := ⟨by rw [← e0]; exact w64 (by omega) (by omega)⟩
    clear e0
    rw [eD.out, eM.out, eP.out]
    simp only [Int.toNat_natCast]
    have h2 := take03_ev (t.drop 10) 2 (D * M) (by decide) (by decide) (by omega) (by rw [List.length_drop]; omega) (fun x hx => hb x (List.mem_of_mem_drop hx))
    unfold takeP at h2
    rw [if_pos (by omega), List.length_drop] at h2
    simp only [Int.toNat_natCast] at h2
    refine Ev.bind h2 ?_
    have er0 : decs 8 1 t = [dec 8 (t.take 8)] := rfl
    rw [er0]
    have bad : ∀ (x7 x8 : Int) (x9 : List Int), Ev (fun k => cuvetteref08_From.j0 k [dec 8 (t.take 8)] x7 x8 x9 true) (0, [], 2) := by
      intro x7 x8 x9
      refine Ev.step (g' := fun _ => _) (fun k => ?_) (Ev.const _)
      simp only [cuvetteref08_From.j0, if_true]
    by_cases h3 : ((t.length - 10 : Nat) : Int) < ((D * M : Nat) : Int) * ((2 : Nat) : Int)
    · rw [if_pos h3, if_neg (by omega)]
      simp only [if_neg (show ¬ ((2 : Int) = 0) by decide)]
      exact bad _ _ _
    · rw [if_neg h3]
      simp only [if_true, List.length_drop]
      by_cases h4 : t.length = 10 + D * M * 2
      · rw [if_pos h4]
        have e7 : (((t.length - 10 - D * M * 2 : Nat) : Int) != 0) = false := by simp; omega
        rw [e7]
        have hL2 : ∀ x ∈ decs 2 (D * M) (t.drop 10), -32768 ≤ x ∧ x ≤ 32767 := fun x hx => fits2_iff (decs_fits 2 (by decide) (by decide) _ _ (by rw [List.length_drop]; omega) (fun y hy => hb y (List.mem_of_mem_drop hy)) x hx)
        have hg := rfrom_l0 M (decs 2 (D * M) (t.drop 10)) hL2 (by omega) D (by omega) (decs_length _ _ _) (dec 8 (t.take 8)) D 0 [] (by omega) (by simp)
        refine Ev.step (fun k => ?_) hg
        simp only [cuvetteref08_From.j0, Bool.false_eq_true, if_false]
        rw [if_pos (by simp)]
        rfl
      · rw [if_neg h4]
        have e7 : (((t.length - 10 - D * M * 2 : Nat) : Int) != 0) = true := by simp; omega
        rw [e7]
        exact bad _ _ _
/-! ### Plain, Size, Same -/
theorem sizes_eq (D c : Int) : cuvetteref08_sizes.f D c = some (withinB D c) := by
  unfold cuvetteref08_sizes.f withinB
  by_cases h1 : D ≥ 1
  · rw [if_pos h1, decide_eq_true (p := 1 ≤ D) h1]
    by_cases h2 : D ≤ 64
    · rw [if_pos h2, decide_eq_true h2]
      by_cases h3 : c ≥ 1
      · rw [if_pos h3, decide_eq_true (p := 1 ≤ c) h3]; simp
      · rw [if_neg h3, decide_eq_false (p := 1 ≤ c) h3]; simp
    · rw [if_neg h2, decide_eq_false h2]; simp
  · rw [if_neg h1, decide_eq_false (p := 1 ≤ D) h1]; simp
theorem rplain_l1 (D : Int) (c : Int) (hc : 1 ≤ c) (hc' : c ≤ 16) (C : List (List Int)) (i : Int) (hCl : C.length ≤ 64) (w : Int) (V : Int × List (List Int) × Int)
    (hV : Ev (fun k => cuvetteref08_Plain.l0 k c D (wrap64 (i + 1)) w (C ++ [plainC c])) V) (d : Nat) : ∀ j : Nat, j + d = c.toNat - 1 →
    Ev (fun k => cuvetteref08_Plain.l1 k c ((plainC c).take j) ((j + 1 : Nat) : Int) D i w C) V := by
  induction d with
  | zero =>
    intro j hj
    rw [List.take_of_length_le (by rw [plainC_length]; omega)]
    refine Ev.step (fun k => ?_) hV
    simp only [cuvetteref08_Plain.l1]
    rw [if_neg (by omega), if_pos (by omega)]
  | succ d ih =>
    intro j hj
    refine Ev.step (fun k => ?_) (ih (j + 1) (by omega))
    simp only [cuvetteref08_Plain.l1]
    rw [if_pos (by omega), if_neg (by omega), if_pos (by rw [List.length_take, plainC_length]; omega), plainC_take c j (by omega), idxCast (j + 1) (by omega)]
    unfold pcut
    rw [Int.mul_comm 65536]
theorem rplain_l0 (c : Int) (hc : 1 ≤ c) (hc' : c ≤ 16) (D : Nat) (hD : D ≤ 64) (d : Nat) : ∀ i : Nat, i + d = D →
    Ev (fun k => cuvetteref08_Plain.l0 k c (D : Int) i 0 (List.replicate i (plainC c))) (0, List.replicate D (plainC c), 0) := by
  induction d with
  | zero =>
    intro i hi
    obtain rfl : i = D := by omega
    refine Ev.step (g' := fun _ => _) (fun k => ?_) (Ev.const _)
    simp only [cuvetteref08_Plain.l0]
    rw [if_neg (by omega)]
  | succ d ih =>
    intro i hi
    have hnext := ih (i + 1) (by omega)
    rw [List.replicate_succ'] at hnext
    have hg := rplain_l1 (D : Int) c hc hc' (List.replicate i (plainC c)) (i : Int) (by simp; omega) 0 _ (by rw [idxCast i (by omega)]; exact hnext) (c.toNat - 1) 0 (by omega)
    refine Ev.step (fun k => ?_) hg
    simp only [cuvetteref08_Plain.l0]
    rw [if_pos (by omega), List.take_zero]
    rfl
theorem rplain_ev (D c : Int) : Ev (fun k => cuvetteref08_Plain.f k D c) (if withinB D c = true then (0, plainB D c, 0) else (0, [], 1)) := by
  unfold cuvetteref08_Plain.f
  rw [sizes_eq]
  simp only [Option.bind_some]
  by_cases h : withinB D c = true
  · simp only [if_pos h]
    unfold withinB at h
    simp only [Bool.and_eq_true, decide_eq_true_eq] at h
    obtain ⟨⟨⟨h1, h2⟩, h3⟩, h4⟩ := h
    obtain ⟨D, rfl⟩ := Int.eq_ofNat_of_zero_le (show 0 ≤ D by omega)
    exact rplain_l0 c h2 h4 D (by omega) D 0 (by omega)
  · simp only [if_neg h]
    exact Ev.const _
theorem rsize_eq (D c : Int) : cuvetteref08_Size.f D c = book_Size.f D c := by
  unfold cuvetteref08_Size.f book_Size.f
  rw [sizes_eq, within_eq]
theorem same07_l (a b : Int) (x y : List (List Int)) (hl : x.length = y.length) (hm : x.length ≤ 9223372036854775807) (hr : ∀ c ∈ x, c.length ≤ 9223372036854775807) (d : Nat) : ∀ i : Nat, i + d = x.length →
    Ev (fun k => cuvetteref07_Same.l0 k (x.length : Int) i a x b y) (decide (x.drop i = y.drop i)) := by
  induction d with
  | zero =>
    intro i hi
    rw [List.drop_eq_nil_of_le (by omega), List.drop_eq_nil_of_le (by omega)]
    refine Ev.step (g' := fun _ => _) (fun k => ?_) (Ev.const _)
    simp only [cuvetteref07_Same.l0]
    rw [if_neg (by omega)]
    rfl
  | succ d ih =>
    intro i hi
    have hnext := ih (i + 1) (by omega)
    have hmem := getD_mem [] x (i : Int) (by omega) (by omega)
    rw [Int.toNat_natCast] at hmem
    have ex : rd_L3 x (i : Int) = x.getD i [] := by show x.getD ((i : Int)).toNat [] = _; rw [Int.toNat_natCast]
    have ey : rd_L3 y (i : Int) = y.getD i [] := by show y.getD ((i : Int)).toNat [] = _; rw [Int.toNat_natCast]
    rw [rdV x i (by omega), rdV y i (by omega)]
    refine Ev.step (g' := fun k => (cuvetteref06_Same.f k (x.getD i []) (y.getD i [])).bind fun t640 => (if t640 = true then (cuvetteref07_Same.l0 k (x.length : Int) ((i + 1 : Nat) : Int) a x b y) else (some false))) (fun k => ?_)
      (Ev.bind ⟨(x.getD i []).length + 1, fun k hk => same06 _ _ (hr _ hmem) k (by omega)⟩ ?_)
    · simp only [cuvetteref07_Same.l0]
      rw [if_pos (by omega), if_pos (by omega), if_pos (by omega), if_pos (by omega), ex, ey, idxCast i (by omega)]
    · by_cases h : x.getD i [] = y.getD i []
      · rw [h]
        simpa using hnext
      · simp only [decide_eq_false h, Bool.false_eq_true, if_false]
        rw [decide_eq_false (fun z => h (List.cons.inj z).1)]
        exact Ev.const _
theorem same07_ev (a b : Int) (x y : List (List Int)) (hm : x.length ≤ 9223372036854775807) (hr : ∀ c ∈ x, c.length ≤ 9223372036854775807) : Ev (fun k => cuvetteref07_Same.f k a x b y) (decide (a = b ∧ x = y)) := by
  have bad : ∀ p : Prop, ∀ [Decidable p], ¬ p → Ev (fun k => cuvetteref07_Same.j0 k true a x b y) (decide p) := by
    intro p _ hp
    rw [decide_eq_false hp]
    refine Ev.step (g' := fun _ => _) (fun k => ?_) (Ev.const _)
    simp only [cuvetteref07_Same.j0, if_true]
  unfold cuvetteref07_Same.f
  by_cases h : a = b
  · simp only [if_pos h]
    by_cases hl : x.length = y.length
    · have e : ((x.length : Int) != (y.length : Int)) = false := by simp; omega
      rw [e]
      have hg := same07_l a b x y hl hm hr x.length 0 (by omega)
      rw [List.drop_zero, List.drop_zero] at hg
      have e2 : decide (a = b ∧ x = y) = decide (x = y) := by simp [h]
      rw [e2]
      refine Ev.step (fun k => ?_) hg
      simp only [cuvetteref07_Same.j0]
      rw [if_neg (by decide)]
      rfl
    · have e : ((x.length : Int) != (y.length : Int)) = true := by simp; omega
      rw [e]
      exact bad _ (fun z => hl (by rw [z.2]))
  · simp only [if_neg h]
    exact bad _ (fun z => h z.1)
end Go.Proofs.Ytkjibgfgbfacdaa.P
end
/-! part: PureBookTexts -/
section
set_option linter.unusedVariables false
set_option linter.unusedSimpArgs false
namespace Go.Proofs.Ytkjibgfgbfacdaa.P
open Go.RowKit Go.Proofs.YtkjibgfgbfacdaaW.PrintWords Go.Proofs.YtkjibgfgbfacdaaW.PrintLast Go.Proofs.YtkjibgfgbfacdaaW.PrintMore
set_option linter.unusedVariables false
theorem fromP_rows (t : List Int) (hb : ∀ x ∈ t, 0 ≤ x ∧ x < 256) : (fromP t).2.1.length ≤ 300 ∧ ∀ c ∈ (fromP t).2.1, c.length ≤ 300 := by
  unfold fromP
  by_cases h : t.length < 10
  · rw [if_pos h]; simp
  · rw [if_neg h]
    have hm8 := hb (t.getD 8 0) (getD_mem 0 t 8 (by omega) (by omega))
    have hm9 := hb (t.getD 9 0) (getD_mem 0 t 9 (by omega) (by omega))
    split
    · split
      · refine ⟨by show (rowsOf _ _ _).length ≤ 300; rw [rowsOf_length]; omega, fun c hc => ?_⟩
        obtain ⟨j, hj, rfl⟩ := List.getElem_of_mem hc
        have hj2 := hj
        rw [rowsOf_length] at hj2
        have := rowsOf_getD (t.getD 9 0).toNat (t.getD 8 0).toNat (decs 2 ((t.getD 8 0).toNat * (t.getD 9 0).toNat) (t.drop 10)) j hj2
        rw [List.getD_eq_getElem?_getD, List.getElem?_eq_getElem hj, Option.getD_some] at this
        rw [this, List.length_take]
        omega
      · simp
    · simp
theorem texts_j0 (t : List Int) (D c a b : Int) (x y : List (List Int)) (q : Bool) (ht : okI .u8 t) (hq : q = false → t.length ≤ 3000) (hx : okII .i16 x) :
    Ev (fun k => cuvettelaw08_BookTexts.j0 k t D c true q a x b y) true := by
  cases q with
  | true => exact Ev.step (g' := fun _ => some true) (fun k => by simp [cuvettelaw08_BookTexts.j0]) (Ev.const _)
  | false =>
    have hl := hq rfl
    have hu := u8_of ht
    obtain ⟨hr1, hr2⟩ := fromP_rows t hu
    have s1 := same07_ev (fromP t).1 (fromP t).1 (fromP t).2.1 (fromP t).2.1 (by omega) (fun c hc => by have := hr2 c hc; omega)
    rw [decide_eq_true (p := (fromP t).1 = (fromP t).1 ∧ (fromP t).2.1 = (fromP t).2.1) ⟨rfl, rfl⟩] at s1
    obtain ⟨P, hP⟩ : ∃ P, P = (if withinB D c = true then ((0 : Int), plainB D c, (0 : Int)) else (0, [], 1)) := ⟨_, rfl⟩
    have hP1 : P.2.1.length ≤ 64 ∧ ∀ r ∈ P.2.1, r.length ≤ 16 := by
      rw [hP]
      by_cases h : withinB D c = true
      · rw [if_pos h]
        unfold withinB at h
        simp only [Bool.and_eq_true, decide_eq_true_eq] at h
        refine ⟨by simp [plainB]; omega, fun r hr => ?_⟩
        obtain ⟨_, rfl⟩ := List.mem_replicate.1 hr
        rw [plainC_length]
        omega
      · rw [if_neg h]; simp
    have s2 := same07_ev P.1 P.1 P.2.1 P.2.1 (by omega) (fun r hr => by have := hP1.2 r hr; omega)
    rw [decide_eq_true (p := P.1 = P.1 ∧ P.2.1 = P.2.1) ⟨rfl, rfl⟩] at s2
    have s3 := same07_ev a b x y hx.1 (fun r hr => (hx.2 r hr).1)
    have p1 := plain_ev D c
    have p2 := rplain_ev D c
    rw [← hP] at p1 p2
    refine Ev.step (g' := fun k => (book_Bytes.f k a x).bind fun bt646 => ((cuvetteref08_Bytes.f k a x).bind fun bt650 => ((book_From.f k t).bind fun bt654 => ((cuvetteref08_From.f k t).bind fun bt660 => ((book_Plain.f k D c).bind fun bt666 => ((cuvetteref08_Plain.f k D c).bind fun bt672 => ((book_Size.f D c).bind fun bt678 => ((cuvetteref08_Size.f D c).bind fun bt680 => (if true = true then ((cuvetteref01_SameBytes.f bt646.1 bt650.1).bind fun t682 => (if t682 = true then (if bt646.2 = bt650.2 then ((cuvetteref07_Same.f k bt654.1 bt654.2.1 bt660.1 bt660.2.1).bind fun t683 => (if t683 = true then (if bt654.2.2 = bt660.2.2 then ((cuvetteref07_Same.f k bt666.1 bt666.2.1 bt672.1 bt672.2.1).bind fun t684 => (if t684 = true then (if bt666.2.2 = bt672.2.2 then (if bt678.1 = bt680.1 then (if bt678.2 = bt680.2 then ((book_Same.f a x b y).bind fun t685 => ((cuvetteref07_Same.f k a x b y).bind fun t686 => (some (t685 == t686)))) else (some false)) else (some false)) else (some false)) else (some false))) else (some false)) else (some false))) else (some false)) else (some false))) else (some false))))))))))
      (fun k => by simp only [cuvettelaw08_BookTexts.j0]; rw [if_neg (by decide)]) ?_
    refine Ev.bind (bookBytes_ev a x (i16LL_of hx)) (Ev.bind (rbytes_ev a x (i16LL_of hx)) (Ev.bind (bookFrom_ev t (by omega) hu) (Ev.bind (rfrom_ev t (by omega) hu) (Ev.bind p1 (Ev.bind p2 ?_)))))
    rw [rsize_eq, size_eq]
    simp only [Option.bind_some, if_true]
    have e1 : ∀ l : List Int, cuvetteref01_SameBytes.f l l = some true := fun l => by unfold cuvetteref01_SameBytes.f; simp
    rw [e1]
    simp only [Option.bind_some, if_true]
    refine Ev.bind s1 ?_
    simp only [if_true]
    refine Ev.bind s2 ?_
    simp only [if_true, bookSame_eq, Option.bind_some]
    refine Ev.bind s3 ?_
    exact Ev.of fun k => by simp
theorem pure_BookTexts (a0_0 : Int) (l0_1 : List (List Int)) (a1_0 : Int) (l1_1 : List (List Int)) (l2 : List Int) (a3 : Int) (a4 : Int) (w0_0 : okN .i64 a0_0) (w0_1 : okII .i16 l0_1) (w1_0 : okN .i64 a1_0) (w1_1 : okII .i16 l1_1) (w2 : okI .u8 l2) (w3 : okN .i64 a3) (w4 : okN .i64 a4) : ∃ k, cuvettelaw08_BookTexts.f k a0_0 l0_1 a1_0 l1_1 l2 a3 a4 = some true := by
  refine Ev.some (g := fun k => cuvettelaw08_BookTexts.f k a0_0 l0_1 a1_0 l1_1 l2 a3 a4) ?_
  unfold cuvettelaw08_BookTexts.f
  refine Ev.bind live08 ?_
  simp only [if_true]
  have J := fun q hq => texts_j0 l2 a3 a4 a0_0 a1_0 l0_1 l1_1 q w2 hq w0_1
  obtain ⟨q, hq⟩ := few07_ev a0_0 l0_1 w0_1.1
  refine Ev.bind hq ?_
  cases q with
  | false =>
    simp only [Bool.false_eq_true, if_false]
    exact J true (fun h => by cases h)
  | true =>
    simp only [if_true]
    obtain ⟨q, hq⟩ := few07_ev a1_0 l1_1 w1_1.1
    refine Ev.bind hq ?_
    cases q with
    | false =>
      simp only [Bool.false_eq_true, if_false]
      exact J true (fun h => by cases h)
    | true =>
      simp only [if_true]
      exact J _ (fun h => by have := of_decide_eq_false h; omega)
end Go.Proofs.Ytkjibgfgbfacdaa.P
end
/-! part: LawBookTexts -/
section
set_option linter.unusedVariables false
set_option linter.unusedSimpArgs false
namespace Go.Proofs.Ytkjibgfgbfacdaa.bookTexts
open Go.ChangeShapes Go.WideShapes Go.ChangeAt Go.RowKit Go.Joins Go.Proofs.YtkjibgfgbfacdaaW.PrintWords
set_option linter.unusedVariables false
theorem own : ownKnob Try.prog.godebug = none := by kernel_rfl
theorem laidOut : laidOutB Try.prog = true := RFacts.f2
set_option maxRecDepth 100000 in
theorem lifted (os : Os) (started : os.Started) (H : Type) (enc : TypeId × Value → H) :
    ReturnsInHanded {} Try.checked os 6 .any (Rows.bookTextsSpec.pre6 enc Try.prog Try.f6 Rows.bookTextsRow.domain false) (Rows.bookTextsSpec.post enc Try.prog Try.f6 false true false false) := by
  refine returnsInHanded_of_change_sized (C := Try.checked) own started (by kernel_rfl) Try.func6
    (ChangeSpec.witness6 (enc := enc) (C := Try.checked) false ⟨#[], #[.agg #[.int .i64 0, .slice none 0 0], .agg #[.int .i64 0, .slice none 0 0], .slice none 0 0, .int .i64 0, .int .i64 0], []⟩ 8 (by kernel_rfl) (by kernel_rfl) (by kernel_rfl) (by kernel_rfl)) ?_
  intro W base args ds gs before hval0 hW hcnd hsz0 _
  clear hsz0
  have hval : ∀ (j : Nat) t v, Try.f6.params[j]? = some t → args[j]? = some v → Value.okWide Try.prog W .any base t v := hval0
  have hW' := hW
  obtain ⟨p, q, hA0, hV, rfl, hfz, hnd⟩ := hW
  have hA : DataW.TrodAll enc Try.prog W 0 (fun _ => true) true Try.f6.params.toList args.toList ds p := hA0
  rw [Try.params6] at hA hval
  obtain ⟨v0, vs0, d0, ds0, p0, q0, hargs, rfl, rfl, h0, r0⟩ := trodAll_cons hA
  obtain ⟨v1, vs1, d1, ds1, p1, q1, rfl, rfl, rfl, h1, r1⟩ := trodAll_cons r0
  obtain ⟨v2, vs2, d2, ds2, p2, q2, rfl, rfl, rfl, h2, r2⟩ := trodAll_cons r1
  obtain ⟨v3, vs3, d3, ds3, p3, q3, rfl, rfl, rfl, h3, r3⟩ := trodAll_cons r2
  obtain ⟨v4, vs4, d4, ds4, p4, q4, rfl, rfl, rfl, h4, r4⟩ := trodAll_cons r3
  obtain ⟨rfl, rfl, rfl⟩ := trodAll_nil r4
  obtain rfl : args = #[v0, v1, v2, v3, v4] := by cases args; simp_all
  obtain ⟨rfl, rfl⟩ := trodVars_none hV
  have k0 := h0
  have lt0 : ∀ x ∈ p0, x.block < W.heap.size := by obtain ⟨m, hm⟩ := k0; exact DataW.trod_lt m _ _ _ hm
  obtain ⟨u0_0, u0_1, y0_0, y0_1, m0, hv0, _, _, e0_0, e0_1⟩ := open_agg2 Try.underlying49 (by kernel_rfl) (by kernel_rfl) (hval 0 49 v0 rfl rfl) h0
  subst hv0
  obtain ⟨a0_0, rfl, w0_0⟩ := R.openN Try.underlying2 e0_0
  obtain ⟨A0_1, c0_1, l0_1, rfl, hc0_1, hr0_1, w0_1⟩ := R.openII Try.underlying47 Try.underlying26 Try.underlying74 (by kernel_rfl) (by kernel_rfl) e0_1
  have k1 := h1
  have lt1 : ∀ x ∈ p1, x.block < W.heap.size := by obtain ⟨m, hm⟩ := k1; exact DataW.trod_lt m _ _ _ hm
  obtain ⟨u1_0, u1_1, y1_0, y1_1, m1, hv1, _, _, e1_0, e1_1⟩ := open_agg2 Try.underlying49 (by kernel_rfl) (by kernel_rfl) (hval 1 49 v1 rfl rfl) h1
  subst hv1
  obtain ⟨a1_0, rfl, w1_0⟩ := R.openN Try.underlying2 e1_0
  obtain ⟨A1_1, c1_1, l1_1, rfl, hc1_1, hr1_1, w1_1⟩ := R.openII Try.underlying47 Try.underlying26 Try.underlying74 (by kernel_rfl) (by kernel_rfl) e1_1
  have k2 := h2
  have lt2 : ∀ x ∈ p2, x.block < W.heap.size := by obtain ⟨m, hm⟩ := k2; exact DataW.trod_lt m _ _ _ hm
  obtain ⟨aa2, len2, cap2, rfl⟩ := okWide_slice Try.underlying50 (hval 2 50 v2 rfl rfl)
  obtain ⟨fuel2, hf2⟩ := h2
  obtain ⟨A2, c2, l2, ev2, hc2, hr2, w2⟩ := R.openI Try.underlying50 Try.underlying5 (by kernel_rfl) (by simpa [Value.cells] using hf2)
  rw [ev2] at hW' hval k2 ⊢
  have k3 := h3
  have lt3 : ∀ x ∈ p3, x.block < W.heap.size := by obtain ⟨m, hm⟩ := k3; exact DataW.trod_lt m _ _ _ hm
  obtain ⟨a3, rfl, _, _, w3⟩ := open_int Try.underlying3 (hval 3 3 v3 rfl rfl) h3
  have k4 := h4
  have lt4 : ∀ x ∈ p4, x.block < W.heap.size := by obtain ⟨m, hm⟩ := k4; exact DataW.trod_lt m _ _ _ hm
  obtain ⟨a4, rfl, _, _, w4⟩ := open_int Try.underlying3 (hval 4 3 v4 rfl rfl) h4
  clear hA0 hval0
  obtain ⟨k, hp⟩ := P.pure_BookTexts a0_0 l0_1 a1_0 l1_1 l2 a3 a4 w0_0 w0_1 w1_0 w1_1 w2 w3 w4
  refine (P.cuvettelaw08_BookTexts.calls k a0_0 A0_1 c0_1 l0_1 a1_0 A1_1 c1_1 l1_1 A2 c2 l2 a3 a4 true W hr0_1 hc0_1 hr1_1 hc1_1 hr2 hc2 hp rfl).mono fun e W' ⟨he, bel⟩ => ?_
  subst he
  exact ⟨_, rfl, _, _, _, [], _, [], hW', trodAll_mk1 (shut_bool Try.underlying4 _), (trodAll_cons_mk (Below.trod laidOut (by kernel_rfl) (of_decide_eq_true (by kernel_rfl)) k0 bel lt0) (trodAll_cons_mk (Below.trod laidOut (by kernel_rfl) (of_decide_eq_true (by kernel_rfl)) k1 bel lt1) (trodAll_cons_mk (Below.trod laidOut (by kernel_rfl) (of_decide_eq_true (by kernel_rfl)) k2 bel lt2) (trodAll_cons_mk (Below.trod laidOut (by kernel_rfl) (of_decide_eq_true (by kernel_rfl)) k3 bel lt3) (trodAll_cons_mk (Below.trod laidOut (by kernel_rfl) (of_decide_eq_true (by kernel_rfl)) k4 bel lt4) trodAll_mk0))))), rfl, bel.frame _, fun h => by cases h⟩
set_option maxHeartbeats 0 in
theorem facts : joinedFacts Try.pinned.checked.prog 6 Try.f6 Rows.bookTextsSpec Rows.bookTextsRow = true := by
  unfold joinedFacts
  simp only [Bool.and_eq_true]
  repeat' apply And.intro
  · as_aux_lemma => kernel_rfl
  · exact RFacts.f2
  · exact RFacts.f3
  · as_aux_lemma => kernel_rfl
  · as_aux_lemma => kernel_rfl
  · as_aux_lemma => kernel_rfl
  · as_aux_lemma => kernel_rfl
  · as_aux_lemma => kernel_rfl
  · as_aux_lemma => kernel_rfl
  · as_aux_lemma => kernel_rfl
  · as_aux_lemma => kernel_rfl
  · as_aux_lemma => kernel_rfl
  · as_aux_lemma => kernel_rfl
  · as_aux_lemma => kernel_rfl
  · as_aux_lemma => kernel_rfl
  · as_aux_lemma => kernel_rfl
  · as_aux_lemma => kernel_rfl
  · as_aux_lemma => kernel_rfl
  · as_aux_lemma => kernel_rfl
  · as_aux_lemma => kernel_rfl
  · as_aux_lemma => kernel_rfl
  · as_aux_lemma => kernel_rfl
  · exact RFacts.f23
  · as_aux_lemma => kernel_rfl
  · exact RFacts.f25
  · exact RFacts.f26
  · exact RFacts.f27
  · exact RFacts.f28
  · as_aux_lemma => kernel_rfl
  · as_aux_lemma => kernel_rfl
  · as_aux_lemma => kernel_rfl
  · as_aux_lemma => kernel_rfl
theorem over : Rows.bookTextsRow.holds Try.pinned (OpenSpec.ofChange Rows.bookTextsSpec) :=
  OpenClaim.holds_of_wide 6 Try.f6 rfl rfl rfl rfl rfl rfl rfl ⟨rfl, rfl, rfl, rfl, rfl⟩ rfl rfl rfl rfl rfl (by as_aux_lemma => kernel_rfl) Try.func6 facts
    (of_decide_eq_true (by as_aux_lemma => kernel_rfl)) (by unfold Func.isWrapper; first | (rw [if_pos (by decide +kernel)]; kernel_rfl) | (rw [if_neg (by decide +kernel)]; exact ⟨rfl, rfl⟩))
    (fun os started H enc _ => lifted os started H enc)
theorem proved : Rows.BookTextsSaid := over
#print axioms proved
end Go.Proofs.Ytkjibgfgbfacdaa.bookTexts
namespace Go.Proofs.Ytkjibgfgbfacdaa
/-- The row, under a short name, for the claim. -/
theorem bookTexts_holds : Rows.BookTextsSaid := bookTexts.proved
end Go.Proofs.Ytkjibgfgbfacdaa
end
