/- The law SlotsApart of this seat answers true for every input, and its arguments read as they did. Conditions: none. This file holds a part of what the proof needs. -/
import Derived.Lib.SliceRun
import Derived.RowKit
import Derived.WalkKit
import Derived.ProofKit
import Derived.OpenShut
import Derived.Below
import Derived.SizedLaws
import Derived.Lib.SmallJoins
import Derived.Deep.Matrix
import Derived.Test.YtkjibgfgbfacdaaRows
import Derived.KernelRfl
import Derived.JoinedOf
import Derived.Test.YtkjibgfgbfacdaaProg
import Derived.Deep.Draws
import Derived.Deep.AppendLies
import Derived.Maps.AppendAt
import Derived.OwnWalk
import Derived.Laws.BytesArg
import Derived.Laws.MakeOwn
import Derived.Laws.OwnMore
import Derived.Deep.OwnRows
import Derived.Tactics
import Derived.Lib.ConvBytes
import Derived.Laws.Slices
import Derived.RowKit3
import Derived.Deep.LoopGhost
import Derived.Deep.QuietTactic
import Derived.BigQuiet
import Derived.WideLaws
import Derived.Deep.DeepCutAuto
import Derived.Deep.CutBlock
import Derived.Deep.RegionHeld3
import Derived.Laws.Rows
import Derived.Lib.AppendStr
import Derived.ArgAppend
import Derived.Laws.IdiomCopy
import Derived.OrdersHeld
import Derived.Laws.BitsLemmas
import Derived.Shelf.Abstract
import Derived.Maps.OwnSet
import Derived.Maps.OwnOps
import Derived.Test.YtkjibgfgbfacdaaKSlotsApart0
/-! part: HBase -/
section
set_option linter.unusedVariables false
set_option linter.unusedSimpArgs false
namespace Go.Proofs.YtkjibgfgbfacdaaW.PrintWords
open Go.RowKit
namespace Kd
theorem C_zero {α : Type} {d : Kd α} {w : World} {n : Nat} {xs : List α} (h : d.C w none n xs) : xs = [] := by
  obtain ⟨h1, _, h3⟩ := h
  rcases Nat.eq_zero_or_pos n with h0 | h0
  · exact List.eq_nil_of_length_eq_zero (h1.trans h0)
  · obtain ⟨ad, e, _⟩ := h3 h0
    cases e
theorem V_zero {α : Type} {d : Kd α} {e : Nat} {w : World} {base n c : Nat} {ok : Nat → Prop} {xs : List α} (h : Kd.V d e w base ok (.slice none n c) xs) : xs = [] := by
  obtain ⟨A, c', e1, _, hF⟩ := h
  injection e1 with e1
  subst e1
  exact C_zero (Kd.F_now hF)
end Kd
end Go.Proofs.YtkjibgfgbfacdaaW.PrintWords
namespace Go.Proofs.YtkjibgfgbfacdaaW.PrintWords
open Go.RowKit
/-- An element of a row of slices. -/
theorem Kd.at_sl {α : Type} {d : Kd α} {e : Nat} {w : World} {A : Option Addr} {n : Nat} {xs : List (List α)} (h : Kd.C (Kd.slice e d) w A n xs) (i : Int) (h0 : 0 ≤ i) (h1 : i < (n : Int)) :
    ∃ ad A0 c0, A = some ad ∧ w.cell? (ad.add i.toNat) = some (.slice A0 (xs.getD i.toNat []).length c0) ∧ (xs.getD i.toNat []).length ≤ c0 ∧ d.C w A0 (xs.getD i.toNat []).length (xs.getD i.toNat []) := by
  obtain ⟨ad, c, e, _, hK, hc0⟩ := Kd.C_get h ([] : List α) i h0 h1
  have hc : ∀ j u, c[j]? = some u → w.cell? (ad.add (i.toNat * 1 + j)) = some u := hc0
  obtain ⟨A0, c0, rfl, l0, g0⟩ := hK
  exact ⟨ad, A0, c0, e, by have hq := hc 0 _ rfl; rwa [Nat.mul_one, Nat.add_zero] at hq, l0, g0⟩
end Go.Proofs.YtkjibgfgbfacdaaW.PrintWords
end
/-! part: PTools -/
section
set_option linter.unusedVariables false
set_option linter.unusedSimpArgs false
namespace Go.Proofs.Ytkjibgfgbfacdaa.P
open Go.RowKit Go.Proofs.YtkjibgfgbfacdaaW.PrintWords

/-- A number that came in. -/
def okN (k : IntKind) (n : Int) : Prop := (Lit.int k n).wf = true
/-- A list of numbers that came in. -/
def okI (k : IntKind) (l : List Int) : Prop := l.length ≤ 9223372036854775807 ∧ ∀ n ∈ l, (Lit.int k n).wf = true
/-- A list of lists of numbers that came in. -/
def okII (k : IntKind) (l : List (List Int)) : Prop := l.length ≤ 9223372036854775807 ∧ ∀ y ∈ l, y.length ≤ 9223372036854775807 ∧ ∀ n ∈ y, (Lit.int k n).wf = true
theorem okN_i64 {n : Int} (h : okN .i64 n) : -9223372036854775808 ≤ n ∧ n ≤ 9223372036854775807 := by
  have h1 : (decide (IntKind.i64.min ≤ n) && decide (n ≤ IntKind.i64.max)) = true := h
  have e1 : IntKind.i64.min = -9223372036854775808 := by decide
  have e2 : IntKind.i64.max = 9223372036854775807 := by decide
  rw [e1, e2] at h1
  simpa using h1

/-- From some fuel on the answer stands. -/
def Ev {α : Type} (g : Nat → Option α) (v : α) : Prop := ∃ K, ∀ k, K ≤ k → g k = some v
theorem Ev.const {α : Type} (v : α) : Ev (fun _ => some v) v := ⟨0, fun _ _ => rfl⟩
theorem Ev.of {α : Type} {g : Nat → Option α} {v : α} (h : ∀ k, g k = some v) : Ev g v := ⟨0, fun k _ => h k⟩
theorem Ev.some {α : Type} {g : Nat → Option α} {v : α} (h : Ev g v) : ∃ k, g k = .some v := by
  obtain ⟨K, h⟩ := h
  exact ⟨K, h K (Nat.le_refl _)⟩
theorem Ev.bind {α β : Type} {f : Nat → Option α} {h : Nat → α → Option β} {a : α} {b : β} (hf : Ev f a) (hh : Ev (fun k => h k a) b) : Ev (fun k => (f k).bind (h k)) b := by
  obtain ⟨K1, h1⟩ := hf
  obtain ⟨K2, h2⟩ := hh
  exact ⟨K1 + K2, fun k hk => by show (f k).bind (h k) = _; rw [h1 k (by omega)]; exact h2 k (by omega)⟩
theorem Ev.congr {α : Type} {g g' : Nat → Option α} {v : α} (e : ∀ k, g k = g' k) (h : Ev g' v) : Ev g v := by
  obtain ⟨K, h⟩ := h
  exact ⟨K, fun k hk => by rw [e]; exact h k hk⟩
/-- One step of a function that spends its fuel. -/
theorem Ev.step {α : Type} {g g' : Nat → Option α} {v : α} (e : ∀ k, g (k + 1) = g' k) (h : Ev g' v) : Ev g v := by
  obtain ⟨K, h⟩ := h
  refine ⟨K + 1, fun k hk => ?_⟩
  obtain ⟨k, rfl⟩ : ∃ m, k = m + 1 := ⟨k - 1, by omega⟩
  rw [e]
  exact h k (by omega)
theorem Ev.cond {α : Type} {c : Prop} [Decidable c] {g g' : Nat → Option α} {v v' : α} (h : c → Ev g v) (h' : ¬ c → Ev g' v') : Ev (fun k => if c then g k else g' k) (if c then v else v') := by
  by_cases e : c
  · simp only [if_pos e]; exact h e
  · simp only [if_neg e]; exact h' e
theorem w64 {i : Int} (h0 : -9223372036854775808 ≤ i) (h1 : i ≤ 9223372036854775807) : wrap64 i = i := by
  unfold wrap64
  omega
theorem rdO {α : Type} (d : α) (l : List α) (i : Int) (h0 : 0 ≤ i) (h1 : i < (l.length : Int)) : l.drop i.toNat = (l.getD i.toNat d) :: l.drop (i + 1).toNat := by
  have h : i.toNat < l.length := by omega
  rw [List.drop_eq_getElem_cons h, show (i + 1).toNat = i.toNat + 1 by omega]
  simp [List.getD_eq_getElem?_getD, h]
theorem getD_mem {α : Type} (d : α) (l : List α) (i : Int) (h0 : 0 ≤ i) (h1 : i < (l.length : Int)) : l.getD i.toNat d ∈ l := by
  have h : i.toNat < l.length := by omega
  simp [List.getD_eq_getElem?_getD, h]
end Go.Proofs.Ytkjibgfgbfacdaa.P
end
/-! part: RBase -/
section
set_option linter.unusedVariables false
set_option linter.unusedSimpArgs false
namespace Go.Proofs.Ytkjibgfgbfacdaa.R
open Go.ChangeShapes Go.WideShapes Go.ChangeAt Go.RowKit Go.Deep Go.Proofs.YtkjibgfgbfacdaaW.PrintWords
set_option linter.unusedVariables false
set_option linter.unusedSimpArgs false
section
variable {H : Type} {enc : TypeId × Value → H} {P : Program} {w : World} {base : Nat} {held : Bool}
/-- A slice of whole numbers that came in. -/
theorem openI {t e : TypeId} {k : IntKind} {fuel : Nat} {v : Value} {x : DataW H × List MemPlace} (ht : P.underlying t = some (.slice e)) (he : P.underlying e = some (.int k)) (hc : P.cellsOf e = 1)
    (h : DataW.trod enc P w base (fun _ => true) held fuel t [v] = some x) :
    ∃ (A : Option Addr) (c : Nat) (l : List Int), v = .slice A l.length c ∧ l.length ≤ c ∧ (Kd.int k).C w A l.length l ∧ Go.Proofs.Ytkjibgfgbfacdaa.P.okI k l := by
  rcases open_ints ht he hc h with ⟨e1, _⟩ | ⟨a, len, cap, zs, e1, _, hl, hm, hz, _, hcell, hwz⟩
  · injection e1 with e1
    exact ⟨none, 0, [], e1, Nat.le_refl _, Kd.C_nil _ _, by simp, fun n hn => by cases hn⟩
  · injection e1 with e1
    simp only [if_true] at hz
    have hlen : (zs.take len).length = len := by rw [List.length_take]; omega
    refine ⟨some a, cap, zs.take len, by rw [hlen]; exact e1, by rw [hlen]; exact hl, ?_, by unfold maxLen at hm; omega, fun n hn => hwz n (List.mem_of_mem_take hn)⟩
    rw [hlen]
    refine Kd.C_of_reads (d := (0 : Int)) (h1 := fun _ => rfl) ⟨hlen, by unfold maxLen at hm; omega, fun _ => ⟨a, rfl, fun j hj => ?_⟩⟩
    rw [hcell j (by omega)]
    congr 2
    simp [List.getD_eq_getElem?_getD, List.getElem?_take, hj]
/-- A slice of slices of whole numbers that came in. -/
theorem openII {t e q : TypeId} {k : IntKind} {fuel : Nat} {v : Value} {x : DataW H × List MemPlace} (ht : P.underlying t = some (.slice e)) (he : P.underlying e = some (.slice q)) (hq : P.underlying q = some (.int k))
    (ce : P.cellsOf e = 1) (cq : P.cellsOf q = 1) (h : DataW.trod enc P w base (fun _ => true) held fuel t [v] = some x) :
    ∃ (A : Option Addr) (c : Nat) (l : List (List Int)), v = .slice A l.length c ∧ l.length ≤ c ∧ (Kd.slice q (Kd.int k)).C w A l.length l ∧ Go.Proofs.Ytkjibgfgbfacdaa.P.okII k l := by
  rcases open_int_rows ht he hq ce cq h with ⟨e1, _⟩ | ⟨a, len, cap, A, L, C, Z, e1, _, hl, hm, _, hrow⟩
  · injection e1 with e1
    exact ⟨none, 0, [], e1, Nat.le_refl _, Kd.C_nil _ _, by simp, fun n hn => by cases hn⟩
  · injection e1 with e1
    have hlen : ((List.range len).map fun r => (Z r).take (L r)).length = len := by simp
    refine ⟨some a, cap, (List.range len).map fun r => (Z r).take (L r), by rw [hlen]; exact e1, by rw [hlen]; exact hl, ?_, by unfold maxLen at hm; omega, ?_⟩
    · rw [hlen]
      refine ⟨hlen, by unfold maxLen at hm; omega, fun _ => ⟨a, rfl, fun j p hj => ?_⟩⟩
      have hjl : j < len := by
        have := (List.getElem?_eq_some_iff.1 hj).1
        omega
      have hp : p = (Z j).take (L j) := by
        rw [List.getElem?_map, List.getElem?_range hjl] at hj
        simpa using hj.symm
      subst hp
      obtain ⟨hc, hLC, hCm, hZ, hwf, hnone, hsome⟩ := hrow j (by omega)
      have hl2 : ((Z j).take (L j)).length = L j := by rw [List.length_take]; omega
      refine ⟨[.slice (A j) (L j) (C j)], rfl, ⟨A j, C j, by rw [hl2], by rw [hl2]; exact hLC, ?_⟩, ?_⟩
      · rw [hl2]
        refine Kd.C_of_reads (d := (0 : Int)) (h1 := fun _ => rfl) ⟨hl2, by unfold maxLen at hCm; omega, fun h0 => ?_⟩
        cases hA : A j with
        | none => have := hnone hA; omega
        | some a' =>
          refine ⟨a', rfl, fun i hi => ?_⟩
          rw [(hsome a' hA).2 i (by omega)]
          congr 2
          simp [List.getD_eq_getElem?_getD, List.getElem?_take, hi]
      · intro i u hu
        cases i with
        | zero =>
          have : u = .slice (A j) (L j) (C j) := by simpa using hu.symm
          subst this
          show w.cell? (a.add (j * 1 + 0)) = _
          simpa using hc
        | succ i => simp at hu
    · intro y hy
      obtain ⟨r, hr, rfl⟩ := List.mem_map.1 hy
      have hrl : r < len := List.mem_range.1 hr
      obtain ⟨hc, hLC, hCm, hZ, hwf, hnone, hsome⟩ := hrow r (by omega)
      have hl2 : ((Z r).take (L r)).length = L r := by rw [List.length_take]; omega
      refine ⟨by unfold maxLen at hCm; omega, fun n hn => ?_⟩
      exact (hrow r (by omega)).2.2.2.2.1 n (List.mem_of_mem_take hn)
/-- A number. -/
theorem openN {t : TypeId} {k : IntKind} {fuel : Nat} {v : Value} {x : DataW H × List MemPlace} (ht : P.underlying t = some (.int k)) (h : DataW.trod enc P w base (fun _ => true) held fuel t [v] = some x) :
    ∃ n, v = .int k n ∧ Go.Proofs.Ytkjibgfgbfacdaa.P.okN k n := by
  obtain ⟨n, e, _, hw⟩ := DataW.trod_int ht h
  injection e with e
  exact ⟨n, e, hw⟩
end
end Go.Proofs.Ytkjibgfgbfacdaa.R
end
/-! part: RFacts1 -/
section
set_option linter.unusedVariables false
set_option linter.unusedSimpArgs false
namespace Go.Proofs.Ytkjibgfgbfacdaa.RFacts
theorem f2 : (laidOutB Try.pinned.checked.prog) = true := by kernel_rfl
theorem f3 : (mapsRowed Try.pinned.checked.prog) = true := by kernel_rfl
theorem f23 : (Rows.bookBackRow.plainKeys == Try.pinned.checked.prog.plainKeys) = true := by kernel_rfl
theorem f25 : (Try.pinned.checked.prog.stopsHeard) = true := by kernel_rfl
theorem f26 : (Try.pinned.checked.prog.mayEnter) = true := by kernel_rfl
end Go.Proofs.Ytkjibgfgbfacdaa.RFacts
end
/-! part: RFacts2 -/
section
set_option linter.unusedVariables false
set_option linter.unusedSimpArgs false
namespace Go.Proofs.Ytkjibgfgbfacdaa.RFacts
theorem f27 : (Rows.bookBackRow.lifted == Try.pinned.checked.prog.liftsFinal) = true := by kernel_rfl
end Go.Proofs.Ytkjibgfgbfacdaa.RFacts
end
/-! part: RFacts3 -/
section
set_option linter.unusedVariables false
set_option linter.unusedSimpArgs false
namespace Go.Proofs.Ytkjibgfgbfacdaa.RFacts
theorem f28 : (Try.pinned.checked.prog.make == some Rows.bookBackRow.make) = true := by kernel_rfl
end Go.Proofs.Ytkjibgfgbfacdaa.RFacts
end
/-! part: F -/
section
set_option linter.unusedVariables false
set_option linter.unusedSimpArgs false
namespace Go.Proofs.Ytkjibgfgbfacdaa.P
open Go.RowKit Go.Proofs.YtkjibgfgbfacdaaW.PrintWords Go.Proofs.YtkjibgfgbfacdaaW.PrintLast Go.Proofs.YtkjibgfgbfacdaaW.PrintMore
attribute [local go_sem] max2_int min2_int max_two min_two max_three min_three max_four min_four   -- for this text's walks alone
set_option linter.unusedVariables false
set_option linter.unusedSimpArgs false



def errW : Option Int → Value
  | none => .nilIface
  | some c => .iface 0 (.int .i64 c)
theorem errW_none : errW none = .nilIface := rfl
theorem errW_some (c : Int) : errW (some c) = .iface 0 (.int .i64 c) := rfl

theorem info2 : (Try.prog.info? 2).map (fun i => (i.zero, i.size, i.bytes)) = some (some (.int .i64 0), 1, 8) := by kernel_rfl
theorem info27 : (Try.prog.info? 27).map (fun i => (i.zero, i.size, i.bytes)) = some (some (.slice none 0 0), 1, 24) := by kernel_rfl
theorem info74 : (Try.prog.info? 74).map (fun i => (i.zero, i.size, i.bytes)) = some (some (.int .i16 0), 1, 2) := by kernel_rfl
-- the values' own types
def rd_L3 (xs : List (List Int)) (i : Int) : (List Int) := xs.getD i.toNat ([] : List Int)
theorem at_L3 {w : World} {A : Option Addr} {n : Nat} {xs : List (List Int)} (h : Kd.C (Kd.slice 74 (Kd.int .i16)) w A n xs) (i : Int) (h0 : 0 ≤ i) (h1 : i < n) : ∃ ad A0 c0, A = some ad ∧ w.cell? (ad.add i.toNat) = some (.slice A0 (rd_L3 xs i).length c0) ∧ (rd_L3 xs i).length ≤ c0 ∧ (Kd.int .i16).C w A0 (rd_L3 xs i).length (rd_L3 xs i) := by
  obtain ⟨ad, c, e, _, hK, hc0⟩ := Kd.C_get h ([] : List Int) i h0 h1
  have hc : ∀ j u, c[j]? = some u → w.cell? (ad.add (i.toNat * 1 + j)) = some u := hc0
  obtain ⟨A0, c0, rfl, l0, g0⟩ := hK
  exact ⟨ad, A0, c0, e, by have hq := hc 0 _ rfl; rwa [Nat.mul_one, Nat.add_zero] at hq, l0, g0⟩

def rd_L4 (xs : List (List Int)) (i : Int) : (List Int) := xs.getD i.toNat ([] : List Int)
def rd_L5 (xs : List (List (List Int))) (i : Int) : (List (List Int)) := xs.getD i.toNat ([] : List (List Int))
def rd_L6 (xs : List (List (List Int))) (i : Int) : (List (List Int)) := xs.getD i.toNat ([] : List (List Int))
def rd_L8 (xs : List (List Int)) (i : Int) : (List Int) := xs.getD i.toNat ([] : List Int)
/-! #### struct type 72 -/
structure S72 where
  f0 : Bool
  f1 : (List Int)
def z72 : S72 := ⟨false, ([] : List Int)⟩
def k72 : Kd S72 := Kd.iso (Kd.pair Kd.bool (Kd.slice 5 (Kd.int .u8))) (fun x : S72 => (x.f0, x.f1))
def rd_T72 (xs : List S72) (i : Int) : S72 := xs.getD i.toNat z72
end Go.Proofs.Ytkjibgfgbfacdaa.P
end
/-! part: F167 -/
section
set_option linter.unusedVariables false
set_option linter.unusedSimpArgs false
namespace Go.Proofs.Ytkjibgfgbfacdaa.P
open Go.RowKit Go.Proofs.YtkjibgfgbfacdaaW.PrintWords Go.Proofs.YtkjibgfgbfacdaaW.PrintLast Go.Proofs.YtkjibgfgbfacdaaW.PrintMore
attribute [local go_sem] max2_int min2_int max_two min_two max_three min_three max_four min_four   -- for this text's walks alone
set_option linter.unusedVariables false
set_option linter.unusedSimpArgs false

/-! ### api_Vec_int16_167: function 167 -/
def api_Vec_int16_167.l0 : Nat → List Int → Int → Int → Option (Int)
  | 0, _, _, _ => none
  | k + 1, x0, x3, x4 => if x4 < (x0.length : Int) then (if 0 ≤ x4 then (api_Vec_int16_167.l0 k x0 (mn x3 (rd x0 x4)) (wrap64 (x4 + 1))) else (none)) else (some x3)
def api_Vec_int16_167.f (k : Nat) (l0 : List Int) : Option (Int) := if (l0.length : Int) < 1 then (none) else (if 0 < (l0.length : Int) then (api_Vec_int16_167.l0 k l0 (rd l0 0) 1) else (none))
theorem api_Vec_int16_167.mono_l : ∀ k, (∀ y0 y1 y2, LeO (api_Vec_int16_167.l0 k y0 y1 y2) (api_Vec_int16_167.l0 (k + 1) y0 y1 y2))
  | 0 => fun _ _ _ r h => by simp [api_Vec_int16_167.l0] at h
  | k + 1 => by
    have ih0 := api_Vec_int16_167.mono_l k
    · intro y0 y1 y2
      unfold api_Vec_int16_167.l0
      repeat' first
      | (with_reducible exact ih0 _ _ _)
      | (with_reducible exact LeO.refl _)
      | (with_reducible exact LeO.none _)
      | (with_reducible refine LeO.ite ?_ ?_)
      | (with_reducible refine LeO.bind ?_ (fun _ => ?_))
      | exact ih0 _ _ _
      | exact LeO.none _
      | refine LeO.ite ?_ ?_
      | refine LeO.bind ?_ (fun _ => ?_)
theorem api_Vec_int16_167.mono : ∀ a0 k, LeO (api_Vec_int16_167.f k a0) (api_Vec_int16_167.f (k + 1) a0) := by
  intro a0 k
  have ih0 := api_Vec_int16_167.mono_l k
  unfold api_Vec_int16_167.f
  repeat' first
      | (with_reducible exact ih0 _ _ _)
      | (with_reducible exact LeO.refl _)
      | (with_reducible exact LeO.none _)
      | (with_reducible refine LeO.ite ?_ ?_)
      | (with_reducible refine LeO.bind ?_ (fun _ => ?_))
      | exact ih0 _ _ _
      | exact LeO.none _
      | refine LeO.ite ?_ ?_
      | refine LeO.bind ?_ (fun _ => ?_)
set_option maxHeartbeats 8000000 in
set_option maxRecDepth 100000 in
theorem api_Vec_int16_167.calls (k : Nat) (A0 : Option Addr) (c0 : Nat) (l0 : List Int) (r : Int) (w : World) (hr0 : Kd.C (Kd.int .i16) w A0 l0.length l0) (hc0 : l0.length ≤ c0) (h : api_Vec_int16_167.f k l0 = some r) :
    Calls Try.prog 167 #[.slice A0 l0.length c0] w fun e w' => e = .returned (.int .i16 r) ∧ Below w.heap.size w w' := by
  have HR0 := Aside0.mk hr0
  have HC0 := Aside0.mk hc0
  clear hr0 hc0
  have HB := Aside0.mk (Below.refl w.heap.size w)
  have H : (if (l0.length : Int) < 1 then (none) else (if 0 < (l0.length : Int) then (api_Vec_int16_167.l0 k l0 (rd l0 0) 1) else (none))) = some r := h
  clear h
  by_cases c2 : (l0.length : Int) < 1
  · rw [if_pos c2] at H
    exact absurd H (by simp)
  · rw [if_neg c2] at H
    have c2b0 : decide ((l0.length : Int) < 1) = false := decide_eq_false c2
    have c2b1 : decide (l0.length < 1) = false := decide_eq_false (by omega)
    clear c2
    by_cases c3 : 0 < (l0.length : Int)
    · rw [if_pos c3] at H
      have c3b0 : decide (0 < (l0.length : Int)) = true := decide_eq_true c3
      have c3b1 : decide (0 < l0.length) = true := decide_eq_true (by omega)
      clear c3
      have H' := Aside0.mk H
      clear H
      have p101 : 0 ≤ (0 : Int) := (by omega)
      have q101 : 0 < (l0.length : Int) := of_decide_eq_true (by first | (with_reducible assumption) | assumption)
      obtain ⟨ad101, e101, hx101_0⟩ := Kd.at_int HR0.out 0 p101 q101
      cases e101
      have qi101 : (0 < l0.length) = True := eq_true (by omega)
      (try rw [show ((0 : Int)).toNat = 0 from rfl] at hx101_0)
      (try rw [Addr.add_zero'] at hx101_0)
      replace p101 := eq_true p101
      replace q101 := eq_true q101
      go_enter Try.func167, Try.ntmps167
      go_wp2
      go_loopg [3, 4] k (fun kq v3 v4 w' => ∃ (x3_1 : Int) (x4_1 : Int), v3 = .int .i16 x3_1 ∧ v4 = .int .i64 x4_1 ∧ Aside0 (api_Vec_int16_167.l0 kq l0 x3_1 x4_1 = some r) ∧ Aside0 (kq ≤ k) ∧ Aside0 (Below w.heap.size w w'))
      case atStart => exact ⟨(rd l0 0), (1), (by first | rfl | (simp; done) | (simp [*]; done)), (by first | rfl | (simp; done) | (simp [*]; done)), H', ⟨Nat.le_refl _⟩, ⟨by repeat (first | (with_reducible first | exact HB.out | apply below_alloc | apply pw_below_drewN | apply below_drew1) | exact HB.out)⟩⟩
      case round =>
        clear H'
        try clear c1
        try clear p1
        try clear q1
        try clear hx1
        try clear qi1
        try clear c2
        try clear c2b0
        try clear c2b1
        try clear p2
        try clear c3
        try clear c3b0
        try clear c3b1
        try clear hx101_0
        try clear p101
        try clear q101
        obtain ⟨x3_1, x4_1, rfl, rfl, HA, HK1, HB⟩ := hrel
        cases gk with
        | zero => exact absurd HA.out (by simp [api_Vec_int16_167.l0])
        | succ k1 =>
          have H := HA.out
          clear HA
          simp only [api_Vec_int16_167.l0] at H
          by_cases c4 : x4_1 < (l0.length : Int)
          · rw [if_pos c4] at H
            have c4b0 : decide (x4_1 < (l0.length : Int)) = true := decide_eq_true c4
            clear c4
            by_cases c5 : 0 ≤ x4_1
            · rw [if_pos c5] at H
              have c5b0 : decide (0 ≤ x4_1) = true := decide_eq_true c5
              clear c5
              obtain ⟨ji6, hji6⟩ : ∃ j_ : Int, (mn x3_1 (rd l0 x4_1)) = j_ := ⟨_, rfl⟩
              replace H : (api_Vec_int16_167.l0 k1 l0 ji6 (wrap64 (x4_1 + 1))) = some r := by first | (rw [hji6] at H; exact H) | (simp only [hji6] at H ⊢; exact H)
              have hji6_ : (if (rd l0 x4_1) < x3_1 then (rd l0 x4_1) else x3_1) = ji6 := hji6
              have H' := Aside0.mk H
              clear H
              have p102 : 0 ≤ (x4_1 : Int) := of_decide_eq_true (by first | (with_reducible assumption) | assumption)
              have q102 : x4_1 < (l0.length : Int) := of_decide_eq_true (by first | (with_reducible assumption) | assumption)
              obtain ⟨ad102, e102, hx102_0⟩ := Kd.at_int HR0.out x4_1 p102 q102
              obtain rfl : ad101 = ad102 := (by injection e102)
              replace hx102_0 := (HB.out.cell (World.block_lt_of_cell? w _ hx102_0)).trans hx102_0
              replace p102 := eq_true p102
              replace q102 := eq_true q102
              go_wp2
              first | go_roundg k1 | (simp only [← hji6]; go_roundg k1)
              case measure => have := HK1.out; omega
              case rel => exact ⟨(ji6), (wrap64 (x4_1 + 1)), (by first | rfl | (simp; done) | (simp only [← hji6] <;> (first | rfl | simp)) | (simp [*]; done)), (by first | rfl | (simp; done) | (simp [*]; done)), (by first | exact H' | (rw [hji6]; exact H')), ⟨by have := HK1.out; omega⟩, ⟨by repeat (first | (with_reducible first | exact HB.out | apply below_alloc | apply pw_below_drewN | apply below_drew1) | exact HB.out)⟩⟩
            · rw [if_neg c5] at H
              exact absurd H (by simp)
          · rw [if_neg c4] at H
            have c4b0 : decide (x4_1 < (l0.length : Int)) = false := decide_eq_false c4
            clear c4
            obtain rfl := Option.some.inj H
            go_wp2
            go_ret
            exact ⟨by first | rfl | (simp [errW_none, errW_some] <;> rfl) | (simp [*, errW_none, errW_some] <;> rfl), by repeat (first | (with_reducible first | exact HB.out | apply below_alloc | apply pw_below_drewN | apply below_drew1) | exact HB.out)⟩
    · rw [if_neg c3] at H
      exact absurd H (by simp)

end Go.Proofs.Ytkjibgfgbfacdaa.P
end
/-! part: F131 -/
section
set_option linter.unusedVariables false
set_option linter.unusedSimpArgs false
namespace Go.Proofs.Ytkjibgfgbfacdaa.P
open Go.RowKit Go.Proofs.YtkjibgfgbfacdaaW.PrintWords Go.Proofs.YtkjibgfgbfacdaaW.PrintLast Go.Proofs.YtkjibgfgbfacdaaW.PrintMore
attribute [local go_sem] max2_int min2_int max_two min_two max_three min_three max_four min_four   -- for this text's walks alone
set_option linter.unusedVariables false
set_option linter.unusedSimpArgs false

/-! ### vec_Check: function 131 -/
def vec_Check.f (k : Nat) (l0 : List Int) : Option (Int) := if (l0.length : Int) < 1 then (some 1) else (if (l0.length : Int) > 64 then (some 1) else ((api_Vec_int16_167.f k l0).bind fun t103 => (if t103 < (-32767) then (some 1) else (some 0))))
theorem vec_Check.mono : ∀ a0 k, LeO (vec_Check.f k a0) (vec_Check.f (k + 1) a0) := by
  intro a0 k
  unfold vec_Check.f
  repeat' first
      | (with_reducible exact api_Vec_int16_167.mono _ _)
      | (with_reducible exact LeO.refl _)
      | (with_reducible exact LeO.none _)
      | (with_reducible refine LeO.ite ?_ ?_)
      | (with_reducible refine LeO.bind ?_ (fun _ => ?_))
      | exact api_Vec_int16_167.mono _ _
      | exact LeO.none _
      | refine LeO.ite ?_ ?_
      | refine LeO.bind ?_ (fun _ => ?_)
set_option maxHeartbeats 8000000 in
set_option maxRecDepth 100000 in
theorem vec_Check.calls (k : Nat) (A0 : Option Addr) (c0 : Nat) (l0 : List Int) (r : Int) (w : World) (hr0 : Kd.C (Kd.int .i16) w A0 l0.length l0) (hc0 : l0.length ≤ c0) (h : vec_Check.f k l0 = some r) :
    Calls Try.prog 131 #[.slice A0 l0.length c0] w fun e w' => e = .returned (.int .i64 r) ∧ Below w.heap.size w w' := by
  have HR0 := Aside0.mk hr0
  have HC0 := Aside0.mk hc0
  clear hr0 hc0
  have HB := Aside0.mk (Below.refl w.heap.size w)
  have H : (if (l0.length : Int) < 1 then (some 1) else (if (l0.length : Int) > 64 then (some 1) else ((api_Vec_int16_167.f k l0).bind fun t103 => (if t103 < (-32767) then (some 1) else (some 0))))) = some r := h
  clear h
  by_cases c2 : (l0.length : Int) < 1
  · rw [if_pos c2] at H
    have c2b0 : decide ((l0.length : Int) < 1) = true := decide_eq_true c2
    have c2b1 : decide (l0.length < 1) = true := decide_eq_true (by omega)
    clear c2
    obtain rfl := Option.some.inj H
    go_enter Try.func131, Try.ntmps131
    go_wp2
    go_ret
    exact ⟨by first | rfl | (simp [errW_none, errW_some] <;> rfl) | (simp [*, errW_none, errW_some] <;> rfl), by repeat (first | (with_reducible first | exact HB.out | apply below_alloc | apply pw_below_drewN | apply below_drew1) | exact HB.out)⟩
  · rw [if_neg c2] at H
    have c2b0 : decide ((l0.length : Int) < 1) = false := decide_eq_false c2
    have c2b1 : decide (l0.length < 1) = false := decide_eq_false (by omega)
    clear c2
    by_cases c3 : (l0.length : Int) > 64
    · rw [if_pos c3] at H
      have c3b0 : decide (64 < (l0.length : Int)) = true := decide_eq_true c3
      have c3b1 : decide (64 < l0.length) = true := decide_eq_true (by omega)
      clear c3
      obtain rfl := Option.some.inj H
      go_enter Try.func131, Try.ntmps131
      go_wp2
      go_ret
      exact ⟨by first | rfl | (simp [errW_none, errW_some] <;> rfl) | (simp [*, errW_none, errW_some] <;> rfl), by repeat (first | (with_reducible first | exact HB.out | apply below_alloc | apply pw_below_drewN | apply below_drew1) | exact HB.out)⟩
    · rw [if_neg c3] at H
      have c3b0 : decide (64 < (l0.length : Int)) = false := decide_eq_false c3
      have c3b1 : decide (64 < l0.length) = false := decide_eq_false (by omega)
      clear c3
      replace H := Option.bind_eq_some_iff.mp H
      obtain ⟨t103, A40, H⟩ := H
      replace H : (if t103 < (-32767) then (some 1) else (some 0)) = some r := H
      have A4 := Aside0.mk A40
      clear A40
      by_cases c5 : t103 < (-32767)
      · rw [if_pos c5] at H
        have c5b0 : decide (t103 < (-32767)) = true := decide_eq_true c5
        clear c5
        obtain rfl := Option.some.inj H
        go_enter Try.func131, Try.ntmps131
        go_wp2_with (first | (go_at_call 167; (with_reducible refine (api_Vec_int16_167.calls k _ _ l0 t103 _ ?side1 ?side2 A4.out).mono ?_); (case side1 => repeat (first | exact HR0.out | (with_reducible refine Kd.C_alloc ?_ _) | (with_reducible refine Kd.C_drewN ?_ _) | (with_reducible refine Kd.C_drew ?_))); (case side2 => exact HC0.out); rintro e w6 ⟨rfl, hb⟩; have n0_ := Aside0.mk (below_step (by repeat (first | (with_reducible first | exact HB.out | apply below_alloc | apply pw_below_drewN | apply below_drew1) | exact HB.out)) hb); clear HB; have HB := n0_; clear n0_; (try clear hb); (try clear hb2); (try clear hk); (try clear hi)))
        go_ret
        exact ⟨by first | rfl | (simp [errW_none, errW_some] <;> rfl) | (simp [*, errW_none, errW_some] <;> rfl), by repeat (first | (with_reducible first | exact HB.out | apply below_alloc | apply pw_below_drewN | apply below_drew1) | exact HB.out)⟩
      · rw [if_neg c5] at H
        have c5b0 : decide (t103 < (-32767)) = false := decide_eq_false c5
        clear c5
        obtain rfl := Option.some.inj H
        go_enter Try.func131, Try.ntmps131
        go_wp2_with (first | (go_at_call 167; (with_reducible refine (api_Vec_int16_167.calls k _ _ l0 t103 _ ?side1 ?side2 A4.out).mono ?_); (case side1 => repeat (first | exact HR0.out | (with_reducible refine Kd.C_alloc ?_ _) | (with_reducible refine Kd.C_drewN ?_ _) | (with_reducible refine Kd.C_drew ?_))); (case side2 => exact HC0.out); rintro e w7 ⟨rfl, hb⟩; have n0_ := Aside0.mk (below_step (by repeat (first | (with_reducible first | exact HB.out | apply below_alloc | apply pw_below_drewN | apply below_drew1) | exact HB.out)) hb); clear HB; have HB := n0_; clear n0_; (try clear hb); (try clear hb2); (try clear hk); (try clear hi)))
        go_ret
        exact ⟨by first | rfl | (simp [errW_none, errW_some] <;> rfl) | (simp [*, errW_none, errW_some] <;> rfl), by repeat (first | (with_reducible first | exact HB.out | apply below_alloc | apply pw_below_drewN | apply below_drew1) | exact HB.out)⟩

end Go.Proofs.Ytkjibgfgbfacdaa.P
end
/-! part: F93 -/
section
set_option linter.unusedVariables false
set_option linter.unusedSimpArgs false
namespace Go.Proofs.Ytkjibgfgbfacdaa.P
open Go.RowKit Go.Proofs.YtkjibgfgbfacdaaW.PrintWords Go.Proofs.YtkjibgfgbfacdaaW.PrintLast Go.Proofs.YtkjibgfgbfacdaaW.PrintMore
attribute [local go_sem] max2_int min2_int max_two min_two max_three min_three max_four min_four   -- for this text's walks alone
set_option linter.unusedVariables false
set_option linter.unusedSimpArgs false

/-! ### slots_fits: function 93 -/
def slots_fits.f (k : Nat) (a0_0 : Int) (l0_1 : List Int) (l0_2 : List (List Int)) (l1 : List Int) : Option (Bool) := (vec_Check.f k l1).bind fun t123 => (if t123 = 0 then (some ((l1.length : Int) == a0_0)) else (some false))
theorem slots_fits.mono : ∀ a0 a1 a2 a3 k, LeO (slots_fits.f k a0 a1 a2 a3) (slots_fits.f (k + 1) a0 a1 a2 a3) := by
  intro a0 a1 a2 a3 k
  unfold slots_fits.f
  repeat' first
      | (with_reducible exact vec_Check.mono _ _)
      | (with_reducible exact LeO.refl _)
      | (with_reducible exact LeO.none _)
      | (with_reducible refine LeO.ite ?_ ?_)
      | (with_reducible refine LeO.bind ?_ (fun _ => ?_))
      | exact vec_Check.mono _ _
      | exact LeO.none _
      | refine LeO.ite ?_ ?_
      | refine LeO.bind ?_ (fun _ => ?_)
set_option maxHeartbeats 8000000 in
set_option maxRecDepth 100000 in
theorem slots_fits.calls (k : Nat) (a0_0 : Int) (A0_1 : Option Addr) (c0_1 : Nat) (l0_1 : List Int) (A0_2 : Option Addr) (c0_2 : Nat) (l0_2 : List (List Int)) (A1 : Option Addr) (c1 : Nat) (l1 : List Int) (r : Bool) (w : World) (hr0_1 : Kd.C (Kd.int .i64) w A0_1 l0_1.length l0_1) (hc0_1 : l0_1.length ≤ c0_1) (hr0_2 : Kd.C (Kd.slice 74 (Kd.int .i16)) w A0_2 l0_2.length l0_2) (hc0_2 : l0_2.length ≤ c0_2) (hr1 : Kd.C (Kd.int .i16) w A1 l1.length l1) (hc1 : l1.length ≤ c1) (h : slots_fits.f k a0_0 l0_1 l0_2 l1 = some r) :
    Calls Try.prog 93 #[.agg #[.int .i64 a0_0, .slice A0_1 l0_1.length c0_1, .slice A0_2 l0_2.length c0_2], .slice A1 l1.length c1] w fun e w' => e = .returned (.bool r) ∧ Below w.heap.size w w' := by
  have hu25 := Try.underlying25
  have HR0_1 := Aside0.mk hr0_1
  have HC0_1 := Aside0.mk hc0_1
  clear hr0_1 hc0_1
  have HR0_2 := Aside0.mk hr0_2
  have HC0_2 := Aside0.mk hc0_2
  clear hr0_2 hc0_2
  have HR1 := Aside0.mk hr1
  have HC1 := Aside0.mk hc1
  clear hr1 hc1
  have HB := Aside0.mk (Below.refl w.heap.size w)
  have H : ((vec_Check.f k l1).bind fun t123 => (if t123 = 0 then (some ((l1.length : Int) == a0_0)) else (some false))) = some r := h
  clear h
  replace H := Option.bind_eq_some_iff.mp H
  obtain ⟨t123, A30, H⟩ := H
  replace H : (if t123 = 0 then (some ((l1.length : Int) == a0_0)) else (some false)) = some r := H
  have A3 := Aside0.mk A30
  clear A30
  by_cases c4 : t123 = 0
  · rw [if_pos c4] at H
    have c4b0 : (t123 == 0) = true := beq_iff_eq.mpr c4
    have c4b1 : (t123 != 0) = false := bne_eq_false_iff_eq.mpr c4
    clear c4
    obtain rfl := Option.some.inj H
    go_enter Try.func93, Try.ntmps93
    go_wp2_with (first | ((with_reducible refine gate_dst (N := 2) rfl ?_); (try (refine gate_guard (by rfl) ?_; dsimp only)); refine box_event ?hg (N := 2) ?hd (cs := #[.int .i64 a0_0, .slice A0_1 l0_1.length c0_1, .slice A0_2 l0_2.length c0_2]) (t := 25) ?hr ?_; (case hd => rfl); (case hg => rfl); (case hr => first | (go_simp; done) | (go_simp; rfl)); intro gb122 hg w5 hbox hb; have n0_ := Aside0.mk (below_step (by repeat (first | (with_reducible first | exact HB.out | apply below_alloc | apply pw_below_drewN | apply below_drew1) | exact HB.out)) hb); have n1_ := Aside0.mk (hbox); have n2_ := Aside0.mk ((by rw [hg]; exact (below_size (by repeat (first | (with_reducible first | exact HB.out | apply below_alloc | apply pw_below_drewN | apply below_drew1) | exact HB.out))) : w.heap.size ≤ gb122)); have n3_ := Aside0.mk ((by rw [hg]; exact (below_size (by repeat (first | (with_reducible first | exact HB.out | apply below_alloc | apply pw_below_drewN | apply below_drew1) | exact HB.out))) : w.heap.size ≤ gb122)); clear HB; have HB := n0_; have BK122 := n1_; have GW122 := n2_; have GE122 := n3_; clear n0_ n1_ n2_ n3_; clear hb hbox hg) | ((with_reducible refine gate_callee (f := 131) rfl ?_); refine goesL_ (some 6) rfl rfl Try.func131 (by kernel_rfl) rfl #[.slice A1 l1.length c1] rfl (by (try simp only [List.map_toArray, List.map_cons, List.map_nil]); first | done | rfl | (simp only [List.length_drop, List.length_take]; rfl)) ?_; (with_reducible refine (vec_Check.calls k _ _ l1 t123 _ ?side1 ?side2 A3.out).mono ?_); (case side1 => repeat (first | exact (Kd.C_below HR1.out HB.out) | (with_reducible refine Kd.C_alloc ?_ _) | (with_reducible refine Kd.C_drewN ?_ _) | (with_reducible refine Kd.C_drew ?_))); (case side2 => exact HC1.out); rintro e w6 ⟨rfl, hb⟩; refine ⟨_, rfl, ?_⟩; have n0_ := Aside0.mk (blk_below (g := gb122) (o := .cells #[.int .i64 a0_0, .slice A0_1 l0_1.length c0_1, .slice A0_2 l0_2.length c0_2] 25 (0, 0)) (by (with_reducible repeat (first | refine blk_drewN ?_ _ | refine blk_drew ?_ | refine blk_alloc ?_ _)); exact BK122.out) hb); have n1_ := Aside0.mk (below_step (by repeat (first | (with_reducible first | exact HB.out | apply below_alloc | apply pw_below_drewN | apply below_drew1 | refine below_set ?_ GE122.out) | exact HB.out)) hb); clear BK122; clear HB; have BK122 := n0_; have HB := n1_; clear n0_ n1_; (try clear hb); (try clear hb2); (try clear hk); (try clear hi); have hcz7_0 : w6.cell? ⟨gb122, 0, none⟩ = some (.int .i64 a0_0) := (blk_cell BK122.out 0).trans rfl; have hcz7_1 : w6.cell? ⟨gb122, 1, none⟩ = some (.slice A0_1 l0_1.length c0_1) := (blk_cell BK122.out 1).trans rfl; have hcz7_2 : w6.cell? ⟨gb122, 2, none⟩ = some (.slice A0_2 l0_2.length c0_2) := (blk_cell BK122.out 2).trans rfl; have hfz7_0 := blk_frozen BK122.out 0; have hfz7_1 := blk_frozen BK122.out 1; have hfz7_2 := blk_frozen BK122.out 2))
    go_ret
    exact ⟨by first | rfl | (simp [errW_none, errW_some] <;> rfl) | (simp [*, errW_none, errW_some] <;> rfl), by repeat (first | (with_reducible first | exact HB.out | apply below_alloc | apply pw_below_drewN | apply below_drew1 | refine below_set ?_ GE122.out) | exact HB.out)⟩
  · rw [if_neg c4] at H
    have c4b0 : (t123 == 0) = false := beq_eq_false_iff_ne.mpr c4
    have c4b1 : (t123 != 0) = true := bne_iff_ne.mpr c4
    obtain rfl := Option.some.inj H
    go_enter Try.func93, Try.ntmps93
    go_wp2_with (first | ((with_reducible refine gate_dst (N := 2) rfl ?_); (try (refine gate_guard (by rfl) ?_; dsimp only)); refine box_event ?hg (N := 2) ?hd (cs := #[.int .i64 a0_0, .slice A0_1 l0_1.length c0_1, .slice A0_2 l0_2.length c0_2]) (t := 25) ?hr ?_; (case hd => rfl); (case hg => rfl); (case hr => first | (go_simp; done) | (go_simp; rfl)); intro gb122 hg w8 hbox hb; have n0_ := Aside0.mk (below_step (by repeat (first | (with_reducible first | exact HB.out | apply below_alloc | apply pw_below_drewN | apply below_drew1) | exact HB.out)) hb); have n1_ := Aside0.mk (hbox); have n2_ := Aside0.mk ((by rw [hg]; exact (below_size (by repeat (first | (with_reducible first | exact HB.out | apply below_alloc | apply pw_below_drewN | apply below_drew1) | exact HB.out))) : w.heap.size ≤ gb122)); have n3_ := Aside0.mk ((by rw [hg]; exact (below_size (by repeat (first | (with_reducible first | exact HB.out | apply below_alloc | apply pw_below_drewN | apply below_drew1) | exact HB.out))) : w.heap.size ≤ gb122)); clear HB; have HB := n0_; have BK122 := n1_; have GW122 := n2_; have GE122 := n3_; clear n0_ n1_ n2_ n3_; clear hb hbox hg) | ((with_reducible refine gate_callee (f := 131) rfl ?_); refine goesL_ (some 6) rfl rfl Try.func131 (by kernel_rfl) rfl #[.slice A1 l1.length c1] rfl (by (try simp only [List.map_toArray, List.map_cons, List.map_nil]); first | done | rfl | (simp only [List.length_drop, List.length_take]; rfl)) ?_; (with_reducible refine (vec_Check.calls k _ _ l1 t123 _ ?side1 ?side2 A3.out).mono ?_); (case side1 => repeat (first | exact (Kd.C_below HR1.out HB.out) | (with_reducible refine Kd.C_alloc ?_ _) | (with_reducible refine Kd.C_drewN ?_ _) | (with_reducible refine Kd.C_drew ?_))); (case side2 => exact HC1.out); rintro e w9 ⟨rfl, hb⟩; refine ⟨_, rfl, ?_⟩; have n0_ := Aside0.mk (blk_below (g := gb122) (o := .cells #[.int .i64 a0_0, .slice A0_1 l0_1.length c0_1, .slice A0_2 l0_2.length c0_2] 25 (0, 0)) (by (with_reducible repeat (first | refine blk_drewN ?_ _ | refine blk_drew ?_ | refine blk_alloc ?_ _)); exact BK122.out) hb); have n1_ := Aside0.mk (below_step (by repeat (first | (with_reducible first | exact HB.out | apply below_alloc | apply pw_below_drewN | apply below_drew1 | refine below_set ?_ GE122.out) | exact HB.out)) hb); clear BK122; clear HB; have BK122 := n0_; have HB := n1_; clear n0_ n1_; (try clear hb); (try clear hb2); (try clear hk); (try clear hi)))
    go_ret
    exact ⟨by first | rfl | (simp [errW_none, errW_some] <;> rfl) | (simp [*, errW_none, errW_some] <;> rfl), by repeat (first | (with_reducible first | exact HB.out | apply below_alloc | apply pw_below_drewN | apply below_drew1 | refine below_set ?_ GE122.out) | exact HB.out)⟩

end Go.Proofs.Ytkjibgfgbfacdaa.P
end
/-! part: F94 -/
section
set_option linter.unusedVariables false
set_option linter.unusedSimpArgs false
namespace Go.Proofs.Ytkjibgfgbfacdaa.P
open Go.RowKit Go.Proofs.YtkjibgfgbfacdaaW.PrintWords Go.Proofs.YtkjibgfgbfacdaaW.PrintLast Go.Proofs.YtkjibgfgbfacdaaW.PrintMore
attribute [local go_sem] max2_int min2_int max_two min_two max_three min_three max_four min_four   -- for this text's walks alone
set_option linter.unusedVariables false
set_option linter.unusedSimpArgs false

/-! ### slices_Index_int64_int64: function 94 -/
def slices_Index_int64_int64.l0 : Nat → List Int → Int → Int → Int → Option (Int)
  | 0, _, _, _, _ => none
  | k + 1, x0, x1, x7, x8 => if x8 < x7 then (if 0 ≤ x8 then (if x8 < (x0.length : Int) then (if x1 = (rd x0 x8) then (some x8) else (slices_Index_int64_int64.l0 k x0 x1 x7 (wrap64 (x8 + 1)))) else (none)) else (none)) else (some (-1))
def slices_Index_int64_int64.f (k : Nat) (l0 : List Int) (a1 : Int) : Option (Int) := slices_Index_int64_int64.l0 k l0 a1 (l0.length : Int) 0
theorem slices_Index_int64_int64.mono_l : ∀ k, (∀ y0 y1 y2 y3, LeO (slices_Index_int64_int64.l0 k y0 y1 y2 y3) (slices_Index_int64_int64.l0 (k + 1) y0 y1 y2 y3))
  | 0 => fun _ _ _ _ r h => by simp [slices_Index_int64_int64.l0] at h
  | k + 1 => by
    have ih0 := slices_Index_int64_int64.mono_l k
    · intro y0 y1 y2 y3
      unfold slices_Index_int64_int64.l0
      repeat' first
      | (with_reducible exact ih0 _ _ _ _)
      | (with_reducible exact LeO.refl _)
      | (with_reducible exact LeO.none _)
      | (with_reducible refine LeO.ite ?_ ?_)
      | (with_reducible refine LeO.bind ?_ (fun _ => ?_))
      | exact ih0 _ _ _ _
      | exact LeO.none _
      | refine LeO.ite ?_ ?_
      | refine LeO.bind ?_ (fun _ => ?_)
theorem slices_Index_int64_int64.mono : ∀ a0 a1 k, LeO (slices_Index_int64_int64.f k a0 a1) (slices_Index_int64_int64.f (k + 1) a0 a1) := by
  intro a0 a1 k
  have ih0 := slices_Index_int64_int64.mono_l k
  unfold slices_Index_int64_int64.f
  repeat' first
      | (with_reducible exact ih0 _ _ _ _)
      | (with_reducible exact LeO.refl _)
      | (with_reducible exact LeO.none _)
      | (with_reducible refine LeO.ite ?_ ?_)
      | (with_reducible refine LeO.bind ?_ (fun _ => ?_))
      | exact ih0 _ _ _ _
      | exact LeO.none _
      | refine LeO.ite ?_ ?_
      | refine LeO.bind ?_ (fun _ => ?_)
set_option maxHeartbeats 8000000 in
set_option maxRecDepth 100000 in
theorem slices_Index_int64_int64.calls (k : Nat) (A0 : Option Addr) (c0 : Nat) (l0 : List Int) (a1 : Int) (r : Int) (w : World) (hr0 : Kd.C (Kd.int .i64) w A0 l0.length l0) (hc0 : l0.length ≤ c0) (h : slices_Index_int64_int64.f k l0 a1 = some r) :
    Calls Try.prog 94 #[.slice A0 l0.length c0, .int .i64 a1] w fun e w' => e = .returned (.int .i64 r) ∧ Drawn0 w w' := by
  have HR0 := Aside0.mk hr0
  have HC0 := Aside0.mk hc0
  clear hr0 hc0
  have H : (slices_Index_int64_int64.l0 k l0 a1 (l0.length : Int) 0) = some r := h
  clear h
  have H' := Aside0.mk H
  clear H
  go_enter Try.func94, Try.ntmps94
  go_wp2
  go_loopg [8] k (fun kq v8 w' => ∃ (x8_1 : Int), v8 = .int .i64 x8_1 ∧ Aside0 (slices_Index_int64_int64.l0 kq l0 a1 (l0.length : Int) x8_1 = some r) ∧ Aside0 (kq ≤ k) ∧ Drawn0 w w')
  case atStart => exact ⟨(0), (by first | rfl | (simp; done) | (simp [*]; done)), H', ⟨Nat.le_refl _⟩, by repeat (first | exact Drawn0.refl _ | apply Drawn0.step)⟩
  case round =>
    clear H'
    try clear p2
    obtain ⟨x8_1, rfl, HA, HK1, ⟨m1, rfl⟩⟩ := hrel
    cases gk with
    | zero => exact absurd HA.out (by simp [slices_Index_int64_int64.l0])
    | succ k1 =>
      have H := HA.out
      clear HA
      simp only [slices_Index_int64_int64.l0] at H
      by_cases c3 : x8_1 < (l0.length : Int)
      · rw [if_pos c3] at H
        have c3b0 : decide (x8_1 < (l0.length : Int)) = true := decide_eq_true c3
        clear c3
        by_cases c4 : 0 ≤ x8_1
        · rw [if_pos c4] at H
          have c4b0 : decide (0 ≤ x8_1) = true := decide_eq_true c4
          clear c4
          by_cases c5 : x8_1 < (l0.length : Int)
          · rw [if_pos c5] at H
            have c5b0 : decide (x8_1 < (l0.length : Int)) = true := decide_eq_true c5
            clear c5
            by_cases c6 : a1 = (rd l0 x8_1)
            · rw [if_pos c6] at H
              have c6b0 : (a1 == (rd l0 x8_1)) = true := beq_iff_eq.mpr c6
              have c6b1 : (a1 != (rd l0 x8_1)) = false := bne_eq_false_iff_eq.mpr c6
              clear c6
              obtain rfl := Option.some.inj H
              have p124 : 0 ≤ (x8_1 : Int) := of_decide_eq_true (by first | (with_reducible assumption) | assumption)
              have q124 : x8_1 < (l0.length : Int) := of_decide_eq_true (by first | (with_reducible assumption) | assumption)
              obtain ⟨ad124, e124, hx124_0⟩ := Kd.at_int HR0.out x8_1 p124 q124
              cases e124
              replace p124 := eq_true p124
              replace q124 := eq_true q124
              go_wp2
              go_ret
              exact ⟨by first | rfl | (simp; done) | (simp [*]; done), by repeat (first | exact Drawn0.refl _ | apply Drawn0.step)⟩
            · rw [if_neg c6] at H
              have c6b0 : (a1 == (rd l0 x8_1)) = false := beq_eq_false_iff_ne.mpr c6
              have c6b1 : (a1 != (rd l0 x8_1)) = true := bne_iff_ne.mpr c6
              have H' := Aside0.mk H
              clear H
              have p124 : 0 ≤ (x8_1 : Int) := of_decide_eq_true (by first | (with_reducible assumption) | assumption)
              have q124 : x8_1 < (l0.length : Int) := of_decide_eq_true (by first | (with_reducible assumption) | assumption)
              obtain ⟨ad124, e124, hx124_0⟩ := Kd.at_int HR0.out x8_1 p124 q124
              cases e124
              replace p124 := eq_true p124
              replace q124 := eq_true q124
              go_wp2
              go_roundg k1
              case measure => have := HK1.out; omega
              case rel => exact ⟨(wrap64 (x8_1 + 1)), (by first | rfl | (simp; done) | (simp [*]; done)), H', ⟨by have := HK1.out; omega⟩, by repeat (first | exact Drawn0.refl _ | apply Drawn0.step)⟩
          · rw [if_neg c5] at H
            exact absurd H (by simp)
        · rw [if_neg c4] at H
          exact absurd H (by simp)
      · rw [if_neg c3] at H
        have c3b0 : decide (x8_1 < (l0.length : Int)) = false := decide_eq_false c3
        clear c3
        obtain rfl := Option.some.inj H
        go_wp2
        go_ret
        exact ⟨by first | rfl | (simp; done) | (simp [*]; done), by repeat (first | exact Drawn0.refl _ | apply Drawn0.step)⟩

end Go.Proofs.Ytkjibgfgbfacdaa.P
end
/-! part: F143 -/
section
set_option linter.unusedVariables false
set_option linter.unusedSimpArgs false
namespace Go.Proofs.Ytkjibgfgbfacdaa.P
open Go.RowKit Go.Proofs.YtkjibgfgbfacdaaW.PrintWords Go.Proofs.YtkjibgfgbfacdaaW.PrintLast Go.Proofs.YtkjibgfgbfacdaaW.PrintMore
attribute [local go_sem] max2_int min2_int max_two min_two max_three min_three max_four min_four   -- for this text's walks alone
set_option linter.unusedVariables false
set_option linter.unusedSimpArgs false

/-! ### slices_Clone_int64_int64: function 143 -/
def slices_Clone_int64_int64.f (l0 : List Int) : Option (List Int) := (some (([] : List Int) : List Int)).bind fun y131 => (if y131.length + l0.length < 17592186044416 then (some (y131 ++ l0)) else (none))
set_option maxHeartbeats 8000000 in
set_option maxRecDepth 100000 in
theorem slices_Clone_int64_int64.calls_some (A0 : Option Addr) (c0 : Nat) (l0 : List Int) (r : List Int) (w : World) (hr0 : Kd.C (Kd.int .i64) w A0 l0.length l0) (hc0 : l0.length ≤ c0) (hA_ : A0.isNone = false) (h : slices_Clone_int64_int64.f l0 = some r) :
    Calls Try.prog 143 #[.slice A0 l0.length c0] w fun e w' => ∃ v0_ : Value, e = .returned (v0_) ∧ Kd.R (Kd.int .i64) 2 w' w.heap.size (fun _ => True) v0_ r ∧ Below w.heap.size w w' := by
  have hq_ := fun w => Lib.run_eql_slice_nil (P := Try.prog) w 22 2 A0 l0.length c0 0 0 Try.underlying22
  rw [hA_] at hq_
  have HR0 := Aside0.mk hr0
  have HC0 := Aside0.mk hc0
  clear hr0 hc0
  have HB := Aside0.mk (Below.refl w.heap.size w)
  have H : ((some (([] : List Int) : List Int)).bind fun y131 => (if y131.length + l0.length < 17592186044416 then (some (y131 ++ l0)) else (none))) = some r := h
  clear h
  obtain ⟨y131, hy131⟩ : ∃ y_ : List Int, y_ = (([] : List Int)) := ⟨_, rfl⟩
  replace H : (if y131.length + l0.length < 17592186044416 then (some (y131 ++ l0)) else (none)) = some r := by first | (rw [hy131]; with_reducible exact H) | (have H2_ := (Option.bind_some _ _).symm.trans H; rw [hy131]; with_reducible exact H2_) | (have H2_ := (Option.bind_some _ _).symm.trans H; with_reducible exact H2_) | with_reducible exact H | (rw [hy131]; exact H) | exact H
  have Ny131 := Aside0.mk hy131
  clear hy131
  by_cases c2 : y131.length + l0.length < 17592186044416
  · rw [if_pos c2] at H
    have LMc2 := Aside0.mk c2
    clear c2
    obtain ⟨y134, hy134⟩ : ∃ y_ : List Int, y_ = (y131 ++ l0) := ⟨_, rfl⟩
    replace H : (some y134) = some r := by first | (rw [hy134]; with_reducible exact H) | (have H2_ := (Option.bind_some _ _).symm.trans H; rw [hy134]; with_reducible exact H2_) | (have H2_ := (Option.bind_some _ _).symm.trans H; with_reducible exact H2_) | with_reducible exact H | (rw [hy134]; exact H) | exact H
    have Ny134 := Aside0.mk hy134
    clear hy134
    obtain rfl := Option.some.inj H
    go_enter Try.func143, Try.ntmps143
    go_wp2_with (first | ((with_reducible refine gate_dst (N := 5) rfl ?_); refine Kd.R_lit (Kd.int .i64) _ 2 ?hg (N := 5) ?hd (xs := ([] : List Int)) (inner := []) (ok := fun _ => True) (okp := fun _ => True) ?hr ?hp (fun _ hk => hk) trivial (Below.refl _ _) (Nat.le_refl _) (by simp) ?_; (case hd => rfl); (case hg => rfl); (case hr => first | (go_simp; done) | (go_simp; rfl)); (case hp => exact (Reps.none _ _)); intro v132 w3 ho4 hb hg_ hnew_; clear hg_ hnew_; (first | rw [← Ny131.out] at ho4 | (simp only [Int.reduceToNat] at ho4; rw [← Ny131.out] at ho4)); have n0_ := Aside0.mk (Kd.R_lower ho4 (below_size (by repeat (first | (with_reducible first | exact HB.out | apply below_alloc | apply pw_below_drewN | apply below_drew1) | exact HB.out)))); have n1_ := Aside0.mk (below_step (by repeat (first | (with_reducible first | exact HB.out | apply below_alloc | apply pw_below_drewN | apply below_drew1) | exact HB.out)) hb); clear HB; have HO133 := n0_; have HB := n1_; clear n0_ n1_; clear hb ho4) | ((with_reducible refine gate_builtin (b := .append) (xs := #[.tmp 5, .tmp 6]) rfl ?_); at_builtin; refine Kd.R_append_rows (Kd.int .i64) (w0 := w) w.heap.size rfl (.tmp 5) (.tmp 6) 22 2 (.int .i64 0) 8 rfl Try.underlying22 info2 rfl (by decide) (by omega) v132 y131 l0 _ _ _ (fun _ => True) (fun _ => False) rfl rfl ?aO ?aR (fun _ _ h => h) (fun _ h => h.elim) ?aF ?aB ?aS ?aL ?_; (case aR => repeat (first | exact (Kd.C_below HR0.out HB.out) | (with_reducible refine Kd.C_alloc ?_ _) | (with_reducible refine Kd.C_drewN ?_ _) | (with_reducible refine Kd.C_drew ?_))); (case aB => exact (by repeat (first | (with_reducible first | exact HB.out | apply below_alloc | apply pw_below_drewN | apply below_drew1) | exact HB.out))); (case aF => exact (fun _ _ => trivial)); (case aO => exact (by (with_reducible repeat (first | apply Kd.R_alloc | apply Kd.R_drewN | apply Kd.R_drew)); exact HO133.out)); (case aS => exact (below_size (by repeat (first | (with_reducible first | exact HB.out | apply below_alloc | apply pw_below_drewN | apply below_drew1) | exact HB.out)))); (case aL => have := LMc2.out; omega); intro v135 w5 ho hb hg hat; rw [← Ny134.out] at ho; have n0_ := Aside0.mk (hb); have n1_ := Aside0.mk (ho); clear HB; clear HO133; have HB := n0_; have HO136 := n1_; clear n0_ n1_; clear ho hb hg hat))
    go_ret
    exact ⟨_, by first | rfl | (simp [errW_none, errW_some] <;> rfl) | (simp [*, errW_none, errW_some] <;> rfl), by (with_reducible repeat (first | apply Kd.R_alloc | apply Kd.R_drewN | apply Kd.R_drew)); exact HO136.out, by repeat (first | (with_reducible first | exact HB.out | apply below_alloc | apply pw_below_drewN | apply below_drew1) | exact HB.out)⟩
  · rw [if_neg c2] at H
    exact absurd H (by simp)
set_option maxHeartbeats 1000000 in
theorem slices_Clone_int64_int64.calls (A0 : Option Addr) (c0 : Nat) (l0 : List Int) (r : List Int) (w : World) (hr0 : Kd.C (Kd.int .i64) w A0 l0.length l0) (hc0 : l0.length ≤ c0) (h : slices_Clone_int64_int64.f l0 = some r) :
    Calls Try.prog 143 #[.slice A0 l0.length c0] w fun e w' => ∃ v0_ : Value, e = .returned (v0_) ∧ Kd.R (Kd.int .i64) 2 w' w.heap.size (fun _ => True) v0_ r ∧ Below w.heap.size w w' := by
  cases A0 with
  | some a_ => exact slices_Clone_int64_int64.calls_some (some a_) c0 l0 r w hr0 hc0 rfl h
  | none =>
    have hl : l0 = [] := Kd.C_zero hr0
    have hr_ : r = [] := by subst hl; simp [slices_Clone_int64_int64.f] at h; first | exact h | exact h.symm
    subst hr_
    clear h
    clear hr0
    clear hc0
    subst hl
    have hq_ := fun w => Lib.run_eql_slice_nil (P := Try.prog) w 22 2 none ([] : List Int).length c0 0 0 Try.underlying22
    simp only [Option.isNone_none, List.length_nil] at hq_
    simp only [List.length_nil]
    go_enter Try.func143, Try.ntmps143
    go_wp2
    go_ret
    exact ⟨_, rfl, Kd.R_nil _ _ _ _ _, Below.refl _ _⟩

end Go.Proofs.Ytkjibgfgbfacdaa.P
end
/-! part: F144 -/
section
set_option linter.unusedVariables false
set_option linter.unusedSimpArgs false
namespace Go.Proofs.Ytkjibgfgbfacdaa.P
open Go.RowKit Go.Proofs.YtkjibgfgbfacdaaW.PrintWords Go.Proofs.YtkjibgfgbfacdaaW.PrintLast Go.Proofs.YtkjibgfgbfacdaaW.PrintMore
attribute [local go_sem] max2_int min2_int max_two min_two max_three min_three max_four min_four   -- for this text's walks alone
set_option linter.unusedVariables false
set_option linter.unusedSimpArgs false

/-! ### api_Vec_144: function 144 -/
def api_Vec_144.f (l0 : List (List Int)) : Option ((List (List Int))) := (some (([] : List (List Int)) : List (List Int))).bind fun y137 => (if y137.length + l0.length < 5864062014805 then (some (y137 ++ l0)) else (none))
set_option maxHeartbeats 8000000 in
set_option maxRecDepth 100000 in
theorem api_Vec_144.calls_some (P0_ : Nat → Prop) (A0 : Option Addr) (c0 : Nat) (l0 : List (List Int)) (r : List (List Int)) (w : World) (hs0 : Kd.V (Kd.slice 74 (Kd.int .i16)) 27 w w.heap.size (fun k_ => P0_ k_) (.slice A0 l0.length c0) l0) (hA_ : A0.isNone = false) (h : api_Vec_144.f l0 = some r) :
    Calls Try.prog 144 #[.slice A0 l0.length c0] w fun e w' => ∃ v0_ : Value, e = .returned (v0_) ∧ Kd.N (Kd.slice 74 (Kd.int .i16)) 27 w' w.heap.size (fun k_ => (P0_ k_ ∨ w.heap.size ≤ k_)) v0_ r ∧ Below w.heap.size w w' := by
  have hq_ := fun w => Lib.run_eql_slice_nil (P := Try.prog) w 23 27 A0 l0.length c0 0 0 Try.underlying23
  rw [hA_] at hq_
  have HO0 := Aside0.mk (show Kd.V (Kd.slice 74 (Kd.int .i16)) 27 w w.heap.size (fun k_ => (P0_ k_ ∨ w.heap.size ≤ k_)) (.slice A0 l0.length c0) l0 from Kd.V_mono hs0 (fun k_ hk => .inl hk))
  have HB := Aside0.mk (Below.refl w.heap.size w)
  have H : ((some (([] : List (List Int)) : List (List Int))).bind fun y137 => (if y137.length + l0.length < 5864062014805 then (some (y137 ++ l0)) else (none))) = some r := h
  clear h
  obtain ⟨y137, hy137⟩ : ∃ y_ : List (List Int), y_ = (([] : List (List Int))) := ⟨_, rfl⟩
  replace H : (if y137.length + l0.length < 5864062014805 then (some (y137 ++ l0)) else (none)) = some r := by first | (rw [hy137]; with_reducible exact H) | (have H2_ := (Option.bind_some _ _).symm.trans H; rw [hy137]; with_reducible exact H2_) | (have H2_ := (Option.bind_some _ _).symm.trans H; with_reducible exact H2_) | with_reducible exact H | (rw [hy137]; exact H) | exact H
  have Ny137 := Aside0.mk hy137
  clear hy137
  by_cases c2 : y137.length + l0.length < 5864062014805
  · rw [if_pos c2] at H
    have LMc2 := Aside0.mk c2
    clear c2
    obtain ⟨y140, hy140⟩ : ∃ y_ : List (List Int), y_ = (y137 ++ l0) := ⟨_, rfl⟩
    replace H : (some y140) = some r := by first | (rw [hy140]; with_reducible exact H) | (have H2_ := (Option.bind_some _ _).symm.trans H; rw [hy140]; with_reducible exact H2_) | (have H2_ := (Option.bind_some _ _).symm.trans H; with_reducible exact H2_) | with_reducible exact H | (rw [hy140]; exact H) | exact H
    have Ny140 := Aside0.mk hy140
    clear hy140
    obtain rfl := Option.some.inj H
    go_enter Try.func144, Try.ntmps144
    go_wp2_with (first | ((with_reducible refine gate_dst (N := 5) rfl ?_); refine Kd.N_lit (Kd.slice 74 (Kd.int .i16)) _ 27 ?hg (N' := 5) ?hd (xs := ([] : List (List Int))) (inner := []) (ok := (fun k_ => (P0_ k_ ∨ w.heap.size ≤ k_))) (okp := (fun k_ => (P0_ k_ ∨ w.heap.size ≤ k_))) ?hr ?hp (fun _ hk => hk) ((show ∀ k_, w.heap.size ≤ k_ → (fun k_ => (P0_ k_ ∨ w.heap.size ≤ k_)) k_ from fun k_ hk => (.inr (Nat.le_trans (below_size (by repeat (first | (with_reducible first | exact HB.out | apply below_alloc | apply pw_below_drewN | apply below_drew1) | exact HB.out))) hk))) _ (Nat.le_refl _)) (Below.refl _ _) (Nat.le_refl _) (by simp) ?_; (case hd => rfl); (case hg => rfl); (case hr => first | (go_simp; done) | (go_simp; rfl)); (case hp => exact (Reps.none _ _)); intro v138 w3 ho4 hb hg_ hnew_; clear hg_ hnew_; (first | rw [← Ny137.out] at ho4 | (simp only [Int.reduceToNat] at ho4; rw [← Ny137.out] at ho4)); have n0_ := Aside0.mk (Kd.V_elder' (by (with_reducible repeat (first | apply Kd.V_alloc | apply Kd.V_drewN | apply Kd.V_drew)); exact HO0.out) (Kd.N_base ho4) hb); have n1_ := Aside0.mk (Kd.N_lower ho4 (below_size (by repeat (first | (with_reducible first | exact HB.out | apply below_alloc | apply pw_below_drewN | apply below_drew1) | exact HB.out)))); have n2_ := Aside0.mk (below_step (by repeat (first | (with_reducible first | exact HB.out | apply below_alloc | apply pw_below_drewN | apply below_drew1) | exact HB.out)) hb); clear HO0; clear HB; have HO0 := n0_; have HO139 := n1_; have HB := n2_; clear n0_ n1_ n2_; clear hb ho4) | ((with_reducible refine gate_builtin (b := .append) (xs := #[.tmp 5, .tmp 6]) rfl ?_); at_builtin; refine Kd.N_append_rows (Kd.slice 74 (Kd.int .i16)) (w0 := w) w.heap.size rfl (.tmp 5) (.tmp 6) 23 27 (.slice none 0 0) 24 rfl Try.underlying23 info27 rfl (by decide) (by omega) v138 y137 l0 _ _ _ (fun k_ => (P0_ k_ ∨ w.heap.size ≤ k_)) (fun k_ => ((fun k_ => (P0_ k_ ∨ w.heap.size ≤ k_))) k_ ∧ some k_ ≠ (v138 : Value).ownBlock) rfl rfl ?aO ?aR (fun _ hk => hk) ?aF ?aB ?aS ?aL ?_; (case aR => exact (by skip; exact Kd.V_F (Kd.V_mono (ok' := (fun k_ => ((fun k_ => (P0_ k_ ∨ w.heap.size ≤ k_))) k_ ∧ some k_ ≠ (v138 : Value).ownBlock)) (HO0.out) (fun k_ hk => ⟨hk.1, hk.2⟩)))); (case aB => exact (by repeat (first | (with_reducible first | exact HB.out | apply below_alloc | apply pw_below_drewN | apply below_drew1) | exact HB.out))); (case aF => exact (fun k_ hk => (.inr (Nat.le_trans (below_size (by repeat (first | (with_reducible first | exact HB.out | apply below_alloc | apply pw_below_drewN | apply below_drew1) | exact HB.out))) hk)))); (case aO => exact (by (with_reducible repeat (first | apply Kd.N_alloc | apply Kd.N_drewN | apply Kd.N_drew)); exact HO139.out)); (case aS => exact (below_size (by repeat (first | (with_reducible first | exact HB.out | apply below_alloc | apply pw_below_drewN | apply below_drew1) | exact HB.out)))); (case aL => have := LMc2.out; omega); intro v141 w5 ho hb hg hat; rw [← Ny140.out] at ho; have n0_ := Aside0.mk (Kd.V_afterv (ok := (fun k_ => (P0_ k_ ∨ w.heap.size ≤ k_))) (by (with_reducible repeat (first | apply Kd.V_alloc | apply Kd.V_drewN | apply Kd.V_drew)); exact HO0.out) hg hat); have n1_ := Aside0.mk (hb); have n2_ := Aside0.mk (ho); clear HO0; clear HB; clear HO139; have HO0 := n0_; have HB := n1_; have HO142 := n2_; clear n0_ n1_ n2_; clear ho hb hg hat))
    go_ret
    exact ⟨_, by first | rfl | (simp [errW_none, errW_some] <;> rfl) | (simp [*, errW_none, errW_some] <;> rfl), by (with_reducible repeat (first | apply Kd.N_alloc | apply Kd.N_drewN | apply Kd.N_drew)); exact HO142.out, by repeat (first | (with_reducible first | exact HB.out | apply below_alloc | apply pw_below_drewN | apply below_drew1) | exact HB.out)⟩
  · rw [if_neg c2] at H
    exact absurd H (by simp)
set_option maxHeartbeats 1000000 in
theorem api_Vec_144.calls (P0_ : Nat → Prop) (A0 : Option Addr) (c0 : Nat) (l0 : List (List Int)) (r : List (List Int)) (w : World) (hs0 : Kd.V (Kd.slice 74 (Kd.int .i16)) 27 w w.heap.size (fun k_ => P0_ k_) (.slice A0 l0.length c0) l0) (h : api_Vec_144.f l0 = some r) :
    Calls Try.prog 144 #[.slice A0 l0.length c0] w fun e w' => ∃ v0_ : Value, e = .returned (v0_) ∧ Kd.N (Kd.slice 74 (Kd.int .i16)) 27 w' w.heap.size (fun k_ => (P0_ k_ ∨ w.heap.size ≤ k_)) v0_ r ∧ Below w.heap.size w w' := by
  cases A0 with
  | some a_ => exact api_Vec_144.calls_some P0_ (some a_) c0 l0 r w hs0 rfl h
  | none =>
    have hl : l0 = [] := Kd.V_zero hs0
    have hr_ : r = [] := by subst hl; simp [api_Vec_144.f] at h; first | exact h | exact h.symm
    subst hr_
    clear h
    clear hs0
    subst hl
    have hq_ := fun w => Lib.run_eql_slice_nil (P := Try.prog) w 23 27 none ([] : List Int).length c0 0 0 Try.underlying23
    simp only [Option.isNone_none, List.length_nil] at hq_
    simp only [List.length_nil]
    go_enter Try.func144, Try.ntmps144
    go_wp2
    go_ret
    exact ⟨_, rfl, Kd.N_nil _ _ _ _ _, Below.refl _ _⟩

end Go.Proofs.Ytkjibgfgbfacdaa.P
end
/-! part: F98 -/
section
set_option linter.unusedVariables false
set_option linter.unusedSimpArgs false
namespace Go.Proofs.Ytkjibgfgbfacdaa.P
open Go.RowKit Go.Proofs.YtkjibgfgbfacdaaW.PrintWords Go.Proofs.YtkjibgfgbfacdaaW.PrintLast Go.Proofs.YtkjibgfgbfacdaaW.PrintMore
attribute [local go_sem] max2_int min2_int max_two min_two max_three min_three max_four min_four   -- for this text's walks alone
set_option linter.unusedVariables false
set_option linter.unusedSimpArgs false

/-! ### api_Vec_int16_98: function 98 -/
def api_Vec_int16_98.f (l0 : List Int) : Option (List Int) := (some (([] : List Int) : List Int)).bind fun y125 => (if y125.length + l0.length < 70368744177664 then (some (y125 ++ l0)) else (none))
set_option maxHeartbeats 8000000 in
set_option maxRecDepth 100000 in
theorem api_Vec_int16_98.calls_some (A0 : Option Addr) (c0 : Nat) (l0 : List Int) (r : List Int) (w : World) (hr0 : Kd.C (Kd.int .i16) w A0 l0.length l0) (hc0 : l0.length ≤ c0) (hA_ : A0.isNone = false) (h : api_Vec_int16_98.f l0 = some r) :
    Calls Try.prog 98 #[.slice A0 l0.length c0] w fun e w' => ∃ v0_ : Value, e = .returned (v0_) ∧ Kd.R (Kd.int .i16) 74 w' w.heap.size (fun _ => True) v0_ r ∧ Below w.heap.size w w' := by
  have hq_ := fun w => Lib.run_eql_slice_nil (P := Try.prog) w 27 74 A0 l0.length c0 0 0 Try.underlying27
  rw [hA_] at hq_
  have HR0 := Aside0.mk hr0
  have HC0 := Aside0.mk hc0
  clear hr0 hc0
  have HB := Aside0.mk (Below.refl w.heap.size w)
  have H : ((some (([] : List Int) : List Int)).bind fun y125 => (if y125.length + l0.length < 70368744177664 then (some (y125 ++ l0)) else (none))) = some r := h
  clear h
  obtain ⟨y125, hy125⟩ : ∃ y_ : List Int, y_ = (([] : List Int)) := ⟨_, rfl⟩
  replace H : (if y125.length + l0.length < 70368744177664 then (some (y125 ++ l0)) else (none)) = some r := by first | (rw [hy125]; with_reducible exact H) | (have H2_ := (Option.bind_some _ _).symm.trans H; rw [hy125]; with_reducible exact H2_) | (have H2_ := (Option.bind_some _ _).symm.trans H; with_reducible exact H2_) | with_reducible exact H | (rw [hy125]; exact H) | exact H
  have Ny125 := Aside0.mk hy125
  clear hy125
  by_cases c2 : y125.length + l0.length < 70368744177664
  · rw [if_pos c2] at H
    have LMc2 := Aside0.mk c2
    clear c2
    obtain ⟨y128, hy128⟩ : ∃ y_ : List Int, y_ = (y125 ++ l0) := ⟨_, rfl⟩
    replace H : (some y128) = some r := by first | (rw [hy128]; with_reducible exact H) | (have H2_ := (Option.bind_some _ _).symm.trans H; rw [hy128]; with_reducible exact H2_) | (have H2_ := (Option.bind_some _ _).symm.trans H; with_reducible exact H2_) | with_reducible exact H | (rw [hy128]; exact H) | exact H
    have Ny128 := Aside0.mk hy128
    clear hy128
    obtain rfl := Option.some.inj H
    go_enter Try.func98, Try.ntmps98
    go_wp2_with (first | ((with_reducible refine gate_dst (N := 5) rfl ?_); refine Kd.R_lit (Kd.int .i16) _ 74 ?hg (N := 5) ?hd (xs := ([] : List Int)) (inner := []) (ok := fun _ => True) (okp := fun _ => True) ?hr ?hp (fun _ hk => hk) trivial (Below.refl _ _) (Nat.le_refl _) (by simp) ?_; (case hd => rfl); (case hg => rfl); (case hr => first | (go_simp; done) | (go_simp; rfl)); (case hp => exact (Reps.none _ _)); intro v126 w3 ho4 hb hg_ hnew_; clear hg_ hnew_; (first | rw [← Ny125.out] at ho4 | (simp only [Int.reduceToNat] at ho4; rw [← Ny125.out] at ho4)); have n0_ := Aside0.mk (Kd.R_lower ho4 (below_size (by repeat (first | (with_reducible first | exact HB.out | apply below_alloc | apply pw_below_drewN | apply below_drew1) | exact HB.out)))); have n1_ := Aside0.mk (below_step (by repeat (first | (with_reducible first | exact HB.out | apply below_alloc | apply pw_below_drewN | apply below_drew1) | exact HB.out)) hb); clear HB; have HO127 := n0_; have HB := n1_; clear n0_ n1_; clear hb ho4) | ((with_reducible refine gate_builtin (b := .append) (xs := #[.tmp 5, .tmp 6]) rfl ?_); at_builtin; refine Kd.R_append_rows (Kd.int .i16) (w0 := w) w.heap.size rfl (.tmp 5) (.tmp 6) 27 74 (.int .i16 0) 2 rfl Try.underlying27 info74 rfl (by decide) (by omega) v126 y125 l0 _ _ _ (fun _ => True) (fun _ => False) rfl rfl ?aO ?aR (fun _ _ h => h) (fun _ h => h.elim) ?aF ?aB ?aS ?aL ?_; (case aR => repeat (first | exact (Kd.C_below HR0.out HB.out) | (with_reducible refine Kd.C_alloc ?_ _) | (with_reducible refine Kd.C_drewN ?_ _) | (with_reducible refine Kd.C_drew ?_))); (case aB => exact (by repeat (first | (with_reducible first | exact HB.out | apply below_alloc | apply pw_below_drewN | apply below_drew1) | exact HB.out))); (case aF => exact (fun _ _ => trivial)); (case aO => exact (by (with_reducible repeat (first | apply Kd.R_alloc | apply Kd.R_drewN | apply Kd.R_drew)); exact HO127.out)); (case aS => exact (below_size (by repeat (first | (with_reducible first | exact HB.out | apply below_alloc | apply pw_below_drewN | apply below_drew1) | exact HB.out)))); (case aL => have := LMc2.out; omega); intro v129 w5 ho hb hg hat; rw [← Ny128.out] at ho; have n0_ := Aside0.mk (hb); have n1_ := Aside0.mk (ho); clear HB; clear HO127; have HB := n0_; have HO130 := n1_; clear n0_ n1_; clear ho hb hg hat))
    go_ret
    exact ⟨_, by first | rfl | (simp [errW_none, errW_some] <;> rfl) | (simp [*, errW_none, errW_some] <;> rfl), by (with_reducible repeat (first | apply Kd.R_alloc | apply Kd.R_drewN | apply Kd.R_drew)); exact HO130.out, by repeat (first | (with_reducible first | exact HB.out | apply below_alloc | apply pw_below_drewN | apply below_drew1) | exact HB.out)⟩
  · rw [if_neg c2] at H
    exact absurd H (by simp)
set_option maxHeartbeats 1000000 in
theorem api_Vec_int16_98.calls (A0 : Option Addr) (c0 : Nat) (l0 : List Int) (r : List Int) (w : World) (hr0 : Kd.C (Kd.int .i16) w A0 l0.length l0) (hc0 : l0.length ≤ c0) (h : api_Vec_int16_98.f l0 = some r) :
    Calls Try.prog 98 #[.slice A0 l0.length c0] w fun e w' => ∃ v0_ : Value, e = .returned (v0_) ∧ Kd.R (Kd.int .i16) 74 w' w.heap.size (fun _ => True) v0_ r ∧ Below w.heap.size w w' := by
  cases A0 with
  | some a_ => exact api_Vec_int16_98.calls_some (some a_) c0 l0 r w hr0 hc0 rfl h
  | none =>
    have hl : l0 = [] := Kd.C_zero hr0
    have hr_ : r = [] := by subst hl; simp [api_Vec_int16_98.f] at h; first | exact h | exact h.symm
    subst hr_
    clear h
    clear hr0
    clear hc0
    subst hl
    have hq_ := fun w => Lib.run_eql_slice_nil (P := Try.prog) w 27 74 none ([] : List Int).length c0 0 0 Try.underlying27
    simp only [Option.isNone_none, List.length_nil] at hq_
    simp only [List.length_nil]
    go_enter Try.func98, Try.ntmps98
    go_wp2
    go_ret
    exact ⟨_, rfl, Kd.R_nil _ _ _ _ _, Below.refl _ _⟩

end Go.Proofs.Ytkjibgfgbfacdaa.P
end
/-! part: F95 -/
section
set_option linter.unusedVariables false
set_option linter.unusedSimpArgs false
namespace Go.Proofs.Ytkjibgfgbfacdaa.P
open Go.RowKit Go.Proofs.YtkjibgfgbfacdaaW.PrintWords Go.Proofs.YtkjibgfgbfacdaaW.PrintLast Go.Proofs.YtkjibgfgbfacdaaW.PrintMore
attribute [local go_sem] max2_int min2_int max_two min_two max_three min_three max_four min_four   -- for this text's walks alone
set_option linter.unusedVariables false
set_option linter.unusedSimpArgs false

/-! ### slots_with: function 95 -/
def slots_with.l0 : Nat → Int → Int → List Int → Int → Int → Int → List Int → List (List Int) → Option (Int × List Int × (List (List Int)))
  | 0, _, _, _, _, _, _, _, _ => none
  | k + 1, x1, x2, x3, x21, x22, x144000, x144001, x144002 => if x22 < x21 then (if 0 ≤ x22 then (if x22 < (x144002.length : Int) then ((api_Vec_int16_98.f (rd_L3 x144002 x22)).bind fun t152 => (slots_with.l0 k x1 x2 x3 x21 (wrap64 (x22 + 1)) x144000 x144001 (x144002.set (x22 : Int).toNat t152))) else (none)) else (none)) else ((api_Vec_int16_98.f x3).bind fun t156 => (if 0 ≤ x1 then (if x1 < (x144001.length : Int) then (if x1 < (x144002.length : Int) then (some (x144000, (x144001.set (x1 : Int).toNat x2), (x144002.set (x1 : Int).toNat t156))) else (none)) else (none)) else (none)))
def slots_with.f (k : Nat) (a0_0 : Int) (l0_1 : List Int) (l0_2 : List (List Int)) (a1 : Int) (a2 : Int) (l3 : List Int) : Option (Int × List Int × (List (List Int))) := (slices_Clone_int64_int64.f l0_1).bind fun t145 => ((api_Vec_144.f l0_2).bind fun t148 => (slots_with.l0 k a1 a2 l3 (t148.length : Int) 0 a0_0 t145 t148))
theorem slots_with.mono_l : ∀ k, (∀ y0 y1 y2 y3 y4 y5 y6 y7, LeO (slots_with.l0 k y0 y1 y2 y3 y4 y5 y6 y7) (slots_with.l0 (k + 1) y0 y1 y2 y3 y4 y5 y6 y7))
  | 0 => fun _ _ _ _ _ _ _ _ r h => by simp [slots_with.l0] at h
  | k + 1 => by
    have ih0 := slots_with.mono_l k
    · intro y0 y1 y2 y3 y4 y5 y6 y7
      unfold slots_with.l0
      repeat' first
      | (with_reducible exact ih0 _ _ _ _ _ _ _ _)
      | (with_reducible exact LeO.refl _)
      | (with_reducible exact LeO.none _)
      | (with_reducible refine LeO.ite ?_ ?_)
      | (with_reducible refine LeO.bind ?_ (fun _ => ?_))
      | exact ih0 _ _ _ _ _ _ _ _
      | exact LeO.none _
      | refine LeO.ite ?_ ?_
      | refine LeO.bind ?_ (fun _ => ?_)
theorem slots_with.mono : ∀ a0 a1 a2 a3 a4 a5 k, LeO (slots_with.f k a0 a1 a2 a3 a4 a5) (slots_with.f (k + 1) a0 a1 a2 a3 a4 a5) := by
  intro a0 a1 a2 a3 a4 a5 k
  have ih0 := slots_with.mono_l k
  unfold slots_with.f
  repeat' first
      | (with_reducible exact ih0 _ _ _ _ _ _ _ _)
      | (with_reducible exact LeO.refl _)
      | (with_reducible exact LeO.none _)
      | (with_reducible refine LeO.ite ?_ ?_)
      | (with_reducible refine LeO.bind ?_ (fun _ => ?_))
      | exact ih0 _ _ _ _ _ _ _ _
      | exact LeO.none _
      | refine LeO.ite ?_ ?_
      | refine LeO.bind ?_ (fun _ => ?_)
def slots_with.T1 : Bool × List (List Nat × List Nat) := (true, [([], []), ([0], [0]), ([1], [1]), ([], []), ([3], [3]), ([4, 2], [4]), ([0, 1, 2, 3, 4], []), ([6, 2, 5, 0, 1, 2, 3, 4], [2, 6]), ([0, 1, 2, 3, 4, 5, 6, 7], []), ([8, 5, 7, 0, 1, 2, 3, 4, 5, 6, 7], [5, 8])])
def slots_with.B1 : List Nat := [0, 1, 3, 0, 8, 31, 31, 127, 255, 511]
theorem slots_with.tab1 : rtab .any (opsOf Try.f95 1) = slots_with.T1 := by kernel_rfl
theorem slots_with.bits1 : waitsOk slots_with.T1.2 slots_with.B1 = true := by kernel_rfl
def slots_with.T7 : Bool × List (List Nat × List Nat) := (true, [([], []), ([0], [0]), ([], []), ([], []), ([3], [3]), ([], []), ([], []), ([], []), ([7], [7]), ([1, 2, 0, 1, 2, 6, 8], [1, 2]), ([9, 6, 8, 0, 1, 2, 6, 8], [6, 9]), ([4, 5, 0, 1, 2, 3, 4, 5, 6, 7, 8, 9, 10], [4, 5]), ([11, 8, 10, 0, 1, 2, 3, 4, 5, 6, 7, 8, 9, 10], [8, 11])])
def slots_with.B7 : List Nat := [0, 1, 0, 0, 8, 0, 0, 0, 128, 455, 967, 2047, 4095]
theorem slots_with.tab7 : rtab .any (opsOf Try.f95 7) = slots_with.T7 := by kernel_rfl
theorem slots_with.bits7 : waitsOk slots_with.T7.2 slots_with.B7 = true := by kernel_rfl
set_option maxHeartbeats 8000000 in
set_option maxRecDepth 100000 in
theorem slots_with.calls (k : Nat) (a0_0 : Int) (A0_1 : Option Addr) (c0_1 : Nat) (l0_1 : List Int) (P0_2_ : Nat → Prop) (A0_2 : Option Addr) (c0_2 : Nat) (l0_2 : List (List Int)) (a1 : Int) (a2 : Int) (A3 : Option Addr) (c3 : Nat) (l3 : List Int) (r1 : Int) (r2 : List Int) (r3 : List (List Int)) (w : World) (hr0_1 : Kd.C (Kd.int .i64) w A0_1 l0_1.length l0_1) (hc0_1 : l0_1.length ≤ c0_1) (hs0_2 : Kd.V (Kd.slice 74 (Kd.int .i16)) 27 w w.heap.size (fun k_ => P0_2_ k_) (.slice A0_2 l0_2.length c0_2) l0_2) (hr3 : Kd.C (Kd.int .i16) w A3 l3.length l3) (hc3 : l3.length ≤ c3) (h : slots_with.f k a0_0 l0_1 l0_2 a1 a2 l3 = some (r1, r2, r3)) :
    Calls Try.prog 95 #[.agg #[.int .i64 a0_0, .slice A0_1 l0_1.length c0_1, .slice A0_2 l0_2.length c0_2], .int .i64 a1, .int .i64 a2, .slice A3 l3.length c3] w fun e w' => ∃ v1_ v2_ : Value, e = .returned (.agg #[.int .i64 r1, v1_, v2_]) ∧ Kd.R (Kd.int .i64) 2 w' w.heap.size (fun k_ => (w.heap.size ≤ k_)) v1_ r2 ∧ Kd.N (Kd.slice 74 (Kd.int .i16)) 27 w' w.heap.size (fun k_ => (P0_2_ k_ ∨ w.heap.size ≤ k_) ∧ some k_ ≠ (v1_ : Value).ownBlock) v2_ r3 ∧ Below w.heap.size w w' := by
  have hu25 := Try.underlying25
  have HR0_1 := Aside0.mk hr0_1
  have HC0_1 := Aside0.mk hc0_1
  clear hr0_1 hc0_1
  have HO0_2 := Aside0.mk (show Kd.V (Kd.slice 74 (Kd.int .i16)) 27 w w.heap.size (fun k_ => (P0_2_ k_ ∨ w.heap.size ≤ k_)) (.slice A0_2 l0_2.length c0_2) l0_2 from Kd.V_mono hs0_2 (fun k_ hk => .inl hk))
  have HR3 := Aside0.mk hr3
  have HC3 := Aside0.mk hc3
  clear hr3 hc3
  have HB := Aside0.mk (Below.refl w.heap.size w)
  have H : ((slices_Clone_int64_int64.f l0_1).bind fun t145 => ((api_Vec_144.f l0_2).bind fun t148 => (slots_with.l0 k a1 a2 l3 (t148.length : Int) 0 a0_0 t145 t148))) = some (r1, r2, r3) := h
  clear h
  replace H := Option.bind_eq_some_iff.mp H
  obtain ⟨t145, A50, H⟩ := H
  replace H : ((api_Vec_144.f l0_2).bind fun t148 => (slots_with.l0 k a1 a2 l3 (t148.length : Int) 0 a0_0 t145 t148)) = some (r1, r2, r3) := H
  have A5 := Aside0.mk A50
  clear A50
  replace H := Option.bind_eq_some_iff.mp H
  obtain ⟨t148, A60, H⟩ := H
  replace H : (slots_with.l0 k a1 a2 l3 (t148.length : Int) 0 a0_0 t145 t148) = some (r1, r2, r3) := H
  have A6 := Aside0.mk A60
  clear A60
  have H' := Aside0.mk H
  clear H
  go_enter Try.func95, Try.ntmps95
  try go_wp2_with (first | ((with_reducible refine gate_dst (N := 4) rfl ?_); refine box_event ?hg (N := 4) ?hd (cs := #[.int .i64 a0_0, .slice A0_1 l0_1.length c0_1, .slice A0_2 l0_2.length c0_2]) (t := 25) ?hr ?_; (case hd => rfl); (case hg => rfl); (case hr => first | (go_simp; done) | (go_simp; rfl)); intro gb143 hg w7 hbox hb; have n0_ := Aside0.mk (Kd.V_below (Kd.V_elderB (by (with_reducible repeat (first | apply Kd.V_alloc | apply Kd.V_drewN | apply Kd.V_drew)); exact HO0_2.out) gb143 (Nat.le_of_eq hg.symm)) hb); have n1_ := Aside0.mk (below_step (by repeat (first | (with_reducible first | exact HB.out | apply below_alloc | apply pw_below_drewN | apply below_drew1) | exact HB.out)) hb); have n2_ := Aside0.mk (hbox); have n3_ := Aside0.mk ((by rw [hg]; exact (below_size (by repeat (first | (with_reducible first | exact HB.out | apply below_alloc | apply pw_below_drewN | apply below_drew1) | exact HB.out))) : w.heap.size ≤ gb143)); have n4_ := Aside0.mk ((by rw [hg]; exact (below_size (by repeat (first | (with_reducible first | exact HB.out | apply below_alloc | apply pw_below_drewN | apply below_drew1) | exact HB.out))) : w.heap.size ≤ gb143)); clear HO0_2; clear HB; have HO0_2 := n0_; have HB := n1_; have BK143 := n2_; have GW143 := n3_; have GE143 := n4_; clear n0_ n1_ n2_ n3_ n4_; clear hb hbox hg) | ((with_reducible refine gate_dst (N := 8) rfl ?_); refine box_event ?hg (N := 8) ?hd (cs := #[.int .i64 0, .slice none 0 0, .slice none 0 0]) (t := 25) ?hr ?_; (case hd => rfl); (case hg => rfl); (case hr => first | (go_simp; done) | (go_simp; rfl)); intro gb144 hg w8 hbox hb; have n0_ := Aside0.mk (Kd.V_below (Kd.V_elderB (by (with_reducible repeat (first | apply Kd.V_alloc | apply Kd.V_drewN | apply Kd.V_drew)); exact HO0_2.out) gb144 (Nat.le_of_eq hg.symm)) hb); have n1_ := Aside0.mk (blk_below (g := gb143) (o := .cells #[.int .i64 a0_0, .slice A0_1 l0_1.length c0_1, .slice A0_2 l0_2.length c0_2] 25 (0, 0)) (by (with_reducible repeat (first | refine blk_drewN ?_ _ | refine blk_drew ?_ | refine blk_alloc ?_ _)); exact BK143.out) hb); have n2_ := Aside0.mk (below_step (by repeat (first | (with_reducible first | exact HB.out | apply below_alloc | apply pw_below_drewN | apply below_drew1 | refine below_set ?_ GE143.out) | exact HB.out)) hb); have n3_ := Aside0.mk (hbox); have n4_ := Aside0.mk ((by rw [hg]; exact (below_size (by repeat (first | (with_reducible first | exact HB.out | apply below_alloc | apply pw_below_drewN | apply below_drew1 | refine below_set ?_ GE143.out) | exact HB.out))) : w.heap.size ≤ gb144)); have n5_ := Aside0.mk ((by rw [hg]; exact (below_size (by repeat (first | (with_reducible first | exact HB.out | apply below_alloc | apply pw_below_drewN | apply below_drew1 | refine below_set ?_ GE143.out) | exact HB.out))) : w.heap.size ≤ gb144)); have n6_ := Aside0.mk ((by rw [hg]; exact Nat.ne_of_lt (blk_lt (g := gb143) (o := .cells #[.int .i64 a0_0, .slice A0_1 l0_1.length c0_1, .slice A0_2 l0_2.length c0_2] 25 (0, 0)) (by (with_reducible repeat (first | refine blk_drewN ?_ _ | refine blk_drew ?_ | refine blk_alloc ?_ _)); exact BK143.out)) : gb143 ≠ gb144)); have n7_ := Aside0.mk ((by rw [hg]; exact Nat.ne_of_gt (blk_lt (g := gb143) (o := .cells #[.int .i64 a0_0, .slice A0_1 l0_1.length c0_1, .slice A0_2 l0_2.length c0_2] 25 (0, 0)) (by (with_reducible repeat (first | refine blk_drewN ?_ _ | refine blk_drew ?_ | refine blk_alloc ?_ _)); exact BK143.out)) : gb144 ≠ gb143)); clear HO0_2; clear BK143; clear HB; have HO0_2 := n0_; have BK143 := n1_; have HB := n2_; have BK144 := n3_; have GW144 := n4_; have GE144 := n5_; have NB143_144 := n6_; have NB144_143 := n7_; clear n0_ n1_ n2_ n3_ n4_ n5_ n6_ n7_; clear hb hbox hg))
  have n0_ := Aside0.mk (Kd.V_drew HO0_2.out)
  have n1_ := Aside0.mk (blk_drew BK143.out)
  have n2_ := Aside0.mk (blk_drew BK144.out)
  have n3_ := Aside0.mk (below_drew1 HB.out)
  clear HO0_2
  clear BK143
  clear BK144
  clear HB
  have HO0_2 := n0_
  have BK143 := n1_
  have BK144 := n2_
  have HB := n3_
  clear n0_ n1_ n2_ n3_
  refine start_ (n := 10) (S := fun w' => w'.cell? ⟨gb143, 0, none⟩ = some (.int .i64 a0_0) ∧ w'.cell? ⟨gb143, 1, none⟩ = some (.slice A0_1 l0_1.length c0_1) ∧ w'.cell? ⟨gb143, 2, none⟩ = some (.slice A0_2 l0_2.length c0_2)) (ds := [7, 9]) #[false, false, false, false, false, false, false, false, false, false] (by kernel_rfl) rfl rfl ⟨(blk_cell BK143.out 0).trans rfl, (blk_cell BK143.out 1).trans rfl, (blk_cell BK143.out 2).trans rfl⟩ (fun hHeld => ?_); refine with_tabW slots_with.tab1 slots_with.bits1 (fun HT_ HW_ => ?_)
  generalize w8.drew = w9 at HO0_2 BK143 BK144 HB hHeld ⊢
  refine pure_ (i := 0) (N := some 11) (v := ?_) (a' := ?_) #[true, false, false, false, false, false, false, false, false, false] rfl rfl (any_of HT_.out (by kernel_rfl)) (fun _ _ _ h => h) (Or.inl ⟨by rfl, ?_⟩) ?_ ?_
  rotate_left
  · intro w'
    go_simp
    with_reducible rfl
  rotate_left
  · simp only [Act.put, List.setIfInBounds_toArray, List.set_cons_zero, List.set_cons_succ, i64_w, i32_w]
    rfl
  refine pure_ (i := 3) (N := some 14) (v := ?_) (a' := ?_) #[true, false, false, true, false, false, false, false, false, false] rfl rfl (any_of HT_.out (by kernel_rfl)) (fun _ _ _ h => h) (Or.inl ⟨by rfl, ?_⟩) ?_ ?_
  rotate_left
  · intro w'
    go_simp
    with_reducible rfl
  rotate_left
  · simp only [Act.put, List.setIfInBounds_toArray, List.set_cons_zero, List.set_cons_succ, i64_w, i32_w]
    rfl
  refine take_ (i := 1) (N := some 12) (v := ?_) (a' := ?_) #[true, true, false, true, false, false, false, false, false, false] rfl rfl (take_ofW HT_.out HW_.out (by kernel_rfl)) (fun _ _ _ h => h) (Or.inl ⟨by rfl, ?_⟩) hHeld ?_ ?_
  rotate_left
  · rintro w' ⟨s0, s1, s2⟩
    go_simp
    with_reducible rfl
  rotate_left
  · simp only [Act.put, List.setIfInBounds_toArray, List.set_cons_zero, List.set_cons_succ, i64_w, i32_w]
    rfl
  refine take_ (i := 4) (N := some 15) (v := ?_) (a' := ?_) #[true, true, false, true, true, false, false, false, false, false] rfl rfl (take_ofW HT_.out HW_.out (by kernel_rfl)) (fun _ _ _ h => h) (Or.inl ⟨by rfl, ?_⟩) hHeld ?_ ?_
  rotate_left
  · rintro w' ⟨s0, s1, s2⟩
    go_simp
    with_reducible rfl
  rotate_left
  · simp only [Act.put, List.setIfInBounds_toArray, List.set_cons_zero, List.set_cons_succ, i64_w, i32_w]
    rfl
  refine one_ (i := 2) (N := some 13) #[true, true, true, true, true, false, false, false, false, false] rfl rfl (one_of HT_.out (by kernel_rfl)) (by decide) (fun K hK => ?_)
  refine goes_ Try.func143 (by kernel_rfl) rfl #[.slice A0_1 l0_1.length c0_1] (by rfl) rfl rfl (by (try simp only [List.map_toArray, List.map_cons, List.map_nil]); first | done | rfl | (simp only [List.length_drop, List.length_take]; rfl)) ?_
  with_reducible refine (slices_Clone_int64_int64.calls _ _ l0_1 t145 _ ?side1 ?side2 A5.out).mono ?_
  (case side1 => repeat (first | exact (Kd.C_below HR0_1.out HB.out) | (with_reducible refine Kd.C_alloc ?_ _) | (with_reducible refine Kd.C_drewN ?_ _) | (with_reducible refine Kd.C_drew ?_)))
  (case side2 => exact HC0_1.out)
  rintro e w10 ⟨v146, rfl, ho0, hb⟩
  refine ⟨_, rfl, ?_⟩
  have n0_ := Aside0.mk (Kd.V_elder' (by (with_reducible repeat (first | apply Kd.V_alloc | apply Kd.V_drewN | apply Kd.V_drew)); exact HO0_2.out) (Kd.R_base ho0) hb)
  have n1_ := Aside0.mk (Kd.R_lower (Kd.R_newM (M := fun k_ => (w.heap.size ≤ k_)) ho0 (below_size (by repeat (first | (with_reducible first | exact HB.out | apply below_alloc | apply pw_below_drewN | apply below_drew1 | refine below_set ?_ GE143.out | refine below_set ?_ GE144.out) | exact HB.out))) (fun k_ h_ => h_)) (below_size (by repeat (first | (with_reducible first | exact HB.out | apply below_alloc | apply pw_below_drewN | apply below_drew1 | refine below_set ?_ GE143.out | refine below_set ?_ GE144.out) | exact HB.out))))
  have n2_ := Aside0.mk (blk_below (g := gb143) (o := .cells #[.int .i64 a0_0, .slice A0_1 l0_1.length c0_1, .slice A0_2 l0_2.length c0_2] 25 (0, 0)) (by (with_reducible repeat (first | refine blk_drewN ?_ _ | refine blk_drew ?_ | refine blk_alloc ?_ _)); exact BK143.out) hb)
  have n3_ := Aside0.mk (blk_below (g := gb144) (o := .cells #[.int .i64 0, .slice none 0 0, .slice none 0 0] 25 (0, 0)) (by (with_reducible repeat (first | refine blk_drewN ?_ _ | refine blk_drew ?_ | refine blk_alloc ?_ _)); exact BK144.out) hb)
  have n4_ := Aside0.mk (below_step (by repeat (first | (with_reducible first | exact HB.out | apply below_alloc | apply pw_below_drewN | apply below_drew1 | refine below_set ?_ GE143.out | refine below_set ?_ GE144.out) | exact HB.out)) hb)
  clear HO0_2
  clear BK143
  clear BK144
  clear HB
  have HO0_2 := n0_
  have HO147 := n1_
  have BK143 := n2_
  have BK144 := n3_
  have HB := n4_
  clear n0_ n1_ n2_ n3_ n4_
  (try clear hb)
  (try clear hb2)
  (try clear hk)
  (try clear hi)
  (try clear ho0)
  refine hK.out _ _ ⟨(blk_cell BK143.out 0).trans rfl, (blk_cell BK143.out 1).trans rfl, (blk_cell BK143.out 2).trans rfl⟩ (fun hHeld => ?_)
  clear hK K
  refine norm_ (a' := ?_) ?_ ?_
  rotate_left
  · show Act.put _ (some 13) _ = _
    simp only [Act.put, List.setIfInBounds_toArray, List.set_cons_zero, List.set_cons_succ, i64_w, i32_w]
    rfl
  refine pure_ (i := 6) (N := some 17) (v := ?_) (a' := ?_) #[true, true, true, true, true, false, true, false, false, false] rfl rfl (any_of HT_.out (by kernel_rfl)) (fun _ _ _ h => h) (Or.inl ⟨by rfl, ?_⟩) ?_ ?_
  rotate_left
  · intro w'
    go_simp
    with_reducible rfl
  rotate_left
  · simp only [Act.put, List.setIfInBounds_toArray, List.set_cons_zero, List.set_cons_succ, i64_w, i32_w]
    rfl
  refine one_ (i := 5) (N := some 16) #[true, true, true, true, true, true, true, false, false, false] rfl rfl (one_of HT_.out (by kernel_rfl)) (by decide) (fun K hK => ?_)
  refine goes_ Try.func144 (by kernel_rfl) rfl #[.slice A0_2 l0_2.length c0_2] (by rfl) rfl rfl (by (try simp only [List.map_toArray, List.map_cons, List.map_nil]); first | done | rfl | (simp only [List.length_drop, List.length_take]; rfl)) ?_
  with_reducible refine (api_Vec_144.calls (fun k_ => ((((P0_2_ k_ ∨ w.heap.size ≤ k_) ∧ k_ ≠ gb143) ∧ k_ ≠ gb144) ∧ some k_ ≠ (v146 : Value).ownBlock)) _ _ l0_2 t148 _ ?side1 A6.out).mono ?_
  (case side1 => exact HO0_2.out)
  rintro e w11 ⟨v149, rfl, ho0, hb⟩
  refine ⟨_, rfl, ?_⟩
  have n0_ := Aside0.mk (Kd.V_elder' (by (with_reducible repeat (first | apply Kd.V_alloc | apply Kd.V_drewN | apply Kd.V_drew)); exact HO0_2.out) (Kd.N_base ho0) hb)
  have n1_ := Aside0.mk (Kd.R_below (by (with_reducible repeat (first | apply Kd.R_alloc | apply Kd.R_drewN | apply Kd.R_drew)); exact HO147.out) hb)
  have n2_ := Aside0.mk (Kd.N_lower (Kd.N_mono (ok' := fun k_ => (P0_2_ k_ ∨ w.heap.size ≤ k_) ∧ some k_ ≠ (v146 : Value).ownBlock ∧ k_ ≠ gb143 ∧ k_ ≠ gb144) ho0 (fun k_ hk_ => ⟨Or.elim hk_ (fun hs_ => hs_.1.1.1) (fun hn_ => (.inr (Nat.le_trans (below_size (by repeat (first | (with_reducible first | exact HB.out | apply below_alloc | apply pw_below_drewN | apply below_drew1 | refine below_set ?_ GE143.out | refine below_set ?_ GE144.out) | exact HB.out))) hn_))), Or.elim hk_ (fun hs_ => hs_.2) (fun hn_ => (Kd.fresh' (Kd.R_lt (by (with_reducible repeat (first | apply Kd.R_alloc | apply Kd.R_drewN | apply Kd.R_drew)); exact HO147.out)) k_ hn_)), Or.elim hk_ (fun hs_ => hs_.1.1.2) (fun hn_ => (Kd.freshB (g := gb143) (o := .cells #[.int .i64 a0_0, .slice A0_1 l0_1.length c0_1, .slice A0_2 l0_2.length c0_2] 25 (0, 0)) (by (with_reducible repeat (first | refine blk_drewN ?_ _ | refine blk_drew ?_ | refine blk_alloc ?_ _)); exact BK143.out) k_ hn_)), Or.elim hk_ (fun hs_ => hs_.1.2) (fun hn_ => (Kd.freshB (g := gb144) (o := .cells #[.int .i64 0, .slice none 0 0, .slice none 0 0] 25 (0, 0)) (by (with_reducible repeat (first | refine blk_drewN ?_ _ | refine blk_drew ?_ | refine blk_alloc ?_ _)); exact BK144.out) k_ hn_))⟩)) (below_size (by repeat (first | (with_reducible first | exact HB.out | apply below_alloc | apply pw_below_drewN | apply below_drew1 | refine below_set ?_ GE143.out | refine below_set ?_ GE144.out) | exact HB.out))))
  have n3_ := Aside0.mk (blk_below (g := gb143) (o := .cells #[.int .i64 a0_0, .slice A0_1 l0_1.length c0_1, .slice A0_2 l0_2.length c0_2] 25 (0, 0)) (by (with_reducible repeat (first | refine blk_drewN ?_ _ | refine blk_drew ?_ | refine blk_alloc ?_ _)); exact BK143.out) hb)
  have n4_ := Aside0.mk (blk_below (g := gb144) (o := .cells #[.int .i64 0, .slice none 0 0, .slice none 0 0] 25 (0, 0)) (by (with_reducible repeat (first | refine blk_drewN ?_ _ | refine blk_drew ?_ | refine blk_alloc ?_ _)); exact BK144.out) hb)
  have n5_ := Aside0.mk (below_step (by repeat (first | (with_reducible first | exact HB.out | apply below_alloc | apply pw_below_drewN | apply below_drew1 | refine below_set ?_ GE143.out | refine below_set ?_ GE144.out) | exact HB.out)) hb)
  clear HO0_2
  clear HO147
  clear BK143
  clear BK144
  clear HB
  have HO0_2 := n0_
  have HO147 := n1_
  have HO150 := n2_
  have BK143 := n3_
  have BK144 := n4_
  have HB := n5_
  clear n0_ n1_ n2_ n3_ n4_ n5_
  (try clear hb)
  (try clear hb2)
  (try clear hk)
  (try clear hi)
  (try clear ho0)
  obtain ⟨Ao12, co12, eo12⟩ := Kd.R_slice HO147.out
  (first | subst eo12 | (injection eo12 with f1_ f2_ f3_; have f4_ := f1_.symm; have f5_ := f3_.symm; clear f1_ f2_ f3_; subst f4_; subst f5_))
  obtain ⟨Ao14, co14, eo14⟩ := Kd.N_slice HO150.out
  (first | subst eo14 | (injection eo14 with f1_ f2_ f3_; have f4_ := f1_.symm; have f5_ := f3_.symm; clear f1_ f2_ f3_; subst f4_; subst f5_))
  refine hK.out _ _ ⟨(blk_cell BK143.out 0).trans rfl, (blk_cell BK143.out 1).trans rfl, (blk_cell BK143.out 2).trans rfl⟩ (fun hHeld => ?_)
  clear hK K
  refine norm_ (a' := ?_) ?_ ?_
  rotate_left
  · show Act.put _ (some 16) _ = _
    simp only [Act.put, List.setIfInBounds_toArray, List.set_cons_zero, List.set_cons_succ, i64_w, i32_w]
    rfl
  refine last_ (i := 7) (N := none) #[true, true, true, true, true, true, true, true, false, false] rfl rfl (one_of HT_.out (by kernel_rfl)) (by decide) (fun K hK => ?_)
  have hs13 : w11.cell? ⟨gb143, 1, none⟩ = some (.slice A0_1 l0_1.length c0_1) := (blk_cell BK143.out 1).trans rfl
  have hfs13 := blk_frozen BK143.out 1
  have hns13_1 := NB144_143.out
  have hms13_1 := NB143_144.out
  refine skip_ (w1 := ?_) (by rfl) rfl ?_ ?_
  rotate_left
  · go_simp
    rfl
  refine hK.out _ _ ?_
  clear hK K
  refine pure_ (i := 8) (N := some 18) (v := ?_) (a' := ?_) #[true, true, true, true, true, true, true, true, true, false] rfl rfl (any_of HT_.out (by kernel_rfl)) (fun _ _ _ h => h) (Or.inl ⟨by rfl, ?_⟩) ?_ ?_
  rotate_left
  · intro w'
    go_simp
    with_reducible rfl
  rotate_left
  · simp only [Act.put, List.setIfInBounds_toArray, List.set_cons_zero, List.set_cons_succ, i64_w, i32_w]
    rfl
  refine last_ (i := 9) (N := none) #[true, true, true, true, true, true, true, true, true, true] rfl rfl (one_of HT_.out (by kernel_rfl)) (by decide) (fun K hK => ?_)
  have hs15 : w11.cell? ⟨gb143, 2, none⟩ = some (.slice A0_2 l0_2.length c0_2) := (blk_cell BK143.out 2).trans rfl
  have hfs15 := blk_frozen BK143.out 2
  have hns15_1 := NB144_143.out
  have hms15_1 := NB143_144.out
  refine skip_ (w1 := ?_) (by rfl) rfl ?_ ?_
  rotate_left
  · go_simp
    rfl
  refine hK.out _ _ ?_
  clear hK K
  refine done_ (done_of HT_.out (by kernel_rfl)) ?_
  have hnb16 := NB143_144.out
  have hnc16 := NB144_143.out
  have hcz17_0 : w11.cell? ⟨gb143, 0, none⟩ = some (.int .i64 a0_0) := (blk_cell BK143.out 0).trans rfl
  have hcz17_1 : w11.cell? ⟨gb143, 1, none⟩ = some (.slice A0_1 l0_1.length c0_1) := (blk_cell BK143.out 1).trans rfl
  have hcz17_2 : w11.cell? ⟨gb143, 2, none⟩ = some (.slice A0_2 l0_2.length c0_2) := (blk_cell BK143.out 2).trans rfl
  have hfz17_0 := blk_frozen BK143.out 0
  have hfz17_1 := blk_frozen BK143.out 1
  have hfz17_2 := blk_frozen BK143.out 2
  try go_wp2
  go_loopg [22] k (fun kq v22 w' => ∃ (x22_1 : Int) (x144002_1 : List (List Int)) (u144002 : Value), v22 = .int .i64 x22_1 ∧ Aside0 (u144002 = .slice Ao14 t148.length co14) ∧ Aside0 (slots_with.l0 kq a1 a2 l3 (t148.length : Int) x22_1 a0_0 t145 x144002_1 = some (r1, r2, r3)) ∧ Aside0 (kq ≤ k) ∧ Aside0 (Kd.R (Kd.int .i64) 2 w' w.heap.size (fun k_ => (w.heap.size ≤ k_)) (.slice Ao12 t145.length co12) t145) ∧ Aside0 (Kd.N (Kd.slice 74 (Kd.int .i16)) 27 w' w.heap.size (fun k_ => (P0_2_ k_ ∨ w.heap.size ≤ k_) ∧ some k_ ≠ ((.slice Ao12 t145.length co12) : Value).ownBlock ∧ k_ ≠ gb143 ∧ k_ ≠ gb144) u144002 x144002_1) ∧ Aside0 (w'.heap[gb143]? = some (.cells #[.int .i64 a0_0, (.slice Ao12 t145.length co12), u144002] 25 (0, 0))) ∧ Aside0 (w'.heap[gb144]? = some (.cells #[.int .i64 0, (.slice none 0 0), (.slice none 0 0)] 25 (0, 0))) ∧ Aside0 (Below w.heap.size w w'))
  case atStart => exact ⟨(0), (t148), (.slice Ao14 t148.length co14), (by first | rfl | (simp; done) | (simp [*]; done)), ⟨rfl⟩, H', ⟨Nat.le_refl _⟩, ⟨by (with_reducible repeat (first | apply Kd.R_alloc | apply Kd.R_drewN | apply Kd.R_drew)); exact Kd.R_mono (Kd.R_far (p := ⟨gb143, 2, none⟩) (Kd.R_far (p := ⟨gb143, 1, none⟩) (Kd.R_types HO147.out BK143.out (by decide)) (fun _ hk => hk.2) (.slice Ao12 t145.length co12)) (fun _ hk => hk.2) (.slice Ao14 t148.length co14)) (fun _ hk => hk.1.1)⟩, ⟨by (with_reducible repeat (first | apply Kd.N_alloc | apply Kd.N_drewN | apply Kd.N_drew)); exact Kd.N_mono (Kd.N_far (p := ⟨gb143, 2, none⟩) (Kd.N_far (p := ⟨gb143, 1, none⟩) (Kd.N_mono HO150.out (fun k_ hk => (⟨hk, hk.2.2.1⟩ : _ ∧ k_ ≠ gb143))) (fun _ hk => hk.2) (.slice Ao12 t145.length co12)) (fun _ hk => hk.2) (.slice Ao14 t148.length co14)) (fun _ hk => ⟨hk.1.1, ⟨hk.1.2.1, ⟨hk.1.2.2.1, hk.1.2.2.2⟩⟩⟩)⟩, ⟨by (with_reducible repeat (first | refine blk_drewN ?_ _ | refine blk_drew ?_ | refine blk_alloc ?_ _)); refine blk_put (cs := #[.int .i64 a0_0, .slice Ao12 t145.length co12, .slice A0_2 l0_2.length c0_2]) ?_ 2 _ rfl; (with_reducible repeat (first | refine blk_drewN ?_ _ | refine blk_drew ?_ | refine blk_alloc ?_ _)); refine blk_put (cs := #[.int .i64 a0_0, .slice A0_1 l0_1.length c0_1, .slice A0_2 l0_2.length c0_2]) ?_ 1 _ rfl; (with_reducible repeat (first | refine blk_drewN ?_ _ | refine blk_drew ?_ | refine blk_alloc ?_ _)); exact BK143.out⟩, ⟨by (with_reducible repeat (first | refine blk_drewN ?_ _ | refine blk_drew ?_ | refine blk_alloc ?_ _)); refine blk_far ?_ NB144_143.out _; (with_reducible repeat (first | refine blk_drewN ?_ _ | refine blk_drew ?_ | refine blk_alloc ?_ _)); refine blk_far ?_ NB144_143.out _; (with_reducible repeat (first | refine blk_drewN ?_ _ | refine blk_drew ?_ | refine blk_alloc ?_ _)); exact BK144.out⟩, ⟨by repeat (first | (with_reducible first | exact HB.out | apply below_alloc | apply pw_below_drewN | apply below_drew1 | refine below_set ?_ GE143.out | refine below_set ?_ GE144.out) | exact HB.out)⟩⟩
  case round =>
    clear H'
    try clear c1
    try clear p2
    try clear c3
    try clear c9
    try clear c14
    try clear c16
    try clear hcz17_0
    try clear hcz17_1
    try clear hcz17_2
    try clear hfz17_0
    try clear hfz17_1
    try clear hfz17_2
    obtain ⟨x22_1, x144002_1, u144002, rfl, HU, HA, HK1, HO_144001, HO_144002, BK143, BK144, HB⟩ := hrel
    cases gk with
    | zero => exact absurd HA.out (by simp [slots_with.l0])
    | succ k1 =>
      have H := HA.out
      clear HA
      simp only [slots_with.l0] at H
      by_cases c18 : x22_1 < (t148.length : Int)
      · rw [if_pos c18] at H
        have c18b0 : decide (x22_1 < (t148.length : Int)) = true := decide_eq_true c18
        clear c18
        by_cases c19 : 0 ≤ x22_1
        · rw [if_pos c19] at H
          have c19b0 : decide (0 ≤ x22_1) = true := decide_eq_true c19
          clear c19
          by_cases c20 : x22_1 < (x144002_1.length : Int)
          · rw [if_pos c20] at H
            have c20b0 : decide (x22_1 < (x144002_1.length : Int)) = true := decide_eq_true c20
            clear c20
            replace H := Option.bind_eq_some_iff.mp H
            obtain ⟨t152, A210, H⟩ := H
            replace H : (slots_with.l0 k1 a1 a2 l3 (t148.length : Int) (wrap64 (x22_1 + 1)) a0_0 t145 (x144002_1.set (x22_1 : Int).toNat t152)) = some (r1, r2, r3) := H
            have A21 := Aside0.mk A210
            clear A210
            obtain ⟨y155, hy155⟩ : ∃ y_ : List (List Int), y_ = (x144002_1.set (x22_1 : Int).toNat t152) := ⟨_, rfl⟩
            replace H : (slots_with.l0 k1 a1 a2 l3 (t148.length : Int) (wrap64 (x22_1 + 1)) a0_0 t145 y155) = some (r1, r2, r3) := by first | (rw [hy155]; with_reducible exact H) | (have H2_ := (Option.bind_some _ _).symm.trans H; rw [hy155]; with_reducible exact H2_) | (have H2_ := (Option.bind_some _ _).symm.trans H; with_reducible exact H2_) | with_reducible exact H | (rw [hy155]; exact H) | exact H
            have Ny155 := Aside0.mk hy155
            clear hy155
            have H' := Aside0.mk H
            clear H
            have hnb23 := NB143_144.out
            have hnc23 := NB144_143.out
            have hcz24_0 : wr.cell? ⟨gb143, 0, none⟩ = some (.int .i64 a0_0) := (blk_cell BK143.out 0).trans rfl
            have hcz24_1 : wr.cell? ⟨gb143, 1, none⟩ = some (.slice Ao12 t145.length co12) := (blk_cell BK143.out 1).trans rfl
            have hcz24_2 : wr.cell? ⟨gb143, 2, none⟩ = some (u144002) := (blk_cell BK143.out 2).trans rfl
            have hfz24_0 := blk_frozen BK143.out 0
            have hfz24_1 := blk_frozen BK143.out 1
            have hfz24_2 := blk_frozen BK143.out 2
            obtain ⟨Ao25, co25, eo25⟩ := Kd.N_slice HO_144002.out
            subst eo25
            have p151 : 0 ≤ (x22_1 : Int) := of_decide_eq_true (by first | (with_reducible assumption) | assumption)
            have q151 : x22_1 < (x144002_1.length : Int) := of_decide_eq_true (by first | (with_reducible assumption) | assumption)
            obtain ⟨ad151, A151_0, c151_0, e151, hx151_0, hl151_0, hi151_0⟩ := at_L3 (Kd.N_reads' HO_144002.out).2.2 x22_1 p151 q151
            cases e151
            have HU_ := HU.out
            injection HU_ with u1_ u2_ u3_
            subst u1_
            subst u3_
            have HU2 := Aside0.mk u2_
            clear HU u2_
            have qz := eq_true (of_decide_eq_true c18b0)
            obtain ⟨ce151, hce151, hMe151, hcc151⟩ := Kd.N_get HO_144002.out [] x22_1 p151 (by first | exact q151 | exact of_decide_eq_true (by first | (with_reducible assumption) | assumption) | (have e_ := (Kd.N_reads' HO_144002.out).1; omega))
            obtain ⟨ua151_0, uc151_0, rfl, ul151_0, ge151_0⟩ := Kd.FK_slice_open hMe151
            have hv151_0 := hcc151 0 _ rfl
            rw [Nat.add_zero, show ((Kd.slice 74 (Kd.int .i16))).sz = 1 from rfl, Nat.mul_one] at hv151_0
            replace hv151_0 := Option.some.inj (hv151_0.symm.trans hx151_0)
            injection hv151_0 with hva_ hvn_ hvc_
            rw [hva_] at ge151_0
            rw [hvc_] at ul151_0
            have HL151_0 := Aside0.mk (show Kd.V (Kd.int .i16) 74 _ w.heap.size _ _ (rd_L3 x144002_1 x22_1) from Kd.V_mk ul151_0 ge151_0)
            clear hva_ hvn_ hvc_ ge151_0 ul151_0
            clear hcc151 hce151
            have HR151_0 := Aside0.mk hi151_0
            have HC151_0 := Aside0.mk hl151_0
            clear hi151_0 hl151_0
            replace p151 := eq_true p151
            replace q151 := eq_true q151
            try go_wp2
            have n0_ := Aside0.mk (Kd.R_drew HO_144001.out)
            have n1_ := Aside0.mk (Kd.N_drew HO_144002.out)
            have n2_ := Aside0.mk (Kd.V_drew HL151_0.out)
            have n3_ := Aside0.mk (blk_drew BK143.out)
            have n4_ := Aside0.mk (blk_drew BK144.out)
            have n5_ := Aside0.mk (Kd.C_drew HR151_0.out)
            have n6_ := Aside0.mk (below_drew1 HB.out)
            clear HO_144001
            clear HO_144002
            clear HL151_0
            clear BK143
            clear BK144
            clear HR151_0
            clear HB
            have HO_144001 := n0_
            have HO_144002 := n1_
            have HL151_0 := n2_
            have BK143 := n3_
            have BK144 := n4_
            have HR151_0 := n5_
            have HB := n6_
            clear n0_ n1_ n2_ n3_ n4_ n5_ n6_
            refine start_ (n := 7) (S := fun w' => w'.cell? ⟨gb143, 0, none⟩ = some (.int .i64 a0_0) ∧ w'.cell? ⟨gb143, 1, none⟩ = some (.slice Ao12 t145.length co12) ∧ w'.cell? ⟨gb143, 2, none⟩ = some (.slice (some ad151) x144002_1.length co25)) (ds := [6]) #[false, false, false, false, false, false, false] (by kernel_rfl) rfl rfl ⟨(blk_cell BK143.out 0).trans rfl, (blk_cell BK143.out 1).trans rfl, (blk_cell BK143.out 2).trans rfl⟩ (fun hHeld => ?_)
            generalize wr.drew = w26 at HO_144001 HO_144002 HL151_0 BK143 BK144 HR151_0 HB hHeld ⊢
            refine pure_ (i := 0) (N := some 27) (v := ?_) (a' := ?_) #[true, false, false, false, false, false, false] rfl rfl (by kernel_rfl) (fun _ _ _ h => h) (Or.inl ⟨by rfl, ?_⟩) ?_ ?_
            rotate_left
            · intro w'
              go_simp
              with_reducible rfl
            rotate_left
            · simp only [Act.put, List.setIfInBounds_toArray, List.set_cons_zero, List.set_cons_succ, i64_w, i32_w]
              rfl
            refine pure_ (i := 2) (N := some 29) (v := ?_) (a' := ?_) #[true, false, true, false, false, false, false] rfl rfl (by kernel_rfl) (fun _ _ _ h => h) (Or.inl ⟨by rfl, ?_⟩) ?_ ?_
            rotate_left
            · intro w'
              go_simp
              with_reducible rfl
            rotate_left
            · simp only [Act.put, List.setIfInBounds_toArray, List.set_cons_zero, List.set_cons_succ, i64_w, i32_w]
              rfl
            refine pure_ (i := 3) (N := some 30) (v := ?_) (a' := ?_) #[true, false, true, true, false, false, false] rfl rfl (by kernel_rfl) (fun _ _ _ h => h) (Or.inl ⟨by rfl, ?_⟩) ?_ ?_
            rotate_left
            · intro w'
              go_simp
              with_reducible rfl
            rotate_left
            · simp only [Act.put, List.setIfInBounds_toArray, List.set_cons_zero, List.set_cons_succ, i64_w, i32_w]
              rfl
            refine take_ (i := 1) (N := some 28) (v := ?_) (a' := ?_) #[true, true, true, true, false, false, false] rfl rfl (by kernel_rfl) (fun _ _ _ h => h) (Or.inl ⟨by rfl, ?_⟩) hHeld ?_ ?_
            rotate_left
            · rintro w' ⟨s0, s1, s2⟩
              go_simp
              with_reducible rfl
            rotate_left
            · simp only [Act.put, List.setIfInBounds_toArray, List.set_cons_zero, List.set_cons_succ, i64_w, i32_w]
              rfl
            refine one_ (i := 4) (N := some 31) #[true, true, true, true, true, false, false] rfl rfl (by kernel_rfl) (by decide) (fun K hK => ?_)
            refine goes_ Try.func98 (by kernel_rfl) rfl #[.slice A151_0 (rd_L3 x144002_1 x22_1).length c151_0] (by rfl) rfl rfl (by (try simp only [List.map_toArray, List.map_cons, List.map_nil]); first | done | rfl | (simp only [List.length_drop, List.length_take]; rfl)) ?_
            with_reducible refine (api_Vec_int16_98.calls _ _ (rd_L3 x144002_1 x22_1) t152 _ ?side1 ?side2 A21.out).mono ?_
            (case side1 => repeat (first | exact (by repeat (first | (with_reducible exact HR151_0.out) | (with_reducible refine Kd.C_alloc ?_ _) | (with_reducible refine Kd.C_drewN ?_ _) | (with_reducible refine Kd.C_drew ?_) | exact HR151_0.out)) | (with_reducible refine Kd.C_alloc ?_ _) | (with_reducible refine Kd.C_drewN ?_ _) | (with_reducible refine Kd.C_drew ?_)))
            (case side2 => exact HC151_0.out)
            rintro e w27 ⟨v153, rfl, ho0, hb⟩
            obtain ⟨Av153, cv153, ev153⟩ := Kd.R_slice ho0
            subst ev153
            refine ⟨_, rfl, ?_⟩
            have n0_ := Aside0.mk (Kd.R_below (by (with_reducible repeat (first | apply Kd.R_alloc | apply Kd.R_drewN | apply Kd.R_drew)); exact HO_144001.out) hb)
            have n1_ := Aside0.mk (Kd.N_elder' (by (with_reducible repeat (first | apply Kd.N_alloc | apply Kd.N_drewN | apply Kd.N_drew)); exact HO_144002.out) (Kd.R_base ho0) hb)
            have n2_ := Aside0.mk (Kd.V_elder' (by (with_reducible repeat (first | apply Kd.V_alloc | apply Kd.V_drewN | apply Kd.V_drew)); exact HL151_0.out) (Kd.R_base ho0) hb)
            have n3_ := Aside0.mk (Kd.R_lower (Kd.R_newM (M := fun k_ => (w.heap.size ≤ k_)) ho0 (below_size (by repeat (first | (with_reducible first | exact HB.out | apply below_alloc | apply pw_below_drewN | apply below_drew1 | refine below_set ?_ GE143.out | refine below_set ?_ GE144.out) | exact HB.out))) (fun k_ h_ => h_)) (below_size (by repeat (first | (with_reducible first | exact HB.out | apply below_alloc | apply pw_below_drewN | apply below_drew1 | refine below_set ?_ GE143.out | refine below_set ?_ GE144.out) | exact HB.out))))
            have n4_ := Aside0.mk (blk_below (g := gb143) (o := .cells #[.int .i64 a0_0, .slice Ao12 t145.length co12, .slice (some ad151) x144002_1.length co25] 25 (0, 0)) (by (with_reducible repeat (first | refine blk_drewN ?_ _ | refine blk_drew ?_ | refine blk_alloc ?_ _)); exact BK143.out) hb)
            have n5_ := Aside0.mk (blk_below (g := gb144) (o := .cells #[.int .i64 0, .slice none 0 0, .slice none 0 0] 25 (0, 0)) (by (with_reducible repeat (first | refine blk_drewN ?_ _ | refine blk_drew ?_ | refine blk_alloc ?_ _)); exact BK144.out) hb)
            have n6_ := Aside0.mk (Kd.C_below (by repeat (first | (with_reducible exact HR151_0.out) | (with_reducible refine Kd.C_alloc ?_ _) | (with_reducible refine Kd.C_drewN ?_ _) | (with_reducible refine Kd.C_drew ?_) | exact HR151_0.out)) hb)
            have n7_ := Aside0.mk (below_step (by repeat (first | (with_reducible first | exact HB.out | apply below_alloc | apply pw_below_drewN | apply below_drew1 | refine below_set ?_ GE143.out | refine below_set ?_ GE144.out) | exact HB.out)) hb)
            clear HO_144001
            clear HO_144002
            clear HL151_0
            clear BK143
            clear BK144
            clear HR151_0
            clear HB
            have HO_144001 := n0_
            have HO_144002 := n1_
            have HL151_0 := n2_
            have HO154 := n3_
            have BK143 := n4_
            have BK144 := n5_
            have HR151_0 := n6_
            have HB := n7_
            clear n0_ n1_ n2_ n3_ n4_ n5_ n6_ n7_
            (try clear hb)
            (try clear hb2)
            (try clear hk)
            (try clear hi)
            (try clear ho0)
            have p22 : 0 ≤ (x22_1 : Int) := of_decide_eq_true (by first | (with_reducible assumption) | assumption)
            have q22 : (x22_1 : Int) < ((x144002_1.length : Int) : Int) := of_decide_eq_true (by first | (with_reducible assumption) | assumption)
            obtain ⟨go22, co22, eo22, gb22, gl22, cl22, HG22⟩ := Kd.N_form HO_144002.out (by omega)
            (first | cases eo22 | (injection eo22 with ea_ en_ ec_; (first | subst ea_ | (injection ea_ with ea_; subst ea_)); subst ec_; clear en_))
            have GB22 := Aside0.mk gb22
            have GG22 := Aside0.mk HG22
            clear gb22 gl22 HG22
            (first | simp only [add_plain] at hx151_0 | skip)
            obtain ⟨ce22, hcl22, hM22, hcc22, hfr22⟩ := Kd.N_elem HO_144002.out [] (x22_1 : Int) p22 q22
            obtain ⟨ua22_0, uc22_0, rfl, ul22_0, ge22_0⟩ := Kd.FK_slice_open hM22
            have hx22_0 := hcc22 0 _ rfl
            have hf22_0 := hfr22 0
            (try simp only [show ((Kd.slice 74 (Kd.int .i16))).sz = 1 from rfl, Nat.mul_one, Nat.add_zero] at hx22_0)
            (try simp only [show ((Kd.slice 74 (Kd.int .i16))).sz = 1 from rfl, Nat.mul_one, Nat.add_zero] at hf22_0)
            clear hcl22 hcc22 hfr22 
            try clear hM22
            replace p22 := eq_true p22
            replace q22 := eq_true q22
            have HX28 := Aside0.mk (show Kd.N (Kd.slice 74 (Kd.int .i16)) 27 _ w.heap.size (fun k_ => (P0_2_ k_ ∨ w.heap.size ≤ k_) ∧ some k_ ≠ (.slice Ao12 t145.length co12 : Value).ownBlock ∧ some k_ ≠ ((.slice Av153 t152.length cv153) : Value).ownBlock ∧ k_ ≠ gb143 ∧ k_ ≠ gb144) (.slice (some ⟨go22, 0, none⟩) x144002_1.length co25) x144002_1 from (Kd.N_mono (HO_144002.out) (fun k_ hk => ⟨hk.1.1, ⟨hk.1.2.1, ⟨hk.2, ⟨hk.1.2.2.1, hk.1.2.2.2⟩⟩⟩⟩)))
            replace HX28 := Aside0.mk (show Kd.N (Kd.slice 74 (Kd.int .i16)) 27 _ w.heap.size (fun k_ => (P0_2_ k_ ∨ w.heap.size ≤ k_) ∧ some k_ ≠ (.slice Ao12 t145.length co12 : Value).ownBlock ∧ k_ ≠ gb143 ∧ k_ ≠ gb144) (.slice (some ⟨go22, 0, none⟩) x144002_1.length co25) x144002_1 from Kd.N_mono HX28.out (fun k_ hk => ⟨hk.1, ⟨hk.2.1, ⟨hk.2.2.2.1, hk.2.2.2.2⟩⟩⟩))
            obtain ⟨ce28, hcl28, hM28, hcc28, hfr28⟩ := Kd.N_elem HX28.out [] (x22_1 : Int) (of_decide_eq_true (by first | (with_reducible assumption) | assumption)) (by have h_ : (x22_1 : Int) < ((x144002_1.length : Int) : Int) := of_decide_eq_true (by first | (with_reducible assumption) | assumption); first | exact h_ | (have e_ := (Kd.N_reads' HO_144002.out).1; omega) | simpa using h_)
            obtain ⟨ua28_0, uc28_0, rfl, ul28_0, ge28_0⟩ := Kd.FK_slice_open hM28
            have hB_ := (Kd.R_types (Kd.R_types (Kd.R_apart' (Kd.R_apart' (HO154.out) (Kd.R_typed HO_144001.out) (by decide)) (Kd.N_typed HO_144002.out) (by decide)) BK143.out (by decide)) BK144.out (by decide))
            have HP28 := (Kd.N_seg HX28.out (x22_1 : Int) (of_decide_eq_true (by first | (with_reducible assumption) | assumption)) (by have h_ : (x22_1 : Int) < ((x144002_1.length : Int) : Int) := of_decide_eq_true (by first | (with_reducible assumption) | assumption); first | exact h_ | (have e_ := (Kd.N_reads' HO_144002.out).1; omega) | simpa using h_) (seg := [(.slice Av153 t152.length cv153)]) (j := 0) hcl28 hcc28 (show 1 ≤ 1 from by decide) (x' := t152) (Kd.FK_slice_mk (Kd.R_reads' (Kd.R_mono (ok' := (fun k_ => ((fun k_ => (P0_2_ k_ ∨ w.heap.size ≤ k_) ∧ some k_ ≠ (.slice Ao12 t145.length co12 : Value).ownBlock ∧ k_ ≠ gb143 ∧ k_ ≠ gb144)) k_ ∧ k_ ≠ go22)) hB_ (fun k_ hk => ⟨⟨(.inr (hk.1.1.1.1.1)), ⟨hk.1.1.1.2, ⟨hk.1.2, hk.2⟩⟩⟩, fun e_ => (hk.1.1.2) (by rw [e_]; rfl)⟩))).2.1 (Kd.R_F (Kd.R_mono (ok' := (fun k_ => ((fun k_ => (P0_2_ k_ ∨ w.heap.size ≤ k_) ∧ some k_ ≠ (.slice Ao12 t145.length co12 : Value).ownBlock ∧ k_ ≠ gb143 ∧ k_ ≠ gb144)) k_ ∧ k_ ≠ go22)) hB_ (fun k_ hk => ⟨⟨(.inr (hk.1.1.1.1.1)), ⟨hk.1.1.1.2, ⟨hk.1.2, hk.2⟩⟩⟩, fun e_ => (hk.1.1.2) (by rw [e_]; rfl)⟩)))) (fun _ hk => hk)).1
            clear hB_
            (try simp only [show ((Kd.slice 74 (Kd.int .i16))).sz = 1 from rfl, Nat.mul_one, Nat.add_zero] at HP28)
            rw [← Ny155.out] at HP28
            have HQ28 := Aside0.mk HP28
            clear hcl28 hcc28 hfr28  HP28
            try clear hM28
            refine hK.out _ _ ⟨(blk_cell BK143.out 0).trans rfl, (blk_cell BK143.out 1).trans rfl, (blk_cell BK143.out 2).trans rfl⟩ (fun hHeld => ?_)
            clear hK K
            refine norm_ (a' := ?_) ?_ ?_
            rotate_left
            · show Act.put _ (some 31) _ = _
              simp only [Act.put, List.setIfInBounds_toArray, List.set_cons_zero, List.set_cons_succ, i64_w, i32_w]
              rfl
            refine pure_ (i := 5) (N := some 32) (v := ?_) (a' := ?_) #[true, true, true, true, true, true, false] rfl rfl (by kernel_rfl) (fun _ _ _ h => h) (Or.inl ⟨by rfl, ?_⟩) ?_ ?_
            rotate_left
            · intro w'
              go_simp
              with_reducible rfl
            rotate_left
            · simp only [Act.put, List.setIfInBounds_toArray, List.set_cons_zero, List.set_cons_succ, i64_w, i32_w]
              rfl
            refine last_ (i := 6) (N := none) #[true, true, true, true, true, true, true] rfl rfl (by kernel_rfl) (by decide) (fun K hK => ?_)
            refine skip_ (w1 := ?_) (by rfl) rfl ?_ ?_
            rotate_left
            · go_simp
              rfl
            refine hK.out _ _ ?_
            clear hK K
            refine done_ (by kernel_rfl) ?_
            try go_wp2
            go_roundg k1
            case measure => have := HK1.out; omega
            case rel => exact ⟨(wrap64 (x22_1 + 1)), (y155), (.slice (some ⟨go22, 0, none⟩) x144002_1.length co25), (by first | rfl | (simp; done) | (simp [*]; done)), ⟨by rw [HU2.out]⟩, H', ⟨by have := HK1.out; omega⟩, ⟨by (with_reducible repeat (first | apply Kd.R_alloc | apply Kd.R_drewN | apply Kd.R_drew)); exact Kd.R_mono (Kd.R_far (p := ⟨go22, (x22_1 : Int).toNat, none⟩) (Kd.R_types HO_144001.out GG22.out (by decide)) (fun _ hk => hk.2) ((.slice Av153 t152.length cv153))) (fun _ hk => hk.1)⟩, ⟨by (with_reducible repeat (first | apply Kd.N_alloc | apply Kd.N_drewN | apply Kd.N_drew)); exact HQ28.out⟩, ⟨by (with_reducible repeat (first | refine blk_drewN ?_ _ | refine blk_drew ?_ | refine blk_alloc ?_ _)); refine blk_far ?_ (by have h_ := Kd.N_away HO_144002.out (fun _ hk => hk.1.2.2.1); intro e_; exact h_ (by rw [e_]; rfl)) _; (with_reducible repeat (first | refine blk_drewN ?_ _ | refine blk_drew ?_ | refine blk_alloc ?_ _)); exact BK143.out⟩, ⟨by (with_reducible repeat (first | refine blk_drewN ?_ _ | refine blk_drew ?_ | refine blk_alloc ?_ _)); refine blk_far ?_ (by have h_ := Kd.N_away HO_144002.out (fun _ hk => hk.1.2.2.2); intro e_; exact h_ (by rw [e_]; rfl)) _; (with_reducible repeat (first | refine blk_drewN ?_ _ | refine blk_drew ?_ | refine blk_alloc ?_ _)); exact BK144.out⟩, ⟨by repeat (first | (with_reducible first | exact HB.out | apply below_alloc | apply pw_below_drewN | apply below_drew1 | refine below_set ?_ GB22.out | refine below_set ?_ GE143.out | refine below_set ?_ GE144.out) | exact HB.out)⟩⟩
          · rw [if_neg c20] at H
            exact absurd H (by simp)
        · rw [if_neg c19] at H
          exact absurd H (by simp)
      · rw [if_neg c18] at H
        have c18b0 : decide (x22_1 < (t148.length : Int)) = false := decide_eq_false c18
        clear c18
        replace H := Option.bind_eq_some_iff.mp H
        obtain ⟨t156, A290, H⟩ := H
        replace H : (if 0 ≤ a1 then (if a1 < (t145.length : Int) then (if a1 < (x144002_1.length : Int) then (some (a0_0, (t145.set (a1 : Int).toNat a2), (x144002_1.set (a1 : Int).toNat t156))) else (none)) else (none)) else (none)) = some (r1, r2, r3) := H
        have A29 := Aside0.mk A290
        clear A290
        by_cases c30 : 0 ≤ a1
        · rw [if_pos c30] at H
          have c30b0 : decide (0 ≤ a1) = true := decide_eq_true c30
          clear c30
          by_cases c31 : a1 < (t145.length : Int)
          · rw [if_pos c31] at H
            have c31b0 : decide (a1 < (t145.length : Int)) = true := decide_eq_true c31
            clear c31
            obtain ⟨y159, hy159⟩ : ∃ y_ : List Int, y_ = (t145.set (a1 : Int).toNat a2) := ⟨_, rfl⟩
            replace H : (if a1 < (x144002_1.length : Int) then (some (a0_0, y159, (x144002_1.set (a1 : Int).toNat t156))) else (none)) = some (r1, r2, r3) := by first | (rw [hy159]; with_reducible exact H) | (have H2_ := (Option.bind_some _ _).symm.trans H; rw [hy159]; with_reducible exact H2_) | (have H2_ := (Option.bind_some _ _).symm.trans H; with_reducible exact H2_) | with_reducible exact H | (rw [hy159]; exact H) | exact H
            have Ny159 := Aside0.mk hy159
            clear hy159
            by_cases c33 : a1 < (x144002_1.length : Int)
            · rw [if_pos c33] at H
              have c33b0 : decide (a1 < (x144002_1.length : Int)) = true := decide_eq_true c33
              clear c33
              obtain ⟨y160, hy160⟩ : ∃ y_ : List (List Int), y_ = (x144002_1.set (a1 : Int).toNat t156) := ⟨_, rfl⟩
              replace H : (some (a0_0, y159, y160)) = some (r1, r2, r3) := by first | (rw [hy160]; with_reducible exact H) | (have H2_ := (Option.bind_some _ _).symm.trans H; rw [hy160]; with_reducible exact H2_) | (have H2_ := (Option.bind_some _ _).symm.trans H; with_reducible exact H2_) | with_reducible exact H | (rw [hy160]; exact H) | exact H
              have Ny160 := Aside0.mk hy160
              clear hy160
              simp only [Option.some.injEq, Prod.mk.injEq] at H
              obtain ⟨rfl, rfl, rfl⟩ := H
              try go_wp2
              have n0_ := Aside0.mk (Kd.R_drew HO_144001.out)
              have n1_ := Aside0.mk (Kd.N_drew HO_144002.out)
              have n2_ := Aside0.mk (blk_drew BK143.out)
              have n3_ := Aside0.mk (blk_drew BK144.out)
              have n4_ := Aside0.mk (below_drew1 HB.out)
              clear HO_144001
              clear HO_144002
              clear BK143
              clear BK144
              clear HB
              have HO_144001 := n0_
              have HO_144002 := n1_
              have BK143 := n2_
              have BK144 := n3_
              have HB := n4_
              clear n0_ n1_ n2_ n3_ n4_
              refine start_ (n := 13) (S := fun w' => w'.cell? ⟨gb143, 0, none⟩ = some (.int .i64 a0_0) ∧ w'.cell? ⟨gb143, 1, none⟩ = some (.slice Ao12 t145.length co12) ∧ w'.cell? ⟨gb143, 2, none⟩ = some (u144002)) (ds := [12]) #[false, false, false, false, false, false, false, false, false, false, false, false, false] (by kernel_rfl) rfl rfl ⟨(blk_cell BK143.out 0).trans rfl, (blk_cell BK143.out 1).trans rfl, (blk_cell BK143.out 2).trans rfl⟩ (fun hHeld => ?_); refine with_tabW slots_with.tab7 slots_with.bits7 (fun HT_ HW_ => ?_)
              generalize wr.drew = w35 at HO_144001 HO_144002 BK143 BK144 HB hHeld ⊢
              refine pure_ (i := 0) (N := some 34) (v := ?_) (a' := ?_) #[true, false, false, false, false, false, false, false, false, false, false, false, false] rfl rfl (any_of HT_.out (by kernel_rfl)) (fun _ _ _ h => h) (Or.inl ⟨by rfl, ?_⟩) ?_ ?_
              rotate_left
              · intro w'
                go_simp
                with_reducible rfl
              rotate_left
              · simp only [Act.put, List.setIfInBounds_toArray, List.set_cons_zero, List.set_cons_succ, i64_w, i32_w]
                rfl
              refine pure_ (i := 2) (N := some 36) (v := ?_) (a' := ?_) #[true, false, true, false, false, false, false, false, false, false, false, false, false] rfl rfl (any_of HT_.out (by kernel_rfl)) (fun _ _ _ h => h) (Or.inl ⟨by rfl, ?_⟩) ?_ ?_
              rotate_left
              · intro w'
                go_simp
                with_reducible rfl
              rotate_left
              · simp only [Act.put, List.setIfInBounds_toArray, List.set_cons_zero, List.set_cons_succ, i64_w, i32_w]
                rfl
              refine pure_ (i := 3) (N := some 37) (v := ?_) (a' := ?_) #[true, false, true, true, false, false, false, false, false, false, false, false, false] rfl rfl (any_of HT_.out (by kernel_rfl)) (fun _ _ _ h => h) (Or.inl ⟨by rfl, ?_⟩) ?_ ?_
              rotate_left
              · intro w'
                go_simp
                with_reducible rfl
              rotate_left
              · simp only [Act.put, List.setIfInBounds_toArray, List.set_cons_zero, List.set_cons_succ, i64_w, i32_w]
                rfl
              refine pure_ (i := 5) (N := some 39) (v := ?_) (a' := ?_) #[true, false, true, true, false, true, false, false, false, false, false, false, false] rfl rfl (any_of HT_.out (by kernel_rfl)) (fun _ _ _ h => h) (Or.inl ⟨by rfl, ?_⟩) ?_ ?_
              rotate_left
              · intro w'
                go_simp
                with_reducible rfl
              rotate_left
              · simp only [Act.put, List.setIfInBounds_toArray, List.set_cons_zero, List.set_cons_succ, i64_w, i32_w]
                rfl
              refine pure_ (i := 6) (N := some 40) (v := ?_) (a' := ?_) #[true, false, true, true, false, true, true, false, false, false, false, false, false] rfl rfl (any_of HT_.out (by kernel_rfl)) (fun _ _ _ h => h) (Or.inl ⟨by rfl, ?_⟩) ?_ ?_
              rotate_left
              · intro w'
                go_simp
                with_reducible rfl
              rotate_left
              · simp only [Act.put, List.setIfInBounds_toArray, List.set_cons_zero, List.set_cons_succ, i64_w, i32_w]
                rfl
              refine pure_ (i := 7) (N := some 41) (v := ?_) (a' := ?_) #[true, false, true, true, false, true, true, true, false, false, false, false, false] rfl rfl (any_of HT_.out (by kernel_rfl)) (fun _ _ _ h => h) (Or.inl ⟨by rfl, ?_⟩) ?_ ?_
              rotate_left
              · intro w'
                go_simp
                with_reducible rfl
              rotate_left
              · simp only [Act.put, List.setIfInBounds_toArray, List.set_cons_zero, List.set_cons_succ, i64_w, i32_w]
                rfl
              refine take_ (i := 1) (N := some 35) (v := ?_) (a' := ?_) #[true, true, true, true, false, true, true, true, false, false, false, false, false] rfl rfl (take_ofW HT_.out HW_.out (by kernel_rfl)) (fun _ _ _ h => h) (Or.inl ⟨by rfl, ?_⟩) hHeld ?_ ?_
              rotate_left
              · rintro w' ⟨s0, s1, s2⟩
                go_simp
                with_reducible rfl
              rotate_left
              · simp only [Act.put, List.setIfInBounds_toArray, List.set_cons_zero, List.set_cons_succ, i64_w, i32_w]
                rfl
              refine take_ (i := 4) (N := some 38) (v := ?_) (a' := ?_) #[true, true, true, true, true, true, true, true, false, false, false, false, false] rfl rfl (take_ofW HT_.out HW_.out (by kernel_rfl)) (fun _ _ _ h => h) (Or.inl ⟨by rfl, ?_⟩) hHeld ?_ ?_
              rotate_left
              · rintro w' ⟨s0, s1, s2⟩
                go_simp
                with_reducible rfl
              rotate_left
              · simp only [Act.put, List.setIfInBounds_toArray, List.set_cons_zero, List.set_cons_succ, i64_w, i32_w]
                rfl
              refine one_ (i := 8) (N := some 42) #[true, true, true, true, true, true, true, true, true, false, false, false, false] rfl rfl (one_of HT_.out (by kernel_rfl)) (by decide) (fun K hK => ?_)
              refine goes_ Try.func98 (by kernel_rfl) rfl #[.slice A3 l3.length c3] (by rfl) rfl rfl (by (try simp only [List.map_toArray, List.map_cons, List.map_nil]); first | done | rfl | (simp only [List.length_drop, List.length_take]; rfl)) ?_
              with_reducible refine (api_Vec_int16_98.calls _ _ l3 t156 _ ?side1 ?side2 A29.out).mono ?_
              (case side1 => repeat (first | exact (Kd.C_below HR3.out HB.out) | (with_reducible refine Kd.C_alloc ?_ _) | (with_reducible refine Kd.C_drewN ?_ _) | (with_reducible refine Kd.C_drew ?_)))
              (case side2 => exact HC3.out)
              rintro e w36 ⟨v157, rfl, ho0, hb⟩
              obtain ⟨Av157, cv157, ev157⟩ := Kd.R_slice ho0
              subst ev157
              refine ⟨_, rfl, ?_⟩
              have n0_ := Aside0.mk (Kd.R_below (by (with_reducible repeat (first | apply Kd.R_alloc | apply Kd.R_drewN | apply Kd.R_drew)); exact HO_144001.out) hb)
              have n1_ := Aside0.mk (Kd.N_elder' (by (with_reducible repeat (first | apply Kd.N_alloc | apply Kd.N_drewN | apply Kd.N_drew)); exact HO_144002.out) (Kd.R_base ho0) hb)
              have n2_ := Aside0.mk (Kd.R_lower (Kd.R_newM (M := fun k_ => (w.heap.size ≤ k_)) ho0 (below_size (by repeat (first | (with_reducible first | exact HB.out | apply below_alloc | apply pw_below_drewN | apply below_drew1 | refine below_set ?_ GE143.out | refine below_set ?_ GE144.out) | exact HB.out))) (fun k_ h_ => h_)) (below_size (by repeat (first | (with_reducible first | exact HB.out | apply below_alloc | apply pw_below_drewN | apply below_drew1 | refine below_set ?_ GE143.out | refine below_set ?_ GE144.out) | exact HB.out))))
              have n3_ := Aside0.mk (blk_below (g := gb143) (o := .cells #[.int .i64 a0_0, .slice Ao12 t145.length co12, u144002] 25 (0, 0)) (by (with_reducible repeat (first | refine blk_drewN ?_ _ | refine blk_drew ?_ | refine blk_alloc ?_ _)); exact BK143.out) hb)
              have n4_ := Aside0.mk (blk_below (g := gb144) (o := .cells #[.int .i64 0, .slice none 0 0, .slice none 0 0] 25 (0, 0)) (by (with_reducible repeat (first | refine blk_drewN ?_ _ | refine blk_drew ?_ | refine blk_alloc ?_ _)); exact BK144.out) hb)
              have n5_ := Aside0.mk (below_step (by repeat (first | (with_reducible first | exact HB.out | apply below_alloc | apply pw_below_drewN | apply below_drew1 | refine below_set ?_ GE143.out | refine below_set ?_ GE144.out) | exact HB.out)) hb)
              clear HO_144001
              clear HO_144002
              clear BK143
              clear BK144
              clear HB
              have HO_144001 := n0_
              have HO_144002 := n1_
              have HO158 := n2_
              have BK143 := n3_
              have BK144 := n4_
              have HB := n5_
              clear n0_ n1_ n2_ n3_ n4_ n5_
              (try clear hb)
              (try clear hb2)
              (try clear hk)
              (try clear hi)
              (try clear ho0)
              have p32 : 0 ≤ (a1 : Int) := of_decide_eq_true (by first | (with_reducible assumption) | assumption)
              have q32 : (a1 : Int) < ((t145.length : Int) : Int) := of_decide_eq_true (by first | (with_reducible assumption) | assumption)
              obtain ⟨go32, co32, eo32, gb32, gl32, cl32, HG32⟩ := Kd.R_form HO_144001.out (by omega)
              (first | cases eo32 | (injection eo32 with ea_ en_ ec_; (first | subst ea_ | (injection ea_ with ea_; subst ea_)); subst ec_; clear en_))
              have GB32 := Aside0.mk gb32
              have GG32 := Aside0.mk HG32
              clear gb32 gl32 HG32
              obtain ⟨hx32_0, hf32_0⟩ := Kd.R_celln 0 HO_144001.out (a1 : Int) p32 q32
              replace p32 := eq_true p32
              replace q32 := eq_true q32
              have HP37 := Kd.R_putn HO_144001.out (a1 : Int) a2
              rw [← Ny159.out] at HP37
              have HQ37 := Aside0.mk HP37
              clear HP37
              refine hK.out _ _ ⟨(blk_cell BK143.out 0).trans rfl, (blk_cell BK143.out 1).trans rfl, (blk_cell BK143.out 2).trans rfl⟩ (fun hHeld => ?_)
              clear hK K
              refine norm_ (a' := ?_) ?_ ?_
              rotate_left
              · show Act.put _ (some 42) _ = _
                simp only [Act.put, List.setIfInBounds_toArray, List.set_cons_zero, List.set_cons_succ, i64_w, i32_w]
                rfl
              refine pure_ (i := 9) (N := some 43) (v := ?_) (a' := ?_) #[true, true, true, true, true, true, true, true, true, true, false, false, false] rfl rfl (any_of HT_.out (by kernel_rfl)) (fun _ _ _ h => h) (Or.inl ⟨by rfl, ?_⟩) ?_ ?_
              rotate_left
              · intro w'
                go_simp
                with_reducible rfl
              rotate_left
              · simp only [Act.put, List.setIfInBounds_toArray, List.set_cons_zero, List.set_cons_succ, i64_w, i32_w]
                rfl
              refine one_ (i := 10) (N := none) #[true, true, true, true, true, true, true, true, true, true, true, false, false] rfl rfl (one_of HT_.out (by kernel_rfl)) (by decide) (fun K hK => ?_)
              refine skip_ (w1 := ?_) (by rfl) rfl ?_ ?_
              rotate_left
              · go_simp
                rfl
              have n0_ : Aside0 (Kd.R (Kd.int .i64) 2 (w36.setCell ⟨go32, (a1 : Int).toNat, none⟩ (.int .i64 a2)) w.heap.size (fun k_ => (w.heap.size ≤ k_)) (.slice (some ⟨go32, 0, none⟩) t145.length co12) y159) := ⟨by (with_reducible repeat (first | apply Kd.R_alloc | apply Kd.R_drewN | apply Kd.R_drew)); exact HQ37.out⟩
              have n1_ : Aside0 (Kd.N (Kd.slice 74 (Kd.int .i16)) 27 (w36.setCell ⟨go32, (a1 : Int).toNat, none⟩ (.int .i64 a2)) w.heap.size (fun k_ => (P0_2_ k_ ∨ w.heap.size ≤ k_) ∧ some k_ ≠ (.slice (some ⟨go32, 0, none⟩) t145.length co12 : Value).ownBlock ∧ some k_ ≠ ((.slice Av157 t156.length cv157) : Value).ownBlock ∧ k_ ≠ gb143 ∧ k_ ≠ gb144) u144002 x144002_1) := ⟨by (with_reducible repeat (first | apply Kd.N_alloc | apply Kd.N_drewN | apply Kd.N_drew)); exact Kd.N_mono (Kd.N_far (p := ⟨go32, (a1 : Int).toNat, none⟩) (Kd.N_mono HO_144002.out (fun k_ hk => (⟨hk, fun e_ => hk.1.2.1 (by rw [e_]; rfl)⟩ : _ ∧ k_ ≠ go32))) (fun _ hk => hk.2) (.int .i64 a2)) (fun _ hk => ⟨hk.1.1.1, ⟨hk.1.1.2.1, ⟨hk.1.2, ⟨hk.1.1.2.2.1, hk.1.1.2.2.2⟩⟩⟩⟩)⟩
              have n2_ : Aside0 (Kd.R (Kd.int .i16) 74 (w36.setCell ⟨go32, (a1 : Int).toNat, none⟩ (.int .i64 a2)) w.heap.size (fun k_ => (w.heap.size ≤ k_)) (.slice Av157 t156.length cv157) t156) := ⟨by (with_reducible repeat (first | apply Kd.R_alloc | apply Kd.R_drewN | apply Kd.R_drew)); exact Kd.R_mono (Kd.R_far (p := ⟨go32, (a1 : Int).toNat, none⟩) (Kd.R_types HO158.out GG32.out (by decide)) (fun _ hk => hk.2) (.int .i64 a2)) (fun _ hk => hk.1.1)⟩
              have n3_ : Aside0 ((w36.setCell ⟨go32, (a1 : Int).toNat, none⟩ (.int .i64 a2)).heap[gb143]? = some (.cells #[.int .i64 a0_0, .slice (some ⟨go32, 0, none⟩) t145.length co12, u144002] 25 (0, 0))) := ⟨by (with_reducible repeat (first | refine blk_drewN ?_ _ | refine blk_drew ?_ | refine blk_alloc ?_ _)); refine blk_far ?_ (by have h_ := Kd.R_ne HO_144001.out BK143.out (by decide); intro e_; exact h_ (by rw [e_]; rfl)) _; (with_reducible repeat (first | refine blk_drewN ?_ _ | refine blk_drew ?_ | refine blk_alloc ?_ _)); exact BK143.out⟩
              have n4_ : Aside0 ((w36.setCell ⟨go32, (a1 : Int).toNat, none⟩ (.int .i64 a2)).heap[gb144]? = some (.cells #[.int .i64 0, .slice none 0 0, .slice none 0 0] 25 (0, 0))) := ⟨by (with_reducible repeat (first | refine blk_drewN ?_ _ | refine blk_drew ?_ | refine blk_alloc ?_ _)); refine blk_far ?_ (by have h_ := Kd.R_ne HO_144001.out BK144.out (by decide); intro e_; exact h_ (by rw [e_]; rfl)) _; (with_reducible repeat (first | refine blk_drewN ?_ _ | refine blk_drew ?_ | refine blk_alloc ?_ _)); exact BK144.out⟩
              have n5_ : Aside0 (Below w.heap.size w (w36.setCell ⟨go32, (a1 : Int).toNat, none⟩ (.int .i64 a2))) := ⟨by repeat (first | (with_reducible first | exact HB.out | apply below_alloc | apply pw_below_drewN | apply below_drew1 | refine below_set ?_ GB32.out | refine below_set ?_ GE143.out | refine below_set ?_ GE144.out) | exact HB.out)⟩
              refine hK.out _ _ ⟨(blk_cell n3_.out 0).trans rfl, (blk_cell n3_.out 1).trans rfl, (blk_cell n3_.out 2).trans rfl⟩ (fun hHeld => ?_)
              clear hK K
              (try clear HO_144001)
              (try clear HO_144002)
              (try clear HO158)
              (try clear BK143)
              (try clear BK144)
              (try clear HB)
              generalize (w36.setCell ⟨go32, (a1 : Int).toNat, none⟩ (.int .i64 a2)) = w38 at n0_ n1_ n2_ n3_ n4_ n5_ hHeld ⊢
              have HO_144001 := n0_
              have HO_144002 := n1_
              have HO158 := n2_
              have BK143 := n3_
              have BK144 := n4_
              have HB := n5_
              clear n0_ n1_ n2_ n3_ n4_ n5_
              have hnb39 := NB143_144.out
              have hnc39 := NB144_143.out
              have hcz40_0 : w38.cell? ⟨gb143, 0, none⟩ = some (.int .i64 a0_0) := (blk_cell BK143.out 0).trans rfl
              have hcz40_1 : w38.cell? ⟨gb143, 1, none⟩ = some (.slice (some ⟨go32, 0, none⟩) t145.length co12) := (blk_cell BK143.out 1).trans rfl
              have hcz40_2 : w38.cell? ⟨gb143, 2, none⟩ = some (u144002) := (blk_cell BK143.out 2).trans rfl
              have hfz40_0 := blk_frozen BK143.out 0
              have hfz40_1 := blk_frozen BK143.out 1
              have hfz40_2 := blk_frozen BK143.out 2
              have p34 : 0 ≤ (a1 : Int) := of_decide_eq_true (by first | (with_reducible assumption) | assumption)
              have q34 : (a1 : Int) < ((x144002_1.length : Int) : Int) := of_decide_eq_true (by first | (with_reducible assumption) | assumption)
              obtain ⟨go34, co34, eo34, gb34, gl34, cl34, HG34⟩ := Kd.N_form HO_144002.out (by omega)
              (first | cases eo34 | (injection eo34 with ea_ en_ ec_; (first | subst ea_ | (injection ea_ with ea_; subst ea_)); subst ec_; clear en_))
              have GB34 := Aside0.mk gb34
              have GG34 := Aside0.mk HG34
              clear gb34 gl34 HG34
              obtain ⟨ce34, hcl34, hM34, hcc34, hfr34⟩ := Kd.N_elem HO_144002.out [] (a1 : Int) p34 q34
              obtain ⟨ua34_0, uc34_0, rfl, ul34_0, ge34_0⟩ := Kd.FK_slice_open hM34
              have hx34_0 := hcc34 0 _ rfl
              have hf34_0 := hfr34 0
              (try simp only [show ((Kd.slice 74 (Kd.int .i16))).sz = 1 from rfl, Nat.mul_one, Nat.add_zero] at hx34_0)
              (try simp only [show ((Kd.slice 74 (Kd.int .i16))).sz = 1 from rfl, Nat.mul_one, Nat.add_zero] at hf34_0)
              clear hcl34 hcc34 hfr34 
              try clear hM34
              replace p34 := eq_true p34
              replace q34 := eq_true q34
              have HX41 := Aside0.mk (show Kd.N (Kd.slice 74 (Kd.int .i16)) 27 w38 w.heap.size (fun k_ => (P0_2_ k_ ∨ w.heap.size ≤ k_) ∧ some k_ ≠ (.slice (some ⟨go32, 0, none⟩) t145.length co12 : Value).ownBlock ∧ k_ ≠ gb143 ∧ k_ ≠ gb144) (.slice (some ⟨go34, 0, none⟩) x144002_1.length co34) x144002_1 from (by (with_reducible repeat (first | apply Kd.N_alloc | apply Kd.N_drewN | apply Kd.N_drew)); exact Kd.N_mono HO_144002.out (fun _ hk => ⟨hk.1, ⟨hk.2.1, ⟨hk.2.2.2.1, hk.2.2.2.2⟩⟩⟩)))
              obtain ⟨ce41, hcl41, hM41, hcc41, hfr41⟩ := Kd.N_elem HX41.out [] (a1 : Int) (of_decide_eq_true (by first | (with_reducible assumption) | assumption)) (by have h_ : (a1 : Int) < ((x144002_1.length : Int) : Int) := of_decide_eq_true (by first | (with_reducible assumption) | assumption); first | exact h_ | (have e_ := (Kd.N_reads' HO_144002.out).1; omega) | simpa using h_)
              obtain ⟨ua41_0, uc41_0, rfl, ul41_0, ge41_0⟩ := Kd.FK_slice_open hM41
              have hB_ := (Kd.R_types (Kd.R_types (Kd.R_apart' (Kd.R_apart' (HO158.out) (Kd.R_typed HO_144001.out) (by decide)) (Kd.N_typed HO_144002.out) (by decide)) BK143.out (by decide)) BK144.out (by decide))
              have HP41 := Kd.N_seg HX41.out (a1 : Int) (of_decide_eq_true (by first | (with_reducible assumption) | assumption)) (by have h_ : (a1 : Int) < ((x144002_1.length : Int) : Int) := of_decide_eq_true (by first | (with_reducible assumption) | assumption); first | exact h_ | (have e_ := (Kd.N_reads' HO_144002.out).1; omega) | simpa using h_) (seg := [(.slice Av157 t156.length cv157)]) (j := 0) hcl41 hcc41 (show 1 ≤ 1 from by decide) (x' := t156) (Kd.FK_slice_mk (Kd.R_reads' (Kd.R_mono (ok' := (fun k_ => ((fun k_ => (P0_2_ k_ ∨ w.heap.size ≤ k_) ∧ some k_ ≠ (.slice (some ⟨go32, 0, none⟩) t145.length co12 : Value).ownBlock ∧ k_ ≠ gb143 ∧ k_ ≠ gb144)) k_ ∧ k_ ≠ go34)) hB_ (fun k_ hk => ⟨⟨(.inr (hk.1.1.1.1)), ⟨hk.1.1.1.2, ⟨hk.1.2, hk.2⟩⟩⟩, fun e_ => (hk.1.1.2) (by rw [e_]; rfl)⟩))).2.1 (Kd.R_F (Kd.R_mono (ok' := (fun k_ => ((fun k_ => (P0_2_ k_ ∨ w.heap.size ≤ k_) ∧ some k_ ≠ (.slice (some ⟨go32, 0, none⟩) t145.length co12 : Value).ownBlock ∧ k_ ≠ gb143 ∧ k_ ≠ gb144)) k_ ∧ k_ ≠ go34)) hB_ (fun k_ hk => ⟨⟨(.inr (hk.1.1.1.1)), ⟨hk.1.1.1.2, ⟨hk.1.2, hk.2⟩⟩⟩, fun e_ => (hk.1.1.2) (by rw [e_]; rfl)⟩)))) (fun _ hk => hk)
              clear hB_
              have hx41_0 := hcc41 0 _ rfl
              (try simp only [show ((Kd.slice 74 (Kd.int .i16))).sz = 1 from rfl, Nat.mul_one, Nat.add_zero] at hx41_0)
              have hf41_0 := hfr41 0
              (try simp only [show ((Kd.slice 74 (Kd.int .i16))).sz = 1 from rfl, Nat.mul_one, Nat.add_zero] at hf41_0)
              clear hcl41 hcc41 hfr41 
              try clear hM41
              (try simp only [show ((Kd.slice 74 (Kd.int .i16))).sz = 1 from rfl, Nat.mul_one, Nat.add_zero] at HP41)
              (try simp only [show ((Kd.slice 74 (Kd.int .i16))).sz = 1 from rfl, Nat.mul_one, Nat.add_zero] at HP41)
              refine pure_ (i := 11) (N := some 44) (v := ?_) (a' := ?_) #[true, true, true, true, true, true, true, true, true, true, true, true, false] rfl rfl (any_of HT_.out (by kernel_rfl)) (fun _ _ _ h => h) (Or.inl ⟨by rfl, ?_⟩) ?_ ?_
              rotate_left
              · intro w'
                go_simp
                with_reducible rfl
              rotate_left
              · simp only [Act.put, List.setIfInBounds_toArray, List.set_cons_zero, List.set_cons_succ, i64_w, i32_w]
                rfl
              refine last_ (i := 12) (N := none) #[true, true, true, true, true, true, true, true, true, true, true, true, true] rfl rfl (one_of HT_.out (by kernel_rfl)) (by decide) (fun K hK => ?_)
              refine skip_ (w1 := ?_) (by rfl) rfl ?_ ?_
              rotate_left
              · go_simp
                rfl
              refine hK.out _ _ ?_
              clear hK K
              refine done_ (done_of HT_.out (by kernel_rfl)) ?_
              obtain ⟨w42, hw⟩ : ∃ w_ : World, w_ = (w38.setCell ⟨go34, (a1 : Int).toNat, none⟩ ((.slice Av157 t156.length cv157))) := ⟨_, rfl⟩
              rw [← hw]
              have hg : w38.grownBy w42 (some go34) := (by rw [hw]; exact HP41.2)
              have hp_ : Kd.N (Kd.slice 74 (Kd.int .i16)) 27 w42 w.heap.size (fun k_ => (P0_2_ k_ ∨ w.heap.size ≤ k_) ∧ some k_ ≠ (.slice (some ⟨go32, 0, none⟩) t145.length co12 : Value).ownBlock ∧ k_ ≠ gb143 ∧ k_ ≠ gb144) (.slice (some ⟨go34, 0, none⟩) x144002_1.length co34) y160 := (by rw [hw, Ny160.out]; exact HP41.1)
              clear HP41
              have n0_ := Aside0.mk (Kd.R_over' (v := (.slice (some ⟨go34, 0, none⟩) x144002_1.length co34)) (by (with_reducible repeat (first | apply Kd.R_alloc | apply Kd.R_drewN | apply Kd.R_drew)); exact HO_144001.out) (Kd.N_typed HO_144002.out) (by decide) hg)
              have n1_ := Aside0.mk (hp_)
              have n2_ := Aside0.mk (blk_grown (g := gb143) (o := .cells #[.int .i64 a0_0, .slice (some ⟨go32, 0, none⟩) t145.length co12, .slice (some ⟨go34, 0, none⟩) x144002_1.length co34] 25 (0, 0)) (by (with_reducible repeat (first | refine blk_drewN ?_ _ | refine blk_drew ?_ | refine blk_alloc ?_ _)); exact BK143.out) hg (Kd.N_ne HO_144002.out BK143.out (by decide)))
              have n3_ := Aside0.mk (blk_grown (g := gb144) (o := .cells #[.int .i64 0, .slice none 0 0, .slice none 0 0] 25 (0, 0)) (by (with_reducible repeat (first | refine blk_drewN ?_ _ | refine blk_drew ?_ | refine blk_alloc ?_ _)); exact BK144.out) hg (Kd.N_ne HO_144002.out BK144.out (by decide)))
              have n4_ := Aside0.mk ((by rw [hw]; exact below_set (HB.out) GB34.out : Below w.heap.size w w42))
              clear HO_144001
              clear HO_144002
              clear BK143
              clear BK144
              clear HB
              clear HO158
              have HO_144001 := n0_
              have HO_144002 := n1_
              have BK143 := n2_
              have BK144 := n3_
              have HB := n4_
              clear n0_ n1_ n2_ n3_ n4_
              clear hg hw hp_
              have hcz43_0 : w42.cell? ⟨gb143, 0, none⟩ = some (.int .i64 a0_0) := (blk_cell BK143.out 0).trans rfl
              have hcz43_1 : w42.cell? ⟨gb143, 1, none⟩ = some (.slice (some ⟨go32, 0, none⟩) t145.length co12) := (blk_cell BK143.out 1).trans rfl
              have hcz43_2 : w42.cell? ⟨gb143, 2, none⟩ = some (.slice (some ⟨go34, 0, none⟩) x144002_1.length co34) := (blk_cell BK143.out 2).trans rfl
              have hfz43_0 := blk_frozen BK143.out 0
              have hfz43_1 := blk_frozen BK143.out 1
              have hfz43_2 := blk_frozen BK143.out 2
              have hcz44_0 : w42.cell? ⟨gb144, 0, none⟩ = some (.int .i64 0) := (blk_cell BK144.out 0).trans rfl
              have hcz44_1 : w42.cell? ⟨gb144, 1, none⟩ = some (.slice none 0 0) := (blk_cell BK144.out 1).trans rfl
              have hcz44_2 : w42.cell? ⟨gb144, 2, none⟩ = some (.slice none 0 0) := (blk_cell BK144.out 2).trans rfl
              have hfz44_0 := blk_frozen BK144.out 0
              have hfz44_1 := blk_frozen BK144.out 1
              have hfz44_2 := blk_frozen BK144.out 2
              try go_wp2
              refine bodyPost_ret (results_cell_row rfl _ _ gb144 25 #[.int .i64 a0_0, .slice (some ⟨go32, 0, none⟩) t145.length co12, .slice (some ⟨go34, 0, none⟩) x144002_1.length co34] (0, 0) _ rfl (by (with_reducible repeat (first | refine blk_drewN ?_ _ | refine blk_drew ?_ | refine blk_alloc ?_ _)); refine blk_put (cs := #[.int .i64 a0_0, .slice (some ⟨go32, 0, none⟩) t145.length co12, .slice none 0 0]) ?_ 2 _ rfl; (with_reducible repeat (first | refine blk_drewN ?_ _ | refine blk_drew ?_ | refine blk_alloc ?_ _)); refine blk_put (cs := #[.int .i64 a0_0, .slice none 0 0, .slice none 0 0]) ?_ 1 _ rfl; (with_reducible repeat (first | refine blk_drewN ?_ _ | refine blk_drew ?_ | refine blk_alloc ?_ _)); refine blk_put (cs := #[.int .i64 0, .slice none 0 0, .slice none 0 0]) ?_ 0 _ rfl; (with_reducible repeat (first | refine blk_drewN ?_ _ | refine blk_drew ?_ | refine blk_alloc ?_ _)); exact BK144.out) Try.underlying25 rfl (by kernel_rfl)) rfl ?_
              exact ⟨_, _, by first | rfl | (simp [errW_none, errW_some] <;> rfl) | (simp [*, errW_none, errW_some] <;> rfl), by (with_reducible repeat (first | apply Kd.R_alloc | apply Kd.R_drewN | apply Kd.R_drew)); exact Kd.R_mono (Kd.R_far (p := ⟨gb144, 2, none⟩) (Kd.R_far (p := ⟨gb144, 1, none⟩) (Kd.R_far (p := ⟨gb144, 0, none⟩) (Kd.R_types HO_144001.out BK144.out (by decide)) (fun _ hk => hk.2) (.int .i64 a0_0)) (fun _ hk => hk.2) (.slice (some ⟨go32, 0, none⟩) t145.length co12)) (fun _ hk => hk.2) (.slice (some ⟨go34, 0, none⟩) x144002_1.length co34)) (fun _ hk => hk.1), by (with_reducible repeat (first | apply Kd.N_alloc | apply Kd.N_drewN | apply Kd.N_drew)); exact Kd.N_mono (Kd.N_far (p := ⟨gb144, 2, none⟩) (Kd.N_far (p := ⟨gb144, 1, none⟩) (Kd.N_far (p := ⟨gb144, 0, none⟩) (Kd.N_mono HO_144002.out (fun k_ hk => (⟨hk, hk.2.2.2⟩ : _ ∧ k_ ≠ gb144))) (fun _ hk => hk.2) (.int .i64 a0_0)) (fun _ hk => hk.2) (.slice (some ⟨go32, 0, none⟩) t145.length co12)) (fun _ hk => hk.2) (.slice (some ⟨go34, 0, none⟩) x144002_1.length co34)) (fun _ hk => ⟨hk.1.1, hk.1.2.1⟩), by repeat (first | (with_reducible first | exact HB.out | apply below_alloc | apply pw_below_drewN | apply below_drew1 | refine below_set ?_ GE143.out | refine below_set ?_ GE144.out) | exact HB.out)⟩
            · rw [if_neg c33] at H
              exact absurd H (by simp)
          · rw [if_neg c31] at H
            exact absurd H (by simp)
        · rw [if_neg c30] at H
          exact absurd H (by simp)

end Go.Proofs.Ytkjibgfgbfacdaa.P
end
/-! part: F124 -/
section
set_option linter.unusedVariables false
set_option linter.unusedSimpArgs false
namespace Go.Proofs.Ytkjibgfgbfacdaa.P
open Go.RowKit Go.Proofs.YtkjibgfgbfacdaaW.PrintWords Go.Proofs.YtkjibgfgbfacdaaW.PrintLast Go.Proofs.YtkjibgfgbfacdaaW.PrintMore
attribute [local go_sem] max2_int min2_int max_two min_two max_three min_three max_four min_four   -- for this text's walks alone
set_option linter.unusedVariables false
set_option linter.unusedSimpArgs false

/-! ### slots_within: function 124 -/
def slots_within.f (a0 : Int) (a1 : Int) : Option (Bool) := if a0 ≥ 1 then (some (decide (a0 ≤ a1))) else (some false)
set_option maxHeartbeats 8000000 in
set_option maxRecDepth 100000 in
theorem slots_within.calls (a0 : Int) (a1 : Int) (r : Bool) (w : World) (h : slots_within.f a0 a1 = some r) :
    Calls Try.prog 124 #[.int .i64 a0, .int .i64 a1] w fun e w' => e = .returned (.bool r) ∧ Drawn0 w w' := by
  have H : (if a0 ≥ 1 then (some (decide (a0 ≤ a1))) else (some false)) = some r := h
  clear h
  by_cases c3 : a0 ≥ 1
  · rw [if_pos c3] at H
    have c3b0 : decide (1 ≤ a0) = true := decide_eq_true c3
    clear c3
    obtain rfl := Option.some.inj H
    go_enter Try.func124, Try.ntmps124
    go_wp2
    go_ret
    exact ⟨by first | rfl | (simp; done) | (simp [*]; done), by repeat (first | exact Drawn0.refl _ | apply Drawn0.step)⟩
  · rw [if_neg c3] at H
    have c3b0 : decide (1 ≤ a0) = false := decide_eq_false c3
    clear c3
    obtain rfl := Option.some.inj H
    go_enter Try.func124, Try.ntmps124
    go_wp2
    go_ret
    exact ⟨by first | rfl | (simp; done) | (simp [*]; done), by repeat (first | exact Drawn0.refl _ | apply Drawn0.step)⟩

end Go.Proofs.Ytkjibgfgbfacdaa.P
end
/-! part: F92 -/
section
set_option linter.unusedVariables false
set_option linter.unusedSimpArgs false
namespace Go.Proofs.Ytkjibgfgbfacdaa.P
open Go.RowKit Go.Proofs.YtkjibgfgbfacdaaW.PrintWords Go.Proofs.YtkjibgfgbfacdaaW.PrintLast Go.Proofs.YtkjibgfgbfacdaaW.PrintMore
attribute [local go_sem] max2_int min2_int max_two min_two max_three min_three max_four min_four   -- for this text's walks alone
set_option linter.unusedVariables false
set_option linter.unusedSimpArgs false

/-! ### slots_is: function 92 -/
def slots_is.f (a0 : Int) : Option (Bool) := if a0 ≥ 0 then (some (decide (a0 ≤ 2147483647))) else (some false)
set_option maxHeartbeats 8000000 in
set_option maxRecDepth 100000 in
theorem slots_is.calls (a0 : Int) (r : Bool) (w : World) (h : slots_is.f a0 = some r) :
    Calls Try.prog 92 #[.int .i64 a0] w fun e w' => e = .returned (.bool r) ∧ Drawn0 w w' := by
  have H : (if a0 ≥ 0 then (some (decide (a0 ≤ 2147483647))) else (some false)) = some r := h
  clear h
  by_cases c2 : a0 ≥ 0
  · rw [if_pos c2] at H
    have c2b0 : decide (0 ≤ a0) = true := decide_eq_true c2
    clear c2
    obtain rfl := Option.some.inj H
    go_enter Try.func92, Try.ntmps92
    go_wp2
    go_ret
    exact ⟨by first | rfl | (simp; done) | (simp [*]; done), by repeat (first | exact Drawn0.refl _ | apply Drawn0.step)⟩
  · rw [if_neg c2] at H
    have c2b0 : decide (0 ≤ a0) = false := decide_eq_false c2
    clear c2
    obtain rfl := Option.some.inj H
    go_enter Try.func92, Try.ntmps92
    go_wp2
    go_ret
    exact ⟨by first | rfl | (simp; done) | (simp [*]; done), by repeat (first | exact Drawn0.refl _ | apply Drawn0.step)⟩

end Go.Proofs.Ytkjibgfgbfacdaa.P
end
/-! part: HSpec -/
section
set_option linter.unusedVariables false
set_option linter.unusedSimpArgs false
namespace Go.Proofs.Ytkjibgfgbfacdaa.P
open Go.RowKit Go.Proofs.YtkjibgfgbfacdaaW.PrintWords

/-! ### numbers -/
def i64B (x : Int) : Bool := decide (-9223372036854775808 ≤ x) && decide (x ≤ 9223372036854775807)
def isIdB (x : Int) : Bool := decide (0 ≤ x) && decide (x ≤ 2147483647)
/-! ### vectors -/
def vecOk (v : List Int) : Bool := decide (1 ≤ v.length) && decide (v.length ≤ 64) && v.all (fun x => decide (-32767 ≤ x))
/-! ### slots -/
def slotOk (dim id : Int) (v : List Int) : Bool := (decide (id = -1) && v.isEmpty) || (isIdB id && vecOk v && decide ((v.length : Int) = dim))
def slotsOk (dim : Int) (ids : List Int) (vecs : List (List Int)) : Bool :=
  decide (1 ≤ dim) && decide (dim ≤ 64) && decide (1 ≤ ids.length) && decide (ids.length ≤ 256) && decide (vecs.length = ids.length) &&
    (ids.zip vecs).all (fun p => slotOk dim p.1 p.2) && decide (ids.filter (fun x => decide (x ≠ -1))).Nodup
def h_slots_Check.f (a0_0 : Int) (l0_1 : List Int) (l0_2 : List (List Int)) : Option (Int) :=
  if l0_1.all i64B = true then some (if slotsOk a0_0 l0_1 l0_2 = true then 0 else 1) else none
def h_slots_Find.f (a0_0 : Int) (l0_1 : List Int) (l0_2 : List (List Int)) (a1 : Int) : Option (Int × Int) :=
  if l0_1.all i64B = true ∧ i64B a1 = true then
    some (if slotsOk a0_0 l0_1 l0_2 = true ∧ isIdB a1 = true then (if l0_1.idxOf a1 < l0_1.length then ((l0_1.idxOf a1 : Int), 0) else (0, 5)) else (0, 1))
  else none
def h_slots_Live.f (a0_0 : Int) (l0_1 : List Int) (l0_2 : List (List Int)) : Option (List Int × Int) :=
  if l0_1.all i64B = true then some (if slotsOk a0_0 l0_1 l0_2 = true then ((l0_1.filter (fun x => decide (x ≠ -1))).mergeSort (fun a b => decide (a ≤ b)), 0) else ([], 1)) else none
/-! ### slices -/
def h_RepeatI64.f (l0 : List Int) (a1 : Int) : Option (List Int) :=
  match l0 with
  | [x] => if 1 ≤ a1 ∧ a1 ≤ 256 then some (List.replicate a1.toNat x) else none
  | _ => none
def h_EqVecs.f (l0 l1 : List (List Int)) : Option Bool := some (decide (l0 = l1))
def h_EqCuts.f (l0 l1 : List (List Int)) : Option Bool := some (decide (l0 = l1))
def h_OddVecs.f (l0 : List (List Int)) : Option Bool := some (l0.any (fun v => !vecOk v))
def h_OddNums.f (l0 : List Int) : Option Bool := some (l0.any (fun x => decide (x < -32767)))
/-! ### train -/
def trainOk (at_ : Int) (sample : List (List Int)) : Bool := decide ((sample.length : Int) ≤ at_) && decide (at_ ≤ 4096) && sample.all vecOk
end Go.Proofs.Ytkjibgfgbfacdaa.P
end
/-! part: HIndexFunc -/
section
set_option linter.unusedVariables false
set_option linter.unusedSimpArgs false
namespace Go.Proofs.Ytkjibgfgbfacdaa.P
open Go.RowKit Go.Proofs.YtkjibgfgbfacdaaW.PrintWords Go.Proofs.YtkjibgfgbfacdaaW.PrintLast Go.Proofs.YtkjibgfgbfacdaaW.PrintMore
set_option linter.unusedVariables false
set_option linter.unusedSimpArgs false

/-- The first place at which p holds, counted from i on; -1: there is none. -/
def idxI {α : Type} (p : α → Bool) : List α → Int → Int
  | [], _ => -1
  | x :: t, i => if p x then i else idxI p t (i + 1)
/-- What the function value at g (captured: lb) tells of a vector, in every world in which all that was there is as it was. -/
def PredV (g : Nat) (lb : Array Value) (p : List Int → Bool) (w : World) : Prop :=
  ∀ (W : World) (x : List Int) (A : Option Addr) (c : Nat), Below w.heap.size w W → Kd.C (Kd.int .i16) W A x.length x → x.length ≤ c →
    Calls Try.prog g (#[.slice A x.length c] ++ lb) W fun e W' => e = .returned (.bool (p x)) ∧ Below w.heap.size w W'
def PredI (k : IntKind) (g : Nat) (lb : Array Value) (p : Int → Bool) (w : World) : Prop :=
  ∀ (W : World) (x : Int), Below w.heap.size w W → Calls Try.prog g (#[.int k x] ++ lb) W fun e W' => e = .returned (.bool (p x)) ∧ Below w.heap.size w W'

theorem drop_rdV (l : List (List Int)) (i : Int) (h0 : 0 ≤ i) (h1 : i < (l.length : Int)) : l.drop i.toNat = (l.getD i.toNat []) :: l.drop (i + 1).toNat := by
  have h : i.toNat < l.length := by omega
  rw [List.drop_eq_getElem_cons h, show (i + 1).toNat = i.toNat + 1 by omega]
  simp [List.getD_eq_getElem?_getD, h]
end Go.Proofs.Ytkjibgfgbfacdaa.P
end
/-! part: PLoops -/
section
set_option linter.unusedVariables false
set_option linter.unusedSimpArgs false
namespace Go.Proofs.Ytkjibgfgbfacdaa.P
open Go.RowKit Go.Proofs.YtkjibgfgbfacdaaW.PrintWords Go.Proofs.YtkjibgfgbfacdaaW.PrintLast Go.Proofs.YtkjibgfgbfacdaaW.PrintMore

/-- A loop over two lists that tells whether they are the same. -/
theorem eqLoop {α : Type} [DecidableEq α] (dflt : α) (L : Nat → List α → List α → Int → Int → Option Bool)
    (hL : ∀ k xs ys n i, L (k + 1) xs ys n i = if i < n then (if 0 ≤ i then (if i < (xs.length : Int) then (if i < (ys.length : Int) then (if xs.getD i.toNat dflt = ys.getD i.toNat dflt then L k xs ys n (wrap64 (i + 1)) else some false) else none) else none) else none) else some true)
    (xs ys : List α) (hl : xs.length = ys.length) (hm : xs.length ≤ 9223372036854775807) (d : Nat) :
    ∀ (k : Nat) (i : Int), 0 ≤ i → i ≤ (xs.length : Int) → (xs.length : Int) - i = d → d < k → L k xs ys (xs.length : Int) i = some (decide (xs.drop i.toNat = ys.drop i.toNat)) := by
  induction d with
  | zero =>
    intro k i h0 h1 hd hk
    obtain ⟨k, rfl⟩ : ∃ m, k = m + 1 := ⟨k - 1, by omega⟩
    rw [hL, if_neg (by omega), List.drop_eq_nil_of_le (by omega), List.drop_eq_nil_of_le (by omega)]
    rfl
  | succ d ih =>
    intro k i h0 h1 hd hk
    obtain ⟨k, rfl⟩ : ∃ m, k = m + 1 := ⟨k - 1, by omega⟩
    rw [hL, if_pos (by omega), if_pos h0, if_pos (by omega), if_pos (by omega), rdO dflt xs i h0 (by omega), rdO dflt ys i h0 (by omega)]
    by_cases e : xs.getD i.toNat dflt = ys.getD i.toNat dflt
    · rw [if_pos e, w64 (by omega) (by omega), ih k (i + 1) (by omega) (by omega) (by omega) (by omega), e]
      simp
    · rw [if_neg e, decide_eq_false (fun z => e (List.cons.inj z).1)]
theorem eqLoop0 {α : Type} [DecidableEq α] (dflt : α) (L : Nat → List α → List α → Int → Int → Option Bool)
    (hL : ∀ k xs ys n i, L (k + 1) xs ys n i = if i < n then (if 0 ≤ i then (if i < (xs.length : Int) then (if i < (ys.length : Int) then (if xs.getD i.toNat dflt = ys.getD i.toNat dflt then L k xs ys n (wrap64 (i + 1)) else some false) else none) else none) else none) else some true)
    (xs ys : List α) (hm : xs.length ≤ 9223372036854775807) (k : Nat) (hk : xs.length < k) :
    (if (xs.length : Int) = (ys.length : Int) then L k xs ys (xs.length : Int) 0 else some false) = some (decide (xs = ys)) := by
  by_cases hl : (xs.length : Int) = (ys.length : Int)
  · rw [if_pos hl, eqLoop dflt L hL xs ys (by omega) hm xs.length k 0 (by omega) (by omega) (by omega) hk]
    simp
  · rw [if_neg hl]
    have : xs ≠ ys := by rintro rfl; exact hl rfl
    simp [this]
end Go.Proofs.Ytkjibgfgbfacdaa.P
end
/-! part: HMap -/
section
set_option linter.unusedVariables false
set_option linter.unusedSimpArgs false
namespace Go.Proofs.Ytkjibgfgbfacdaa.P
open Go.RowKit Go.Maps Go.Proofs.YtkjibgfgbfacdaaW.PrintWords Go.Proofs.YtkjibgfgbfacdaaW.PrintLast Go.Proofs.YtkjibgfgbfacdaaW.PrintMore

section
variable {P : Program} {ops : Array Oper} {rest : List Oper} {o : Oper} {a : Act} {Q : Exit → Act → World → Prop}
theorem map_event {W : World} (hgd : o.guard = none) {N : Tmp} (_hd : o.dst = some N)
    (hrun : (execOp a.eval o).run P W = .ok (.value (.map (some W.heap.size))) (W.alloc (.map #[] 0)))
    (h : ∀ g, g = W.heap.size → ∀ w1, w1.heap[g]? = some (.map #[] 0) → Below W.heap.size W w1 → wpList P ops Q rest (a.put o.dst (.map (some g))) w1) : wpList P ops Q (o :: rest) a W :=
  Kd.event_run hgd hrun (h _ rfl _ (blk_new W _) (below_alloc (Below.refl _ _) _))
end
theorem run_makeMap_hint {t k e : TypeId} (ht : Try.prog.underlying t = some (.map k e)) (n : Int) (w : World) : (Instr.makeMap t (some (.int .i64 n))).run Try.prog w = .ok (.map (some w.heap.size)) (w.alloc (.map #[] 0)) := by
  simp [Instr.makeMap, run_underlying ht, asInt]
  rfl

/-- The object ob is a map (int64 to int) of at most n entries that reads as D. -/
def MapObj (ob : Obj) (n : Nat) (D : DataW Unit) : Prop := ∀ (W : World) (b : Nat), W.heap[b]? = some ob → W.ownsMap Try.prog 2 (plainElem Try.prog 3) b n D
theorem mapObj_of {W : World} {b n : Nat} {D : DataW Unit} (h : W.ownsMap Try.prog 2 (plainElem Try.prog 3) b n D) : ∃ ob, W.heap[b]? = some ob ∧ MapObj ob n D := by
  obtain ⟨es, clock, hb, F, hn, hD⟩ := h
  exact ⟨_, hb, fun W' b' hb' => ⟨es, clock, hb', F, hn, hD⟩⟩
theorem mapObj_new : MapObj (.map #[] 0) 0 (.map []) := by
  have h := World.ownsMap_made (H := Unit) (default : World) Try.prog 2 (plainElem Try.prog 3)
  obtain ⟨es, clock, hb, F, hn, hD⟩ := h
  intro W b hb'
  have e : some (Obj.map es clock) = some (Obj.map #[] 0) := by rw [← hb]; exact blk_new _ _
  injection e with e
  injection e with e1 e2
  subst e1
  subst e2
  exact ⟨_, _, hb', F, hn, hD⟩
theorem zero_int (w : World) : (zeroValue 3).run Try.prog w = .ok (.int .i64 0) w := by kernel_rfl

/-- Is the id x one of those that are met ahead of place i? -/
def dirAg (ids : List Int) (x i : Int) : Bool := decide (x ≠ -1) && (ids.take i.toNat).contains x
/-- The object ob is the directory of the first i ids. -/
def DirM (ids : List Int) (i : Int) (ob : Obj) : Prop := ∃ D : DataW Unit, Aside0 (MapObj ob i.toNat D) ∧ Aside0 (∀ x, Maps.has D (.int .i64 x) = dirAg ids x i) ∧
  Aside0 (∀ x z, dirAg ids x i = true → D.atKey (.int .i64 x) z = .lit (.int .i64 (ids.idxOf x : Int)))
theorem dirM_zero (ids : List Int) : DirM ids 0 (.map #[] 0) := by
  refine ⟨.map [], ⟨mapObj_new⟩, ⟨fun x => ?_⟩, ⟨fun x z h => ?_⟩⟩
  · simp [dirAg, Maps.has]
  · simp [dirAg] at h
theorem dirAg_succ (ids : List Int) (x i : Int) (h0 : 0 ≤ i) (h1 : i < (ids.length : Int)) : dirAg ids x (i + 1) = (dirAg ids x i || (decide (x ≠ -1) && decide (x = rd ids i))) := by
  have h : i.toNat < ids.length := by omega
  unfold dirAg
  rw [show (i + 1).toNat = i.toNat + 1 by omega, List.take_succ_eq_append_getElem h]
  have e : rd ids i = ids[i.toNat] := by simp [rd, List.getD_eq_getElem?_getD, h]
  rw [e, Bool.eq_iff_iff]
  simp only [Bool.and_eq_true, Bool.or_eq_true, decide_eq_true_eq, List.contains_iff_mem, List.mem_append, List.mem_singleton, and_or_left]
/-- A slot of nobody: nothing is put. -/
theorem dirM_skip {ids : List Int} {i : Int} {ob : Obj} (h : DirM ids i ob) (h0 : 0 ≤ i) (h1 : i < (ids.length : Int)) (hm : rd ids i = -1) : DirM ids (i + 1) ob := by
  obtain ⟨D, h2, h3, h4⟩ := h
  have e : ∀ x, dirAg ids x (i + 1) = dirAg ids x i := by
    intro x
    rw [dirAg_succ ids x i h0 h1, hm]
    by_cases hx : x = -1 <;> simp [hx]
  refine ⟨D, ⟨fun W b hb => (h2.out W b hb).mono (by omega)⟩, ⟨fun x => by rw [e, h3.out]⟩, ⟨fun x z hx => h4.out x z (by rw [← e]; exact hx)⟩⟩
/-- The id is put. -/
theorem dirM_put {ids : List Int} {i : Int} {ob : Obj} {D : DataW Unit} (h2 : MapObj ob (i.toNat + 1) (D.put (.int .i64 (rd ids i)) (.lit (.int .i64 i)))) (hD : IsMap D) (h3 : ∀ x, Maps.has D (.int .i64 x) = dirAg ids x i)
    (h4 : ∀ x z, dirAg ids x i = true → D.atKey (.int .i64 x) z = .lit (.int .i64 (ids.idxOf x : Int))) (h0 : 0 ≤ i) (h1 : i < (ids.length : Int)) (hne : rd ids i ≠ -1) (hag : dirAg ids (rd ids i) i = false) : DirM ids (i + 1) ob := by
  have hk : WideAt.IsKeyLit (.int .i64 (rd ids i)) := trivial
  have h : i.toNat < ids.length := by omega
  have er : rd ids i = ids[i.toNat] := by simp [rd, List.getD_eq_getElem?_getD, h]
  have hidx : (ids.idxOf (rd ids i) : Int) = i := by
    have hn : ids[i.toNat] ∉ ids.take i.toNat := by
      intro hc
      rw [er] at hag hne
      simp [dirAg, hne, hc] at hag
    have hsplit : ids = ids.take i.toNat ++ ids[i.toNat] :: ids.drop (i.toNat + 1) := by
      rw [← List.drop_eq_getElem_cons h, List.take_append_drop]
    have : ids.idxOf ids[i.toNat] = i.toNat := by
      have hh : (ids.take i.toNat ++ ids[i.toNat] :: ids.drop (i.toNat + 1)).idxOf ids[i.toNat] = i.toNat := by
        rw [List.idxOf_append, if_neg hn, List.idxOf_cons_self, List.length_take]
        omega
      rwa [← hsplit] at hh
    rw [er, this]
    omega
  refine ⟨_, ⟨fun W b hb => (h2 W b hb).mono (by omega)⟩, ⟨fun x => ?_⟩, ⟨fun x z hx => ?_⟩⟩
  · rw [dirAg_succ ids x i h0 h1]
    by_cases hx : x = rd ids i
    · subst hx
      rw [Maps.has_put_same hD hk]
      simp [hne]
    · rw [Maps.has_put_other (by intro e; injection e with _ e; exact hx e), h3]
      simp [hx]
  · rw [dirAg_succ ids x i h0 h1] at hx
    by_cases hxe : x = rd ids i
    · subst hxe
      rw [Maps.atKey_put_same hD hk, hidx]
    · rw [Maps.atKey_put_other (by intro e; injection e with _ e; exact hxe e)]
      exact h4 x z (by simpa [hxe] using hx)
/-- What directory hands back. -/
def DirPost (ids : List Int) (r : Bool) (v : Value) (w' : World) : Prop := (r = true → ∃ g ob, v = .map (some g) ∧ w'.heap[g]? = some ob ∧ DirM ids ids.length ob) ∧ (r = false → v = .map none)
theorem dirPost_no (ids : List Int) (w' : World) : DirPost ids false (.map none) w' := ⟨fun h => (by cases h), fun _ => rfl⟩
theorem dirPost_yes {ids : List Int} {w' : World} {g : Nat} {ob : Obj} {i : Int} (hb : w'.heap[g]? = some ob) (h : DirM ids i ob) (h0 : 0 ≤ i) (hi : ¬ i < (ids.length : Int)) (hle : i ≤ (ids.length : Int)) : DirPost ids true (.map (some g)) w' := by
  obtain rfl : i = (ids.length : Int) := by omega
  exact ⟨fun _ => ⟨g, ob, rfl, hb, h⟩, fun h => by cases h⟩
end Go.Proofs.Ytkjibgfgbfacdaa.P
namespace Go.Proofs.Ytkjibgfgbfacdaa.P
open Go.RowKit Go.Maps Go.Proofs.YtkjibgfgbfacdaaW.PrintWords Go.Proofs.YtkjibgfgbfacdaaW.PrintLast Go.Proofs.YtkjibgfgbfacdaaW.PrintMore
theorem rd_mem (l : List Int) (i : Int) (h0 : 0 ≤ i) (h1 : i < (l.length : Int)) : rd l i ∈ l := by
  have h : i.toNat < l.length := by omega
  have e : rd l i = l[i.toNat] := by simp [rd, List.getD_eq_getElem?_getD, h]
  rw [e]
  exact List.getElem_mem h
theorem is_ne {x : Int} (h : slots_is.f x = some true) : x ≠ -1 := by
  rintro rfl
  simp [slots_is.f] at h
end Go.Proofs.Ytkjibgfgbfacdaa.P
end
/-! part: HDir -/
section
set_option linter.unusedVariables false
set_option linter.unusedSimpArgs false
namespace Go.Proofs.Ytkjibgfgbfacdaa.P
open Go.RowKit Go.Maps Go.Proofs.YtkjibgfgbfacdaaW.PrintWords Go.Proofs.YtkjibgfgbfacdaaW.PrintLast Go.Proofs.YtkjibgfgbfacdaaW.PrintMore
attribute [local go_sem] max2_int min2_int max_two min_two max_three min_three max_four min_four   -- for this text's walks alone
set_option linter.unusedVariables false
set_option linter.unusedSimpArgs false

/-! ### slots_directory: function 91 -/
mutual
def slots_directory.j0 : Nat → Bool → Int → List Int → List (List Int) → Option (Bool)
  | 0, _, _, _, _ => none
  | k + 1, x28, x126000, x126001, x126002 => if x28 = true then (some false) else (slots_directory.l0 k x126001 (x126001.length : Int) 0 x126000 x126001 x126002)
def slots_directory.l0 : Nat → List Int → Int → Int → Int → List Int → List (List Int) → Option (Bool)
  | 0, _, _, _, _, _, _ => none
  | k + 1, x34, x35, x36, x126000, x126001, x126002 => if x36 < x35 then (if 0 ≤ x36 then (if x36 < (x34.length : Int) then (if (rd x34 x36) = (-1) then (if x36 < (x126002.length : Int) then (slots_directory.j2 k x36 (rd x34 x36) x34 x35 x36 (((rd_L3 x126002 x36).length : Int) == 0) x126000 x126001 x126002) else (none)) else (slots_directory.j2 k x36 (rd x34 x36) x34 x35 x36 false x126000 x126001 x126002)) else (none)) else (none)) else (some true)
def slots_directory.j2 : Nat → Int → Int → List Int → Int → Int → Bool → Int → List Int → List (List Int) → Option (Bool)
  | 0, _, _, _, _, _, _, _, _, _ => none
  | k + 1, x5, x6, x34, x35, x36, x51, x126000, x126001, x126002 => if x51 = true then (slots_directory.l0 k x34 x35 (wrap64 (x36 + 1)) x126000 x126001 x126002) else ((some (0 : Int)).bind fun t131 => (if dirAg x34 x6 x36 = true then (some false) else ((slots_is.f x6).bind fun t132 => (if t132 = true then (if 0 ≤ x5 then (if x5 < (x126002.length : Int) then ((slots_fits.f k x126000 x126001 x126002 (rd_L3 x126002 x5)).bind fun t134 => (if t134 = true then (slots_directory.l0 k x34 x35 (wrap64 (x36 + 1)) x126000 x126001 x126002) else (some false))) else (none)) else (none)) else (some false)))))
end
def slots_directory.f (k : Nat) (a0_0 : Int) (l0_1 : List Int) (l0_2 : List (List Int)) : Option (Bool) := (slots_within.f a0_0 64).bind fun t126 => (if t126 = true then ((slots_within.f (l0_1.length : Int) 256).bind fun t127 => (if t127 = true then (slots_directory.j0 k ((l0_2.length : Int) != (l0_1.length : Int)) a0_0 l0_1 l0_2) else (slots_directory.j0 k true a0_0 l0_1 l0_2))) else (slots_directory.j0 k true a0_0 l0_1 l0_2))
theorem slots_directory.mono_l : ∀ k, (∀ y0 y1 y2 y3, LeO (slots_directory.j0 k y0 y1 y2 y3) (slots_directory.j0 (k + 1) y0 y1 y2 y3)) ∧ (∀ y0 y1 y2 y3 y4 y5, LeO (slots_directory.l0 k y0 y1 y2 y3 y4 y5) (slots_directory.l0 (k + 1) y0 y1 y2 y3 y4 y5)) ∧ (∀ y0 y1 y2 y3 y4 y5 y6 y7 y8, LeO (slots_directory.j2 k y0 y1 y2 y3 y4 y5 y6 y7 y8) (slots_directory.j2 (k + 1) y0 y1 y2 y3 y4 y5 y6 y7 y8))
  | 0 => ⟨fun _ _ _ _ r h => by simp [slots_directory.j0] at h, fun _ _ _ _ _ _ r h => by simp [slots_directory.l0] at h, fun _ _ _ _ _ _ _ _ _ r h => by simp [slots_directory.j2] at h⟩
  | k + 1 => by
    obtain ⟨ih0, ih1, ih2⟩ := slots_directory.mono_l k
    refine ⟨?_, ?_, ?_⟩
    · intro y0 y1 y2 y3
      unfold slots_directory.j0
      repeat' first
      | (with_reducible exact ih0 _ _ _ _)
      | (with_reducible exact ih1 _ _ _ _ _ _)
      | (with_reducible exact ih2 _ _ _ _ _ _ _ _ _)
      | (with_reducible exact slots_fits.mono _ _ _ _ _)
      | (with_reducible exact LeO.refl _)
      | (with_reducible exact LeO.none _)
      | (with_reducible refine LeO.ite ?_ ?_)
      | (with_reducible refine LeO.bind ?_ (fun _ => ?_))
      | exact ih0 _ _ _ _
      | exact ih1 _ _ _ _ _ _
      | exact ih2 _ _ _ _ _ _ _ _ _
      | exact slots_fits.mono _ _ _ _ _
      | exact LeO.none _
      | refine LeO.ite ?_ ?_
      | refine LeO.bind ?_ (fun _ => ?_)
    · intro y0 y1 y2 y3 y4 y5
      unfold slots_directory.l0
      repeat' first
      | (with_reducible exact ih0 _ _ _ _)
      | (with_reducible exact ih1 _ _ _ _ _ _)
      | (with_reducible exact ih2 _ _ _ _ _ _ _ _ _)
      | (with_reducible exact slots_fits.mono _ _ _ _ _)
      | (with_reducible exact LeO.refl _)
      | (with_reducible exact LeO.none _)
      | (with_reducible refine LeO.ite ?_ ?_)
      | (with_reducible refine LeO.bind ?_ (fun _ => ?_))
      | exact ih0 _ _ _ _
      | exact ih1 _ _ _ _ _ _
      | exact ih2 _ _ _ _ _ _ _ _ _
      | exact slots_fits.mono _ _ _ _ _
      | exact LeO.none _
      | refine LeO.ite ?_ ?_
      | refine LeO.bind ?_ (fun _ => ?_)
    · intro y0 y1 y2 y3 y4 y5 y6 y7 y8
      unfold slots_directory.j2
      repeat' first
      | (with_reducible exact ih0 _ _ _ _)
      | (with_reducible exact ih1 _ _ _ _ _ _)
      | (with_reducible exact ih2 _ _ _ _ _ _ _ _ _)
      | (with_reducible exact slots_fits.mono _ _ _ _ _)
      | (with_reducible exact LeO.refl _)
      | (with_reducible exact LeO.none _)
      | (with_reducible refine LeO.ite ?_ ?_)
      | (with_reducible refine LeO.bind ?_ (fun _ => ?_))
      | exact ih0 _ _ _ _
      | exact ih1 _ _ _ _ _ _
      | exact ih2 _ _ _ _ _ _ _ _ _
      | exact slots_fits.mono _ _ _ _ _
      | exact LeO.none _
      | refine LeO.ite ?_ ?_
      | refine LeO.bind ?_ (fun _ => ?_)
theorem slots_directory.mono : ∀ a0 a1 a2 k, LeO (slots_directory.f k a0 a1 a2) (slots_directory.f (k + 1) a0 a1 a2) := by
  intro a0 a1 a2 k
  obtain ⟨ih0, ih1, ih2⟩ := slots_directory.mono_l k
  unfold slots_directory.f
  repeat' first
      | (with_reducible exact ih0 _ _ _ _)
      | (with_reducible exact ih1 _ _ _ _ _ _)
      | (with_reducible exact ih2 _ _ _ _ _ _ _ _ _)
      | (with_reducible exact slots_fits.mono _ _ _ _ _)
      | (with_reducible exact LeO.refl _)
      | (with_reducible exact LeO.none _)
      | (with_reducible refine LeO.ite ?_ ?_)
      | (with_reducible refine LeO.bind ?_ (fun _ => ?_))
      | exact ih0 _ _ _ _
      | exact ih1 _ _ _ _ _ _
      | exact ih2 _ _ _ _ _ _ _ _ _
      | exact slots_fits.mono _ _ _ _ _
      | exact LeO.none _
      | refine LeO.ite ?_ ?_
      | refine LeO.bind ?_ (fun _ => ?_)
def slots_directory.T9 : Bool × List (List Nat × List Nat) := (true, [([], []), ([0], [0]), ([1], [1]), ([2, 1, 1], [1, 2]), ([3, 1], [1, 3]), ([1, 4], [1, 4]), ([5, 3], [5]), ([6], [6]), ([6], [6]), ([8, 6], [6, 8]), ([6], [6]), ([9, 10, 6], [6, 9, 10]), ([11, 6], [6, 11]), ([7, 12, 6, 6], [6, 7, 12]), ([13, 6], [6, 13]), ([6, 14], [6, 14])])
def slots_directory.B9 : List Nat := [0, 1, 3, 7, 15, 31, 63, 127, 127, 383, 127, 1919, 3967, 8191, 16383, 32767]
theorem slots_directory.tab9 : rtab .any (opsOf Try.f91 9) = slots_directory.T9 := by kernel_rfl
theorem slots_directory.bits9 : waitsOk slots_directory.T9.2 slots_directory.B9 = true := by kernel_rfl
set_option maxHeartbeats 8000000 in
set_option maxRecDepth 100000 in
theorem slots_directory.calls (k : Nat) (a0_0 : Int) (A0_1 : Option Addr) (c0_1 : Nat) (l0_1 : List Int) (A0_2 : Option Addr) (c0_2 : Nat) (l0_2 : List (List Int)) (r : Bool) (w : World) (hwf : ∀ x ∈ l0_1, (Lit.int .i64 x).wf = true) (hr0_1 : Kd.C (Kd.int .i64) w A0_1 l0_1.length l0_1) (hc0_1 : l0_1.length ≤ c0_1) (hr0_2 : Kd.C (Kd.slice 74 (Kd.int .i16)) w A0_2 l0_2.length l0_2) (hc0_2 : l0_2.length ≤ c0_2) (h : slots_directory.f k a0_0 l0_1 l0_2 = some r) :
    Calls Try.prog 91 #[.agg #[.int .i64 a0_0, .slice A0_1 l0_1.length c0_1, .slice A0_2 l0_2.length c0_2]] w fun e w' => ∃ v0_ : Value, e = .returned (.tuple #[v0_, .bool r]) ∧ DirPost l0_1 r v0_ w' ∧ Below w.heap.size w w' := by
  have hu25 := Try.underlying25
  have hmm := fun n w => run_makeMap_hint (k := 2) (e := 3) Try.underlying98 n w
  have HWF := Aside0.mk hwf
  clear hwf
  have HMX := Aside0.mk hr0_1.2.1
  have HR0_1 := Aside0.mk hr0_1
  have HC0_1 := Aside0.mk hc0_1
  clear hr0_1 hc0_1
  have HR0_2 := Aside0.mk hr0_2
  have HC0_2 := Aside0.mk hc0_2
  clear hr0_2 hc0_2
  have HB := Aside0.mk (Below.refl w.heap.size w)
  have H : ((slots_within.f a0_0 64).bind fun t126 => (if t126 = true then ((slots_within.f (l0_1.length : Int) 256).bind fun t127 => (if t127 = true then (slots_directory.j0 k ((l0_2.length : Int) != (l0_1.length : Int)) a0_0 l0_1 l0_2) else (slots_directory.j0 k true a0_0 l0_1 l0_2))) else (slots_directory.j0 k true a0_0 l0_1 l0_2))) = some r := h
  clear h
  have HC2 := Aside0.mk H
  clear H
  go_enter Try.func91, Try.ntmps91
  go_upto_region 1 with (first | ((with_reducible refine gate_dst (N := 1) rfl ?_); (try (refine gate_guard (by rfl) ?_; dsimp only)); refine box_event ?hg (N := 1) ?hd (cs := #[.int .i64 a0_0, .slice A0_1 l0_1.length c0_1, .slice A0_2 l0_2.length c0_2]) (t := 25) ?hr ?_; (case hd => rfl); (case hg => rfl); (case hr => first | (go_simp; done) | (go_simp; rfl)); intro gb125 hg w3 hbox hb; have n0_ := Aside0.mk (below_step (by repeat (first | (with_reducible first | exact HB.out | apply below_alloc | apply pw_below_drewN | apply below_drew1) | exact HB.out)) hb); have n1_ := Aside0.mk (hbox); have n2_ := Aside0.mk ((by rw [hg]; exact (below_size (by repeat (first | (with_reducible first | exact HB.out | apply below_alloc | apply pw_below_drewN | apply below_drew1) | exact HB.out))) : w.heap.size ≤ gb125)); have n3_ := Aside0.mk ((by rw [hg]; exact (below_size (by repeat (first | (with_reducible first | exact HB.out | apply below_alloc | apply pw_below_drewN | apply below_drew1) | exact HB.out))) : w.heap.size ≤ gb125)); clear HB; have HB := n0_; have BK125 := n1_; have GW125 := n2_; have GE125 := n3_; clear n0_ n1_ n2_ n3_; clear hb hbox hg))
  (try simp only [Act.put, List.setIfInBounds_toArray, List.set_cons_zero, List.set_cons_succ])
  go_cut [28] (fun v28 wc => ∃ (kq : Nat) (x28_1 : Bool), v28 = .bool x28_1 ∧ Aside0 (slots_directory.j0 kq x28_1 a0_0 l0_1 l0_2 = some r) ∧ Aside0 (kq ≤ k) ∧ Aside0 (wc.heap[gb125]? = some (.cells #[.int .i64 a0_0, (.slice A0_1 l0_1.length c0_1), (.slice A0_2 l0_2.length c0_2)] 25 (0, 0))) ∧ Aside0 (Below w.heap.size w wc))
  case first =>
    have H := HC2.out
    clear HC2
    replace H := Option.bind_eq_some_iff.mp H
    obtain ⟨t126, A40, H⟩ := H
    replace H : (if t126 = true then ((slots_within.f (l0_1.length : Int) 256).bind fun t127 => (if t127 = true then (slots_directory.j0 k ((l0_2.length : Int) != (l0_1.length : Int)) a0_0 l0_1 l0_2) else (slots_directory.j0 k true a0_0 l0_1 l0_2))) else (slots_directory.j0 k true a0_0 l0_1 l0_2)) = some r := H
    have A4 := Aside0.mk A40
    clear A40
    by_cases c5 : t126 = true
    · subst c5
      have H1 : ((slots_within.f (l0_1.length : Int) 256).bind fun t127 => (if t127 = true then (slots_directory.j0 k ((l0_2.length : Int) != (l0_1.length : Int)) a0_0 l0_1 l0_2) else (slots_directory.j0 k true a0_0 l0_1 l0_2))) = some r := by rw [if_pos rfl] at H; exact H
      clear H
      have H := H1
      clear H1
      replace H := Option.bind_eq_some_iff.mp H
      obtain ⟨t127, A60, H⟩ := H
      replace H : (if t127 = true then (slots_directory.j0 k ((l0_2.length : Int) != (l0_1.length : Int)) a0_0 l0_1 l0_2) else (slots_directory.j0 k true a0_0 l0_1 l0_2)) = some r := H
      have A6 := Aside0.mk A60
      clear A60
      by_cases c7 : t127 = true
      · subst c7
        have H1 : (slots_directory.j0 k ((l0_2.length : Int) != (l0_1.length : Int)) a0_0 l0_1 l0_2) = some r := by rw [if_pos rfl] at H; exact H
        clear H
        have H := H1
        clear H1
        have H' := Aside0.mk H
        clear H
        have hcz8_0 : w3.cell? ⟨gb125, 0, none⟩ = some (.int .i64 a0_0) := (blk_cell BK125.out 0).trans rfl
        have hcz8_1 : w3.cell? ⟨gb125, 1, none⟩ = some (.slice A0_1 l0_1.length c0_1) := (blk_cell BK125.out 1).trans rfl
        have hcz8_2 : w3.cell? ⟨gb125, 2, none⟩ = some (.slice A0_2 l0_2.length c0_2) := (blk_cell BK125.out 2).trans rfl
        have hfz8_0 := blk_frozen BK125.out 0
        have hfz8_1 := blk_frozen BK125.out 1
        have hfz8_2 := blk_frozen BK125.out 2
        go_wp2_with (first | ((with_reducible refine gate_callee (f := 124) rfl ?_); refine goesL_ (some 11) rfl rfl Try.func124 (by kernel_rfl) rfl #[.int .i64 a0_0, .int .i64 64] rfl (by (try simp only [List.map_toArray, List.map_cons, List.map_nil]); first | done | rfl | (simp only [List.length_drop, List.length_take]; rfl)) ?_; (with_reducible refine (slots_within.calls a0_0 64 true _ A4.out).mono ?_); rintro e w' ⟨rfl, ⟨nd, rfl⟩⟩; refine ⟨_, rfl, ?_⟩) | (go_at_call 124; (with_reducible refine (slots_within.calls (l0_1.length : Int) 256 true _ A6.out).mono ?_); rintro e w' ⟨rfl, ⟨nd, rfl⟩⟩))
        go_meet
        case rel => exact ⟨_, (((l0_2.length : Int) != (l0_1.length : Int))), (by first | rfl | (simp; done) | (simp [*]; done)), H', ⟨by first | omega | exact Nat.le_refl _⟩, ⟨by (with_reducible repeat (first | refine blk_drewN ?_ _ | refine blk_drew ?_ | refine blk_alloc ?_ _)); exact BK125.out⟩, ⟨by repeat (first | (with_reducible first | exact HB.out | apply below_alloc | apply pw_below_drewN | apply below_drew1 | refine below_set ?_ GE125.out) | exact HB.out)⟩⟩
      · replace c7 := Bool.eq_false_iff.mpr c7
        subst c7
        have H1 : (slots_directory.j0 k true a0_0 l0_1 l0_2) = some r := by rw [if_neg (show ¬ (false = true) by decide)] at H; exact H
        clear H
        have H := H1
        clear H1
        have H' := Aside0.mk H
        clear H
        have hcz9_0 : w3.cell? ⟨gb125, 0, none⟩ = some (.int .i64 a0_0) := (blk_cell BK125.out 0).trans rfl
        have hcz9_1 : w3.cell? ⟨gb125, 1, none⟩ = some (.slice A0_1 l0_1.length c0_1) := (blk_cell BK125.out 1).trans rfl
        have hcz9_2 : w3.cell? ⟨gb125, 2, none⟩ = some (.slice A0_2 l0_2.length c0_2) := (blk_cell BK125.out 2).trans rfl
        have hfz9_0 := blk_frozen BK125.out 0
        have hfz9_1 := blk_frozen BK125.out 1
        have hfz9_2 := blk_frozen BK125.out 2
        go_wp2_with (first | ((with_reducible refine gate_callee (f := 124) rfl ?_); refine goesL_ (some 11) rfl rfl Try.func124 (by kernel_rfl) rfl #[.int .i64 a0_0, .int .i64 64] rfl (by (try simp only [List.map_toArray, List.map_cons, List.map_nil]); first | done | rfl | (simp only [List.length_drop, List.length_take]; rfl)) ?_; (with_reducible refine (slots_within.calls a0_0 64 true _ A4.out).mono ?_); rintro e w' ⟨rfl, ⟨nd, rfl⟩⟩; refine ⟨_, rfl, ?_⟩) | (go_at_call 124; (with_reducible refine (slots_within.calls (l0_1.length : Int) 256 false _ A6.out).mono ?_); rintro e w' ⟨rfl, ⟨nd, rfl⟩⟩))
        go_meet
        case rel => exact ⟨_, (true), (by first | rfl | (simp; done) | (simp [*]; done)), H', ⟨by first | omega | exact Nat.le_refl _⟩, ⟨by (with_reducible repeat (first | refine blk_drewN ?_ _ | refine blk_drew ?_ | refine blk_alloc ?_ _)); exact BK125.out⟩, ⟨by repeat (first | (with_reducible first | exact HB.out | apply below_alloc | apply pw_below_drewN | apply below_drew1 | refine below_set ?_ GE125.out) | exact HB.out)⟩⟩
    · replace c5 := Bool.eq_false_iff.mpr c5
      subst c5
      have H1 : (slots_directory.j0 k true a0_0 l0_1 l0_2) = some r := by rw [if_neg (show ¬ (false = true) by decide)] at H; exact H
      clear H
      have H := H1
      clear H1
      have H' := Aside0.mk H
      clear H
      have hcz10_0 : w3.cell? ⟨gb125, 0, none⟩ = some (.int .i64 a0_0) := (blk_cell BK125.out 0).trans rfl
      have hcz10_1 : w3.cell? ⟨gb125, 1, none⟩ = some (.slice A0_1 l0_1.length c0_1) := (blk_cell BK125.out 1).trans rfl
      have hcz10_2 : w3.cell? ⟨gb125, 2, none⟩ = some (.slice A0_2 l0_2.length c0_2) := (blk_cell BK125.out 2).trans rfl
      have hfz10_0 := blk_frozen BK125.out 0
      have hfz10_1 := blk_frozen BK125.out 1
      have hfz10_2 := blk_frozen BK125.out 2
      go_wp2_with (first | ((with_reducible refine gate_callee (f := 124) rfl ?_); refine goesL_ (some 11) rfl rfl Try.func124 (by kernel_rfl) rfl #[.int .i64 a0_0, .int .i64 64] rfl (by (try simp only [List.map_toArray, List.map_cons, List.map_nil]); first | done | rfl | (simp only [List.length_drop, List.length_take]; rfl)) ?_; (with_reducible refine (slots_within.calls a0_0 64 false _ A4.out).mono ?_); rintro e w' ⟨rfl, ⟨nd, rfl⟩⟩; refine ⟨_, rfl, ?_⟩))
      go_meet
      case rel => exact ⟨_, (true), (by first | rfl | (simp; done) | (simp [*]; done)), H', ⟨by first | omega | exact Nat.le_refl _⟩, ⟨by (with_reducible repeat (first | refine blk_drewN ?_ _ | refine blk_drew ?_ | refine blk_alloc ?_ _)); exact BK125.out⟩, ⟨by repeat (first | (with_reducible first | exact HB.out | apply below_alloc | apply pw_below_drewN | apply below_drew1 | refine below_set ?_ GE125.out) | exact HB.out)⟩⟩
  case rest =>
    clear HC2
    try clear c1
    try clear p2
    try clear c5
    try clear c7
    try clear c9
    try clear hcz10_0
    try clear hcz10_1
    try clear hcz10_2
    try clear hcz8_0
    try clear hcz8_1
    try clear hcz8_2
    try clear hcz9_0
    try clear hcz9_1
    try clear hcz9_2
    try clear hfz10_0
    try clear hfz10_1
    try clear hfz10_2
    try clear hfz8_0
    try clear hfz8_1
    try clear hfz8_2
    try clear hfz9_0
    try clear hfz9_1
    try clear hfz9_2
    obtain ⟨kq, x28_1, rfl, HA, HJ1, BK125, HB⟩ := hcut
    cases kq with
    | zero => exact absurd HA.out (by simp [slots_directory.j0])
    | succ kj1 =>
      have H := HA.out
      clear HA
      simp only [slots_directory.j0] at H
      by_cases c11 : x28_1 = true
      · subst c11
        have H1 : (some false) = some r := by rw [if_pos rfl] at H; exact H
        clear H
        have H := H1
        clear H1
        obtain rfl := Option.some.inj H
        go_wp2
        go_ret2
        exact ⟨_, by first | rfl | (simp [errW_none, errW_some] <;> rfl) | (simp [*, errW_none, errW_some] <;> rfl), dirPost_no _ _, by repeat (first | (with_reducible first | exact HB.out | apply below_alloc | apply pw_below_drewN | apply below_drew1 | refine below_set ?_ GE125.out) | exact HB.out)⟩
      · replace c11 := Bool.eq_false_iff.mpr c11
        subst c11
        have H1 : (slots_directory.l0 kj1 l0_1 (l0_1.length : Int) 0 a0_0 l0_1 l0_2) = some r := by rw [if_neg (show ¬ (false = true) by decide)] at H; exact H
        clear H
        have H := H1
        clear H1
        have H' := Aside0.mk H
        clear H
        have hcz12_0 : wc.cell? ⟨gb125, 0, none⟩ = some (.int .i64 a0_0) := (blk_cell BK125.out 0).trans rfl
        have hcz12_1 : wc.cell? ⟨gb125, 1, none⟩ = some (.slice A0_1 l0_1.length c0_1) := (blk_cell BK125.out 1).trans rfl
        have hcz12_2 : wc.cell? ⟨gb125, 2, none⟩ = some (.slice A0_2 l0_2.length c0_2) := (blk_cell BK125.out 2).trans rfl
        have hfz12_0 := blk_frozen BK125.out 0
        have hfz12_1 := blk_frozen BK125.out 1
        have hfz12_2 := blk_frozen BK125.out 2
        go_wp2_with (first | ((with_reducible refine gate_dst (N := 32) rfl ?_); (try (refine gate_guard (by rfl) ?_; dsimp only)); refine map_event ?hg (N := 32) ?hd ?hr ?_; (case hd => rfl); (case hg => rfl); (case hr => first | (go_simp; done) | (go_simp; rfl)); intro gb128 hg w13 hbox hb; have n0_ := Aside0.mk (blk_below (g := gb125) (o := .cells #[.int .i64 a0_0, .slice A0_1 l0_1.length c0_1, .slice A0_2 l0_2.length c0_2] 25 (0, 0)) (by (with_reducible repeat (first | refine blk_drewN ?_ _ | refine blk_drew ?_ | refine blk_alloc ?_ _)); exact BK125.out) hb); have n1_ := Aside0.mk (below_step (by repeat (first | (with_reducible first | exact HB.out | apply below_alloc | apply pw_below_drewN | apply below_drew1 | refine below_set ?_ GE125.out) | exact HB.out)) hb); have n2_ := Aside0.mk (hbox); have n3_ := Aside0.mk ((by rw [hg]; exact (below_size (by repeat (first | (with_reducible first | exact HB.out | apply below_alloc | apply pw_below_drewN | apply below_drew1 | refine below_set ?_ GE125.out) | exact HB.out))) : w.heap.size ≤ gb128)); have n4_ := Aside0.mk ((by rw [hg]; exact (below_size (by repeat (first | (with_reducible first | exact HB.out | apply below_alloc | apply pw_below_drewN | apply below_drew1 | refine below_set ?_ GE125.out) | exact HB.out))) : w.heap.size ≤ gb128)); have n5_ := Aside0.mk ((by rw [hg]; exact Nat.ne_of_lt (blk_lt (g := gb125) (o := .cells #[.int .i64 a0_0, .slice A0_1 l0_1.length c0_1, .slice A0_2 l0_2.length c0_2] 25 (0, 0)) (by (with_reducible repeat (first | refine blk_drewN ?_ _ | refine blk_drew ?_ | refine blk_alloc ?_ _)); exact BK125.out)) : gb125 ≠ gb128)); have n6_ := Aside0.mk ((by rw [hg]; exact Nat.ne_of_gt (blk_lt (g := gb125) (o := .cells #[.int .i64 a0_0, .slice A0_1 l0_1.length c0_1, .slice A0_2 l0_2.length c0_2] 25 (0, 0)) (by (with_reducible repeat (first | refine blk_drewN ?_ _ | refine blk_drew ?_ | refine blk_alloc ?_ _)); exact BK125.out)) : gb128 ≠ gb125)); clear BK125; clear HB; have BK125 := n0_; have HB := n1_; have BK128 := n2_; have GW128 := n3_; have GE128 := n4_; have NB125_128 := n5_; have NB128_125 := n6_; clear n0_ n1_ n2_ n3_ n4_ n5_ n6_; clear hb hbox hg; have hnb14 := NB125_128.out; have hnc14 := NB128_125.out; have hcz15_0 : w13.cell? ⟨gb125, 0, none⟩ = some (.int .i64 a0_0) := (blk_cell BK125.out 0).trans rfl; have hcz15_1 : w13.cell? ⟨gb125, 1, none⟩ = some (.slice A0_1 l0_1.length c0_1) := (blk_cell BK125.out 1).trans rfl; have hcz15_2 : w13.cell? ⟨gb125, 2, none⟩ = some (.slice A0_2 l0_2.length c0_2) := (blk_cell BK125.out 2).trans rfl; have hfz15_0 := blk_frozen BK125.out 0; have hfz15_1 := blk_frozen BK125.out 1; have hfz15_2 := blk_frozen BK125.out 2))
        go_loopg [36] kj1 (fun kq v36 w' => ∃ (x36_2 : Int) (ob : Obj), v36 = .int .i64 x36_2 ∧ Aside0 (slots_directory.l0 kq l0_1 (l0_1.length : Int) x36_2 a0_0 l0_1 l0_2 = some r) ∧ Aside0 (kq ≤ kj1) ∧ Aside0 (w'.heap[gb125]? = some (.cells #[.int .i64 a0_0, (.slice A0_1 l0_1.length c0_1), (.slice A0_2 l0_2.length c0_2)] 25 (0, 0))) ∧ Aside0 (w'.heap[gb128]? = some ob) ∧ Aside0 (DirM l0_1 x36_2 ob ∧ 0 ≤ x36_2 ∧ x36_2 ≤ (l0_1.length : Int)) ∧ Aside0 (Below w.heap.size w w'))
        case atStart => exact ⟨(0), _, (by first | rfl | (simp; done) | (simp [*]; done)), H', ⟨Nat.le_refl _⟩, ⟨by (with_reducible repeat (first | refine blk_drewN ?_ _ | refine blk_drew ?_ | refine blk_alloc ?_ _)); exact BK125.out⟩, ⟨by (with_reducible repeat (first | refine blk_drewN ?_ _ | refine blk_drew ?_ | refine blk_alloc ?_ _)); exact BK128.out⟩, ⟨dirM_zero l0_1, by omega, by omega⟩, ⟨by repeat (first | (with_reducible first | exact HB.out | apply below_alloc | apply pw_below_drewN | apply below_drew1 | refine below_set ?_ GE125.out | refine below_set ?_ GE128.out) | exact HB.out)⟩⟩
        case round =>
          clear H'
          try clear c1
          try clear p2
          try clear c5
          try clear c7
          try clear c9
          try clear c11
          try clear c12
          try clear c14
          try clear hcz10_0
          try clear hcz10_1
          try clear hcz10_2
          try clear hcz12_0
          try clear hcz12_1
          try clear hcz12_2
          try clear hcz15_0
          try clear hcz15_1
          try clear hcz15_2
          try clear hcz8_0
          try clear hcz8_1
          try clear hcz8_2
          try clear hcz9_0
          try clear hcz9_1
          try clear hcz9_2
          try clear hfz10_0
          try clear hfz10_1
          try clear hfz10_2
          try clear hfz12_0
          try clear hfz12_1
          try clear hfz12_2
          try clear hfz15_0
          try clear hfz15_1
          try clear hfz15_2
          try clear hfz8_0
          try clear hfz8_1
          try clear hfz8_2
          try clear hfz9_0
          try clear hfz9_1
          try clear hfz9_2
          try clear p2
          obtain ⟨x36_2, ob, rfl, HA, HK2, BK125, BK128, HDM, HB⟩ := hrel
          cases gk with
          | zero => exact absurd HA.out (by simp [slots_directory.l0])
          | succ k2 =>
            have H := HA.out
            clear HA
            simp only [slots_directory.l0] at H
            by_cases c16 : x36_2 < (l0_1.length : Int)
            · rw [if_pos c16] at H
              have c16b0 : decide (x36_2 < (l0_1.length : Int)) = true := decide_eq_true c16
              clear c16
              by_cases c17 : 0 ≤ x36_2
              · rw [if_pos c17] at H
                have c17b0 : decide (0 ≤ x36_2) = true := decide_eq_true c17
                clear c17
                by_cases c18 : x36_2 < (l0_1.length : Int)
                · rw [if_pos c18] at H
                  have c18b0 : decide (x36_2 < (l0_1.length : Int)) = true := decide_eq_true c18
                  clear c18
                  have HC19 := Aside0.mk H
                  clear H
                  have p129 : 0 ≤ (x36_2 : Int) := of_decide_eq_true (by first | (with_reducible assumption) | assumption)
                  have q129 : x36_2 < (l0_1.length : Int) := of_decide_eq_true (by first | (with_reducible assumption) | assumption)
                  obtain ⟨ad129, e129, hx129_0⟩ := Kd.at_int HR0_1.out x36_2 p129 q129
                  cases e129
                  replace hx129_0 := (HB.out.cell (World.block_lt_of_cell? w _ hx129_0)).trans hx129_0
                  replace p129 := eq_true p129
                  replace q129 := eq_true q129
                  have HLT := Aside0.mk (show x36_2 < (l0_1.length : Int) from of_decide_eq_true (by first | (with_reducible assumption) | assumption))
                  go_upto_region 7 with (fail)
                  go_cut [51] (fun v51 wc => ∃ (kq : Nat) (x51_18 : Bool), v51 = .bool x51_18 ∧ Aside0 (slots_directory.j2 kq x36_2 (rd l0_1 x36_2) l0_1 (l0_1.length : Int) x36_2 x51_18 a0_0 l0_1 l0_2 = some r) ∧ Aside0 (kq ≤ k2) ∧ Aside0 (wc.heap[gb125]? = some (.cells #[.int .i64 a0_0, (.slice (some ad129) l0_1.length c0_1), (.slice A0_2 l0_2.length c0_2)] 25 (0, 0))) ∧ Aside0 (wc.heap[gb128]? = some ob) ∧ Aside0 (x51_18 = true → rd l0_1 x36_2 = -1) ∧ Aside0 (Below w.heap.size w wc))
                  case first =>
                    have H := HC19.out
                    clear HC19
                    by_cases c20 : (rd l0_1 x36_2) = (-1)
                    · rw [if_pos c20] at H
                      have c20b0 : ((rd l0_1 x36_2) == (-1)) = true := beq_iff_eq.mpr c20
                      have c20b1 : ((rd l0_1 x36_2) != (-1)) = false := bne_eq_false_iff_eq.mpr c20
                      clear c20
                      (first | rw [c20b0] | (simp only [i64_w, i32_w]; rw [c20b0]) | skip)
                      by_cases c21 : x36_2 < (l0_2.length : Int)
                      · rw [if_pos c21] at H
                        have c21b0 : decide (x36_2 < (l0_2.length : Int)) = true := decide_eq_true c21
                        clear c21
                        have H' := Aside0.mk H
                        clear H
                        have hnb22 := NB125_128.out
                        have hnc22 := NB128_125.out
                        have hcz23_0 : wr.cell? ⟨gb125, 0, none⟩ = some (.int .i64 a0_0) := (blk_cell BK125.out 0).trans rfl
                        have hcz23_1 : wr.cell? ⟨gb125, 1, none⟩ = some (.slice (some ad129) l0_1.length c0_1) := (blk_cell BK125.out 1).trans rfl
                        have hcz23_2 : wr.cell? ⟨gb125, 2, none⟩ = some (.slice A0_2 l0_2.length c0_2) := (blk_cell BK125.out 2).trans rfl
                        have hfz23_0 := blk_frozen BK125.out 0
                        have hfz23_1 := blk_frozen BK125.out 1
                        have hfz23_2 := blk_frozen BK125.out 2
                        have p130 : 0 ≤ (x36_2 : Int) := of_decide_eq_true (by first | (with_reducible assumption) | assumption)
                        have q130 : x36_2 < (l0_2.length : Int) := of_decide_eq_true (by first | (with_reducible assumption) | assumption)
                        obtain ⟨ad130, A130_0, c130_0, e130, hx130_0, hl130_0, hi130_0⟩ := at_L3 HR0_2.out x36_2 p130 q130
                        cases e130
                        replace hx130_0 := (HB.out.cell (World.block_lt_of_cell? w _ hx130_0)).trans hx130_0
                        have HR130_0 := Aside0.mk hi130_0
                        have HC130_0 := Aside0.mk hl130_0
                        clear hi130_0 hl130_0
                        replace p130 := eq_true p130
                        replace q130 := eq_true q130
                        go_wp2
                        go_meet
                        case rel => exact ⟨_, ((((rd_L3 l0_2 x36_2).length : Int) == 0)), (by first | rfl | (simp; done) | (simp [*]; done)), H', ⟨by have := HJ1.out; have := HK2.out; first | omega | exact Nat.le_refl _⟩, ⟨by (with_reducible repeat (first | refine blk_drewN ?_ _ | refine blk_drew ?_ | refine blk_alloc ?_ _)); exact BK125.out⟩, ⟨by (with_reducible repeat (first | refine blk_drewN ?_ _ | refine blk_drew ?_ | refine blk_alloc ?_ _)); exact BK128.out⟩, ⟨fun _ => by simpa using c20b0⟩, ⟨by repeat (first | (with_reducible first | exact HB.out | apply below_alloc | apply pw_below_drewN | apply below_drew1 | refine below_set ?_ GE125.out | refine below_set ?_ GE128.out) | exact HB.out)⟩⟩
                      · rw [if_neg c21] at H
                        exact absurd H (by simp)
                    · rw [if_neg c20] at H
                      have c20b0 : ((rd l0_1 x36_2) == (-1)) = false := beq_eq_false_iff_ne.mpr c20
                      have c20b1 : ((rd l0_1 x36_2) != (-1)) = true := bne_iff_ne.mpr c20
                      (first | rw [c20b0] | (simp only [i64_w, i32_w]; rw [c20b0]) | skip)
                      have H' := Aside0.mk H
                      clear H
                      go_wp2
                      go_meet
                      case rel => exact ⟨_, (false), (by first | rfl | (simp; done) | (simp [*]; done)), H', ⟨by have := HJ1.out; have := HK2.out; first | omega | exact Nat.le_refl _⟩, ⟨by (with_reducible repeat (first | refine blk_drewN ?_ _ | refine blk_drew ?_ | refine blk_alloc ?_ _)); exact BK125.out⟩, ⟨by (with_reducible repeat (first | refine blk_drewN ?_ _ | refine blk_drew ?_ | refine blk_alloc ?_ _)); exact BK128.out⟩, ⟨fun h_ => by cases h_⟩, ⟨by repeat (first | (with_reducible first | exact HB.out | apply below_alloc | apply pw_below_drewN | apply below_drew1 | refine below_set ?_ GE125.out | refine below_set ?_ GE128.out) | exact HB.out)⟩⟩
                  case rest =>
                    clear HC19
                    try clear c1
                    try clear p1
                    try clear q1
                    try clear hx1
                    try clear c2
                    try clear p2
                    try clear c5
                    try clear c7
                    try clear c9
                    try clear c11
                    try clear c12
                    try clear p12
                    try clear q12
                    try clear hx12
                    try clear c13
                    try clear p13
                    try clear q13
                    try clear hx13
                    try clear c14
                    try clear c16
                    try clear c16b0
                    try clear c17
                    try clear c17b0
                    try clear c18
                    try clear c18b0
                    try clear c20
                    try clear c20b0
                    try clear c20b1
                    try clear c21
                    try clear c21b0
                    try clear c22
                    try clear hcz10_0
                    try clear hcz10_1
                    try clear hcz10_2
                    try clear hcz12_0
                    try clear hcz12_1
                    try clear hcz12_2
                    try clear hcz15_0
                    try clear hcz15_1
                    try clear hcz15_2
                    try clear hcz23_0
                    try clear hcz23_1
                    try clear hcz23_2
                    try clear hcz8_0
                    try clear hcz8_1
                    try clear hcz8_2
                    try clear hcz9_0
                    try clear hcz9_1
                    try clear hcz9_2
                    try clear hfz10_0
                    try clear hfz10_1
                    try clear hfz10_2
                    try clear hfz12_0
                    try clear hfz12_1
                    try clear hfz12_2
                    try clear hfz15_0
                    try clear hfz15_1
                    try clear hfz15_2
                    try clear hfz23_0
                    try clear hfz23_1
                    try clear hfz23_2
                    try clear hfz8_0
                    try clear hfz8_1
                    try clear hfz8_2
                    try clear hfz9_0
                    try clear hfz9_1
                    try clear hfz9_2
                    try clear hx129_0
                    try clear hx130_0
                    try clear p129
                    try clear p130
                    try clear p2
                    try clear q129
                    try clear q130
                    obtain ⟨kq, x51_18, rfl, HA, HJ18, BK125, BK128, HSK, HB⟩ := hcut
                    cases kq with
                    | zero => exact absurd HA.out (by simp [slots_directory.j2])
                    | succ kj18 =>
                      have H := HA.out
                      clear HA
                      simp only [slots_directory.j2] at H
                      by_cases c24 : x51_18 = true
                      · subst c24
                        have H1 : (slots_directory.l0 kj18 l0_1 (l0_1.length : Int) (wrap64 (x36_2 + 1)) a0_0 l0_1 l0_2) = some r := by rw [if_pos rfl] at H; exact H
                        clear H
                        have H := H1
                        clear H1
                        have H' := Aside0.mk H
                        clear H
                        have hlt_ := HLT.out
                        have HW64 := Aside0.mk (show wrap64 (x36_2 + 1) = x36_2 + 1 from w64 (by have := HDM.out.2.1; omega) (by have := HMX.out; omega))
                        have HDM2 := Aside0.mk (show DirM l0_1 (wrap64 (x36_2 + 1)) ob ∧ 0 ≤ wrap64 (x36_2 + 1) ∧ wrap64 (x36_2 + 1) ≤ (l0_1.length : Int) from by rw [HW64.out]; exact ⟨dirM_skip HDM.out.1 HDM.out.2.1 hlt_ (HSK.out rfl), by have := HDM.out.2.1; omega, by omega⟩)
                        clear hlt_
                        go_wp2
                        go_roundg kj18
                        case measure => have := HJ1.out; have := HK2.out; have := HJ18.out; omega
                        case rel => exact ⟨(wrap64 (x36_2 + 1)), ob, (by first | rfl | (simp; done) | (simp [*]; done)), H', ⟨by have := HJ1.out; have := HK2.out; have := HJ18.out; omega⟩, ⟨by (with_reducible repeat (first | refine blk_drewN ?_ _ | refine blk_drew ?_ | refine blk_alloc ?_ _)); exact BK125.out⟩, ⟨by (with_reducible repeat (first | refine blk_drewN ?_ _ | refine blk_drew ?_ | refine blk_alloc ?_ _)); exact BK128.out⟩, HDM2, ⟨by repeat (first | (with_reducible first | exact HB.out | apply below_alloc | apply pw_below_drewN | apply below_drew1 | refine below_set ?_ GE125.out | refine below_set ?_ GE128.out) | exact HB.out)⟩⟩
                      · replace c24 := Bool.eq_false_iff.mpr c24
                        subst c24
                        have H1 : ((some (0 : Int)).bind fun t131 => (if dirAg l0_1 (rd l0_1 x36_2) x36_2 = true then (some false) else ((slots_is.f (rd l0_1 x36_2)).bind fun t132 => (if t132 = true then (if 0 ≤ x36_2 then (if x36_2 < (l0_2.length : Int) then ((slots_fits.f kj18 a0_0 l0_1 l0_2 (rd_L3 l0_2 x36_2)).bind fun t134 => (if t134 = true then (slots_directory.l0 kj18 l0_1 (l0_1.length : Int) (wrap64 (x36_2 + 1)) a0_0 l0_1 l0_2) else (some false))) else (none)) else (none)) else (some false))))) = some r := by rw [if_neg (show ¬ (false = true) by decide)] at H; exact H
                        clear H
                        have H := H1
                        clear H1
                        replace H := Option.bind_eq_some_iff.mp H
                        obtain ⟨t131, A250, H⟩ := H
                        replace H : (if dirAg l0_1 (rd l0_1 x36_2) x36_2 = true then (some false) else ((slots_is.f (rd l0_1 x36_2)).bind fun t132 => (if t132 = true then (if 0 ≤ x36_2 then (if x36_2 < (l0_2.length : Int) then ((slots_fits.f kj18 a0_0 l0_1 l0_2 (rd_L3 l0_2 x36_2)).bind fun t134 => (if t134 = true then (slots_directory.l0 kj18 l0_1 (l0_1.length : Int) (wrap64 (x36_2 + 1)) a0_0 l0_1 l0_2) else (some false))) else (none)) else (none)) else (some false)))) = some r := H
                        have A25 := Aside0.mk A250
                        clear A250
                        by_cases c26 : dirAg l0_1 (rd l0_1 x36_2) x36_2 = true
                        · rw [if_pos c26] at H
                          have c26b0 := Aside0.mk (show dirAg l0_1 (rd l0_1 x36_2) x36_2 = true from c26)
                          clear c26
                          obtain rfl := Option.some.inj H
                          obtain ⟨D_, HMO, HHAS, HAT⟩ := HDM.out.1
                          have hhas_ : Maps.has D_ (.int .i64 (rd l0_1 x36_2)) = true := by rw [HHAS.out]; exact c26b0.out
                          have HKW := Aside0.mk (HWF.out (rd l0_1 x36_2) (rd_mem l0_1 x36_2 HDM.out.2.1 HLT.out))
                          have HOWN_ := Aside0.mk (HMO.out wc gb128 (by (with_reducible repeat (first | refine blk_drewN ?_ _ | refine blk_drew ?_ | refine blk_alloc ?_ _)); exact BK128.out))
                          try go_wp2_with (first | (at_lookup; refine wpList_lookup_own_ok_int (H := Unit) _ rfl _ _ 98 rfl 2 3 .i64 (Maps.int_keyed Try.underlying2) Try.underlying98 Try.underlying3 (zero_int _) gb128 _ D_ rfl HOWN_.out _ _ rfl (keyOf_int_mk Try.underlying2 HKW.out) ?_; intro c_ hat_ hwc_; clear hat_ hwc_))
                          (try (rw [drewN_self wc]; generalize hq_ : World.drewN wc _ = wc; have n0_ : Aside0 (wc.heap[gb125]? = some (.cells #[.int .i64 a0_0, .slice (some ad129) l0_1.length c0_1, .slice A0_2 l0_2.length c0_2] 25 (0, 0))) := ⟨by rw [← hq_]; exact (by (with_reducible repeat (first | refine blk_drewN ?_ _ | refine blk_drew ?_ | refine blk_alloc ?_ _)); exact BK125.out)⟩; have n1_ : Aside0 (wc.heap[gb128]? = some (ob)) := ⟨by rw [← hq_]; exact (by (with_reducible repeat (first | refine blk_drewN ?_ _ | refine blk_drew ?_ | refine blk_alloc ?_ _)); exact BK128.out)⟩; have n2_ : Aside0 (Below w.heap.size w wc) := ⟨by rw [← hq_]; exact (by repeat (first | (with_reducible first | exact HB.out | apply below_alloc | apply pw_below_drewN | apply below_drew1 | refine below_set ?_ GE125.out | refine below_set ?_ GE128.out) | exact HB.out))⟩; clear BK125 BK128 HB hq_; have BK125 := n0_; have BK128 := n1_; have HB := n2_; clear n0_ n1_ n2_))
                          have n0_ := Aside0.mk (blk_drew BK125.out)
                          have n1_ := Aside0.mk (blk_drew BK128.out)
                          have n2_ := Aside0.mk (below_drew1 HB.out)
                          clear BK125
                          clear BK128
                          clear HB
                          have BK125 := n0_
                          have BK128 := n1_
                          have HB := n2_
                          clear n0_ n1_ n2_
                          refine start_ (n := 16) (S := fun w' => True) (ds := []) #[false, false, false, false, false, false, false, false, false, false, false, false, false, false, false, false] (by kernel_rfl) rfl rfl trivial (fun hHeld => ?_); refine with_tabW slots_directory.tab9 slots_directory.bits9 (fun HT_ HW_ => ?_)
                          generalize wc.drew = w27 at BK125 BK128 HB hHeld ⊢
                          refine pure_ (i := 0) (N := some 58) (v := ?_) (a' := ?_) #[true, false, false, false, false, false, false, false, false, false, false, false, false, false, false, false] rfl rfl (any_of HT_.out (by kernel_rfl)) (fun _ _ _ h => h) (Or.inl ⟨by rfl, ?_⟩) ?_ ?_
                          rotate_left
                          · intro w'
                            go_simp
                            with_reducible rfl
                          rotate_left
                          · simp only [Act.put, List.setIfInBounds_toArray, List.set_cons_zero, List.set_cons_succ, i64_w, i32_w]
                            rfl
                          refine pure_ (i := 1) (N := some 59) (v := ?_) (a' := ?_) #[true, true, false, false, false, false, false, false, false, false, false, false, false, false, false, false] rfl rfl (any_of HT_.out (by kernel_rfl)) (fun _ _ _ h => h) (Or.inl ⟨by rfl, ?_⟩) ?_ ?_
                          rotate_left
                          · intro w'
                            go_simp
                            with_reducible rfl
                          rotate_left
                          · simp only [Act.put, List.setIfInBounds_toArray, List.set_cons_zero, List.set_cons_succ, i64_w, i32_w]
                            rfl
                          refine pure_ (i := 2) (N := some 60) (v := undef) (a' := ?_) #[true, true, true, false, false, false, false, false, false, false, false, false, false, false, false, false] rfl rfl (any_of HT_.out (by kernel_rfl)) (fun _ _ _ h => h) (Or.inr ⟨by rfl, rfl⟩) ?_ ?_
                          rotate_left
                          · simp only [Act.put, List.setIfInBounds_toArray, List.set_cons_zero, List.set_cons_succ, i64_w, i32_w]
                            rfl
                          refine pure_ (i := 3) (N := some 61) (v := undef) (a' := ?_) #[true, true, true, true, false, false, false, false, false, false, false, false, false, false, false, false] rfl rfl (any_of HT_.out (by kernel_rfl)) (fun _ _ _ h => h) (Or.inr ⟨by rfl, rfl⟩) ?_ ?_
                          rotate_left
                          · simp only [Act.put, List.setIfInBounds_toArray, List.set_cons_zero, List.set_cons_succ, i64_w, i32_w]
                            rfl
                          refine pure_ (i := 4) (N := some 62) (v := undef) (a' := ?_) #[true, true, true, true, true, false, false, false, false, false, false, false, false, false, false, false] rfl rfl (any_of HT_.out (by kernel_rfl)) (fun _ _ _ h => h) (Or.inr ⟨by rfl, rfl⟩) ?_ ?_
                          rotate_left
                          · simp only [Act.put, List.setIfInBounds_toArray, List.set_cons_zero, List.set_cons_succ, i64_w, i32_w]
                            rfl
                          refine pure_ (i := 5) (N := some 63) (v := ?_) (a' := ?_) #[true, true, true, true, true, true, false, false, false, false, false, false, false, false, false, false] rfl rfl (any_of HT_.out (by kernel_rfl)) (fun _ _ _ h => h) (Or.inl ⟨by rfl, ?_⟩) ?_ ?_
                          rotate_left
                          · intro w'
                            go_simp
                            with_reducible rfl
                          rotate_left
                          · simp only [Act.put, List.setIfInBounds_toArray, List.set_cons_zero, List.set_cons_succ, i64_w, i32_w]
                            rfl
                          refine pure_ (i := 6) (N := some 64) (v := ?_) (a' := ?_) #[true, true, true, true, true, true, true, false, false, false, false, false, false, false, false, false] rfl rfl (any_of HT_.out (by kernel_rfl)) (fun _ _ _ h => h) (Or.inl ⟨by rfl, ?_⟩) ?_ ?_
                          rotate_left
                          · intro w'
                            go_simp
                            with_reducible rfl
                          rotate_left
                          · simp only [Act.put, List.setIfInBounds_toArray, List.set_cons_zero, List.set_cons_succ, i64_w, i32_w]
                            rfl
                          refine pure_ (i := 7) (N := some 65) (v := undef) (a' := ?_) #[true, true, true, true, true, true, true, true, false, false, false, false, false, false, false, false] rfl rfl (any_of HT_.out (by kernel_rfl)) (fun _ _ _ h => h) (Or.inr ⟨by rfl, rfl⟩) ?_ ?_
                          rotate_left
                          · simp only [Act.put, List.setIfInBounds_toArray, List.set_cons_zero, List.set_cons_succ, i64_w, i32_w]
                            rfl
                          refine pure_ (i := 8) (N := some 66) (v := undef) (a' := ?_) #[true, true, true, true, true, true, true, true, true, false, false, false, false, false, false, false] rfl rfl (any_of HT_.out (by kernel_rfl)) (fun _ _ _ h => h) (Or.inr ⟨by rfl, rfl⟩) ?_ ?_
                          rotate_left
                          · simp only [Act.put, List.setIfInBounds_toArray, List.set_cons_zero, List.set_cons_succ, i64_w, i32_w]
                            rfl
                          refine pure_ (i := 9) (N := some 67) (v := undef) (a' := ?_) #[true, true, true, true, true, true, true, true, true, true, false, false, false, false, false, false] rfl rfl (any_of HT_.out (by kernel_rfl)) (fun _ _ _ h => h) (Or.inr ⟨by rfl, rfl⟩) ?_ ?_
                          rotate_left
                          · simp only [Act.put, List.setIfInBounds_toArray, List.set_cons_zero, List.set_cons_succ, i64_w, i32_w]
                            rfl
                          refine pure_ (i := 10) (N := some 68) (v := undef) (a' := ?_) #[true, true, true, true, true, true, true, true, true, true, true, false, false, false, false, false] rfl rfl (any_of HT_.out (by kernel_rfl)) (fun _ _ _ h => h) (Or.inr ⟨by rfl, rfl⟩) ?_ ?_
                          rotate_left
                          · simp only [Act.put, List.setIfInBounds_toArray, List.set_cons_zero, List.set_cons_succ, i64_w, i32_w]
                            rfl
                          refine pure_ (i := 11) (N := some 69) (v := undef) (a' := ?_) #[true, true, true, true, true, true, true, true, true, true, true, true, false, false, false, false] rfl rfl (any_of HT_.out (by kernel_rfl)) (fun _ _ _ h => h) (Or.inr ⟨by rfl, rfl⟩) ?_ ?_
                          rotate_left
                          · simp only [Act.put, List.setIfInBounds_toArray, List.set_cons_zero, List.set_cons_succ, i64_w, i32_w]
                            rfl
                          refine pure_ (i := 12) (N := some 70) (v := undef) (a' := ?_) #[true, true, true, true, true, true, true, true, true, true, true, true, true, false, false, false] rfl rfl (any_of HT_.out (by kernel_rfl)) (fun _ _ _ h => h) (Or.inr ⟨by rfl, rfl⟩) ?_ ?_
                          rotate_left
                          · simp only [Act.put, List.setIfInBounds_toArray, List.set_cons_zero, List.set_cons_succ, i64_w, i32_w]
                            rfl
                          refine pure_ (i := 13) (N := some 71) (v := undef) (a' := ?_) #[true, true, true, true, true, true, true, true, true, true, true, true, true, true, false, false] rfl rfl (any_of HT_.out (by kernel_rfl)) (fun _ _ _ h => h) (Or.inr ⟨by rfl, rfl⟩) ?_ ?_
                          rotate_left
                          · simp only [Act.put, List.setIfInBounds_toArray, List.set_cons_zero, List.set_cons_succ, i64_w, i32_w]
                            rfl
                          refine pure_ (i := 14) (N := some 72) (v := undef) (a' := ?_) #[true, true, true, true, true, true, true, true, true, true, true, true, true, true, true, false] rfl rfl (any_of HT_.out (by kernel_rfl)) (fun _ _ _ h => h) (Or.inr ⟨by rfl, rfl⟩) ?_ ?_
                          rotate_left
                          · simp only [Act.put, List.setIfInBounds_toArray, List.set_cons_zero, List.set_cons_succ, i64_w, i32_w]
                            rfl
                          refine pure_ (i := 15) (N := some 73) (v := ?_) (a' := ?_) #[true, true, true, true, true, true, true, true, true, true, true, true, true, true, true, true] rfl rfl (any_of HT_.out (by kernel_rfl)) (fun _ _ _ h => h) (Or.inl ⟨by rfl, ?_⟩) ?_ ?_
                          rotate_left
                          · intro w'
                            go_simp
                            with_reducible rfl
                          rotate_left
                          · simp only [Act.put, List.setIfInBounds_toArray, List.set_cons_zero, List.set_cons_succ, i64_w, i32_w]
                            rfl
                          refine done_ (done_of HT_.out (by kernel_rfl)) ?_
                          try go_wp2
                          go_ret2
                          exact ⟨_, by first | rfl | (simp [errW_none, errW_some] <;> rfl) | (simp [*, errW_none, errW_some] <;> rfl), dirPost_no _ _, by repeat (first | (with_reducible first | exact HB.out | apply below_alloc | apply pw_below_drewN | apply below_drew1 | refine below_set ?_ GE125.out | refine below_set ?_ GE128.out) | exact HB.out)⟩
                        · rw [if_neg c26] at H
                          have c26b0 := Aside0.mk (show dirAg l0_1 (rd l0_1 x36_2) x36_2 = false from Bool.eq_false_iff.mpr c26)
                          clear c26
                          replace H := Option.bind_eq_some_iff.mp H
                          obtain ⟨t132, A280, H⟩ := H
                          replace H : (if t132 = true then (if 0 ≤ x36_2 then (if x36_2 < (l0_2.length : Int) then ((slots_fits.f kj18 a0_0 l0_1 l0_2 (rd_L3 l0_2 x36_2)).bind fun t134 => (if t134 = true then (slots_directory.l0 kj18 l0_1 (l0_1.length : Int) (wrap64 (x36_2 + 1)) a0_0 l0_1 l0_2) else (some false))) else (none)) else (none)) else (some false)) = some r := H
                          have A28 := Aside0.mk A280
                          clear A280
                          by_cases c29 : t132 = true
                          · subst c29
                            have HNE := Aside0.mk (is_ne A28.out)
                            have H1 : (if 0 ≤ x36_2 then (if x36_2 < (l0_2.length : Int) then ((slots_fits.f kj18 a0_0 l0_1 l0_2 (rd_L3 l0_2 x36_2)).bind fun t134 => (if t134 = true then (slots_directory.l0 kj18 l0_1 (l0_1.length : Int) (wrap64 (x36_2 + 1)) a0_0 l0_1 l0_2) else (some false))) else (none)) else (none)) = some r := by rw [if_pos rfl] at H; exact H
                            clear H
                            have H := H1
                            clear H1
                            by_cases c30 : 0 ≤ x36_2
                            · rw [if_pos c30] at H
                              have c30b0 : decide (0 ≤ x36_2) = true := decide_eq_true c30
                              clear c30
                              by_cases c31 : x36_2 < (l0_2.length : Int)
                              · rw [if_pos c31] at H
                                have c31b0 : decide (x36_2 < (l0_2.length : Int)) = true := decide_eq_true c31
                                clear c31
                                replace H := Option.bind_eq_some_iff.mp H
                                obtain ⟨t134, A320, H⟩ := H
                                replace H : (if t134 = true then (slots_directory.l0 kj18 l0_1 (l0_1.length : Int) (wrap64 (x36_2 + 1)) a0_0 l0_1 l0_2) else (some false)) = some r := H
                                have A32 := Aside0.mk A320
                                clear A320
                                by_cases c33 : t134 = true
                                · subst c33
                                  have H1 : (slots_directory.l0 kj18 l0_1 (l0_1.length : Int) (wrap64 (x36_2 + 1)) a0_0 l0_1 l0_2) = some r := by rw [if_pos rfl] at H; exact H
                                  clear H
                                  have H := H1
                                  clear H1
                                  have H' := Aside0.mk H
                                  clear H
                                  obtain ⟨D_, HMO, HHAS, HAT⟩ := HDM.out.1
                                  have hhas_ : Maps.has D_ (.int .i64 (rd l0_1 x36_2)) = false := by rw [HHAS.out]; exact c26b0.out
                                  have HKW := Aside0.mk (HWF.out (rd l0_1 x36_2) (rd_mem l0_1 x36_2 HDM.out.2.1 HLT.out))
                                  have HOWN_ := Aside0.mk (HMO.out wc gb128 (by (with_reducible repeat (first | refine blk_drewN ?_ _ | refine blk_drew ?_ | refine blk_alloc ?_ _)); exact BK128.out))
                                  try go_wp2_with (first | (at_lookup; refine wpList_lookup_own_ok_int (H := Unit) _ rfl _ _ 98 rfl 2 3 .i64 (Maps.int_keyed Try.underlying2) Try.underlying98 Try.underlying3 (zero_int _) gb128 _ D_ rfl HOWN_.out _ _ rfl (keyOf_int_mk Try.underlying2 HKW.out) ?_; intro c_ hat_ hwc_; clear hat_ hwc_))
                                  (try (rw [drewN_self wc]; generalize hq_ : World.drewN wc _ = wc; have n0_ : Aside0 (wc.heap[gb125]? = some (.cells #[.int .i64 a0_0, .slice (some ad129) l0_1.length c0_1, .slice A0_2 l0_2.length c0_2] 25 (0, 0))) := ⟨by rw [← hq_]; exact (by (with_reducible repeat (first | refine blk_drewN ?_ _ | refine blk_drew ?_ | refine blk_alloc ?_ _)); exact BK125.out)⟩; have n1_ : Aside0 (wc.heap[gb128]? = some (ob)) := ⟨by rw [← hq_]; exact (by (with_reducible repeat (first | refine blk_drewN ?_ _ | refine blk_drew ?_ | refine blk_alloc ?_ _)); exact BK128.out)⟩; have n2_ : Aside0 (Below w.heap.size w wc) := ⟨by rw [← hq_]; exact (by repeat (first | (with_reducible first | exact HB.out | apply below_alloc | apply pw_below_drewN | apply below_drew1 | refine below_set ?_ GE125.out | refine below_set ?_ GE128.out) | exact HB.out))⟩; clear BK125 BK128 HB hq_; have BK125 := n0_; have BK128 := n1_; have HB := n2_; clear n0_ n1_ n2_))
                                  have n0_ := Aside0.mk (blk_drew BK125.out)
                                  have n1_ := Aside0.mk (blk_drew BK128.out)
                                  have n2_ := Aside0.mk (below_drew1 HB.out)
                                  clear BK125
                                  clear BK128
                                  clear HB
                                  have BK125 := n0_
                                  have BK128 := n1_
                                  have HB := n2_
                                  clear n0_ n1_ n2_
                                  have p133 : 0 ≤ (x36_2 : Int) := of_decide_eq_true (by first | (with_reducible assumption) | assumption)
                                  have q133 : x36_2 < (l0_2.length : Int) := of_decide_eq_true (by first | (with_reducible assumption) | assumption)
                                  obtain ⟨ad133, A133_0, c133_0, e133, hx133_0, hl133_0, hi133_0⟩ := at_L3 HR0_2.out x36_2 p133 q133
                                  have hw133_0 := hx133_0
                                  cases e133
                                  replace hx133_0 := (HB.out.cell (World.block_lt_of_cell? w _ hx133_0)).trans hx133_0
                                  have HR133_0 := Aside0.mk hi133_0
                                  have HC133_0 := Aside0.mk hl133_0
                                  clear hi133_0 hl133_0
                                  replace p133 := eq_true p133
                                  replace q133 := eq_true q133
                                  refine start_ (n := 16) (S := fun w' => w'.cell? ⟨gb125, 0, none⟩ = some (.int .i64 a0_0) ∧ w'.cell? ⟨gb125, 1, none⟩ = some (.slice (some ad129) l0_1.length c0_1) ∧ w'.cell? ⟨gb125, 2, none⟩ = some (.slice (some ad133) l0_2.length c0_2) ∧ w'.cell? (ad133.add (x36_2).toNat) = some (.slice A133_0 (rd_L3 l0_2 x36_2).length c133_0)) (ds := []) #[false, false, false, false, false, false, false, false, false, false, false, false, false, false, false, false] (by kernel_rfl) rfl rfl ⟨(blk_cell BK125.out 0).trans rfl, (blk_cell BK125.out 1).trans rfl, (blk_cell BK125.out 2).trans rfl, ((HB.out.cell (World.block_lt_of_cell? w _ hw133_0)).trans hw133_0)⟩ (fun hHeld => ?_); refine with_tabW slots_directory.tab9 slots_directory.bits9 (fun HT_ HW_ => ?_)
                                  generalize wc.drew = w34 at BK125 BK128 HB HR133_0 hx133_0 hHeld ⊢
                                  refine pure_ (i := 0) (N := some 58) (v := ?_) (a' := ?_) #[true, false, false, false, false, false, false, false, false, false, false, false, false, false, false, false] rfl rfl (any_of HT_.out (by kernel_rfl)) (fun _ _ _ h => h) (Or.inl ⟨by rfl, ?_⟩) ?_ ?_
                                  rotate_left
                                  · intro w'
                                    go_simp
                                    with_reducible rfl
                                  rotate_left
                                  · simp only [Act.put, List.setIfInBounds_toArray, List.set_cons_zero, List.set_cons_succ, i64_w, i32_w]
                                    rfl
                                  refine pure_ (i := 1) (N := some 59) (v := ?_) (a' := ?_) #[true, true, false, false, false, false, false, false, false, false, false, false, false, false, false, false] rfl rfl (any_of HT_.out (by kernel_rfl)) (fun _ _ _ h => h) (Or.inl ⟨by rfl, ?_⟩) ?_ ?_
                                  rotate_left
                                  · intro w'
                                    go_simp
                                    with_reducible rfl
                                  rotate_left
                                  · simp only [Act.put, List.setIfInBounds_toArray, List.set_cons_zero, List.set_cons_succ, i64_w, i32_w]
                                    rfl
                                  refine pure_ (i := 2) (N := some 60) (v := ?_) (a' := ?_) #[true, true, true, false, false, false, false, false, false, false, false, false, false, false, false, false] rfl rfl (any_of HT_.out (by kernel_rfl)) (fun _ _ _ h => h) (Or.inl ⟨by rfl, ?_⟩) ?_ ?_
                                  rotate_left
                                  · intro w'
                                    go_simp
                                    with_reducible rfl
                                  rotate_left
                                  · simp only [Act.put, List.setIfInBounds_toArray, List.set_cons_zero, List.set_cons_succ, i64_w, i32_w]
                                    rfl
                                  refine one_ (i := 3) (N := some 61) #[true, true, true, true, false, false, false, false, false, false, false, false, false, false, false, false] rfl rfl (one_of HT_.out (by kernel_rfl)) (by decide) (fun K hK => ?_)
                                  refine goes_ Try.func92 (by kernel_rfl) rfl #[.int .i64 (rd l0_1 x36_2)] (by rfl) rfl rfl (by (try simp only [List.map_toArray, List.map_cons, List.map_nil]); first | done | rfl | (simp only [List.length_drop, List.length_take]; rfl)) ?_
                                  with_reducible refine (slots_is.calls (rd l0_1 x36_2) true _ A28.out).mono ?_
                                  rintro e w' ⟨rfl, ⟨nd, rfl⟩⟩
                                  refine ⟨_, rfl, ?_⟩
                                  refine hK.out _ _ ⟨(blk_cell BK125.out 0).trans rfl, (blk_cell BK125.out 1).trans rfl, (blk_cell BK125.out 2).trans rfl, ((HB.out.cell (World.block_lt_of_cell? w _ hw133_0)).trans hw133_0)⟩ (fun hHeld => ?_)
                                  clear hK K
                                  refine norm_ (a' := ?_) ?_ ?_
                                  rotate_left
                                  · show Act.put _ (some 61) _ = _
                                    simp only [Act.put, List.setIfInBounds_toArray, List.set_cons_zero, List.set_cons_succ, i64_w, i32_w]
                                    rfl
                                  refine pure_ (i := 4) (N := some 62) (v := ?_) (a' := ?_) #[true, true, true, true, true, false, false, false, false, false, false, false, false, false, false, false] rfl rfl (any_of HT_.out (by kernel_rfl)) (fun _ _ _ h => h) (Or.inl ⟨by rfl, ?_⟩) ?_ ?_
                                  rotate_left
                                  · intro w'
                                    go_simp
                                    with_reducible rfl
                                  rotate_left
                                  · simp only [Act.put, List.setIfInBounds_toArray, List.set_cons_zero, List.set_cons_succ, i64_w, i32_w]
                                    rfl
                                  refine pure_ (i := 5) (N := some 63) (v := ?_) (a' := ?_) #[true, true, true, true, true, true, false, false, false, false, false, false, false, false, false, false] rfl rfl (any_of HT_.out (by kernel_rfl)) (fun _ _ _ h => h) (Or.inl ⟨by rfl, ?_⟩) ?_ ?_
                                  rotate_left
                                  · intro w'
                                    go_simp
                                    with_reducible rfl
                                  rotate_left
                                  · simp only [Act.put, List.setIfInBounds_toArray, List.set_cons_zero, List.set_cons_succ, i64_w, i32_w]
                                    rfl
                                  refine pure_ (i := 6) (N := some 64) (v := ?_) (a' := ?_) #[true, true, true, true, true, true, true, false, false, false, false, false, false, false, false, false] rfl rfl (any_of HT_.out (by kernel_rfl)) (fun _ _ _ h => h) (Or.inl ⟨by rfl, ?_⟩) ?_ ?_
                                  rotate_left
                                  · intro w'
                                    go_simp
                                    with_reducible rfl
                                  rotate_left
                                  · simp only [Act.put, List.setIfInBounds_toArray, List.set_cons_zero, List.set_cons_succ, i64_w, i32_w]
                                    rfl
                                  refine pure_ (i := 8) (N := some 66) (v := ?_) (a' := ?_) #[true, true, true, true, true, true, true, false, true, false, false, false, false, false, false, false] rfl rfl (any_of HT_.out (by kernel_rfl)) (fun _ _ _ h => h) (Or.inl ⟨by rfl, ?_⟩) ?_ ?_
                                  rotate_left
                                  · intro w'
                                    go_simp
                                    with_reducible rfl
                                  rotate_left
                                  · simp only [Act.put, List.setIfInBounds_toArray, List.set_cons_zero, List.set_cons_succ, i64_w, i32_w]
                                    rfl
                                  refine pure_ (i := 10) (N := some 68) (v := ?_) (a' := ?_) #[true, true, true, true, true, true, true, false, true, false, true, false, false, false, false, false] rfl rfl (any_of HT_.out (by kernel_rfl)) (fun _ _ _ h => h) (Or.inl ⟨by rfl, ?_⟩) ?_ ?_
                                  rotate_left
                                  · intro w'
                                    go_simp
                                    with_reducible rfl
                                  rotate_left
                                  · simp only [Act.put, List.setIfInBounds_toArray, List.set_cons_zero, List.set_cons_succ, i64_w, i32_w]
                                    rfl
                                  refine take_ (i := 7) (N := some 65) (v := ?_) (a' := ?_) #[true, true, true, true, true, true, true, true, true, false, true, false, false, false, false, false] rfl rfl (take_ofW HT_.out HW_.out (by kernel_rfl)) (fun _ _ _ h => h) (Or.inl ⟨by rfl, ?_⟩) hHeld ?_ ?_
                                  rotate_left
                                  · rintro w' ⟨s0, s1, s2, s3⟩
                                    go_simp
                                    with_reducible rfl
                                  rotate_left
                                  · simp only [Act.put, List.setIfInBounds_toArray, List.set_cons_zero, List.set_cons_succ, i64_w, i32_w]
                                    rfl
                                  refine take_ (i := 9) (N := some 67) (v := ?_) (a' := ?_) #[true, true, true, true, true, true, true, true, true, true, true, false, false, false, false, false] rfl rfl (take_ofW HT_.out HW_.out (by kernel_rfl)) (fun _ _ _ h => h) (Or.inl ⟨by rfl, ?_⟩) hHeld ?_ ?_
                                  rotate_left
                                  · rintro w' ⟨s0, s1, s2, s3⟩
                                    go_simp
                                    with_reducible rfl
                                  rotate_left
                                  · simp only [Act.put, List.setIfInBounds_toArray, List.set_cons_zero, List.set_cons_succ, i64_w, i32_w]
                                    rfl
                                  refine pure_ (i := 11) (N := some 69) (v := ?_) (a' := ?_) #[true, true, true, true, true, true, true, true, true, true, true, true, false, false, false, false] rfl rfl (any_of HT_.out (by kernel_rfl)) (fun _ _ _ h => h) (Or.inl ⟨by rfl, ?_⟩) ?_ ?_
                                  rotate_left
                                  · intro w'
                                    go_simp
                                    with_reducible rfl
                                  rotate_left
                                  · simp only [Act.put, List.setIfInBounds_toArray, List.set_cons_zero, List.set_cons_succ, i64_w, i32_w]
                                    rfl
                                  refine take_ (i := 12) (N := some 70) (v := ?_) (a' := ?_) #[true, true, true, true, true, true, true, true, true, true, true, true, true, false, false, false] rfl rfl (take_ofW HT_.out HW_.out (by kernel_rfl)) (fun _ _ _ h => h) (Or.inl ⟨by rfl, ?_⟩) hHeld ?_ ?_
                                  rotate_left
                                  · rintro w' ⟨s0, s1, s2, s3⟩
                                    go_simp
                                    with_reducible rfl
                                  rotate_left
                                  · simp only [Act.put, List.setIfInBounds_toArray, List.set_cons_zero, List.set_cons_succ, i64_w, i32_w]
                                    rfl
                                  refine one_ (i := 13) (N := some 71) #[true, true, true, true, true, true, true, true, true, true, true, true, true, true, false, false] rfl rfl (one_of HT_.out (by kernel_rfl)) (by decide) (fun K hK => ?_)
                                  refine goes_ Try.func93 (by kernel_rfl) rfl #[.agg #[.int .i64 a0_0, .slice (some ad129) l0_1.length c0_1, .slice (some ad133) l0_2.length c0_2], .slice A133_0 (rd_L3 l0_2 x36_2).length c133_0] (by rfl) rfl rfl (by (try simp only [List.map_toArray, List.map_cons, List.map_nil]); first | done | rfl | (simp only [List.length_drop, List.length_take]; rfl)) ?_
                                  with_reducible refine (slots_fits.calls kj18 a0_0 _ _ l0_1 _ _ l0_2 _ _ (rd_L3 l0_2 x36_2) true _ ?side1 ?side2 ?side3 ?side4 ?side5 ?side6 A32.out).mono ?_
                                  (case side1 => repeat (first | exact (Kd.C_below HR0_1.out (by repeat (first | (with_reducible first | exact HB.out | apply below_alloc | apply pw_below_drewN | apply below_drew1 | refine below_set ?_ GE125.out | refine below_set ?_ GE128.out) | exact HB.out))) | (with_reducible refine Kd.C_alloc ?_ _) | (with_reducible refine Kd.C_drewN ?_ _) | (with_reducible refine Kd.C_drew ?_)))
                                  (case side2 => exact HC0_1.out)
                                  (case side3 => repeat (first | exact (Kd.C_below HR0_2.out (by repeat (first | (with_reducible first | exact HB.out | apply below_alloc | apply pw_below_drewN | apply below_drew1 | refine below_set ?_ GE125.out | refine below_set ?_ GE128.out) | exact HB.out))) | (with_reducible refine Kd.C_alloc ?_ _) | (with_reducible refine Kd.C_drewN ?_ _) | (with_reducible refine Kd.C_drew ?_)))
                                  (case side4 => exact HC0_2.out)
                                  (case side5 => repeat (first | exact (Kd.C_below HR133_0.out (by repeat (first | (with_reducible first | exact HB.out | apply below_alloc | apply pw_below_drewN | apply below_drew1 | refine below_set ?_ GE125.out | refine below_set ?_ GE128.out) | exact HB.out))) | (with_reducible refine Kd.C_alloc ?_ _) | (with_reducible refine Kd.C_drewN ?_ _) | (with_reducible refine Kd.C_drew ?_)))
                                  (case side6 => exact HC133_0.out)
                                  rintro e w35 ⟨rfl, hb⟩
                                  refine ⟨_, rfl, ?_⟩
                                  have n0_ := Aside0.mk (blk_below (g := gb125) (o := .cells #[.int .i64 a0_0, .slice (some ad129) l0_1.length c0_1, .slice (some ad133) l0_2.length c0_2] 25 (0, 0)) (by (with_reducible repeat (first | refine blk_drewN ?_ _ | refine blk_drew ?_ | refine blk_alloc ?_ _)); exact BK125.out) hb)
                                  have n1_ := Aside0.mk (blk_below (g := gb128) (o := ob) (by (with_reducible repeat (first | refine blk_drewN ?_ _ | refine blk_drew ?_ | refine blk_alloc ?_ _)); exact BK128.out) hb)
                                  have n2_ := Aside0.mk (below_step (by repeat (first | (with_reducible first | exact HB.out | apply below_alloc | apply pw_below_drewN | apply below_drew1 | refine below_set ?_ GE125.out | refine below_set ?_ GE128.out) | exact HB.out)) hb)
                                  clear BK125
                                  clear BK128
                                  clear HB
                                  have BK125 := n0_
                                  have BK128 := n1_
                                  have HB := n2_
                                  clear n0_ n1_ n2_
                                  (try clear hb)
                                  (try clear hb2)
                                  (try clear hk)
                                  (try clear hi)
                                  refine hK.out _ _ ⟨(blk_cell BK125.out 0).trans rfl, (blk_cell BK125.out 1).trans rfl, (blk_cell BK125.out 2).trans rfl, ((HB.out.cell (World.block_lt_of_cell? w _ hw133_0)).trans hw133_0)⟩ (fun hHeld => ?_)
                                  clear hK K
                                  refine norm_ (a' := ?_) ?_ ?_
                                  rotate_left
                                  · show Act.put _ (some 71) _ = _
                                    simp only [Act.put, List.setIfInBounds_toArray, List.set_cons_zero, List.set_cons_succ, i64_w, i32_w]
                                    rfl
                                  refine pure_ (i := 14) (N := some 72) (v := ?_) (a' := ?_) #[true, true, true, true, true, true, true, true, true, true, true, true, true, true, true, false] rfl rfl (any_of HT_.out (by kernel_rfl)) (fun _ _ _ h => h) (Or.inl ⟨by rfl, ?_⟩) ?_ ?_
                                  rotate_left
                                  · intro w'
                                    go_simp
                                    with_reducible rfl
                                  rotate_left
                                  · simp only [Act.put, List.setIfInBounds_toArray, List.set_cons_zero, List.set_cons_succ, i64_w, i32_w]
                                    rfl
                                  refine pure_ (i := 15) (N := some 73) (v := ?_) (a' := ?_) #[true, true, true, true, true, true, true, true, true, true, true, true, true, true, true, true] rfl rfl (any_of HT_.out (by kernel_rfl)) (fun _ _ _ h => h) (Or.inl ⟨by rfl, ?_⟩) ?_ ?_
                                  rotate_left
                                  · intro w'
                                    go_simp
                                    with_reducible rfl
                                  rotate_left
                                  · simp only [Act.put, List.setIfInBounds_toArray, List.set_cons_zero, List.set_cons_succ, i64_w, i32_w]
                                    rfl
                                  refine done_ (done_of HT_.out (by kernel_rfl)) ?_
                                  have hlt_ := HLT.out
                                  have HW64 := Aside0.mk (show wrap64 (x36_2 + 1) = x36_2 + 1 from w64 (by have := HDM.out.2.1; omega) (by have := HMX.out; omega))
                                  have HWI := Aside0.mk (show (Lit.int .i64 x36_2).wf = true from WalkArith.wf_i64 (by have := HDM.out.2.1; have := HMX.out; omega))
                                  have HNX := Aside0.mk (show x36_2.toNat < maxLen from by have := HMX.out; unfold maxLen; omega)
                                  have HL_ := Aside0.mk hlt_
                                  clear hlt_ HOWN_ hhas_
                                  go_wp2_with (first | (at_mapUpdate; refine wpList_mapUpdate_own (H := Unit) _ rfl _ _ _ 98 rfl 2 3 (Maps.int_keyed Try.underlying2) Try.underlying98 (plainElem Try.prog 3) gb128 x36_2.toNat D_ rfl ?hO HNX.out _ _ _ rfl rfl (keyOf_int_mk Try.underlying2 HKW.out) _ [] (plainElem_int Try.underlying3 HWI.out) ?_; (case hO => exact HMO.out _ gb128 (by (with_reducible repeat (first | refine blk_drewN ?_ _ | refine blk_drew ?_ | refine blk_alloc ?_ _)); exact BK128.out)); intro w9_ hown9_ hg9_; obtain ⟨ob9_, hob9_, hmo9_⟩ := mapObj_of hown9_; have n0_ := Aside0.mk (blk_grown (by (with_reducible repeat (first | refine blk_drewN ?_ _ | refine blk_drew ?_ | refine blk_alloc ?_ _)); exact BK125.out) hg9_ (by intro e_; injection e_ with e_; exact NB125_128.out e_)); have n2_ := Aside0.mk (((by repeat (first | (with_reducible first | exact HB.out | apply below_alloc | apply pw_below_drewN | apply below_drew1) | exact HB.out)) : Below w.heap.size w _).grown hg9_ (below_size (by repeat (first | (with_reducible first | exact HB.out | apply below_alloc | apply pw_below_drewN | apply below_drew1) | exact HB.out))) (fun k_ e_ => by injection e_ with e_; rw [← e_]; exact GW128.out)); have n1_ := Aside0.mk hob9_; have n3_ := Aside0.mk hmo9_; clear BK125 BK128 HB hown9_ hg9_ hob9_ hmo9_; have BK125 := n0_; have BK128 := n1_; have HB := n2_; have HMO9 := n3_; clear n0_ n1_ n2_ n3_))
                                  have HISM := Aside0.mk (show IsMap D_ from (HMO.out (World.alloc default ob) _ (blk_new _ _)).isMap)
                                  have HDM2 := Aside0.mk (show DirM l0_1 (wrap64 (x36_2 + 1)) ob9_ ∧ 0 ≤ wrap64 (x36_2 + 1) ∧ wrap64 (x36_2 + 1) ≤ (l0_1.length : Int) from by rw [HW64.out]; exact ⟨dirM_put HMO9.out HISM.out HHAS.out HAT.out HDM.out.2.1 HL_.out HNE.out c26b0.out, by have := HDM.out.2.1; omega, by have := HL_.out; omega⟩)
                                  go_roundg kj18
                                  case measure => have := HJ1.out; have := HK2.out; have := HJ18.out; omega
                                  case rel => exact ⟨(wrap64 (x36_2 + 1)), ob9_, (by first | rfl | (simp; done) | (simp [*]; done)), H', ⟨by have := HJ1.out; have := HK2.out; have := HJ18.out; omega⟩, ⟨by (with_reducible repeat (first | refine blk_drewN ?_ _ | refine blk_drew ?_ | refine blk_alloc ?_ _)); exact BK125.out⟩, ⟨by (with_reducible repeat (first | refine blk_drewN ?_ _ | refine blk_drew ?_ | refine blk_alloc ?_ _)); exact BK128.out⟩, HDM2, ⟨by repeat (first | (with_reducible first | exact HB.out | apply below_alloc | apply pw_below_drewN | apply below_drew1 | refine below_set ?_ GE125.out | refine below_set ?_ GE128.out) | exact HB.out)⟩⟩
                                · replace c33 := Bool.eq_false_iff.mpr c33
                                  subst c33
                                  have H1 : (some false) = some r := by rw [if_neg (show ¬ (false = true) by decide)] at H; exact H
                                  clear H
                                  have H := H1
                                  clear H1
                                  obtain rfl := Option.some.inj H
                                  obtain ⟨D_, HMO, HHAS, HAT⟩ := HDM.out.1
                                  have hhas_ : Maps.has D_ (.int .i64 (rd l0_1 x36_2)) = false := by rw [HHAS.out]; exact c26b0.out
                                  have HKW := Aside0.mk (HWF.out (rd l0_1 x36_2) (rd_mem l0_1 x36_2 HDM.out.2.1 HLT.out))
                                  have HOWN_ := Aside0.mk (HMO.out wc gb128 (by (with_reducible repeat (first | refine blk_drewN ?_ _ | refine blk_drew ?_ | refine blk_alloc ?_ _)); exact BK128.out))
                                  try go_wp2_with (first | (at_lookup; refine wpList_lookup_own_ok_int (H := Unit) _ rfl _ _ 98 rfl 2 3 .i64 (Maps.int_keyed Try.underlying2) Try.underlying98 Try.underlying3 (zero_int _) gb128 _ D_ rfl HOWN_.out _ _ rfl (keyOf_int_mk Try.underlying2 HKW.out) ?_; intro c_ hat_ hwc_; clear hat_ hwc_))
                                  (try (rw [drewN_self wc]; generalize hq_ : World.drewN wc _ = wc; have n0_ : Aside0 (wc.heap[gb125]? = some (.cells #[.int .i64 a0_0, .slice (some ad129) l0_1.length c0_1, .slice A0_2 l0_2.length c0_2] 25 (0, 0))) := ⟨by rw [← hq_]; exact (by (with_reducible repeat (first | refine blk_drewN ?_ _ | refine blk_drew ?_ | refine blk_alloc ?_ _)); exact BK125.out)⟩; have n1_ : Aside0 (wc.heap[gb128]? = some (ob)) := ⟨by rw [← hq_]; exact (by (with_reducible repeat (first | refine blk_drewN ?_ _ | refine blk_drew ?_ | refine blk_alloc ?_ _)); exact BK128.out)⟩; have n2_ : Aside0 (Below w.heap.size w wc) := ⟨by rw [← hq_]; exact (by repeat (first | (with_reducible first | exact HB.out | apply below_alloc | apply pw_below_drewN | apply below_drew1 | refine below_set ?_ GE125.out | refine below_set ?_ GE128.out) | exact HB.out))⟩; clear BK125 BK128 HB hq_; have BK125 := n0_; have BK128 := n1_; have HB := n2_; clear n0_ n1_ n2_))
                                  have n0_ := Aside0.mk (blk_drew BK125.out)
                                  have n1_ := Aside0.mk (blk_drew BK128.out)
                                  have n2_ := Aside0.mk (below_drew1 HB.out)
                                  clear BK125
                                  clear BK128
                                  clear HB
                                  have BK125 := n0_
                                  have BK128 := n1_
                                  have HB := n2_
                                  clear n0_ n1_ n2_
                                  have p133 : 0 ≤ (x36_2 : Int) := of_decide_eq_true (by first | (with_reducible assumption) | assumption)
                                  have q133 : x36_2 < (l0_2.length : Int) := of_decide_eq_true (by first | (with_reducible assumption) | assumption)
                                  obtain ⟨ad133, A133_0, c133_0, e133, hx133_0, hl133_0, hi133_0⟩ := at_L3 HR0_2.out x36_2 p133 q133
                                  have hw133_0 := hx133_0
                                  cases e133
                                  replace hx133_0 := (HB.out.cell (World.block_lt_of_cell? w _ hx133_0)).trans hx133_0
                                  have HR133_0 := Aside0.mk hi133_0
                                  have HC133_0 := Aside0.mk hl133_0
                                  clear hi133_0 hl133_0
                                  replace p133 := eq_true p133
                                  replace q133 := eq_true q133
                                  refine start_ (n := 16) (S := fun w' => w'.cell? ⟨gb125, 0, none⟩ = some (.int .i64 a0_0) ∧ w'.cell? ⟨gb125, 1, none⟩ = some (.slice (some ad129) l0_1.length c0_1) ∧ w'.cell? ⟨gb125, 2, none⟩ = some (.slice (some ad133) l0_2.length c0_2) ∧ w'.cell? (ad133.add (x36_2).toNat) = some (.slice A133_0 (rd_L3 l0_2 x36_2).length c133_0)) (ds := []) #[false, false, false, false, false, false, false, false, false, false, false, false, false, false, false, false] (by kernel_rfl) rfl rfl ⟨(blk_cell BK125.out 0).trans rfl, (blk_cell BK125.out 1).trans rfl, (blk_cell BK125.out 2).trans rfl, ((HB.out.cell (World.block_lt_of_cell? w _ hw133_0)).trans hw133_0)⟩ (fun hHeld => ?_); refine with_tabW slots_directory.tab9 slots_directory.bits9 (fun HT_ HW_ => ?_)
                                  generalize wc.drew = w36 at BK125 BK128 HB HR133_0 hx133_0 hHeld ⊢
                                  refine pure_ (i := 0) (N := some 58) (v := ?_) (a' := ?_) #[true, false, false, false, false, false, false, false, false, false, false, false, false, false, false, false] rfl rfl (any_of HT_.out (by kernel_rfl)) (fun _ _ _ h => h) (Or.inl ⟨by rfl, ?_⟩) ?_ ?_
                                  rotate_left
                                  · intro w'
                                    go_simp
                                    with_reducible rfl
                                  rotate_left
                                  · simp only [Act.put, List.setIfInBounds_toArray, List.set_cons_zero, List.set_cons_succ, i64_w, i32_w]
                                    rfl
                                  refine pure_ (i := 1) (N := some 59) (v := ?_) (a' := ?_) #[true, true, false, false, false, false, false, false, false, false, false, false, false, false, false, false] rfl rfl (any_of HT_.out (by kernel_rfl)) (fun _ _ _ h => h) (Or.inl ⟨by rfl, ?_⟩) ?_ ?_
                                  rotate_left
                                  · intro w'
                                    go_simp
                                    with_reducible rfl
                                  rotate_left
                                  · simp only [Act.put, List.setIfInBounds_toArray, List.set_cons_zero, List.set_cons_succ, i64_w, i32_w]
                                    rfl
                                  refine pure_ (i := 2) (N := some 60) (v := ?_) (a' := ?_) #[true, true, true, false, false, false, false, false, false, false, false, false, false, false, false, false] rfl rfl (any_of HT_.out (by kernel_rfl)) (fun _ _ _ h => h) (Or.inl ⟨by rfl, ?_⟩) ?_ ?_
                                  rotate_left
                                  · intro w'
                                    go_simp
                                    with_reducible rfl
                                  rotate_left
                                  · simp only [Act.put, List.setIfInBounds_toArray, List.set_cons_zero, List.set_cons_succ, i64_w, i32_w]
                                    rfl
                                  refine one_ (i := 3) (N := some 61) #[true, true, true, true, false, false, false, false, false, false, false, false, false, false, false, false] rfl rfl (one_of HT_.out (by kernel_rfl)) (by decide) (fun K hK => ?_)
                                  refine goes_ Try.func92 (by kernel_rfl) rfl #[.int .i64 (rd l0_1 x36_2)] (by rfl) rfl rfl (by (try simp only [List.map_toArray, List.map_cons, List.map_nil]); first | done | rfl | (simp only [List.length_drop, List.length_take]; rfl)) ?_
                                  with_reducible refine (slots_is.calls (rd l0_1 x36_2) true _ A28.out).mono ?_
                                  rintro e w' ⟨rfl, ⟨nd, rfl⟩⟩
                                  refine ⟨_, rfl, ?_⟩
                                  refine hK.out _ _ ⟨(blk_cell BK125.out 0).trans rfl, (blk_cell BK125.out 1).trans rfl, (blk_cell BK125.out 2).trans rfl, ((HB.out.cell (World.block_lt_of_cell? w _ hw133_0)).trans hw133_0)⟩ (fun hHeld => ?_)
                                  clear hK K
                                  refine norm_ (a' := ?_) ?_ ?_
                                  rotate_left
                                  · show Act.put _ (some 61) _ = _
                                    simp only [Act.put, List.setIfInBounds_toArray, List.set_cons_zero, List.set_cons_succ, i64_w, i32_w]
                                    rfl
                                  refine pure_ (i := 4) (N := some 62) (v := ?_) (a' := ?_) #[true, true, true, true, true, false, false, false, false, false, false, false, false, false, false, false] rfl rfl (any_of HT_.out (by kernel_rfl)) (fun _ _ _ h => h) (Or.inl ⟨by rfl, ?_⟩) ?_ ?_
                                  rotate_left
                                  · intro w'
                                    go_simp
                                    with_reducible rfl
                                  rotate_left
                                  · simp only [Act.put, List.setIfInBounds_toArray, List.set_cons_zero, List.set_cons_succ, i64_w, i32_w]
                                    rfl
                                  refine pure_ (i := 5) (N := some 63) (v := ?_) (a' := ?_) #[true, true, true, true, true, true, false, false, false, false, false, false, false, false, false, false] rfl rfl (any_of HT_.out (by kernel_rfl)) (fun _ _ _ h => h) (Or.inl ⟨by rfl, ?_⟩) ?_ ?_
                                  rotate_left
                                  · intro w'
                                    go_simp
                                    with_reducible rfl
                                  rotate_left
                                  · simp only [Act.put, List.setIfInBounds_toArray, List.set_cons_zero, List.set_cons_succ, i64_w, i32_w]
                                    rfl
                                  refine pure_ (i := 6) (N := some 64) (v := ?_) (a' := ?_) #[true, true, true, true, true, true, true, false, false, false, false, false, false, false, false, false] rfl rfl (any_of HT_.out (by kernel_rfl)) (fun _ _ _ h => h) (Or.inl ⟨by rfl, ?_⟩) ?_ ?_
                                  rotate_left
                                  · intro w'
                                    go_simp
                                    with_reducible rfl
                                  rotate_left
                                  · simp only [Act.put, List.setIfInBounds_toArray, List.set_cons_zero, List.set_cons_succ, i64_w, i32_w]
                                    rfl
                                  refine pure_ (i := 8) (N := some 66) (v := ?_) (a' := ?_) #[true, true, true, true, true, true, true, false, true, false, false, false, false, false, false, false] rfl rfl (any_of HT_.out (by kernel_rfl)) (fun _ _ _ h => h) (Or.inl ⟨by rfl, ?_⟩) ?_ ?_
                                  rotate_left
                                  · intro w'
                                    go_simp
                                    with_reducible rfl
                                  rotate_left
                                  · simp only [Act.put, List.setIfInBounds_toArray, List.set_cons_zero, List.set_cons_succ, i64_w, i32_w]
                                    rfl
                                  refine pure_ (i := 10) (N := some 68) (v := ?_) (a' := ?_) #[true, true, true, true, true, true, true, false, true, false, true, false, false, false, false, false] rfl rfl (any_of HT_.out (by kernel_rfl)) (fun _ _ _ h => h) (Or.inl ⟨by rfl, ?_⟩) ?_ ?_
                                  rotate_left
                                  · intro w'
                                    go_simp
                                    with_reducible rfl
                                  rotate_left
                                  · simp only [Act.put, List.setIfInBounds_toArray, List.set_cons_zero, List.set_cons_succ, i64_w, i32_w]
                                    rfl
                                  refine take_ (i := 7) (N := some 65) (v := ?_) (a' := ?_) #[true, true, true, true, true, true, true, true, true, false, true, false, false, false, false, false] rfl rfl (take_ofW HT_.out HW_.out (by kernel_rfl)) (fun _ _ _ h => h) (Or.inl ⟨by rfl, ?_⟩) hHeld ?_ ?_
                                  rotate_left
                                  · rintro w' ⟨s0, s1, s2, s3⟩
                                    go_simp
                                    with_reducible rfl
                                  rotate_left
                                  · simp only [Act.put, List.setIfInBounds_toArray, List.set_cons_zero, List.set_cons_succ, i64_w, i32_w]
                                    rfl
                                  refine take_ (i := 9) (N := some 67) (v := ?_) (a' := ?_) #[true, true, true, true, true, true, true, true, true, true, true, false, false, false, false, false] rfl rfl (take_ofW HT_.out HW_.out (by kernel_rfl)) (fun _ _ _ h => h) (Or.inl ⟨by rfl, ?_⟩) hHeld ?_ ?_
                                  rotate_left
                                  · rintro w' ⟨s0, s1, s2, s3⟩
                                    go_simp
                                    with_reducible rfl
                                  rotate_left
                                  · simp only [Act.put, List.setIfInBounds_toArray, List.set_cons_zero, List.set_cons_succ, i64_w, i32_w]
                                    rfl
                                  refine pure_ (i := 11) (N := some 69) (v := ?_) (a' := ?_) #[true, true, true, true, true, true, true, true, true, true, true, true, false, false, false, false] rfl rfl (any_of HT_.out (by kernel_rfl)) (fun _ _ _ h => h) (Or.inl ⟨by rfl, ?_⟩) ?_ ?_
                                  rotate_left
                                  · intro w'
                                    go_simp
                                    with_reducible rfl
                                  rotate_left
                                  · simp only [Act.put, List.setIfInBounds_toArray, List.set_cons_zero, List.set_cons_succ, i64_w, i32_w]
                                    rfl
                                  refine take_ (i := 12) (N := some 70) (v := ?_) (a' := ?_) #[true, true, true, true, true, true, true, true, true, true, true, true, true, false, false, false] rfl rfl (take_ofW HT_.out HW_.out (by kernel_rfl)) (fun _ _ _ h => h) (Or.inl ⟨by rfl, ?_⟩) hHeld ?_ ?_
                                  rotate_left
                                  · rintro w' ⟨s0, s1, s2, s3⟩
                                    go_simp
                                    with_reducible rfl
                                  rotate_left
                                  · simp only [Act.put, List.setIfInBounds_toArray, List.set_cons_zero, List.set_cons_succ, i64_w, i32_w]
                                    rfl
                                  refine one_ (i := 13) (N := some 71) #[true, true, true, true, true, true, true, true, true, true, true, true, true, true, false, false] rfl rfl (one_of HT_.out (by kernel_rfl)) (by decide) (fun K hK => ?_)
                                  refine goes_ Try.func93 (by kernel_rfl) rfl #[.agg #[.int .i64 a0_0, .slice (some ad129) l0_1.length c0_1, .slice (some ad133) l0_2.length c0_2], .slice A133_0 (rd_L3 l0_2 x36_2).length c133_0] (by rfl) rfl rfl (by (try simp only [List.map_toArray, List.map_cons, List.map_nil]); first | done | rfl | (simp only [List.length_drop, List.length_take]; rfl)) ?_
                                  with_reducible refine (slots_fits.calls kj18 a0_0 _ _ l0_1 _ _ l0_2 _ _ (rd_L3 l0_2 x36_2) false _ ?side1 ?side2 ?side3 ?side4 ?side5 ?side6 A32.out).mono ?_
                                  (case side1 => repeat (first | exact (Kd.C_below HR0_1.out (by repeat (first | (with_reducible first | exact HB.out | apply below_alloc | apply pw_below_drewN | apply below_drew1 | refine below_set ?_ GE125.out | refine below_set ?_ GE128.out) | exact HB.out))) | (with_reducible refine Kd.C_alloc ?_ _) | (with_reducible refine Kd.C_drewN ?_ _) | (with_reducible refine Kd.C_drew ?_)))
                                  (case side2 => exact HC0_1.out)
                                  (case side3 => repeat (first | exact (Kd.C_below HR0_2.out (by repeat (first | (with_reducible first | exact HB.out | apply below_alloc | apply pw_below_drewN | apply below_drew1 | refine below_set ?_ GE125.out | refine below_set ?_ GE128.out) | exact HB.out))) | (with_reducible refine Kd.C_alloc ?_ _) | (with_reducible refine Kd.C_drewN ?_ _) | (with_reducible refine Kd.C_drew ?_)))
                                  (case side4 => exact HC0_2.out)
                                  (case side5 => repeat (first | exact (Kd.C_below HR133_0.out (by repeat (first | (with_reducible first | exact HB.out | apply below_alloc | apply pw_below_drewN | apply below_drew1 | refine below_set ?_ GE125.out | refine below_set ?_ GE128.out) | exact HB.out))) | (with_reducible refine Kd.C_alloc ?_ _) | (with_reducible refine Kd.C_drewN ?_ _) | (with_reducible refine Kd.C_drew ?_)))
                                  (case side6 => exact HC133_0.out)
                                  rintro e w37 ⟨rfl, hb⟩
                                  refine ⟨_, rfl, ?_⟩
                                  have n0_ := Aside0.mk (blk_below (g := gb125) (o := .cells #[.int .i64 a0_0, .slice (some ad129) l0_1.length c0_1, .slice (some ad133) l0_2.length c0_2] 25 (0, 0)) (by (with_reducible repeat (first | refine blk_drewN ?_ _ | refine blk_drew ?_ | refine blk_alloc ?_ _)); exact BK125.out) hb)
                                  have n1_ := Aside0.mk (blk_below (g := gb128) (o := ob) (by (with_reducible repeat (first | refine blk_drewN ?_ _ | refine blk_drew ?_ | refine blk_alloc ?_ _)); exact BK128.out) hb)
                                  have n2_ := Aside0.mk (below_step (by repeat (first | (with_reducible first | exact HB.out | apply below_alloc | apply pw_below_drewN | apply below_drew1 | refine below_set ?_ GE125.out | refine below_set ?_ GE128.out) | exact HB.out)) hb)
                                  clear BK125
                                  clear BK128
                                  clear HB
                                  have BK125 := n0_
                                  have BK128 := n1_
                                  have HB := n2_
                                  clear n0_ n1_ n2_
                                  (try clear hb)
                                  (try clear hb2)
                                  (try clear hk)
                                  (try clear hi)
                                  refine hK.out _ _ ⟨(blk_cell BK125.out 0).trans rfl, (blk_cell BK125.out 1).trans rfl, (blk_cell BK125.out 2).trans rfl, ((HB.out.cell (World.block_lt_of_cell? w _ hw133_0)).trans hw133_0)⟩ (fun hHeld => ?_)
                                  clear hK K
                                  refine norm_ (a' := ?_) ?_ ?_
                                  rotate_left
                                  · show Act.put _ (some 71) _ = _
                                    simp only [Act.put, List.setIfInBounds_toArray, List.set_cons_zero, List.set_cons_succ, i64_w, i32_w]
                                    rfl
                                  refine pure_ (i := 14) (N := some 72) (v := ?_) (a' := ?_) #[true, true, true, true, true, true, true, true, true, true, true, true, true, true, true, false] rfl rfl (any_of HT_.out (by kernel_rfl)) (fun _ _ _ h => h) (Or.inl ⟨by rfl, ?_⟩) ?_ ?_
                                  rotate_left
                                  · intro w'
                                    go_simp
                                    with_reducible rfl
                                  rotate_left
                                  · simp only [Act.put, List.setIfInBounds_toArray, List.set_cons_zero, List.set_cons_succ, i64_w, i32_w]
                                    rfl
                                  refine pure_ (i := 15) (N := some 73) (v := ?_) (a' := ?_) #[true, true, true, true, true, true, true, true, true, true, true, true, true, true, true, true] rfl rfl (any_of HT_.out (by kernel_rfl)) (fun _ _ _ h => h) (Or.inl ⟨by rfl, ?_⟩) ?_ ?_
                                  rotate_left
                                  · intro w'
                                    go_simp
                                    with_reducible rfl
                                  rotate_left
                                  · simp only [Act.put, List.setIfInBounds_toArray, List.set_cons_zero, List.set_cons_succ, i64_w, i32_w]
                                    rfl
                                  refine done_ (done_of HT_.out (by kernel_rfl)) ?_
                                  try go_wp2
                                  go_ret2
                                  exact ⟨_, by first | rfl | (simp [errW_none, errW_some] <;> rfl) | (simp [*, errW_none, errW_some] <;> rfl), dirPost_no _ _, by repeat (first | (with_reducible first | exact HB.out | apply below_alloc | apply pw_below_drewN | apply below_drew1 | refine below_set ?_ GE125.out | refine below_set ?_ GE128.out) | exact HB.out)⟩
                              · rw [if_neg c31] at H
                                exact absurd H (by simp)
                            · rw [if_neg c30] at H
                              exact absurd H (by simp)
                          · replace c29 := Bool.eq_false_iff.mpr c29
                            subst c29
                            have H1 : (some false) = some r := by rw [if_neg (show ¬ (false = true) by decide)] at H; exact H
                            clear H
                            have H := H1
                            clear H1
                            obtain rfl := Option.some.inj H
                            obtain ⟨D_, HMO, HHAS, HAT⟩ := HDM.out.1
                            have hhas_ : Maps.has D_ (.int .i64 (rd l0_1 x36_2)) = false := by rw [HHAS.out]; exact c26b0.out
                            have HKW := Aside0.mk (HWF.out (rd l0_1 x36_2) (rd_mem l0_1 x36_2 HDM.out.2.1 HLT.out))
                            have HOWN_ := Aside0.mk (HMO.out wc gb128 (by (with_reducible repeat (first | refine blk_drewN ?_ _ | refine blk_drew ?_ | refine blk_alloc ?_ _)); exact BK128.out))
                            try go_wp2_with (first | (at_lookup; refine wpList_lookup_own_ok_int (H := Unit) _ rfl _ _ 98 rfl 2 3 .i64 (Maps.int_keyed Try.underlying2) Try.underlying98 Try.underlying3 (zero_int _) gb128 _ D_ rfl HOWN_.out _ _ rfl (keyOf_int_mk Try.underlying2 HKW.out) ?_; intro c_ hat_ hwc_; clear hat_ hwc_))
                            (try (rw [drewN_self wc]; generalize hq_ : World.drewN wc _ = wc; have n0_ : Aside0 (wc.heap[gb125]? = some (.cells #[.int .i64 a0_0, .slice (some ad129) l0_1.length c0_1, .slice A0_2 l0_2.length c0_2] 25 (0, 0))) := ⟨by rw [← hq_]; exact (by (with_reducible repeat (first | refine blk_drewN ?_ _ | refine blk_drew ?_ | refine blk_alloc ?_ _)); exact BK125.out)⟩; have n1_ : Aside0 (wc.heap[gb128]? = some (ob)) := ⟨by rw [← hq_]; exact (by (with_reducible repeat (first | refine blk_drewN ?_ _ | refine blk_drew ?_ | refine blk_alloc ?_ _)); exact BK128.out)⟩; have n2_ : Aside0 (Below w.heap.size w wc) := ⟨by rw [← hq_]; exact (by repeat (first | (with_reducible first | exact HB.out | apply below_alloc | apply pw_below_drewN | apply below_drew1 | refine below_set ?_ GE125.out | refine below_set ?_ GE128.out) | exact HB.out))⟩; clear BK125 BK128 HB hq_; have BK125 := n0_; have BK128 := n1_; have HB := n2_; clear n0_ n1_ n2_))
                            have n0_ := Aside0.mk (blk_drew BK125.out)
                            have n1_ := Aside0.mk (blk_drew BK128.out)
                            have n2_ := Aside0.mk (below_drew1 HB.out)
                            clear BK125
                            clear BK128
                            clear HB
                            have BK125 := n0_
                            have BK128 := n1_
                            have HB := n2_
                            clear n0_ n1_ n2_
                            refine start_ (n := 16) (S := fun w' => True) (ds := []) #[false, false, false, false, false, false, false, false, false, false, false, false, false, false, false, false] (by kernel_rfl) rfl rfl trivial (fun hHeld => ?_); refine with_tabW slots_directory.tab9 slots_directory.bits9 (fun HT_ HW_ => ?_)
                            generalize wc.drew = w38 at BK125 BK128 HB hHeld ⊢
                            refine pure_ (i := 0) (N := some 58) (v := ?_) (a' := ?_) #[true, false, false, false, false, false, false, false, false, false, false, false, false, false, false, false] rfl rfl (any_of HT_.out (by kernel_rfl)) (fun _ _ _ h => h) (Or.inl ⟨by rfl, ?_⟩) ?_ ?_
                            rotate_left
                            · intro w'
                              go_simp
                              with_reducible rfl
                            rotate_left
                            · simp only [Act.put, List.setIfInBounds_toArray, List.set_cons_zero, List.set_cons_succ, i64_w, i32_w]
                              rfl
                            refine pure_ (i := 1) (N := some 59) (v := ?_) (a' := ?_) #[true, true, false, false, false, false, false, false, false, false, false, false, false, false, false, false] rfl rfl (any_of HT_.out (by kernel_rfl)) (fun _ _ _ h => h) (Or.inl ⟨by rfl, ?_⟩) ?_ ?_
                            rotate_left
                            · intro w'
                              go_simp
                              with_reducible rfl
                            rotate_left
                            · simp only [Act.put, List.setIfInBounds_toArray, List.set_cons_zero, List.set_cons_succ, i64_w, i32_w]
                              rfl
                            refine pure_ (i := 2) (N := some 60) (v := ?_) (a' := ?_) #[true, true, true, false, false, false, false, false, false, false, false, false, false, false, false, false] rfl rfl (any_of HT_.out (by kernel_rfl)) (fun _ _ _ h => h) (Or.inl ⟨by rfl, ?_⟩) ?_ ?_
                            rotate_left
                            · intro w'
                              go_simp
                              with_reducible rfl
                            rotate_left
                            · simp only [Act.put, List.setIfInBounds_toArray, List.set_cons_zero, List.set_cons_succ, i64_w, i32_w]
                              rfl
                            refine one_ (i := 3) (N := some 61) #[true, true, true, true, false, false, false, false, false, false, false, false, false, false, false, false] rfl rfl (one_of HT_.out (by kernel_rfl)) (by decide) (fun K hK => ?_)
                            refine goes_ Try.func92 (by kernel_rfl) rfl #[.int .i64 (rd l0_1 x36_2)] (by rfl) rfl rfl (by (try simp only [List.map_toArray, List.map_cons, List.map_nil]); first | done | rfl | (simp only [List.length_drop, List.length_take]; rfl)) ?_
                            with_reducible refine (slots_is.calls (rd l0_1 x36_2) false _ A28.out).mono ?_
                            rintro e w' ⟨rfl, ⟨nd, rfl⟩⟩
                            refine ⟨_, rfl, ?_⟩
                            refine hK.out _ _ trivial (fun hHeld => ?_)
                            clear hK K
                            refine norm_ (a' := ?_) ?_ ?_
                            rotate_left
                            · show Act.put _ (some 61) _ = _
                              simp only [Act.put, List.setIfInBounds_toArray, List.set_cons_zero, List.set_cons_succ, i64_w, i32_w]
                              rfl
                            refine pure_ (i := 4) (N := some 62) (v := ?_) (a' := ?_) #[true, true, true, true, true, false, false, false, false, false, false, false, false, false, false, false] rfl rfl (any_of HT_.out (by kernel_rfl)) (fun _ _ _ h => h) (Or.inl ⟨by rfl, ?_⟩) ?_ ?_
                            rotate_left
                            · intro w'
                              go_simp
                              with_reducible rfl
                            rotate_left
                            · simp only [Act.put, List.setIfInBounds_toArray, List.set_cons_zero, List.set_cons_succ, i64_w, i32_w]
                              rfl
                            refine pure_ (i := 5) (N := some 63) (v := ?_) (a' := ?_) #[true, true, true, true, true, true, false, false, false, false, false, false, false, false, false, false] rfl rfl (any_of HT_.out (by kernel_rfl)) (fun _ _ _ h => h) (Or.inl ⟨by rfl, ?_⟩) ?_ ?_
                            rotate_left
                            · intro w'
                              go_simp
                              with_reducible rfl
                            rotate_left
                            · simp only [Act.put, List.setIfInBounds_toArray, List.set_cons_zero, List.set_cons_succ, i64_w, i32_w]
                              rfl
                            refine pure_ (i := 6) (N := some 64) (v := ?_) (a' := ?_) #[true, true, true, true, true, true, true, false, false, false, false, false, false, false, false, false] rfl rfl (any_of HT_.out (by kernel_rfl)) (fun _ _ _ h => h) (Or.inl ⟨by rfl, ?_⟩) ?_ ?_
                            rotate_left
                            · intro w'
                              go_simp
                              with_reducible rfl
                            rotate_left
                            · simp only [Act.put, List.setIfInBounds_toArray, List.set_cons_zero, List.set_cons_succ, i64_w, i32_w]
                              rfl
                            refine pure_ (i := 7) (N := some 65) (v := undef) (a' := ?_) #[true, true, true, true, true, true, true, true, false, false, false, false, false, false, false, false] rfl rfl (any_of HT_.out (by kernel_rfl)) (fun _ _ _ h => h) (Or.inr ⟨by rfl, rfl⟩) ?_ ?_
                            rotate_left
                            · simp only [Act.put, List.setIfInBounds_toArray, List.set_cons_zero, List.set_cons_succ, i64_w, i32_w]
                              rfl
                            refine pure_ (i := 8) (N := some 66) (v := undef) (a' := ?_) #[true, true, true, true, true, true, true, true, true, false, false, false, false, false, false, false] rfl rfl (any_of HT_.out (by kernel_rfl)) (fun _ _ _ h => h) (Or.inr ⟨by rfl, rfl⟩) ?_ ?_
                            rotate_left
                            · simp only [Act.put, List.setIfInBounds_toArray, List.set_cons_zero, List.set_cons_succ, i64_w, i32_w]
                              rfl
                            refine pure_ (i := 9) (N := some 67) (v := undef) (a' := ?_) #[true, true, true, true, true, true, true, true, true, true, false, false, false, false, false, false] rfl rfl (any_of HT_.out (by kernel_rfl)) (fun _ _ _ h => h) (Or.inr ⟨by rfl, rfl⟩) ?_ ?_
                            rotate_left
                            · simp only [Act.put, List.setIfInBounds_toArray, List.set_cons_zero, List.set_cons_succ, i64_w, i32_w]
                              rfl
                            refine pure_ (i := 10) (N := some 68) (v := undef) (a' := ?_) #[true, true, true, true, true, true, true, true, true, true, true, false, false, false, false, false] rfl rfl (any_of HT_.out (by kernel_rfl)) (fun _ _ _ h => h) (Or.inr ⟨by rfl, rfl⟩) ?_ ?_
                            rotate_left
                            · simp only [Act.put, List.setIfInBounds_toArray, List.set_cons_zero, List.set_cons_succ, i64_w, i32_w]
                              rfl
                            refine pure_ (i := 11) (N := some 69) (v := undef) (a' := ?_) #[true, true, true, true, true, true, true, true, true, true, true, true, false, false, false, false] rfl rfl (any_of HT_.out (by kernel_rfl)) (fun _ _ _ h => h) (Or.inr ⟨by rfl, rfl⟩) ?_ ?_
                            rotate_left
                            · simp only [Act.put, List.setIfInBounds_toArray, List.set_cons_zero, List.set_cons_succ, i64_w, i32_w]
                              rfl
                            refine pure_ (i := 12) (N := some 70) (v := undef) (a' := ?_) #[true, true, true, true, true, true, true, true, true, true, true, true, true, false, false, false] rfl rfl (any_of HT_.out (by kernel_rfl)) (fun _ _ _ h => h) (Or.inr ⟨by rfl, rfl⟩) ?_ ?_
                            rotate_left
                            · simp only [Act.put, List.setIfInBounds_toArray, List.set_cons_zero, List.set_cons_succ, i64_w, i32_w]
                              rfl
                            refine pure_ (i := 13) (N := some 71) (v := undef) (a' := ?_) #[true, true, true, true, true, true, true, true, true, true, true, true, true, true, false, false] rfl rfl (any_of HT_.out (by kernel_rfl)) (fun _ _ _ h => h) (Or.inr ⟨by rfl, rfl⟩) ?_ ?_
                            rotate_left
                            · simp only [Act.put, List.setIfInBounds_toArray, List.set_cons_zero, List.set_cons_succ, i64_w, i32_w]
                              rfl
                            refine pure_ (i := 14) (N := some 72) (v := undef) (a' := ?_) #[true, true, true, true, true, true, true, true, true, true, true, true, true, true, true, false] rfl rfl (any_of HT_.out (by kernel_rfl)) (fun _ _ _ h => h) (Or.inr ⟨by rfl, rfl⟩) ?_ ?_
                            rotate_left
                            · simp only [Act.put, List.setIfInBounds_toArray, List.set_cons_zero, List.set_cons_succ, i64_w, i32_w]
                              rfl
                            refine pure_ (i := 15) (N := some 73) (v := ?_) (a' := ?_) #[true, true, true, true, true, true, true, true, true, true, true, true, true, true, true, true] rfl rfl (any_of HT_.out (by kernel_rfl)) (fun _ _ _ h => h) (Or.inl ⟨by rfl, ?_⟩) ?_ ?_
                            rotate_left
                            · intro w'
                              go_simp
                              with_reducible rfl
                            rotate_left
                            · simp only [Act.put, List.setIfInBounds_toArray, List.set_cons_zero, List.set_cons_succ, i64_w, i32_w]
                              rfl
                            refine done_ (done_of HT_.out (by kernel_rfl)) ?_
                            try go_wp2
                            go_ret2
                            exact ⟨_, by first | rfl | (simp [errW_none, errW_some] <;> rfl) | (simp [*, errW_none, errW_some] <;> rfl), dirPost_no _ _, by repeat (first | (with_reducible first | exact HB.out | apply below_alloc | apply pw_below_drewN | apply below_drew1 | refine below_set ?_ GE125.out | refine below_set ?_ GE128.out) | exact HB.out)⟩
                · rw [if_neg c18] at H
                  exact absurd H (by simp)
              · rw [if_neg c17] at H
                exact absurd H (by simp)
            · rw [if_neg c16] at H
              have c16b0 : decide (x36_2 < (l0_1.length : Int)) = false := decide_eq_false c16
              clear c16
              obtain rfl := Option.some.inj H
              go_wp2
              go_ret2
              exact ⟨_, by first | rfl | (simp [errW_none, errW_some] <;> rfl) | (simp [*, errW_none, errW_some] <;> rfl), dirPost_yes (by (with_reducible repeat (first | refine blk_drewN ?_ _ | refine blk_drew ?_ | refine blk_alloc ?_ _)); exact BK128.out) HDM.out.1 HDM.out.2.1 (of_decide_eq_false (by first | (with_reducible assumption) | assumption)) HDM.out.2.2, by repeat (first | (with_reducible first | exact HB.out | apply below_alloc | apply pw_below_drewN | apply below_drew1 | refine below_set ?_ GE125.out | refine below_set ?_ GE128.out) | exact HB.out)⟩

end Go.Proofs.Ytkjibgfgbfacdaa.P
end
/-! part: F142 -/
section
set_option linter.unusedVariables false
set_option linter.unusedSimpArgs false
namespace Go.Proofs.Ytkjibgfgbfacdaa.P
open Go.RowKit Go.Proofs.YtkjibgfgbfacdaaW.PrintWords Go.Proofs.YtkjibgfgbfacdaaW.PrintLast Go.Proofs.YtkjibgfgbfacdaaW.PrintMore
attribute [local go_sem] max2_int min2_int max_two min_two max_three min_three max_four min_four   -- for this text's walks alone
set_option linter.unusedVariables false
set_option linter.unusedSimpArgs false

/-! ### train_Check_1: function 142 -/
def train_Check_1.f (k : Nat) (l0 : List Int) : Option (Bool) := (vec_Check.f k l0).bind fun t104 => (some (t104 != 0))
theorem train_Check_1.mono : ∀ a0 k, LeO (train_Check_1.f k a0) (train_Check_1.f (k + 1) a0) := by
  intro a0 k
  unfold train_Check_1.f
  repeat' first
      | (with_reducible exact vec_Check.mono _ _)
      | (with_reducible exact LeO.refl _)
      | (with_reducible exact LeO.none _)
      | (with_reducible refine LeO.ite ?_ ?_)
      | (with_reducible refine LeO.bind ?_ (fun _ => ?_))
      | exact vec_Check.mono _ _
      | exact LeO.none _
      | refine LeO.ite ?_ ?_
      | refine LeO.bind ?_ (fun _ => ?_)
set_option maxHeartbeats 8000000 in
set_option maxRecDepth 100000 in
theorem train_Check_1.calls (k : Nat) (A0 : Option Addr) (c0 : Nat) (l0 : List Int) (r : Bool) (w : World) (hr0 : Kd.C (Kd.int .i16) w A0 l0.length l0) (hc0 : l0.length ≤ c0) (h : train_Check_1.f k l0 = some r) :
    Calls Try.prog 142 #[.slice A0 l0.length c0] w fun e w' => e = .returned (.bool r) ∧ Below w.heap.size w w' := by
  have HR0 := Aside0.mk hr0
  have HC0 := Aside0.mk hc0
  clear hr0 hc0
  have HB := Aside0.mk (Below.refl w.heap.size w)
  have H : ((vec_Check.f k l0).bind fun t104 => (some (t104 != 0))) = some r := h
  clear h
  replace H := Option.bind_eq_some_iff.mp H
  obtain ⟨t104, A20, H⟩ := H
  replace H : (some (t104 != 0)) = some r := H
  have A2 := Aside0.mk A20
  clear A20
  obtain rfl := Option.some.inj H
  go_enter Try.func142, Try.ntmps142
  go_wp2_with (first | ((with_reducible refine gate_callee (f := 131) rfl ?_); refine goesL_ (some 4) rfl rfl Try.func131 (by kernel_rfl) rfl #[.slice A0 l0.length c0] rfl (by (try simp only [List.map_toArray, List.map_cons, List.map_nil]); first | done | rfl | (simp only [List.length_drop, List.length_take]; rfl)) ?_; (with_reducible refine (vec_Check.calls k _ _ l0 t104 _ ?side1 ?side2 A2.out).mono ?_); (case side1 => repeat (first | exact HR0.out | (with_reducible refine Kd.C_alloc ?_ _) | (with_reducible refine Kd.C_drewN ?_ _) | (with_reducible refine Kd.C_drew ?_))); (case side2 => exact HC0.out); rintro e w3 ⟨rfl, hb⟩; refine ⟨_, rfl, ?_⟩; have n0_ := Aside0.mk (below_step (by repeat (first | (with_reducible first | exact HB.out | apply below_alloc | apply pw_below_drewN | apply below_drew1) | exact HB.out)) hb); clear HB; have HB := n0_; clear n0_; (try clear hb); (try clear hb2); (try clear hk); (try clear hi)))
  go_ret
  exact ⟨by first | rfl | (simp [errW_none, errW_some] <;> rfl) | (simp [*, errW_none, errW_some] <;> rfl), by repeat (first | (with_reducible first | exact HB.out | apply below_alloc | apply pw_below_drewN | apply below_drew1) | exact HB.out)⟩

end Go.Proofs.Ytkjibgfgbfacdaa.P
end
/-! part: F147 -/
section
set_option linter.unusedVariables false
set_option linter.unusedSimpArgs false
namespace Go.Proofs.Ytkjibgfgbfacdaa.P
open Go.RowKit Go.Proofs.YtkjibgfgbfacdaaW.PrintWords Go.Proofs.YtkjibgfgbfacdaaW.PrintLast Go.Proofs.YtkjibgfgbfacdaaW.PrintMore
attribute [local go_sem] max2_int min2_int max_two min_two max_three min_three max_four min_four   -- for this text's walks alone
set_option linter.unusedVariables false
set_option linter.unusedSimpArgs false

/-! ### api_Vec_int16_147: function 147 -/
def api_Vec_int16_147.l0 : Nat → List Int → List Int → Int → Int → Option (Bool)
  | 0, _, _, _, _ => none
  | k + 1, x0, x1, x12, x13 => if x13 < x12 then (if 0 ≤ x13 then (if x13 < (x0.length : Int) then (if x13 < (x1.length : Int) then (if (rd x0 x13) = (rd x1 x13) then (api_Vec_int16_147.l0 k x0 x1 x12 (wrap64 (x13 + 1))) else (some false)) else (none)) else (none)) else (none)) else (some true)
def api_Vec_int16_147.f (k : Nat) (l0 : List Int) (l1 : List Int) : Option (Bool) := if (l0.length : Int) = (l1.length : Int) then (api_Vec_int16_147.l0 k l0 l1 (l0.length : Int) 0) else (some false)
theorem api_Vec_int16_147.mono_l : ∀ k, (∀ y0 y1 y2 y3, LeO (api_Vec_int16_147.l0 k y0 y1 y2 y3) (api_Vec_int16_147.l0 (k + 1) y0 y1 y2 y3))
  | 0 => fun _ _ _ _ r h => by simp [api_Vec_int16_147.l0] at h
  | k + 1 => by
    have ih0 := api_Vec_int16_147.mono_l k
    · intro y0 y1 y2 y3
      unfold api_Vec_int16_147.l0
      repeat' first
      | (with_reducible exact ih0 _ _ _ _)
      | (with_reducible exact LeO.refl _)
      | (with_reducible exact LeO.none _)
      | (with_reducible refine LeO.ite ?_ ?_)
      | (with_reducible refine LeO.bind ?_ (fun _ => ?_))
      | exact ih0 _ _ _ _
      | exact LeO.none _
      | refine LeO.ite ?_ ?_
      | refine LeO.bind ?_ (fun _ => ?_)
theorem api_Vec_int16_147.mono : ∀ a0 a1 k, LeO (api_Vec_int16_147.f k a0 a1) (api_Vec_int16_147.f (k + 1) a0 a1) := by
  intro a0 a1 k
  have ih0 := api_Vec_int16_147.mono_l k
  unfold api_Vec_int16_147.f
  repeat' first
      | (with_reducible exact ih0 _ _ _ _)
      | (with_reducible exact LeO.refl _)
      | (with_reducible exact LeO.none _)
      | (with_reducible refine LeO.ite ?_ ?_)
      | (with_reducible refine LeO.bind ?_ (fun _ => ?_))
      | exact ih0 _ _ _ _
      | exact LeO.none _
      | refine LeO.ite ?_ ?_
      | refine LeO.bind ?_ (fun _ => ?_)
set_option maxHeartbeats 8000000 in
set_option maxRecDepth 100000 in
theorem api_Vec_int16_147.calls (k : Nat) (A0 : Option Addr) (c0 : Nat) (l0 : List Int) (A1 : Option Addr) (c1 : Nat) (l1 : List Int) (r : Bool) (w : World) (hr0 : Kd.C (Kd.int .i16) w A0 l0.length l0) (hc0 : l0.length ≤ c0) (hr1 : Kd.C (Kd.int .i16) w A1 l1.length l1) (hc1 : l1.length ≤ c1) (h : api_Vec_int16_147.f k l0 l1 = some r) :
    Calls Try.prog 147 #[.slice A0 l0.length c0, .slice A1 l1.length c1] w fun e w' => e = .returned (.bool r) ∧ Drawn0 w w' := by
  have HR0 := Aside0.mk hr0
  have HC0 := Aside0.mk hc0
  clear hr0 hc0
  have HR1 := Aside0.mk hr1
  have HC1 := Aside0.mk hc1
  clear hr1 hc1
  have H : (if (l0.length : Int) = (l1.length : Int) then (api_Vec_int16_147.l0 k l0 l1 (l0.length : Int) 0) else (some false)) = some r := h
  clear h
  by_cases c3 : (l0.length : Int) = (l1.length : Int)
  · rw [if_pos c3] at H
    have c3b0 : ((l0.length : Int) == (l1.length : Int)) = true := beq_iff_eq.mpr c3
    have c3b1 : ((l0.length : Int) != (l1.length : Int)) = false := bne_eq_false_iff_eq.mpr c3
    have c3b2 : (l0.length == l1.length) = true := by first | simpa using c3 | (simp at c3 ⊢; omega)
    clear c3
    have H' := Aside0.mk H
    clear H
    go_enter Try.func147, Try.ntmps147
    go_wp2
    repeat (go_quiet (fail); try go_wp2)
    go_loopg [13] k (fun kq v13 w' => ∃ (x13_1 : Int), v13 = .int .i64 x13_1 ∧ Aside0 (api_Vec_int16_147.l0 kq l0 l1 (l0.length : Int) x13_1 = some r) ∧ Aside0 (kq ≤ k) ∧ Drawn0 w w')
    case atStart => exact ⟨(0), (by first | rfl | (simp; done) | (simp [*]; done)), H', ⟨Nat.le_refl _⟩, by repeat (first | exact Drawn0.refl _ | apply Drawn0.step)⟩
    case round =>
      clear H'
      try clear c1
      try clear p2
      try clear c3
      try clear c3b0
      try clear c3b1
      try clear c3b2
      obtain ⟨x13_1, rfl, HA, HK1, ⟨m1, rfl⟩⟩ := hrel
      cases gk with
      | zero => exact absurd HA.out (by simp [api_Vec_int16_147.l0])
      | succ k1 =>
        have H := HA.out
        clear HA
        simp only [api_Vec_int16_147.l0] at H
        by_cases c4 : x13_1 < (l0.length : Int)
        · rw [if_pos c4] at H
          have c4b0 : decide (x13_1 < (l0.length : Int)) = true := decide_eq_true c4
          clear c4
          by_cases c5 : 0 ≤ x13_1
          · rw [if_pos c5] at H
            have c5b0 : decide (0 ≤ x13_1) = true := decide_eq_true c5
            clear c5
            by_cases c6 : x13_1 < (l0.length : Int)
            · rw [if_pos c6] at H
              have c6b0 : decide (x13_1 < (l0.length : Int)) = true := decide_eq_true c6
              clear c6
              by_cases c7 : x13_1 < (l1.length : Int)
              · rw [if_pos c7] at H
                have c7b0 : decide (x13_1 < (l1.length : Int)) = true := decide_eq_true c7
                clear c7
                by_cases c8 : (rd l0 x13_1) = (rd l1 x13_1)
                · rw [if_pos c8] at H
                  have c8b0 : ((rd l0 x13_1) == (rd l1 x13_1)) = true := beq_iff_eq.mpr c8
                  have c8b1 : ((rd l0 x13_1) != (rd l1 x13_1)) = false := bne_eq_false_iff_eq.mpr c8
                  clear c8
                  have H' := Aside0.mk H
                  clear H
                  have p119 : 0 ≤ (x13_1 : Int) := of_decide_eq_true (by first | (with_reducible assumption) | assumption)
                  have q119 : x13_1 < (l0.length : Int) := of_decide_eq_true (by first | (with_reducible assumption) | assumption)
                  obtain ⟨ad119, e119, hx119_0⟩ := Kd.at_int HR0.out x13_1 p119 q119
                  cases e119
                  replace p119 := eq_true p119
                  replace q119 := eq_true q119
                  have p120 : 0 ≤ (x13_1 : Int) := of_decide_eq_true (by first | (with_reducible assumption) | assumption)
                  have q120 : x13_1 < (l1.length : Int) := of_decide_eq_true (by first | (with_reducible assumption) | assumption)
                  obtain ⟨ad120, e120, hx120_0⟩ := Kd.at_int HR1.out x13_1 p120 q120
                  cases e120
                  replace p120 := eq_true p120
                  replace q120 := eq_true q120
                  go_wp2
                  repeat (go_quiet (fail); try go_wp2)
                  go_roundg k1
                  case measure => have := HK1.out; omega
                  case rel => exact ⟨(wrap64 (x13_1 + 1)), (by first | rfl | (simp; done) | (simp [*]; done)), H', ⟨by have := HK1.out; omega⟩, by repeat (first | exact Drawn0.refl _ | apply Drawn0.step)⟩
                · rw [if_neg c8] at H
                  have c8b0 : ((rd l0 x13_1) == (rd l1 x13_1)) = false := beq_eq_false_iff_ne.mpr c8
                  have c8b1 : ((rd l0 x13_1) != (rd l1 x13_1)) = true := bne_iff_ne.mpr c8
                  obtain rfl := Option.some.inj H
                  have p119 : 0 ≤ (x13_1 : Int) := of_decide_eq_true (by first | (with_reducible assumption) | assumption)
                  have q119 : x13_1 < (l0.length : Int) := of_decide_eq_true (by first | (with_reducible assumption) | assumption)
                  obtain ⟨ad119, e119, hx119_0⟩ := Kd.at_int HR0.out x13_1 p119 q119
                  cases e119
                  replace p119 := eq_true p119
                  replace q119 := eq_true q119
                  have p120 : 0 ≤ (x13_1 : Int) := of_decide_eq_true (by first | (with_reducible assumption) | assumption)
                  have q120 : x13_1 < (l1.length : Int) := of_decide_eq_true (by first | (with_reducible assumption) | assumption)
                  obtain ⟨ad120, e120, hx120_0⟩ := Kd.at_int HR1.out x13_1 p120 q120
                  cases e120
                  replace p120 := eq_true p120
                  replace q120 := eq_true q120
                  go_wp2
                  repeat (go_quiet (fail); try go_wp2)
                  go_ret
                  exact ⟨by first | rfl | (simp; done) | (simp [*]; done), by repeat (first | exact Drawn0.refl _ | apply Drawn0.step)⟩
              · rw [if_neg c7] at H
                exact absurd H (by simp)
            · rw [if_neg c6] at H
              exact absurd H (by simp)
          · rw [if_neg c5] at H
            exact absurd H (by simp)
        · rw [if_neg c4] at H
          have c4b0 : decide (x13_1 < (l0.length : Int)) = false := decide_eq_false c4
          clear c4
          obtain rfl := Option.some.inj H
          go_wp2
          repeat (go_quiet (fail); try go_wp2)
          go_ret
          exact ⟨by first | rfl | (simp; done) | (simp [*]; done), by repeat (first | exact Drawn0.refl _ | apply Drawn0.step)⟩
  · rw [if_neg c3] at H
    have c3b0 : ((l0.length : Int) == (l1.length : Int)) = false := beq_eq_false_iff_ne.mpr c3
    have c3b1 : ((l0.length : Int) != (l1.length : Int)) = true := bne_iff_ne.mpr c3
    have c3b2 : (l0.length == l1.length) = false := by first | simpa using c3 | (simp at c3 ⊢; omega)
    obtain rfl := Option.some.inj H
    go_enter Try.func147, Try.ntmps147
    go_wp2
    repeat (go_quiet (fail); try go_wp2)
    go_ret
    exact ⟨by first | rfl | (simp; done) | (simp [*]; done), by repeat (first | exact Drawn0.refl _ | apply Drawn0.step)⟩

end Go.Proofs.Ytkjibgfgbfacdaa.P
end
