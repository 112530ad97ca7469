/- The law RankCounts of this seat answers true for every input, and its arguments read as they did. Conditions: none. This file holds a part of what the proof needs. -/
import Derived.Lib.SliceRun
import Derived.RowKit
import Derived.WalkKit
import Derived.ProofKit
import Derived.OpenShut
import Derived.Below
import Derived.SizedLaws
import Derived.Lib.SmallJoins
import Derived.Deep.Matrix
import Derived.Test.YtkjibgfgbfacdaaRows
import Derived.KernelRfl
import Derived.JoinedOf
import Derived.Test.YtkjibgfgbfacdaaProg
import Derived.Deep.Draws
import Derived.Deep.AppendLies
import Derived.Maps.AppendAt
import Derived.OwnWalk
import Derived.Laws.BytesArg
import Derived.Laws.MakeOwn
import Derived.Laws.OwnMore
import Derived.Deep.OwnRows
import Derived.Tactics
import Derived.Lib.ConvBytes
import Derived.Laws.Slices
import Derived.RowKit3
import Derived.Deep.LoopGhost
import Derived.Deep.QuietTactic
import Derived.BigQuiet
import Derived.WideLaws
import Derived.Deep.DeepCutAuto
import Derived.Deep.CutBlock
import Derived.Deep.RegionHeld3
import Derived.Laws.Rows
import Derived.Lib.AppendStr
import Derived.ArgAppend
import Derived.Laws.IdiomCopy
import Derived.OrdersHeld
import Derived.Laws.BitsLemmas
import Derived.Shelf.Abstract
import Derived.Shelf.SlGeneric
import Derived.Shelf.SlLaysNS
import Derived.Shelf.SlLaysO
import Derived.Shelf.SlSorted.Search
import Derived.RangeFuncBox
import Derived.RangeFuncLeaves
import Derived.OwnWalkIn
import Derived.TacticsInMore
import Derived.LoopNIn
import Derived.LoopIn
import Derived.Shelf.SortG.Plain
import Derived.Test.YtkjibgfgbfacdaaKRankCounts0
/-! part: HBase -/
section
set_option linter.unusedVariables false
set_option linter.unusedSimpArgs false
namespace Go.Proofs.YtkjibgfgbfacdaaW.PrintWords
open Go.RowKit
namespace Kd
theorem C_zero {α : Type} {d : Kd α} {w : World} {n : Nat} {xs : List α} (h : d.C w none n xs) : xs = [] := by
  obtain ⟨h1, _, h3⟩ := h
  rcases Nat.eq_zero_or_pos n with h0 | h0
  · exact List.eq_nil_of_length_eq_zero (h1.trans h0)
  · obtain ⟨ad, e, _⟩ := h3 h0
    cases e
end Kd
end Go.Proofs.YtkjibgfgbfacdaaW.PrintWords
namespace Go.Proofs.YtkjibgfgbfacdaaW.PrintWords
open Go.RowKit
/-- An element of a row of slices. -/
theorem Kd.at_sl {α : Type} {d : Kd α} {e : Nat} {w : World} {A : Option Addr} {n : Nat} {xs : List (List α)} (h : Kd.C (Kd.slice e d) w A n xs) (i : Int) (h0 : 0 ≤ i) (h1 : i < (n : Int)) :
    ∃ ad A0 c0, A = some ad ∧ w.cell? (ad.add i.toNat) = some (.slice A0 (xs.getD i.toNat []).length c0) ∧ (xs.getD i.toNat []).length ≤ c0 ∧ d.C w A0 (xs.getD i.toNat []).length (xs.getD i.toNat []) := by
  obtain ⟨ad, c, e, _, hK, hc0⟩ := Kd.C_get h ([] : List α) i h0 h1
  have hc : ∀ j u, c[j]? = some u → w.cell? (ad.add (i.toNat * 1 + j)) = some u := hc0
  obtain ⟨A0, c0, rfl, l0, g0⟩ := hK
  exact ⟨ad, A0, c0, e, by have hq := hc 0 _ rfl; rwa [Nat.mul_one, Nat.add_zero] at hq, l0, g0⟩
end Go.Proofs.YtkjibgfgbfacdaaW.PrintWords
end
/-! part: PTools -/
section
set_option linter.unusedVariables false
set_option linter.unusedSimpArgs false
namespace Go.Proofs.Ytkjibgfgbfacdaa.P
open Go.RowKit Go.Proofs.YtkjibgfgbfacdaaW.PrintWords

/-- A number that came in. -/
def okN (k : IntKind) (n : Int) : Prop := (Lit.int k n).wf = true
/-- A list of numbers that came in. -/
def okI (k : IntKind) (l : List Int) : Prop := l.length ≤ 9223372036854775807 ∧ ∀ n ∈ l, (Lit.int k n).wf = true
/-- A list of lists of numbers that came in. -/
def okII (k : IntKind) (l : List (List Int)) : Prop := l.length ≤ 9223372036854775807 ∧ ∀ y ∈ l, y.length ≤ 9223372036854775807 ∧ ∀ n ∈ y, (Lit.int k n).wf = true
/-- From some fuel on the answer stands. -/
def Ev {α : Type} (g : Nat → Option α) (v : α) : Prop := ∃ K, ∀ k, K ≤ k → g k = some v
theorem Ev.const {α : Type} (v : α) : Ev (fun _ => some v) v := ⟨0, fun _ _ => rfl⟩
theorem Ev.of {α : Type} {g : Nat → Option α} {v : α} (h : ∀ k, g k = some v) : Ev g v := ⟨0, fun k _ => h k⟩
theorem Ev.some {α : Type} {g : Nat → Option α} {v : α} (h : Ev g v) : ∃ k, g k = .some v := by
  obtain ⟨K, h⟩ := h
  exact ⟨K, h K (Nat.le_refl _)⟩
theorem Ev.bind {α β : Type} {f : Nat → Option α} {h : Nat → α → Option β} {a : α} {b : β} (hf : Ev f a) (hh : Ev (fun k => h k a) b) : Ev (fun k => (f k).bind (h k)) b := by
  obtain ⟨K1, h1⟩ := hf
  obtain ⟨K2, h2⟩ := hh
  exact ⟨K1 + K2, fun k hk => by show (f k).bind (h k) = _; rw [h1 k (by omega)]; exact h2 k (by omega)⟩
theorem Ev.congr {α : Type} {g g' : Nat → Option α} {v : α} (e : ∀ k, g k = g' k) (h : Ev g' v) : Ev g v := by
  obtain ⟨K, h⟩ := h
  exact ⟨K, fun k hk => by rw [e]; exact h k hk⟩
/-- One step of a function that spends its fuel. -/
theorem Ev.step {α : Type} {g g' : Nat → Option α} {v : α} (e : ∀ k, g (k + 1) = g' k) (h : Ev g' v) : Ev g v := by
  obtain ⟨K, h⟩ := h
  refine ⟨K + 1, fun k hk => ?_⟩
  obtain ⟨k, rfl⟩ : ∃ m, k = m + 1 := ⟨k - 1, by omega⟩
  rw [e]
  exact h k (by omega)
theorem Ev.cond {α : Type} {c : Prop} [Decidable c] {g g' : Nat → Option α} {v v' : α} (h : c → Ev g v) (h' : ¬ c → Ev g' v') : Ev (fun k => if c then g k else g' k) (if c then v else v') := by
  by_cases e : c
  · simp only [if_pos e]; exact h e
  · simp only [if_neg e]; exact h' e
theorem w64 {i : Int} (h0 : -9223372036854775808 ≤ i) (h1 : i ≤ 9223372036854775807) : wrap64 i = i := by
  unfold wrap64
  omega
theorem rdO {α : Type} (d : α) (l : List α) (i : Int) (h0 : 0 ≤ i) (h1 : i < (l.length : Int)) : l.drop i.toNat = (l.getD i.toNat d) :: l.drop (i + 1).toNat := by
  have h : i.toNat < l.length := by omega
  rw [List.drop_eq_getElem_cons h, show (i + 1).toNat = i.toNat + 1 by omega]
  simp [List.getD_eq_getElem?_getD, h]
end Go.Proofs.Ytkjibgfgbfacdaa.P
end
/-! part: RBase -/
section
set_option linter.unusedVariables false
set_option linter.unusedSimpArgs false
namespace Go.Proofs.Ytkjibgfgbfacdaa.R
open Go.ChangeShapes Go.WideShapes Go.ChangeAt Go.RowKit Go.Deep Go.Proofs.YtkjibgfgbfacdaaW.PrintWords
set_option linter.unusedVariables false
set_option linter.unusedSimpArgs false
section
variable {H : Type} {enc : TypeId × Value → H} {P : Program} {w : World} {base : Nat} {held : Bool}
/-- A slice of whole numbers that came in. -/
theorem openI {t e : TypeId} {k : IntKind} {fuel : Nat} {v : Value} {x : DataW H × List MemPlace} (ht : P.underlying t = some (.slice e)) (he : P.underlying e = some (.int k)) (hc : P.cellsOf e = 1)
    (h : DataW.trod enc P w base (fun _ => true) held fuel t [v] = some x) :
    ∃ (A : Option Addr) (c : Nat) (l : List Int), v = .slice A l.length c ∧ l.length ≤ c ∧ (Kd.int k).C w A l.length l ∧ Go.Proofs.Ytkjibgfgbfacdaa.P.okI k l := by
  rcases open_ints ht he hc h with ⟨e1, _⟩ | ⟨a, len, cap, zs, e1, _, hl, hm, hz, _, hcell, hwz⟩
  · injection e1 with e1
    exact ⟨none, 0, [], e1, Nat.le_refl _, Kd.C_nil _ _, by simp, fun n hn => by cases hn⟩
  · injection e1 with e1
    simp only [if_true] at hz
    have hlen : (zs.take len).length = len := by rw [List.length_take]; omega
    refine ⟨some a, cap, zs.take len, by rw [hlen]; exact e1, by rw [hlen]; exact hl, ?_, by unfold maxLen at hm; omega, fun n hn => hwz n (List.mem_of_mem_take hn)⟩
    rw [hlen]
    refine Kd.C_of_reads (d := (0 : Int)) (h1 := fun _ => rfl) ⟨hlen, by unfold maxLen at hm; omega, fun _ => ⟨a, rfl, fun j hj => ?_⟩⟩
    rw [hcell j (by omega)]
    congr 2
    simp [List.getD_eq_getElem?_getD, List.getElem?_take, hj]
end
end Go.Proofs.Ytkjibgfgbfacdaa.R
end
/-! part: RFacts1 -/
section
set_option linter.unusedVariables false
set_option linter.unusedSimpArgs false
namespace Go.Proofs.Ytkjibgfgbfacdaa.RFacts
theorem f2 : (laidOutB Try.pinned.checked.prog) = true := by kernel_rfl
theorem f3 : (mapsRowed Try.pinned.checked.prog) = true := by kernel_rfl
theorem f23 : (Rows.bookBackRow.plainKeys == Try.pinned.checked.prog.plainKeys) = true := by kernel_rfl
theorem f25 : (Try.pinned.checked.prog.stopsHeard) = true := by kernel_rfl
theorem f26 : (Try.pinned.checked.prog.mayEnter) = true := by kernel_rfl
end Go.Proofs.Ytkjibgfgbfacdaa.RFacts
end
/-! part: RFacts2 -/
section
set_option linter.unusedVariables false
set_option linter.unusedSimpArgs false
namespace Go.Proofs.Ytkjibgfgbfacdaa.RFacts
theorem f27 : (Rows.bookBackRow.lifted == Try.pinned.checked.prog.liftsFinal) = true := by kernel_rfl
end Go.Proofs.Ytkjibgfgbfacdaa.RFacts
end
/-! part: RFacts3 -/
section
set_option linter.unusedVariables false
set_option linter.unusedSimpArgs false
namespace Go.Proofs.Ytkjibgfgbfacdaa.RFacts
theorem f28 : (Try.pinned.checked.prog.make == some Rows.bookBackRow.make) = true := by kernel_rfl
end Go.Proofs.Ytkjibgfgbfacdaa.RFacts
end
/-! part: F -/
section
set_option linter.unusedVariables false
set_option linter.unusedSimpArgs false
namespace Go.Proofs.Ytkjibgfgbfacdaa.P
open Go.RowKit Go.Proofs.YtkjibgfgbfacdaaW.PrintWords Go.Proofs.YtkjibgfgbfacdaaW.PrintLast Go.Proofs.YtkjibgfgbfacdaaW.PrintMore
attribute [local go_sem] max2_int min2_int max_two min_two max_three min_three max_four min_four   -- for this text's walks alone
set_option linter.unusedVariables false
set_option linter.unusedSimpArgs false



def errW : Option Int → Value
  | none => .nilIface
  | some c => .iface 0 (.int .i64 c)
theorem errW_none : errW none = .nilIface := rfl
theorem errW_some (c : Int) : errW (some c) = .iface 0 (.int .i64 c) := rfl

theorem info2 : (Try.prog.info? 2).map (fun i => (i.zero, i.size, i.bytes)) = some (some (.int .i64 0), 1, 8) := by kernel_rfl
theorem info3 : (Try.prog.info? 3).map (fun i => (i.zero, i.size, i.bytes)) = some (some (.int .i64 0), 1, 8) := by kernel_rfl
theorem info5 : (Try.prog.info? 5).map (fun i => (i.zero, i.size, i.bytes)) = some (some (.int .u8 0), 1, 1) := by kernel_rfl
theorem info26 : (Try.prog.info? 26).map (fun i => (i.zero, i.size, i.bytes)) = some (some (.slice none 0 0), 1, 24) := by kernel_rfl
theorem info74 : (Try.prog.info? 74).map (fun i => (i.zero, i.size, i.bytes)) = some (some (.int .i16 0), 1, 2) := by kernel_rfl
-- the values' own types
def rd_L3 (xs : List (List Int)) (i : Int) : (List Int) := xs.getD i.toNat ([] : List Int)
theorem at_L3 {w : World} {A : Option Addr} {n : Nat} {xs : List (List Int)} (h : Kd.C (Kd.slice 74 (Kd.int .i16)) w A n xs) (i : Int) (h0 : 0 ≤ i) (h1 : i < n) : ∃ ad A0 c0, A = some ad ∧ w.cell? (ad.add i.toNat) = some (.slice A0 (rd_L3 xs i).length c0) ∧ (rd_L3 xs i).length ≤ c0 ∧ (Kd.int .i16).C w A0 (rd_L3 xs i).length (rd_L3 xs i) := by
  obtain ⟨ad, c, e, _, hK, hc0⟩ := Kd.C_get h ([] : List Int) i h0 h1
  have hc : ∀ j u, c[j]? = some u → w.cell? (ad.add (i.toNat * 1 + j)) = some u := hc0
  obtain ⟨A0, c0, rfl, l0, g0⟩ := hK
  exact ⟨ad, A0, c0, e, by have hq := hc 0 _ rfl; rwa [Nat.mul_one, Nat.add_zero] at hq, l0, g0⟩

def rd_L4 (xs : List (List Int)) (i : Int) : (List Int) := xs.getD i.toNat ([] : List Int)
def rd_L5 (xs : List (List (List Int))) (i : Int) : (List (List Int)) := xs.getD i.toNat ([] : List (List Int))
def rd_L6 (xs : List (List (List Int))) (i : Int) : (List (List Int)) := xs.getD i.toNat ([] : List (List Int))
def rd_L8 (xs : List (List Int)) (i : Int) : (List Int) := xs.getD i.toNat ([] : List Int)
/-! #### struct type 72 -/
structure S72 where
  f0 : Bool
  f1 : (List Int)
def z72 : S72 := ⟨false, ([] : List Int)⟩
def k72 : Kd S72 := Kd.iso (Kd.pair Kd.bool (Kd.slice 5 (Kd.int .u8))) (fun x : S72 => (x.f0, x.f1))
def rd_T72 (xs : List S72) (i : Int) : S72 := xs.getD i.toNat z72
end Go.Proofs.Ytkjibgfgbfacdaa.P
end
/-! part: HSpec -/
section
set_option linter.unusedVariables false
set_option linter.unusedSimpArgs false
namespace Go.Proofs.Ytkjibgfgbfacdaa.P
open Go.RowKit Go.Proofs.YtkjibgfgbfacdaaW.PrintWords

/-! ### numbers -/
def i64B (x : Int) : Bool := decide (-9223372036854775808 ≤ x) && decide (x ≤ 9223372036854775807)
def isIdB (x : Int) : Bool := decide (0 ≤ x) && decide (x ≤ 2147483647)
/-! ### vectors -/
def vecOk (v : List Int) : Bool := decide (1 ≤ v.length) && decide (v.length ≤ 64) && v.all (fun x => decide (-32767 ≤ x))
/-! ### slots -/
def slotOk (dim id : Int) (v : List Int) : Bool := (decide (id = -1) && v.isEmpty) || (isIdB id && vecOk v && decide ((v.length : Int) = dim))
def slotsOk (dim : Int) (ids : List Int) (vecs : List (List Int)) : Bool :=
  decide (1 ≤ dim) && decide (dim ≤ 64) && decide (1 ≤ ids.length) && decide (ids.length ≤ 256) && decide (vecs.length = ids.length) &&
    (ids.zip vecs).all (fun p => slotOk dim p.1 p.2) && decide (ids.filter (fun x => decide (x ≠ -1))).Nodup
def h_slots_Check.f (a0_0 : Int) (l0_1 : List Int) (l0_2 : List (List Int)) : Option (Int) :=
  if l0_1.all i64B = true then some (if slotsOk a0_0 l0_1 l0_2 = true then 0 else 1) else none
def h_slots_Find.f (a0_0 : Int) (l0_1 : List Int) (l0_2 : List (List Int)) (a1 : Int) : Option (Int × Int) :=
  if l0_1.all i64B = true ∧ i64B a1 = true then
    some (if slotsOk a0_0 l0_1 l0_2 = true ∧ isIdB a1 = true then (if l0_1.idxOf a1 < l0_1.length then ((l0_1.idxOf a1 : Int), 0) else (0, 5)) else (0, 1))
  else none
def h_slots_Live.f (a0_0 : Int) (l0_1 : List Int) (l0_2 : List (List Int)) : Option (List Int × Int) :=
  if l0_1.all i64B = true then some (if slotsOk a0_0 l0_1 l0_2 = true then ((l0_1.filter (fun x => decide (x ≠ -1))).mergeSort (fun a b => decide (a ≤ b)), 0) else ([], 1)) else none
/-! ### slices -/
def h_RepeatI64.f (l0 : List Int) (a1 : Int) : Option (List Int) :=
  match l0 with
  | [x] => if 1 ≤ a1 ∧ a1 ≤ 256 then some (List.replicate a1.toNat x) else none
  | _ => none
def h_EqVecs.f (l0 l1 : List (List Int)) : Option Bool := some (decide (l0 = l1))
def h_EqCuts.f (l0 l1 : List (List Int)) : Option Bool := some (decide (l0 = l1))
def h_OddVecs.f (l0 : List (List Int)) : Option Bool := some (l0.any (fun v => !vecOk v))
def h_OddNums.f (l0 : List Int) : Option Bool := some (l0.any (fun x => decide (x < -32767)))
/-! ### train -/
def trainOk (at_ : Int) (sample : List (List Int)) : Bool := decide ((sample.length : Int) ≤ at_) && decide (at_ ≤ 4096) && sample.all vecOk
end Go.Proofs.Ytkjibgfgbfacdaa.P
end
/-! part: HIndexFunc -/
section
set_option linter.unusedVariables false
set_option linter.unusedSimpArgs false
namespace Go.Proofs.Ytkjibgfgbfacdaa.P
open Go.RowKit Go.Proofs.YtkjibgfgbfacdaaW.PrintWords Go.Proofs.YtkjibgfgbfacdaaW.PrintLast Go.Proofs.YtkjibgfgbfacdaaW.PrintMore
set_option linter.unusedVariables false
set_option linter.unusedSimpArgs false

/-- The first place at which p holds, counted from i on; -1: there is none. -/
def idxI {α : Type} (p : α → Bool) : List α → Int → Int
  | [], _ => -1
  | x :: t, i => if p x then i else idxI p t (i + 1)
theorem idxI_nonneg {α : Type} (p : α → Bool) (l : List α) : ∀ i : Int, 0 ≤ i → (0 ≤ idxI p l i ↔ l.any p = true) := by
  induction l with
  | nil => intro i _; simp [idxI]
  | cons x t ih =>
    intro i hi
    have e : idxI p (x :: t) i = if p x = true then i else idxI p t (i + 1) := rfl
    by_cases hp : p x = true
    · rw [e, if_pos hp]
      simp [hp, hi]
    · rw [e, if_neg hp, ih (i + 1) (by omega)]
      simp [Bool.eq_false_iff.mpr hp]
theorem idxI_any {α : Type} (p : α → Bool) (l : List α) (i : Int) (hi : 0 ≤ i) : decide (0 ≤ idxI p l i) = l.any p := by
  rw [Bool.eq_iff_iff, decide_eq_true_eq]
  exact idxI_nonneg p l i hi
/-- What the function value at g (captured: lb) tells of a vector, in every world in which all that was there is as it was. -/
def PredV (g : Nat) (lb : Array Value) (p : List Int → Bool) (w : World) : Prop :=
  ∀ (W : World) (x : List Int) (A : Option Addr) (c : Nat), Below w.heap.size w W → Kd.C (Kd.int .i16) W A x.length x → x.length ≤ c →
    Calls Try.prog g (#[.slice A x.length c] ++ lb) W fun e W' => e = .returned (.bool (p x)) ∧ Below w.heap.size w W'
def PredI (k : IntKind) (g : Nat) (lb : Array Value) (p : Int → Bool) (w : World) : Prop :=
  ∀ (W : World) (x : Int), Below w.heap.size w W → Calls Try.prog g (#[.int k x] ++ lb) W fun e W' => e = .returned (.bool (p x)) ∧ Below w.heap.size w W'

theorem drop_rdV (l : List (List Int)) (i : Int) (h0 : 0 ≤ i) (h1 : i < (l.length : Int)) : l.drop i.toNat = (l.getD i.toNat []) :: l.drop (i + 1).toNat := by
  have h : i.toNat < l.length := by omega
  rw [List.drop_eq_getElem_cons h, show (i + 1).toNat = i.toNat + 1 by omega]
  simp [List.getD_eq_getElem?_getD, h]
theorem drop_rdI (l : List Int) (i : Int) (h0 : 0 ≤ i) (h1 : i < (l.length : Int)) : l.drop i.toNat = (rd l i) :: l.drop (i + 1).toNat := by
  have h : i.toNat < l.length := by omega
  rw [List.drop_eq_getElem_cons h, show (i + 1).toNat = i.toNat + 1 by omega]
  simp [rd, List.getD_eq_getElem?_getD, h]

set_option maxHeartbeats 2000000 in
set_option maxRecDepth 100000 in
theorem indexFunc_cuts (g : Nat) (lb : Array Value) (p : List Int → Bool) (A0 : Option Addr) (c0 : Nat) (l0 : List (List Int)) (w : World)
    (eg : ∀ args w, (callFunc g args).run Try.prog w = .ok (.enter g args) w) (hp : PredV g lb p w)
    (hr0 : Kd.C (Kd.slice 74 (Kd.int .i16)) w A0 l0.length l0) (hc0 : l0.length ≤ c0) :
    Calls Try.prog 152 #[.slice A0 l0.length c0, .func (.func g) #[] lb] w fun e w' => e = .returned (.int .i64 (idxI p l0 0)) ∧ Below w.heap.size w w' := by
  have HR0 := Aside0.mk hr0
  have HP := Aside0.mk hp
  have hmax : l0.length ≤ 9223372036854775807 := hr0.2.1
  clear hr0 hp
  go_enter Try.func152, Try.ntmps152
  go_wp2
  go_loopg [5, 8] l0.length (fun kq v5 v8 w' => ∃ (i : Int), v8 = .int .i64 i ∧ Aside0 (idxI p (l0.drop i.toNat) i = idxI p l0 0) ∧ Aside0 (0 ≤ i ∧ i ≤ (l0.length : Int) ∧ (l0.length : Int) - i ≤ (kq : Int)) ∧ Aside0 (Below w.heap.size w w'))
  case atStart => exact ⟨0, rfl, ⟨rfl⟩, ⟨by omega, by omega, by omega⟩, ⟨Below.refl _ _⟩⟩
  case round =>
    obtain ⟨i, rfl, HI, HK, HB⟩ := hrel
    obtain ⟨h0, h1, h2⟩ := HK.out
    by_cases hlt : i < (l0.length : Int)
    · have hdr := drop_rdV l0 i h0 hlt
      obtain ⟨ad, A1, c1, e1, hx, hl1, hC1⟩ := Kd.at_sl (Kd.C_below HR0.out HB.out) i h0 hlt
      cases e1
      have hI := HI.out
      rw [hdr] at hI
      simp only [idxI] at hI
      have hcall := fun W hb hC => HP.out W (l0.getD i.toNat []) A1 c1 hb hC hl1
      generalize (l0.getD i.toNat []) = x at *
      have HC1 := Aside0.mk hC1
      clear hdr HI hC1
      cases hq : p x with
      | true =>
        rw [hq] at hcall hI
        simp only [if_true] at hI
        have HCALL := Aside0.mk hcall
        have HI2 := Aside0.mk hI
        clear hI hcall hq
        go_wp2_with (go_at_fn g; refine (HCALL.out _ (by first | exact HB.out | exact HB.out.drew) HC1.out).mono ?_; rintro e w' ⟨rfl, hb'⟩)
        go_ret
        exact ⟨by rw [HI2.out]; rfl, hb'⟩
      | false =>
        rw [hq] at hcall hI
        simp only [Bool.false_eq_true, if_false] at hI
        have HCALL := Aside0.mk hcall
        have HI2 := Aside0.mk hI
        clear hI hcall hq
        go_wp2_with (go_at_fn g; refine (HCALL.out _ (by first | exact HB.out | exact HB.out.drew) HC1.out).mono ?_; rintro e w' ⟨rfl, hb'⟩)
        have HB2 := Aside0.mk hb'
        clear hb'
        cases gk with
        | zero => exact absurd h2 (by omega)
        | succ gk1 =>
          go_roundg gk1
          case measure => omega
          case rel => exact ⟨i + 1, rfl, ⟨HI2.out⟩, ⟨by omega, by omega, by omega⟩, HB2⟩
    · have hI := HI.out
      rw [List.drop_eq_nil_of_le (by omega)] at hI
      have HI2 := Aside0.mk hI
      clear hI HI
      go_wp2
      go_ret
      exact ⟨by rw [← HI2.out]; rfl, HB.out⟩

set_option maxHeartbeats 2000000 in
set_option maxRecDepth 100000 in
theorem containsFunc_cuts (g : Nat) (lb : Array Value) (p : List Int → Bool) (A0 : Option Addr) (c0 : Nat) (l0 : List (List Int)) (w : World)
    (eg : ∀ args w, (callFunc g args).run Try.prog w = .ok (.enter g args) w) (hp : PredV g lb p w)
    (hr0 : Kd.C (Kd.slice 74 (Kd.int .i16)) w A0 l0.length l0) (hc0 : l0.length ≤ c0) :
    Calls Try.prog 112 #[.slice A0 l0.length c0, .func (.func g) #[] lb] w fun e w' => e = .returned (.bool (l0.any p)) ∧ Below w.heap.size w w' := by
  have H := Aside0.mk (indexFunc_cuts g lb p A0 c0 l0 w eg hp hr0 hc0)
  rw [← idxI_any p l0 0 (by omega)]
  generalize idxI p l0 0 = z at *
  clear hp hr0
  go_enter Try.func112, Try.ntmps112
  go_wp2_with (refine H.out.mono ?_; rintro e w' ⟨rfl, hb'⟩; have HB' := Aside0.mk hb'; clear hb')
  go_ret
  exact ⟨rfl, HB'.out⟩

set_option maxHeartbeats 2000000 in
set_option maxRecDepth 100000 in
theorem indexFunc_i16 (g : Nat) (lb : Array Value) (p : Int → Bool) (A0 : Option Addr) (c0 : Nat) (l0 : List Int) (w : World)
    (eg : ∀ args w, (callFunc g args).run Try.prog w = .ok (.enter g args) w) (hp : PredI .i16 g lb p w)
    (hr0 : Kd.C (Kd.int .i16) w A0 l0.length l0) (hc0 : l0.length ≤ c0) :
    Calls Try.prog 159 #[.slice A0 l0.length c0, .func (.func g) #[] lb] w fun e w' => e = .returned (.int .i64 (idxI p l0 0)) ∧ Below w.heap.size w w' := by
  have HR0 := Aside0.mk hr0
  have HP := Aside0.mk hp
  have hmax : l0.length ≤ 9223372036854775807 := hr0.2.1
  clear hr0 hp
  go_enter Try.func159, Try.ntmps159
  go_wp2
  go_loopg [5, 8] l0.length (fun kq v5 v8 w' => ∃ (i : Int), v8 = .int .i64 i ∧ Aside0 (idxI p (l0.drop i.toNat) i = idxI p l0 0) ∧ Aside0 (0 ≤ i ∧ i ≤ (l0.length : Int) ∧ (l0.length : Int) - i ≤ (kq : Int)) ∧ Aside0 (Below w.heap.size w w'))
  case atStart => exact ⟨0, rfl, ⟨rfl⟩, ⟨by omega, by omega, by omega⟩, ⟨Below.refl _ _⟩⟩
  case round =>
    obtain ⟨i, rfl, HI, HK, HB⟩ := hrel
    obtain ⟨h0, h1, h2⟩ := HK.out
    by_cases hlt : i < (l0.length : Int)
    · have hdr := drop_rdI l0 i h0 hlt
      obtain ⟨ad, e1, hx⟩ := Kd.at_int (Kd.C_below HR0.out HB.out) i h0 hlt
      cases e1
      have hI := HI.out
      rw [hdr] at hI
      simp only [idxI] at hI
      have hcall := fun W hb => HP.out W (rd l0 i) hb
      generalize (rd l0 i) = x at *
      clear hdr HI
      cases hq : p x with
      | true =>
        rw [hq] at hcall hI
        simp only [if_true] at hI
        have HCALL := Aside0.mk hcall
        have HI2 := Aside0.mk hI
        clear hI hcall hq
        go_wp2_with (go_at_fn g; refine (HCALL.out _ (by first | exact HB.out | exact HB.out.drew)).mono ?_; rintro e w' ⟨rfl, hb'⟩)
        go_ret
        exact ⟨by rw [HI2.out]; rfl, hb'⟩
      | false =>
        rw [hq] at hcall hI
        simp only [Bool.false_eq_true, if_false] at hI
        have HCALL := Aside0.mk hcall
        have HI2 := Aside0.mk hI
        clear hI hcall hq
        go_wp2_with (go_at_fn g; refine (HCALL.out _ (by first | exact HB.out | exact HB.out.drew)).mono ?_; rintro e w' ⟨rfl, hb'⟩)
        have HB2 := Aside0.mk hb'
        clear hb'
        cases gk with
        | zero => exact absurd h2 (by omega)
        | succ gk1 =>
          go_roundg gk1
          case measure => omega
          case rel => exact ⟨i + 1, rfl, ⟨HI2.out⟩, ⟨by omega, by omega, by omega⟩, HB2⟩
    · have hI := HI.out
      rw [List.drop_eq_nil_of_le (by omega)] at hI
      have HI2 := Aside0.mk hI
      clear hI HI
      go_wp2
      go_ret
      exact ⟨by rw [← HI2.out]; rfl, HB.out⟩

set_option maxHeartbeats 2000000 in
set_option maxRecDepth 100000 in
theorem containsFunc_i16 (g : Nat) (lb : Array Value) (p : Int → Bool) (A0 : Option Addr) (c0 : Nat) (l0 : List Int) (w : World)
    (eg : ∀ args w, (callFunc g args).run Try.prog w = .ok (.enter g args) w) (hp : PredI .i16 g lb p w)
    (hr0 : Kd.C (Kd.int .i16) w A0 l0.length l0) (hc0 : l0.length ≤ c0) :
    Calls Try.prog 116 #[.slice A0 l0.length c0, .func (.func g) #[] lb] w fun e w' => e = .returned (.bool (l0.any p)) ∧ Below w.heap.size w w' := by
  have H := Aside0.mk (indexFunc_i16 g lb p A0 c0 l0 w eg hp hr0 hc0)
  rw [← idxI_any p l0 0 (by omega)]
  generalize idxI p l0 0 = z at *
  clear hp hr0
  go_enter Try.func116, Try.ntmps116
  go_wp2_with (refine H.out.mono ?_; rintro e w' ⟨rfl, hb'⟩; have HB' := Aside0.mk hb'; clear hb')
  go_ret
  exact ⟨rfl, HB'.out⟩

end Go.Proofs.Ytkjibgfgbfacdaa.P
end
/-! part: F117 -/
section
set_option linter.unusedVariables false
set_option linter.unusedSimpArgs false
namespace Go.Proofs.Ytkjibgfgbfacdaa.P
open Go.RowKit Go.Proofs.YtkjibgfgbfacdaaW.PrintWords Go.Proofs.YtkjibgfgbfacdaaW.PrintLast Go.Proofs.YtkjibgfgbfacdaaW.PrintMore
attribute [local go_sem] max2_int min2_int max_two min_two max_three min_three max_four min_four   -- for this text's walks alone
set_option linter.unusedVariables false
set_option linter.unusedSimpArgs false

/-! ### rank_odd: function 117 -/
def rank_odd.f (a0 : Int) : Option (Bool) := some (decide (a0 < (-32767)))
set_option maxHeartbeats 8000000 in
set_option maxRecDepth 100000 in
theorem rank_odd.calls (a0 : Int) (r : Bool) (w : World) (h : rank_odd.f a0 = some r) :
    Calls Try.prog 117 #[.int .i16 a0] w fun e w' => e = .returned (.bool r) ∧ Drawn0 w w' := by
  have H : (some (decide (a0 < (-32767)))) = some r := h
  clear h
  obtain rfl := Option.some.inj H
  go_enter Try.func117, Try.ntmps117
  go_wp2
  go_ret
  exact ⟨by first | rfl | (simp; done) | (simp [*]; done), by repeat (first | exact Drawn0.refl _ | apply Drawn0.step)⟩

end Go.Proofs.Ytkjibgfgbfacdaa.P
end
/-! part: F175 -/
section
set_option linter.unusedVariables false
set_option linter.unusedSimpArgs false
namespace Go.Proofs.Ytkjibgfgbfacdaa.P
open Go.RowKit Go.Proofs.YtkjibgfgbfacdaaW.PrintWords Go.Proofs.YtkjibgfgbfacdaaW.PrintLast Go.Proofs.YtkjibgfgbfacdaaW.PrintMore
attribute [local go_sem] max2_int min2_int max_two min_two max_three min_three max_four min_four   -- for this text's walks alone
set_option linter.unusedVariables false
set_option linter.unusedSimpArgs false

/-! ### cmp_isNaN_int16: function 175 -/
def cmp_isNaN_int16.f (a0 : Int) : Option (Bool) := some (a0 != a0)
set_option maxHeartbeats 8000000 in
set_option maxRecDepth 100000 in
theorem cmp_isNaN_int16.calls (a0 : Int) (r : Bool) (w : World) (h : cmp_isNaN_int16.f a0 = some r) :
    Calls Try.prog 175 #[.int .i16 a0] w fun e w' => e = .returned (.bool r) ∧ Drawn0 w w' := by
  have H : (some (a0 != a0)) = some r := h
  clear h
  obtain rfl := Option.some.inj H
  go_enter Try.func175, Try.ntmps175
  go_wp2
  go_ret
  exact ⟨by first | rfl | (simp; done) | (simp [*]; done), by repeat (first | exact Drawn0.refl _ | apply Drawn0.step)⟩

end Go.Proofs.Ytkjibgfgbfacdaa.P
end
/-! part: F163 -/
section
set_option linter.unusedVariables false
set_option linter.unusedSimpArgs false
namespace Go.Proofs.Ytkjibgfgbfacdaa.P
open Go.RowKit Go.Proofs.YtkjibgfgbfacdaaW.PrintWords Go.Proofs.YtkjibgfgbfacdaaW.PrintLast Go.Proofs.YtkjibgfgbfacdaaW.PrintMore
attribute [local go_sem] max2_int min2_int max_two min_two max_three min_three max_four min_four   -- for this text's walks alone
set_option linter.unusedVariables false
set_option linter.unusedSimpArgs false

/-! ### cmp_Less_int16: function 163 -/
def cmp_Less_int16.f (a0 : Int) (a1 : Int) : Option (Bool) := (cmp_isNaN_int16.f a0).bind fun t105 => (if t105 = true then ((cmp_isNaN_int16.f a1).bind fun t106 => (if t106 = true then (some (decide (a0 < a1))) else (some true))) else (some (decide (a0 < a1))))
set_option maxHeartbeats 8000000 in
set_option maxRecDepth 100000 in
theorem cmp_Less_int16.calls (a0 : Int) (a1 : Int) (r : Bool) (w : World) (h : cmp_Less_int16.f a0 a1 = some r) :
    Calls Try.prog 163 #[.int .i16 a0, .int .i16 a1] w fun e w' => e = .returned (.bool r) ∧ Drawn0 w w' := by
  have H : ((cmp_isNaN_int16.f a0).bind fun t105 => (if t105 = true then ((cmp_isNaN_int16.f a1).bind fun t106 => (if t106 = true then (some (decide (a0 < a1))) else (some true))) else (some (decide (a0 < a1))))) = some r := h
  clear h
  replace H := Option.bind_eq_some_iff.mp H
  obtain ⟨t105, A30, H⟩ := H
  replace H : (if t105 = true then ((cmp_isNaN_int16.f a1).bind fun t106 => (if t106 = true then (some (decide (a0 < a1))) else (some true))) else (some (decide (a0 < a1)))) = some r := H
  have A3 := Aside0.mk A30
  clear A30
  by_cases c4 : t105 = true
  · subst c4
    have H1 : ((cmp_isNaN_int16.f a1).bind fun t106 => (if t106 = true then (some (decide (a0 < a1))) else (some true))) = some r := by first | (rw [if_pos rfl] at H; exact H) | (rw [if_pos trivial] at H; exact H)
    clear H
    have H := H1
    clear H1
    replace H := Option.bind_eq_some_iff.mp H
    obtain ⟨t106, A50, H⟩ := H
    replace H : (if t106 = true then (some (decide (a0 < a1))) else (some true)) = some r := H
    have A5 := Aside0.mk A50
    clear A50
    by_cases c6 : t106 = true
    · subst c6
      have H1 : (some (decide (a0 < a1))) = some r := by first | (rw [if_pos rfl] at H; exact H) | (rw [if_pos trivial] at H; exact H)
      clear H
      have H := H1
      clear H1
      obtain rfl := Option.some.inj H
      go_enter Try.func163, Try.ntmps163
      go_wp2_with (first | ((with_reducible refine gate_callee (f := 175) rfl ?_); refine goesL_ (some 6) rfl rfl Try.func175 (by kernel_rfl) rfl #[.int .i16 a0] rfl (by (try simp only [List.map_toArray, List.map_cons, List.map_nil]); first | done | rfl | (simp only [List.length_drop, List.length_take]; rfl)) ?_; (with_reducible refine (cmp_isNaN_int16.calls a0 true _ A3.out).mono ?_); rintro e w' ⟨rfl, ⟨nd, rfl⟩⟩; refine ⟨_, rfl, ?_⟩) | (go_at_call 175; (with_reducible refine (cmp_isNaN_int16.calls a1 true _ A5.out).mono ?_); rintro e w' ⟨rfl, ⟨nd, rfl⟩⟩))
      go_ret
      exact ⟨by first | rfl | (simp; done) | (simp [*]; done), by repeat (first | exact Drawn0.refl _ | apply Drawn0.step)⟩
    · replace c6 := Bool.eq_false_iff.mpr c6
      subst c6
      have H1 : (some true) = some r := by rw [if_neg (show ¬ (false = true) by decide)] at H; exact H
      clear H
      have H := H1
      clear H1
      obtain rfl := Option.some.inj H
      go_enter Try.func163, Try.ntmps163
      go_wp2_with (first | ((with_reducible refine gate_callee (f := 175) rfl ?_); refine goesL_ (some 6) rfl rfl Try.func175 (by kernel_rfl) rfl #[.int .i16 a0] rfl (by (try simp only [List.map_toArray, List.map_cons, List.map_nil]); first | done | rfl | (simp only [List.length_drop, List.length_take]; rfl)) ?_; (with_reducible refine (cmp_isNaN_int16.calls a0 true _ A3.out).mono ?_); rintro e w' ⟨rfl, ⟨nd, rfl⟩⟩; refine ⟨_, rfl, ?_⟩) | (go_at_call 175; (with_reducible refine (cmp_isNaN_int16.calls a1 false _ A5.out).mono ?_); rintro e w' ⟨rfl, ⟨nd, rfl⟩⟩))
      go_ret
      exact ⟨by first | rfl | (simp; done) | (simp [*]; done), by repeat (first | exact Drawn0.refl _ | apply Drawn0.step)⟩
  · replace c4 := Bool.eq_false_iff.mpr c4
    subst c4
    have H1 : (some (decide (a0 < a1))) = some r := by rw [if_neg (show ¬ (false = true) by decide)] at H; exact H
    clear H
    have H := H1
    clear H1
    obtain rfl := Option.some.inj H
    go_enter Try.func163, Try.ntmps163
    go_wp2_with (first | ((with_reducible refine gate_callee (f := 175) rfl ?_); refine goesL_ (some 6) rfl rfl Try.func175 (by kernel_rfl) rfl #[.int .i16 a0] rfl (by (try simp only [List.map_toArray, List.map_cons, List.map_nil]); first | done | rfl | (simp only [List.length_drop, List.length_take]; rfl)) ?_; (with_reducible refine (cmp_isNaN_int16.calls a0 false _ A3.out).mono ?_); rintro e w' ⟨rfl, ⟨nd, rfl⟩⟩; refine ⟨_, rfl, ?_⟩))
    go_ret
    exact ⟨by first | rfl | (simp; done) | (simp [*]; done), by repeat (first | exact Drawn0.refl _ | apply Drawn0.step)⟩

end Go.Proofs.Ytkjibgfgbfacdaa.P
end
/-! part: F122 -/
section
set_option linter.unusedVariables false
set_option linter.unusedSimpArgs false
namespace Go.Proofs.Ytkjibgfgbfacdaa.P
open Go.RowKit Go.Proofs.YtkjibgfgbfacdaaW.PrintWords Go.Proofs.YtkjibgfgbfacdaaW.PrintLast Go.Proofs.YtkjibgfgbfacdaaW.PrintMore
attribute [local go_sem] max2_int min2_int max_two min_two max_three min_three max_four min_four   -- for this text's walks alone
set_option linter.unusedVariables false
set_option linter.unusedSimpArgs false

/-! ### slices_IsSorted_int16_int16: function 122 -/
def slices_IsSorted_int16_int16.l0 : Nat → List Int → Int → Option (Bool)
  | 0, _, _ => none
  | k + 1, x0, x3 => if x3 > 0 then (if 0 ≤ x3 then (if x3 < (x0.length : Int) then (if 0 ≤ (wrap64 (x3 - 1)) then (if (wrap64 (x3 - 1)) < (x0.length : Int) then ((cmp_Less_int16.f (rd x0 x3) (rd x0 (wrap64 (x3 - 1)))).bind fun t109 => (if t109 = true then (some false) else (slices_IsSorted_int16_int16.l0 k x0 (wrap64 (x3 - 1))))) else (none)) else (none)) else (none)) else (none)) else (some true)
def slices_IsSorted_int16_int16.f (k : Nat) (l0 : List Int) : Option (Bool) := slices_IsSorted_int16_int16.l0 k l0 (wrap64 ((l0.length : Int) - 1))
theorem slices_IsSorted_int16_int16.mono_l : ∀ k, (∀ y0 y1, LeO (slices_IsSorted_int16_int16.l0 k y0 y1) (slices_IsSorted_int16_int16.l0 (k + 1) y0 y1))
  | 0 => fun _ _ r h => by simp [slices_IsSorted_int16_int16.l0] at h
  | k + 1 => by
    have ih0 := slices_IsSorted_int16_int16.mono_l k
    · intro y0 y1
      unfold slices_IsSorted_int16_int16.l0
      repeat' first
      | (with_reducible exact ih0 _ _)
      | (with_reducible exact LeO.refl _)
      | (with_reducible exact LeO.none _)
      | (with_reducible refine LeO.ite ?_ ?_)
      | (with_reducible refine LeO.bind ?_ (fun _ => ?_))
      | exact ih0 _ _
      | exact LeO.none _
      | refine LeO.ite ?_ ?_
      | refine LeO.bind ?_ (fun _ => ?_)
theorem slices_IsSorted_int16_int16.mono : ∀ a0 k, LeO (slices_IsSorted_int16_int16.f k a0) (slices_IsSorted_int16_int16.f (k + 1) a0) := by
  intro a0 k
  have ih0 := slices_IsSorted_int16_int16.mono_l k
  unfold slices_IsSorted_int16_int16.f
  repeat' first
      | (with_reducible exact ih0 _ _)
      | (with_reducible exact LeO.refl _)
      | (with_reducible exact LeO.none _)
      | (with_reducible refine LeO.ite ?_ ?_)
      | (with_reducible refine LeO.bind ?_ (fun _ => ?_))
      | exact ih0 _ _
      | exact LeO.none _
      | refine LeO.ite ?_ ?_
      | refine LeO.bind ?_ (fun _ => ?_)
set_option maxHeartbeats 8000000 in
set_option maxRecDepth 100000 in
theorem slices_IsSorted_int16_int16.calls (k : Nat) (A0 : Option Addr) (c0 : Nat) (l0 : List Int) (r : Bool) (w : World) (hr0 : Kd.C (Kd.int .i16) w A0 l0.length l0) (hc0 : l0.length ≤ c0) (h : slices_IsSorted_int16_int16.f k l0 = some r) :
    Calls Try.prog 122 #[.slice A0 l0.length c0] w fun e w' => e = .returned (.bool r) ∧ Drawn0 w w' := by
  have HR0 := Aside0.mk hr0
  have HC0 := Aside0.mk hc0
  clear hr0 hc0
  have H : (slices_IsSorted_int16_int16.l0 k l0 (wrap64 ((l0.length : Int) - 1))) = some r := h
  clear h
  have H' := Aside0.mk H
  clear H
  go_enter Try.func122, Try.ntmps122
  go_wp2
  repeat (go_quiet (fail); try go_wp2)
  go_loopg [3] k (fun kq v3 w' => ∃ (x3_1 : Int), v3 = .int .i64 x3_1 ∧ Aside0 (slices_IsSorted_int16_int16.l0 kq l0 x3_1 = some r) ∧ Aside0 (kq ≤ k) ∧ Drawn0 w w')
  case atStart => exact ⟨(wrap64 ((l0.length : Int) - 1)), (by first | rfl | (simp; done) | (simp [*]; done)), H', ⟨Nat.le_refl _⟩, by repeat (first | exact Drawn0.refl _ | apply Drawn0.step)⟩
  case round =>
    clear H'
    try clear c1
    obtain ⟨x3_1, rfl, HA, HK1, ⟨m1, rfl⟩⟩ := hrel
    cases gk with
    | zero => exact absurd HA.out (by simp [slices_IsSorted_int16_int16.l0])
    | succ k1 =>
      have H := HA.out
      clear HA
      simp only [slices_IsSorted_int16_int16.l0] at H
      by_cases c2 : x3_1 > 0
      · rw [if_pos c2] at H
        have c2b0 : decide (0 < x3_1) = true := decide_eq_true c2
        clear c2
        by_cases c3 : 0 ≤ x3_1
        · rw [if_pos c3] at H
          have c3b0 : decide (0 ≤ x3_1) = true := decide_eq_true c3
          clear c3
          by_cases c4 : x3_1 < (l0.length : Int)
          · rw [if_pos c4] at H
            have c4b0 : decide (x3_1 < (l0.length : Int)) = true := decide_eq_true c4
            clear c4
            obtain ⟨ji5, hji5⟩ : ∃ j_ : Int, (wrap64 (x3_1 - 1)) = j_ := ⟨_, rfl⟩
            replace H : (if 0 ≤ (ji5) then (if (ji5) < (l0.length : Int) then ((cmp_Less_int16.f (rd l0 x3_1) (rd l0 (ji5))).bind fun t109 => (if t109 = true then (some false) else (slices_IsSorted_int16_int16.l0 k1 l0 ji5))) else (none)) else (none)) = some r := by first | (rw [hji5] at H; exact H) | (simp only [hji5] at H ⊢; exact H)
            have hji5w : (IntKind.i64.wrap (x3_1 - 1)) = ji5 := (i64_w _).trans hji5
            by_cases c6 : 0 ≤ (ji5)
            · rw [if_pos c6] at H
              have c6b0 : decide (0 ≤ (ji5)) = true := decide_eq_true c6
              clear c6
              by_cases c7 : (ji5) < (l0.length : Int)
              · rw [if_pos c7] at H
                have c7b0 : decide ((ji5) < (l0.length : Int)) = true := decide_eq_true c7
                clear c7
                replace H := Option.bind_eq_some_iff.mp H
                obtain ⟨t109, A80, H⟩ := H
                replace H : (if t109 = true then (some false) else (slices_IsSorted_int16_int16.l0 k1 l0 ji5)) = some r := H
                have A8 := Aside0.mk A80
                clear A80
                by_cases c9 : t109 = true
                · subst c9
                  have H1 : (some false) = some r := by first | (rw [if_pos rfl] at H; exact H) | (rw [if_pos trivial] at H; exact H)
                  clear H
                  have H := H1
                  clear H1
                  obtain rfl := Option.some.inj H
                  have p107 : 0 ≤ (x3_1 : Int) := of_decide_eq_true (by first | (with_reducible assumption) | assumption)
                  have q107 : x3_1 < (l0.length : Int) := of_decide_eq_true (by first | (with_reducible assumption) | assumption)
                  obtain ⟨ad107, e107, hx107_0⟩ := Kd.at_int HR0.out x3_1 p107 q107
                  cases e107
                  replace p107 := eq_true p107
                  replace q107 := eq_true q107
                  have p108 : 0 ≤ ((ji5) : Int) := of_decide_eq_true (by first | (with_reducible assumption) | assumption)
                  have q108 : (ji5) < (l0.length : Int) := of_decide_eq_true (by first | (with_reducible assumption) | assumption)
                  obtain ⟨ad108, e108, hx108_0⟩ := Kd.at_int HR0.out (ji5) p108 q108
                  obtain rfl : ad107 = ad108 := (by injection e108)
                  replace p108 := eq_true p108
                  replace q108 := eq_true q108
                  go_wp2_with (first | (go_at_call 163; (with_reducible refine (cmp_Less_int16.calls (rd l0 x3_1) (rd l0 (ji5)) true _ A8.out).mono ?_); rintro e w' ⟨rfl, ⟨nd, rfl⟩⟩; (try first | exact ⟨rfl, _, World.drewN_drewN _ _ _⟩ | exact ⟨rfl, _, Eq.trans (World.drewN_drewN _ _ _) (congrArg (World.drewN _) (Nat.add_assoc _ _ _))⟩)))
                  repeat (go_quiet (first | (go_at_call 163; (with_reducible refine (cmp_Less_int16.calls (rd l0 x3_1) (rd l0 (ji5)) true _ A8.out).mono ?_); rintro e w' ⟨rfl, ⟨nd, rfl⟩⟩; (try first | exact ⟨rfl, _, World.drewN_drewN _ _ _⟩ | exact ⟨rfl, _, Eq.trans (World.drewN_drewN _ _ _) (congrArg (World.drewN _) (Nat.add_assoc _ _ _))⟩))); try go_wp2_with (first | (go_at_call 163; (with_reducible refine (cmp_Less_int16.calls (rd l0 x3_1) (rd l0 (ji5)) true _ A8.out).mono ?_); rintro e w' ⟨rfl, ⟨nd, rfl⟩⟩; (try first | exact ⟨rfl, _, World.drewN_drewN _ _ _⟩ | exact ⟨rfl, _, Eq.trans (World.drewN_drewN _ _ _) (congrArg (World.drewN _) (Nat.add_assoc _ _ _))⟩))))
                  go_ret
                  exact ⟨by first | rfl | (simp; done) | (simp only [← hji5] <;> (first | rfl | simp)) | (simp [*]; done), by repeat (first | exact Drawn0.refl _ | apply Drawn0.step)⟩
                · replace c9 := Bool.eq_false_iff.mpr c9
                  subst c9
                  have H1 : (slices_IsSorted_int16_int16.l0 k1 l0 ji5) = some r := by rw [if_neg (show ¬ (false = true) by decide)] at H; exact H
                  clear H
                  have H := H1
                  clear H1
                  have H' := Aside0.mk H
                  clear H
                  have p107 : 0 ≤ (x3_1 : Int) := of_decide_eq_true (by first | (with_reducible assumption) | assumption)
                  have q107 : x3_1 < (l0.length : Int) := of_decide_eq_true (by first | (with_reducible assumption) | assumption)
                  obtain ⟨ad107, e107, hx107_0⟩ := Kd.at_int HR0.out x3_1 p107 q107
                  cases e107
                  replace p107 := eq_true p107
                  replace q107 := eq_true q107
                  have p108 : 0 ≤ ((ji5) : Int) := of_decide_eq_true (by first | (with_reducible assumption) | assumption)
                  have q108 : (ji5) < (l0.length : Int) := of_decide_eq_true (by first | (with_reducible assumption) | assumption)
                  obtain ⟨ad108, e108, hx108_0⟩ := Kd.at_int HR0.out (ji5) p108 q108
                  obtain rfl : ad107 = ad108 := (by injection e108)
                  replace p108 := eq_true p108
                  replace q108 := eq_true q108
                  go_wp2_with (first | (go_at_call 163; (with_reducible refine (cmp_Less_int16.calls (rd l0 x3_1) (rd l0 (ji5)) false _ A8.out).mono ?_); rintro e w' ⟨rfl, ⟨nd, rfl⟩⟩; (try first | exact ⟨rfl, _, World.drewN_drewN _ _ _⟩ | exact ⟨rfl, _, Eq.trans (World.drewN_drewN _ _ _) (congrArg (World.drewN _) (Nat.add_assoc _ _ _))⟩)))
                  repeat (go_quiet (first | (go_at_call 163; (with_reducible refine (cmp_Less_int16.calls (rd l0 x3_1) (rd l0 (ji5)) false _ A8.out).mono ?_); rintro e w' ⟨rfl, ⟨nd, rfl⟩⟩; (try first | exact ⟨rfl, _, World.drewN_drewN _ _ _⟩ | exact ⟨rfl, _, Eq.trans (World.drewN_drewN _ _ _) (congrArg (World.drewN _) (Nat.add_assoc _ _ _))⟩))); try go_wp2_with (first | (go_at_call 163; (with_reducible refine (cmp_Less_int16.calls (rd l0 x3_1) (rd l0 (ji5)) false _ A8.out).mono ?_); rintro e w' ⟨rfl, ⟨nd, rfl⟩⟩; (try first | exact ⟨rfl, _, World.drewN_drewN _ _ _⟩ | exact ⟨rfl, _, Eq.trans (World.drewN_drewN _ _ _) (congrArg (World.drewN _) (Nat.add_assoc _ _ _))⟩))))
                  first | go_roundg k1 | (simp only [← hji5]; go_roundg k1)
                  case measure => have := HK1.out; omega
                  case rel => exact ⟨(ji5), (by first | rfl | (simp; done) | (simp only [← hji5] <;> (first | rfl | simp)) | (simp [*]; done)), (by first | exact H' | (rw [hji5]; exact H')), ⟨by have := HK1.out; omega⟩, by repeat (first | exact Drawn0.refl _ | apply Drawn0.step)⟩
              · rw [if_neg c7] at H
                exact absurd H (by simp)
            · rw [if_neg c6] at H
              exact absurd H (by simp)
          · rw [if_neg c4] at H
            exact absurd H (by simp)
        · rw [if_neg c3] at H
          exact absurd H (by simp)
      · rw [if_neg c2] at H
        have c2b0 : decide (0 < x3_1) = false := decide_eq_false c2
        clear c2
        obtain rfl := Option.some.inj H
        go_wp2
        repeat (go_quiet (fail); try go_wp2)
        go_ret
        exact ⟨by first | rfl | (simp; done) | (simp [*]; done), by repeat (first | exact Drawn0.refl _ | apply Drawn0.step)⟩

end Go.Proofs.Ytkjibgfgbfacdaa.P
end
/-! part: F61 -/
section
set_option linter.unusedVariables false
set_option linter.unusedSimpArgs false
namespace Go.Proofs.Ytkjibgfgbfacdaa.P
open Go.RowKit Go.Proofs.YtkjibgfgbfacdaaW.PrintWords Go.Proofs.YtkjibgfgbfacdaaW.PrintLast Go.Proofs.YtkjibgfgbfacdaaW.PrintMore
attribute [local go_sem] max2_int min2_int max_two min_two max_three min_three max_four min_four   -- for this text's walks alone
set_option linter.unusedVariables false
set_option linter.unusedSimpArgs false

/-! ### rank_Check: function 61 -/
def rank_Check.f (k : Nat) (l0 : List Int) : Option (Int) := if (l0.length : Int) ≥ 16 then (some 1) else ((slices_IsSorted_int16_int16.f k l0).bind fun t110 => (if t110 = true then (if (l0.length : Int) > 0 then (if 0 < (l0.length : Int) then ((rank_odd.f (rd l0 0)).bind fun t112 => (if t112 = true then (some 1) else (some 0))) else (none)) else (some 0)) else (some 1)))
theorem rank_Check.mono : ∀ a0 k, LeO (rank_Check.f k a0) (rank_Check.f (k + 1) a0) := by
  intro a0 k
  unfold rank_Check.f
  repeat' first
      | (with_reducible exact slices_IsSorted_int16_int16.mono _ _)
      | (with_reducible exact LeO.refl _)
      | (with_reducible exact LeO.none _)
      | (with_reducible refine LeO.ite ?_ ?_)
      | (with_reducible refine LeO.bind ?_ (fun _ => ?_))
      | exact slices_IsSorted_int16_int16.mono _ _
      | exact LeO.none _
      | refine LeO.ite ?_ ?_
      | refine LeO.bind ?_ (fun _ => ?_)
set_option maxHeartbeats 8000000 in
set_option maxRecDepth 100000 in
theorem rank_Check.calls (k : Nat) (A0 : Option Addr) (c0 : Nat) (l0 : List Int) (r : Int) (w : World) (hr0 : Kd.C (Kd.int .i16) w A0 l0.length l0) (hc0 : l0.length ≤ c0) (h : rank_Check.f k l0 = some r) :
    Calls Try.prog 61 #[.slice A0 l0.length c0] w fun e w' => e = .returned (.int .i64 r) ∧ Drawn0 w w' := by
  have HR0 := Aside0.mk hr0
  have HC0 := Aside0.mk hc0
  clear hr0 hc0
  have H : (if (l0.length : Int) ≥ 16 then (some 1) else ((slices_IsSorted_int16_int16.f k l0).bind fun t110 => (if t110 = true then (if (l0.length : Int) > 0 then (if 0 < (l0.length : Int) then ((rank_odd.f (rd l0 0)).bind fun t112 => (if t112 = true then (some 1) else (some 0))) else (none)) else (some 0)) else (some 1)))) = some r := h
  clear h
  by_cases c2 : (l0.length : Int) ≥ 16
  · rw [if_pos c2] at H
    have c2b0 : decide (16 ≤ (l0.length : Int)) = true := decide_eq_true c2
    have c2b1 : decide (16 ≤ l0.length) = true := decide_eq_true (by omega)
    clear c2
    obtain rfl := Option.some.inj H
    go_enter Try.func61, Try.ntmps61
    go_wp2
    go_ret
    exact ⟨by first | rfl | (simp; done) | (simp [*]; done), by repeat (first | exact Drawn0.refl _ | apply Drawn0.step)⟩
  · rw [if_neg c2] at H
    have c2b0 : decide (16 ≤ (l0.length : Int)) = false := decide_eq_false c2
    have c2b1 : decide (16 ≤ l0.length) = false := decide_eq_false (by omega)
    clear c2
    replace H := Option.bind_eq_some_iff.mp H
    obtain ⟨t110, A30, H⟩ := H
    replace H : (if t110 = true then (if (l0.length : Int) > 0 then (if 0 < (l0.length : Int) then ((rank_odd.f (rd l0 0)).bind fun t112 => (if t112 = true then (some 1) else (some 0))) else (none)) else (some 0)) else (some 1)) = some r := H
    have A3 := Aside0.mk A30
    clear A30
    by_cases c4 : t110 = true
    · subst c4
      have H1 : (if (l0.length : Int) > 0 then (if 0 < (l0.length : Int) then ((rank_odd.f (rd l0 0)).bind fun t112 => (if t112 = true then (some 1) else (some 0))) else (none)) else (some 0)) = some r := by first | (rw [if_pos rfl] at H; exact H) | (rw [if_pos trivial] at H; exact H)
      clear H
      have H := H1
      clear H1
      by_cases c5 : (l0.length : Int) > 0
      · rw [if_pos c5] at H
        have c5b0 : decide (0 < (l0.length : Int)) = true := decide_eq_true c5
        have c5b1 : decide (0 < l0.length) = true := decide_eq_true (by omega)
        clear c5
        by_cases c6 : 0 < (l0.length : Int)
        · rw [if_pos c6] at H
          have c6b0 : decide (0 < (l0.length : Int)) = true := decide_eq_true c6
          have c6b1 : decide (0 < l0.length) = true := decide_eq_true (by omega)
          clear c6
          replace H := Option.bind_eq_some_iff.mp H
          obtain ⟨t112, A70, H⟩ := H
          replace H : (if t112 = true then (some 1) else (some 0)) = some r := H
          have A7 := Aside0.mk A70
          clear A70
          by_cases c8 : t112 = true
          · subst c8
            have H1 : (some 1) = some r := by first | (rw [if_pos rfl] at H; exact H) | (rw [if_pos trivial] at H; exact H)
            clear H
            have H := H1
            clear H1
            obtain rfl := Option.some.inj H
            go_enter Try.func61, Try.ntmps61
            go_wp2_with (first | (go_at_call 122; (with_reducible refine (slices_IsSorted_int16_int16.calls k _ _ l0 true _ ?side1 ?side2 A3.out).mono ?_); (case side1 => repeat (first | exact HR0.out | (with_reducible refine Kd.C_alloc ?_ _) | (with_reducible refine Kd.C_drewN ?_ _) | (with_reducible refine Kd.C_drew ?_))); (case side2 => exact HC0.out); rintro e w' ⟨rfl, ⟨nd, rfl⟩⟩; have p111 : 0 ≤ (0 : Int) := (by omega); have q111 : 0 < (l0.length : Int) := of_decide_eq_true (by first | (with_reducible assumption) | assumption); obtain ⟨ad111, e111, hx111_0⟩ := Kd.at_int HR0.out 0 p111 q111; cases e111; have qi111 : (0 < l0.length) = True := eq_true (by omega); (try rw [show ((0 : Int)).toNat = 0 from rfl] at hx111_0); (try rw [Addr.add_zero'] at hx111_0); replace p111 := eq_true p111; replace q111 := eq_true q111) | (go_at_call 117; (with_reducible refine (rank_odd.calls (rd l0 0) true _ A7.out).mono ?_); rintro e w' ⟨rfl, ⟨nd, rfl⟩⟩))
            go_ret
            exact ⟨by first | rfl | (simp; done) | (simp [*]; done), by repeat (first | exact Drawn0.refl _ | apply Drawn0.step)⟩
          · replace c8 := Bool.eq_false_iff.mpr c8
            subst c8
            have H1 : (some 0) = some r := by rw [if_neg (show ¬ (false = true) by decide)] at H; exact H
            clear H
            have H := H1
            clear H1
            obtain rfl := Option.some.inj H
            go_enter Try.func61, Try.ntmps61
            go_wp2_with (first | (go_at_call 122; (with_reducible refine (slices_IsSorted_int16_int16.calls k _ _ l0 true _ ?side1 ?side2 A3.out).mono ?_); (case side1 => repeat (first | exact HR0.out | (with_reducible refine Kd.C_alloc ?_ _) | (with_reducible refine Kd.C_drewN ?_ _) | (with_reducible refine Kd.C_drew ?_))); (case side2 => exact HC0.out); rintro e w' ⟨rfl, ⟨nd, rfl⟩⟩; have p111 : 0 ≤ (0 : Int) := (by omega); have q111 : 0 < (l0.length : Int) := of_decide_eq_true (by first | (with_reducible assumption) | assumption); obtain ⟨ad111, e111, hx111_0⟩ := Kd.at_int HR0.out 0 p111 q111; cases e111; have qi111 : (0 < l0.length) = True := eq_true (by omega); (try rw [show ((0 : Int)).toNat = 0 from rfl] at hx111_0); (try rw [Addr.add_zero'] at hx111_0); replace p111 := eq_true p111; replace q111 := eq_true q111) | (go_at_call 117; (with_reducible refine (rank_odd.calls (rd l0 0) false _ A7.out).mono ?_); rintro e w' ⟨rfl, ⟨nd, rfl⟩⟩))
            go_ret
            exact ⟨by first | rfl | (simp; done) | (simp [*]; done), by repeat (first | exact Drawn0.refl _ | apply Drawn0.step)⟩
        · rw [if_neg c6] at H
          exact absurd H (by simp)
      · rw [if_neg c5] at H
        have c5b0 : decide (0 < (l0.length : Int)) = false := decide_eq_false c5
        have c5b1 : decide (0 < l0.length) = false := decide_eq_false (by omega)
        clear c5
        obtain rfl := Option.some.inj H
        go_enter Try.func61, Try.ntmps61
        go_wp2_with (first | (go_at_call 122; (with_reducible refine (slices_IsSorted_int16_int16.calls k _ _ l0 true _ ?side1 ?side2 A3.out).mono ?_); (case side1 => repeat (first | exact HR0.out | (with_reducible refine Kd.C_alloc ?_ _) | (with_reducible refine Kd.C_drewN ?_ _) | (with_reducible refine Kd.C_drew ?_))); (case side2 => exact HC0.out); rintro e w' ⟨rfl, ⟨nd, rfl⟩⟩))
        go_ret
        exact ⟨by first | rfl | (simp; done) | (simp [*]; done), by repeat (first | exact Drawn0.refl _ | apply Drawn0.step)⟩
    · replace c4 := Bool.eq_false_iff.mpr c4
      subst c4
      have H1 : (some 1) = some r := by rw [if_neg (show ¬ (false = true) by decide)] at H; exact H
      clear H
      have H := H1
      clear H1
      obtain rfl := Option.some.inj H
      go_enter Try.func61, Try.ntmps61
      go_wp2_with (first | (go_at_call 122; (with_reducible refine (slices_IsSorted_int16_int16.calls k _ _ l0 false _ ?side1 ?side2 A3.out).mono ?_); (case side1 => repeat (first | exact HR0.out | (with_reducible refine Kd.C_alloc ?_ _) | (with_reducible refine Kd.C_drewN ?_ _) | (with_reducible refine Kd.C_drew ?_))); (case side2 => exact HC0.out); rintro e w' ⟨rfl, ⟨nd, rfl⟩⟩))
      go_ret
      exact ⟨by first | rfl | (simp; done) | (simp [*]; done), by repeat (first | exact Drawn0.refl _ | apply Drawn0.step)⟩

end Go.Proofs.Ytkjibgfgbfacdaa.P
end
/-! part: F137 -/
section
set_option linter.unusedVariables false
set_option linter.unusedSimpArgs false
namespace Go.Proofs.Ytkjibgfgbfacdaa.P
open Go.RowKit Go.Proofs.YtkjibgfgbfacdaaW.PrintWords Go.Proofs.YtkjibgfgbfacdaaW.PrintLast Go.Proofs.YtkjibgfgbfacdaaW.PrintMore
attribute [local go_sem] max2_int min2_int max_two min_two max_three min_three max_four min_four   -- for this text's walks alone
set_option linter.unusedVariables false
set_option linter.unusedSimpArgs false

/-! ### twist_odd: function 137 -/
def twist_odd.f (a0 : Int) : Option (Bool) := if a0 < 0 then (some true) else (some (decide (a0 > 4611686018427387903)))
set_option maxHeartbeats 8000000 in
set_option maxRecDepth 100000 in
theorem twist_odd.calls (a0 : Int) (r : Bool) (w : World) (h : twist_odd.f a0 = some r) :
    Calls Try.prog 137 #[.int .i64 a0] w fun e w' => e = .returned (.bool r) ∧ Drawn0 w w' := by
  have H : (if a0 < 0 then (some true) else (some (decide (a0 > 4611686018427387903)))) = some r := h
  clear h
  by_cases c2 : a0 < 0
  · rw [if_pos c2] at H
    have c2b0 : decide (a0 < 0) = true := decide_eq_true c2
    clear c2
    obtain rfl := Option.some.inj H
    go_enter Try.func137, Try.ntmps137
    go_wp2
    go_ret
    exact ⟨by first | rfl | (simp; done) | (simp [*]; done), by repeat (first | exact Drawn0.refl _ | apply Drawn0.step)⟩
  · rw [if_neg c2] at H
    have c2b0 : decide (a0 < 0) = false := decide_eq_false c2
    clear c2
    obtain rfl := Option.some.inj H
    go_enter Try.func137, Try.ntmps137
    go_wp2
    go_ret
    exact ⟨by first | rfl | (simp; done) | (simp [*]; done), by repeat (first | exact Drawn0.refl _ | apply Drawn0.step)⟩

end Go.Proofs.Ytkjibgfgbfacdaa.P
end
/-! part: F111 -/
section
set_option linter.unusedVariables false
set_option linter.unusedSimpArgs false
namespace Go.Proofs.Ytkjibgfgbfacdaa.P
open Go.RowKit Go.Proofs.YtkjibgfgbfacdaaW.PrintWords Go.Proofs.YtkjibgfgbfacdaaW.PrintLast Go.Proofs.YtkjibgfgbfacdaaW.PrintMore
attribute [local go_sem] max2_int min2_int max_two min_two max_three min_three max_four min_four   -- for this text's walks alone
set_option linter.unusedVariables false
set_option linter.unusedSimpArgs false

/-! ### twist_Not: function 111 -/
def twist_Not.f (a0 : Int) : Option (Int × Int) := (twist_odd.f a0).bind fun t451 => (if t451 = true then (some (0, 1)) else (some (Go.bits .xor .i64 a0 (wrap64 ((Go.bits .and .i64 a0 1537228672809129301) * 2)), 0)))
set_option maxHeartbeats 8000000 in
set_option maxRecDepth 100000 in
theorem twist_Not.calls (a0 : Int) (r1 : Int) (r2 : Int) (w : World) (h : twist_Not.f a0 = some (r1, r2)) :
    Calls Try.prog 111 #[.int .i64 a0] w fun e w' => e = .returned (.tuple #[.int .i64 r1, .int .i64 r2]) ∧ Drawn0 w w' := by
  have H : ((twist_odd.f a0).bind fun t451 => (if t451 = true then (some (0, 1)) else (some (Go.bits .xor .i64 a0 (wrap64 ((Go.bits .and .i64 a0 1537228672809129301) * 2)), 0)))) = some (r1, r2) := h
  clear h
  replace H := Option.bind_eq_some_iff.mp H
  obtain ⟨t451, A20, H⟩ := H
  replace H : (if t451 = true then (some (0, 1)) else (some (Go.bits .xor .i64 a0 (wrap64 ((Go.bits .and .i64 a0 1537228672809129301) * 2)), 0))) = some (r1, r2) := H
  have A2 := Aside0.mk A20
  clear A20
  by_cases c3 : t451 = true
  · subst c3
    have H1 : (some (0, 1)) = some (r1, r2) := by first | (rw [if_pos rfl] at H; exact H) | (rw [if_pos trivial] at H; exact H)
    clear H
    have H := H1
    clear H1
    simp only [Option.some.injEq, Prod.mk.injEq] at H
    obtain ⟨rfl, rfl⟩ := H
    go_enter Try.func111, Try.ntmps111
    go_wp2_with (first | ((with_reducible refine gate_callee (f := 137) rfl ?_); refine goesL_ (some 5) rfl rfl Try.func137 (by kernel_rfl) rfl #[.int .i64 a0] rfl (by (try simp only [List.map_toArray, List.map_cons, List.map_nil]); first | done | rfl | (simp only [List.length_drop, List.length_take]; rfl)) ?_; (with_reducible refine (twist_odd.calls a0 true _ A2.out).mono ?_); rintro e w' ⟨rfl, ⟨nd, rfl⟩⟩; refine ⟨_, rfl, ?_⟩))
    go_ret2
    exact ⟨by first | rfl | (simp; done) | (simp [*]; done), by repeat (first | exact Drawn0.refl _ | apply Drawn0.step)⟩
  · replace c3 := Bool.eq_false_iff.mpr c3
    subst c3
    have H1 : (some (Go.bits .xor .i64 a0 (wrap64 ((Go.bits .and .i64 a0 1537228672809129301) * 2)), 0)) = some (r1, r2) := by rw [if_neg (show ¬ (false = true) by decide)] at H; exact H
    clear H
    have H := H1
    clear H1
    simp only [Option.some.injEq, Prod.mk.injEq] at H
    obtain ⟨rfl, rfl⟩ := H
    go_enter Try.func111, Try.ntmps111
    go_wp2_with (first | ((with_reducible refine gate_callee (f := 137) rfl ?_); refine goesL_ (some 5) rfl rfl Try.func137 (by kernel_rfl) rfl #[.int .i64 a0] rfl (by (try simp only [List.map_toArray, List.map_cons, List.map_nil]); first | done | rfl | (simp only [List.length_drop, List.length_take]; rfl)) ?_; (with_reducible refine (twist_odd.calls a0 false _ A2.out).mono ?_); rintro e w' ⟨rfl, ⟨nd, rfl⟩⟩; refine ⟨_, rfl, ?_⟩))
    go_ret2
    exact ⟨by first | rfl | (simp; done) | (simp [*]; done), by repeat (first | exact Drawn0.refl _ | apply Drawn0.step)⟩

end Go.Proofs.Ytkjibgfgbfacdaa.P
end
/-! part: HquantCheck -/
section
set_option linter.unusedVariables false
set_option linter.unusedSimpArgs false
namespace Go.Proofs.Ytkjibgfgbfacdaa.P
open Go.RowKit Go.Proofs.YtkjibgfgbfacdaaW.PrintWords Go.Proofs.YtkjibgfgbfacdaaW.PrintLast Go.Proofs.YtkjibgfgbfacdaaW.PrintMore
set_option linter.unusedVariables false
set_option linter.unusedSimpArgs false

/-- Each of the first m numbers is at most the next. -/
def sortedTo (c : List Int) (m : Nat) : Bool := (List.range m).all fun j => decide (c.getD j 0 ≤ c.getD (j + 1) 0)
theorem sortedTo_succ (c : List Int) (m : Nat) : sortedTo c (m + 1) = (sortedTo c m && decide (c.getD m 0 ≤ c.getD (m + 1) 0)) := by
  unfold sortedTo
  rw [List.range_succ, List.all_append]
  simp
/-- Cuts may be. -/
def cutsOk (c : List Int) : Bool := decide (c.length < 16) && sortedTo c (c.length - 1) && (c.isEmpty || decide (-32767 ≤ c.getD 0 0))
theorem less16 (a b : Int) : cmp_Less_int16.f a b = some (decide (a < b)) := by
  unfold cmp_Less_int16.f cmp_isNaN_int16.f
  simp
theorem isSorted_l (c : List Int) (hm : c.length ≤ 9223372036854775807) (m : Nat) : ∀ k : Nat, m + 1 ≤ k → (m < c.length ∨ m = 0) → slices_IsSorted_int16_int16.l0 k c (m : Int) = some (sortedTo c m) := by
  induction m with
  | zero =>
    intro k hk _
    obtain ⟨k, rfl⟩ : ∃ q, k = q + 1 := ⟨k - 1, by omega⟩
    simp only [slices_IsSorted_int16_int16.l0]
    rw [if_neg (by decide)]
    rfl
  | succ m ih =>
    intro k hk hl
    obtain ⟨k, rfl⟩ : ∃ q, k = q + 1 := ⟨k - 1, by omega⟩
    have e1 : wrap64 (((m + 1 : Nat) : Int) - 1) = (m : Int) := by unfold wrap64; omega
    simp only [slices_IsSorted_int16_int16.l0]
    rw [if_pos (by omega), if_pos (by omega), if_pos (by omega), e1, if_pos (by omega), if_pos (by omega), less16]
    simp only [Option.bind_some]
    have r1 : rd c ((m + 1 : Nat) : Int) = c.getD (m + 1) 0 := rfl
    have r2 : rd c (m : Int) = c.getD m 0 := rfl
    rw [r1, r2, sortedTo_succ]
    by_cases h : c.getD (m + 1) 0 < c.getD m 0
    · rw [decide_eq_true h, if_pos rfl, decide_eq_false (p := c.getD m 0 ≤ c.getD (m + 1) 0) (by omega), Bool.and_false]
    · rw [decide_eq_false h, if_neg (by decide), decide_eq_true (p := c.getD m 0 ≤ c.getD (m + 1) 0) (by omega), Bool.and_true]
      exact ih k (by omega) (by omega)
theorem isSorted_eq (c : List Int) (hm : c.length ≤ 9223372036854775807) (k : Nat) (hk : c.length + 1 ≤ k) : slices_IsSorted_int16_int16.f k c = some (sortedTo c (c.length - 1)) := by
  unfold slices_IsSorted_int16_int16.f
  cases hc : c with
  | nil =>
    obtain ⟨k, rfl⟩ : ∃ q, k = q + 1 := ⟨k - 1, by omega⟩
    simp only [slices_IsSorted_int16_int16.l0]
    rw [if_neg (by unfold wrap64; simp)]
    rfl
  | cons a t =>
    rw [← hc]
    have hl : 0 < c.length := by rw [hc]; simp
    rw [show wrap64 ((c.length : Int) - 1) = ((c.length - 1 : Nat) : Int) by unfold wrap64; omega]
    exact isSorted_l c hm (c.length - 1) k (by omega) (by omega)
theorem rankCheck (c : List Int) (k : Nat) (hk : 17 ≤ k) : rank_Check.f k c = some (if cutsOk c = true then 0 else 1) := by
  unfold rank_Check.f cutsOk
  by_cases h : (c.length : Int) ≥ 16
  · rw [if_pos h, decide_eq_false (by omega)]
    rfl
  · rw [if_neg h, decide_eq_true (by omega), isSorted_eq c (by omega) k (by omega)]
    simp only [Option.bind_some, Bool.true_and]
    cases sortedTo c (c.length - 1)
    · rfl
    · simp only [if_true, Bool.true_and]
      by_cases h0 : (c.length : Int) > 0
      · rw [if_pos h0, if_pos h0]
        unfold rank_odd.f
        simp only [Option.bind_some]
        have e1 : c.isEmpty = false := by cases c with | nil => simp at h0 | cons a t => rfl
        rw [e1, Bool.false_or]
        have r1 : rd c 0 = c.getD 0 0 := rfl
        rw [r1]
        by_cases h1 : c.getD 0 0 < -32767
        · rw [decide_eq_true h1, decide_eq_false (p := -32767 ≤ c.getD 0 0) (by omega)]; rfl
        · rw [decide_eq_false h1, decide_eq_true (p := -32767 ≤ c.getD 0 0) (by omega)]; rfl
      · rw [if_neg h0]
        have e1 : c.isEmpty = true := by cases c with | nil => rfl | cons a t => simp at h0
        rw [e1]
        rfl
/-- A way may be. -/
def wayOk (a : Int) : Bool := decide (0 ≤ a) && decide (a ≤ 4611686018427387903)
theorem twistOdd (a : Int) : twist_odd.f a = some (!wayOk a) := by
  unfold twist_odd.f wayOk
  by_cases h : a < 0
  · rw [if_pos h, decide_eq_false (by omega)]; rfl
  · rw [if_neg h, decide_eq_true (p := 0 ≤ a) (by omega), Bool.true_and]
    by_cases h1 : a ≤ 4611686018427387903
    · rw [decide_eq_true h1, decide_eq_false (by omega)]; rfl
    · rw [decide_eq_false h1, decide_eq_true (by omega)]; rfl
def bookOk (way : Int) (cuts : List (List Int)) : Bool :=
  decide (1 ≤ cuts.length) && decide (cuts.length ≤ 64) && wayOk way && cuts.all (fun c => decide (c.length = (cuts.getD 0 []).length) && cutsOk c)
def h_quant_Check.f (a0_0 : Int) (l0_1 : List (List Int)) : Option (Int) := some (if bookOk a0_0 l0_1 = true then 0 else 1)

set_option maxHeartbeats 2000000 in
set_option maxRecDepth 100000 in
theorem quantClosure (g : Nat) (many : Nat) (A : Option Addr) (c : Nat) (x : List Int) (W : World) (hg : W.heap[g]? = some (.cells #[.int .i64 (many : Int)] 3 (0, 0))) (hr : Kd.C (Kd.int .i16) W A x.length x) (hc : x.length ≤ c) :
    Calls Try.prog 113 #[.slice A x.length c, .pointer (some ⟨g, 0, none⟩)] W fun e W' => e = .returned (.bool (!(decide (x.length = many) && cutsOk x))) ∧ Below W.heap.size W W' := by
  have HR := Aside0.mk hr
  have HC := Aside0.mk hc
  have hcell : W.cell? ⟨g, 0, none⟩ = some (.int .i64 (many : Int)) := (blk_cell hg 0).trans rfl
  clear hr hc hg
  by_cases hl : x.length = many
  · subst hl
    have c1 : ((x.length : Int) != (x.length : Int)) = false := by simp
    rw [decide_eq_true rfl, Bool.true_and]
    have HK := Aside0.mk (rankCheck x 17 (Nat.le_refl _))
    cases hq : cutsOk x with
    | true =>
      rw [hq] at HK
      simp only [if_true] at HK
      go_enter Try.func113, Try.ntmps113
      go_wp2_with (go_at_call 61; (with_reducible refine (rank_Check.calls 17 _ _ x _ _ HR.out HC.out HK.out).mono ?_); rintro e w1 ⟨rfl, ⟨nd, rfl⟩⟩)
      go_ret
      exact ⟨rfl, pw_below_drewN (Below.refl _ _) _⟩
    | false =>
      rw [hq] at HK
      simp only [Bool.false_eq_true, if_false] at HK
      go_enter Try.func113, Try.ntmps113
      go_wp2_with (go_at_call 61; (with_reducible refine (rank_Check.calls 17 _ _ x _ _ HR.out HC.out HK.out).mono ?_); rintro e w1 ⟨rfl, ⟨nd, rfl⟩⟩)
      go_ret
      exact ⟨rfl, pw_below_drewN (Below.refl _ _) _⟩
  · have c1 : ((x.length : Int) != (many : Int)) = true := by simp; omega
    rw [decide_eq_false hl, Bool.false_and]
    go_enter Try.func113, Try.ntmps113
    go_wp2
    go_ret
    exact ⟨rfl, Below.refl _ _⟩
set_option maxHeartbeats 2000000 in
set_option maxRecDepth 100000 in
theorem h_quant_Check.calls (a0_0 : Int) (A0_1 : Option Addr) (c0_1 : Nat) (l0_1 : List (List Int)) (r : Int) (w : World) (hr0_1 : Kd.C (Kd.slice 74 (Kd.int .i16)) w A0_1 l0_1.length l0_1) (hc0_1 : l0_1.length ≤ c0_1) (h : h_quant_Check.f a0_0 l0_1 = some r) :
    Calls Try.prog 48 #[.agg #[.int .i64 a0_0, .slice A0_1 l0_1.length c0_1]] w fun e w' => e = .returned (.int .i64 r) ∧ Below w.heap.size w w' := by
  obtain rfl := Option.some.inj h
  have HR := Aside0.mk hr0_1
  have HC := Aside0.mk hc0_1
  have HB := Aside0.mk (Below.refl w.heap.size w)
  clear hr0_1 hc0_1 h
  by_cases h1 : (l0_1.length : Int) < 1
  · have d1 : decide ((l0_1.length : Int) < 1) = true := decide_eq_true h1
    have er : (if bookOk a0_0 l0_1 = true then (0 : Int) else 1) = 1 := by
      unfold bookOk
      rw [decide_eq_false (p := 1 ≤ l0_1.length) (by omega)]
      rfl
    rw [er]
    clear h1 er
    go_enter Try.func48, Try.ntmps48
    go_wp2_with ((with_reducible refine gate_dst (N := 1) rfl ?_); refine box_event ?hg (N := 1) ?hd (cs := #[.int .i64 a0_0, .slice A0_1 l0_1.length c0_1]) (t := 49) ?hr ?_; (case hd => rfl); (case hg => rfl); (case hr => first | (go_simp; done) | (go_simp; rfl)); intro gb hg w1 hbox hb; have HB1 := Aside0.mk (below_step HB.out hb); have BK := Aside0.mk hbox; have hcz0 : w1.cell? ⟨gb, 0, none⟩ = some (.int .i64 a0_0) := (blk_cell hbox 0).trans rfl; have hcz1 : w1.cell? ⟨gb, 1, none⟩ = some (.slice A0_1 l0_1.length c0_1) := (blk_cell hbox 1).trans rfl; have hfz0 := blk_frozen hbox 0; have hfz1 := blk_frozen hbox 1; clear hb hbox hg)
    go_ret
    exact ⟨rfl, HB1.out⟩
  have d1 : decide ((l0_1.length : Int) < 1) = false := decide_eq_false h1
  by_cases h2 : (l0_1.length : Int) > 64
  · have d2 : decide ((l0_1.length : Int) > 64) = true := decide_eq_true h2
    have er : (if bookOk a0_0 l0_1 = true then (0 : Int) else 1) = 1 := by
      unfold bookOk
      rw [decide_eq_false (p := l0_1.length ≤ 64) (by omega)]
      simp
    rw [er]
    clear h1 h2 er
    go_enter Try.func48, Try.ntmps48
    go_wp2_with ((with_reducible refine gate_dst (N := 1) rfl ?_); refine box_event ?hg (N := 1) ?hd (cs := #[.int .i64 a0_0, .slice A0_1 l0_1.length c0_1]) (t := 49) ?hr ?_; (case hd => rfl); (case hg => rfl); (case hr => first | (go_simp; done) | (go_simp; rfl)); intro gb hg w1 hbox hb; have HB1 := Aside0.mk (below_step HB.out hb); have BK := Aside0.mk hbox; have hcz0 : w1.cell? ⟨gb, 0, none⟩ = some (.int .i64 a0_0) := (blk_cell hbox 0).trans rfl; have hcz1 : w1.cell? ⟨gb, 1, none⟩ = some (.slice A0_1 l0_1.length c0_1) := (blk_cell hbox 1).trans rfl; have hfz0 := blk_frozen hbox 0; have hfz1 := blk_frozen hbox 1; clear hb hbox hg)
    go_ret
    exact ⟨rfl, HB1.out⟩
  have d2 : decide ((l0_1.length : Int) > 64) = false := decide_eq_false h2
  have d3 : (decide ((0 : Int) < (l0_1.length : Int))) = true := decide_eq_true (by omega)
  have d4 : ((0 : Int) < (l0_1.length : Int)) = True := eq_true (by omega)
  have d5 : (0 < l0_1.length) = True := eq_true (by omega)
  cases hw : wayOk a0_0 with
  | false =>
    have er : (if bookOk a0_0 l0_1 = true then (0 : Int) else 1) = 1 := by
      unfold bookOk
      rw [hw]
      simp
    rw [er]
    have HT : Aside0 (twist_Not.f a0_0 = some (0, 1)) := ⟨by unfold twist_Not.f; rw [twistOdd, hw]; rfl⟩
    clear h1 h2 er
    go_enter Try.func48, Try.ntmps48
    go_wp2_with (first | ((with_reducible refine gate_dst (N := 1) rfl ?_); refine box_event ?hg (N := 1) ?hd (cs := #[.int .i64 a0_0, .slice A0_1 l0_1.length c0_1]) (t := 49) ?hr ?_; (case hd => rfl); (case hg => rfl); (case hr => first | (go_simp; done) | (go_simp; rfl)); intro gb hg w1 hbox hb; have HB1 := Aside0.mk (below_step HB.out hb); have BK := Aside0.mk hbox; have hcz0 : w1.cell? ⟨gb, 0, none⟩ = some (.int .i64 a0_0) := (blk_cell hbox 0).trans rfl; have hcz1 : w1.cell? ⟨gb, 1, none⟩ = some (.slice A0_1 l0_1.length c0_1) := (blk_cell hbox 1).trans rfl; have hfz0 := blk_frozen hbox 0; have hfz1 := blk_frozen hbox 1; clear hb hbox hg) | (go_at_call 111; (with_reducible refine (twist_Not.calls _ _ _ _ HT.out).mono ?_); rintro e w2 ⟨rfl, ⟨nd, rfl⟩⟩))
    go_ret
    exact ⟨rfl, pw_below_drewN HB1.out _⟩
  | true =>
    obtain ⟨nw, HT⟩ : ∃ nw, Aside0 (twist_Not.f a0_0 = some (nw, 0)) := ⟨_, ⟨by unfold twist_Not.f; rw [twistOdd, hw]; rfl⟩⟩
    cases hq : l0_1.any (fun c => !(decide (c.length = (l0_1.getD 0 []).length) && cutsOk c)) with
    | true =>
      have ebk : bookOk a0_0 l0_1 = false := by
        unfold bookOk
        have : l0_1.all (fun c => decide (c.length = (l0_1.getD 0 []).length) && cutsOk c) = false := by
          rw [List.all_eq_not_any_not, hq]; rfl
        rw [this, Bool.and_false]
      rw [if_neg (by rw [ebk]; decide)]
      clear h1 h2 ebk
      generalize hx0 : l0_1.getD 0 [] = x0 at hq
      have HQ := Aside0.mk hq
      have HX := Aside0.mk hx0
      clear hq hx0
      go_enter Try.func48, Try.ntmps48
      go_wp2_with (first | ((with_reducible refine gate_dst (N := 1) rfl ?_); refine box_event ?hg (N := 1) ?hd (cs := #[.int .i64 a0_0, .slice A0_1 l0_1.length c0_1]) (t := 49) ?hr ?_; (case hd => rfl); (case hg => rfl); (case hr => first | (go_simp; done) | (go_simp; rfl)); intro gb hg w1 hbox hb; have HB1 := Aside0.mk (below_step HB.out hb); have BK := Aside0.mk hbox; have hcz0 : w1.cell? ⟨gb, 0, none⟩ = some (.int .i64 a0_0) := (blk_cell hbox 0).trans rfl; have hcz1 : w1.cell? ⟨gb, 1, none⟩ = some (.slice A0_1 l0_1.length c0_1) := (blk_cell hbox 1).trans rfl; have hfz0 := blk_frozen hbox 0; have hfz1 := blk_frozen hbox 1; clear hb hbox hg) | (go_at_call 111; (with_reducible refine (twist_Not.calls _ _ _ _ HT.out).mono ?_); rintro e w2 ⟨rfl, ⟨nd, rfl⟩⟩; have HB2 := Aside0.mk (pw_below_drewN HB1.out nd); obtain ⟨ad, A1, c1, e1, hx, hl1, hC1⟩ := Kd.at_sl (Kd.C_below HR.out HB2.out) 0 (by decide) (of_decide_eq_true d3); cases e1; simp only [Int.toNat_zero] at hx hl1 hC1; rw [HX.out] at hx hl1 hC1; rw [show ad.add 0 = ad from (by simp [Addr.add])] at hx) | ((with_reducible refine gate_dst (N := 5) rfl ?_); refine box_event ?hg (N := 5) ?hd (cs := #[.int .i64 0]) (t := 3) ?hr ?_; (case hd => rfl); (case hg => rfl); (case hr => first | (go_simp; done) | (go_simp; rfl)); intro gb5 hg5 w3 hbox5 hb5; have HB3 := Aside0.mk (below_step HB2.out hb5); have BK5 := Aside0.mk hbox5; have BK3 := Aside0.mk (blk_below (g := gb) (o := .cells #[.int .i64 a0_0, .slice (some ad) l0_1.length c0_1] 49 (0, 0)) (blk_drewN BK.out nd) hb5); have hdz0 : w3.cell? ⟨gb, 0, none⟩ = some (.int .i64 a0_0) := (blk_cell BK3.out 0).trans rfl; have hdz1 : w3.cell? ⟨gb, 1, none⟩ = some (.slice (some ad) l0_1.length c0_1) := (blk_cell BK3.out 1).trans rfl; have hs5 : w3.cell? ⟨gb5, 0, none⟩ = some (.int .i64 0) := (blk_cell BK5.out 0).trans rfl; have hf5 := blk_frozen BK5.out 0; have hne5 : gb5 ≠ gb := (by have hlt := blk_lt (blk_drewN BK.out nd); omega); have hne6 : gb ≠ gb5 := hne5.symm; have GE5 := Aside0.mk (show w.heap.size ≤ gb5 from (by rw [hg5]; exact below_size HB2.out)); clear hb5 hbox5 hg5) | ((with_reducible refine gate_callee (f := 112) rfl ?_); refine goesL_ (some 33) rfl rfl Try.func112 (by kernel_rfl) rfl #[.slice (some ad) l0_1.length c0_1, .func (.func 113) #[] #[.pointer (some ⟨gb5, 0, none⟩)]] rfl (by (try simp only [List.map_toArray, List.map_cons, List.map_nil]); first | done | rfl) ?_; have BKW := Aside0.mk (blk_set BK5.out 0 (.int .i64 (x0.length : Int))); have HBW := Aside0.mk (below_set (j := 0) (v := .int .i64 (x0.length : Int)) HB3.out GE5.out); have hp_ : PredV 113 #[.pointer (some ⟨gb5, 0, none⟩)] (fun c => !(decide (c.length = x0.length) && cutsOk c)) (w3.setCell ⟨gb5, 0, none⟩ (.int .i64 (x0.length : Int))) := (fun W x A c hb hC hl => (quantClosure gb5 x0.length A c x W ((hb.block gb5 (blk_lt BKW.out)).trans BKW.out) hC hl).mono (fun e W' h => ⟨h.1, hb.trans (h.2.mono hb.size)⟩)); have he_ : ∀ args w, (callFunc 113 args).run Try.prog w = .ok (.enter 113 args) w := enters_of Try.func113 (by kernel_rfl) rfl; (with_reducible refine (containsFunc_cuts 113 #[.pointer (some ⟨gb5, 0, none⟩)] (fun c => !(decide (c.length = x0.length) && cutsOk c)) (some ad) c0_1 l0_1 _ he_ hp_ (Kd.C_below HR.out HBW.out) HC.out).mono ?_); rw [HQ.out]; rintro e w5 ⟨rfl, hb⟩; refine ⟨_, rfl, ?_⟩; have HBZ := Aside0.mk (below_step HBW.out hb); clear hb hp_ he_))
      go_ret
      exact ⟨rfl, HBZ.out⟩
    | false =>
      have ebk : bookOk a0_0 l0_1 = true := by
        unfold bookOk
        have : l0_1.all (fun c => decide (c.length = (l0_1.getD 0 []).length) && cutsOk c) = true := by
          rw [List.all_eq_not_any_not, hq]; rfl
        rw [this, hw, decide_eq_true (show 1 ≤ l0_1.length by omega), decide_eq_true (show l0_1.length ≤ 64 by omega)]
        rfl
      rw [if_pos ebk]
      clear h1 h2 ebk
      generalize hx0 : l0_1.getD 0 [] = x0 at hq
      have HQ := Aside0.mk hq
      have HX := Aside0.mk hx0
      clear hq hx0
      go_enter Try.func48, Try.ntmps48
      go_wp2_with (first | ((with_reducible refine gate_dst (N := 1) rfl ?_); refine box_event ?hg (N := 1) ?hd (cs := #[.int .i64 a0_0, .slice A0_1 l0_1.length c0_1]) (t := 49) ?hr ?_; (case hd => rfl); (case hg => rfl); (case hr => first | (go_simp; done) | (go_simp; rfl)); intro gb hg w1 hbox hb; have HB1 := Aside0.mk (below_step HB.out hb); have BK := Aside0.mk hbox; have hcz0 : w1.cell? ⟨gb, 0, none⟩ = some (.int .i64 a0_0) := (blk_cell hbox 0).trans rfl; have hcz1 : w1.cell? ⟨gb, 1, none⟩ = some (.slice A0_1 l0_1.length c0_1) := (blk_cell hbox 1).trans rfl; have hfz0 := blk_frozen hbox 0; have hfz1 := blk_frozen hbox 1; clear hb hbox hg) | (go_at_call 111; (with_reducible refine (twist_Not.calls _ _ _ _ HT.out).mono ?_); rintro e w2 ⟨rfl, ⟨nd, rfl⟩⟩; have HB2 := Aside0.mk (pw_below_drewN HB1.out nd); obtain ⟨ad, A1, c1, e1, hx, hl1, hC1⟩ := Kd.at_sl (Kd.C_below HR.out HB2.out) 0 (by decide) (of_decide_eq_true d3); cases e1; simp only [Int.toNat_zero] at hx hl1 hC1; rw [HX.out] at hx hl1 hC1; rw [show ad.add 0 = ad from (by simp [Addr.add])] at hx) | ((with_reducible refine gate_dst (N := 5) rfl ?_); refine box_event ?hg (N := 5) ?hd (cs := #[.int .i64 0]) (t := 3) ?hr ?_; (case hd => rfl); (case hg => rfl); (case hr => first | (go_simp; done) | (go_simp; rfl)); intro gb5 hg5 w3 hbox5 hb5; have HB3 := Aside0.mk (below_step HB2.out hb5); have BK5 := Aside0.mk hbox5; have BK3 := Aside0.mk (blk_below (g := gb) (o := .cells #[.int .i64 a0_0, .slice (some ad) l0_1.length c0_1] 49 (0, 0)) (blk_drewN BK.out nd) hb5); have hdz0 : w3.cell? ⟨gb, 0, none⟩ = some (.int .i64 a0_0) := (blk_cell BK3.out 0).trans rfl; have hdz1 : w3.cell? ⟨gb, 1, none⟩ = some (.slice (some ad) l0_1.length c0_1) := (blk_cell BK3.out 1).trans rfl; have hs5 : w3.cell? ⟨gb5, 0, none⟩ = some (.int .i64 0) := (blk_cell BK5.out 0).trans rfl; have hf5 := blk_frozen BK5.out 0; have hne5 : gb5 ≠ gb := (by have hlt := blk_lt (blk_drewN BK.out nd); omega); have hne6 : gb ≠ gb5 := hne5.symm; have GE5 := Aside0.mk (show w.heap.size ≤ gb5 from (by rw [hg5]; exact below_size HB2.out)); clear hb5 hbox5 hg5) | ((with_reducible refine gate_callee (f := 112) rfl ?_); refine goesL_ (some 33) rfl rfl Try.func112 (by kernel_rfl) rfl #[.slice (some ad) l0_1.length c0_1, .func (.func 113) #[] #[.pointer (some ⟨gb5, 0, none⟩)]] rfl (by (try simp only [List.map_toArray, List.map_cons, List.map_nil]); first | done | rfl) ?_; have BKW := Aside0.mk (blk_set BK5.out 0 (.int .i64 (x0.length : Int))); have HBW := Aside0.mk (below_set (j := 0) (v := .int .i64 (x0.length : Int)) HB3.out GE5.out); have hp_ : PredV 113 #[.pointer (some ⟨gb5, 0, none⟩)] (fun c => !(decide (c.length = x0.length) && cutsOk c)) (w3.setCell ⟨gb5, 0, none⟩ (.int .i64 (x0.length : Int))) := (fun W x A c hb hC hl => (quantClosure gb5 x0.length A c x W ((hb.block gb5 (blk_lt BKW.out)).trans BKW.out) hC hl).mono (fun e W' h => ⟨h.1, hb.trans (h.2.mono hb.size)⟩)); have he_ : ∀ args w, (callFunc 113 args).run Try.prog w = .ok (.enter 113 args) w := enters_of Try.func113 (by kernel_rfl) rfl; (with_reducible refine (containsFunc_cuts 113 #[.pointer (some ⟨gb5, 0, none⟩)] (fun c => !(decide (c.length = x0.length) && cutsOk c)) (some ad) c0_1 l0_1 _ he_ hp_ (Kd.C_below HR.out HBW.out) HC.out).mono ?_); rw [HQ.out]; rintro e w5 ⟨rfl, hb⟩; refine ⟨_, rfl, ?_⟩; have HBZ := Aside0.mk (below_step HBW.out hb); clear hb hp_ he_))
      go_ret
      exact ⟨rfl, HBZ.out⟩
end Go.Proofs.Ytkjibgfgbfacdaa.P
end
/-! part: HLays -/
section
set_option linter.unusedVariables false
set_option linter.unusedSimpArgs false
namespace Go.Proofs
open Go.Shelf
def Try.laySort64_ren : Go.Shelf.Ren := ⟨fun | 53 => 123 | 64 => 165 | 63 => 164 | 78 => 185 | 79 => 186 | 70 => 176 | 71 => 177 | 72 => 178 | 73 => 179 | 74 => 180 | 75 => 181 | 59 => 182 | 76 => 183 | 77 => 184 | 88 => 197 | 89 => 198 | 90 => 199 | 91 => 200 | 92 => 201 | 68 => 202 | 96 => 206 | n => n, fun | 22 => 22 | 23 => 2 | 3 => 3 | 51 => 140 | 0 => 0 | 67 => 206 | 69 => 37 | 4 => 4 | 61 => 199 | 60 => 198 | 44 => 127 | 5 => 5 | 9 => 9 | 75 => 217 | 79 => 221 | 83 => 225 | 84 => 226 | n => n, fun | n => n⟩
theorem Try.laySort64 : Go.Proofs.SlLaysN.n53 Try.prog Try.laySort64_ren := {
  mixed := by kernel_rfl
  f53 := ⟨Try.f123.name, by decide, Try.func123.trans (congrArg some (by kernel_rfl))⟩
  f59 := ⟨Try.f182.name, by decide, Try.func182.trans (congrArg some (by kernel_rfl))⟩
  f63 := ⟨Try.f164.name, by decide, Try.func164.trans (congrArg some (by kernel_rfl))⟩
  f64 := Try.func165.trans (congrArg some (by kernel_rfl))
  f68 := ⟨Try.f202.name, by decide, Try.func202.trans (congrArg some (by kernel_rfl))⟩
  f70 := ⟨Try.f176.name, by decide, Try.func176.trans (congrArg some (by kernel_rfl))⟩
  f71 := ⟨Try.f177.name, by decide, Try.func177.trans (congrArg some (by kernel_rfl))⟩
  f72 := ⟨Try.f178.name, by decide, Try.func178.trans (congrArg some (by kernel_rfl))⟩
  f73 := ⟨Try.f179.name, by decide, Try.func179.trans (congrArg some (by kernel_rfl))⟩
  f74 := ⟨Try.f180.name, by decide, Try.func180.trans (congrArg some (by kernel_rfl))⟩
  f75 := ⟨Try.f181.name, by decide, Try.func181.trans (congrArg some (by kernel_rfl))⟩
  f76 := ⟨Try.f183.name, by decide, Try.func183.trans (congrArg some (by kernel_rfl))⟩
  f77 := ⟨Try.f184.name, by decide, Try.func184.trans (congrArg some (by kernel_rfl))⟩
  f78 := Try.func185.trans (congrArg some (by kernel_rfl))
  f79 := Try.func186.trans (congrArg some (by kernel_rfl))
  f88 := ⟨Try.f197.name, by decide, Try.func197.trans (congrArg some (by kernel_rfl))⟩
  f89 := Try.func198.trans (congrArg some (by kernel_rfl))
  f90 := Try.func199.trans (congrArg some (by kernel_rfl))
  f91 := ⟨Try.f200.name, by decide, Try.func200.trans (congrArg some (by kernel_rfl))⟩
  f92 := ⟨Try.f201.name, by decide, Try.func201.trans (congrArg some (by kernel_rfl))⟩
  f96 := ⟨Try.f206.name, by decide, Try.func206.trans (congrArg some (by kernel_rfl))⟩
  t0 := Try.underlying0
  a0 := Try.isAgg0
  z0 := Try.sizeOf0
  v0 := Try.zeroValue0
  t3 := Try.underlying3
  a3 := Try.isAgg3
  z3 := Try.sizeOf3
  v3 := Try.zeroValue3
  t4 := Try.underlying4
  a4 := Try.isAgg4
  z4 := Try.sizeOf4
  v4 := Try.zeroValue4
  t5 := Try.underlying5
  a5 := Try.isAgg5
  z5 := Try.sizeOf5
  v5 := Try.zeroValue5
  t9 := Try.underlying9
  a9 := Try.isAgg9
  z9 := Try.sizeOf9
  v9 := Try.zeroValue9
  t22 := Try.underlying22
  a22 := Try.isAgg22
  z22 := Try.sizeOf22
  v22 := Try.zeroValue22
  t23 := Try.underlying2
  a23 := Try.isAgg2
  z23 := Try.sizeOf2
  v23 := Try.zeroValue2
  t44 := Try.underlying127
  a44 := Try.isAgg127
  z44 := Try.sizeOf127
  v44 := Try.zeroValue127
  t51 := Try.underlying140
  a51 := Try.isAgg140
  z51 := Try.sizeOf140
  v51 := Try.zeroValue140
  t60 := Try.underlying198
  a60 := Try.isAgg198
  z60 := Try.sizeOf198
  v60 := Try.zeroValue198
  t61 := Try.underlying199
  a61 := Try.isAgg199
  z61 := Try.sizeOf199
  v61 := Try.zeroValue199
  t67 := Try.underlying206
  a67 := Try.isAgg206
  z67 := Try.sizeOf206
  v67 := Try.zeroValue206
  t69 := Try.underlying37
  a69 := Try.isAgg37
  z69 := Try.sizeOf37
  v69 := Try.zeroValue37
  t75 := Try.underlying217
  a75 := Try.isAgg217
  z75 := Try.sizeOf217
  v75 := Try.zeroValue217
  t79 := Try.underlying221
  a79 := Try.isAgg221
  z79 := Try.sizeOf221
  v79 := Try.zeroValue221
  t83 := Try.underlying225
  a83 := Try.isAgg225
  z83 := Try.sizeOf225
  v83 := Try.zeroValue225
  t84 := Try.underlying226
  a84 := Try.isAgg226
  z84 := Try.sizeOf226
  v84 := Try.zeroValue226 }
def Try.laySearch_ren : Go.Shelf.Ren := ⟨fun | 16 => 120 | n => n, fun | 3 => 3 | 35 => 157 | 4 => 4 | 38 => 140 | n => n, fun | n => n⟩
theorem Try.laySearch : Go.Proofs.SlLaysO.n16 Try.prog Try.laySearch_ren := {
  mixed := by kernel_rfl
  f16 := Try.func120.trans (congrArg some (by kernel_rfl))
  t3 := Try.underlying3
  a3 := Try.isAgg3
  z3 := Try.sizeOf3
  v3 := Try.zeroValue3
  t4 := Try.underlying4
  a4 := Try.isAgg4
  z4 := Try.sizeOf4
  v4 := Try.zeroValue4
  t35 := Try.underlying157
  a35 := Try.isAgg157
  z35 := Try.sizeOf157
  v35 := Try.zeroValue157
  t38 := Try.underlying140
  a38 := Try.isAgg140
  z38 := Try.sizeOf140
  v38 := Try.zeroValue140 }
end Go.Proofs
end
/-! part: HrankCell -/
section
set_option linter.unusedVariables false
set_option linter.unusedSimpArgs false
namespace Go.Proofs.Ytkjibgfgbfacdaa.P
open Go.RowKit Go.Sort Go.Proofs.YtkjibgfgbfacdaaW.PrintWords Go.Proofs.YtkjibgfgbfacdaaW.PrintLast Go.Proofs.YtkjibgfgbfacdaaW.PrintMore
set_option linter.unusedVariables false
set_option linter.unusedSimpArgs false
/-- How many cuts are no greater. -/
def cellOf (l : List Int) (x : Int) : Int := (l.countP (fun c => decide (c ≤ x)) : Int)
def h_rank_Cell.f (l0 : List Int) (a1 : Int) : Option (Int × Int) := some (if cutsOk l0 = true ∧ -32767 ≤ a1 then (cellOf l0 a1, 0) else (0, 1))
theorem cutsLen {c : List Int} (h : cutsOk c = true) : c.length < 16 := by
  unfold cutsOk at h
  simp only [Bool.and_eq_true, decide_eq_true_eq] at h
  exact h.1.1
theorem sorted_mono {l : List Int} (h : cutsOk l = true) : ∀ a b : Nat, a ≤ b → b < l.length → l.getD a 0 ≤ l.getD b 0 := by
  unfold cutsOk at h
  simp only [Bool.and_eq_true] at h
  have hs : ∀ j, j < l.length - 1 → l.getD j 0 ≤ l.getD (j + 1) 0 := by
    have := h.1.2
    unfold sortedTo at this
    intro j hj
    exact of_decide_eq_true (List.all_eq_true.1 this j (List.mem_range.2 hj))
  intro a b hab
  induction b with
  | zero => intro _; obtain rfl : a = 0 := by omega
            exact Int.le_refl _
  | succ b ih =>
    intro hb
    by_cases e : a = b + 1
    · subst e; exact Int.le_refl _
    · have := ih (by omega) (by omega)
      have := hs b (by omega)
      omega
theorem cellOf_range (l : List Int) (x : Int) : ((List.range l.length).countP (fun i => !decide (x < l.getD i 0)) : Int) = cellOf l x := by
  have h : l = (List.range l.length).map (fun i => l.getD i 0) := by
    apply List.ext_getElem
    · simp
    · intro i h1 h2
      simp [List.getD_eq_getElem?_getD, h1]
  unfold cellOf
  conv => rhs; rw [h, List.countP_map]
  congr 2
  funext i
  simp only [Function.comp]
  by_cases e : x < l.getD i 0
  · rw [decide_eq_true e, decide_eq_false (by omega)]; rfl
  · rw [decide_eq_false e, decide_eq_true (by omega)]; rfl
set_option maxHeartbeats 2000000 in
set_option maxRecDepth 100000 in
theorem rankCell_closure (ba bx : Nat) (A : Option Addr) (c : Nat) (l : List Int) (x : Int) (i : Nat) (W : World) (hi : i < l.length) (hm : l.length ≤ 9223372036854775807) (hR : Kd.C (Kd.int .i16) W A l.length l)
    (ha : W.cell? ⟨ba, 0, none⟩ = some (.slice A l.length c)) (hx : W.cell? ⟨bx, 0, none⟩ = some (.int .i16 x)) :
    Calls Try.prog 121 (#[.int .i64 i] ++ #[.pointer (some ⟨ba, 0, none⟩), .pointer (some ⟨bx, 0, none⟩)]) W fun e w' => e = .returned (.bool (decide (x < l.getD i 0))) ∧ ∃ q, w' = W.drewN q := by
  obtain ⟨ad, e1, hc⟩ := Kd.at_int hR (i : Int) (by omega) (by omega)
  subst e1
  rw [Int.toNat_natCast] at hc
  have er : rd l (i : Int) = l.getD i 0 := by show l.getD ((i : Int)).toNat 0 = _; rw [Int.toNat_natCast]
  rw [er] at hc
  generalize l.getD i 0 = y at hc ⊢
  have hiz : (i : Int) < (l.length : Int) := by omega
  clear hR er
  go_enter Try.func121, Try.ntmps121
  go_wp2
  go_region
  all_goals go_wp2
  all_goals go_ret
  all_goals exact ⟨by first | rfl | simp, 1, rfl⟩
set_option maxHeartbeats 4000000 in
set_option maxRecDepth 100000 in
theorem h_rank_Cell.calls (A0 : Option Addr) (c0 : Nat) (l0 : List Int) (a1 : Int) (r1 : Int) (r2 : Int) (w : World) (hr0 : Kd.C (Kd.int .i16) w A0 l0.length l0) (hc0 : l0.length ≤ c0) (h : h_rank_Cell.f l0 a1 = some (r1, r2)) :
    Calls Try.prog 58 #[.slice A0 l0.length c0, .int .i16 a1] w fun e w' => e = .returned (.tuple #[.int .i64 r1, .int .i64 r2]) ∧ Below w.heap.size w w' := by
  have h := Option.some.inj h
  have HR := Aside0.mk hr0
  have HC := Aside0.mk hc0
  have HM := Aside0.mk hr0.2.1
  have HK := Aside0.mk (rankCheck l0 17 (Nat.le_refl _))
  have HO : Aside0 (rank_odd.f a1 = some (decide (a1 < -32767))) := ⟨rfl⟩
  have HMO := Aside0.mk (fun hk : cutsOk l0 = true => sorted_mono hk)
  have HCN := Aside0.mk (cellOf_range l0 a1)
  have HL := Aside0.mk (fun hk : cutsOk l0 = true => (cutsLen hk : l0.length < 16))
  clear hr0 hc0
  cases hk : cutsOk l0 with
  | false =>
    rw [hk] at HK h
    rw [if_neg (fun z => by cases z.1)] at h
    simp only [Bool.false_eq_true, if_false] at HK
    cases h
    clear hk HMO HCN HL
    go_enter Try.func58, Try.ntmps58
    go_wp2_with (go_at_call 61; (with_reducible refine (rank_Check.calls 17 _ _ l0 _ _ ?s HC.out HK.out).mono ?_); (case s => exact Kd.C_alloc (Kd.C_alloc HR.out _) _); rintro e w1 ⟨rfl, ⟨nd, rfl⟩⟩)
    go_ret2
    exact ⟨rfl, pw_below_drewN (below_alloc (below_alloc (Below.refl _ _) _) _) _⟩
  | true =>
    have hmono := HMO.out hk
    have hlen := HL.out hk
    rw [hk] at HK h
    simp only [if_true] at HK
    clear hk HMO HL
    by_cases ho : a1 < -32767
    · rw [decide_eq_true ho] at HO
      rw [if_neg (fun z => by have := z.2; omega)] at h
      cases h
      clear ho hmono hlen HCN
      go_enter Try.func58, Try.ntmps58
      go_wp2_with (first | (go_at_call 61; (with_reducible refine (rank_Check.calls 17 _ _ l0 _ _ ?s HC.out HK.out).mono ?_); (case s => exact Kd.C_alloc (Kd.C_alloc HR.out _) _); rintro e w1 ⟨rfl, ⟨nd, rfl⟩⟩) | (go_at_call 117; (with_reducible refine (rank_odd.calls _ _ _ HO.out).mono ?_); rintro e w2 ⟨rfl, ⟨nd2, rfl⟩⟩))
      go_ret2
      exact ⟨rfl, by repeat (first | exact Below.refl _ _ | apply pw_below_drewN | apply below_alloc)⟩
    · rw [decide_eq_false ho] at HO
      rw [if_pos ⟨rfl, by omega⟩] at h
      cases h
      have HLEN := Aside0.mk hlen
      have HMONO := Aside0.mk hmono
      clear ho hmono hlen
      have eg : ∀ args w, (callFunc 121 args).run Try.prog w = .ok (.enter 121 args) w := enters_of Try.func121 (by kernel_rfl) rfl
      have EG := Aside0.mk eg
      clear eg
      obtain ⟨W0, hW0⟩ : ∃ W0, W0 = (w.alloc (.cells #[.slice A0 l0.length c0] 26)).alloc (.cells #[.int .i16 a1] 74) := ⟨_, rfl⟩
      have hsize : W0.heap.size = w.heap.size + 1 + 1 := by rw [hW0]; simp
      have ca : W0.cell? ⟨w.heap.size, 0, none⟩ = some (.slice A0 l0.length c0) := by rw [hW0]; exact cell_alloc_sl _ (cell_new_sl w _ _)
      have cx : W0.cell? ⟨w.heap.size + 1, 0, none⟩ = some (.int .i16 a1) := by
        rw [hW0]
        have := cell_new_sl (w.alloc (.cells #[.slice A0 l0.length c0] 26)) (.int .i16 a1) 74
        rwa [World.size_alloc] at this
      have HB0 : Below w.heap.size w W0 := by rw [hW0]; exact below_alloc (below_alloc (Below.refl _ _) _) _
      have HS := Aside0.mk (fun n : Nat => Any.sort_Search (P := Try.prog) Try.laySearch 121 #[.pointer (some ⟨w.heap.size, 0, none⟩), .pointer (some ⟨w.heap.size + 1, 0, none⟩)] l0.length (fun i => decide (a1 < l0.getD i 0)) (W0.drewN n) EG.out (by have := HLEN.out; omega)
        (fun m os i hi => (rankCell_closure w.heap.size (w.heap.size + 1) A0 c0 l0 a1 i _ hi HM.out (Kd.C_below HR.out ((pw_below_drewN HB0 n).trans (below_grown_sl w.heap.size (W0.drewN n) m os (by show w.heap.size ≤ W0.heap.size; omega))))
          (cell_grown (by show w.heap.size < W0.heap.size; omega) ca m os) (cell_grown (by show w.heap.size + 1 < W0.heap.size; omega) cx m os)).mono fun _ _ ⟨he, q, hq⟩ => ⟨he, q, #[], by rw [hq, grow_empty]⟩)
        (fun a b hab hb h => by have := HMONO.out a b hab hb; have h := of_decide_eq_true h; exact decide_eq_true (by omega)))
      have HBB := Aside0.mk (fun n q os => (pw_below_drewN HB0 n).trans (below_grown_sl w.heap.size (W0.drewN n) q os (by show w.heap.size ≤ W0.heap.size; omega)))
      clear ca cx hsize HB0
      subst hW0
      go_enter Try.func58, Try.ntmps58
      go_wp2_with (first | (go_at_call 61; (with_reducible refine (rank_Check.calls 17 _ _ l0 _ _ ?s HC.out HK.out).mono ?_); (case s => exact Kd.C_alloc (Kd.C_alloc HR.out _) _); rintro e w1 ⟨rfl, ⟨nd, rfl⟩⟩) | (go_at_call 117; (with_reducible refine (rank_odd.calls _ _ _ HO.out).mono ?_); rintro e w2 ⟨rfl, ⟨nd2, rfl⟩⟩) | (go_at_call 120; refine (HS.out _).mono ?_; rintro e w3 ⟨rfl, q, os, rfl⟩))
      go_ret2
      exact ⟨by rw [← HCN.out]; rfl, by have := HBB.out (nd + nd2) q os; rwa [World.drewN_drewN] at this⟩
end Go.Proofs.Ytkjibgfgbfacdaa.P
end
/-! part: HSeq16 -/
section
set_option linter.unusedVariables false
set_option linter.unusedSimpArgs false
namespace Go.Proofs.Ytkjibgfgbfacdaa.P
open Go.RowKit Go.Proofs.YtkjibgfgbfacdaaW.PrintWords Go.Proofs.YtkjibgfgbfacdaaW.PrintLast Go.Proofs.YtkjibgfgbfacdaaW.PrintMore
set_option linter.unusedVariables false
set_option linter.unusedSimpArgs false
attribute [local go_sem] Oper.semAt_some
theorem take16_succ (zs : List Int) (k : Nat) (h : k < zs.length) : zs.take (k + 1) = zs.take k ++ [rd zs (k : Int)] := by
  rw [List.take_succ_eq_append_getElem h]
  congr 2
  show _ = zs.getD ((k : Int)).toNat 0
  rw [Int.toNat_natCast]
  simp [List.getD_eq_getElem?_getD, h]
set_option maxRecDepth 100000 in
set_option maxHeartbeats 2000000 in
/-- slices.Values's closure: for every loop body that keeps what lay below. -/
theorem values16_closure (F : Fence) (n : Nat) (h7 : F.fn 162) (hro : F.round = none) (hn : 1 ≤ n) (l Bs : Nat) (w0 : World) (A : Option Addr) (c : Nat) (zs : List Int) (hC : Kd.C (Kd.int .i16) w0 A zs.length zs) (J Jx : List Int → World → Prop)
    (hY : ∀ pre x W, J pre W → pre.length < zs.length → YieldAt F (n - 1) Try.prog l #[.int .i16 x] W fun e W' =>
      (e = .returned (.bool true) ∧ J (pre ++ [x]) W' ∧ Below w0.heap.size W W') ∨ (e = .returned (.bool false) ∧ Jx (pre ++ [x]) W'))
    (W : World) (hW : Below w0.heap.size w0 W) (hBs : W.cell? ⟨Bs, 0, none⟩ = some (.slice A zs.length c)) (h0 : J [] W) :
    CallsIn F n Try.prog 162 #[.func (.yield l) #[] #[], .pointer (some ⟨Bs, 0, none⟩)] W fun e W' => (∃ v, e = .returned v) ∧
      ((∃ ys, ys = zs ∧ J ys W') ∨ (∃ pre, pre <+: zs ∧ Jx pre W')) := by
  have hmx := hC.2.1
  refine callsIn_of_wp Try.func162 rfl h7 ?_ hro
  simp only [Try.ntmps162, List.size_toArray, List.length_cons, List.length_nil, Nat.reduceAdd, Nat.reduceSub, Array.replicate_succ, Array.replicate_zero, List.push_toArray, List.append_toArray, List.nil_append, List.cons_append]
  gi_wp2
  gi_loopw [7] (fun i wr => ∃ k : Nat, k ≤ zs.length ∧ i = .int .i64 k ∧ J (zs.take k) wr ∧ Below w0.heap.size w0 wr)
    (fun i _ => zs.length - (intOf i).toNat)
  case atStart => exact ⟨0, Nat.zero_le _, rfl, h0, hW⟩
  case round =>
    obtain ⟨k, hk, rfl, hJs, hnx⟩ := hrel
    by_cases hlt : k < zs.length
    · obtain ⟨ad, e1, hcx⟩ := Kd.at_int (Kd.C_below hC hnx) (k : Int) (by omega) (by omega)
      rw [Int.toNat_natCast] at hcx
      obtain ⟨fn, tmps, assign, body, hy, hR⟩ := hY _ (rd zs (k : Int)) wr hJs (by rw [List.length_take]; omega)
      have HS := Aside0.mk (take16_succ zs k hlt)
      generalize rd zs (k : Int) = x at *
      have HC := Aside0.mk hC
      have HBS := Aside0.mk hBs
      clear hC hBs
      subst e1
      gi_wp2
      refine hR.mono ?_
      rintro e W3 (⟨rfl, hJ3, hk3⟩ | ⟨rfl, hJx3⟩)
      · gi_wp2
        go_roundw
        case rel => exact ⟨k + 1, by omega, by simp, by rw [HS.out]; exact hJ3, hnx.trans hk3⟩
        case measure => simp [intOf]; omega
      · gi_wp2
        refine bodyPost_ret (results_none rfl _ _ _) rfl ?_
        exact ⟨⟨_, rfl⟩, .inr ⟨_, by rw [← HS.out]; exact List.take_prefix _ _, hJx3⟩⟩
    · obtain rfl : k = zs.length := by omega
      rw [List.take_length] at hJs
      gi_wp2
      go_end0
      exact ⟨⟨_, rfl⟩, .inl ⟨_, rfl, hJs⟩⟩
set_option maxHeartbeats 1000000 in
theorem values16_in (F : Fence) (n : Nat) (h5 : F.fn 119) (hro : F.round = none) (a : Option Addr) (len cap : Nat) (w : World) :
    CallsIn F n Try.prog 119 #[.slice a len cap] w fun e w' => e = .returned (.func (.func 162) #[] #[.pointer (some ⟨w.heap.size, 0, none⟩)]) ∧ w' = w.alloc (.cells #[.slice a len cap] 26) := by
  refine callsIn_of_wp Try.func119 rfl h5 ?_ hro
  simp only [Try.ntmps119, List.size_toArray, List.length_cons, List.length_nil, Nat.reduceAdd, Nat.reduceSub, Array.replicate_succ, Array.replicate_zero, List.push_toArray, List.append_toArray, List.nil_append, List.cons_append]
  gi_wp2
  go_ret
  exact ⟨rfl, rfl⟩
/-- What slices.Values hands back gives all of the list, in its order. -/
theorem values16_stops (F : Fence) (n : Nat) (h7 : F.fn 162) (hro : F.round = none) (hn : 1 ≤ n) (Bs : Nat) (w0 : World) (A : Option Addr) (c : Nat) (zs : List Int) (hC : Kd.C (Kd.int .i16) w0 A zs.length zs) (w : World) (hBs : Bs < w.heap.size)
    (hw : Below w0.heap.size w0 w) (hc : w.cell? ⟨Bs, 0, none⟩ = some (.slice A zs.length c)) :
    SeqStopsK F n Try.prog 162 #[.pointer (some ⟨Bs, 0, none⟩)] (fun x : Int => #[Value.int .i16 x]) (Below w0.heap.size) (fun ys => ys = zs) (fun pre => pre <+: zs) zs.length w := fun l J Jx W hW _ _ hY h0 =>
  values16_closure F n h7 hro hn l Bs w0 A c zs hC J Jx hY W (hw.trans (hW.mono hw.size)) ((hW.cell (p := ⟨Bs, 0, none⟩) hBs).trans hc) h0
theorem info16 : (Try.prog.info? 74).map (fun i => (i.zero, i.size, i.bytes)) = some (some (.int .i16 0), 1, 2) := by kernel_rfl
set_option maxRecDepth 100000 in
set_option maxHeartbeats 2000000 in
/-- slices.AppendSeq(nil, slices.Values(l)): a new slice of the same numbers. -/
theorem appendSeq16_in (F : Fence) (n : Nat) (h3 : F.fn 173) (h5 : F.fn 162) (hro : F.round = none) (hn : 3 ≤ n) (Bs : Nat) (w0 : World) (A : Option Addr) (c : Nat) (zs : List Int) (hC : Kd.C (Kd.int .i16) w0 A zs.length zs) (hlen : zs.length ≤ 70000)
    (w : World) (hBs : Bs < w.heap.size) (hw : Below w0.heap.size w0 w) (hc : w.cell? ⟨Bs, 0, none⟩ = some (.slice A zs.length c)) :
    CallsIn F n Try.prog 173 #[.slice none 0 0, .func (.func 162) #[] #[.pointer (some ⟨Bs, 0, none⟩)]] w fun e W' => ∃ v, e = .returned v ∧ W'.ownsRow w.heap.size 74 1 v zs.length (zs.map (Value.int .i16)) ∧ (v = .slice none 0 0 ↔ zs = []) ∧ Below w.heap.size w W' := by
  have h1 : 1 ≤ n := by omega
  obtain ⟨i0, hi, hz⟩ := Option.map_eq_some_iff.1 info16
  have hz0 : i0.zero = some (.int .i16 0) := by injection hz
  have hz1 : i0.size = 1 := by injection hz with _ hz; injection hz
  have hz2 : i0.bytes = 2 := by injection hz with _ hz; injection hz
  clear hz
  refine callsIn_of_wp_marks Try.func173 rfl h3 ?_ hro
  simp only [Try.ntmps173, List.size_toArray, List.length_cons, List.length_nil, Nat.reduceAdd, Nat.reduceSub, Array.replicate_succ, Array.replicate_zero, List.push_toArray, List.append_toArray, List.nil_append, List.cons_append]
  gi_wp2
  have bO := Boxed.new w 26 (.slice none 0 0)
  have hB0 : Below w.heap.size w (w.alloc (.cells #[.slice none 0 0] 26)) := (Below.refl _ w).alloc (Nat.le_refl _) _
  have hcw : (w.alloc (.cells #[.slice none 0 0] 26)).cell? ⟨Bs, 0, none⟩ = some (.slice A zs.length c) := (hB0.cell (p := ⟨Bs, 0, none⟩) hBs).trans hc
  have hw1 : Below w0.heap.size w0 (w.alloc (.cells #[.slice none 0 0] 26)) := hw.trans (hB0.mono hw.size)
  refine wpIn_rangeFunc_ownG hro h1 (gf := 162) (lb := #[.pointer (some ⟨Bs, 0, none⟩)]) rfl h5 (enters_of Try.func162 (by kernel_rfl) rfl)
    (values16_stops F (n - 1) h5 hro (by omega) Bs w0 A c zs hC _ (by rw [World.size_alloc]; omega) hw1 hcw) belowK_t (belowK_b (by have := hw.size; rw [World.size_alloc]; omega)) (Below.refl _ _) (fun _ => rfl)
    (fun pre W => (∃ v, Boxed W w.heap.size 26 v ∧ W.ownsRow w.heap.size 74 1 v pre.length (pre.map (Value.int .i16)) ∧ (v = .slice none 0 0 ↔ pre = [])) ∧ Below w.heap.size w W)
    (fun _ _ _ => False)
    (OwnFrom.and (Own.from (holdsRow_own w.heap.size w.heap.size 26 74 1 (fun pre => pre.length) (fun pre => pre.map (Value.int .i16)) (fun pre v => v = .slice none 0 0 ↔ pre = [])) _) (ownFrom_below (Nat.le_refl _) (by rw [World.size_alloc]; omega)))
    (fun _ _ _ _ _ hs _ _ => hs)
    ⟨⟨_, bO, World.ownsRow_nil _ _ _ _, by simp⟩, hB0⟩
    (fun x => { tmps := #[.slice none 0 0, .func (.func 162) #[] #[.pointer (some ⟨Bs, 0, none⟩)], .pointer (some ⟨w.heap.size, 0, none⟩), undef, .slice none 0 0, .int .i16 x, .func (.func 162) #[] #[.pointer (some ⟨Bs, 0, none⟩)], .int .i16 x, undef, undef, undef, undef, undef], defers := [] }) ?assign ?body ?done ?stop
  case assign =>
    intro l x W K hK
    gi_wp2
    exact hK
  case body =>
    rintro l pre x W ⟨⟨v, hv, hrow, hnil⟩, hB⟩ hlt
    have hcv := hv.cell
    clear hC hc hcw
    gi_wp2_with (gi_at_builtin; refine wpListIn_append_own _ rfl _ _ 26 rfl w.heap.size 74 i0 (.int .i16 0) 1 2 Try.underlying26 hi hz0 hz1 hz2 rfl (by decide) _ _ _ rfl (hrow.alloc _) ⟨W.heap.size, 0, none⟩ 1 1 [.int .i16 x] rfl rfl (cell_one_new _ _ _) (by simp [Value.oneCell']) (by unfold maxLen; omega) (by omega) (by have := hB.size; simp; omega) ?_; intro v' w1 hown' hgrow _; obtain ⟨g', cap', rfl⟩ := ownsRow_succ hown'; obtain ⟨hv1, hv2, hr2, hk2, hb2⟩ := hv.appended (by decide) hrow hB.size (Nat.le_refl _) hown' hgrow; have hc1 := hv1.cell; have hf1 := hv1.frozen)
    exact ⟨hk2.from _, hb2.mono hw.size, ⟨_, hv2, by simpa using hr2, by simp⟩, hB.trans hb2⟩
  case done =>
    rintro D ys W hD rfl ⟨⟨v, hv, hrow, hnil⟩, hB⟩ hK
    have hcv := hv.cell
    gi_wp2
    refine ⟨by simp, .inl ⟨_, _, rfl, run_takeDeferred hK, ?_⟩⟩
    exact ⟨_, results_tmp rfl _ _ _, v, rfl, ownsRow_putObj hrow _ hK rfl, hnil, hB.trans (belowK_b (w := w) (Nat.le_refl _) W D _ _ (by simp at hD; omega) hK rfl rfl)⟩
  case stop =>
    rintro D c' pre W _ _ h _
    exact h.elim
set_option maxHeartbeats 1000000 in
theorem collect16_in (F : Fence) (n : Nat) (h2 : F.fn 160) (h3 : F.fn 173) (h5 : F.fn 162) (hro : F.round = none) (hn : 4 ≤ n) (Bs : Nat) (w0 : World) (A : Option Addr) (c : Nat) (zs : List Int) (hC : Kd.C (Kd.int .i16) w0 A zs.length zs) (hlen : zs.length ≤ 70000)
    (w : World) (hBs : Bs < w.heap.size) (hw : Below w0.heap.size w0 w) (hc : w.cell? ⟨Bs, 0, none⟩ = some (.slice A zs.length c)) :
    CallsIn F n Try.prog 160 #[.func (.func 162) #[] #[.pointer (some ⟨Bs, 0, none⟩)]] w fun e W' => ∃ v, e = .returned v ∧ W'.ownsRow w.heap.size 74 1 v zs.length (zs.map (Value.int .i16)) ∧ (v = .slice none 0 0 ↔ zs = []) ∧ Below w.heap.size w W' := by
  have h1 : 1 ≤ n := by omega
  have H := Aside0.mk (appendSeq16_in F (n - 1) h3 h5 hro (by omega) Bs w0 A c zs hC hlen w hBs hw hc)
  clear hC hc
  refine callsIn_of_wp Try.func160 rfl h2 ?_ hro
  simp only [Try.ntmps160, List.size_toArray, List.length_cons, List.length_nil, Nat.reduceAdd, Nat.reduceSub, Array.replicate_succ, Array.replicate_zero, List.push_toArray, List.append_toArray, List.nil_append, List.cons_append]
  gi_wp2_with (gi_at_call 173; refine H.out.mono ?_; rintro e w' ⟨v, rfl, hrow, hnil, hb⟩)
  go_ret
  exact ⟨v, rfl, hrow, hnil, hb⟩
end Go.Proofs.Ytkjibgfgbfacdaa.P
end
/-! part: F189 -/
section
set_option linter.unusedVariables false
set_option linter.unusedSimpArgs false
namespace Go.Proofs.Ytkjibgfgbfacdaa.P
open Go.RowKit Go.Proofs.YtkjibgfgbfacdaaW.PrintWords Go.Proofs.YtkjibgfgbfacdaaW.PrintLast Go.Proofs.YtkjibgfgbfacdaaW.PrintMore
attribute [local go_sem] max2_int min2_int max_two min_two max_three min_three max_four min_four   -- for this text's walks alone
set_option linter.unusedVariables false
set_option linter.unusedSimpArgs false

/-! ### slices_insertionSortOrdered_int16: function 189 -/
mutual
def slices_insertionSortOrdered_int16.l0 : Nat → List Int → Int → Int → Int → Option (List Int)
  | 0, _, _, _, _ => none
  | k + 1, x0, x1, x2, x6 => if x6 < x2 then (slices_insertionSortOrdered_int16.l1 k x0 x1 x2 x6 x6) else (some x0)
def slices_insertionSortOrdered_int16.l1 : Nat → List Int → Int → Int → Int → Int → Option (List Int)
  | 0, _, _, _, _, _ => none
  | k + 1, x0, x1, x2, x6, x7 => if x7 > x1 then (if 0 ≤ x7 then (if x7 < (x0.length : Int) then (if 0 ≤ (wrap64 (x7 - 1)) then (if (wrap64 (x7 - 1)) < (x0.length : Int) then ((cmp_Less_int16.f (rd x0 x7) (rd x0 (wrap64 (x7 - 1)))).bind fun t843 => (if t843 = true then (slices_insertionSortOrdered_int16.l1 k ((x0.set (x7 : Int).toNat (rd x0 (wrap64 (x7 - 1)))).set ((wrap64 (x7 - 1)) : Int).toNat (rd x0 x7)) x1 x2 x6 (wrap64 (x7 - 1))) else (slices_insertionSortOrdered_int16.l0 k x0 x1 x2 (wrap64 (x6 + 1))))) else (none)) else (none)) else (none)) else (none)) else (slices_insertionSortOrdered_int16.l0 k x0 x1 x2 (wrap64 (x6 + 1)))
end
def slices_insertionSortOrdered_int16.f (k : Nat) (l0 : List Int) (a1 : Int) (a2 : Int) : Option (List Int) := slices_insertionSortOrdered_int16.l0 k l0 a1 a2 (wrap64 (a1 + 1))
theorem slices_insertionSortOrdered_int16.mono_l : ∀ k, (∀ y0 y1 y2 y3, LeO (slices_insertionSortOrdered_int16.l0 k y0 y1 y2 y3) (slices_insertionSortOrdered_int16.l0 (k + 1) y0 y1 y2 y3)) ∧ (∀ y0 y1 y2 y3 y4, LeO (slices_insertionSortOrdered_int16.l1 k y0 y1 y2 y3 y4) (slices_insertionSortOrdered_int16.l1 (k + 1) y0 y1 y2 y3 y4))
  | 0 => ⟨fun _ _ _ _ r h => by simp [slices_insertionSortOrdered_int16.l0] at h, fun _ _ _ _ _ r h => by simp [slices_insertionSortOrdered_int16.l1] at h⟩
  | k + 1 => by
    obtain ⟨ih0, ih1⟩ := slices_insertionSortOrdered_int16.mono_l k
    refine ⟨?_, ?_⟩
    · intro y0 y1 y2 y3
      unfold slices_insertionSortOrdered_int16.l0
      repeat' first
      | (with_reducible exact ih0 _ _ _ _)
      | (with_reducible exact ih1 _ _ _ _ _)
      | (with_reducible exact LeO.refl _)
      | (with_reducible exact LeO.none _)
      | (with_reducible refine LeO.ite ?_ ?_)
      | (with_reducible refine LeO.bind ?_ (fun _ => ?_))
      | exact ih0 _ _ _ _
      | exact ih1 _ _ _ _ _
      | exact LeO.none _
      | refine LeO.ite ?_ ?_
      | refine LeO.bind ?_ (fun _ => ?_)
    · intro y0 y1 y2 y3 y4
      unfold slices_insertionSortOrdered_int16.l1
      repeat' first
      | (with_reducible exact ih0 _ _ _ _)
      | (with_reducible exact ih1 _ _ _ _ _)
      | (with_reducible exact LeO.refl _)
      | (with_reducible exact LeO.none _)
      | (with_reducible refine LeO.ite ?_ ?_)
      | (with_reducible refine LeO.bind ?_ (fun _ => ?_))
      | exact ih0 _ _ _ _
      | exact ih1 _ _ _ _ _
      | exact LeO.none _
      | refine LeO.ite ?_ ?_
      | refine LeO.bind ?_ (fun _ => ?_)
theorem slices_insertionSortOrdered_int16.mono : ∀ a0 a1 a2 k, LeO (slices_insertionSortOrdered_int16.f k a0 a1 a2) (slices_insertionSortOrdered_int16.f (k + 1) a0 a1 a2) := by
  intro a0 a1 a2 k
  obtain ⟨ih0, ih1⟩ := slices_insertionSortOrdered_int16.mono_l k
  unfold slices_insertionSortOrdered_int16.f
  repeat' first
      | (with_reducible exact ih0 _ _ _ _)
      | (with_reducible exact ih1 _ _ _ _ _)
      | (with_reducible exact LeO.refl _)
      | (with_reducible exact LeO.none _)
      | (with_reducible refine LeO.ite ?_ ?_)
      | (with_reducible refine LeO.bind ?_ (fun _ => ?_))
      | exact ih0 _ _ _ _
      | exact ih1 _ _ _ _ _
      | exact LeO.none _
      | refine LeO.ite ?_ ?_
      | refine LeO.bind ?_ (fun _ => ?_)
def slices_insertionSortOrdered_int16.T4 : Bool × List (List Nat × List Nat) := (true, [([], []), ([], []), ([0, 1], [0, 1]), ([2], [2]), ([3], [3]), ([3], [3]), ([4, 5, 3], [3, 4, 5]), ([6, 3], [3, 6]), ([3], [3]), ([3], [3]), ([9, 3], [3, 9]), ([8, 10, 3], [3, 8, 10]), ([11, 3], [3, 11]), ([7, 12, 3, 3], [3, 7, 12]), ([3, 13], [3, 13])])
def slices_insertionSortOrdered_int16.B4 : List Nat := [0, 0, 3, 7, 15, 15, 63, 127, 15, 15, 527, 1807, 3855, 8191, 16383]
theorem slices_insertionSortOrdered_int16.tab4 : rtab .any (opsOf Try.f189 4) = slices_insertionSortOrdered_int16.T4 := by kernel_rfl
theorem slices_insertionSortOrdered_int16.bits4 : waitsOk slices_insertionSortOrdered_int16.T4.2 slices_insertionSortOrdered_int16.B4 = true := by kernel_rfl
def slices_insertionSortOrdered_int16.T6 : Bool × List (List Nat × List Nat) := (true, [([], []), ([], []), ([], []), ([], []), ([3], [3]), ([], []), ([], []), ([6], [6]), ([5, 7], [5, 7]), ([8], [8]), ([], []), ([], []), ([10, 11], [10, 11]), ([12], [12]), ([0, 1, 0, 1, 5, 6, 7, 8, 9, 13], [0, 1]), ([14, 9, 0, 1, 5, 6, 7, 8, 9, 13], [9, 14]), ([2, 4, 0, 1, 2, 3, 4, 5, 6, 7, 8, 9, 10, 11, 12, 13, 14, 15], [2, 4]), ([16, 13, 15, 0, 1, 2, 3, 4, 5, 6, 7, 8, 9, 10, 11, 12, 13, 14, 15], [13, 16])])
def slices_insertionSortOrdered_int16.B6 : List Nat := [0, 0, 0, 0, 8, 0, 0, 64, 224, 480, 0, 0, 3072, 7168, 16355, 32739, 65535, 131071]
theorem slices_insertionSortOrdered_int16.tab6 : rtab .any (opsOf Try.f189 6) = slices_insertionSortOrdered_int16.T6 := by kernel_rfl
theorem slices_insertionSortOrdered_int16.bits6 : waitsOk slices_insertionSortOrdered_int16.T6.2 slices_insertionSortOrdered_int16.B6 = true := by kernel_rfl
set_option maxHeartbeats 8000000 in
set_option maxRecDepth 100000 in
theorem slices_insertionSortOrdered_int16.calls (k : Nat) (P0_ : Nat → Prop) (u9000_ : Value) (l0 : List Int) (a1 : Int) (a2 : Int) (r : List Int) (w0 w : World) (hB : Below w0.heap.size w0 w) (ho0 : Kd.R (Kd.int .i16) 74 w w0.heap.size P0_ u9000_ l0) (h : slices_insertionSortOrdered_int16.f k l0 a1 a2 = some r) :
    Calls Try.prog 189 #[u9000_, .int .i64 a1, .int .i64 a2] w fun e w' => e = .returned (.tuple #[]) ∧ Kd.R (Kd.int .i16) 74 w' w0.heap.size (fun k_ => (P0_ k_ ∨ w.heap.size ≤ k_)) u9000_ r ∧ Below w0.heap.size w0 w' ∧ Kept w w' (fun k_ => P0_ k_) := by
  have HO0 := Aside0.mk (show Kd.R (Kd.int .i16) 74 w w0.heap.size (fun k_ => (P0_ k_ ∨ w.heap.size ≤ k_)) u9000_ l0 from Kd.R_mono ho0 (fun k_ hk => (.inl hk)))
  have HK := Aside0.mk (Kept.refl w (fun k_ => P0_ k_))
  have HW0 := Aside0.mk hB.size
  have HB := Aside0.mk hB
  clear hB
  have H : (slices_insertionSortOrdered_int16.l0 k l0 a1 a2 (wrap64 (a1 + 1))) = some r := h
  clear h
  have H' := Aside0.mk H
  clear H
  go_enter Try.func189, Try.ntmps189
  go_wp2
  go_loopg [6] k (fun kq v6 w' => ∃ (x0_1 : List Int) (x6_1 : Int), v6 = .int .i64 x6_1 ∧ Aside0 (slices_insertionSortOrdered_int16.l0 kq x0_1 a1 a2 x6_1 = some r) ∧ Aside0 (kq ≤ k) ∧ Aside0 (Kd.R (Kd.int .i16) 74 w' w0.heap.size (fun k_ => (P0_ k_ ∨ w.heap.size ≤ k_)) u9000_ x0_1) ∧ Aside0 (Kept w w' (fun k_ => P0_ k_)) ∧ Aside0 (Below w0.heap.size w0 w'))
  case atStart => exact ⟨(l0), (wrap64 (a1 + 1)), (by first | rfl | (simp; done) | (simp [*]; done)), H', ⟨Nat.le_refl _⟩, ⟨by (with_reducible repeat (first | apply Kd.R_alloc | apply Kd.R_drewN | apply Kd.R_drew)); exact HO0.out⟩, ⟨by repeat (first | (with_reducible first | exact HK.out | apply Kept.alloc | apply Kept.drewN | apply Kept.drew) | exact HK.out)⟩, ⟨by repeat (first | (with_reducible first | exact HB.out | apply below_alloc | apply pw_below_drewN | apply below_drew1) | exact HB.out)⟩⟩
  case round =>
    clear H'
    try clear c1
    try clear p2
    obtain ⟨x0_1, x6_1, rfl, HA, HK1, HO_0, HK, HB⟩ := hrel
    cases gk with
    | zero => exact absurd HA.out (by simp [slices_insertionSortOrdered_int16.l0])
    | succ k1 =>
      have H := HA.out
      clear HA
      simp only [slices_insertionSortOrdered_int16.l0] at H
      by_cases c4 : x6_1 < a2
      · rw [if_pos c4] at H
        have c4b0 : decide (x6_1 < a2) = true := decide_eq_true c4
        clear c4
        have H' := Aside0.mk H
        clear H
        go_wp2
        go_loopg [7] k1 (fun kq v7 w' => ∃ (x0_2 : List Int) (x7_2 : Int), v7 = .int .i64 x7_2 ∧ Aside0 (slices_insertionSortOrdered_int16.l1 kq x0_2 a1 a2 x6_1 x7_2 = some r) ∧ Aside0 (kq ≤ k1) ∧ Aside0 (Kd.R (Kd.int .i16) 74 w' w0.heap.size (fun k_ => (P0_ k_ ∨ w.heap.size ≤ k_)) u9000_ x0_2) ∧ Aside0 (Kept w w' (fun k_ => P0_ k_)) ∧ Aside0 (Below w0.heap.size w0 w'))
        case atStart => exact ⟨(x0_1), (x6_1), (by first | rfl | (simp; done) | (simp [*]; done)), H', ⟨Nat.le_refl _⟩, ⟨by (with_reducible repeat (first | apply Kd.R_alloc | apply Kd.R_drewN | apply Kd.R_drew)); exact HO_0.out⟩, ⟨by repeat (first | (with_reducible first | exact HK.out | apply Kept.alloc | apply Kept.drewN | apply Kept.drew) | exact HK.out)⟩, ⟨by repeat (first | (with_reducible first | exact HB.out | apply below_alloc | apply pw_below_drewN | apply below_drew1) | exact HB.out)⟩⟩
        case round =>
          clear H'
          try clear c1
          try clear p2
          try clear c4
          try clear c4b0
          try clear p2
          obtain ⟨x0_2, x7_2, rfl, HA, HK2, HO_0, HK, HB⟩ := hrel
          cases gk with
          | zero => exact absurd HA.out (by simp [slices_insertionSortOrdered_int16.l1])
          | succ k2 =>
            have H := HA.out
            clear HA
            simp only [slices_insertionSortOrdered_int16.l1] at H
            by_cases c5 : x7_2 > a1
            · rw [if_pos c5] at H
              have c5b0 : decide (a1 < x7_2) = true := decide_eq_true c5
              clear c5
              by_cases c6 : 0 ≤ x7_2
              · rw [if_pos c6] at H
                have c6b0 : decide (0 ≤ x7_2) = true := decide_eq_true c6
                clear c6
                by_cases c7 : x7_2 < (x0_2.length : Int)
                · rw [if_pos c7] at H
                  have c7b0 : decide (x7_2 < (x0_2.length : Int)) = true := decide_eq_true c7
                  clear c7
                  obtain ⟨ji8, hji8⟩ : ∃ j_ : Int, (wrap64 (x7_2 - 1)) = j_ := ⟨_, rfl⟩
                  replace H : (if 0 ≤ (ji8) then (if (ji8) < (x0_2.length : Int) then ((cmp_Less_int16.f (rd x0_2 x7_2) (rd x0_2 (ji8))).bind fun t843 => (if t843 = true then (slices_insertionSortOrdered_int16.l1 k2 ((x0_2.set (x7_2 : Int).toNat (rd x0_2 (ji8))).set ((ji8) : Int).toNat (rd x0_2 x7_2)) a1 a2 x6_1 ji8) else (slices_insertionSortOrdered_int16.l0 k2 x0_2 a1 a2 (wrap64 (x6_1 + 1))))) else (none)) else (none)) = some r := by first | (rw [hji8] at H; exact H) | (simp only [hji8] at H ⊢; exact H)
                  have hji8w : (IntKind.i64.wrap (x7_2 - 1)) = ji8 := (i64_w _).trans hji8
                  by_cases c9 : 0 ≤ (ji8)
                  · rw [if_pos c9] at H
                    have c9b0 : decide (0 ≤ (ji8)) = true := decide_eq_true c9
                    clear c9
                    by_cases c10 : (ji8) < (x0_2.length : Int)
                    · rw [if_pos c10] at H
                      have c10b0 : decide ((ji8) < (x0_2.length : Int)) = true := decide_eq_true c10
                      clear c10
                      replace H := Option.bind_eq_some_iff.mp H
                      obtain ⟨t843, A110, H⟩ := H
                      replace H : (if t843 = true then (slices_insertionSortOrdered_int16.l1 k2 ((x0_2.set (x7_2 : Int).toNat (rd x0_2 (ji8))).set ((ji8) : Int).toNat (rd x0_2 x7_2)) a1 a2 x6_1 ji8) else (slices_insertionSortOrdered_int16.l0 k2 x0_2 a1 a2 (wrap64 (x6_1 + 1)))) = some r := H
                      have A11 := Aside0.mk A110
                      clear A110
                      by_cases c12 : t843 = true
                      · subst c12
                        have H1 : (slices_insertionSortOrdered_int16.l1 k2 ((x0_2.set (x7_2 : Int).toNat (rd x0_2 (ji8))).set ((ji8) : Int).toNat (rd x0_2 x7_2)) a1 a2 x6_1 ji8) = some r := by first | (rw [if_pos rfl] at H; exact H) | (rw [if_pos trivial] at H; exact H)
                        clear H
                        have H := H1
                        clear H1
                        obtain ⟨y846, hy846⟩ : ∃ y_ : List Int, y_ = (x0_2.set (x7_2 : Int).toNat (rd x0_2 (ji8))) := ⟨_, rfl⟩
                        replace H : (slices_insertionSortOrdered_int16.l1 k2 (y846.set ((ji8) : Int).toNat (rd x0_2 x7_2)) a1 a2 x6_1 ji8) = some r := by first | (rw [hy846]; with_reducible exact H) | (have H2_ := (Option.bind_some _ _).symm.trans H; rw [hy846]; with_reducible exact H2_) | (have H2_ := (Option.bind_some _ _).symm.trans H; with_reducible exact H2_) | with_reducible exact H | (rw [hy846]; exact H) | exact H
                        have Ny846 := Aside0.mk hy846
                        clear hy846
                        obtain ⟨y847, hy847⟩ : ∃ y_ : List Int, y_ = (y846.set ((ji8) : Int).toNat (rd x0_2 x7_2)) := ⟨_, rfl⟩
                        replace H : (slices_insertionSortOrdered_int16.l1 k2 y847 a1 a2 x6_1 ji8) = some r := by first | (rw [hy847]; with_reducible exact H) | (have H2_ := (Option.bind_some _ _).symm.trans H; rw [hy847]; with_reducible exact H2_) | (have H2_ := (Option.bind_some _ _).symm.trans H; with_reducible exact H2_) | with_reducible exact H | (rw [hy847]; exact H) | exact H
                        have Ny847 := Aside0.mk hy847
                        clear hy847
                        have H' := Aside0.mk H
                        clear H
                        try go_wp2
                        have n0_ := Aside0.mk (Kd.R_drew HO_0.out)
                        have n1_ := Aside0.mk (Kept.drew HK.out)
                        have n2_ := Aside0.mk (below_drew1 HB.out)
                        clear HO_0
                        clear HK
                        clear HB
                        have HO_0 := n0_
                        have HK := n1_
                        have HB := n2_
                        clear n0_ n1_ n2_
                        obtain ⟨Ao16, co16, eo16⟩ := Kd.R_slice HO_0.out
                        (first | subst eo16 | (injection eo16 with f1_ f2_ f3_; have f4_ := f1_.symm; have f5_ := f3_.symm; clear f1_ f2_ f3_; subst f4_; subst f5_))
                        have p841 : 0 ≤ (x7_2 : Int) := of_decide_eq_true (by first | (with_reducible assumption) | assumption)
                        have q841 : x7_2 < (x0_2.length : Int) := of_decide_eq_true (by first | (with_reducible assumption) | assumption)
                        obtain ⟨ad841, e841, hx841_0⟩ := Kd.at_int (Kd.R_reads' HO_0.out).2.2 x7_2 p841 q841
                        cases e841
                        replace p841 := eq_true p841
                        replace q841 := eq_true q841
                        have p842 : 0 ≤ ((ji8) : Int) := of_decide_eq_true (by first | (with_reducible assumption) | assumption)
                        have q842 : (ji8) < (x0_2.length : Int) := of_decide_eq_true (by first | (with_reducible assumption) | assumption)
                        obtain ⟨ad842, e842, hx842_0⟩ := Kd.at_int (Kd.R_reads' HO_0.out).2.2 (ji8) p842 q842
                        obtain rfl : ad841 = ad842 := (by injection e842)
                        replace p842 := eq_true p842
                        replace q842 := eq_true q842
                        refine start_ (n := 15) (S := fun w' => w'.cell? (ad841.add (x7_2).toNat) = some (.int .i16 (rd x0_2 x7_2)) ∧ w'.cell? (ad841.add ((ji8)).toNat) = some (.int .i16 (rd x0_2 (ji8)))) (ds := []) #[false, false, false, false, false, false, false, false, false, false, false, false, false, false, false] (by kernel_rfl) rfl rfl ⟨hx841_0, hx842_0⟩ (fun hHeld => ?_); refine with_tabW slices_insertionSortOrdered_int16.tab4 slices_insertionSortOrdered_int16.bits4 (fun HT_ HW_ => ?_)
                        generalize wr.drew = w15 at HO_0 HK HB hx841_0 hx842_0 hHeld ⊢
                        refine pure_ (i := 0) (N := some 16) (v := ?_) (a' := ?_) #[true, false, false, false, false, false, false, false, false, false, false, false, false, false, false] rfl rfl (any_of HT_.out (by kernel_rfl)) (fun _ _ _ h => h) (Or.inl ⟨by rfl, ?_⟩) ?_ ?_
                        rotate_left
                        · intro w'
                          go_simp
                          with_reducible rfl
                        rotate_left
                        · simp only [Act.put, List.setIfInBounds_toArray, List.set_cons_zero, List.set_cons_succ, i64_w, i32_w]
                          rfl
                        refine pure_ (i := 1) (N := some 17) (v := ?_) (a' := ?_) #[true, true, false, false, false, false, false, false, false, false, false, false, false, false, false] rfl rfl (any_of HT_.out (by kernel_rfl)) (fun _ _ _ h => h) (Or.inl ⟨by rfl, ?_⟩) ?_ ?_
                        rotate_left
                        · intro w'
                          go_simp
                          with_reducible rfl
                        rotate_left
                        · simp only [Act.put, List.setIfInBounds_toArray, List.set_cons_zero, List.set_cons_succ, i64_w, i32_w]
                          rfl
                        refine pure_ (i := 2) (N := some 18) (v := ?_) (a' := ?_) #[true, true, true, false, false, false, false, false, false, false, false, false, false, false, false] rfl rfl (any_of HT_.out (by kernel_rfl)) (fun _ _ _ h => h) (Or.inl ⟨by rfl, ?_⟩) ?_ ?_
                        rotate_left
                        · intro w'
                          go_simp
                          with_reducible rfl
                        rotate_left
                        · simp only [Act.put, List.setIfInBounds_toArray, List.set_cons_zero, List.set_cons_succ, i64_w, i32_w]
                          rfl
                        refine pure_ (i := 3) (N := some 19) (v := ?_) (a' := ?_) #[true, true, true, true, false, false, false, false, false, false, false, false, false, false, false] rfl rfl (any_of HT_.out (by kernel_rfl)) (fun _ _ _ h => h) (Or.inl ⟨by rfl, ?_⟩) ?_ ?_
                        rotate_left
                        · intro w'
                          go_simp
                          with_reducible rfl
                        rotate_left
                        · simp only [Act.put, List.setIfInBounds_toArray, List.set_cons_zero, List.set_cons_succ, i64_w, i32_w]
                          rfl
                        refine pure_ (i := 4) (N := some 20) (v := ?_) (a' := ?_) #[true, true, true, true, true, false, false, false, false, false, false, false, false, false, false] rfl rfl (any_of HT_.out (by kernel_rfl)) (fun _ _ _ h => h) (Or.inl ⟨by rfl, ?_⟩) ?_ ?_
                        rotate_left
                        · intro w'
                          go_simp
                          with_reducible rfl
                        rotate_left
                        · simp only [Act.put, List.setIfInBounds_toArray, List.set_cons_zero, List.set_cons_succ, i64_w, i32_w]
                          rfl
                        refine pure_ (i := 5) (N := some 21) (v := ?_) (a' := ?_) #[true, true, true, true, true, true, false, false, false, false, false, false, false, false, false] rfl rfl (any_of HT_.out (by kernel_rfl)) (fun _ _ _ h => h) (Or.inl ⟨by rfl, ?_⟩) ?_ ?_
                        rotate_left
                        · intro w'
                          go_simp
                          with_reducible rfl
                        rotate_left
                        · simp only [Act.put, List.setIfInBounds_toArray, List.set_cons_zero, List.set_cons_succ, i64_w, i32_w]
                          rfl
                        refine pure_ (i := 6) (N := some 22) (v := ?_) (a' := ?_) #[true, true, true, true, true, true, true, false, false, false, false, false, false, false, false] rfl rfl (any_of HT_.out (by kernel_rfl)) (fun _ _ _ h => h) (Or.inl ⟨by rfl, ?_⟩) ?_ ?_
                        rotate_left
                        · intro w'
                          go_simp
                          with_reducible rfl
                        rotate_left
                        · simp only [Act.put, List.setIfInBounds_toArray, List.set_cons_zero, List.set_cons_succ, i64_w, i32_w]
                          rfl
                        refine pure_ (i := 8) (N := some 24) (v := ?_) (a' := ?_) #[true, true, true, true, true, true, true, false, true, false, false, false, false, false, false] rfl rfl (any_of HT_.out (by kernel_rfl)) (fun _ _ _ h => h) (Or.inl ⟨by rfl, ?_⟩) ?_ ?_
                        rotate_left
                        · intro w'
                          go_simp
                          with_reducible rfl
                        rotate_left
                        · simp only [Act.put, List.setIfInBounds_toArray, List.set_cons_zero, List.set_cons_succ, i64_w, i32_w]
                          rfl
                        refine pure_ (i := 9) (N := some 25) (v := ?_) (a' := ?_) #[true, true, true, true, true, true, true, false, true, true, false, false, false, false, false] rfl rfl (any_of HT_.out (by kernel_rfl)) (fun _ _ _ h => h) (Or.inl ⟨by rfl, ?_⟩) ?_ ?_
                        rotate_left
                        · intro w'
                          go_simp
                          with_reducible rfl
                        rotate_left
                        · simp only [Act.put, List.setIfInBounds_toArray, List.set_cons_zero, List.set_cons_succ, i64_w, i32_w]
                          rfl
                        refine pure_ (i := 10) (N := some 26) (v := ?_) (a' := ?_) #[true, true, true, true, true, true, true, false, true, true, true, false, false, false, false] rfl rfl (any_of HT_.out (by kernel_rfl)) (fun _ _ _ h => h) (Or.inl ⟨by rfl, ?_⟩) ?_ ?_
                        rotate_left
                        · intro w'
                          go_simp
                          with_reducible rfl
                        rotate_left
                        · simp only [Act.put, List.setIfInBounds_toArray, List.set_cons_zero, List.set_cons_succ, i64_w, i32_w]
                          rfl
                        refine pure_ (i := 11) (N := some 27) (v := ?_) (a' := ?_) #[true, true, true, true, true, true, true, false, true, true, true, true, false, false, false] rfl rfl (any_of HT_.out (by kernel_rfl)) (fun _ _ _ h => h) (Or.inl ⟨by rfl, ?_⟩) ?_ ?_
                        rotate_left
                        · intro w'
                          go_simp
                          with_reducible rfl
                        rotate_left
                        · simp only [Act.put, List.setIfInBounds_toArray, List.set_cons_zero, List.set_cons_succ, i64_w, i32_w]
                          rfl
                        refine take_ (i := 7) (N := some 23) (v := ?_) (a' := ?_) #[true, true, true, true, true, true, true, true, true, true, true, true, false, false, false] rfl rfl (take_ofW HT_.out HW_.out (by kernel_rfl)) (fun _ _ _ h => h) (Or.inl ⟨by rfl, ?_⟩) hHeld ?_ ?_
                        rotate_left
                        · rintro w' ⟨s0, s1⟩
                          go_simp
                          with_reducible rfl
                        rotate_left
                        · simp only [Act.put, List.setIfInBounds_toArray, List.set_cons_zero, List.set_cons_succ, i64_w, i32_w]
                          rfl
                        refine take_ (i := 12) (N := some 28) (v := ?_) (a' := ?_) #[true, true, true, true, true, true, true, true, true, true, true, true, true, false, false] rfl rfl (take_ofW HT_.out HW_.out (by kernel_rfl)) (fun _ _ _ h => h) (Or.inl ⟨by rfl, ?_⟩) hHeld ?_ ?_
                        rotate_left
                        · rintro w' ⟨s0, s1⟩
                          go_simp
                          with_reducible rfl
                        rotate_left
                        · simp only [Act.put, List.setIfInBounds_toArray, List.set_cons_zero, List.set_cons_succ, i64_w, i32_w]
                          rfl
                        refine one_ (i := 13) (N := some 29) #[true, true, true, true, true, true, true, true, true, true, true, true, true, true, false] rfl rfl (one_of HT_.out (by kernel_rfl)) (by decide) (fun K hK => ?_)
                        refine goes_ Try.func163 (by kernel_rfl) rfl #[.int .i16 (rd x0_2 x7_2), .int .i16 (rd x0_2 (ji8))] (by rfl) rfl rfl (by (try simp only [List.map_toArray, List.map_cons, List.map_nil]); first | done | (simp only [hji8]; rfl) | rfl | (simp only [List.length_drop, List.length_take]; rfl)) ?_
                        with_reducible refine (cmp_Less_int16.calls (rd x0_2 x7_2) (rd x0_2 (ji8)) true _ A11.out).mono ?_
                        rintro e w' ⟨rfl, ⟨nd, rfl⟩⟩
                        refine ⟨_, rfl, ?_⟩
                        refine hK.out _ _ ⟨hHeld.1, hHeld.2⟩ (fun hHeld => ?_)
                        clear hK K
                        refine norm_ (a' := ?_) ?_ ?_
                        rotate_left
                        · show Act.put _ (some 29) _ = _
                          simp only [Act.put, List.setIfInBounds_toArray, List.set_cons_zero, List.set_cons_succ, i64_w, i32_w]
                          rfl
                        refine pure_ (i := 14) (N := some 30) (v := ?_) (a' := ?_) #[true, true, true, true, true, true, true, true, true, true, true, true, true, true, true] rfl rfl (any_of HT_.out (by kernel_rfl)) (fun _ _ _ h => h) (Or.inl ⟨by rfl, ?_⟩) ?_ ?_
                        rotate_left
                        · intro w'
                          go_simp
                          with_reducible rfl
                        rotate_left
                        · simp only [Act.put, List.setIfInBounds_toArray, List.set_cons_zero, List.set_cons_succ, i64_w, i32_w]
                          rfl
                        refine done_ (done_of HT_.out (by kernel_rfl)) ?_
                        try go_wp2
                        (try (rw [drewN_self w15]; generalize hq_ : World.drewN w15 _ = w15; have n0_ : Aside0 (Kd.R (Kd.int .i16) 74 w15 w0.heap.size (fun k_ => (P0_ k_ ∨ w.heap.size ≤ k_)) (.slice (some ad841) x0_2.length co16) x0_2) := ⟨by rw [← hq_]; exact (by (with_reducible repeat (first | apply Kd.R_alloc | apply Kd.R_drewN | apply Kd.R_drew)); exact HO_0.out)⟩; have n1_ : Aside0 (Kept w w15 (fun k_ => P0_ k_)) := ⟨by rw [← hq_]; exact (by repeat (first | (with_reducible first | exact HK.out | apply Kept.alloc | apply Kept.drewN | apply Kept.drew) | exact HK.out))⟩; have n2_ : Aside0 (Below w0.heap.size w0 w15) := ⟨by rw [← hq_]; exact (by repeat (first | (with_reducible first | exact HB.out | apply below_alloc | apply pw_below_drewN | apply below_drew1) | exact HB.out))⟩; clear HO_0 HK HB hq_; have HO_0 := n0_; have HK := n1_; have HB := n2_; clear n0_ n1_ n2_))
                        have n0_ := Aside0.mk (Kd.R_drew HO_0.out)
                        have n1_ := Aside0.mk (Kept.drew HK.out)
                        have n2_ := Aside0.mk (below_drew1 HB.out)
                        clear HO_0
                        clear HK
                        clear HB
                        have HO_0 := n0_
                        have HK := n1_
                        have HB := n2_
                        clear n0_ n1_ n2_
                        have p844 : 0 ≤ ((ji8) : Int) := of_decide_eq_true (by first | (with_reducible assumption) | assumption)
                        have q844 : (ji8) < (x0_2.length : Int) := of_decide_eq_true (by first | (with_reducible assumption) | assumption)
                        obtain ⟨ad844, e844, hx844_0⟩ := Kd.at_int (Kd.R_reads' HO_0.out).2.2 (ji8) p844 q844
                        obtain rfl : ad841 = ad844 := (by injection e844)
                        replace p844 := eq_true p844
                        replace q844 := eq_true q844
                        have p845 : 0 ≤ (x7_2 : Int) := of_decide_eq_true (by first | (with_reducible assumption) | assumption)
                        have q845 : x7_2 < (x0_2.length : Int) := of_decide_eq_true (by first | (with_reducible assumption) | assumption)
                        obtain ⟨ad845, e845, hx845_0⟩ := Kd.at_int (Kd.R_reads' HO_0.out).2.2 x7_2 p845 q845
                        obtain rfl : ad841 = ad845 := (by injection e845)
                        replace p845 := eq_true p845
                        replace q845 := eq_true q845
                        have p13 : 0 ≤ (x7_2 : Int) := of_decide_eq_true (by first | (with_reducible assumption) | assumption)
                        have q13 : (x7_2 : Int) < ((x0_2.length : Int) : Int) := of_decide_eq_true (by first | (with_reducible assumption) | assumption)
                        obtain ⟨go13, co13, eo13, gb13, gl13, cl13, HG13⟩ := Kd.R_form HO_0.out (by omega)
                        (first | cases eo13 | (injection eo13 with ea_ en_ ec_; (first | subst ea_ | (injection ea_ with ea_; subst ea_)); subst ec_; clear en_))
                        have GB13 := Aside0.mk gb13
                        have GG13 := Aside0.mk HG13
                        clear gb13 gl13 HG13
                        have HMgo13 := Aside0.mk (show (P0_ go13 ∨ w.heap.size ≤ go13) from (HO_0.out.1 _ rfl))
                        (first | simp only [add_plain] at hx841_0 | skip)
                        (first | simp only [add_plain] at hx842_0 | skip)
                        (first | simp only [add_plain] at hx844_0 | skip)
                        (first | simp only [add_plain] at hx845_0 | skip)
                        obtain ⟨hx13_0, hf13_0⟩ := Kd.R_celln 0 HO_0.out (x7_2 : Int) p13 q13
                        replace p13 := eq_true p13
                        replace q13 := eq_true q13
                        have HP18 := Kd.R_putn HO_0.out (x7_2 : Int) (rd x0_2 (ji8))
                        rw [← Ny846.out] at HP18
                        have HQ18 := Aside0.mk HP18
                        clear HP18
                        have p14 : 0 ≤ ((ji8) : Int) := of_decide_eq_true (by first | (with_reducible assumption) | assumption)
                        have q14 : ((ji8) : Int) < ((x0_2.length : Int) : Int) := of_decide_eq_true (by first | (with_reducible assumption) | assumption)
                        obtain ⟨hx14_0, hf14_0⟩ := Kd.R_celln 0 HQ18.out ((ji8) : Int) p14 q14
                        replace p14 := eq_true p14
                        replace q14 := eq_true q14
                        have HP19 := Kd.R_putn HQ18.out ((ji8) : Int) (rd x0_2 x7_2)
                        rw [← Ny847.out] at HP19
                        have HQ19 := Aside0.mk HP19
                        clear HP19
                        refine start_ (n := 18) (S := fun w' => w'.cell? ⟨go13, ((ji8)).toNat, none⟩ = some (.int .i16 (rd x0_2 (ji8))) ∧ w'.cell? ⟨go13, (x7_2).toNat, none⟩ = some (.int .i16 (rd x0_2 x7_2))) (ds := [15, 17]) #[false, false, false, false, false, false, false, false, false, false, false, false, false, false, false, false, false, false] (by kernel_rfl) rfl rfl ⟨hx844_0, hx845_0⟩ (fun hHeld => ?_); refine with_tabW slices_insertionSortOrdered_int16.tab6 slices_insertionSortOrdered_int16.bits6 (fun HT_ HW_ => ?_)
                        generalize w15.drew = w17 at HO_0 HK HB GG13 HQ18 HQ19 hf13_0 hf14_0 hx13_0 hx14_0 hx841_0 hx842_0 hx844_0 hx845_0 hHeld ⊢
                        refine pure_ (i := 0) (N := some 33) (v := ?_) (a' := ?_) #[true, false, false, false, false, false, false, false, false, false, false, false, false, false, false, false, false, false] rfl rfl (any_of HT_.out (by kernel_rfl)) (fun _ _ _ h => h) (Or.inl ⟨by rfl, ?_⟩) ?_ ?_
                        rotate_left
                        · intro w'
                          go_simp
                          with_reducible rfl
                        rotate_left
                        · simp only [Act.put, List.setIfInBounds_toArray, List.set_cons_zero, List.set_cons_succ, i64_w, i32_w]
                          rfl
                        refine pure_ (i := 1) (N := some 34) (v := ?_) (a' := ?_) #[true, true, false, false, false, false, false, false, false, false, false, false, false, false, false, false, false, false] rfl rfl (any_of HT_.out (by kernel_rfl)) (fun _ _ _ h => h) (Or.inl ⟨by rfl, ?_⟩) ?_ ?_
                        rotate_left
                        · intro w'
                          go_simp
                          with_reducible rfl
                        rotate_left
                        · simp only [Act.put, List.setIfInBounds_toArray, List.set_cons_zero, List.set_cons_succ, i64_w, i32_w]
                          rfl
                        refine pure_ (i := 2) (N := some 35) (v := ?_) (a' := ?_) #[true, true, true, false, false, false, false, false, false, false, false, false, false, false, false, false, false, false] rfl rfl (any_of HT_.out (by kernel_rfl)) (fun _ _ _ h => h) (Or.inl ⟨by rfl, ?_⟩) ?_ ?_
                        rotate_left
                        · intro w'
                          go_simp
                          with_reducible rfl
                        rotate_left
                        · simp only [Act.put, List.setIfInBounds_toArray, List.set_cons_zero, List.set_cons_succ, i64_w, i32_w]
                          rfl
                        refine pure_ (i := 3) (N := some 36) (v := ?_) (a' := ?_) #[true, true, true, true, false, false, false, false, false, false, false, false, false, false, false, false, false, false] rfl rfl (any_of HT_.out (by kernel_rfl)) (fun _ _ _ h => h) (Or.inl ⟨by rfl, ?_⟩) ?_ ?_
                        rotate_left
                        · intro w'
                          go_simp
                          with_reducible rfl
                        rotate_left
                        · simp only [Act.put, List.setIfInBounds_toArray, List.set_cons_zero, List.set_cons_succ, i64_w, i32_w]
                          rfl
                        refine pure_ (i := 4) (N := some 37) (v := ?_) (a' := ?_) #[true, true, true, true, true, false, false, false, false, false, false, false, false, false, false, false, false, false] rfl rfl (any_of HT_.out (by kernel_rfl)) (fun _ _ _ h => h) (Or.inl ⟨by rfl, ?_⟩) ?_ ?_
                        rotate_left
                        · intro w'
                          go_simp
                          with_reducible rfl
                        rotate_left
                        · simp only [Act.put, List.setIfInBounds_toArray, List.set_cons_zero, List.set_cons_succ, i64_w, i32_w]
                          rfl
                        refine pure_ (i := 5) (N := some 38) (v := ?_) (a' := ?_) #[true, true, true, true, true, true, false, false, false, false, false, false, false, false, false, false, false, false] rfl rfl (any_of HT_.out (by kernel_rfl)) (fun _ _ _ h => h) (Or.inl ⟨by rfl, ?_⟩) ?_ ?_
                        rotate_left
                        · intro w'
                          go_simp
                          with_reducible rfl
                        rotate_left
                        · simp only [Act.put, List.setIfInBounds_toArray, List.set_cons_zero, List.set_cons_succ, i64_w, i32_w]
                          rfl
                        refine pure_ (i := 6) (N := some 39) (v := ?_) (a' := ?_) #[true, true, true, true, true, true, true, false, false, false, false, false, false, false, false, false, false, false] rfl rfl (any_of HT_.out (by kernel_rfl)) (fun _ _ _ h => h) (Or.inl ⟨by rfl, ?_⟩) ?_ ?_
                        rotate_left
                        · intro w'
                          go_simp
                          with_reducible rfl
                        rotate_left
                        · simp only [Act.put, List.setIfInBounds_toArray, List.set_cons_zero, List.set_cons_succ, i64_w, i32_w]
                          rfl
                        refine pure_ (i := 7) (N := some 40) (v := ?_) (a' := ?_) #[true, true, true, true, true, true, true, true, false, false, false, false, false, false, false, false, false, false] rfl rfl (any_of HT_.out (by kernel_rfl)) (fun _ _ _ h => h) (Or.inl ⟨by rfl, ?_⟩) ?_ ?_
                        rotate_left
                        · intro w'
                          go_simp
                          with_reducible rfl
                        rotate_left
                        · simp only [Act.put, List.setIfInBounds_toArray, List.set_cons_zero, List.set_cons_succ, i64_w, i32_w]
                          rfl
                        refine pure_ (i := 8) (N := some 41) (v := ?_) (a' := ?_) #[true, true, true, true, true, true, true, true, true, false, false, false, false, false, false, false, false, false] rfl rfl (any_of HT_.out (by kernel_rfl)) (fun _ _ _ h => h) (Or.inl ⟨by rfl, ?_⟩) ?_ ?_
                        rotate_left
                        · intro w'
                          go_simp
                          with_reducible rfl
                        rotate_left
                        · simp only [Act.put, List.setIfInBounds_toArray, List.set_cons_zero, List.set_cons_succ, i64_w, i32_w]
                          rfl
                        refine pure_ (i := 10) (N := some 43) (v := ?_) (a' := ?_) #[true, true, true, true, true, true, true, true, true, false, true, false, false, false, false, false, false, false] rfl rfl (any_of HT_.out (by kernel_rfl)) (fun _ _ _ h => h) (Or.inl ⟨by rfl, ?_⟩) ?_ ?_
                        rotate_left
                        · intro w'
                          go_simp
                          with_reducible rfl
                        rotate_left
                        · simp only [Act.put, List.setIfInBounds_toArray, List.set_cons_zero, List.set_cons_succ, i64_w, i32_w]
                          rfl
                        refine pure_ (i := 11) (N := some 44) (v := ?_) (a' := ?_) #[true, true, true, true, true, true, true, true, true, false, true, true, false, false, false, false, false, false] rfl rfl (any_of HT_.out (by kernel_rfl)) (fun _ _ _ h => h) (Or.inl ⟨by rfl, ?_⟩) ?_ ?_
                        rotate_left
                        · intro w'
                          go_simp
                          with_reducible rfl
                        rotate_left
                        · simp only [Act.put, List.setIfInBounds_toArray, List.set_cons_zero, List.set_cons_succ, i64_w, i32_w]
                          rfl
                        refine pure_ (i := 12) (N := some 45) (v := ?_) (a' := ?_) #[true, true, true, true, true, true, true, true, true, false, true, true, true, false, false, false, false, false] rfl rfl (any_of HT_.out (by kernel_rfl)) (fun _ _ _ h => h) (Or.inl ⟨by rfl, ?_⟩) ?_ ?_
                        rotate_left
                        · intro w'
                          go_simp
                          with_reducible rfl
                        rotate_left
                        · simp only [Act.put, List.setIfInBounds_toArray, List.set_cons_zero, List.set_cons_succ, i64_w, i32_w]
                          rfl
                        refine take_ (i := 9) (N := some 42) (v := ?_) (a' := ?_) #[true, true, true, true, true, true, true, true, true, true, true, true, true, false, false, false, false, false] rfl rfl (take_ofW HT_.out HW_.out (by kernel_rfl)) (fun _ _ _ h => h) (Or.inl ⟨by rfl, ?_⟩) hHeld ?_ ?_
                        rotate_left
                        · rintro w' ⟨s0, s1⟩
                          go_simp
                          with_reducible rfl
                        rotate_left
                        · simp only [Act.put, List.setIfInBounds_toArray, List.set_cons_zero, List.set_cons_succ, i64_w, i32_w]
                          rfl
                        refine take_ (i := 13) (N := some 46) (v := ?_) (a' := ?_) #[true, true, true, true, true, true, true, true, true, true, true, true, true, true, false, false, false, false] rfl rfl (take_ofW HT_.out HW_.out (by kernel_rfl)) (fun _ _ _ h => h) (Or.inl ⟨by rfl, ?_⟩) hHeld ?_ ?_
                        rotate_left
                        · rintro w' ⟨s0, s1⟩
                          go_simp
                          with_reducible rfl
                        rotate_left
                        · simp only [Act.put, List.setIfInBounds_toArray, List.set_cons_zero, List.set_cons_succ, i64_w, i32_w]
                          rfl
                        refine pure_ (i := 14) (N := some 47) (v := ?_) (a' := ?_) #[true, true, true, true, true, true, true, true, true, true, true, true, true, true, true, false, false, false] rfl rfl (any_of HT_.out (by kernel_rfl)) (fun _ _ _ h => h) (Or.inl ⟨by rfl, ?_⟩) ?_ ?_
                        rotate_left
                        · intro w'
                          go_simp
                          with_reducible rfl
                        rotate_left
                        · simp only [Act.put, List.setIfInBounds_toArray, List.set_cons_zero, List.set_cons_succ, i64_w, i32_w]
                          rfl
                        refine last_ (i := 15) (N := none) #[true, true, true, true, true, true, true, true, true, true, true, true, true, true, true, true, false, false] rfl rfl (one_of HT_.out (by kernel_rfl)) (by decide) (fun K hK => ?_)
                        refine skip_ (w1 := ?_) (by rfl) rfl ?_ ?_
                        rotate_left
                        · go_simp
                          rfl
                        refine hK.out _ _ ?_
                        clear hK K
                        refine pure_ (i := 16) (N := some 48) (v := ?_) (a' := ?_) #[true, true, true, true, true, true, true, true, true, true, true, true, true, true, true, true, true, false] rfl rfl (any_of HT_.out (by kernel_rfl)) (fun _ _ _ h => h) (Or.inl ⟨by rfl, ?_⟩) ?_ ?_
                        rotate_left
                        · intro w'
                          go_simp
                          with_reducible rfl
                        rotate_left
                        · simp only [Act.put, List.setIfInBounds_toArray, List.set_cons_zero, List.set_cons_succ, i64_w, i32_w]
                          rfl
                        refine last_ (i := 17) (N := none) #[true, true, true, true, true, true, true, true, true, true, true, true, true, true, true, true, true, true] rfl rfl (one_of HT_.out (by kernel_rfl)) (by decide) (fun K hK => ?_)
                        refine skip_ (w1 := ?_) (by rfl) rfl ?_ ?_
                        rotate_left
                        · go_simp
                          rfl
                        refine hK.out _ _ ?_
                        clear hK K
                        refine done_ (done_of HT_.out (by kernel_rfl)) ?_
                        try go_wp2
                        first | go_roundg k2 | (simp only [← hji8]; go_roundg k2)
                        case measure => have := HK1.out; have := HK2.out; omega
                        case rel => exact ⟨(y847), (ji8), (by first | rfl | (simp; done) | (simp only [← hji8] <;> (first | rfl | simp)) | (simp [*]; done)), (by first | exact H' | (rw [hji8]; exact H')), ⟨by have := HK1.out; have := HK2.out; omega⟩, ⟨by (with_reducible repeat (first | apply Kd.R_alloc | apply Kd.R_drewN | apply Kd.R_drew)); exact HQ19.out⟩, ⟨by repeat (first | (with_reducible first | exact HK.out | apply Kept.alloc | apply Kept.drewN | apply Kept.drew | refine Kept.setCell ?_ HMgo13.out _ | refine Kept.setCell ?_ HMgo13.out _) | exact HK.out)⟩, ⟨by repeat (first | (with_reducible first | exact HB.out | apply below_alloc | apply pw_below_drewN | apply below_drew1 | refine below_set ?_ GB13.out | refine below_set ?_ GB13.out) | exact HB.out)⟩⟩
                      · replace c12 := Bool.eq_false_iff.mpr c12
                        subst c12
                        have H1 : (slices_insertionSortOrdered_int16.l0 k2 x0_2 a1 a2 (wrap64 (x6_1 + 1))) = some r := by rw [if_neg (show ¬ (false = true) by decide)] at H; exact H
                        clear H
                        have H := H1
                        clear H1
                        have H' := Aside0.mk H
                        clear H
                        try go_wp2
                        have n0_ := Aside0.mk (Kd.R_drew HO_0.out)
                        have n1_ := Aside0.mk (Kept.drew HK.out)
                        have n2_ := Aside0.mk (below_drew1 HB.out)
                        clear HO_0
                        clear HK
                        clear HB
                        have HO_0 := n0_
                        have HK := n1_
                        have HB := n2_
                        clear n0_ n1_ n2_
                        obtain ⟨Ao21, co21, eo21⟩ := Kd.R_slice HO_0.out
                        (first | subst eo21 | (injection eo21 with f1_ f2_ f3_; have f4_ := f1_.symm; have f5_ := f3_.symm; clear f1_ f2_ f3_; subst f4_; subst f5_))
                        have p841 : 0 ≤ (x7_2 : Int) := of_decide_eq_true (by first | (with_reducible assumption) | assumption)
                        have q841 : x7_2 < (x0_2.length : Int) := of_decide_eq_true (by first | (with_reducible assumption) | assumption)
                        obtain ⟨ad841, e841, hx841_0⟩ := Kd.at_int (Kd.R_reads' HO_0.out).2.2 x7_2 p841 q841
                        cases e841
                        replace p841 := eq_true p841
                        replace q841 := eq_true q841
                        have p842 : 0 ≤ ((ji8) : Int) := of_decide_eq_true (by first | (with_reducible assumption) | assumption)
                        have q842 : (ji8) < (x0_2.length : Int) := of_decide_eq_true (by first | (with_reducible assumption) | assumption)
                        obtain ⟨ad842, e842, hx842_0⟩ := Kd.at_int (Kd.R_reads' HO_0.out).2.2 (ji8) p842 q842
                        obtain rfl : ad841 = ad842 := (by injection e842)
                        replace p842 := eq_true p842
                        replace q842 := eq_true q842
                        refine start_ (n := 15) (S := fun w' => w'.cell? (ad841.add (x7_2).toNat) = some (.int .i16 (rd x0_2 x7_2)) ∧ w'.cell? (ad841.add ((ji8)).toNat) = some (.int .i16 (rd x0_2 (ji8)))) (ds := []) #[false, false, false, false, false, false, false, false, false, false, false, false, false, false, false] (by kernel_rfl) rfl rfl ⟨hx841_0, hx842_0⟩ (fun hHeld => ?_); refine with_tabW slices_insertionSortOrdered_int16.tab4 slices_insertionSortOrdered_int16.bits4 (fun HT_ HW_ => ?_)
                        generalize wr.drew = w20 at HO_0 HK HB hx841_0 hx842_0 hHeld ⊢
                        refine pure_ (i := 0) (N := some 16) (v := ?_) (a' := ?_) #[true, false, false, false, false, false, false, false, false, false, false, false, false, false, false] rfl rfl (any_of HT_.out (by kernel_rfl)) (fun _ _ _ h => h) (Or.inl ⟨by rfl, ?_⟩) ?_ ?_
                        rotate_left
                        · intro w'
                          go_simp
                          with_reducible rfl
                        rotate_left
                        · simp only [Act.put, List.setIfInBounds_toArray, List.set_cons_zero, List.set_cons_succ, i64_w, i32_w]
                          rfl
                        refine pure_ (i := 1) (N := some 17) (v := ?_) (a' := ?_) #[true, true, false, false, false, false, false, false, false, false, false, false, false, false, false] rfl rfl (any_of HT_.out (by kernel_rfl)) (fun _ _ _ h => h) (Or.inl ⟨by rfl, ?_⟩) ?_ ?_
                        rotate_left
                        · intro w'
                          go_simp
                          with_reducible rfl
                        rotate_left
                        · simp only [Act.put, List.setIfInBounds_toArray, List.set_cons_zero, List.set_cons_succ, i64_w, i32_w]
                          rfl
                        refine pure_ (i := 2) (N := some 18) (v := ?_) (a' := ?_) #[true, true, true, false, false, false, false, false, false, false, false, false, false, false, false] rfl rfl (any_of HT_.out (by kernel_rfl)) (fun _ _ _ h => h) (Or.inl ⟨by rfl, ?_⟩) ?_ ?_
                        rotate_left
                        · intro w'
                          go_simp
                          with_reducible rfl
                        rotate_left
                        · simp only [Act.put, List.setIfInBounds_toArray, List.set_cons_zero, List.set_cons_succ, i64_w, i32_w]
                          rfl
                        refine pure_ (i := 3) (N := some 19) (v := ?_) (a' := ?_) #[true, true, true, true, false, false, false, false, false, false, false, false, false, false, false] rfl rfl (any_of HT_.out (by kernel_rfl)) (fun _ _ _ h => h) (Or.inl ⟨by rfl, ?_⟩) ?_ ?_
                        rotate_left
                        · intro w'
                          go_simp
                          with_reducible rfl
                        rotate_left
                        · simp only [Act.put, List.setIfInBounds_toArray, List.set_cons_zero, List.set_cons_succ, i64_w, i32_w]
                          rfl
                        refine pure_ (i := 4) (N := some 20) (v := ?_) (a' := ?_) #[true, true, true, true, true, false, false, false, false, false, false, false, false, false, false] rfl rfl (any_of HT_.out (by kernel_rfl)) (fun _ _ _ h => h) (Or.inl ⟨by rfl, ?_⟩) ?_ ?_
                        rotate_left
                        · intro w'
                          go_simp
                          with_reducible rfl
                        rotate_left
                        · simp only [Act.put, List.setIfInBounds_toArray, List.set_cons_zero, List.set_cons_succ, i64_w, i32_w]
                          rfl
                        refine pure_ (i := 5) (N := some 21) (v := ?_) (a' := ?_) #[true, true, true, true, true, true, false, false, false, false, false, false, false, false, false] rfl rfl (any_of HT_.out (by kernel_rfl)) (fun _ _ _ h => h) (Or.inl ⟨by rfl, ?_⟩) ?_ ?_
                        rotate_left
                        · intro w'
                          go_simp
                          with_reducible rfl
                        rotate_left
                        · simp only [Act.put, List.setIfInBounds_toArray, List.set_cons_zero, List.set_cons_succ, i64_w, i32_w]
                          rfl
                        refine pure_ (i := 6) (N := some 22) (v := ?_) (a' := ?_) #[true, true, true, true, true, true, true, false, false, false, false, false, false, false, false] rfl rfl (any_of HT_.out (by kernel_rfl)) (fun _ _ _ h => h) (Or.inl ⟨by rfl, ?_⟩) ?_ ?_
                        rotate_left
                        · intro w'
                          go_simp
                          with_reducible rfl
                        rotate_left
                        · simp only [Act.put, List.setIfInBounds_toArray, List.set_cons_zero, List.set_cons_succ, i64_w, i32_w]
                          rfl
                        refine pure_ (i := 8) (N := some 24) (v := ?_) (a' := ?_) #[true, true, true, true, true, true, true, false, true, false, false, false, false, false, false] rfl rfl (any_of HT_.out (by kernel_rfl)) (fun _ _ _ h => h) (Or.inl ⟨by rfl, ?_⟩) ?_ ?_
                        rotate_left
                        · intro w'
                          go_simp
                          with_reducible rfl
                        rotate_left
                        · simp only [Act.put, List.setIfInBounds_toArray, List.set_cons_zero, List.set_cons_succ, i64_w, i32_w]
                          rfl
                        refine pure_ (i := 9) (N := some 25) (v := ?_) (a' := ?_) #[true, true, true, true, true, true, true, false, true, true, false, false, false, false, false] rfl rfl (any_of HT_.out (by kernel_rfl)) (fun _ _ _ h => h) (Or.inl ⟨by rfl, ?_⟩) ?_ ?_
                        rotate_left
                        · intro w'
                          go_simp
                          with_reducible rfl
                        rotate_left
                        · simp only [Act.put, List.setIfInBounds_toArray, List.set_cons_zero, List.set_cons_succ, i64_w, i32_w]
                          rfl
                        refine pure_ (i := 10) (N := some 26) (v := ?_) (a' := ?_) #[true, true, true, true, true, true, true, false, true, true, true, false, false, false, false] rfl rfl (any_of HT_.out (by kernel_rfl)) (fun _ _ _ h => h) (Or.inl ⟨by rfl, ?_⟩) ?_ ?_
                        rotate_left
                        · intro w'
                          go_simp
                          with_reducible rfl
                        rotate_left
                        · simp only [Act.put, List.setIfInBounds_toArray, List.set_cons_zero, List.set_cons_succ, i64_w, i32_w]
                          rfl
                        refine pure_ (i := 11) (N := some 27) (v := ?_) (a' := ?_) #[true, true, true, true, true, true, true, false, true, true, true, true, false, false, false] rfl rfl (any_of HT_.out (by kernel_rfl)) (fun _ _ _ h => h) (Or.inl ⟨by rfl, ?_⟩) ?_ ?_
                        rotate_left
                        · intro w'
                          go_simp
                          with_reducible rfl
                        rotate_left
                        · simp only [Act.put, List.setIfInBounds_toArray, List.set_cons_zero, List.set_cons_succ, i64_w, i32_w]
                          rfl
                        refine take_ (i := 7) (N := some 23) (v := ?_) (a' := ?_) #[true, true, true, true, true, true, true, true, true, true, true, true, false, false, false] rfl rfl (take_ofW HT_.out HW_.out (by kernel_rfl)) (fun _ _ _ h => h) (Or.inl ⟨by rfl, ?_⟩) hHeld ?_ ?_
                        rotate_left
                        · rintro w' ⟨s0, s1⟩
                          go_simp
                          with_reducible rfl
                        rotate_left
                        · simp only [Act.put, List.setIfInBounds_toArray, List.set_cons_zero, List.set_cons_succ, i64_w, i32_w]
                          rfl
                        refine take_ (i := 12) (N := some 28) (v := ?_) (a' := ?_) #[true, true, true, true, true, true, true, true, true, true, true, true, true, false, false] rfl rfl (take_ofW HT_.out HW_.out (by kernel_rfl)) (fun _ _ _ h => h) (Or.inl ⟨by rfl, ?_⟩) hHeld ?_ ?_
                        rotate_left
                        · rintro w' ⟨s0, s1⟩
                          go_simp
                          with_reducible rfl
                        rotate_left
                        · simp only [Act.put, List.setIfInBounds_toArray, List.set_cons_zero, List.set_cons_succ, i64_w, i32_w]
                          rfl
                        refine one_ (i := 13) (N := some 29) #[true, true, true, true, true, true, true, true, true, true, true, true, true, true, false] rfl rfl (one_of HT_.out (by kernel_rfl)) (by decide) (fun K hK => ?_)
                        refine goes_ Try.func163 (by kernel_rfl) rfl #[.int .i16 (rd x0_2 x7_2), .int .i16 (rd x0_2 (ji8))] (by rfl) rfl rfl (by (try simp only [List.map_toArray, List.map_cons, List.map_nil]); first | done | (simp only [hji8]; rfl) | rfl | (simp only [List.length_drop, List.length_take]; rfl)) ?_
                        with_reducible refine (cmp_Less_int16.calls (rd x0_2 x7_2) (rd x0_2 (ji8)) false _ A11.out).mono ?_
                        rintro e w' ⟨rfl, ⟨nd, rfl⟩⟩
                        refine ⟨_, rfl, ?_⟩
                        refine hK.out _ _ ⟨hHeld.1, hHeld.2⟩ (fun hHeld => ?_)
                        clear hK K
                        refine norm_ (a' := ?_) ?_ ?_
                        rotate_left
                        · show Act.put _ (some 29) _ = _
                          simp only [Act.put, List.setIfInBounds_toArray, List.set_cons_zero, List.set_cons_succ, i64_w, i32_w]
                          rfl
                        refine pure_ (i := 14) (N := some 30) (v := ?_) (a' := ?_) #[true, true, true, true, true, true, true, true, true, true, true, true, true, true, true] rfl rfl (any_of HT_.out (by kernel_rfl)) (fun _ _ _ h => h) (Or.inl ⟨by rfl, ?_⟩) ?_ ?_
                        rotate_left
                        · intro w'
                          go_simp
                          with_reducible rfl
                        rotate_left
                        · simp only [Act.put, List.setIfInBounds_toArray, List.set_cons_zero, List.set_cons_succ, i64_w, i32_w]
                          rfl
                        refine done_ (done_of HT_.out (by kernel_rfl)) ?_
                        try go_wp2
                        first | go_roundg k2 | (simp only [← hji8]; go_roundg k2)
                        case measure => have := HK1.out; have := HK2.out; omega
                        case rel => exact ⟨(x0_2), (wrap64 (x6_1 + 1)), (by first | rfl | (simp; done) | (simp [*]; done)), (by first | exact H' | (rw [hji8]; exact H')), ⟨by have := HK1.out; have := HK2.out; omega⟩, ⟨by (with_reducible repeat (first | apply Kd.R_alloc | apply Kd.R_drewN | apply Kd.R_drew)); exact HO_0.out⟩, ⟨by repeat (first | (with_reducible first | exact HK.out | apply Kept.alloc | apply Kept.drewN | apply Kept.drew) | exact HK.out)⟩, ⟨by repeat (first | (with_reducible first | exact HB.out | apply below_alloc | apply pw_below_drewN | apply below_drew1) | exact HB.out)⟩⟩
                    · rw [if_neg c10] at H
                      exact absurd H (by simp)
                  · rw [if_neg c9] at H
                    exact absurd H (by simp)
                · rw [if_neg c7] at H
                  exact absurd H (by simp)
              · rw [if_neg c6] at H
                exact absurd H (by simp)
            · rw [if_neg c5] at H
              have c5b0 : decide (a1 < x7_2) = false := decide_eq_false c5
              clear c5
              have H' := Aside0.mk H
              clear H
              try go_wp2
              have n0_ := Aside0.mk (Kd.R_drew HO_0.out)
              have n1_ := Aside0.mk (Kept.drew HK.out)
              have n2_ := Aside0.mk (below_drew1 HB.out)
              clear HO_0
              clear HK
              clear HB
              have HO_0 := n0_
              have HK := n1_
              have HB := n2_
              clear n0_ n1_ n2_
              refine start_ (n := 15) (S := fun w' => True) (ds := []) #[false, false, false, false, false, false, false, false, false, false, false, false, false, false, false] (by kernel_rfl) rfl rfl trivial (fun hHeld => ?_); refine with_tabW slices_insertionSortOrdered_int16.tab4 slices_insertionSortOrdered_int16.bits4 (fun HT_ HW_ => ?_)
              generalize wr.drew = w22 at HO_0 HK HB hHeld ⊢
              refine pure_ (i := 0) (N := some 16) (v := ?_) (a' := ?_) #[true, false, false, false, false, false, false, false, false, false, false, false, false, false, false] rfl rfl (any_of HT_.out (by kernel_rfl)) (fun _ _ _ h => h) (Or.inl ⟨by rfl, ?_⟩) ?_ ?_
              rotate_left
              · intro w'
                go_simp
                with_reducible rfl
              rotate_left
              · simp only [Act.put, List.setIfInBounds_toArray, List.set_cons_zero, List.set_cons_succ, i64_w, i32_w]
                rfl
              refine pure_ (i := 1) (N := some 17) (v := ?_) (a' := ?_) #[true, true, false, false, false, false, false, false, false, false, false, false, false, false, false] rfl rfl (any_of HT_.out (by kernel_rfl)) (fun _ _ _ h => h) (Or.inl ⟨by rfl, ?_⟩) ?_ ?_
              rotate_left
              · intro w'
                go_simp
                with_reducible rfl
              rotate_left
              · simp only [Act.put, List.setIfInBounds_toArray, List.set_cons_zero, List.set_cons_succ, i64_w, i32_w]
                rfl
              refine pure_ (i := 2) (N := some 18) (v := ?_) (a' := ?_) #[true, true, true, false, false, false, false, false, false, false, false, false, false, false, false] rfl rfl (any_of HT_.out (by kernel_rfl)) (fun _ _ _ h => h) (Or.inl ⟨by rfl, ?_⟩) ?_ ?_
              rotate_left
              · intro w'
                go_simp
                with_reducible rfl
              rotate_left
              · simp only [Act.put, List.setIfInBounds_toArray, List.set_cons_zero, List.set_cons_succ, i64_w, i32_w]
                rfl
              refine pure_ (i := 3) (N := some 19) (v := ?_) (a' := ?_) #[true, true, true, true, false, false, false, false, false, false, false, false, false, false, false] rfl rfl (any_of HT_.out (by kernel_rfl)) (fun _ _ _ h => h) (Or.inl ⟨by rfl, ?_⟩) ?_ ?_
              rotate_left
              · intro w'
                go_simp
                with_reducible rfl
              rotate_left
              · simp only [Act.put, List.setIfInBounds_toArray, List.set_cons_zero, List.set_cons_succ, i64_w, i32_w]
                rfl
              refine pure_ (i := 4) (N := some 20) (v := undef) (a' := ?_) #[true, true, true, true, true, false, false, false, false, false, false, false, false, false, false] rfl rfl (any_of HT_.out (by kernel_rfl)) (fun _ _ _ h => h) (Or.inr ⟨by rfl, rfl⟩) ?_ ?_
              rotate_left
              · simp only [Act.put, List.setIfInBounds_toArray, List.set_cons_zero, List.set_cons_succ, i64_w, i32_w]
                rfl
              refine pure_ (i := 5) (N := some 21) (v := undef) (a' := ?_) #[true, true, true, true, true, true, false, false, false, false, false, false, false, false, false] rfl rfl (any_of HT_.out (by kernel_rfl)) (fun _ _ _ h => h) (Or.inr ⟨by rfl, rfl⟩) ?_ ?_
              rotate_left
              · simp only [Act.put, List.setIfInBounds_toArray, List.set_cons_zero, List.set_cons_succ, i64_w, i32_w]
                rfl
              refine pure_ (i := 6) (N := some 22) (v := undef) (a' := ?_) #[true, true, true, true, true, true, true, false, false, false, false, false, false, false, false] rfl rfl (any_of HT_.out (by kernel_rfl)) (fun _ _ _ h => h) (Or.inr ⟨by rfl, rfl⟩) ?_ ?_
              rotate_left
              · simp only [Act.put, List.setIfInBounds_toArray, List.set_cons_zero, List.set_cons_succ, i64_w, i32_w]
                rfl
              refine pure_ (i := 7) (N := some 23) (v := undef) (a' := ?_) #[true, true, true, true, true, true, true, true, false, false, false, false, false, false, false] rfl rfl (any_of HT_.out (by kernel_rfl)) (fun _ _ _ h => h) (Or.inr ⟨by rfl, rfl⟩) ?_ ?_
              rotate_left
              · simp only [Act.put, List.setIfInBounds_toArray, List.set_cons_zero, List.set_cons_succ, i64_w, i32_w]
                rfl
              refine pure_ (i := 8) (N := some 24) (v := undef) (a' := ?_) #[true, true, true, true, true, true, true, true, true, false, false, false, false, false, false] rfl rfl (any_of HT_.out (by kernel_rfl)) (fun _ _ _ h => h) (Or.inr ⟨by rfl, rfl⟩) ?_ ?_
              rotate_left
              · simp only [Act.put, List.setIfInBounds_toArray, List.set_cons_zero, List.set_cons_succ, i64_w, i32_w]
                rfl
              refine pure_ (i := 9) (N := some 25) (v := undef) (a' := ?_) #[true, true, true, true, true, true, true, true, true, true, false, false, false, false, false] rfl rfl (any_of HT_.out (by kernel_rfl)) (fun _ _ _ h => h) (Or.inr ⟨by rfl, rfl⟩) ?_ ?_
              rotate_left
              · simp only [Act.put, List.setIfInBounds_toArray, List.set_cons_zero, List.set_cons_succ, i64_w, i32_w]
                rfl
              refine pure_ (i := 10) (N := some 26) (v := undef) (a' := ?_) #[true, true, true, true, true, true, true, true, true, true, true, false, false, false, false] rfl rfl (any_of HT_.out (by kernel_rfl)) (fun _ _ _ h => h) (Or.inr ⟨by rfl, rfl⟩) ?_ ?_
              rotate_left
              · simp only [Act.put, List.setIfInBounds_toArray, List.set_cons_zero, List.set_cons_succ, i64_w, i32_w]
                rfl
              refine pure_ (i := 11) (N := some 27) (v := undef) (a' := ?_) #[true, true, true, true, true, true, true, true, true, true, true, true, false, false, false] rfl rfl (any_of HT_.out (by kernel_rfl)) (fun _ _ _ h => h) (Or.inr ⟨by rfl, rfl⟩) ?_ ?_
              rotate_left
              · simp only [Act.put, List.setIfInBounds_toArray, List.set_cons_zero, List.set_cons_succ, i64_w, i32_w]
                rfl
              refine pure_ (i := 12) (N := some 28) (v := undef) (a' := ?_) #[true, true, true, true, true, true, true, true, true, true, true, true, true, false, false] rfl rfl (any_of HT_.out (by kernel_rfl)) (fun _ _ _ h => h) (Or.inr ⟨by rfl, rfl⟩) ?_ ?_
              rotate_left
              · simp only [Act.put, List.setIfInBounds_toArray, List.set_cons_zero, List.set_cons_succ, i64_w, i32_w]
                rfl
              refine pure_ (i := 13) (N := some 29) (v := undef) (a' := ?_) #[true, true, true, true, true, true, true, true, true, true, true, true, true, true, false] rfl rfl (any_of HT_.out (by kernel_rfl)) (fun _ _ _ h => h) (Or.inr ⟨by rfl, rfl⟩) ?_ ?_
              rotate_left
              · simp only [Act.put, List.setIfInBounds_toArray, List.set_cons_zero, List.set_cons_succ, i64_w, i32_w]
                rfl
              refine pure_ (i := 14) (N := some 30) (v := ?_) (a' := ?_) #[true, true, true, true, true, true, true, true, true, true, true, true, true, true, true] rfl rfl (any_of HT_.out (by kernel_rfl)) (fun _ _ _ h => h) (Or.inl ⟨by rfl, ?_⟩) ?_ ?_
              rotate_left
              · intro w'
                go_simp
                with_reducible rfl
              rotate_left
              · simp only [Act.put, List.setIfInBounds_toArray, List.set_cons_zero, List.set_cons_succ, i64_w, i32_w]
                rfl
              refine done_ (done_of HT_.out (by kernel_rfl)) ?_
              try go_wp2
              go_roundg k2
              case measure => have := HK1.out; have := HK2.out; omega
              case rel => exact ⟨(x0_2), (wrap64 (x6_1 + 1)), (by first | rfl | (simp; done) | (simp [*]; done)), (by first | exact H' | (rw [hji8]; exact H')), ⟨by have := HK1.out; have := HK2.out; omega⟩, ⟨by (with_reducible repeat (first | apply Kd.R_alloc | apply Kd.R_drewN | apply Kd.R_drew)); exact HO_0.out⟩, ⟨by repeat (first | (with_reducible first | exact HK.out | apply Kept.alloc | apply Kept.drewN | apply Kept.drew) | exact HK.out)⟩, ⟨by repeat (first | (with_reducible first | exact HB.out | apply below_alloc | apply pw_below_drewN | apply below_drew1) | exact HB.out)⟩⟩
      · rw [if_neg c4] at H
        have c4b0 : decide (x6_1 < a2) = false := decide_eq_false c4
        clear c4
        obtain rfl := Option.some.inj H
        go_wp2
        first | go_end0 | ((try simp only [Exit.inBlock, Exit.then]); refine bodyPost_ret (results_none rfl _ _ _) rfl ?_)
        exact ⟨by first | rfl | (simp [errW_none, errW_some] <;> rfl) | (simp [*, errW_none, errW_some] <;> rfl), by (with_reducible repeat (first | apply Kd.R_alloc | apply Kd.R_drewN | apply Kd.R_drew)); exact HO_0.out, by repeat (first | (with_reducible first | exact HB.out | apply below_alloc | apply pw_below_drewN | apply below_drew1) | exact HB.out), by repeat (first | (with_reducible first | exact HK.out | apply Kept.alloc | apply Kept.drewN | apply Kept.drew) | exact HK.out)⟩

end Go.Proofs.Ytkjibgfgbfacdaa.P
end
/-! part: HSort16 -/
section
set_option linter.unusedVariables false
set_option linter.unusedSimpArgs false
namespace Go.Proofs.Ytkjibgfgbfacdaa.P
open Go.RowKit Go.Sort Go.Proofs.YtkjibgfgbfacdaaW.PrintWords Go.Proofs.YtkjibgfgbfacdaaW.PrintLast Go.Proofs.YtkjibgfgbfacdaaW.PrintMore
set_option linter.unusedVariables false
set_option linter.unusedSimpArgs false
theorem bitsLen_calls (n : Nat) (w : World) (hn : n < 4611686018427387904) : Calls Try.prog 165 #[.int .u64 (n : Int)] w fun e w' => e = .returned (.int .i64 (bitsLen n : Nat)) ∧ w' = w :=
  calls_of_every_depth fun D => lenWalkInAllG (P := Try.prog) (ρ := Try.laySort64_ren) { Try.laySort64 with } D n w hn
set_option maxHeartbeats 2000000 in
set_option maxRecDepth 100000 in
theorem pdq16_small (k : Nat) (u : Value) (l r : List Int) (lim : Int) (w0 w : World) (hB : Below w0.heap.size w0 w) (ho : Kd.R (Kd.int .i16) 74 w w0.heap.size (fun _ => True) u l) (hl : l.length ≤ 12) (h : slices_insertionSortOrdered_int16.f k l 0 (l.length : Int) = some r) :
    Calls Try.prog 174 #[u, .int .i64 0, .int .i64 (l.length : Int), .int .i64 lim] w fun e w' => e = .returned (.tuple #[]) ∧ Kd.R (Kd.int .i16) 74 w' w0.heap.size (fun _ => True) u r ∧ Below w0.heap.size w0 w' := by
  have HH := Aside0.mk h
  have HO := Aside0.mk ho
  have HB := Aside0.mk hB
  obtain ⟨n, hn⟩ : ∃ n : Int, n = (l.length : Int) := ⟨_, rfl⟩
  have HN := Aside0.mk hn
  rw [← hn] at HH
  rw [← hn]
  have d0 : wrap64 n = n := w64 (by omega) (by omega)
  have d1 : decide (n ≤ 12) = true := decide_eq_true (by omega)
  clear h ho hB hn hl
  go_enter Try.func174, Try.ntmps174
  go_wp2
  refine wp_loop_rounds 1 ?_
  rw [rounds_succ]
  go_wp2_with (go_at_call 189; refine (slices_insertionSortOrdered_int16.calls k (fun _ => True) u l 0 n r w0 _ HB.out HO.out HH.out).mono ?_; rintro e w' ⟨rfl, h1, h2, _⟩)
  refine bodyPost_ret (results_none rfl _ _ _) rfl ?_
  exact ⟨rfl, Kd.R_mono h1 (fun _ _ => trivial), h2⟩
set_option maxHeartbeats 2000000 in
set_option maxRecDepth 100000 in
theorem Sort16 (k : Nat) (u : Value) (l r : List Int) (w0 w : World) (hB : Below w0.heap.size w0 w) (ho : Kd.R (Kd.int .i16) 74 w w0.heap.size (fun _ => True) u l) (hl : l.length ≤ 12) (h : slices_insertionSortOrdered_int16.f k l 0 (l.length : Int) = some r) :
    Calls Try.prog 161 #[u] w fun e w' => e = .returned (.tuple #[]) ∧ Kd.R (Kd.int .i16) 74 w' w0.heap.size (fun _ => True) u r ∧ Below w0.heap.size w0 w' := by
  obtain ⟨A, c, rfl⟩ := Kd.R_slice ho
  have HP := Aside0.mk (fun lim => pdq16_small k _ l r lim w0 w hB ho hl h)
  have HL := Aside0.mk (fun w => bitsLen_calls l.length w (by omega))
  have eU : IntKind.u64.wrap (l.length : Int) = (l.length : Int) := by
    simp only [IntKind.wrap, IntKind.bits, IntKind.signed]
    simp
    omega
  clear h ho hB hl
  go_enter Try.func161, Try.ntmps161
  go_wp2_with (first | (go_at_call 165; (try rw [eU]); refine (HL.out _).mono ?_; rintro e w1 ⟨rfl, rfl⟩) | (go_at_call 174; refine (HP.out _).mono ?_; rintro e w2 ⟨rfl, h1, h2⟩))
  go_end0
  exact ⟨rfl, h1, h2⟩
set_option maxHeartbeats 2000000 in
set_option maxRecDepth 100000 in
theorem sorted16_small (k : Nat) (Bs : Nat) (w0 : World) (A : Option Addr) (c : Nat) (zs r : List Int) (hC : Kd.C (Kd.int .i16) w0 A zs.length zs) (hl : zs.length ≤ 12) (h : slices_insertionSortOrdered_int16.f k zs 0 (zs.length : Int) = some r)
    (w : World) (hBs : Bs < w.heap.size) (hw : Below w0.heap.size w0 w) (hc : w.cell? ⟨Bs, 0, none⟩ = some (.slice A zs.length c)) :
    Calls Try.prog 118 #[.func (.func 162) #[] #[.pointer (some ⟨Bs, 0, none⟩)]] w fun e w' => ∃ v, e = .returned v ∧ Kd.R (Kd.int .i16) 74 w' w.heap.size (fun _ => True) v r ∧ Below w.heap.size w w' := by
  have H := Aside0.mk ((callsIn_wide (n := 6)).1 (collect16_in Fence.wide 6 trivial trivial trivial rfl (by omega) Bs w0 A c zs hC (by omega) w hBs hw hc))
  have HS := Aside0.mk (fun u w1 hB ho => Sort16 k u zs r w w1 hB ho hl h)
  clear hC hc h
  go_enter Try.func118, Try.ntmps118
  go_wp2_with (first | (go_at_call 160; refine H.out.mono ?_; rintro e w1 ⟨v, rfl, hrow, hnil, hb⟩; have HO := Aside0.mk (show Kd.R (Kd.int .i16) 74 w1 w.heap.size (fun _ => True) v zs from Kd.R_of_own hrow (fun _ _ => trivial)); have HB := Aside0.mk hb; clear hrow hnil hb) | (go_at_call 161; refine (HS.out _ _ HB.out HO.out).mono ?_; rintro e w2 ⟨rfl, h1, h2⟩; have HO2 := Aside0.mk h1; have HB2 := Aside0.mk h2; clear h1 h2))
  go_ret
  exact ⟨_, rfl, HO2.out, HB2.out⟩

/-! ### the insertion sort -/
theorem less16b (a b : Int) : cmp_Less_int16.f a b = some (decide (a < b)) := by
  unfold cmp_Less_int16.f cmp_isNaN_int16.f
  simp
theorem rdA (d : Array Int) (j : Nat) (hj : j < d.size) : rd d.toList (j : Int) = d[j]! := by
  show d.toList.getD ((j : Int)).toNat 0 = _
  rw [Int.toNat_natCast, getElem!_pos d j hj]
  simp [List.getD_eq_getElem?_getD, hj]
theorem swp_list (d : Array Int) (i j : Nat) : (swp d i j).toList = (d.toList.set i d[j]!).set j d[i]! := by
  unfold swp
  simp
theorem insInner_size (a : Nat) : ∀ (j : Nat) (d : Array Int), (insInner ltInt a j d).size = d.size := by
  intro j
  induction j with
  | zero => intro d; rfl
  | succ j ih =>
    intro d
    rw [insInner]
    split
    · rw [ih, size_swp]
    · rfl
theorem ins_l1 (a : Nat) (b i : Int) (V : List Int) : ∀ (j : Nat) (d : Array Int), j < d.size → d.size ≤ 4611686018427387904 →
    Ev (fun k => slices_insertionSortOrdered_int16.l0 k (insInner ltInt a j d).toList (a : Int) b (wrap64 (i + 1))) V →
    Ev (fun k => slices_insertionSortOrdered_int16.l1 k d.toList (a : Int) b i (j : Int)) V := by
  intro j
  induction j with
  | zero =>
    intro d hj hs hV
    refine Ev.step (fun k => ?_) hV
    simp only [slices_insertionSortOrdered_int16.l1]
    rw [if_neg (by omega)]
    rfl
  | succ j ih =>
    intro d hj hs hV
    have e1 : wrap64 (((j + 1 : Nat) : Int) - 1) = (j : Int) := by rw [w64 (by omega) (by omega)]; omega
    have hl : d.toList.length = d.size := by simp
    rw [insInner] at hV
    by_cases h1 : j + 1 > a
    · by_cases h2 : ltInt d[j + 1]! d[j]! = true
      · rw [if_pos (by simp [h1, h2])] at hV
        have hh := ih (swp d (j + 1) j) (by rw [size_swp]; omega) (by rw [size_swp]; exact hs) hV
        rw [swp_list] at hh
        refine Ev.step (fun k => ?_) hh
        simp only [slices_insertionSortOrdered_int16.l1]
        unfold ltInt at h2
        rw [if_pos (by omega), if_pos (by omega), if_pos (by omega), e1, if_pos (by omega), if_pos (by omega), less16b, rdA d (j + 1) (by omega), rdA d j (by omega), h2]
        simp only [Option.bind_some, if_true, Int.toNat_natCast]
      · rw [if_neg (by simp [h2])] at hV
        refine Ev.step (fun k => ?_) hV
        simp only [slices_insertionSortOrdered_int16.l1]
        unfold ltInt at h2
        rw [if_pos (by omega), if_pos (by omega), if_pos (by omega), e1, if_pos (by omega), if_pos (by omega), less16b, rdA d (j + 1) (by omega), rdA d j (by omega), Bool.eq_false_iff.mpr h2]
        simp only [Option.bind_some, Bool.false_eq_true, if_false]
    · rw [if_neg (by simp [h1])] at hV
      refine Ev.step (fun k => ?_) hV
      simp only [slices_insertionSortOrdered_int16.l1]
      rw [if_neg (by omega)]
theorem ins_l0 (a b : Nat) (n : Nat) : ∀ (i : Nat) (d : Array Int), b - i = n → b ≤ d.size → d.size ≤ 4611686018427387904 →
    Ev (fun k => slices_insertionSortOrdered_int16.l0 k d.toList (a : Int) (b : Int) (i : Int)) (insOuter ltInt a b i d).toList := by
  induction n with
  | zero =>
    intro i d hi hb hs
    rw [insOuter, if_neg (by omega)]
    refine Ev.step (g' := fun _ => _) (fun k => ?_) (Ev.const _)
    simp only [slices_insertionSortOrdered_int16.l0]
    rw [if_neg (by omega)]
  | succ n ih =>
    intro i d hi hb hs
    rw [insOuter, if_pos (by omega)]
    have e1 : wrap64 ((i : Int) + 1) = ((i + 1 : Nat) : Int) := by unfold wrap64; omega
    have hnext := ih (i + 1) (insInner ltInt a i d) (by omega) (by rw [insInner_size]; exact hb) (by rw [insInner_size]; exact hs)
    refine Ev.step (fun k => ?_) (ins_l1 a (b : Int) (i : Int) _ i d (by omega) hs (by rw [e1]; exact hnext))
    simp only [slices_insertionSortOrdered_int16.l0]
    rw [if_pos (by omega)]
theorem ins_ev (d : Array Int) (a b : Nat) (hb : b ≤ d.size) (hs : d.size ≤ 4611686018427387904) (ha : a ≤ 4611686018427387904) : Ev (fun k => slices_insertionSortOrdered_int16.f k d.toList (a : Int) (b : Int)) (insertionSort ltInt d a b).toList := by
  unfold slices_insertionSortOrdered_int16.f insertionSort
  have e1 : wrap64 ((a : Int) + 1) = ((a + 1 : Nat) : Int) := by unfold wrap64; omega
  rw [e1]
  exact ins_l0 a b (b - (a + 1)) (a + 1) d rfl hb hs
def sort16 (l : List Int) : List Int := l.mergeSort (fun a b => decide (a ≤ b))
theorem ins_sort (l : List Int) (hs : l.length ≤ 4611686018427387904) : Ev (fun k => slices_insertionSortOrdered_int16.f k l 0 (l.length : Int)) (sort16 l) := by
  have h := ins_ev l.toArray 0 l.length (by simp) (by simpa using hs) (by omega)
  obtain ⟨hp, hq⟩ := insertionSort_holds swo_ltInt l.toArray 0 l.length (by omega) (by simp)
  have hu := sorted_unique_holds swo_ltInt (fun x y h1 h2 => by simp only [ltInt, decide_eq_false_iff_not] at h1 h2; omega) l.toArray (insertionSort ltInt l.toArray 0 l.length) (by simpa using hp) (by simpa using hq)
  have e : (insertionSort ltInt l.toArray 0 l.length).toList = sort16 l := by
    rw [hu]
    unfold sort16
    simp only [List.toList_toArray]
    congr 1
    funext x y
    simp only [ltInt]
    by_cases h1 : x ≤ y
    · rw [decide_eq_true h1, decide_eq_false (by omega)]; rfl
    · rw [decide_eq_false h1, decide_eq_true (by omega)]; rfl
  rw [e] at h
  exact h
end Go.Proofs.Ytkjibgfgbfacdaa.P
end
/-! part: HrankCuts -/
section
set_option linter.unusedVariables false
set_option linter.unusedSimpArgs false
namespace Go.Proofs.Ytkjibgfgbfacdaa.P
open Go.RowKit Go.Proofs.YtkjibgfgbfacdaaW.PrintWords Go.Proofs.YtkjibgfgbfacdaaW.PrintLast Go.Proofs.YtkjibgfgbfacdaaW.PrintMore
set_option linter.unusedVariables false
set_option linter.unusedSimpArgs false
def cutsAt (s : List Int) (cells : Nat) : List Int := (List.range (cells - 1)).map (fun i => s.getD ((i + 1) * s.length / cells) 0)
def h_rank_Cuts.f (l0 : List Int) (a1 : Int) : Option (List Int × Int) :=
  if l0.length ≤ 12 then some (if a1 < 1 ∨ a1 > 16 ∨ l0.any (fun x => decide (x < -32767)) = true then ([], 1) else if l0 = [] then ([], 5) else (cutsAt (sort16 l0) a1.toNat, 0)) else none
theorem sort16_len (l : List Int) : (sort16 l).length = l.length := (List.mergeSort_perm l _).length_eq
theorem cut_at (j len cells : Nat) (h1 : j + 1 < cells) (h2 : cells ≤ 16) (h4 : len ≤ 12) : wrap64 (Int.tdiv (wrap64 ((wrap64 ((j : Int) + 1)) * (len : Int))) (cells : Int)) = (((j + 1) * len / cells : Nat) : Int) := by
  have h5 : (j + 1) * len ≤ 16 * 12 := Nat.mul_le_mul (by omega) h4
  have h6 : (j + 1) * len / cells ≤ (j + 1) * len := Nat.div_le_self _ _
  rw [w64 (i := (j : Int) + 1) (by omega) (by omega), show ((j : Int) + 1) * (len : Int) = (((j + 1) * len : Nat) : Int) by push_cast; rfl]
  generalize (j + 1) * len = q at *
  rw [w64 (i := (q : Int)) (by omega) (by omega), ← Int.ofNat_tdiv]
  generalize q / cells = z at *
  exact w64 (by omega) (by omega)
theorem cut_lt (j len cells : Nat) (h1 : j + 1 < cells) (h3 : 0 < len) : (j + 1) * len / cells < len :=
  Nat.div_lt_of_lt_mul (Nat.mul_lt_mul_of_pos_right h1 h3)
theorem odd16_calls (l0 : List Int) (A0 : Option Addr) (c0 : Nat) (w : World) (hr0 : Kd.C (Kd.int .i16) w A0 l0.length l0) (hc0 : l0.length ≤ c0) :
    Calls Try.prog 116 #[.slice A0 l0.length c0, .func (.func 117) #[] #[]] w fun e w' => e = .returned (.bool (l0.any (fun x => decide (x < -32767)))) ∧ Below w.heap.size w w' := by
  refine containsFunc_i16 117 #[] (fun x => decide (x < -32767)) A0 c0 l0 w (enters_of Try.func117 (by kernel_rfl) rfl) ?_ hr0 hc0
  intro W x hb
  refine (rank_odd.calls x (decide (x < -32767)) W rfl).mono ?_
  rintro e W' ⟨he, ⟨nd, rfl⟩⟩
  exact ⟨he, pw_below_drewN hb nd⟩
set_option maxHeartbeats 4000000 in
set_option maxRecDepth 100000 in
theorem h_rank_Cuts.calls (A0 : Option Addr) (c0 : Nat) (l0 : List Int) (a1 : Int) (r1 : List Int) (r2 : Int) (w : World) (hr0 : Kd.C (Kd.int .i16) w A0 l0.length l0) (hc0 : l0.length ≤ c0) (h : h_rank_Cuts.f l0 a1 = some (r1, r2)) :
    Calls Try.prog 56 #[.slice A0 l0.length c0, .int .i64 a1] w fun e w' => ∃ v0_ : Value, e = .returned (.tuple #[v0_, .int .i64 r2]) ∧ Kd.R (Kd.int .i16) 74 w' w.heap.size (fun _ => True) v0_ r1 ∧ Below w.heap.size w w' := by
  unfold h_rank_Cuts.f at h
  have hlen : l0.length ≤ 12 := by
    by_cases q : l0.length ≤ 12
    · exact q
    · rw [if_neg q] at h; cases h
  rw [if_pos hlen] at h
  replace h := Option.some.inj h
  have HR := Aside0.mk hr0
  have HC := Aside0.mk hc0
  have HM := Aside0.mk hr0.2.1
  have HF := Aside0.mk (odd16_calls l0 A0 c0 w hr0 hc0)
  have HL := Aside0.mk hlen
  obtain ⟨n, hn⟩ : ∃ n : Int, n = (l0.length : Int) := ⟨_, rfl⟩
  have d0 : decide ((l0.length : Int) > 4096) = false := decide_eq_false (by omega)
  have d0' : decide (4096 < (l0.length : Int)) = false := decide_eq_false (by omega)
  clear hr0 hc0 hlen
  by_cases h1 : a1 < 1
  · rw [if_pos (.inl h1)] at h
    cases h
    have d1 : decide (a1 < 1) = true := decide_eq_true h1
    clear h1
    go_enter Try.func56, Try.ntmps56
    go_wp2
    first | go_ret | go_ret2
    exact ⟨_, rfl, Kd.R_nil _ _ _ _ _, by repeat (first | exact Below.refl _ _ | apply pw_below_drewN | apply below_drew1 | apply below_alloc)⟩
  have d1 : decide (a1 < 1) = false := decide_eq_false h1
  by_cases h2 : a1 > 16
  · rw [if_pos (.inr (.inl h2))] at h
    cases h
    have d2 : decide (a1 > 16) = true := decide_eq_true h2
    have d2' : decide (16 < a1) = true := decide_eq_true h2
    clear h1 h2
    go_enter Try.func56, Try.ntmps56
    go_wp2
    first | go_ret | go_ret2
    exact ⟨_, rfl, Kd.R_nil _ _ _ _ _, by repeat (first | exact Below.refl _ _ | apply pw_below_drewN | apply below_drew1 | apply below_alloc)⟩
  have d2 : decide (a1 > 16) = false := decide_eq_false h2
  have d2' : decide (16 < a1) = false := decide_eq_false h2
  by_cases h3 : l0.any (fun x => decide (x < -32767)) = true
  · rw [if_pos (.inr (.inr h3))] at h
    cases h
    rw [h3] at HF
    clear h1 h2 h3
    go_enter Try.func56, Try.ntmps56
    go_wp2_with (go_at_call 116; refine HF.out.mono ?_; rintro e w1 ⟨rfl, hb⟩; have HB := Aside0.mk hb; clear hb)
    first | go_ret | go_ret2
    exact ⟨_, rfl, Kd.R_nil _ _ _ _ _, by repeat (first | exact HB.out | exact Below.refl _ _ | apply pw_below_drewN | apply below_drew1 | apply below_alloc)⟩
  rw [if_neg (by rintro (q | q | q) <;> contradiction)] at h
  rw [Bool.eq_false_iff.mpr h3] at HF
  by_cases h4 : l0 = []
  · rw [if_pos h4] at h
    cases h
    have d4 : decide ((l0.length : Int) = 0) = true := by rw [h4]; rfl
    have d4' : ((l0.length : Int) == 0) = true := by rw [h4]; rfl
    clear h1 h2 h3 h4
    go_enter Try.func56, Try.ntmps56
    go_wp2_with (go_at_call 116; refine HF.out.mono ?_; rintro e w1 ⟨rfl, hb⟩; have HB := Aside0.mk hb; clear hb)
    first | go_ret | go_ret2
    exact ⟨_, rfl, Kd.R_nil _ _ _ _ _, by repeat (first | exact HB.out | exact Below.refl _ _ | apply pw_below_drewN | apply below_drew1 | apply below_alloc)⟩
  have hp : 0 < l0.length := by
    cases l0 with
    | nil => exact absurd rfl h4
    | cons x t => simp
  rw [if_neg h4] at h
  have d4 : decide ((l0.length : Int) = 0) = false := decide_eq_false (by omega)
  have d4' : ((l0.length : Int) == 0) = false := by simpa using d4
  obtain ⟨m, rfl⟩ : ∃ m : Nat, a1 = ((m + 1 : Nat) : Int) := ⟨a1.toNat - 1, by omega⟩
  rw [Int.toNat_natCast] at h
  have dz : ¬ ((m + 1 : Nat) : Int) = 0 := by omega
  have dz' : (((m + 1 : Nat) : Int) == 0) = false := beq_eq_false_iff_ne.mpr dz
  have dz2 : (((m + 1 : Nat) : Int) != 0) = true := bne_iff_ne.mpr dz
  have e1 : wrap64 (((m + 1 : Nat) : Int) - 1) = (m : Int) := by rw [w64 (by omega) (by omega)]; omega
  have HCV := Aside0.mk (fun (j : Nat) (hj : j + 1 < m + 1) => cut_at j l0.length (m + 1) hj (by omega) HL.out)
  have HCL := Aside0.mk (fun (j : Nat) (hj : j + 1 < m + 1) => cut_lt j l0.length (m + 1) hj hp)
  obtain ⟨cells, hcells⟩ : ∃ z : Int, z = ((m + 1 : Nat) : Int) := ⟨_, rfl⟩
  have HM16 := Aside0.mk (show m < 16 by omega)
  rw [← hcells] at HCV d1 d2 d2' dz dz' dz2 e1 ⊢
  have dzf : (cells = 0) = False := eq_false dz
  clear h1 h2 h3 h4 hcells hn
  obtain ⟨kk, hkk⟩ : ∃ k, slices_insertionSortOrdered_int16.f k l0 0 (l0.length : Int) = some (sort16 l0) := (ins_sort l0 (by have := HL.out; omega)).some
  have HS := Aside0.mk (fun (Bs : Nat) (W : World) (hBs : Bs < W.heap.size) (hw : Below w.heap.size w W) (hc : W.cell? ⟨Bs, 0, none⟩ = some (.slice A0 l0.length c0)) => sorted16_small kk Bs w A0 c0 l0 (sort16 l0) HR.out HL.out hkk W hBs hw hc)
  have HV := Aside0.mk (fun (W : World) => (callsIn_wide (n := 6)).1 (values16_in Fence.wide 6 trivial rfl A0 l0.length c0 W))
  have HCL' := Aside0.mk (fun (j : Nat) (hj : j < m) => by have := HCL.out j (by omega); rw [← sort16_len l0] at this; exact this : ∀ j : Nat, j < m → (j + 1) * (sort16 l0).length / (m + 1) < (sort16 l0).length)
  have HCV' := Aside0.mk (fun (j : Nat) (hj : j < m) => by have := HCV.out j (by omega); rw [← sort16_len l0] at this; rw [sort16_len l0] at this; exact this : ∀ j : Nat, j < m → wrap64 (Int.tdiv (wrap64 ((wrap64 ((j : Int) + 1)) * (l0.length : Int))) cells) = (((j + 1) * l0.length / (m + 1) : Nat) : Int))
  have HSL := Aside0.mk (sort16_len l0)
  clear HCV HCL
  generalize sort16 l0 = S at *
  clear hkk hp
  go_enter Try.func56, Try.ntmps56
  go_wp2_with (first | (go_at_call 116; refine HF.out.mono ?_; rintro e w1 ⟨rfl, hb⟩; have HB := Aside0.mk hb; clear hb) | (go_at_call 119; go_loud (refine (HV.out _).mono ?_; rintro e w2 ⟨rfl, rfl⟩)) | (go_at_call 118; go_loud (refine (HS.out _ _ ?q1 ?q2 ?q3).mono ?_; (case q1 => simp); (case q2 => exact below_alloc HB.out _); (case q3 => exact cell_new_sl _ _ _); rintro e w3 ⟨v3, rfl, hS, hB3⟩; obtain ⟨A3, c3, eo3⟩ := Kd.R_slice hS; subst eo3; have HS3 := Aside0.mk hS; have HB3 := Aside0.mk hB3; clear hS hB3)) | ((with_reducible refine gate_dst (N := 33) rfl ?_); (try (refine gate_guard (by rfl) ?_; dsimp only)); go_loud (refine Kd.R_make (Kd.int .i16) (w0 := w3) w3.heap.size 74 rfl (N := 33) rfl 26 _ _ rfl (m : Int) (by first | rfl | (simp only [e1]; rfl) | (rw [← e1]; rfl)) (by first | rfl | (simp only [e1]; rfl) | (rw [← e1]; rfl)) Try.underlying26 (.int .i16 0) 2 info16 rfl (by decide) (by omega) 0 (ok := fun _ => True) (okp := fun _ => True) rfl (fun _ hk => hk) trivial (by omega) (by have := HM16.out; omega) (Below.refl _ _) (Nat.le_refl _) ?_; intro v4 w4 hO hB4 hg hnew; clear hg hnew; rw [Int.toNat_natCast] at hO; obtain ⟨A4, c4, eo4⟩ := Kd.R_slice hO; rw [List.length_replicate] at eo4; subst eo4; have HO := Aside0.mk hO; have HB4 := Aside0.mk hB4; clear hO hB4)))
  go_loopg [36] m (fun kq v36 w' => ∃ (x : List Int) (j : Nat), v36 = .int .i64 (j : Int) ∧ Aside0 (x.length = m ∧ j ≤ m ∧ m - j ≤ kq ∧ ∀ t, t < j → x.getD t 0 = S.getD ((t + 1) * S.length / (m + 1)) 0) ∧ Aside0 (Kd.R (Kd.int .i16) 74 w' w3.heap.size (fun _ => True) (.slice A4 m c4) x) ∧ Aside0 (Below w3.heap.size w3 w'))
  case atStart => exact ⟨List.replicate m 0, 0, rfl, ⟨by simp, by omega, by omega, fun t ht => by omega⟩, ⟨by (with_reducible repeat (first | apply Kd.R_alloc | apply Kd.R_drewN | apply Kd.R_drew)); exact HO.out⟩, ⟨by repeat (first | exact HB4.out | apply pw_below_drewN | apply below_drew1 | apply below_alloc)⟩⟩
  case round =>
    clear e1 d0 d0' d1 d2 d2' d4 d4'
    obtain ⟨x, j, rfl, HX, HOx, HBx⟩ := hrel
    clear HO HB4
    by_cases hjm : j < m
    · have dj : decide ((j : Int) < (m : Int)) = true := decide_eq_true (by omega)
      have djn : decide (j < m) = true := decide_eq_true hjm
      have djt : (j < m) = True := eq_true hjm
      have hm16 := HM16.out
      have ej : wrap64 ((j : Int) + 1) = (j : Int) + 1 := w64 (by omega) (by omega)
      have hv := HCV'.out j hjm
      have hl := HCL'.out j hjm
      have hval : ∃ q : Nat, (((j + 1) * l0.length / (m + 1) : Nat) : Int) = (q : Int) ∧ q < S.length ∧ S.getD ((j + 1) * S.length / (m + 1)) 0 = S.getD q 0 := ⟨_, rfl, by rw [← HSL.out]; exact hl, by rw [HSL.out]⟩
      obtain ⟨q, hq1, hq2, hq3⟩ := hval
      rw [hq1, ej] at hv
      have hvw : IntKind.i64.wrap (Int.tdiv (wrap64 (((j : Int) + 1) * (l0.length : Int))) cells) = (q : Int) := (i64_w _).trans hv
      obtain ⟨ad, e1_, hx⟩ := Kd.at_int (Kd.C_below (Kd.R_reads' HS3.out).2.2 HBx.out) (q : Int) (Int.natCast_nonneg q) (Int.ofNat_lt.mpr hq2)
      subst e1_
      have erd : rd S (q : Int) = S.getD q 0 := by show S.getD ((q : Int)).toNat 0 = _; rw [Int.toNat_natCast]
      rw [erd] at hx
      simp only [Int.toNat_natCast] at hx
      have hxl := HX.out.1
      obtain ⟨go, co, eo, gb, gl, cl, HG⟩ := Kd.R_form HOx.out (by rw [hxl]; exact Nat.lt_of_le_of_lt (Nat.zero_le _) hjm)
      injection eo with ea en ec
      subst ea
      subst ec
      clear en
      have GB := Aside0.mk gb
      clear gb gl HG
      obtain ⟨hx0, hf0⟩ := Kd.R_celln 0 HOx.out (j : Int) (Int.natCast_nonneg j) (Int.ofNat_lt.mpr hjm)
      have HP := Kd.R_putg HOx.out (j : Int) (S.getD q 0)
      simp only [Int.toNat_natCast] at hx0 hf0 HP
      have pq0 : (0 ≤ (q : Int)) = True := eq_true (Int.natCast_nonneg q)
      have pq1 : ((q : Int) < (S.length : Int)) = True := eq_true (Int.ofNat_lt.mpr hq2)
      have pj0 : (0 ≤ (j : Int)) = True := eq_true (Int.natCast_nonneg j)
      have pj1 : ((j : Int) < (m : Int)) = True := eq_true (Int.ofNat_lt.mpr hjm)
      have HXO := Aside0.mk HX.out.2
      have HXL := Aside0.mk hxl
      have HQ3 := Aside0.mk hq3
      have HJM := Aside0.mk hjm
      have hlen16 : Aside0 (m < 16) := HM16
      clear HX hq1 hq2 hq3 erd hl hxl hm16 hjm
      generalize S.getD q 0 = y at *
      go_wp2_with ((with_reducible refine gate_store rfl ?_); go_loud (refine store_event (t := 74) (p := 51) (v := ?vo_w53) (w1 := (wr.setCell ⟨go, j, none⟩ (.int .i16 y))) ?hg ?ho ?hn ?hr ?_; (case ho => rfl); (case hg => rfl); (case hn => rfl); (case hr => first | (go_simp; done) | (go_simp; rfl)); intro w53 hw; have hp_ := Aside0.mk (by rw [hw]; exact HP.1 : Kd.R (Kd.int .i16) 74 w53 w3.heap.size (fun _ => True) (.slice (some ⟨go, 0, none⟩) m c4) (x.set j y)); have n5_ := Aside0.mk ((by rw [hw]; exact below_set (HBx.out) GB.out : Below w3.heap.size w3 w53)); clear hw HP))
      cases gk with
      | zero => exact absurd HXO.out.2.1 (by have := HJM.out; omega)
      | succ gk1 =>
        go_roundg gk1
        case measure => have := HXO.out.1; have := HXO.out.2.1; omega
        case rel => exact ⟨x.set j y, j + 1, (by first | rfl | (simp; exact ej)), ⟨by rw [List.length_set]; exact HXL.out, HJM.out, by have := HXO.out.2.1; omega, fun t ht => by
          rcases Nat.lt_or_ge t j with h1 | h1
          · rw [← HXO.out.2.2 t h1]
            simp [List.getD_eq_getElem?_getD, List.getElem?_set, show j ≠ t by omega]
          · obtain rfl : t = j := by omega
            rw [HQ3.out]
            have := HXL.out
            have := HJM.out
            simp [List.getD_eq_getElem?_getD, List.getElem?_set, show t < x.length by omega]⟩, hp_, n5_⟩
    · have dj : decide ((j : Int) < (m : Int)) = false := decide_eq_false (by omega)
      have djn : decide (j < m) = false := decide_eq_false hjm
      have djf : (j < m) = False := eq_false hjm
      have HJM := Aside0.mk hjm
      clear hjm
      go_wp2
      first | go_ret | go_ret2
      have hx : x = r1 ∧ (0 : Int) = r2 := by
        have hh := Prod.mk.inj h
        refine ⟨?_, hh.2⟩
        rw [← hh.1]
        obtain ⟨h1, h2, h3, h4⟩ := HX.out
        have h5 := HJM.out
        unfold cutsAt
        apply List.ext_getElem
        · simp [h1]
        · intro i hi1 hi2
          have := h4 i (by omega)
          simp [List.getD_eq_getElem?_getD, hi1] at this ⊢
          exact this
      rw [← hx.2]
      refine ⟨_, rfl, ?_, ?_⟩
      · rw [← hx.1]
        exact Kd.R_lower (by (with_reducible repeat (first | apply Kd.R_alloc | apply Kd.R_drewN | apply Kd.R_drew)); exact HOx.out) (by have := HB.out.size; have := HB3.out.size; simp at this; omega)
      · have hb3 : Below w.heap.size w w3 := (below_alloc HB.out _).trans (HB3.out.mono (below_alloc HB.out _).size)
        exact hb3.trans (by repeat (first | exact HBx.out.mono hb3.size | apply pw_below_drewN | apply below_drew1 | apply below_alloc))
end Go.Proofs.Ytkjibgfgbfacdaa.P
end
/-! part: F55 -/
section
set_option linter.unusedVariables false
set_option linter.unusedSimpArgs false
namespace Go.Proofs.Ytkjibgfgbfacdaa.P
open Go.RowKit Go.Proofs.YtkjibgfgbfacdaaW.PrintWords Go.Proofs.YtkjibgfgbfacdaaW.PrintLast Go.Proofs.YtkjibgfgbfacdaaW.PrintMore
attribute [local go_sem] max2_int min2_int max_two min_two max_three min_three max_four min_four   -- for this text's walks alone
set_option linter.unusedVariables false
set_option linter.unusedSimpArgs false

/-! ### cuvettelaw06_live: function 55 -/
def cuvettelaw06_live.f0  : Option (Bool) := (h_rank_Cuts.f (([1, 5, 9, 3] : List Int)) 2).bind fun bt961 => ((h_rank_Cell.f bt961.1 5).bind fun bt965 => (if bt961.2 = 0 then (if bt965.2 = 0 then (if (bt961.1.length : Int) = 1 then (if 0 < (bt961.1.length : Int) then (if (rd bt961.1 0) = 5 then (some (bt965.1 == 1)) else (some false)) else (none)) else (some false)) else (some false)) else (some false)))
set_option maxHeartbeats 8000000 in
set_option maxRecDepth 100000 in
theorem cuvettelaw06_live.calls0  (r : Bool) (w : World) (h : cuvettelaw06_live.f0  = some r) (hT_ : r = true) :
    Calls Try.prog 55 #[] w fun e w' => e = .returned (.bool r) ∧ Below w.heap.size w w' := by
  have HB := Aside0.mk (Below.refl w.heap.size w)
  have H : ((h_rank_Cuts.f (([1, 5, 9, 3] : List Int)) 2).bind fun bt961 => ((h_rank_Cell.f bt961.1 5).bind fun bt965 => (if bt961.2 = 0 then (if bt965.2 = 0 then (if (bt961.1.length : Int) = 1 then (if 0 < (bt961.1.length : Int) then (if (rd bt961.1 0) = 5 then (some (bt965.1 == 1)) else (some false)) else (none)) else (some false)) else (some false)) else (some false)))) = some r := h
  clear h
  obtain ⟨y958, hy958⟩ : ∃ y_ : List Int, y_ = (([1, 5, 9, 3] : List Int)) := ⟨_, rfl⟩
  replace H : ((h_rank_Cuts.f y958 2).bind fun bt961 => ((h_rank_Cell.f bt961.1 5).bind fun bt965 => (if bt961.2 = 0 then (if bt965.2 = 0 then (if (bt961.1.length : Int) = 1 then (if 0 < (bt961.1.length : Int) then (if (rd bt961.1 0) = 5 then (some (bt965.1 == 1)) else (some false)) else (none)) else (some false)) else (some false)) else (some false)))) = some r := by first | (rw [hy958]; with_reducible exact H) | (have H2_ := (Option.bind_some _ _).symm.trans H; rw [hy958]; with_reducible exact H2_) | (have H2_ := (Option.bind_some _ _).symm.trans H; with_reducible exact H2_) | with_reducible exact H | (rw [hy958]; exact H) | exact H
  have Ny958 := Aside0.mk hy958
  clear hy958
  replace H := Option.bind_eq_some_iff.mp H
  obtain ⟨⟨t961, t962⟩, A10, H⟩ := H
  replace H : ((h_rank_Cell.f t961 5).bind fun bt965 => (if t962 = 0 then (if bt965.2 = 0 then (if (t961.length : Int) = 1 then (if 0 < (t961.length : Int) then (if (rd t961 0) = 5 then (some (bt965.1 == 1)) else (some false)) else (none)) else (some false)) else (some false)) else (some false))) = some r := H
  have A1 := Aside0.mk A10
  clear A10
  replace H := Option.bind_eq_some_iff.mp H
  obtain ⟨⟨t965, t966⟩, A20, H⟩ := H
  replace H : (if t962 = 0 then (if t966 = 0 then (if (t961.length : Int) = 1 then (if 0 < (t961.length : Int) then (if (rd t961 0) = 5 then (some (t965 == 1)) else (some false)) else (none)) else (some false)) else (some false)) else (some false)) = some r := H
  have A2 := Aside0.mk A20
  clear A20
  by_cases c3 : t962 = 0
  · rw [if_pos c3] at H
    have c3b0 : (t962 == 0) = true := beq_iff_eq.mpr c3
    have c3b1 : (t962 != 0) = false := bne_eq_false_iff_eq.mpr c3
    clear c3
    by_cases c4 : t966 = 0
    · rw [if_pos c4] at H
      have c4b0 : (t966 == 0) = true := beq_iff_eq.mpr c4
      have c4b1 : (t966 != 0) = false := bne_eq_false_iff_eq.mpr c4
      clear c4
      by_cases c5 : (t961.length : Int) = 1
      · rw [if_pos c5] at H
        have c5b0 : ((t961.length : Int) == 1) = true := beq_iff_eq.mpr c5
        have c5b1 : ((t961.length : Int) != 1) = false := bne_eq_false_iff_eq.mpr c5
        clear c5
        by_cases c6 : 0 < (t961.length : Int)
        · rw [if_pos c6] at H
          have c6b0 : decide (0 < (t961.length : Int)) = true := decide_eq_true c6
          have c6b1 : decide (0 < t961.length) = true := decide_eq_true (by omega)
          clear c6
          by_cases c7 : (rd t961 0) = 5
          · rw [if_pos c7] at H
            have c7b0 : ((rd t961 0) == 5) = true := beq_iff_eq.mpr c7
            have c7b1 : ((rd t961 0) != 5) = false := bne_eq_false_iff_eq.mpr c7
            clear c7
            obtain rfl := Option.some.inj H
            go_enter Try.func55, Try.ntmps55
            go_wp2_with (first | ((with_reducible refine gate_dst (N := 6) rfl ?_); (try (refine gate_guard (by rfl) ?_; dsimp only)); refine Kd.R_lit (Kd.int .i16) _ 74 ?hg (N := 6) ?hd (xs := ([1, 5, 9, 3] : List Int)) (inner := [.int .i16 1, .int .i16 5, .int .i16 9, .int .i16 3]) (ok := fun _ => True) (okp := fun _ => True) ?hr ?hp (fun _ hk => hk) trivial (Below.refl _ _) (Nat.le_refl _) (by simp) ?_; (case hd => rfl); (case hg => rfl); (case hr => first | (go_simp; done) | (go_simp; rfl)); (case hp => exact (Reps.one (show Kd.M (Kd.int .i16) _ _ _ 1 [.int .i16 1] from rfl) (Reps.one (show Kd.M (Kd.int .i16) _ _ _ 5 [.int .i16 5] from rfl) (Reps.one (show Kd.M (Kd.int .i16) _ _ _ 9 [.int .i16 9] from rfl) (Reps.one (show Kd.M (Kd.int .i16) _ _ _ 3 [.int .i16 3] from rfl) (Reps.none _ _)))))); intro v959 w8 ho9 hb hg_ hnew_; clear hg_ hnew_; (first | rw [← Ny958.out] at ho9 | (simp only [Int.reduceToNat] at ho9; rw [← Ny958.out] at ho9)); have n0_ := Aside0.mk (Kd.R_lower ho9 (below_size (by repeat (first | (with_reducible first | exact HB.out | apply below_alloc | apply pw_below_drewN | apply below_drew1) | exact HB.out)))); have n1_ := Aside0.mk (below_step (by repeat (first | (with_reducible first | exact HB.out | apply below_alloc | apply pw_below_drewN | apply below_drew1) | exact HB.out)) hb); clear HB; have HO960 := n0_; have HB := n1_; clear n0_ n1_; clear hb ho9; obtain ⟨Ao10, co10, eo10⟩ := Kd.R_slice HO960.out; subst eo10) | ((with_reducible refine gate_callee (f := 56) rfl ?_); refine goesL_ (some 7) rfl rfl Try.func56 (by kernel_rfl) rfl #[.slice Ao10 y958.length co10, .int .i64 2] rfl (by (try simp only [List.map_toArray, List.map_cons, List.map_nil]); first | done | rfl | (simp only [List.length_drop, List.length_take]; rfl)) ?_; (with_reducible refine (h_rank_Cuts.calls _ _ y958 2 t961 t962 _ ?side1 ?side2 A1.out).mono ?_); (case side1 => repeat (first | exact (Kd.R_reads' HO960.out).2.2 | (with_reducible refine Kd.C_alloc ?_ _) | (with_reducible refine Kd.C_drewN ?_ _) | (with_reducible refine Kd.C_drew ?_))); (case side2 => exact (Kd.R_reads' HO960.out).2.1); rintro e w11 ⟨v963, rfl, ho0, hb⟩; refine ⟨_, rfl, ?_⟩; have n0_ := Aside0.mk (Kd.R_elder' (by (with_reducible repeat (first | apply Kd.R_alloc | apply Kd.R_drewN | apply Kd.R_drew)); exact HO960.out) (Kd.R_base ho0) hb); have n1_ := Aside0.mk (Kd.R_lower (Kd.R_new' ho0 (Kd.R_lt (by (with_reducible repeat (first | apply Kd.R_alloc | apply Kd.R_drewN | apply Kd.R_drew)); exact HO960.out))) (below_size (by repeat (first | (with_reducible first | exact HB.out | apply below_alloc | apply pw_below_drewN | apply below_drew1) | exact HB.out)))); have n2_ := Aside0.mk (below_step (by repeat (first | (with_reducible first | exact HB.out | apply below_alloc | apply pw_below_drewN | apply below_drew1) | exact HB.out)) hb); clear HO960; clear HB; have HO960 := n0_; have HO964 := n1_; have HB := n2_; clear n0_ n1_ n2_; (try clear hb); (try clear hb2); (try clear hk); (try clear hi); (try clear ho0); obtain ⟨Ao12, co12, eo12⟩ := Kd.R_slice HO964.out; subst eo12) | ((with_reducible refine gate_callee (f := 58) rfl ?_); refine goesL_ (some 12) rfl rfl Try.func58 (by kernel_rfl) rfl #[.slice Ao12 t961.length co12, .int .i16 5] rfl (by (try simp only [List.map_toArray, List.map_cons, List.map_nil]); first | done | rfl | (simp only [List.length_drop, List.length_take]; rfl)) ?_; (with_reducible refine (h_rank_Cell.calls _ _ t961 5 t965 t966 _ ?side1 ?side2 A2.out).mono ?_); (case side1 => repeat (first | exact (Kd.R_reads' HO964.out).2.2 | (with_reducible refine Kd.C_alloc ?_ _) | (with_reducible refine Kd.C_drewN ?_ _) | (with_reducible refine Kd.C_drew ?_))); (case side2 => exact (Kd.R_reads' HO964.out).2.1); rintro e w13 ⟨rfl, hb⟩; refine ⟨_, rfl, ?_⟩; have n0_ := Aside0.mk (Kd.R_below (by (with_reducible repeat (first | apply Kd.R_alloc | apply Kd.R_drewN | apply Kd.R_drew)); exact HO960.out) hb); have n1_ := Aside0.mk (Kd.R_below (by (with_reducible repeat (first | apply Kd.R_alloc | apply Kd.R_drewN | apply Kd.R_drew)); exact HO964.out) hb); have n2_ := Aside0.mk (below_step (by repeat (first | (with_reducible first | exact HB.out | apply below_alloc | apply pw_below_drewN | apply below_drew1) | exact HB.out)) hb); clear HO960; clear HO964; clear HB; have HO960 := n0_; have HO964 := n1_; have HB := n2_; clear n0_ n1_ n2_; (try clear hb); (try clear hb2); (try clear hk); (try clear hi); have p967 : 0 ≤ (0 : Int) := (by omega); have q967 : 0 < (t961.length : Int) := of_decide_eq_true (by first | (with_reducible assumption) | assumption); obtain ⟨ad967, e967, hx967_0⟩ := Kd.at_int (Kd.R_reads' HO964.out).2.2 0 p967 q967; cases e967; have qi967 : (0 < t961.length) = True := eq_true (by omega); (try rw [show ((0 : Int)).toNat = 0 from rfl] at hx967_0); (try rw [Addr.add_zero'] at hx967_0); replace p967 := eq_true p967; replace q967 := eq_true q967))
            go_ret
            exact ⟨by first | rfl | (simp [errW_none, errW_some] <;> rfl) | (simp [*, errW_none, errW_some] <;> rfl), by repeat (first | (with_reducible first | exact HB.out | apply below_alloc | apply pw_below_drewN | apply below_drew1) | exact HB.out)⟩
          · rw [if_neg c7] at H
            have c7b0 : ((rd t961 0) == 5) = false := beq_eq_false_iff_ne.mpr c7
            have c7b1 : ((rd t961 0) != 5) = true := bne_iff_ne.mpr c7
            exact absurd (Option.some.inj H) (by rw [hT_]; decide)
        · rw [if_neg c6] at H
          exact absurd H (by simp)
      · rw [if_neg c5] at H
        have c5b0 : ((t961.length : Int) == 1) = false := beq_eq_false_iff_ne.mpr c5
        have c5b1 : ((t961.length : Int) != 1) = true := bne_iff_ne.mpr c5
        exact absurd (Option.some.inj H) (by rw [hT_]; decide)
    · rw [if_neg c4] at H
      have c4b0 : (t966 == 0) = false := beq_eq_false_iff_ne.mpr c4
      have c4b1 : (t966 != 0) = true := bne_iff_ne.mpr c4
      exact absurd (Option.some.inj H) (by rw [hT_]; decide)
  · rw [if_neg c3] at H
    have c3b0 : (t962 == 0) = false := beq_eq_false_iff_ne.mpr c3
    have c3b1 : (t962 != 0) = true := bne_iff_ne.mpr c3
    exact absurd (Option.some.inj H) (by rw [hT_]; decide)

/-- What is printed, where it answers true; else nothing. -/
def cuvettelaw06_live.f : Option Bool := if cuvettelaw06_live.f0  = some true then some true else none
theorem cuvettelaw06_live.calls (r : Bool) (w : World) (h : cuvettelaw06_live.f  = some r) :
    Calls Try.prog 55 #[] w fun e w' => e = .returned (.bool r) ∧ Below w.heap.size w w' := by
  unfold cuvettelaw06_live.f at h
  split at h
  case isFalse => cases h
  rename_i h0
  injection h with h
  subst h
  exact cuvettelaw06_live.calls0  true w h0 rfl
end Go.Proofs.Ytkjibgfgbfacdaa.P
end
/-! part: F60 -/
section
set_option linter.unusedVariables false
set_option linter.unusedSimpArgs false
namespace Go.Proofs.Ytkjibgfgbfacdaa.P
open Go.RowKit Go.Proofs.YtkjibgfgbfacdaaW.PrintWords Go.Proofs.YtkjibgfgbfacdaaW.PrintLast Go.Proofs.YtkjibgfgbfacdaaW.PrintMore
attribute [local go_sem] max2_int min2_int max_two min_two max_three min_three max_four min_four   -- for this text's walks alone
set_option linter.unusedVariables false
set_option linter.unusedSimpArgs false

/-! ### rank_Count: function 60 -/
def rank_Count.l0 : Nat → List Int → List Int → List Int → Int → Int → Option (List Int × Int)
  | 0, _, _, _, _, _ => none
  | k + 1, x0, x6, x23, x24, x25 => if x25 < x24 then (if 0 ≤ x25 then (if x25 < (x23.length : Int) then ((h_rank_Cell.f x0 (rd x23 x25)).bind fun bt1018 => (if bt1018.2 = 0 then (if 0 ≤ bt1018.1 then (if bt1018.1 < (x6.length : Int) then (rank_Count.l0 k x0 (x6.set (bt1018.1 : Int).toNat (wrap64 ((rd x6 bt1018.1) + 1))) x23 x24 (wrap64 (x25 + 1))) else (none)) else (none)) else (some (([] : List Int), bt1018.2)))) else (none)) else (none)) else (some (x6, 0))
def rank_Count.f (k : Nat) (l0 : List Int) (l1 : List Int) : Option (List Int × Int) := if (l1.length : Int) > 4096 then (some (([] : List Int), 3)) else ((rank_Check.f k l0).bind fun t1013 => (if t1013 = 0 then (if 0 ≤ (wrap64 ((l0.length : Int) + 1)) then (if (wrap64 ((l0.length : Int) + 1) : Int).toNat ≤ 35184372088832 then (rank_Count.l0 k l0 (List.replicate (wrap64 ((l0.length : Int) + 1) : Int).toNat 0) l1 (l1.length : Int) 0) else (none)) else (none)) else (some (([] : List Int), 1))))
theorem rank_Count.mono_l : ∀ k, (∀ y0 y1 y2 y3 y4, LeO (rank_Count.l0 k y0 y1 y2 y3 y4) (rank_Count.l0 (k + 1) y0 y1 y2 y3 y4))
  | 0 => fun _ _ _ _ _ r h => by simp [rank_Count.l0] at h
  | k + 1 => by
    have ih0 := rank_Count.mono_l k
    · intro y0 y1 y2 y3 y4
      unfold rank_Count.l0
      repeat' first
      | (with_reducible exact ih0 _ _ _ _ _)
      | (with_reducible exact rank_Check.mono _ _)
      | (with_reducible exact LeO.refl _)
      | (with_reducible exact LeO.none _)
      | (with_reducible refine LeO.ite ?_ ?_)
      | (with_reducible refine LeO.bind ?_ (fun _ => ?_))
      | exact ih0 _ _ _ _ _
      | exact rank_Check.mono _ _
      | exact LeO.none _
      | refine LeO.ite ?_ ?_
      | refine LeO.bind ?_ (fun _ => ?_)
theorem rank_Count.mono : ∀ a0 a1 k, LeO (rank_Count.f k a0 a1) (rank_Count.f (k + 1) a0 a1) := by
  intro a0 a1 k
  have ih0 := rank_Count.mono_l k
  unfold rank_Count.f
  repeat' first
      | (with_reducible exact ih0 _ _ _ _ _)
      | (with_reducible exact rank_Check.mono _ _)
      | (with_reducible exact LeO.refl _)
      | (with_reducible exact LeO.none _)
      | (with_reducible refine LeO.ite ?_ ?_)
      | (with_reducible refine LeO.bind ?_ (fun _ => ?_))
      | exact ih0 _ _ _ _ _
      | exact rank_Check.mono _ _
      | exact LeO.none _
      | refine LeO.ite ?_ ?_
      | refine LeO.bind ?_ (fun _ => ?_)
set_option maxHeartbeats 8000000 in
set_option maxRecDepth 100000 in
theorem rank_Count.calls (k : Nat) (A0 : Option Addr) (c0 : Nat) (l0 : List Int) (A1 : Option Addr) (c1 : Nat) (l1 : List Int) (r1 : List Int) (r2 : Int) (w : World) (hr0 : Kd.C (Kd.int .i16) w A0 l0.length l0) (hc0 : l0.length ≤ c0) (hr1 : Kd.C (Kd.int .i16) w A1 l1.length l1) (hc1 : l1.length ≤ c1) (h : rank_Count.f k l0 l1 = some (r1, r2)) :
    Calls Try.prog 60 #[.slice A0 l0.length c0, .slice A1 l1.length c1] w fun e w' => ∃ v0_ : Value, e = .returned (.tuple #[v0_, .int .i64 r2]) ∧ Kd.R (Kd.int .i64) 3 w' w.heap.size (fun _ => True) v0_ r1 ∧ Below w.heap.size w w' := by
  have HR0 := Aside0.mk hr0
  have HC0 := Aside0.mk hc0
  clear hr0 hc0
  have HR1 := Aside0.mk hr1
  have HC1 := Aside0.mk hc1
  clear hr1 hc1
  have HB := Aside0.mk (Below.refl w.heap.size w)
  have H : (if (l1.length : Int) > 4096 then (some (([] : List Int), 3)) else ((rank_Check.f k l0).bind fun t1013 => (if t1013 = 0 then (if 0 ≤ (wrap64 ((l0.length : Int) + 1)) then (if (wrap64 ((l0.length : Int) + 1) : Int).toNat ≤ 35184372088832 then (rank_Count.l0 k l0 (List.replicate (wrap64 ((l0.length : Int) + 1) : Int).toNat 0) l1 (l1.length : Int) 0) else (none)) else (none)) else (some (([] : List Int), 1))))) = some (r1, r2) := h
  clear h
  by_cases c3 : (l1.length : Int) > 4096
  · rw [if_pos c3] at H
    have c3b0 : decide (4096 < (l1.length : Int)) = true := decide_eq_true c3
    have c3b1 : decide (4096 < l1.length) = true := decide_eq_true (by omega)
    clear c3
    simp only [Option.some.injEq, Prod.mk.injEq] at H
    obtain ⟨rfl, rfl⟩ := H
    go_enter Try.func60, Try.ntmps60
    go_wp2
    go_ret2
    exact ⟨_, by first | rfl | (simp [errW_none, errW_some] <;> rfl) | (simp [*, errW_none, errW_some] <;> rfl), by first | exact Kd.R_nil _ _ _ _ _ | exact Kd.N_nil _ _ _ _ _ | exact Kd.V_nil _ _ _ _ _ | exact Kd.Q_nil _ _ _ _ _ | exact Kd.S_nil _ _ _ _ _, by repeat (first | (with_reducible first | exact HB.out | apply below_alloc | apply pw_below_drewN | apply below_drew1) | exact HB.out)⟩
  · rw [if_neg c3] at H
    have c3b0 : decide (4096 < (l1.length : Int)) = false := decide_eq_false c3
    have c3b1 : decide (4096 < l1.length) = false := decide_eq_false (by omega)
    clear c3
    replace H := Option.bind_eq_some_iff.mp H
    obtain ⟨t1013, A40, H⟩ := H
    replace H : (if t1013 = 0 then (if 0 ≤ (wrap64 ((l0.length : Int) + 1)) then (if (wrap64 ((l0.length : Int) + 1) : Int).toNat ≤ 35184372088832 then (rank_Count.l0 k l0 (List.replicate (wrap64 ((l0.length : Int) + 1) : Int).toNat 0) l1 (l1.length : Int) 0) else (none)) else (none)) else (some (([] : List Int), 1))) = some (r1, r2) := H
    have A4 := Aside0.mk A40
    clear A40
    by_cases c5 : t1013 = 0
    · rw [if_pos c5] at H
      have c5b0 : (t1013 == 0) = true := beq_iff_eq.mpr c5
      have c5b1 : (t1013 != 0) = false := bne_eq_false_iff_eq.mpr c5
      clear c5
      obtain ⟨ji6, hji6⟩ : ∃ j_ : Int, (wrap64 ((l0.length : Int) + 1)) = j_ := ⟨_, rfl⟩
      replace H : (if 0 ≤ (ji6) then (if (ji6 : Int).toNat ≤ 35184372088832 then (rank_Count.l0 k l0 (List.replicate (ji6 : Int).toNat 0) l1 (l1.length : Int) 0) else (none)) else (none)) = some (r1, r2) := by first | (rw [hji6] at H; exact H) | (simp only [hji6] at H ⊢; exact H)
      (try rw [hji6] at A4)
      have hji6w : (IntKind.i64.wrap ((l0.length : Int) + 1)) = ji6 := (i64_w _).trans hji6
      by_cases c7 : 0 ≤ (ji6)
      · rw [if_pos c7] at H
        have c7b0 := eq_true c7
        have c7b1 : decide (0 ≤ (ji6)) = true := decide_eq_true c7
        clear c7
        by_cases c8 : (ji6 : Int).toNat ≤ 35184372088832
        · rw [if_pos c8] at H
          have c8b0 := eq_true c8
          have c8b1 : decide ((ji6 : Int).toNat ≤ 35184372088832) = true := decide_eq_true c8
          clear c8
          obtain ⟨y1014, hy1014⟩ : ∃ y_ : List Int, y_ = (List.replicate (ji6 : Int).toNat 0) := ⟨_, rfl⟩
          replace H : (rank_Count.l0 k l0 y1014 l1 (l1.length : Int) 0) = some (r1, r2) := by first | (rw [hy1014]; with_reducible exact H) | (have H2_ := (Option.bind_some _ _).symm.trans H; rw [hy1014]; with_reducible exact H2_) | (have H2_ := (Option.bind_some _ _).symm.trans H; with_reducible exact H2_) | with_reducible exact H | (rw [hy1014]; exact H) | exact H
          have Ny1014 := Aside0.mk hy1014
          clear hy1014
          have H' := Aside0.mk H
          clear H
          go_enter Try.func60, Try.ntmps60
          go_wp2_with (first | ((with_reducible refine gate_callee (f := 61) rfl ?_); refine goesL_ (some 17) rfl rfl Try.func61 (by kernel_rfl) rfl #[.slice A0 l0.length c0] rfl (by (try simp only [List.map_toArray, List.map_cons, List.map_nil]); first | done | rfl | (simp only [List.length_drop, List.length_take]; rfl)) ?_; (with_reducible refine (rank_Check.calls k _ _ l0 t1013 _ ?side1 ?side2 A4.out).mono ?_); (case side1 => repeat (first | exact HR0.out | (with_reducible refine Kd.C_alloc ?_ _) | (with_reducible refine Kd.C_drewN ?_ _) | (with_reducible refine Kd.C_drew ?_))); (case side2 => exact HC0.out); rintro e w' ⟨rfl, ⟨nd, rfl⟩⟩; refine ⟨_, rfl, ?_⟩) | ((with_reducible refine gate_dst (N := 22) rfl ?_); refine Kd.R_make (Kd.int .i64) _ 3 rfl (N := 22) rfl 84 _ _ rfl ji6 rfl rfl Try.underlying84 (.int .i64 0) 8 info3 rfl (by decide) (by omega) 0 (ok := fun _ => True) (okp := fun _ => True) rfl (fun _ hk => hk) trivial (of_decide_eq_true (by first | (with_reducible assumption) | assumption)) (Nat.le_trans (Nat.mul_le_mul_right _ (of_decide_eq_true (by first | (with_reducible assumption) | assumption) : ji6.toNat ≤ 35184372088832)) (by omega)) (Below.refl _ _) (Nat.le_refl _) ?_; intro v1015 w9 ho10 hb hg_ hnew_; clear hg_ hnew_; (first | rw [← Ny1014.out] at ho10 | (simp only [Int.reduceToNat] at ho10; rw [← Ny1014.out] at ho10)); have n0_ := Aside0.mk (Kd.R_lower ho10 (below_size (by repeat (first | (with_reducible first | exact HB.out | apply below_alloc | apply pw_below_drewN | apply below_drew1) | exact HB.out)))); have n1_ := Aside0.mk (below_step (by repeat (first | (with_reducible first | exact HB.out | apply below_alloc | apply pw_below_drewN | apply below_drew1) | exact HB.out)) hb); clear HB; have HO1016 := n0_; have HB := n1_; clear n0_ n1_; clear hb ho10))
          go_loopg [25] k (fun kq v25 w' => ∃ (x6_1 : List Int) (x25_1 : Int), v25 = .int .i64 x25_1 ∧ Aside0 (rank_Count.l0 kq l0 x6_1 l1 (l1.length : Int) x25_1 = some (r1, r2)) ∧ Aside0 (kq ≤ k) ∧ Aside0 (Kd.R (Kd.int .i64) 3 w' w.heap.size (fun _ => True) v1015 x6_1) ∧ Aside0 (Below w.heap.size w w'))
          case atStart => exact ⟨(y1014), (0), (by first | rfl | (simp; done) | (simp [*]; done)), H', ⟨Nat.le_refl _⟩, ⟨by (with_reducible repeat (first | apply Kd.R_alloc | apply Kd.R_drewN | apply Kd.R_drew)); exact HO1016.out⟩, ⟨by repeat (first | (with_reducible first | exact HB.out | apply below_alloc | apply pw_below_drewN | apply below_drew1) | exact HB.out)⟩⟩
          case round =>
            clear H'
            try clear c1
            try clear p2
            try clear c3
            try clear c3b0
            try clear c3b1
            try clear c5
            try clear c5b0
            try clear c5b1
            try clear c6
            try clear p6
            try clear c7
            try clear c7b0
            try clear c7b1
            try clear c8
            try clear c8b0
            try clear c8b1
            obtain ⟨x6_1, x25_1, rfl, HA, HK1, HO_6, HB⟩ := hrel
            cases gk with
            | zero => exact absurd HA.out (by simp [rank_Count.l0])
            | succ k1 =>
              have H := HA.out
              clear HA
              simp only [rank_Count.l0] at H
              by_cases c11 : x25_1 < (l1.length : Int)
              · rw [if_pos c11] at H
                have c11b0 : decide (x25_1 < (l1.length : Int)) = true := decide_eq_true c11
                clear c11
                by_cases c12 : 0 ≤ x25_1
                · rw [if_pos c12] at H
                  have c12b0 : decide (0 ≤ x25_1) = true := decide_eq_true c12
                  clear c12
                  by_cases c13 : x25_1 < (l1.length : Int)
                  · rw [if_pos c13] at H
                    have c13b0 : decide (x25_1 < (l1.length : Int)) = true := decide_eq_true c13
                    clear c13
                    replace H := Option.bind_eq_some_iff.mp H
                    obtain ⟨⟨t1018, t1019⟩, A140, H⟩ := H
                    replace H : (if t1019 = 0 then (if 0 ≤ t1018 then (if t1018 < (x6_1.length : Int) then (rank_Count.l0 k1 l0 (x6_1.set (t1018 : Int).toNat (wrap64 ((rd x6_1 t1018) + 1))) l1 (l1.length : Int) (wrap64 (x25_1 + 1))) else (none)) else (none)) else (some (([] : List Int), t1019))) = some (r1, r2) := H
                    have A14 := Aside0.mk A140
                    clear A140
                    by_cases c15 : t1019 = 0
                    · rw [if_pos c15] at H
                      have c15b0 : (t1019 == 0) = true := beq_iff_eq.mpr c15
                      have c15b1 : (t1019 != 0) = false := bne_eq_false_iff_eq.mpr c15
                      clear c15
                      by_cases c16 : 0 ≤ t1018
                      · rw [if_pos c16] at H
                        have c16b0 : decide (0 ≤ t1018) = true := decide_eq_true c16
                        clear c16
                        by_cases c17 : t1018 < (x6_1.length : Int)
                        · rw [if_pos c17] at H
                          have c17b0 : decide (t1018 < (x6_1.length : Int)) = true := decide_eq_true c17
                          clear c17
                          obtain ⟨y1021, hy1021⟩ : ∃ y_ : List Int, y_ = (x6_1.set (t1018 : Int).toNat (wrap64 ((rd x6_1 t1018) + 1))) := ⟨_, rfl⟩
                          replace H : (rank_Count.l0 k1 l0 y1021 l1 (l1.length : Int) (wrap64 (x25_1 + 1))) = some (r1, r2) := by first | (rw [hy1021]; with_reducible exact H) | (have H2_ := (Option.bind_some _ _).symm.trans H; rw [hy1021]; with_reducible exact H2_) | (have H2_ := (Option.bind_some _ _).symm.trans H; with_reducible exact H2_) | with_reducible exact H | (rw [hy1021]; exact H) | exact H
                          have Ny1021 := Aside0.mk hy1021
                          clear hy1021
                          have H' := Aside0.mk H
                          clear H
                          have p1017 : 0 ≤ (x25_1 : Int) := of_decide_eq_true (by first | (with_reducible assumption) | assumption)
                          have q1017 : x25_1 < (l1.length : Int) := of_decide_eq_true (by first | (with_reducible assumption) | assumption)
                          obtain ⟨ad1017, e1017, hx1017_0⟩ := Kd.at_int HR1.out x25_1 p1017 q1017
                          cases e1017
                          (try replace hx1017_0 := (HB.out.cell (World.block_lt_of_cell? w _ hx1017_0)).trans hx1017_0)
                          replace p1017 := eq_true p1017
                          replace q1017 := eq_true q1017
                          go_wp2_with (first | ((with_reducible refine gate_callee (f := 58) rfl ?_); refine goesL_ (some 32) rfl rfl Try.func58 (by kernel_rfl) rfl #[.slice A0 l0.length c0, .int .i16 (rd l1 x25_1)] rfl (by (try simp only [List.map_toArray, List.map_cons, List.map_nil]); first | done | rfl | (simp only [List.length_drop, List.length_take]; rfl)) ?_; (with_reducible refine (h_rank_Cell.calls _ _ l0 (rd l1 x25_1) t1018 t1019 _ ?side1 ?side2 A14.out).mono ?_); (case side1 => repeat (first | exact (Kd.C_below HR0.out HB.out) | (with_reducible refine Kd.C_alloc ?_ _) | (with_reducible refine Kd.C_drewN ?_ _) | (with_reducible refine Kd.C_drew ?_))); (case side2 => exact HC0.out); rintro e w19 ⟨rfl, hb⟩; refine ⟨_, rfl, ?_⟩; have n0_ := Aside0.mk (Kd.R_below (by (with_reducible repeat (first | apply Kd.R_alloc | apply Kd.R_drewN | apply Kd.R_drew)); exact HO_6.out) hb); have n1_ := Aside0.mk (below_step (by repeat (first | (with_reducible first | exact HB.out | apply below_alloc | apply pw_below_drewN | apply below_drew1) | exact HB.out)) hb); clear HO_6; clear HB; have HO_6 := n0_; have HB := n1_; clear n0_ n1_; (try clear hb); (try clear hb2); (try clear hk); (try clear hi); obtain ⟨Ao20, co20, eo20⟩ := Kd.R_slice HO_6.out; subst eo20; have p1020 : 0 ≤ (t1018 : Int) := of_decide_eq_true (by first | (with_reducible assumption) | assumption); have q1020 : t1018 < (x6_1.length : Int) := of_decide_eq_true (by first | (with_reducible assumption) | assumption); obtain ⟨ad1020, e1020, hx1020_0⟩ := Kd.at_int (Kd.R_reads' HO_6.out).2.2 t1018 p1020 q1020; cases e1020; replace p1020 := eq_true p1020; replace q1020 := eq_true q1020; have p18 : 0 ≤ (t1018 : Int) := of_decide_eq_true (by first | (with_reducible assumption) | assumption); have q18 : (t1018 : Int) < ((x6_1.length : Int) : Int) := of_decide_eq_true (by first | (with_reducible assumption) | assumption); obtain ⟨go18, co18, eo18, gb18, gl18, cl18, HG18⟩ := Kd.R_form HO_6.out (by omega); (first | cases eo18 | (injection eo18 with ea_ en_ ec_; (first | subst ea_ | (injection ea_ with ea_; subst ea_)); subst ec_; clear en_)); have GB18 := Aside0.mk gb18; have GG18 := Aside0.mk HG18; clear gb18 gl18 HG18; (first | simp only [add_plain] at hx1020_0 | skip); obtain ⟨hx18_0, hf18_0⟩ := Kd.R_celln 0 HO_6.out (t1018 : Int) p18 q18; replace p18 := eq_true p18; replace q18 := eq_true q18; obtain ⟨hy21_, hz21_⟩ := Kd.R_celln 0 HO_6.out (t1018 : Int) (of_decide_eq_true (by first | (with_reducible assumption) | assumption)) (of_decide_eq_true (by first | (with_reducible assumption) | assumption)); have HP21 := Kd.R_putg HO_6.out (t1018 : Int) (wrap64 ((rd x6_1 t1018) + 1))) | ((with_reducible refine gate_store (t := 3) (p := 43) rfl ?_); refine store_event (t := 3) (p := 43) (v := ?vo_w22) (w1 := (w19.setCell ⟨go18, (t1018 : Int).toNat, none⟩ (.int .i64 (wrap64 ((rd x6_1 t1018) + 1))))) ?hg ?ho ?hn ?hr ?_; (case ho => rfl); (case hg => rfl); (case hn => rfl); (case hr => first | (go_simp; done) | (go_simp; rfl)); intro w22 hw; have hg : w19.grownBy w22 (some go18) := (by rw [hw]; exact HP21.2); have hp_ : Kd.R (Kd.int .i64) 3 w22 w.heap.size (fun _ => True) (.slice (some ⟨go18, 0, none⟩) x6_1.length co20) y1021 := (by rw [hw, Ny1021.out]; exact HP21.1); clear HP21; have n0_ := Aside0.mk (hp_); have n1_ := Aside0.mk ((by rw [hw]; exact below_set (HB.out) GB18.out : Below w.heap.size w w22)); clear HO_6; clear HB; have HO_6 := n0_; have HB := n1_; clear n0_ n1_; clear hg hw hp_))
                          first | go_roundg k1 | (simp only [← hji6]; go_roundg k1)
                          case measure => have := HK1.out; omega
                          case rel => exact ⟨(y1021), (wrap64 (x25_1 + 1)), (by first | rfl | (simp; done) | (simp [*]; done)), (by first | exact H' | (rw [hji6]; exact H')), ⟨by have := HK1.out; omega⟩, ⟨by (with_reducible repeat (first | apply Kd.R_alloc | apply Kd.R_drewN | apply Kd.R_drew)); exact HO_6.out⟩, ⟨by repeat (first | (with_reducible first | exact HB.out | apply below_alloc | apply pw_below_drewN | apply below_drew1) | exact HB.out)⟩⟩
                        · rw [if_neg c17] at H
                          exact absurd H (by simp)
                      · rw [if_neg c16] at H
                        exact absurd H (by simp)
                    · rw [if_neg c15] at H
                      have c15b0 : (t1019 == 0) = false := beq_eq_false_iff_ne.mpr c15
                      have c15b1 : (t1019 != 0) = true := bne_iff_ne.mpr c15
                      simp only [Option.some.injEq, Prod.mk.injEq] at H
                      obtain ⟨rfl, rfl⟩ := H
                      have p1017 : 0 ≤ (x25_1 : Int) := of_decide_eq_true (by first | (with_reducible assumption) | assumption)
                      have q1017 : x25_1 < (l1.length : Int) := of_decide_eq_true (by first | (with_reducible assumption) | assumption)
                      obtain ⟨ad1017, e1017, hx1017_0⟩ := Kd.at_int HR1.out x25_1 p1017 q1017
                      cases e1017
                      (try replace hx1017_0 := (HB.out.cell (World.block_lt_of_cell? w _ hx1017_0)).trans hx1017_0)
                      replace p1017 := eq_true p1017
                      replace q1017 := eq_true q1017
                      go_wp2_with (first | ((with_reducible refine gate_callee (f := 58) rfl ?_); refine goesL_ (some 32) rfl rfl Try.func58 (by kernel_rfl) rfl #[.slice A0 l0.length c0, .int .i16 (rd l1 x25_1)] rfl (by (try simp only [List.map_toArray, List.map_cons, List.map_nil]); first | done | rfl | (simp only [List.length_drop, List.length_take]; rfl)) ?_; (with_reducible refine (h_rank_Cell.calls _ _ l0 (rd l1 x25_1) t1018 t1019 _ ?side1 ?side2 A14.out).mono ?_); (case side1 => repeat (first | exact (Kd.C_below HR0.out HB.out) | (with_reducible refine Kd.C_alloc ?_ _) | (with_reducible refine Kd.C_drewN ?_ _) | (with_reducible refine Kd.C_drew ?_))); (case side2 => exact HC0.out); rintro e w23 ⟨rfl, hb⟩; refine ⟨_, rfl, ?_⟩; have n0_ := Aside0.mk (Kd.R_below (by (with_reducible repeat (first | apply Kd.R_alloc | apply Kd.R_drewN | apply Kd.R_drew)); exact HO_6.out) hb); have n1_ := Aside0.mk (below_step (by repeat (first | (with_reducible first | exact HB.out | apply below_alloc | apply pw_below_drewN | apply below_drew1) | exact HB.out)) hb); clear HO_6; clear HB; have HO_6 := n0_; have HB := n1_; clear n0_ n1_; (try clear hb); (try clear hb2); (try clear hk); (try clear hi)))
                      go_ret2
                      exact ⟨_, by first | rfl | (simp [errW_none, errW_some] <;> rfl) | (simp only [← hji6]; first | rfl | (simp [errW_none, errW_some] <;> rfl)) | (simp [*, errW_none, errW_some] <;> rfl), by first | exact Kd.R_nil _ _ _ _ _ | exact Kd.N_nil _ _ _ _ _ | exact Kd.V_nil _ _ _ _ _ | exact Kd.Q_nil _ _ _ _ _ | exact Kd.S_nil _ _ _ _ _, by repeat (first | (with_reducible first | exact HB.out | apply below_alloc | apply pw_below_drewN | apply below_drew1) | exact HB.out)⟩
                  · rw [if_neg c13] at H
                    exact absurd H (by simp)
                · rw [if_neg c12] at H
                  exact absurd H (by simp)
              · rw [if_neg c11] at H
                have c11b0 : decide (x25_1 < (l1.length : Int)) = false := decide_eq_false c11
                clear c11
                simp only [Option.some.injEq, Prod.mk.injEq] at H
                obtain ⟨rfl, rfl⟩ := H
                go_wp2
                go_ret2
                exact ⟨_, by first | rfl | (simp [errW_none, errW_some] <;> rfl) | (simp only [← hji6]; first | rfl | (simp [errW_none, errW_some] <;> rfl)) | (simp [*, errW_none, errW_some] <;> rfl), by (with_reducible repeat (first | apply Kd.R_alloc | apply Kd.R_drewN | apply Kd.R_drew)); exact HO_6.out, by repeat (first | (with_reducible first | exact HB.out | apply below_alloc | apply pw_below_drewN | apply below_drew1) | exact HB.out)⟩
        · rw [if_neg c8] at H
          exact absurd H (by simp)
      · rw [if_neg c7] at H
        exact absurd H (by simp)
    · rw [if_neg c5] at H
      have c5b0 : (t1013 == 0) = false := beq_eq_false_iff_ne.mpr c5
      have c5b1 : (t1013 != 0) = true := bne_iff_ne.mpr c5
      simp only [Option.some.injEq, Prod.mk.injEq] at H
      obtain ⟨rfl, rfl⟩ := H
      go_enter Try.func60, Try.ntmps60
      go_wp2_with (first | ((with_reducible refine gate_callee (f := 61) rfl ?_); refine goesL_ (some 17) rfl rfl Try.func61 (by kernel_rfl) rfl #[.slice A0 l0.length c0] rfl (by (try simp only [List.map_toArray, List.map_cons, List.map_nil]); first | done | rfl | (simp only [List.length_drop, List.length_take]; rfl)) ?_; (with_reducible refine (rank_Check.calls k _ _ l0 t1013 _ ?side1 ?side2 A4.out).mono ?_); (case side1 => repeat (first | exact HR0.out | (with_reducible refine Kd.C_alloc ?_ _) | (with_reducible refine Kd.C_drewN ?_ _) | (with_reducible refine Kd.C_drew ?_))); (case side2 => exact HC0.out); rintro e w' ⟨rfl, ⟨nd, rfl⟩⟩; refine ⟨_, rfl, ?_⟩))
      go_ret2
      exact ⟨_, by first | rfl | (simp [errW_none, errW_some] <;> rfl) | (simp [*, errW_none, errW_some] <;> rfl), by first | exact Kd.R_nil _ _ _ _ _ | exact Kd.N_nil _ _ _ _ _ | exact Kd.V_nil _ _ _ _ _ | exact Kd.Q_nil _ _ _ _ _ | exact Kd.S_nil _ _ _ _ _, by repeat (first | (with_reducible first | exact HB.out | apply below_alloc | apply pw_below_drewN | apply below_drew1) | exact HB.out)⟩

end Go.Proofs.Ytkjibgfgbfacdaa.P
end
