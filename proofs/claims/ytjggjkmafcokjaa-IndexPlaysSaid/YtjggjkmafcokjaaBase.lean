/- Words for the walks: a later world; a slice that reads as a list; no program is named here. -/
import Derived.WalkKit
import Derived.WalkLawsBesides
import Derived.WalkSpells
import Derived.Lib.Strings
import Derived.Deep.LoopGhost
import Derived.Deep.QuietTactic
import Derived.BigQuiet
import Derived.Deep.DeepMust
set_option linter.unusedVariables false
set_option linter.unusedSimpArgs false
namespace Go.Proofs.Ytjggjkmafcokjaa
open Go.RowKit

theorem hid {p : Prop} (h : p) : Hid p := h
theorem ret_int {k : IntKind} {a b : Int} (h : a = b) : Ending.returned (.int k a) = .returned (.int k b) := by rw [h]
theorem ret_bool {a b : Bool} (h : a = b) : Ending.returned (.bool a) = .returned (.bool b) := by rw [h]
theorem len_toList (s : ByteArray) : s.toList.length = s.size := by rw [Lib.toList_data]; simp
theorem toList_inj {s t : ByteArray} (h : s.toList = t.toList) : s = t := by
  rw [Lib.toList_data, Lib.toList_data] at h
  obtain ⟨⟨x⟩⟩ := s
  obtain ⟨⟨y⟩⟩ := t
  simp at h
  rw [h]
theorem of_bne {a b : Int} (h : (a != b) = false) : a = b := by simpa using h

/-! A later world -/
theorem bcell {W w1 : World} (hb : Below W.heap.size W w1) : (∀ b o, b < W.heap.size → w1.cell? ⟨b, o, none⟩ = W.cell? ⟨b, o, none⟩) ∧ (∀ b o, b < W.heap.size → w1.frozen? ⟨b, o, none⟩ = W.frozen? ⟨b, o, none⟩) :=
  ⟨fun b o h => hb.cell (p := ⟨b, o, none⟩) h, fun b o h => hb.frozen (p := ⟨b, o, none⟩) h⟩
/-- A later world: all that was there is as it was. -/
def Ext (w w' : World) : Prop := Below w.heap.size w w'
theorem Ext.refl (w : World) : Ext w w := Below.refl _ _
theorem Ext.trans {a b c : World} (h : Ext a b) (k : Ext b c) : Ext a c := Below.trans h (Below.mono k h.size)
theorem Ext.alloc {a b : World} (h : Ext a b) (o : Obj) : Ext a (b.alloc o) := Below.alloc h h.size o
theorem Ext.drewN {a b : World} (h : Ext a b) (n : Nat) : Ext a (b.drewN n) := below_drewN h n
theorem Ext.drew {a b : World} (h : Ext a b) : Ext a b.drew := Below.drew h
theorem Ext.setCell {a b : World} (h : Ext a b) {p : Addr} (hp : a.heap.size ≤ p.block) (u : Value) : Ext a (b.setCell p u) := Below.setCell h hp u
theorem Ext.grown {a w w' : World} {row : Option Nat} (h : Ext a w) (hg : w.grownBy w' row) (hr : ∀ k, row = some k → a.heap.size ≤ k) : Ext a w' := Below.grown h hg h.size hr
theorem Ext.cell {W w1 : World} (hb : Ext W w1) : ∀ b o, b < W.heap.size → w1.cell? ⟨b, o, none⟩ = W.cell? ⟨b, o, none⟩ := (bcell hb).1
theorem Ext.frozen {W w1 : World} (hb : Ext W w1) : ∀ b o, b < W.heap.size → w1.frozen? ⟨b, o, none⟩ = W.frozen? ⟨b, o, none⟩ := (bcell hb).2
theorem Ext.size {W w1 : World} (hb : Ext W w1) : W.heap.size ≤ w1.heap.size := Below.size hb
theorem Ext.block {W w1 : World} (hb : Ext W w1) : ∀ b, b < W.heap.size → w1.heap[b]? = W.heap[b]? := Below.block hb
theorem lt_of_cell {w : World} {a : Addr} {v : Value} (h : w.cell? a = some v) : a.block < w.heap.size := by
  rcases Nat.lt_or_ge a.block w.heap.size with h' | h'
  · exact h'
  · unfold World.cell? at h; rw [Array.getElem?_eq_none h'] at h; cases h
theorem Ext.keep {W w1 : World} (hb : Ext W w1) {a : Addr} {v : Value} (h : W.cell? a = some v) : w1.cell? a = some v := by
  rw [Below.cell hb (lt_of_cell h)]; exact h

/-! A slice that reads as a list -/
/-- The cells 'cs' lie at block 'b' from 'o' on. -/
def CellsAt (w : World) (b o : Nat) (cs : List Value) : Prop := ∀ j v, cs[j]? = some v → w.cell? ⟨b, o + j, none⟩ = some v
/-- A slice value (its address, length, capacity) whose elements, of 'sz' cells each, are the members of 'xs' as 'c' lays them. -/
structure Sl {α : Type} (w : World) (sz : Nat) (c : α → List Value) (a : Option Addr) (n cap : Nat) (xs : List α) : Prop where
  neq : n = xs.length
  len : n ≤ cap
  max : cap ≤ maxLen
  none : a = .none → cap = 0
  wid : ∀ x, (c x).length = sz
  at_ : ∀ k x, xs[k]? = some x → ∃ b o, a = some ⟨b, o, .none⟩ ∧ CellsAt w b (o + k * sz) (c x)
section
variable {α : Type} {w w' : World} {sz : Nat} {c : α → List Value} {a : Option Addr} {n cap : Nat} {xs : List α}
theorem Sl.ext (h : Sl w sz c a n cap xs) (hx : Ext w w') : Sl w' sz c a n cap xs :=
  ⟨h.neq, h.len, h.max, h.none, h.wid, fun k x hk => let ⟨b, o, ha, hc⟩ := h.at_ k x hk; ⟨b, o, ha, fun j v hj => hx.keep (hc j v hj)⟩⟩
theorem Sl.nil (w : World) (hw : ∀ x, (c x).length = sz) : Sl w sz c .none 0 0 ([] : List α) :=
  ⟨rfl, Nat.le_refl _, Nat.zero_le _, fun _ => rfl, hw, fun k x hk => by cases hk⟩
theorem Sl.get (h : Sl w sz c a n cap xs) (k : Nat) (hk : k < xs.length) : ∃ b o, a = some ⟨b, o, .none⟩ ∧ CellsAt w b (o + k * sz) (c xs[k]) := h.at_ k _ (List.getElem?_eq_getElem hk)
end

/-! Lists that are searched -/
theorem any_take {α : Type} {p : α → Bool} {xs : List α} {k : Nat} (hk : k < xs.length) (h : (xs.take k).any p = false) (he : p xs[k] = false) : (xs.take (k + 1)).any p = false := by
  rw [List.take_succ_eq_append_getElem hk, List.any_append, h]; simp [he]
theorem any_found {α : Type} {p : α → Bool} {xs : List α} {k : Nat} (hk : k < xs.length) (he : p xs[k] = true) : true = xs.any p :=
  (List.any_eq_true.2 ⟨xs[k], List.getElem_mem hk, he⟩).symm
theorem any_none {α : Type} {p : α → Bool} {xs : List α} {k : Nat} (h : (xs.take k).any p = false) (hk : ¬ k < xs.length) : false = xs.any p := by
  rw [List.take_of_length_le (by omega)] at h; exact h.symm
/-- the place of the first member that is so; -1: there is none -/
def idxBy {α : Type} (p : α → Bool) (xs : List α) : Int := match xs.findIdx? p with | some k => (k : Int) | none => -1
theorem idx_found {α : Type} {p : α → Bool} {xs : List α} {k : Nat} (hk : k < xs.length) (h : (xs.take k).any p = false) (he : p xs[k] = true) : (k : Int) = idxBy p xs := by
  have : xs.findIdx? p = some k := by
    rw [List.findIdx?_eq_some_iff_getElem]
    refine ⟨hk, he, fun j hj => ?_⟩
    rw [List.any_eq_false] at h
    have := h xs[j] (List.mem_take_iff_getElem.2 ⟨j, by omega, rfl⟩)
    simpa using this
  unfold idxBy; rw [this]
theorem idx_none {α : Type} {p : α → Bool} {xs : List α} (h : false = xs.any p) : -1 = idxBy p xs := by
  have : xs.findIdx? p = none := by
    rw [List.findIdx?_eq_none_iff]
    intro x hx
    have := List.any_eq_false.1 h.symm x hx
    simpa using this
  unfold idxBy; rw [this]
theorem idx_ge {α : Type} (p : α → Bool) (xs : List α) : decide (0 ≤ idxBy p xs) = xs.any p := by
  cases h : xs.any p with
  | false => rw [← idx_none h.symm]; rfl
  | true =>
    unfold idxBy
    cases e : xs.findIdx? p with
    | none =>
      rw [List.findIdx?_eq_none_iff] at e
      obtain ⟨x, hx, hp⟩ := List.any_eq_true.1 h
      rw [e x hx] at hp; cases hp
    | some k => simp
theorem any_congr {α : Type} {p q : α → Bool} {xs : List α} (h : ∀ x, p x = q x) : xs.any p = xs.any q := by rw [show p = q from funext h]

end Go.Proofs.Ytjggjkmafcokjaa
