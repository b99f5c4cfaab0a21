/- A slice of a slice. -/
import Derived.Test.YtiifflojpoobpaaGreatReduce
set_option linter.unusedVariables false
set_option linter.unusedSimpArgs false
namespace Go.Proofs.YtiifflojpoobpaaGreat
open Go.RowKit

theorem Sl.take {α : Type} {w : World} {sz : Nat} {c : α → List Value} {a : Option Addr} {n cap : Nat} {xs : List α} (h : Sl w sz c a n cap xs) (k : Nat) (hk : k ≤ n) : Sl w sz c a k cap (xs.take k) :=
  ⟨by rw [List.length_take]; have := h.neq; omega, Nat.le_trans hk h.len, h.max, h.none, h.wid, fun j x hj => by
    rw [List.getElem?_take] at hj
    split at hj
    · exact h.at_ j x hj
    · cases hj⟩
theorem Sl.drop {α : Type} {w : World} {sz : Nat} {c : α → List Value} {b o n cap : Nat} {xs : List α} (h : Sl w sz c (some ⟨b, o, .none⟩) n cap xs) (k : Nat) (hk : k ≤ n) : Sl w sz c (some ⟨b, o + k * sz, .none⟩) (n - k) (cap - k) (xs.drop k) :=
  ⟨by rw [List.length_drop]; have := h.neq; omega, by have := h.len; omega, by have := h.max; omega, (fun h => by cases h), h.wid, fun j x hj => by
    rw [List.getElem?_drop] at hj
    obtain ⟨b', o', he, hc⟩ := h.at_ _ x hj
    simp only [Option.some.injEq, Addr.mk.injEq, and_true] at he
    obtain ⟨rfl, rfl⟩ := he
    exact ⟨_, _, rfl, by rw [show o + k * sz + j * sz = o + (k + j) * sz from by rw [Nat.add_mul]; omega]; exact hc⟩⟩
theorem Sl.drop1 {α : Type} {w : World} {c : α → List Value} {b o n cap : Nat} {xs : List α} (h : Sl w 1 c (some ⟨b, o, .none⟩) n cap xs) (k : Nat) (hk : k ≤ n) : Sl w 1 c (some ⟨b, o + k, .none⟩) (n - k) (cap - k) (xs.drop k) := by
  have := h.drop k hk
  rw [Nat.mul_one] at this
  exact this
theorem Sl.none_of {α : Type} {w : World} {sz : Nat} {c : α → List Value} {b o cap : Nat} (hw : ∀ x, (c x).length = sz) (hm : cap ≤ maxLen) : Sl w sz c (some ⟨b, o, .none⟩) 0 cap ([] : List α) :=
  ⟨rfl, Nat.zero_le _, hm, (fun h => by cases h), hw, fun k x hk => by cases hk⟩
theorem Flts.drop {w : World} {b o n c : Nat} {xs : List FV} (h : Flts w (some ⟨b, o, none⟩) n c xs) (k : Nat) (hk : k ≤ n) : Flts w (some ⟨b, o + k, none⟩) (n - k) (c - k) (xs.drop k) :=
  ⟨by have := h.sl.drop k hk; rw [Nat.mul_one] at this; exact this, fun x hx => h.ts x (List.mem_of_mem_drop hx)⟩
theorem Flts.take {w : World} {a : Option Addr} {n c : Nat} {xs : List FV} (h : Flts w a n c xs) (k : Nat) (hk : k ≤ n) : Flts w a k c (xs.take k) := ⟨h.sl.take k hk, fun x hx => h.ts x (List.mem_of_mem_take hx)⟩
theorem Flts.nil (w : World) : Flts w none 0 0 [] := ⟨Sl.nil _ FV.wid, fun x hx => by cases hx⟩
theorem Flts.none_of {w : World} {b o cap : Nat} (hm : cap ≤ maxLen) : Flts w (some ⟨b, o, none⟩) 0 cap [] := ⟨Sl.none_of FV.wid hm, fun x hx => by cases hx⟩
end Go.Proofs.YtiifflojpoobpaaGreat
