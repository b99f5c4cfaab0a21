/- A slice of one's own: an element that is stored to. No program is named here. -/
import Derived.Test.YtjggjkmafcokjaaStep
import Derived.Lib.BufferMore
set_option linter.unusedVariables false
set_option linter.unusedSimpArgs false
namespace Go.Proofs.Ytjggjkmafcokjaa
open Go.RowKit

theorem flat_set {α : Type} {c : α → List Value} {sz : Nat} (hw : ∀ y, (c y).length = sz) (y' : α) (j : Nat) (v : Value) (hj : j < sz) : ∀ (ys : List α) (k : Nat) (y : α), ys[k]? = some y → c y' = (c y).set j v → (ys.set k y').flatMap c = (ys.flatMap c).set (k * sz + j) v
  | [], _, _, h, _ => by simp at h
  | x :: ys, 0, y, h, he => by
    simp only [List.getElem?_cons_zero, Option.some.injEq] at h
    subst h
    rw [List.set_cons_zero, List.flatMap_cons, List.flatMap_cons, he, Nat.zero_mul, Nat.zero_add, List.set_append, if_pos (by rw [hw]; exact hj)]
  | x :: ys, k + 1, y, h, he => by
    rw [List.getElem?_cons_succ] at h
    rw [List.set_cons_succ, List.flatMap_cons, List.flatMap_cons, List.set_append, if_neg (by rw [hw, Nat.add_mul]; omega), hw, show (k + 1) * sz + j - sz = k * sz + j from by rw [Nat.add_mul]; omega, flat_set hw y' j v hj ys k y h he]
section
variable {α : Type} {c : α → List Value} {w w' : World} {base : Nat} {e : TypeId} {sz g n cap : Nat} {ys : List α}
theorem Own.blk (h : Own w base e sz c (some ⟨g, 0, .none⟩) n cap ys) : ∃ cur, w.heap[g]? = some (.cells cur e (0, 0)) ∧ base ≤ g ∧ n ≤ cap ∧ cap ≤ maxLen ∧ cur.size = cap * sz ∧ cur.toList.take (n * sz) = ys.flatMap c := by
  rcases h.row.2 with ⟨hv, _⟩ | ⟨g', cp, cur, hv, hbs, hgg, h1, h2, h3, h4⟩
  · cases hv
  · simp only [Value.slice.injEq, Option.some.injEq, Addr.mk.injEq] at hv
    obtain ⟨⟨rfl, _⟩, _, rfl⟩ := hv
    exact ⟨cur, hgg, hbs, h1, h2, h3, h4⟩
theorem Own.free (h : Own w base e sz c (some ⟨g, 0, .none⟩) n cap ys) (o : Nat) : w.frozen? ⟨g, o, .none⟩ = false := by
  obtain ⟨cur, hg, _⟩ := h.blk
  simp [World.frozen?, hg]
theorem Own.form (aa : Option Addr) (h : Own w base e sz c aa n cap ys) (hk : 0 < ys.length) : ∃ g, aa = some ⟨g, 0, .none⟩ := by
  have hn := h.neq
  rcases h.row.2 with ⟨hv, h0⟩ | ⟨g', cp, cur, hv, _⟩
  · omega
  · simp only [Value.slice.injEq] at hv
    exact ⟨g', hv.1⟩
theorem Own.at0 (h : Own w base e sz c (some ⟨g, 0, .none⟩) n cap ys) (k : Nat) (hk : k < ys.length) : CellsAt w g (k * sz) (c ys[k]) := by
  obtain ⟨b, o, hab, hc⟩ := h.sl.get k hk
  simp only [Option.some.injEq, Addr.mk.injEq] at hab
  obtain ⟨rfl, rfl, _⟩ := hab
  rw [Nat.zero_add] at hc
  exact hc
theorem Own.set (h : Own w base e sz c (some ⟨g, 0, .none⟩) n cap ys) (k : Nat) (y y' : α) (hk : ys[k]? = some y) (j : Nat) (hj : j < sz) (v : Value) (hy : c y' = (c y).set j v) :
    Own (w.setCell ⟨g, k * sz + j, .none⟩ v) base e sz c (some ⟨g, 0, .none⟩) n cap (ys.set k y') := by
  obtain ⟨cur, hg, hbs, h1, h2, h3, h4⟩ := h.blk
  refine ⟨⟨?_, .inr ⟨g, cap, cur.setIfInBounds (k * sz + j) v, rfl, hbs, Lib.heap_setCell_same hg v, h1, h2, by rw [Array.size_setIfInBounds]; exact h3, ?_⟩⟩, by rw [List.length_set]; exact h.neq, h.wid⟩
  · rw [flat_set h.wid y' j v hj ys k y hk hy, List.length_set]; exact h.row.1
  · rw [flat_set h.wid y' j v hj ys k y hk hy, ← h4, Array.toList_setIfInBounds, List.take_set]
end
end Go.Proofs.Ytjggjkmafcokjaa
