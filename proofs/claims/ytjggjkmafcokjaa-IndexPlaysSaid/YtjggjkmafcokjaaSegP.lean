/- Numbers in a row, exchanged in pairs: the plain words of sorting. -/
import Derived.Test.YtjggjkmafcokjaaBase
set_option linter.unusedVariables false
set_option linter.unusedSimpArgs false
namespace Go.Proofs.Ytjggjkmafcokjaa

def gN (zs : List Int) (k : Nat) : Int := zs.getD k 0
theorem gN_at {zs : List Int} {k : Nat} (h : k < zs.length) : gN zs k = zs[k] := by unfold gN; simp [List.getD, List.getElem?_eq_getElem h]
theorem gN_out {zs : List Int} {k : Nat} (h : zs.length ≤ k) : gN zs k = 0 := by unfold gN; simp [List.getD, List.getElem?_eq_none h]
/-- two members exchanged -/
def swapN (zs : List Int) (i j : Nat) : List Int := (zs.set i (gN zs j)).set j (gN zs i)
theorem swapN_len (zs : List Int) (i j : Nat) : (swapN zs i j).length = zs.length := by unfold swapN; rw [List.length_set, List.length_set]
theorem swapN_at {zs : List Int} {i j : Nat} (hi : i < zs.length) (hj : j < zs.length) (k : Nat) : gN (swapN zs i j) k = if k = j then gN zs i else if k = i then gN zs j else gN zs k := by
  unfold swapN
  by_cases hk : k < zs.length
  · rw [gN_at (by rw [List.length_set, List.length_set]; exact hk), List.getElem_set]
    by_cases h1 : k = j
    · rw [if_pos h1.symm, if_pos h1]
    · rw [if_neg (Ne.symm h1), if_neg h1, List.getElem_set]
      by_cases h2 : k = i
      · rw [if_pos h2.symm, if_pos h2]
      · rw [if_neg (Ne.symm h2), if_neg h2, gN_at hk]
  · rw [if_neg (by omega), if_neg (by omega)]
    rw [gN_out (by rw [List.length_set, List.length_set]; omega), gN_out (by omega)]
theorem swapN_comm (zs : List Int) {i j : Nat} (h : i ≠ j) : (zs.set j (gN zs i)).set i (gN zs j) = swapN zs i j := by
  unfold swapN; exact List.set_comm _ _ (Ne.symm h)
theorem swapN_perm {zs : List Int} {i j : Nat} (hi : i < zs.length) (hj : j < zs.length) : (swapN zs i j).Perm zs := by
  unfold swapN
  rw [gN_at hi, gN_at hj]
  exact List.set_set_perm hi hj
/-- the same numbers, the same outside of a piece -/
structure Seg (a b : Nat) (zs ys : List Int) : Prop where
  len : zs.length = ys.length
  out : ∀ p, p < a ∨ b ≤ p → gN zs p = gN ys p
  perm : zs.Perm ys
theorem Seg.refl (a b : Nat) (ys : List Int) : Seg a b ys ys := ⟨rfl, fun _ _ => rfl, List.Perm.refl _⟩
theorem Seg.trans {a b : Nat} {xs ys zs : List Int} (h : Seg a b xs ys) (k : Seg a b ys zs) : Seg a b xs zs := ⟨h.len.trans k.len, fun p hp => (h.out p hp).trans (k.out p hp), h.perm.trans k.perm⟩
theorem Seg.mono {a b a' b' : Nat} {zs ys : List Int} (h : Seg a b zs ys) (ha : a' ≤ a) (hb : b ≤ b') : Seg a' b' zs ys := ⟨h.len, fun p hp => h.out p (by omega), h.perm⟩
theorem Seg.swap {a b : Nat} {zs ys : List Int} (h : Seg a b zs ys) {i j : Nat} (hi : a ≤ i) (hi' : i < b) (hj : a ≤ j) (hj' : j < b) (hb : b ≤ ys.length) : Seg a b (swapN zs i j) ys := by
  have hl := h.len
  refine ⟨by rw [swapN_len]; exact h.len, fun p hp => ?_, (swapN_perm (by omega) (by omega)).trans h.perm⟩
  rw [swapN_at (by omega) (by omega), if_neg (by omega), if_neg (by omega)]
  exact h.out p hp
/-- a piece rises -/
def Rise (zs : List Int) (a b : Nat) : Prop := ∀ p q, a ≤ p → p < q → q < b → gN zs p ≤ gN zs q
theorem Rise.short {zs : List Int} {a b : Nat} (h : b ≤ a + 1) : Rise zs a b := fun p q h1 h2 h3 => by omega
/-- all rise but one that is on its way down -/
structure Down (zs : List Int) (a i j : Nat) : Prop where
  le : j ≤ i
  lo : a ≤ j
  rest : ∀ p q, a ≤ p → p < q → q ≤ i → p ≠ j → q ≠ j → gN zs p ≤ gN zs q
  up : ∀ q, j < q → q ≤ i → gN zs j ≤ gN zs q
theorem Down.start {zs : List Int} {a i : Nat} (h : Rise zs a i) (ha : a ≤ i) : Down zs a i i := ⟨Nat.le_refl _, ha, fun p q h1 h2 h3 _ h5 => h p q h1 h2 (by omega), fun q h1 h2 => by omega⟩
theorem Down.step {zs : List Int} {a i j : Nat} (h : Down zs a i j) (hj : a < j) (hl : i < zs.length) (hlt : gN zs j < gN zs (j - 1)) : Down (swapN zs j (j - 1)) a i (j - 1) := by
  have h1 := h.le
  have hs := fun k => swapN_at (zs := zs) (i := j) (j := j - 1) (by omega) (by omega) k
  refine ⟨by omega, by omega, fun p q a1 a2 a3 a4 a5 => ?_, fun q a1 a2 => ?_⟩
  · rw [hs, hs, if_neg a4, if_neg a5]
    by_cases e1 : p = j
    · rw [if_pos e1, if_neg (by omega)]
      exact h.rest (j - 1) q (by omega) (by omega) a3 (by omega) (by omega)
    · rw [if_neg e1]
      by_cases e2 : q = j
      · rw [if_pos e2]
        exact h.rest p (j - 1) a1 (by omega) (by omega) e1 (by omega)
      · rw [if_neg e2]
        exact h.rest p q a1 a2 a3 e1 e2
  · rw [hs, hs, if_pos rfl, if_neg (by omega)]
    by_cases e1 : q = j
    · rw [if_pos e1]; omega
    · rw [if_neg e1]; exact h.up q (by omega) a2
theorem Down.done {zs : List Int} {a i j : Nat} (h : Down zs a i j) (hd : j ≤ a ∨ ¬ gN zs j < gN zs (j - 1)) : Rise zs a (i + 1) := by
  have hlo := h.lo
  intro p q h1 h2 h3
  by_cases e1 : p = j
  · rw [e1]; exact h.up q (by omega) (by omega)
  · by_cases e2 : q = j
    · rw [e2]
      rcases hd with hd | hd
      · omega
      · by_cases e3 : p = j - 1
        · rw [e3]; omega
        · have := h.rest p (j - 1) h1 (by omega) (by have := h.le; omega) e1 (by omega)
          omega
    · exact h.rest p q h1 h2 (by omega) e1 e2
end Go.Proofs.Ytjggjkmafcokjaa
