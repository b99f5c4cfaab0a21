/- Plain laws on covering and on filters that others do not cover. -/
import Derived.Test.YtjggjkmafcokjaaReduce
set_option linter.unusedVariables false
set_option linter.unusedSimpArgs false
namespace Go.Proofs.Ytjggjkmafcokjaa

theorem cov_iff {f g : List T} : cov f g = true ↔ ∀ t, t ∈ f → ∃ b, b ∈ g ∧ impT b.ts t.ts = true := by
  unfold cov; rw [List.all_eq_true]
  exact ⟨fun h t ht => List.any_eq_true.1 (h t ht), fun h t ht => List.any_eq_true.2 (h t ht)⟩
/-- filters whose tests may be -/
def okF (f : List T) : Prop := ∀ t, t ∈ f → t.ts.ok
theorem cov_refl {f : List T} (h : okF f) : cov f f = true := cov_iff.2 fun t ht => ⟨t, ht, imp_self (h t ht)⟩
theorem cov_trans {f g h : List T} (hf : okF f) (hg : okF g) (hh : okF h) (a : cov f g = true) (b : cov g h = true) : cov f h = true := cov_iff.2 fun t ht => by
  obtain ⟨u, hu, i⟩ := cov_iff.1 a t ht
  obtain ⟨v, hv, j⟩ := cov_iff.1 b u hu
  exact ⟨v, hv, imp_trans (hh v hv) (hg u hu) (hf t ht) j i⟩
theorem cov_nil (f : List T) : cov [] f = true := rfl
theorem cov_mono {f g : List T} (h : okF f) (hs : ∀ t, t ∈ f → t ∈ g) : cov f g = true := cov_iff.2 fun t ht => ⟨t, hs t ht, imp_self (h t ht)⟩
theorem cov_to_nil {g : List T} (h : g ≠ []) : cov g [] = false := by
  cases g with
  | nil => exact absurd rfl h
  | cons t g => rfl
theorem red_first {l2 : List (List T)} : ∀ (l1 out : List (List T)), (∀ f, f ∈ l1 → cov f f = true ∧ f ∈ l2) → red out (l1 ++ l2) = red out l2
  | [], _, _ => rfl
  | f :: l1, out, h => by
    obtain ⟨h1, h2⟩ := h f (List.mem_cons_self ..)
    have ha : (l1 ++ l2).any (fun g => cov g f) = true := List.any_eq_true.2 ⟨f, List.mem_append_right _ h2, h1⟩
    rw [List.cons_append, red, if_pos (by rw [ha, Bool.or_true])]
    exact red_first l1 out fun g hg => h g (List.mem_cons_of_mem _ hg)
theorem red_twice {l : List (List T)} (h : ∀ f, f ∈ l → okF f) : red [] (l ++ l) = red [] l := red_first l [] fun f hf => ⟨cov_refl (h f hf), hf⟩
theorem red_behind : ∀ (l : List (List T)), red [[]] l = [[]]
  | [] => rfl
  | f :: l => by rw [red, if_pos (by simp [cov_nil])]; exact red_behind l
theorem red_empty : ∀ (l : List (List T)), [] ∈ l → red [] l = [[]]
  | [], h => by cases h
  | f :: l, h => by
    by_cases hl : [] ∈ l
    · rw [red, if_pos (by rw [List.any_eq_true.2 ⟨[], hl, cov_nil f⟩, Bool.or_true])]; exact red_empty l hl
    · have hf : f = [] := by
        rcases List.mem_cons.1 h with h | h
        · exact h.symm
        · exact absurd h hl
      subst hf
      have hn : l.any (fun g => cov g []) = false := by
        rw [List.any_eq_false]
        intro g hg
        rw [cov_to_nil (fun e => hl (by rw [← e]; exact hg))]; decide
      rw [red, hn]
      exact red_behind l
theorem red_one (f : List T) : red [] [f] = [f] := rfl
end Go.Proofs.Ytjggjkmafcokjaa
