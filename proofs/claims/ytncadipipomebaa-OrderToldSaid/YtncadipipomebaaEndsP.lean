/- The plain law on what a broker ends: only what a kid voted on, each once, nothing known; and all of it where the votes are few. -/
import Derived.Test.YtncadipipomebaaEnds
import Derived.Test.YtncadipipomebaaRoomP
namespace Go.Proofs.Ytncadipipomebaa

/-- what stands at each step -/
structure En (kn : Id → Bool) (vs : List V) (out : List Id) : Prop where
  voted : ∀ x, x ∈ out → vs.any (fun v => idEq v.id x) = true
  once : ∀ (i k : Nat) (hi : i < out.length) (hk : k < i), idEq (out[k]'(by omega)) out[i] = false
  known : ∀ x, x ∈ out → kn x = false
  len : out.length ≤ vs.length
  there : vs.length ≤ 16 → ∀ v, v ∈ vs → kn v.id = false → out.any (fun x => idEq x v.id) = true

theorem En.step {kn : Id → Bool} {vs : List V} {out : List Id} (h : En kn vs out) (v : V) : En kn (vs ++ [v]) (endsStep kn out v) := by
  have mono : ∀ x, vs.any (fun v => idEq v.id x) = true → (vs ++ [v]).any (fun v => idEq v.id x) = true := fun x hx => by rw [List.any_append, hx]; rfl
  by_cases hl : 16 ≤ out.length
  · have e : endsStep kn out v = out := by unfold endsStep; rw [if_pos hl]
    rw [e]
    exact ⟨fun x hx => mono x (h.voted x hx), h.once, h.known, by rw [List.length_append]; have := h.len; omega, fun hv => by have := h.len; rw [List.length_append] at hv; simp at hv; omega⟩
  · cases hc : (out.any (fun x => idEq x v.id) || kn v.id) with
    | true =>
      rw [step_keep hc]
      refine ⟨fun x hx => mono x (h.voted x hx), h.once, h.known, by rw [List.length_append]; have := h.len; omega, fun hv u hu hk => ?_⟩
      rcases List.mem_append.1 hu with hu | hu
      · exact h.there (by rw [List.length_append] at hv; omega) u hu hk
      · obtain rfl := List.mem_singleton.1 hu
        rw [hk, Bool.or_false] at hc; exact hc
    | false =>
      rw [step_more hl hc]
      rw [Bool.or_eq_false_iff] at hc
      refine ⟨fun x hx => ?_, fun i k hi hk => ?_, fun x hx => ?_, by simp; exact h.len, fun hv u hu hk => ?_⟩
      · rcases List.mem_append.1 hx with hx | hx
        · exact mono x (h.voted x hx)
        · obtain rfl := List.mem_singleton.1 hx
          rw [List.any_append]; simp [idEq_true.2 rfl]
      · by_cases hi' : i < out.length
        · rw [List.getElem_append_left (by omega), List.getElem_append_left hi']; exact h.once i k hi' hk
        · have : i = out.length := by rw [List.length_append] at hi; simp at hi; omega
          subst this
          rw [List.getElem_append_left hk, List.getElem_append_right (by omega)]
          have := List.any_eq_false.1 hc.1 out[k] (List.getElem_mem _)
          simpa using this
      · rcases List.mem_append.1 hx with hx | hx
        · exact h.known x hx
        · obtain rfl := List.mem_singleton.1 hx; exact hc.2
      · rw [List.any_append]
        rcases List.mem_append.1 hu with hu | hu
        · rw [h.there (by rw [List.length_append] at hv; omega) u hu hk]; rfl
        · obtain rfl := List.mem_singleton.1 hu
          simp [idEq_true.2 rfl]

theorem En.fold (kn : Id → Bool) : ∀ (es vs : List V) (out : List Id), En kn vs out → En kn (vs ++ es) (es.foldl (endsStep kn) out)
  | [], vs, out, h => by rw [List.append_nil]; exact h
  | v :: es, vs, out, h => by
    rw [List.foldl_cons, show vs ++ v :: es = (vs ++ [v]) ++ es from by simp]
    exact En.fold kn es _ _ (h.step v)
theorem ends_law (kn : Id → Bool) (vs : List V) : En kn vs (endsOf kn vs) := by
  have := En.fold kn vs [] [] (En.mk (fun x hx => by cases hx) (fun i k hi => by cases hi) (fun x hx => by cases hx) (Nat.le_refl _) (fun _ v hv => by cases hv))
  exact this
/-- what the second half of the statement asks -/
theorem ends_both {kn : Id → Bool} {vs : List V} (h : vs.length ≤ 16) {v : V} (hv : v ∈ vs) : (endsOf kn vs).any (fun x => idEq x v.id) = !kn v.id := by
  have hl := ends_law kn vs
  cases hk : kn v.id with
  | false => rw [hl.there h v hv hk]; rfl
  | true =>
    rw [Bool.not_true, List.any_eq_false]
    intro x hx he
    rw [idEq_true.1 he] at hx
    have := hl.known _ hx
    rw [hk] at this; cases this
end Go.Proofs.Ytncadipipomebaa
