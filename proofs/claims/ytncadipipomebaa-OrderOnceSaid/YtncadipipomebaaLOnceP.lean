/- The plain law on what is admitted: what was open stays, nothing twice, nothing known. -/
import Derived.Test.YtncadipipomebaaAdmit
import Derived.Test.YtncadipipomebaaRoomP
namespace Go.Proofs.Ytncadipipomebaa

/-- what stands at each step -/
structure Ad (kn : Id → Bool) (O : List ED) (st : List ED × List ED) : Prop where
  pre : st.1.take O.length = O
  len : O.length ≤ st.1.length
  max : st.1.length ≤ O.length ∨ st.1.length ≤ 4
  okO : ∀ (i : Nat) (hi : i < st.1.length), O.length ≤ i → st.1[i].k = 1 ∧ kn st.1[i].id = false ∧ ∀ (j : Nat) (hj : j < i), idEq (st.1[j]'(by omega)).id st.1[i].id = false
  okL : ∀ (i : Nat) (hi : i < st.2.length), st.2[i].k ≠ 1 ∧ kn st.2[i].id = false ∧ ∀ (j : Nat) (hj : j < i), idEq (st.2[j]'(by omega)).id st.2[i].id = false

theorem not_any {l : List ED} {i : Id} (h : l.any (fun x => idEq x.id i) = false) (j : Nat) (hj : j < l.length) : idEq l[j].id i = false := by
  have := List.any_eq_false.1 h l[j] (List.getElem_mem hj)
  simpa using this

theorem Ad.step {kn : Id → Bool} {O : List ED} {st : List ED × List ED} (h : Ad kn O st) (d : ED) : Ad kn O (admStep kn st d) := by
  obtain ⟨o, l⟩ := st
  have hp : o.take O.length = O := h.pre
  have hl : O.length ≤ o.length := h.len
  have hm : o.length ≤ O.length ∨ o.length ≤ 4 := h.max
  have hO := h.okO
  have hL := h.okL
  dsimp only at hO hL
  cases hk : (kn d.id || o.any (fun x => idEq x.id d.id) || l.any (fun x => idEq x.id d.id)) with
  | true => rw [adm_keep (st := (o, l)) hk]; exact h
  | false =>
    have hk' := hk
    simp only [Bool.or_eq_false_iff] at hk'
    obtain ⟨⟨k1, k2⟩, k3⟩ := hk'
    by_cases h1 : d.k = 1
    · by_cases h4 : o.length < 4
      · rw [adm_open (st := (o, l)) hk h1 h4]
        refine ⟨?_, ?_, .inr (by simp; omega), fun i hi hOi => ?_, hL⟩
        · show (o ++ [d]).take O.length = O
          rw [List.take_append_of_le_length hl]; exact hp
        · show O.length ≤ (o ++ [d]).length
          rw [List.length_append]; omega
        · dsimp only at hi ⊢
          by_cases hio : i < o.length
          · obtain ⟨a, b, c⟩ := hO i hio hOi
            refine ⟨by rw [List.getElem_append_left hio]; exact a, by rw [List.getElem_append_left hio]; exact b, fun j hj => ?_⟩
            rw [List.getElem_append_left (by omega), List.getElem_append_left hio]; exact c j hj
          · have e : i = o.length := by rw [List.length_append] at hi; simp at hi; omega
            subst e
            refine ⟨by rw [List.getElem_append_right (by omega)]; simpa using h1, by rw [List.getElem_append_right (by omega)]; simpa using k1, fun j hj => ?_⟩
            rw [List.getElem_append_left hj, List.getElem_append_right (by omega)]
            simpa using not_any k2 j hj
      · rw [adm_full (st := (o, l)) hk h1 h4]; exact h
    · rw [adm_list (st := (o, l)) hk h1]
      refine ⟨hp, hl, hm, hO, fun i hi => ?_⟩
      dsimp only at hi ⊢
      by_cases hio : i < l.length
      · obtain ⟨a, b, c⟩ := hL i hio
        refine ⟨by rw [List.getElem_append_left hio]; exact a, by rw [List.getElem_append_left hio]; exact b, fun j hj => ?_⟩
        rw [List.getElem_append_left (by omega), List.getElem_append_left hio]; exact c j hj
      · have e : i = l.length := by rw [List.length_append] at hi; simp at hi; omega
        subst e
        refine ⟨by rw [List.getElem_append_right (by omega)]; simpa using h1, by rw [List.getElem_append_right (by omega)]; simpa using k1, fun j hj => ?_⟩
        rw [List.getElem_append_left hj, List.getElem_append_right (by omega)]
        simpa using not_any k3 j hj
theorem Ad.fold {kn : Id → Bool} {O : List ED} : ∀ (l : List ED) (st : List ED × List ED), Ad kn O st → Ad kn O (l.foldl (admStep kn) st)
  | [], _, h => h
  | d :: l, st, h => by rw [List.foldl_cons]; exact Ad.fold l _ (h.step d)
theorem adm_law (kn : Id → Bool) (O ds : List ED) : Ad kn O (admOf kn O ds) :=
  Ad.fold ds _ ⟨List.take_length, Nat.le_refl _, .inl (Nat.le_refl _), fun i hi h => absurd hi (by simp only; omega), fun i hi => by cases hi⟩
end Go.Proofs.Ytncadipipomebaa
