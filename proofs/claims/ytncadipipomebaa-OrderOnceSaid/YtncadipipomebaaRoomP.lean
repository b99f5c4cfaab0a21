/- The plain law on what a broker promises and refuses: never more than its room, each entry once, nothing known. -/
import Derived.Test.YtncadipipomebaaProm
namespace Go.Proofs.Ytncadipipomebaa

def cntP (l : List ED) (i : Id) : Nat := l.countP fun x => idEq x.id i
def cntI (l : List Id) (i : Id) : Nat := l.countP fun x => idEq x i

/-- what stands at each step -/
structure Rm (kn : Id → Bool) (np : Nat) (ds : List ED) (st : List ED × List Id) : Prop where
  room : st.1 = [] ∨ np + st.1.length ≤ 6
  len : st.1.length + st.2.length ≤ ds.length
  full : st.2 = [] ∨ 6 ≤ np + st.1.length
  known : ∀ i, kn i = true → cntP st.1 i + cntI st.2 i = 0
  once : ∀ i, cntP st.1 i + cntI st.2 i ≤ 1
  there : ∀ d, d ∈ ds → kn d.id = false → cntP st.1 d.id + cntI st.2 d.id = 1

theorem cntP_zero {l : List ED} {i : Id} (h : l.any (fun x => idEq x.id i) = false) : cntP l i = 0 := by
  unfold cntP
  rw [List.countP_eq_zero]
  intro a ha he
  rw [List.any_eq_false] at h
  exact h a ha he
theorem cntI_zero {l : List Id} {i : Id} (h : l.any (fun x => idEq x i) = false) : cntI l i = 0 := by
  unfold cntI
  rw [List.countP_eq_zero]
  intro a ha he
  rw [List.any_eq_false] at h
  exact h a ha he
theorem cntP_pos {l : List ED} {i : Id} (h : l.any (fun x => idEq x.id i) = true) : 0 < cntP l i := by
  unfold cntP
  rw [List.countP_pos_iff]
  rw [List.any_eq_true] at h
  exact h
theorem cntI_pos {l : List Id} {i : Id} (h : l.any (fun x => idEq x i) = true) : 0 < cntI l i := by
  unfold cntI
  rw [List.countP_pos_iff]
  rw [List.any_eq_true] at h
  exact h
theorem idEq_true {a b : Id} : idEq a b = true ↔ a = b := by
  unfold idEq
  obtain ⟨b1, l1, s1⟩ := a
  obtain ⟨b2, l2, s2⟩ := b
  simp [and_assoc]

theorem Rm.step {kn : Id → Bool} {np : Nat} {ds : List ED} {st : List ED × List Id} (h : Rm kn np ds st) (d : ED) : Rm kn np (ds ++ [d]) (promStep kn np st d) := by
  cases hk : (kn d.id || st.1.any (fun x => idEq x.id d.id) || st.2.any (fun x => idEq x d.id)) with
  | true =>
    rw [prom_keep hk]
    refine ⟨h.room, by rw [List.length_append]; have := h.len; omega, h.full, h.known, h.once, fun d' hd' hn => ?_⟩
    rcases List.mem_append.1 hd' with hd' | hd'
    · exact h.there d' hd' hn
    · obtain rfl := List.mem_singleton.1 hd'
      have := h.once d'.id
      rw [hn, Bool.false_or] at hk
      rcases (Bool.or_eq_true _ _).mp hk with hk | hk
      · have := cntP_pos hk; omega
      · have := cntI_pos hk; omega
  | false =>
    have hk0 := hk
    simp only [Bool.or_eq_false_iff] at hk
    obtain ⟨⟨k1, k2⟩, k3⟩ := hk
    have z2 := cntP_zero k2
    have z3 := cntI_zero k3
    by_cases hr : np + st.1.length < 6
    · rw [prom_yes hk0 hr]
      have e : ∀ i, cntP (st.1 ++ [d]) i = cntP st.1 i + if idEq d.id i = true then 1 else 0 := by
        intro i; unfold cntP; rw [List.countP_append, List.countP_singleton]
      refine ⟨.inr (by simp; omega), by simp; have := h.len; omega, ?_, fun i hi => ?_, fun i => ?_, fun d' hd' hn => ?_⟩
      · rcases h.full with hf | hf
        · exact .inl hf
        · exact absurd hf (by omega)
      · rw [e]
        by_cases hid : idEq d.id i = true
        · have := idEq_true.1 hid; rw [this] at k1; rw [k1] at hi; cases hi
        · rw [if_neg hid]; exact h.known i hi
      · rw [e]
        by_cases hid : idEq d.id i = true
        · have := idEq_true.1 hid; rw [this] at z2 z3; rw [if_pos hid]; simp only; omega
        · rw [if_neg hid]; exact h.once i
      · rw [e]
        by_cases hid : idEq d.id d'.id = true
        · have := idEq_true.1 hid; rw [this] at z2 z3; rw [if_pos hid]; simp only; omega
        · rw [if_neg hid]
          rcases List.mem_append.1 hd' with hd' | hd'
          · exact h.there d' hd' hn
          · obtain rfl := List.mem_singleton.1 hd'; exact absurd (idEq_true.2 rfl) hid
    · rw [prom_no hk0 hr]
      have e : ∀ i, cntI (st.2 ++ [d.id]) i = cntI st.2 i + if idEq d.id i = true then 1 else 0 := by
        intro i; unfold cntI; rw [List.countP_append, List.countP_singleton]
      refine ⟨h.room, by simp; have := h.len; omega, .inr (by simp only; omega), fun i hi => ?_, fun i => ?_, fun d' hd' hn => ?_⟩
      · rw [e]
        by_cases hid : idEq d.id i = true
        · have := idEq_true.1 hid; rw [this] at k1; rw [k1] at hi; cases hi
        · rw [if_neg hid]; exact h.known i hi
      · rw [e]
        by_cases hid : idEq d.id i = true
        · have := idEq_true.1 hid; rw [this] at z2 z3; rw [if_pos hid]; simp only; omega
        · rw [if_neg hid]; exact h.once i
      · rw [e]
        by_cases hid : idEq d.id d'.id = true
        · have := idEq_true.1 hid; rw [this] at z2 z3; rw [if_pos hid]; simp only; omega
        · rw [if_neg hid]
          rcases List.mem_append.1 hd' with hd' | hd'
          · exact h.there d' hd' hn
          · obtain rfl := List.mem_singleton.1 hd'; exact absurd (idEq_true.2 rfl) hid

theorem Rm.fold (kn : Id → Bool) (np : Nat) : ∀ (es ds : List ED) (st : List ED × List Id), Rm kn np ds st → Rm kn np (ds ++ es) (es.foldl (promStep kn np) st)
  | [], ds, st, h => by rw [List.append_nil]; exact h
  | d :: es, ds, st, h => by
    rw [List.foldl_cons, show ds ++ d :: es = (ds ++ [d]) ++ es from by simp]
    exact Rm.fold kn np es _ _ (h.step d)
theorem prom_room (kn : Id → Bool) (np : Nat) (ds : List ED) : Rm kn np ds (promOf kn np ds) := by
  have := Rm.fold kn np ds [] ([], []) ⟨.inl rfl, Nat.le_refl _, .inl rfl, fun _ _ => rfl, fun _ => Nat.zero_le _, fun d hd => by cases hd⟩
  exact this
end Go.Proofs.Ytncadipipomebaa
