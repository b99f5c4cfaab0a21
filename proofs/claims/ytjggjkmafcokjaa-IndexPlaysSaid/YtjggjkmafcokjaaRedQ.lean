/- Plain laws on what is left of filters that others do not cover, and on what they match. -/
import Derived.Test.YtjggjkmafcokjaaRedM8
import Derived.Test.YtjggjkmafcokjaaAny
set_option linter.unusedVariables false
set_option linter.unusedSimpArgs false
namespace Go.Proofs.Ytjggjkmafcokjaa

/-- neither covers the other -/
def apart (f g : List T) : Prop := cov f g = false ∧ cov g f = false
theorem red_mem : ∀ (l out : List (List T)) (f : List T), f ∈ red out l → f ∈ out ∨ f ∈ l
  | [], _, _, h => .inl h
  | g :: l, out, f, h => by
    rw [red] at h
    split at h
    · rcases red_mem l out f h with h | h
      · exact .inl h
      · exact .inr (List.mem_cons_of_mem _ h)
    · rcases red_mem l _ f h with h | h
      · rcases List.mem_append.1 h with h | h
        · exact .inl h
        · exact .inr (List.mem_singleton.1 h ▸ List.mem_cons_self ..)
      · exact .inr (List.mem_cons_of_mem _ h)
theorem red_len : ∀ (l out : List (List T)), (red out l).length ≤ out.length + l.length
  | [], _ => Nat.le_refl _
  | g :: l, out => by
    rw [red]
    split
    · have := red_len l out
      rw [List.length_cons]; omega
    · have := red_len l (out ++ [g])
      rw [List.length_append] at this
      simp only [List.length_cons, List.length_nil] at this ⊢; omega
theorem red_apart : ∀ (l out : List (List T)), out.Pairwise apart → (∀ o, o ∈ out → ∀ g, g ∈ l → cov g o = false) → (red out l).Pairwise apart
  | [], _, hp, _ => hp
  | f :: l, out, hp, ho => by
    rw [red]
    split
    · exact red_apart l out hp fun o h g hg => ho o h g (List.mem_cons_of_mem _ hg)
    · rename_i hc
      simp only [Bool.or_eq_true, not_or, Bool.not_eq_true] at hc
      obtain ⟨h1, h2⟩ := hc
      have h1' : ∀ o, o ∈ out → cov o f = false := fun o h => by
        have := List.any_eq_false.1 h1 o h
        simpa using this
      have h2' : ∀ g, g ∈ l → cov g f = false := fun g h => by
        have := List.any_eq_false.1 h2 g h
        simpa using this
      refine red_apart l _ ?_ fun o h g hg => ?_
      · rw [List.pairwise_append]
        refine ⟨hp, List.pairwise_singleton _ _, fun o h g hg => ?_⟩
        obtain rfl := List.mem_singleton.1 hg
        exact ⟨h1' o h, ho o h g (List.mem_cons_self ..)⟩
      · rcases List.mem_append.1 h with h | h
        · exact ho o h g (List.mem_cons_of_mem _ hg)
        · obtain rfl := List.mem_singleton.1 h
          exact h2' g hg
theorem red_keep : ∀ (l out : List (List T)), l.Pairwise apart → (∀ o, o ∈ out → ∀ g, g ∈ l → cov o g = false) → red out l = out ++ l
  | [], out, _, _ => by rw [List.append_nil]; rfl
  | f :: l, out, hp, ho => by
    rw [List.pairwise_cons] at hp
    have h1 : out.any (fun g => cov g f) = false := by
      rw [List.any_eq_false]; intro o h; rw [ho o h f (List.mem_cons_self ..)]; decide
    have h2 : l.any (fun g => cov g f) = false := by
      rw [List.any_eq_false]; intro g h; rw [(hp.1 g h).2]; decide
    rw [red, h1, h2, if_neg (by decide), red_keep l (out ++ [f]) hp.2 fun o h g hg => ?_]
    · rw [List.append_assoc]; rfl
    · rcases List.mem_append.1 h with h | h
      · exact ho o h g (List.mem_cons_of_mem _ hg)
      · obtain rfl := List.mem_singleton.1 h
        exact (hp.1 g hg).1
theorem red_again (l : List (List T)) : red [] (red [] l) = red [] l := by
  rw [red_keep (red [] l) [] (red_apart l [] List.Pairwise.nil (fun o h => by cases h)) (fun o h => by cases h)]; rfl
theorem red_cov : ∀ (l out : List (List T)), (∀ f, f ∈ out ++ l → okF f) → ∀ f, f ∈ out ++ l → ∃ r, r ∈ red out l ∧ cov r f = true
  | [], out, hk, f, hf => by
    rw [List.append_nil] at hf hk
    exact ⟨f, hf, cov_refl (hk f hf)⟩
  | g :: l, out, hk, f, hf => by
    have hk' : ∀ f, f ∈ out ++ l → okF f := fun x hx => hk x (by
      rcases List.mem_append.1 hx with h | h
      · exact List.mem_append_left _ h
      · exact List.mem_append_right _ (List.mem_cons_of_mem _ h))
    rw [red]
    split
    · rename_i hc
      by_cases he : f ∈ out ++ l
      · exact red_cov l out hk' f he
      · have hfg : f = g := by
          rcases List.mem_append.1 hf with h | h
          · exact absurd (List.mem_append_left _ h) he
          · rcases List.mem_cons.1 h with h | h
            · exact h
            · exact absurd (List.mem_append_right _ h) he
        subst hfg
        have hx : ∃ x, x ∈ out ++ l ∧ cov x f = true := by
          rcases Bool.or_eq_true _ _ ▸ hc with h | h
          · obtain ⟨x, h1, h2⟩ := List.any_eq_true.1 h; exact ⟨x, List.mem_append_left _ h1, h2⟩
          · obtain ⟨x, h1, h2⟩ := List.any_eq_true.1 h; exact ⟨x, List.mem_append_right _ h1, h2⟩
        obtain ⟨x, hx, hxc⟩ := hx
        obtain ⟨r, hr, hrc⟩ := red_cov l out hk' x hx
        have hrk : okF r := by
          rcases red_mem l out r hr with h | h
          · exact hk' r (List.mem_append_left _ h)
          · exact hk' r (List.mem_append_right _ h)
        exact ⟨r, hr, cov_trans hrk (hk' x hx) (hk f hf) hrc hxc⟩
    · refine red_cov l (out ++ [g]) (fun x hx => hk x ?_) f ?_
      · rw [List.append_assoc] at hx; exact hx
      · rw [List.append_assoc]; exact hf
/-- attributes whose values may be -/
def okE (es : List AT) : Prop := ∀ a, a ∈ es → a.v.ok
theorem holds_imp {a b : T} {es : List AT} (ha : a.ts.ok) (he : okE es) (hi : impT a.ts b.ts = true) (h : holdsT a es = true) : holdsT b es = true := by
  have hn : a.nm.toList = b.nm.toList := (imp_op hi).1
  unfold holdsT at *
  rw [← hn]
  cases hf : findA es a.nm.toList with
  | none => rw [hf] at h; cases h
  | some x =>
    rw [hf] at h
    exact imp_sound ha (he x (List.mem_of_find?_eq_some hf)) hi h
theorem cov_sound {f g : List T} {es : List AT} (hg : okF g) (he : okE es) (hc : cov f g = true) (h : matchesT g es = true) : matchesT f es = true := by
  unfold matchesT at *
  rw [List.all_eq_true] at *
  intro t ht
  obtain ⟨b, hb, hi⟩ := cov_iff.1 hc t ht
  exact holds_imp (hg b hb) he hi (h b hb)
theorem red_any {l : List (List T)} {es : List AT} (hk : ∀ f, f ∈ l → okF f) (he : okE es) : (red [] l).any (fun f => matchesT f es) = l.any (fun f => matchesT f es) := by
  rw [Bool.eq_iff_iff]
  constructor
  · intro h
    obtain ⟨r, hr, hm⟩ := List.any_eq_true.1 h
    exact List.any_eq_true.2 ⟨r, (red_mem l [] r hr).resolve_left (fun h => by cases h), hm⟩
  · intro h
    obtain ⟨f, hf, hm⟩ := List.any_eq_true.1 h
    obtain ⟨r, hr, hc⟩ := red_cov l [] hk f hf
    exact List.any_eq_true.2 ⟨r, hr, cov_sound (hk f hf) he hc hm⟩
theorem red_nonempty {l : List (List T)} (hk : ∀ f, f ∈ l → okF f) : decide (0 < (red [] l).length) = decide (0 < l.length) := by
  cases l with
  | nil => rfl
  | cons f l =>
    obtain ⟨r, hr, _⟩ := red_cov (f :: l) [] hk f (List.mem_cons_self ..)
    have := List.length_pos_of_mem hr
    simp [this]
theorem red_pair {l : List (List T)} {i k : Nat} (hi : i < (red [] l).length) (hk : k < (red [] l).length) (hne : i ≠ k) : cov (red [] l)[i] (red [] l)[k] = false := by
  have hp := red_apart l [] List.Pairwise.nil (fun o h => by cases h)
  rw [List.pairwise_iff_getElem] at hp
  rcases Nat.lt_or_gt_of_ne hne with h | h
  · exact (hp i k hi hk h).1
  · exact (hp k i hk hi h).2
theorem red_all {l : List (List T)} {f : List T} (h : f ∈ red [] l) : f ∈ l := (red_mem l [] f h).resolve_left (fun h => by cases h)
end Go.Proofs.Ytjggjkmafcokjaa
