/- Plain laws on a filter's norm. -/
import Derived.Test.YtclmbonippjhoaaNorm
import Derived.Test.YtclmbonippjhoaaChk
set_option linter.unusedVariables false
set_option linter.unusedSimpArgs false
namespace Go.Proofs.Ytclmbonippjhoaa

/-- neither implies the other -/
def sep (a b : T) : Prop := impT a.ts b.ts = false ∧ impT b.ts a.ts = false
theorem nrm_sub : ∀ (l out : List T), (nrm out l).Sublist (out ++ l)
  | [], out => by rw [List.append_nil]; exact List.Sublist.refl _
  | t :: l, out => by
    rw [nrm]
    split
    · exact (nrm_sub l out).trans (List.Sublist.append_left (List.sublist_cons_self t l) out)
    · have := nrm_sub l (out ++ [t])
      rw [List.append_assoc] at this
      exact this
theorem nrm_sep : ∀ (l out : List T), out.Pairwise sep → (∀ o, o ∈ out → ∀ g, g ∈ l → impT g.ts o.ts = false) → (nrm out l).Pairwise sep
  | [], _, hp, _ => hp
  | f :: l, out, hp, ho => by
    rw [nrm]
    split
    · exact nrm_sep l out hp fun o h g hg => ho o h g (List.mem_cons_of_mem _ hg)
    · rename_i hc
      simp only [Bool.or_eq_true, not_or, Bool.not_eq_true] at hc
      obtain ⟨h1, h2⟩ := hc
      have h1' : ∀ o, o ∈ out → impT o.ts f.ts = false := fun o h => by
        have := List.any_eq_false.1 h1 o h
        simpa using this
      have h2' : ∀ g, g ∈ l → impT g.ts f.ts = false := fun g h => by
        have := List.any_eq_false.1 h2 g h
        simpa using this
      refine nrm_sep l _ ?_ fun o h g hg => ?_
      · rw [List.pairwise_append]
        refine ⟨hp, List.pairwise_singleton _ _, fun o h g hg => ?_⟩
        obtain rfl := List.mem_singleton.1 hg
        exact ⟨h1' o h, ho o h g (List.mem_cons_self ..)⟩
      · rcases List.mem_append.1 h with h | h
        · exact ho o h g (List.mem_cons_of_mem _ hg)
        · obtain rfl := List.mem_singleton.1 h
          exact h2' g hg
theorem nrm_keep : ∀ (l out : List T), l.Pairwise sep → (∀ o, o ∈ out → ∀ g, g ∈ l → impT o.ts g.ts = false) → nrm out l = out ++ l
  | [], out, _, _ => by rw [List.append_nil]; rfl
  | f :: l, out, hp, ho => by
    rw [List.pairwise_cons] at hp
    have h1 : out.any (fun g => impT g.ts f.ts) = false := by
      rw [List.any_eq_false]; intro o h; rw [ho o h f (List.mem_cons_self ..)]; decide
    have h2 : l.any (fun g => impT g.ts f.ts) = false := by
      rw [List.any_eq_false]; intro g h; rw [(hp.1 g h).2]; decide
    rw [nrm, h1, h2, if_neg (by decide), nrm_keep l (out ++ [f]) hp.2 fun o h g hg => ?_]
    · rw [List.append_assoc]; rfl
    · rcases List.mem_append.1 h with h | h
      · exact ho o h g (List.mem_cons_of_mem _ hg)
      · obtain rfl := List.mem_singleton.1 h
        exact (hp.1 g hg).1
theorem nrm_cov : ∀ (l out : List T), okF (out ++ l) → ∀ f, f ∈ out ++ l → ∃ r, r ∈ nrm out l ∧ impT r.ts f.ts = true
  | [], out, hk, f, hf => by
    rw [List.append_nil] at hf hk
    exact ⟨f, hf, imp_self (hk f hf)⟩
  | g :: l, out, hk, f, hf => by
    have hk' : okF (out ++ l) := fun x hx => hk x (by
      rcases List.mem_append.1 hx with h | h
      · exact List.mem_append_left _ h
      · exact List.mem_append_right _ (List.mem_cons_of_mem _ h))
    rw [nrm]
    split
    · rename_i hc
      by_cases he : f ∈ out ++ l
      · exact nrm_cov l out hk' f he
      · have hfg : f = g := by
          rcases List.mem_append.1 hf with h | h
          · exact absurd (List.mem_append_left _ h) he
          · rcases List.mem_cons.1 h with h | h
            · exact h
            · exact absurd (List.mem_append_right _ h) he
        subst hfg
        have hx : ∃ x, x ∈ out ++ l ∧ impT x.ts f.ts = true := by
          rcases Bool.or_eq_true _ _ ▸ hc with h | h
          · obtain ⟨x, h1, h2⟩ := List.any_eq_true.1 h; exact ⟨x, List.mem_append_left _ h1, h2⟩
          · obtain ⟨x, h1, h2⟩ := List.any_eq_true.1 h; exact ⟨x, List.mem_append_right _ h1, h2⟩
        obtain ⟨x, hx, hxc⟩ := hx
        obtain ⟨r, hr, hrc⟩ := nrm_cov l out hk' x hx
        have hrk : r.ts.ok := hk' r ((nrm_sub l out).subset hr)
        exact ⟨r, hr, imp_trans hrk (hk' x hx) (hk f hf) hrc hxc⟩
    · refine nrm_cov l (out ++ [g]) (fun x hx => hk x ?_) f ?_
      · rw [List.append_assoc] at hx; exact hx
      · rw [List.append_assoc]; exact hf
theorem norm_mem {xs : List T} {t : T} (h : t ∈ normT xs) : t ∈ xs := (sort_perm xs).mem_iff.1 (by have := (nrm_sub (sortT xs) []).subset h; simpa using this)
theorem norm_len (xs : List T) : (normT xs).length ≤ xs.length := by
  have := (nrm_sub (sortT xs) []).length_le
  rw [List.nil_append, sort_len] at this; exact this
theorem norm_sep (xs : List T) : (normT xs).Pairwise sep := nrm_sep (sortT xs) [] List.Pairwise.nil (fun o h => by cases h)
theorem norm_ord (xs : List T) : (normT xs).Pairwise (fun a b => ordT a.ts b.ts ≤ 0) := (sort_pair xs).sublist (by have := nrm_sub (sortT xs) []; rw [List.nil_append] at this; exact this)
theorem sort_self {xs : List T} (h : xs.Pairwise (fun a b => ordT a.ts b.ts ≤ 0)) : sortT xs = xs := by
  refine List.Perm.eq_of_pairwise (le := fun a b => ordT a.ts b.ts ≤ 0) (fun a b _ _ h1 h2 => ?_) (sort_pair xs) h (sort_perm xs)
  have := ordT_neg a.ts b.ts
  exact ts_inj ((ordT_zero a.ts b.ts).1 (by omega))
theorem norm_again (xs : List T) : normT (normT xs) = normT xs := by
  show nrm [] (sortT (normT xs)) = normT xs
  rw [sort_self (norm_ord xs), nrm_keep _ [] (norm_sep xs) (fun o h => by cases h)]; rfl
theorem norm_perm {xs ys : List T} (h : xs.Perm ys) : normT xs = normT ys := by unfold normT; rw [sort_eq h]
theorem norm_ok {xs : List T} (h : okF xs) : okF (normT xs) := fun t ht => h t (norm_mem ht)
theorem norm_chk {xs : List T} (h : chkB xs = true) : chkB (normT xs) = true := by
  unfold chkB at *
  simp only [Bool.and_eq_true, decide_eq_true_eq, List.all_eq_true] at *
  exact ⟨Nat.le_trans (norm_len xs) h.1, fun t ht => h.2 t (norm_mem ht)⟩
theorem norm_pair {xs : List T} (h : okF xs) {i k : Nat} (hi : i < (normT xs).length) (hk : k < (normT xs).length) (hne : i ≠ k) : impT (normT xs)[i].ts (normT xs)[k].ts = false ∧ (i < k → ordT (normT xs)[i].ts (normT xs)[k].ts < 0) := by
  have hp := norm_sep xs
  have ho := norm_ord xs
  rw [List.pairwise_iff_getElem] at hp ho
  refine ⟨?_, fun hlt => ?_⟩
  · rcases Nat.lt_or_gt_of_ne hne with h | h
    · exact (hp i k hi hk h).1
    · exact (hp k i hk hi h).2
  · have h1 := ho i k hi hk hlt
    have h2 : ordT (normT xs)[i].ts (normT xs)[k].ts ≠ 0 := fun e => by
      have := (ordT_zero _ _).1 e
      have hs := (hp i k hi hk hlt).1
      rw [this, imp_self (norm_ok h _ (List.getElem_mem hk))] at hs
      cases hs
    omega
theorem norm_matches {xs : List T} {es : List AT} (h : okF xs) (he : okE es) : matchesT (normT xs) es = matchesT xs es := by
  rw [Bool.eq_iff_iff]
  constructor
  · intro hm
    refine cov_sound (norm_ok h) he (cov_iff.2 fun t ht => ?_) hm
    obtain ⟨r, hr, hi⟩ := nrm_cov (sortT xs) [] (fun t ht => h t ((sort_perm xs).mem_iff.1 (by simpa using ht))) t (by simpa using (sort_perm xs).mem_iff.2 ht)
    exact ⟨r, hr, hi⟩
  · intro hm
    unfold matchesT at *
    rw [List.all_eq_true] at *
    exact fun t ht => hm t (norm_mem ht)
/-! What implies what, for the statements -/
theorem imp_exact {a b : Ts} (h : a.op = 1) (hn : a.nm = b.nm) (hb : 1 ≤ b.op ∧ b.op ≤ 8) : impT a b = isV b.op b.v a.v := by
  obtain ⟨an, ao, av⟩ := a
  obtain ⟨bn, bo, bv⟩ := b
  simp only at h hn hb
  subst h
  subst hn
  have hk : known bo = true := by unfold known; exact decide_eq_true hb
  have hk1 : known 1 = true := rfl
  by_cases h8 : bo = 8
  · subst h8
    simp [impT, isV, hk1, hk]
  · by_cases he : (⟨an, 1, av⟩ : Ts) = ⟨an, bo, bv⟩
    · injection he with _ h1 h2
      subst h1; subst h2
      have z : av.ord av = 0 := (ord_zero av av).2 rfl
      simp [impT, hk1, isV, asks, z]
    · have : impT ⟨an, 1, av⟩ ⟨an, bo, bv⟩ = (decide (av.k = bv.k) && isV bo bv av) := by
        unfold impT
        rw [hk1, hk, decide_eq_false he, decide_eq_false h8]
        simp [pairV]
      rw [this]
      unfold isV
      rw [if_neg h8]
      cases decide (av.k = bv.k) <;> simp
theorem imp_is {a : Ts} (h : 1 ≤ a.op ∧ a.op ≤ 8) (v : Vl) : impT a ⟨a.nm, 8, v⟩ = true := by
  refine imp_mk rfl h ⟨show (1 : Int) ≤ 8 by decide, show (8 : Int) ≤ 8 by decide⟩ (.inr (.inl rfl))
theorem imp_is_back {a : Ts} (h : 1 ≤ a.op ∧ a.op ≤ 8) (v : Vl) (hz : a.op = 8 → a.v = v) : impT ⟨a.nm, 8, v⟩ a = decide (a.op = 8) := by
  rw [Bool.eq_iff_iff, decide_eq_true_eq]
  constructor
  · intro hi
    obtain ⟨_, _, _, hc⟩ := imp_op hi
    rcases hc with hc | hc | ⟨hc, _⟩
    · rw [← hc]
    · exact hc
    · exact absurd rfl hc
  · intro h8
    exact imp_mk rfl ⟨show (1 : Int) ≤ 8 by decide, show (8 : Int) ≤ 8 by decide⟩ h (.inr (.inl h8))
theorem imp_name {a b : Ts} (h : ¬ a.nm = b.nm) : impT a b = false := by
  cases hi : impT a b with
  | false => rfl
  | true => exact absurd (imp_op hi).1 h
end Go.Proofs.Ytclmbonippjhoaa
