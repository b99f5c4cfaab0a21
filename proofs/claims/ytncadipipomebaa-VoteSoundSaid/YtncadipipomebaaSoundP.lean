/- The plain law on a broker's votes: a yes is only on what was promised and all say yes to; what was refused is voted on. -/
import Derived.Test.YtncadipipomebaaTally
import Derived.Test.YtncadipipomebaaRoomP
namespace Go.Proofs.Ytncadipipomebaa

structure Ta (kids : List Kid) (ps : List EV) (n : Nat) (rs : List Id) (out : List V) : Prop where
  yes : ∀ v, v ∈ out → v.yes = true → ps.any (fun x => idEq x.id v.id) = true ∧ saysOf kids v.id = 1
  len : out.length ≤ n + rs.length
  there : n + rs.length ≤ 14 → ∀ r, r ∈ rs → out.any (fun x => idEq x.id r) = true

theorem tally1_yes (kids : List Kid) (all : List EV) : ∀ (l : List EV) (out : List V), (∀ x, x ∈ l → x ∈ all) → (∀ v, v ∈ out → v.yes = true → all.any (fun x => idEq x.id v.id) = true ∧ saysOf kids v.id = 1) →
    ∀ v, v ∈ l.foldl (fun o x => tStep1 kids o x.id) out → v.yes = true → all.any (fun x => idEq x.id v.id) = true ∧ saysOf kids v.id = 1
  | [], _, _, h => h
  | x :: l, out, hs, h => by
    rw [List.foldl_cons]
    refine tally1_yes kids all l _ (fun y hy => hs y (List.mem_cons_of_mem _ hy)) (fun v hv hy => ?_)
    unfold tStep1 at hv
    split at hv
    · rcases List.mem_append.1 hv with hv | hv
      · exact h v hv hy
      · obtain rfl := List.mem_singleton.1 hv
        exact ⟨List.any_eq_true.2 ⟨x, hs x (List.mem_cons_self ..), idEq_true.2 rfl⟩, of_decide_eq_true hy⟩
    · exact h v hv hy
theorem tally1_len (kids : List Kid) : ∀ (l : List EV) (out : List V), (l.foldl (fun o x => tStep1 kids o x.id) out).length ≤ out.length + l.length
  | [], _ => Nat.le_refl _
  | x :: l, out => by
    rw [List.foldl_cons]
    refine Nat.le_trans (tally1_len kids l _) ?_
    unfold tStep1
    split
    · rw [List.length_append, List.length_cons]; simp; omega
    · rw [List.length_cons]; omega

theorem Ta.step {kids : List Kid} {ps : List EV} {n : Nat} {rs : List Id} {out : List V} (h : Ta kids ps n rs out) (r : Id) : Ta kids ps n (rs ++ [r]) (tStep2 out r) := by
  have hl := h.len
  by_cases hf : 16 ≤ out.length
  · have e : tStep2 out r = out := by unfold tStep2; rw [if_pos hf]
    rw [e]
    exact ⟨h.yes, by rw [List.length_append]; omega, fun hn => by rw [List.length_append, List.length_singleton] at hn; omega⟩
  · cases hc : out.any (fun x => idEq x.id r) with
    | true =>
      rw [t2_known hc]
      refine ⟨h.yes, by rw [List.length_append]; omega, fun hn q hq => ?_⟩
      rcases List.mem_append.1 hq with hq | hq
      · exact h.there (by rw [List.length_append] at hn; omega) q hq
      · obtain rfl := List.mem_singleton.1 hq; exact hc
    | false =>
      rw [t2_more hf hc]
      refine ⟨fun v hv hy => ?_, by simp; omega, fun hn q hq => ?_⟩
      · rcases List.mem_append.1 hv with hv | hv
        · exact h.yes v hv hy
        · obtain rfl := List.mem_singleton.1 hv; cases hy
      · rw [List.any_append]
        rcases List.mem_append.1 hq with hq | hq
        · rw [h.there (by rw [List.length_append] at hn; omega) q hq]; rfl
        · obtain rfl := List.mem_singleton.1 hq
          simp [idEq_true.2 rfl]
theorem Ta.fold {kids : List Kid} {ps : List EV} {n : Nat} : ∀ (l rs : List Id) (out : List V), Ta kids ps n rs out → Ta kids ps n (rs ++ l) (l.foldl tStep2 out)
  | [], rs, out, h => by rw [List.append_nil]; exact h
  | r :: l, rs, out, h => by
    rw [List.foldl_cons, show rs ++ r :: l = (rs ++ [r]) ++ l from by simp]
    exact Ta.fold l _ _ (h.step r)
theorem tally_law (kids : List Kid) (ps : List EV) (rs : List Id) : Ta kids ps ps.length rs (tallyOf kids ps rs) := by
  have := Ta.fold rs [] (tally1 kids ps) (Ta.mk (kids := kids) (ps := ps) (n := ps.length) (tally1_yes kids ps ps [] (fun _ h => h) (fun v hv => by cases hv)) (by have := tally1_len kids ps []; simpa [tally1] using this) (fun _ r hr => by cases hr))
  exact this
theorem says_no {kids : List Kid} {m : Kid} {v : V} (hm : m ∈ kids) (hv : v ∈ m.vs) (hy : v.yes = false) : saysOf kids v.id = 2 := by
  unfold saysOf
  rw [if_pos]
  refine List.any_eq_true.2 ⟨m, hm, ?_⟩
  unfold hasV
  refine List.any_eq_true.2 ⟨v, hv, ?_⟩
  unfold veq
  rw [hy, idEq_true.2 rfl]; rfl
end Go.Proofs.Ytncadipipomebaa
