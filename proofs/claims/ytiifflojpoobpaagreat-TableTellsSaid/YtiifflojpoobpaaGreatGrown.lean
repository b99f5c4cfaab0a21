/- Subscriptions behind some entries: the walk of the statements' grown. -/
import Derived.Test.YtiifflojpoobpaaGreatApply
import Derived.Test.YtiifflojpoobpaaGreatChk15
import Derived.Test.YtiifflojpoobpaaGreatFewE
set_option linter.unusedVariables false
set_option linter.unusedSimpArgs false
namespace Go.Proofs.YtiifflojpoobpaaGreat
open Go.RowKit

theorem cellsE {w : World} {b o : Nat} {x : EV} (h : CellsAt w b o x.cs) :
    w.cell? ⟨b, o, none⟩ = some (.int .i64 x.k) ∧ w.cell? ⟨b, o + 1, none⟩ = some (.int .i64 x.id.b) ∧ w.cell? ⟨b, o + 2, none⟩ = some (.int .u64 x.id.l) ∧ w.cell? ⟨b, o + 3, none⟩ = some (.int .u64 x.id.s) ∧ w.cell? ⟨b, o + 4, none⟩ = some (.int .i64 x.c) ∧ w.cell? ⟨b, o + 5, none⟩ = some (.int .u64 x.u) ∧ w.cell? ⟨b, o + 6, none⟩ = some (.slice x.f.a x.f.n x.f.c) ∧ w.cell? ⟨b, o + 7, none⟩ = some (.slice x.e.a x.e.n x.e.c) :=
  ⟨h 0 _ rfl, h 1 _ rfl, h 2 _ rfl, h 3 _ rfl, h 4 _ rfl, h 5 _ rfl, h 6 _ rfl, h 7 _ rfl⟩
theorem two_filters {α : Type} {p q : α → Bool} : ∀ (l : List α), (∀ x, x ∈ l → p x = true → q x = false) → (l.filter p).length + (l.filter q).length ≤ l.length
  | [], _ => by simp
  | x :: l, h => by
    have ih := two_filters l (fun y hy => h y (List.mem_cons_of_mem _ hy))
    have hx := h x List.mem_cons_self
    rw [List.filter_cons, List.filter_cons, List.length_cons]
    cases hp : p x <;> cases hq : q x
    · simp; omega
    · simp; omega
    · simp; omega
    · rw [hx hp] at hq; cases hq
theorem apply_len (l : List SD) (d : ED) : (applyD l d).length ≤ l.length + 1 := by
  unfold applyD
  split
  · have h := two_filters (p := fun s => decide (sideI s d.c d.u < 0)) (q := fun s => decide (0 < sideI s d.c d.u)) l (fun x _ h => by simp only [decide_eq_true_eq, decide_eq_false_iff_not] at h ⊢; omega)
    rw [List.length_append, List.length_append]
    split <;> simp only [List.length_singleton, List.length_nil] <;> omega
  · omega
theorem apply_mem {l : List SD} {d : ED} {s : SD} (h : s ∈ applyD l d) : s ∈ l ∨ s.ts = d.ts := by
  unfold applyD at h
  split at h
  · rcases List.mem_append.1 h with h | h
    · exact .inl (List.mem_filter.1 h).1
    · rcases List.mem_append.1 h with h | h
      · split at h
        · rw [List.mem_singleton.1 h]; exact .inr rfl
        · cases h
      · exact .inl (List.mem_filter.1 h).1
  · exact .inl h
/-- what subscriptions behind at most k entries are -/
structure GR (k : Nat) (l : List SD) : Prop where
  len : l.length ≤ k
  ok : okS l
  ris : risesD l
  few : ∀ s, s ∈ l → s.ts.length ≤ 100
theorem GR.next {k : Nat} {l : List SD} {d : ED} (h : GR k l) (hd : okD d) (hs : Small d) : GR (k + 1) (applyD l d) :=
  ⟨by have := apply_len l d; have := h.len; omega, ok_apply h.ok hd.1, rises_apply h.ris d, fun s hm => (apply_mem hm).elim (h.few s) (fun e => by rw [e]; exact hs.ts)⟩
theorem GR.mono {k m : Nat} {l : List SD} (h : GR k l) (hk : k ≤ m) : GR m l := ⟨Nat.le_trans h.len hk, h.ok, h.ris, h.few⟩
theorem GR.nil : GR 0 ([] : List SD) := ⟨by simp, (fun s hs => by cases hs), List.Pairwise.nil, (fun s hs => by cases hs)⟩
def RetG (w : World) (e : Ending) (w' : World) : Prop := ∃ aa n cap ys, e = .returned (.slice aa n cap) ∧ Subs w' aa n cap ys ∧ GR 30 (ys.map SB.d) ∧ Ext w w'
end Go.Proofs.YtiifflojpoobpaaGreat
