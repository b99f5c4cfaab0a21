/- Subscriptions as data, and how memory bears them; the document's words of chapter 15 as plain functions, and their laws. -/
import Derived.Test.YtiifflojpoobpaaGreatEnt0
import Derived.Test.YtiifflojpoobpaaGreatRedQ
set_option linter.unusedVariables false
set_option linter.unusedSimpArgs false
namespace Go.Proofs.YtiifflojpoobpaaGreat
open Go.RowKit

/-- a subscription: its client, its number, its filter -/
structure SB where
  c : Int
  u : Int
  f : SV
  ts : List T
def SB.cs (x : SB) : List Value := [.int .i64 x.c, .int .u64 x.u, .slice x.f.a x.f.n x.f.c]
theorem SB.wid (x : SB) : x.cs.length = 3 := rfl
theorem SB.one (x : SB) : ∀ u ∈ x.cs, u.oneCell' = true := by
  intro u hu; simp only [SB.cs, List.mem_cons, List.not_mem_nil, or_false] at hu; rcases hu with rfl | rfl | rfl <;> rfl
theorem cellsSB {w : World} {b o : Nat} {x : SB} (h : CellsAt w b o x.cs) :
    w.cell? ⟨b, o, none⟩ = some (.int .i64 x.c) ∧ w.cell? ⟨b, o + 1, none⟩ = some (.int .u64 x.u) ∧ w.cell? ⟨b, o + 2, none⟩ = some (.slice x.f.a x.f.n x.f.c) := ⟨h 0 _ rfl, h 1 _ rfl, h 2 _ rfl⟩
/-- the same as data -/
structure SD where
  c : Int
  u : Int
  ts : List T
def SB.d (x : SB) : SD := ⟨x.c, x.u, x.ts⟩
/-- Subscriptions in memory. -/
structure Subs (w : World) (a : Option Addr) (n c : Nat) (xs : List SB) : Prop where
  sl : Sl w 3 SB.cs a n c xs
  ts : ∀ x, x ∈ xs → Sl w 5 T.cs x.f.a x.f.n x.f.c x.ts
theorem Subs.ext {w w' : World} {a : Option Addr} {n c : Nat} {xs : List SB} (h : Subs w a n c xs) (hx : Ext w w') : Subs w' a n c xs := ⟨h.sl.ext hx, fun x hm => (h.ts x hm).ext hx⟩
theorem Subs.nil (w : World) : Subs w none 0 0 [] := ⟨Sl.nil _ SB.wid, fun x hx => by cases hx⟩

/-- which comes first: a subscription, or a client's one of a number -/
def sideI (s : SD) (c u : Int) : Int := if cmpI s.c c ≠ 0 then cmpI s.c c else cmpI s.u u
/-- subscriptions behind an entry -/
def applyD (l : List SD) (d : ED) : List SD :=
  if d.k = 2 ∨ d.k = 3 then l.filter (fun s => decide (sideI s d.c d.u < 0)) ++ ((if d.k = 2 then [⟨d.c, d.u, d.ts⟩] else []) ++ l.filter (fun s => decide (0 < sideI s d.c d.u))) else l
/-- all filters of some clients -/
def askedD (l : List SD) (cl : List Int) : List (List T) := (l.filter (fun s => cl.contains s.c)).map (·.ts)
def filtersD (l : List SD) (cl : List Int) : List (List T) := red [] (askedD l cl)
/-- the events that one of some filters matches -/
def matchedD (fs : List (List T)) (es : List (List AT)) : List (List AT) := es.filter (fun e => fs.any (fun f => matchesT f e))
def cutD (l : List SD) (cl : List Int) (d : ED) : ED := if d.k = 1 then { d with es := matchedD (filtersD l cl) d.es } else d
def batchD (l : List SD) (c : Int) (d : ED) : List (List AT) := if d.k = 1 then matchedD (askedD l [c]) d.es else []

theorem sideI_cases (s : SD) (c u : Int) : (sideI s c u = -1 ∧ (s.c < c ∨ s.c = c ∧ s.u < u)) ∨ (sideI s c u = 1 ∧ (c < s.c ∨ s.c = c ∧ u < s.u)) ∨ (sideI s c u = 0 ∧ s.c = c ∧ s.u = u) := by
  unfold sideI
  have h1 := cmpI_cases s.c c
  have h2 := cmpI_cases s.u u
  split <;> omega
/-- subscriptions that rise -/
def risesD (l : List SD) : Prop := l.Pairwise (fun a b => a.c < b.c ∨ a.c = b.c ∧ a.u < b.u)
theorem rises_apply {l : List SD} (h : risesD l) (d : ED) : risesD (applyD l d) := by
  unfold applyD
  split
  · unfold risesD at *
    rw [List.pairwise_append]
    refine ⟨h.filter _, ?_, fun a ha b hb => ?_⟩
    · split
      · rw [List.singleton_append, List.pairwise_cons]
        refine ⟨fun b hb => ?_, h.filter _⟩
        have hb' := (List.mem_filter.1 hb).2
        simp only [decide_eq_true_eq] at hb'
        rcases sideI_cases b d.c d.u with ⟨e, k⟩ | ⟨e, k⟩ | ⟨e, k⟩ <;> simp only <;> omega
      · rw [List.nil_append]; exact h.filter _
    · have ha' := (List.mem_filter.1 ha).2
      simp only [decide_eq_true_eq] at ha'
      rcases List.mem_append.1 hb with hb | hb
      · split at hb
        · obtain rfl := List.mem_singleton.1 hb
          rcases sideI_cases a d.c d.u with ⟨e, k⟩ | ⟨e, k⟩ | ⟨e, k⟩ <;> simp only <;> omega
        · cases hb
      · have hb' := (List.mem_filter.1 hb).2
        simp only [decide_eq_true_eq] at hb'
        rcases sideI_cases a d.c d.u with ⟨e, k⟩ | ⟨e, k⟩ | ⟨e, k⟩ <;> rcases sideI_cases b d.c d.u with ⟨e', k'⟩ | ⟨e', k'⟩ | ⟨e', k'⟩ <;> omega
  · exact h
theorem filter_same {α : Type} {p q : α → Bool} {l : List α} (h : ∀ x, x ∈ l → p x = true → q x = true) : (l.filter p).filter q = l.filter p := by
  rw [List.filter_eq_self]
  intro x hx
  obtain ⟨h1, h2⟩ := List.mem_filter.1 hx
  exact h x h1 h2
theorem filter_none {α : Type} {p q : α → Bool} {l : List α} (h : ∀ x, x ∈ l → p x = true → q x = false) : (l.filter p).filter q = [] := by
  rw [List.filter_eq_nil_iff]
  intro x hx
  obtain ⟨h1, h2⟩ := List.mem_filter.1 hx
  rw [h x h1 h2]; decide
theorem apply_twice (l : List SD) (d : ED) : applyD (applyD l d) d = applyD l d := by
  unfold applyD
  by_cases hk : d.k = 2 ∨ d.k = 3
  · simp only [if_pos hk]
    have hs : sideI ⟨d.c, d.u, d.ts⟩ d.c d.u = 0 := by
      rcases sideI_cases ⟨d.c, d.u, d.ts⟩ d.c d.u with ⟨e, k⟩ | ⟨e, k⟩ | ⟨e, k⟩
      · simp at k
      · simp at k
      · exact e
    have e1 : ((if d.k = 2 then [(⟨d.c, d.u, d.ts⟩ : SD)] else []).filter (fun s => decide (sideI s d.c d.u < 0))) = [] := by
      split
      · rw [List.filter_cons, hs]; rfl
      · rfl
    have e2 : ((if d.k = 2 then [(⟨d.c, d.u, d.ts⟩ : SD)] else []).filter (fun s => decide (0 < sideI s d.c d.u))) = [] := by
      split
      · rw [List.filter_cons, hs]; rfl
      · rfl
    have e3 : (l.filter (fun s => decide (sideI s d.c d.u < 0))).filter (fun s => decide (0 < sideI s d.c d.u)) = [] := filter_none (fun x _ h => by simp only [decide_eq_true_eq, decide_eq_false_iff_not] at h ⊢; omega)
    have e4 : (l.filter (fun s => decide (0 < sideI s d.c d.u))).filter (fun s => decide (sideI s d.c d.u < 0)) = [] := filter_none (fun x _ h => by simp only [decide_eq_true_eq, decide_eq_false_iff_not] at h ⊢; omega)
    simp only [List.filter_append, e1, e2, e3, e4, List.nil_append, List.append_nil]
    rw [filter_same (fun x _ h => h), filter_same (fun x _ h => h)]
  · simp only [if_neg hk]
theorem asked_nil (l : List SD) : askedD l [] = [] := by unfold askedD; simp
theorem filters_nil (l : List SD) : filtersD l [] = [] := by unfold filtersD; rw [asked_nil]; rfl
theorem matched_nil (es : List (List AT)) : matchedD [] es = [] := by unfold matchedD; simp
theorem matched_len (fs : List (List T)) (es : List (List AT)) : (matchedD fs es).length ≤ es.length := List.length_filter_le _ _
/-- subscriptions whose filters may be -/
def okS (l : List SD) : Prop := ∀ s, s ∈ l → okF s.ts
theorem ok_apply {l : List SD} {d : ED} (h : okS l) (hd : okF d.ts) : okS (applyD l d) := by
  unfold applyD
  split
  · intro s hs
    rcases List.mem_append.1 hs with hs | hs
    · exact h s (List.mem_filter.1 hs).1
    · rcases List.mem_append.1 hs with hs | hs
      · split at hs
        · obtain rfl := List.mem_singleton.1 hs; exact hd
        · cases hs
      · exact h s (List.mem_filter.1 hs).1
  · exact h
theorem ok_asked {l : List SD} {cl : List Int} (h : okS l) : ∀ f, f ∈ askedD l cl → okF f := fun f hf => by
  obtain ⟨s, hs, rfl⟩ := List.mem_map.1 hf
  exact h s (List.mem_filter.1 hs).1
theorem any_filters {l : List SD} {cl : List Int} {es : List AT} (h : okS l) (he : okE es) : (filtersD l cl).any (fun f => matchesT f es) = (askedD l cl).any (fun f => matchesT f es) := red_any (ok_asked h) he
theorem matched_filters {l : List SD} {cl : List Int} {es : List (List AT)} (h : okS l) (he : ∀ e, e ∈ es → okE e) : matchedD (filtersD l cl) es = matchedD (askedD l cl) es := by
  unfold matchedD
  exact List.filter_congr fun e hm => any_filters h (he e hm)
theorem asked_mono {l : List SD} {c1 c2 : List Int} (h : ∀ c, c ∈ c1 → c ∈ c2) {f : List T} (hf : f ∈ askedD l c1) : f ∈ askedD l c2 := by
  obtain ⟨s, hs, rfl⟩ := List.mem_map.1 hf
  obtain ⟨h1, h2⟩ := List.mem_filter.1 hs
  refine List.mem_map.2 ⟨s, List.mem_filter.2 ⟨h1, ?_⟩, rfl⟩
  simp only [List.contains_iff_mem] at h2 ⊢
  exact h _ h2
theorem matched_sub {f1 f2 : List (List T)} {es : List (List AT)} (h : ∀ f, f ∈ f1 → f ∈ f2) : matchedD f1 (matchedD f2 es) = matchedD f1 es := by
  unfold matchedD
  rw [List.filter_filter]
  refine List.filter_congr fun e _ => ?_
  rw [Bool.eq_iff_iff, Bool.and_eq_true]
  constructor
  · exact fun h => h.1
  · intro k
    obtain ⟨f, hf, hm⟩ := List.any_eq_true.1 k
    exact ⟨k, List.any_eq_true.2 ⟨f, h f hf, hm⟩⟩
theorem cut_again {l : List SD} {some more : List Int} {d : ED} (h : okS l) (he : ∀ e, e ∈ d.es → okE e) : cutD l some (cutD l (some ++ more) d) = cutD l some d := by
  unfold cutD
  by_cases hk : d.k = 1
  · rw [if_pos hk, if_pos hk, if_pos (show ({ d with es := matchedD (filtersD l (some ++ more)) d.es } : ED).k = 1 from hk)]
    simp only
    have he2 : ∀ e, e ∈ matchedD (askedD l (some ++ more)) d.es → okE e := fun e hm => he e (List.mem_filter.1 hm).1
    rw [matched_filters h he, matched_filters h he2, matched_filters h he, matched_sub (fun f hf => asked_mono (fun c hc => List.mem_append_left _ hc) hf)]
  · simp only [if_neg hk]
theorem batch_cut {l : List SD} {cl : List Int} {c : Int} {d : ED} (h : okS l) (he : ∀ e, e ∈ d.es → okE e) (hc : c ∈ cl) : batchD l c (cutD l cl d) = batchD l c d := by
  unfold batchD cutD
  by_cases hk : d.k = 1
  · simp only [if_pos hk]
    rw [matched_filters h he, matched_sub (fun f hf => asked_mono (fun x hx => by rw [List.mem_singleton.1 hx]; exact hc) hf)]
  · simp only [if_neg hk]
theorem cut_len {l : List SD} {c1 c2 : List Int} {d : ED} (h : okS l) (he : ∀ e, e ∈ d.es → okE e) (hc : ∀ c, c ∈ c1 → c ∈ c2) : (cutD l c1 d).es.length ≤ (cutD l c2 d).es.length := by
  unfold cutD
  by_cases hk : d.k = 1
  · rw [if_pos hk, if_pos hk]
    simp only
    rw [matched_filters h he, matched_filters h he, ← matched_sub (f1 := askedD l c1) (f2 := askedD l c2) (fun f hf => asked_mono hc hf)]
    exact matched_len _ _
  · rw [if_neg hk, if_neg hk]; exact Nat.le_refl _
theorem cut_less (l : List SD) (cl : List Int) (d : ED) : (cutD l cl d).es.length ≤ d.es.length := by
  unfold cutD
  split
  · exact matched_len _ _
  · exact Nat.le_refl _
theorem batch_own (l : List SD) (c : Int) (d : ED) : batchD (l.filter (fun s => decide (s.c = c))) c d = batchD l c d := by
  have : askedD (l.filter (fun s => decide (s.c = c))) [c] = askedD l [c] := by
    unfold askedD
    rw [List.filter_filter]
    congr 1
    refine List.filter_congr fun s _ => ?_
    rw [Bool.eq_iff_iff]; simp
  unfold batchD
  rw [this]
theorem batch_none {l : List SD} {c : Int} {d : ED} (h : l.filter (fun s => decide (s.c = c)) = []) : batchD l c d = [] := by
  rw [← batch_own, h]
  unfold batchD askedD matchedD
  simp
end Go.Proofs.YtiifflojpoobpaaGreat
