/- An index in memory: what a store and a delete make of it. -/
import Derived.Test.YtjggjkmafcokjaaIx
set_option linter.unusedVariables false
set_option linter.unusedSimpArgs false
namespace Go.Proofs.Ytjggjkmafcokjaa
open Go.RowKit

section
variable {w w' : World} {base p m m' s bF bT sT : Nat} {fd : Int → Option (List T)} {tf tf' : List UInt8 → Int → List T} {own own' : Nat → Option Lab} {fF fT : Lit → Option Value}
/-- what an index is hangs on its own blocks alone -/
theorem IxB.blk (h : IxB w base p m fd tf s own bF bT sT fF fT) (hs : w.heap.size ≤ w'.heap.size) (hb : ∀ b l, own b = some l → w'.heap[b]? = w.heap[b]?) : IxB w' base p m fd tf s own bF bT sT fF fT :=
  ⟨fun b l ho => ⟨(h.lab b l ho).1, Nat.lt_of_lt_of_le (h.lab b l ho).2 hs⟩, h.oP, h.oF, h.oT, (hb _ _ h.oP).trans h.hP, h.mF.blk (hb _ _ h.oF), h.mT.blk (hb _ _ h.oT), fun id => (h.flt id).blk (fun _ _ k => k) (fun b ho => hb b _ ho),
    fun nm => (h.inn nm).blk (fun _ _ k => k) (Nat.le_refl _) (fun b ho => hb b _ ho) (fun b id ho => hb b _ ho)⟩
/-- a filter is taken out -/
theorem IxB.dropF (h : IxB w base p m fd tf s own bF bT sT fF fT) (hs : w.heap.size ≤ w'.heap.size) (hb : ∀ b l, own b = some l → b ≠ bF → w'.heap[b]? = w.heap[b]?) {id : Int} {s' : Nat}
    (hM : MapF w' Try.prog 30 bF m s' (updF fF (.int .u64 id) none)) :
    IxB w' base p m (fun k => if k = id then none else fd k) tf s' own bF bT sT (updF fF (.int .u64 id) none) fT := by
  have hne : ∀ {b : Nat} {l : Lab}, own b = some l → l ≠ .F → w'.heap[b]? = w.heap[b]? := fun {b l} k hl => hb b l k (IxB.ne k h.oF hl)
  refine ⟨fun b l ho => ⟨(h.lab b l ho).1, Nat.lt_of_lt_of_le (h.lab b l ho).2 hs⟩, h.oP, h.oF, h.oT, (hne h.oP (by simp)).trans h.hP, hM, h.mT.blk (hne h.oT (by simp)), fun k => ?_, fun nm => ?_⟩
  · by_cases e : k = id
    · subst e
      rw [upd_same]
      show FltOk w' own k (if k = k then none else fd k) _
      rw [if_pos rfl]
      rfl
    · rw [upd_other (fun x => e (by cases x; rfl))]
      show FltOk w' own k (if k = id then none else fd k) _
      rw [if_neg e]
      exact (h.flt k).blk (fun _ _ k => k) fun b hb' => hne hb' (by simp)
  · exact (h.inn nm).blk (fun _ _ k => k) (Nat.le_refl _) (fun b hb' => hne hb' (by simp)) (fun b id hb' => hne hb' (by simp))
/-- the map of a name turns: it is made, or it is dropped as it is empty -/
theorem IxB.putT (h : IxB w base p m fd tf s own bF bT sT fF fT) (hm : ∀ b l, own b = some l → own' b = some l) (hlab : ∀ b l, own' b = some l → base ≤ b ∧ b < w'.heap.size) (hmm : m ≤ m')
    (hb : ∀ b l, own b = some l → b ≠ bT → w'.heap[b]? = w.heap[b]?) {nm : List UInt8} {v : Option Value} {s' : Nat} (hM : MapF w' Try.prog 9 bT m' s' (updF fT (.string nm) v))
    (hv : InnOk w' own' base m' nm (tf nm) v) :
    IxB w' base p m' fd tf s own' bF bT s' fF (updF fT (.string nm) v) := by
  have hne : ∀ {b : Nat} {l : Lab}, own b = some l → l ≠ .T → w'.heap[b]? = w.heap[b]? := fun {b l} k hl => hb b l k (IxB.ne k h.oT hl)
  refine ⟨hlab, hm _ _ h.oP, hm _ _ h.oF, hm _ _ h.oT, (hne h.oP (by simp)).trans h.hP, (h.mF.blk (hne h.oF (by simp))).mono hmm, hM, fun k => ?_, fun nm' => ?_⟩
  · exact (h.flt k).blk hm fun b hb' => hne hb' (by simp)
  · by_cases e : nm' = nm
    · subst e; rw [upd_same]; exact hv
    · rw [upd_other (fun x => e (by cases x; rfl))]
      exact (h.inn nm').blk hm hmm (fun b hb' => hne hb' (by simp)) (fun b id hb' => hne hb' (by simp))
/-- a row of a name turns -/
theorem IxB.putR (h : IxB w base p m fd tf s own bF bT sT fF fT) (hm : ∀ b l, own b = some l → own' b = some l) (hlab : ∀ b l, own' b = some l → base ≤ b ∧ b < w'.heap.size) (hmm : m ≤ m')
    {nm : List UInt8} {id : Int} {bn s1 s2 : Nat} {g : Lit → Option Value} (hv : fT (.string nm) = some (.map (some bn))) (ho : own bn = some (.inner nm)) (hr : ∀ k, RowOk w own base nm k (tf nm k) (g (.int .u64 k)))
    (hb : ∀ b l, own b = some l → b ≠ bn → l ≠ .row nm id → w'.heap[b]? = w.heap[b]?) {v : Option Value} (hM : MapF w' Try.prog 30 bn m' s2 (updF g (.int .u64 id) v))
    (hR : RowOk w' own' base nm id (tf' nm id) v) (h1 : ∀ k, k ≠ id → tf' nm k = tf nm k) (h2 : ∀ n, n ≠ nm → tf' n = tf n) :
    IxB w' base p m' fd tf' s own' bF bT sT fF fT := by
  have hne : ∀ {b : Nat} {l : Lab}, own b = some l → l ≠ .inner nm → l ≠ .row nm id → w'.heap[b]? = w.heap[b]? := fun {b l} k hl hl' => hb b l k (IxB.ne k ho hl) hl'
  refine ⟨hlab, hm _ _ h.oP, hm _ _ h.oF, hm _ _ h.oT, (hne h.oP (by simp) (by simp)).trans h.hP, (h.mF.blk (hne h.oF (by simp) (by simp))).mono hmm, (h.mT.blk (hne h.oT (by simp) (by simp))).mono hmm, fun k => ?_, fun nm' => ?_⟩
  · exact (h.flt k).blk hm fun b hb' => hne hb' (by simp) (by simp)
  · by_cases e : nm' = nm
    · subst e
      refine .inr ⟨bn, s2, _, hv, hm _ _ ho, hM, fun k => ?_⟩
      by_cases e : k = id
      · subst e; rw [upd_same]; exact hR
      · rw [upd_other (fun x => e (by cases x; rfl)), h1 k e]
        exact (hr k).blk hm fun b hb' => hne hb' (by simp) (by simp [e])
    · rw [h2 _ e]
      exact (h.inn nm').blk hm hmm (fun b hb' => hne hb' (by simp [e]) (by simp)) (fun b id' hb' => hne hb' (by simp) (by simp [e]))
theorem IxB.congr (h : IxB w base p m fd tf s own bF bT sT fF fT) {fd' : Int → Option (List T)} (hf : ∀ k, fd' k = fd k) (ht : ∀ n k, tf' n k = tf n k) : IxB w base p m fd' tf' s own bF bT sT fF fT := by
  rw [show fd' = fd from funext hf, show tf' = tf from funext fun n => funext fun k => ht n k]; exact h
end
end Go.Proofs.Ytjggjkmafcokjaa
