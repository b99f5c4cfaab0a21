/- A new index: its walk. -/
import Derived.Test.YtjggjkmafcokjaaIx2
import Derived.Carry
import Derived.WalkSpells
set_option linter.unusedVariables false
set_option linter.unusedSimpArgs false
namespace Go.Proofs.Ytjggjkmafcokjaa
open Go.RowKit

/-- labels that have come -/
structure Fresh (own own' : Nat → Option Lab) (w : World) : Prop where
  up : ∀ b l, own b = some l → own' b = some l
  new : ∀ b l, own' b = some l → own b = some l ∨ w.heap.size ≤ b
theorem Fresh.refl (own : Nat → Option Lab) (w : World) : Fresh own own w := ⟨fun _ _ h => h, fun _ _ h => .inl h⟩
theorem Fresh.trans {own own' own'' : Nat → Option Lab} {w w' : World} (h : Fresh own own' w) (k : Fresh own' own'' w') (hs : w.heap.size ≤ w'.heap.size) : Fresh own own'' w :=
  ⟨fun b l e => k.up b l (h.up b l e), fun b l e => by
    rcases k.new b l e with e | e
    · exact h.new b l e
    · exact .inr (Nat.le_trans hs e)⟩
theorem Fresh.none {own own' : Nat → Option Lab} {w : World} (h : Fresh own own' w) : ∀ b, b < w.heap.size → own b = none → own' b = none := fun b hb hn => by
  cases e : own' b with
  | none => rfl
  | some l => rcases h.new b l e with e | e
              · rw [hn] at e; cases e
              · omega
theorem Fresh.add {own : Nat → Option Lab} {w : World} {b : Nat} {l : Lab} (hb : w.heap.size ≤ b) (hn : own b = Option.none) : Fresh own (addL own b l) w :=
  ⟨fun _ _ h => addL_old hn h, fun k l' h => by
    rcases addL_inv h with ⟨rfl, _⟩ | h
    · exact .inr hb
    · exact .inl h⟩
noncomputable def own0 (n : Nat) : Nat → Option Lab := addL (addL (addL (fun _ => none) n .F) (n + 1) .T) (n + 2) .P
def RetNew (w : World) (e : Ending) (w' : World) : Prop := ∃ p own, e = .returned (.pointer (some ⟨p, 0, none⟩)) ∧ Ix w' w.heap.size p 0 (fun _ => none) 0 own ∧ Ext w w'
set_option maxRecDepth 100000 in
theorem new8_any (w : World) : Calls Try.prog 10 #[] w (RetNew w) := by
  have hmm := @run_makeMap Try.prog
  go_enter Try.func10, Try.ntmps10
  go_wp2
  go_ret
  have e1 : own0 w.heap.size w.heap.size = some .F := addL_old (addL_none (addL_none rfl (by omega)) (by omega)) (addL_old (addL_none rfl (by omega)) addL_same)
  have e2 : own0 w.heap.size (w.heap.size + 1) = some .T := addL_old (addL_none (addL_none rfl (by omega)) (by omega)) addL_same
  refine ⟨w.heap.size + 2, own0 w.heap.size, by simp, ⟨w.heap.size, w.heap.size + 1, 0, fun _ => none, fun _ => none, ?_, addL_same, e1, e2, ?_, ?_, ?_, fun _ => rfl, fun nm => .inl ⟨rfl, fun id => rfl⟩⟩, (by (repeat (first | exact Ext.refl _ | refine Ext.alloc ?_ _ | refine Ext.drewN ?_ _ | refine Ext.drew ?_ | refine Ext.trans ?_ (Hid.out (by assumption)))))⟩
  · intro b l hb
    rcases addL_inv hb with ⟨rfl, _⟩ | hb
    · simp
    rcases addL_inv hb with ⟨rfl, _⟩ | hb
    · simp
    rcases addL_inv hb with ⟨rfl, _⟩ | hb
    · simp; omega
    · cases hb
  · (repeat (first | (refine heap_new ?_; (simp; done)) | refine heap_old (by first | (simp; done) | (simp; omega)) ?_))
  · exact (MapF.made w Try.prog 30).ext (by (repeat (first | exact Ext.refl _ | refine Ext.alloc ?_ _ | refine Ext.drewN ?_ _ | refine Ext.drew ?_ | refine Ext.trans ?_ (Hid.out (by assumption)))))
  · have := (MapF.made (w.alloc (.map #[] 0)) Try.prog 9)
    simp only [World.size_alloc] at this
    exact this.ext (by (repeat (first | exact Ext.refl _ | refine Ext.alloc ?_ _ | refine Ext.drewN ?_ _ | refine Ext.drew ?_ | refine Ext.trans ?_ (Hid.out (by assumption)))))
end Go.Proofs.Ytjggjkmafcokjaa
