/- A region that draws its order, whose own operations only read, and whose callees may make memory: walked once, in the text's order. No program is named here. -/
import Derived.Test.YtjggjkmafcokjaaBase
import Derived.Deep.QuietTactic
import Derived.Sort.Grow
set_option linter.unusedVariables false
set_option linter.unusedSimpArgs false
namespace Go.Proofs.Ytjggjkmafcokjaa

/-- A later world. -/
structure ExtBy (w : World) where
  to : World
  is : Ext w to

instance (w : World) : Inhabited (ExtBy w) := ⟨⟨w, Ext.refl w⟩⟩

theorem wp_region_quiet_ext {P : Program} {id : Nat} {Q : Exit → Act → World → Prop} {a : Act} {w : World} {l : List Oper} (hm : P.follows .mixedOrders = true) (hB : Region.lexB .any l.toArray = true)
    (h : wpQuiet P l.toArray (fun w' => ∃ p : ExtBy w, w' = p.to) (fun a' => ∀ w', (∃ p : ExtBy w, w' = p.to) → Q .normal a' w') l a) : (Code.region id l.toArray true).wp P Q a w :=
  wp_region_quiet (C := fun w' => ∃ p : ExtBy w, w' = p.to) hm hB ⟨⟨w.drew, Ext.drew (Ext.refl w)⟩, rfl⟩ (by simpa using h)
theorem Calls.extOf {P : Program} {f : FuncId} {args : Array Value} {w : World} {p : ExtBy w} {u v : Value}
    (h : Calls P f args p.to fun e w' => e = .returned u ∧ Ext p.to w') (hv : u = v) : Calls P f args p.to fun e w'' => e = .returned v ∧ ∃ q : ExtBy w, w'' = q.to :=
  h.mono fun _ w'' ⟨he, hx⟩ => ⟨by rw [he, hv], ⟨w'', Ext.trans p.is hx⟩, rfl⟩
theorem ExtBy.cell {w : World} {a : Addr} {v : Value} (h : w.cell? a = some v) : ∀ p : ExtBy w, p.to.cell? a = some v := fun p => p.is.keep h
end Go.Proofs.Ytjggjkmafcokjaa
