/- A region that draws its order, walked by hand: operations that are taken first, skipped ones too. No program is named here. -/
import Derived.Test.YtjggjkmafcokjaaBase
import Derived.Deep.RegionHeld3
set_option linter.unusedVariables false
set_option linter.unusedSimpArgs false
namespace Go.Proofs.Ytjggjkmafcokjaa

/-- Take number 'i' first; where its value goes is said plainly. -/
theorem hTake {P : Program} {ops : Array Oper} {Q : Exit → Act → World → Prop} {md : Region.Mode} {S : World → Prop} (i : Nat) (d : Option Tmp) {v : Value} {fuel : Nat} {listed : Array Bool} {a : Act} {w : World}
    (hs : Region.noSelect ops = true) (hf : Region.free md ops listed i = true) (hr : (Region.ready md ops listed).contains i = true)
    (hQ : ∀ c a w, Q (.panic c) (a.put d v) w → Q (.panic c) a w) (hy : ∃ oi, ops[i]? = some oi ∧ oi.dst = d ∧ YieldsIf P ops S oi v a) (hS : S w)
    (h : wpAnyH P md ops Q S fuel (listed.setIfInBounds i true) (a.put d v) w) : wpAnyH P md ops Q S (fuel + 1) listed a w := by
  obtain ⟨oi, hi, rfl, hy⟩ := hy
  exact wpAnyH_take hi hs hf hr hQ hy hS h
end Go.Proofs.Ytjggjkmafcokjaa
