/- Whether a test implies another one: the walk of the program's Implies. -/
import Derived.Test.YtjggjkmafcokjaaIs
import Derived.Deep.RegionHeld3
set_option linter.unusedVariables false
set_option linter.unusedSimpArgs false
namespace Go.Proofs.Ytjggjkmafcokjaa
open Go.RowKit

theorem run_eqT (a b : T) (w : World) :
    (binOp .eql 54 (.agg #[.string a.nm, .int .i64 a.op, .int .i64 a.k, .int .i64 a.n, .string a.s]) (.agg #[.string b.nm, .int .i64 b.op, .int .i64 b.k, .int .i64 b.n, .string b.s])).run Try.prog w = .ok (.bool (decide (a.ts = b.ts))) w := by
  have e : (a.ts = b.ts) ↔ (a.nm.toList = b.nm.toList ∧ a.op = b.op ∧ a.k = b.k ∧ a.n = b.n ∧ a.s.toList = b.s.toList) := by simp [T.ts, T.v]
  have e' : decide (a.ts = b.ts) = decide (a.nm.toList = b.nm.toList ∧ a.op = b.op ∧ a.k = b.k ∧ a.n = b.n ∧ a.s.toList = b.s.toList) := decide_eq_decide.2 e
  rw [e']
  clear e e'
  by_cases h1 : a.nm.toList = b.nm.toList
  · by_cases h2 : a.op = b.op
    · by_cases h3 : a.k = b.k
      · by_cases h4 : a.n = b.n
        · by_cases h5 : a.s.toList = b.s.toList
          · simp [h1, h2, h3, h4, h5, go_sem]
          · simp [h1, h2, h3, h4, h5, go_sem]
        · simp [h1, h2, h3, h4, go_sem]
      · simp [h1, h2, h3, go_sem]
    · simp [h1, h2, go_sem]
  · simp [h1, go_sem]
theorem imp_eq (a b : T) : impT a.ts b.ts = (decide (a.nm.toList = b.nm.toList) && known a.op && known b.op && (decide (a.ts = b.ts) || decide (b.op = 8) || (!decide (a.op = 8) && decide (a.k = b.k) && pairV a.op a.v b.op b.v))) := rfl
theorem known_ops {op : Int} (h : known op = true) (h8 : op ≠ 8) : op = 1 ∨ op = 2 ∨ op = 3 ∨ op = 4 ∨ op = 5 ∨ op = 6 ∨ op = 7 := by
  unfold known at h; have := of_decide_eq_true h; omega
theorem pairV_2 (a : Vl) (op' : Int) (b : Vl) : pairV 2 a op' b = false := rfl
end Go.Proofs.Ytjggjkmafcokjaa
