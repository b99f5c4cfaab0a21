/- Which filter covers which: the walks of the program's some, Covers. -/
import Derived.Test.YtjggjkmafcokjaaImp
set_option linter.unusedVariables false
set_option linter.unusedSimpArgs false
namespace Go.Proofs.Ytjggjkmafcokjaa
open Go.RowKit

/-- whether one filter matches all that another one does, as far as tests tell -/
def cov (f g : List T) : Bool := f.all fun t => g.any fun b => impT b.ts t.ts
theorem cov_take {f g : List T} {k : Nat} (hk : k < f.length) (h : cov (f.take k) g = true) (he : g.any (fun b => impT b.ts f[k].ts) = true) : cov (f.take (k + 1)) g = true := by
  unfold cov at *; rw [List.take_succ_eq_append_getElem hk, List.all_append, h]; simpa using he
theorem cov_no {f g : List T} {k : Nat} (hk : k < f.length) (he : g.any (fun b => impT b.ts f[k].ts) = false) : false = cov f g := by
  unfold cov
  rw [eq_comm, List.all_eq_false]
  exact ⟨f[k], List.getElem_mem hk, by rw [he]; decide⟩
end Go.Proofs.Ytjggjkmafcokjaa
