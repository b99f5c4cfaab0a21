/- The statement on the names: the limit. -/
import Derived.Test.YtncadipipomebaaAwake
namespace Go.Proofs.Ytncadipipomebaa
open Go.RowKit

theorem names18_any (w : World) : Calls Try.prog 3 #[] w fun e w' => e = .returned (.bool true) ∧ Ext w w' := by
  go_enter Try.func3, Try.ntmps3
  go_wp2_with (first | (go_at_call 14; refine (awake18_any _).mono ?_; rintro e w' ⟨rfl, hb⟩; have hx := hid hb; clear hb))
  go_ret
  refine ⟨rfl, hx.out⟩
end Go.Proofs.Ytncadipipomebaa
