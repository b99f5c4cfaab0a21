/- Calls on no index: the statement's walk. -/
import Derived.Test.YtjggjkmafcokjaaAwake8
set_option linter.unusedVariables false
set_option linter.unusedSimpArgs false
namespace Go.Proofs.Ytjggjkmafcokjaa
open Go.RowKit
set_option maxRecDepth 100000 in
set_option maxHeartbeats 4000000 in
theorem nil8_any (id : Int) (a : Option Addr) (n c : Nat) (a2 : Option Addr) (n2 c2 : Nat) (w : World) : Calls Try.prog 6 #[.int .u64 id, .slice a n c, .slice a2 n2 c2] w fun e w' => e = .returned (.bool true) ∧ Ext w w' := by
  go_enter Try.func6, Try.ntmps6
  go_wp2_with fail
  refine (awake8_any _).mono ?_
  rintro e w1 ⟨rfl, hb⟩
  have hx1 := hid hb
  clear hb
  go_wp2_with (first
    | (go_at_call 19; refine (filter_nil _ _).mono ?_; rintro e wa ⟨rfl, hb⟩; have hxa := hid hb; clear hb)
    | (go_at_call 12; refine (add_nil _ _ _ _ _).mono ?_; rintro e wb ⟨rfl, hb⟩; have hxb := hid hb; clear hb)
    | (go_at_call 14; refine (drop_nil _ _).mono ?_; rintro e wc ⟨rfl, hb⟩; have hxc := hid hb; clear hb)
    | (go_at_call 17; refine (match_nil _ _ _ _).mono ?_; rintro e wd ⟨rfl, hb⟩; have hxd := hid hb; clear hb)
    | (go_at_call 22; refine (count_nil _).mono ?_; rintro e we ⟨rfl, hb⟩; have hxe := hid hb; clear hb)
    | go_in)
  go_ret
  refine ⟨rfl, ?_⟩
  (repeat (first | exact Ext.refl _ | refine Ext.alloc ?_ _ | refine Ext.drewN ?_ _ | refine Ext.drew ?_ | refine Ext.trans ?_ (Hid.out (by assumption))))
end Go.Proofs.Ytjggjkmafcokjaa
