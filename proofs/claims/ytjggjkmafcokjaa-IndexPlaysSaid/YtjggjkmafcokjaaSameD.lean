/- Two filters, and two lists of filters, that hold the same: the walks of the document's Same. -/
import Derived.Test.YtjggjkmafcokjaaFewD
import Derived.Deep.RegionHeld3
set_option linter.unusedVariables false
set_option linter.unusedSimpArgs false
namespace Go.Proofs.Ytjggjkmafcokjaa
open Go.RowKit

theorem run_neT (t : T) (w : World) :
    (binOp .neq 54 (.agg #[.string t.nm, .int .i64 t.op, .int .i64 t.k, .int .i64 t.n, .string t.s]) (.agg #[.string t.nm, .int .i64 t.op, .int .i64 t.k, .int .i64 t.n, .string t.s])).run Try.prog w = .ok (.bool false) w := by
  simp [go_sem]
set_option maxHeartbeats 1000000 in
theorem same05_any (a : Option Addr) (n cap : Nat) (b : Option Addr) (m cap' : Nat) (xs : List T) (w : World) (hS : Sl w 5 T.cs a n cap xs) (hS' : Sl w 5 T.cs b m cap' xs) :
    Calls Try.prog 21 #[.slice a n cap, .slice b m cap'] w fun e w' => e = .returned (.bool true) ∧ Ext w w' := by
  obtain rfl := hS.neq
  obtain rfl := hS'.neq
  have hm := hS.max
  have hl := hS.len
  have hm' := hS'.max
  have hl' := hS'.len
  unfold maxLen at hm hm'
  have HS := hid hS
  have HS' := hid hS'
  clear hS hS'
  go_enter Try.func21, Try.ntmps21
  go_wp2_with fail
  go_loopg [5] (xs.length) (fun g st wr => ∃ k : Nat, g + k = xs.length ∧ st = .int .i64 k ∧ Hid (Ext w wr))
  case atStart => exact ⟨0, by omega, rfl, Ext.refl _⟩
  case round =>
    obtain ⟨k, hg, rfl, hx⟩ := hrel
    by_cases hk : k < xs.length
    · obtain ⟨b1, o1, rfl, hc⟩ := HS.out.get k hk
      obtain ⟨b2, o2, rfl, hc'⟩ := HS'.out.get k hk
      obtain ⟨c0, c1, c2, c3, c4⟩ := cellsT (w := wr) (b := b1) (o := o1 + k * 5) (x := xs[k]) (fun j v hj => hx.out.keep (hc j v hj))
      obtain ⟨d0, d1, d2, d3, d4⟩ := cellsT (w := wr) (b := b2) (o := o2 + k * 5) (x := xs[k]) (fun j v hj => hx.out.keep (hc' j v hj))
      clear hc hc'
      have p0 : (0 : Int) ≤ (k : Int) := by omega
      have p1 : (k : Int) < (xs.length : Int) := by omega
      have heq := run_neT xs[k]
      go_wp2_with fail
      go_quiet (fail)
      go_wp2
      go_roundg (gk - 1)
      case measure => omega
      case rel => exact ⟨k + 1, by omega, by go_num, (by (repeat (first | exact Ext.refl _ | refine Ext.alloc ?_ _ | refine Ext.drewN ?_ _ | refine Ext.drew ?_ | refine Ext.trans ?_ (Hid.out (by assumption)))))⟩
    · go_wp2
      go_ret
      refine ⟨rfl, ?_⟩
      (repeat (first | exact Ext.refl _ | refine Ext.alloc ?_ _ | refine Ext.drewN ?_ _ | refine Ext.drew ?_ | refine Ext.trans ?_ (Hid.out (by assumption))))
end Go.Proofs.Ytjggjkmafcokjaa
