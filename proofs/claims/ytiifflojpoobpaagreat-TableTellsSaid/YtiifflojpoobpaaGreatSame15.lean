/- Two events, and two entries, that hold the same: the walks of the document's Same. -/
import Derived.Test.YtiifflojpoobpaaGreatFewE
import Derived.Test.YtiifflojpoobpaaGreatSameD
import Derived.Deep.RegionHeld3
set_option linter.unusedVariables false
set_option linter.unusedSimpArgs false
namespace Go.Proofs.YtiifflojpoobpaaGreat
open Go.RowKit

theorem run_neqT (nm : ByteArray) (op k n : Int) (s : ByteArray) (w : World) :
    (binOp .neq 50 (.agg #[.string nm, .int .i64 op, .int .i64 k, .int .i64 n, .string s]) (.agg #[.string nm, .int .i64 op, .int .i64 k, .int .i64 n, .string s])).run Tryz.prog w = .ok (.bool false) w := by
  simp [go_sem]
theorem run_neqA (nm : ByteArray) (k n : Int) (s : ByteArray) (w : World) :
    (binOp .neq 53 (.agg #[.string nm, .int .i64 k, .int .i64 n, .string s]) (.agg #[.string nm, .int .i64 k, .int .i64 n, .string s])).run Tryz.prog w = .ok (.bool false) w := by
  simp [go_sem]
theorem run_neqI (b l s : Int) (w : World) :
    (binOp .neq 26 (.agg #[.int .i64 b, .int .u64 l, .int .u64 s]) (.agg #[.int .i64 b, .int .u64 l, .int .u64 s])).run Tryz.prog w = .ok (.bool false) w := by
  simp [go_sem]
set_option maxHeartbeats 1000000 in
theorem sameT_any (a b : Option Addr) (n m cap cap' : Nat) (xs : List T) (w : World) (hS : Sl w 5 T.cs a n cap xs) (hR : Sl w 5 T.cs b m cap' xs) :
    Calls Tryz.prog 34 #[.slice a n cap, .slice b m cap'] w fun e w' => e = .returned (.bool true) ∧ Ext w w' := by
  obtain rfl := hS.neq
  obtain rfl := hR.neq
  have hm := hS.max
  have hl := hS.len
  unfold maxLen at hm
  have HS := hid hS
  have HR := hid hR
  clear hS hR
  go_enter Tryz.func34, Tryz.ntmps34
  go_wp2_with fail
  go_loopg [5] (xs.length) (fun g st wr => ∃ k : Nat, g + k = xs.length ∧ st = .int .i64 k ∧ Hid (Ext w wr))
  case atStart => exact ⟨0, by omega, rfl, Ext.refl _⟩
  case round =>
    obtain ⟨k, hg, rfl, hx⟩ := hrel
    by_cases hk : k < xs.length
    · obtain ⟨b1, o1, rfl, hc⟩ := HS.out.get k hk
      obtain ⟨b2, o2, rfl, hc'⟩ := HR.out.get k hk
      have h1 := cellsT (w := wr) (b := b1) (o := o1 + k * 5) (x := xs[k]) (fun j v hj => hx.out.keep (hc j v hj))
      have h2 := cellsT (w := wr) (b := b2) (o := o2 + k * 5) (x := xs[k]) (fun j v hj => hx.out.keep (hc' j v hj))
      clear hc hc'
      have b0 : (0 : Int) ≤ (k : Int) := by omega
      have b1 : (k : Int) < (xs.length : Int) := by omega
      have heq := run_neqT xs[k].nm xs[k].op xs[k].k xs[k].n xs[k].s
      obtain ⟨c0, c1, c2, c3, c4⟩ := h1
      obtain ⟨d0, d1, d2, d3, d4⟩ := h2
      go_wp2_with fail
      go_quiet (fail)
      go_wp2
      go_roundg (gk - 1)
      case measure => omega
      case rel => exact ⟨k + 1, by omega, by go_num, (by (repeat (first | exact Ext.refl _ | refine Ext.alloc ?_ _ | refine Ext.drewN ?_ _ | refine Ext.drew ?_ | refine Ext.trans ?_ (Hid.out (by assumption)))))⟩
    · go_wp2
      go_ret
      refine ⟨rfl, ?_⟩
      (repeat (first | exact Ext.refl _ | refine Ext.alloc ?_ _ | refine Ext.drewN ?_ _ | refine Ext.drew ?_ | refine Ext.trans ?_ (Hid.out (by assumption))))

set_option maxHeartbeats 1000000 in
theorem sameA_any (a b : Option Addr) (n m cap cap' : Nat) (xs : List AT) (w : World) (hS : Sl w 4 AT.cs a n cap xs) (hR : Sl w 4 AT.cs b m cap' xs) :
    Calls Tryz.prog 40 #[.slice a n cap, .slice b m cap'] w fun e w' => e = .returned (.bool true) ∧ Ext w w' := by
  obtain rfl := hS.neq
  obtain rfl := hR.neq
  have hm := hS.max
  have hl := hS.len
  unfold maxLen at hm
  have HS := hid hS
  have HR := hid hR
  clear hS hR
  go_enter Tryz.func40, Tryz.ntmps40
  go_wp2_with fail
  go_loopg [5] (xs.length) (fun g st wr => ∃ k : Nat, g + k = xs.length ∧ st = .int .i64 k ∧ Hid (Ext w wr))
  case atStart => exact ⟨0, by omega, rfl, Ext.refl _⟩
  case round =>
    obtain ⟨k, hg, rfl, hx⟩ := hrel
    by_cases hk : k < xs.length
    · obtain ⟨b1, o1, rfl, hc⟩ := HS.out.get k hk
      obtain ⟨b2, o2, rfl, hc'⟩ := HR.out.get k hk
      have h1 := cellsA (w := wr) (b := b1) (o := o1 + k * 4) (x := xs[k]) (fun j v hj => hx.out.keep (hc j v hj))
      have h2 := cellsA (w := wr) (b := b2) (o := o2 + k * 4) (x := xs[k]) (fun j v hj => hx.out.keep (hc' j v hj))
      clear hc hc'
      have b0 : (0 : Int) ≤ (k : Int) := by omega
      have b1 : (k : Int) < (xs.length : Int) := by omega
      have heq := run_neqA xs[k].nm xs[k].k xs[k].n xs[k].s
      obtain ⟨c0, c1, c2, c3⟩ := h1
      obtain ⟨d0, d1, d2, d3⟩ := h2
      go_wp2_with fail
      go_quiet (fail)
      go_wp2
      go_roundg (gk - 1)
      case measure => omega
      case rel => exact ⟨k + 1, by omega, by go_num, (by (repeat (first | exact Ext.refl _ | refine Ext.alloc ?_ _ | refine Ext.drewN ?_ _ | refine Ext.drew ?_ | refine Ext.trans ?_ (Hid.out (by assumption)))))⟩
    · go_wp2
      go_ret
      refine ⟨rfl, ?_⟩
      (repeat (first | exact Ext.refl _ | refine Ext.alloc ?_ _ | refine Ext.drewN ?_ _ | refine Ext.drew ?_ | refine Ext.trans ?_ (Hid.out (by assumption))))

end Go.Proofs.YtiifflojpoobpaaGreat
