/- How great an event is, its names too: the walk of the statements' Few. -/
import Derived.Test.YtjggjkmafcokjaaFewD
set_option linter.unusedVariables false
set_option linter.unusedSimpArgs false
namespace Go.Proofs.Ytjggjkmafcokjaa
open Go.RowKit

set_option maxHeartbeats 1000000 in
theorem few04n_any (a : Option Addr) (n cap : Nat) (xs : List AT) (w : World) (hS : Sl w 4 AT.cs a n cap xs) :
    Calls Try.prog 24 #[.slice a n cap] w (FewR (xs.length ≤ 20 ∧ ∀ x, x ∈ xs → x.nm.size ≤ 100) w) := by
  obtain rfl := hS.neq
  have hm := hS.max
  have hl := hS.len
  unfold maxLen at hm
  have HS := hid hS
  clear hS
  by_cases hb : xs.length ≤ 20
  · have hbi : (xs.length : Int) ≤ 20 := by omega
    go_enter Try.func24, Try.ntmps24
    go_wp2_with fail
    go_loopg [3] (xs.length) (fun g st wr => ∃ k : Nat, g + k = xs.length ∧ st = .int .i64 k ∧ Hid (∀ x, x ∈ xs.take k → x.nm.size ≤ 100) ∧ Hid (Ext w wr))
    case atStart => exact ⟨0, by omega, rfl, hid (fun x h => by simp at h), Ext.refl _⟩
    case round =>
      obtain ⟨k, hg, rfl, hN, hx⟩ := hrel
      by_cases hk : k < xs.length
      · obtain ⟨b, o, rfl, hc⟩ := HS.out.get k hk
        obtain ⟨c0, c1, c2, c3⟩ := cellsA (w := wr) (b := b) (o := o + k * 4) (x := xs[k]) (fun j v hj => hx.out.keep (hc j v hj))
        clear hc
        have b0 : (0 : Int) ≤ (k : Int) := by omega
        have b1 : (k : Int) < (xs.length : Int) := by omega
        by_cases h1 : xs[k].nm.size ≤ 100
        · have HN := hid (show ∀ x, x ∈ xs.take (k + 1) → x.nm.size ≤ 100 from fun x hx => by
            rw [List.take_succ_eq_append_getElem hk, List.mem_append, List.mem_singleton] at hx
            rcases hx with hx | rfl
            · exact hN.out x hx
            · exact h1)
          go_wp2
          all_goals first
            | (go_ret; exact ⟨false, rfl, (fun h => by cases h), (by (repeat (first | exact Ext.refl _ | refine Ext.alloc ?_ _ | refine Ext.drewN ?_ _ | refine Ext.drew ?_ | refine Ext.trans ?_ (Hid.out (by assumption)))))⟩)
            | (go_roundg (gk - 1); (case measure => omega); (case rel => exact ⟨k + 1, by omega, by go_num, HN, (by (repeat (first | exact Ext.refl _ | refine Ext.alloc ?_ _ | refine Ext.drewN ?_ _ | refine Ext.drew ?_ | refine Ext.trans ?_ (Hid.out (by assumption)))))⟩))
        · have h1i : 100 < (xs[k].nm.size : Int) := by omega
          go_wp2
          go_ret
          exact ⟨false, rfl, (fun h => by cases h), (by (repeat (first | exact Ext.refl _ | refine Ext.alloc ?_ _ | refine Ext.drewN ?_ _ | refine Ext.drew ?_ | refine Ext.trans ?_ (Hid.out (by assumption)))))⟩
      · have HA := hid (show ∀ x, x ∈ xs → x.nm.size ≤ 100 from fun x h => hN.out x (by rw [List.take_of_length_le (by omega)]; exact h))
        go_wp2
        go_ret
        exact ⟨true, rfl, fun _ => ⟨hb, HA.out⟩, (by (repeat (first | exact Ext.refl _ | refine Ext.alloc ?_ _ | refine Ext.drewN ?_ _ | refine Ext.drew ?_ | refine Ext.trans ?_ (Hid.out (by assumption)))))⟩
  · have hbi : 20 < (xs.length : Int) := by omega
    go_enter Try.func24, Try.ntmps24
    go_wp2_with fail
    (go_ret; exact ⟨false, rfl, (fun h => by cases h), (by (repeat (first | exact Ext.refl _ | refine Ext.alloc ?_ _ | refine Ext.drewN ?_ _ | refine Ext.drew ?_ | refine Ext.trans ?_ (Hid.out (by assumption)))))⟩)
end Go.Proofs.Ytjggjkmafcokjaa
