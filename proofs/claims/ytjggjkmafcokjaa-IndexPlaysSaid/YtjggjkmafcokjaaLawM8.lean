/- Are two lists of numbers one?: the walk of the document's Same. -/
import Derived.Test.YtjggjkmafcokjaaIns
import Derived.Test.YtjggjkmafcokjaaQuiet
import Derived.Deep.DeepCutAuto
import Derived.BigRegion
import Derived.Test.YtjggjkmafcokjaaFewD
set_option linter.unusedVariables false
set_option linter.unusedSimpArgs false
namespace Go.Proofs.Ytjggjkmafcokjaa
open Go.RowKit

theorem cellU {w : World} {a : Option Addr} {n c : Nat} {xs : List Int} (h : Sl w 1 uC a n c xs) {k : Nat} (hk : k < xs.length) : ∃ b o, a = some ⟨b, o, none⟩ ∧ w.cell? ⟨b, o + k, none⟩ = some (.int .u64 xs[k]) := by
  obtain ⟨b, o, rfl, hcs⟩ := h.get k hk
  exact ⟨b, o, rfl, by have := hcs 0 _ rfl; simpa using this⟩
set_option maxRecDepth 100000 in
set_option maxHeartbeats 2000000 in
theorem same8_any (a : Option Addr) (n c : Nat) (xs : List Int) (b : Option Addr) (m d : Nat) (ys : List Int) (w : World) (hX : Sl w 1 uC a n c xs) (hY : Sl w 1 uC b m d ys) :
    Calls Try.prog 16 #[.slice a n c, .slice b m d] w fun e w' => e = .returned (.bool (decide (xs = ys))) ∧ Ext w w' := by
  obtain rfl := hX.neq
  obtain rfl := hY.neq
  have h1 := hX.len
  have h2 := hX.max
  have h3 := hY.len
  have h4 := hY.max
  unfold maxLen at h2 h4
  have HX := hid hX
  have HY := hid hY
  clear hX hY
  by_cases hl : xs.length = ys.length
  · have hl2 : (xs.length : Int) = (ys.length : Int) := by omega
    have HL := hid hl
    clear hl
    go_enter Try.func16, Try.ntmps16
    go_wp2_with fail
    go_loopg [5] (xs.length) (fun g st wr => ∃ k : Nat, g + k = xs.length ∧ st = .int .i64 k ∧ Hid (∀ j, (h : j < k) → (h1 : j < xs.length) → (h2 : j < ys.length) → xs[j] = ys[j]) ∧ Hid (Ext w wr))
    case atStart => exact ⟨0, by omega, rfl, hid (fun j h => by omega), Ext.refl _⟩
    case round =>
      obtain ⟨k, hg, rfl, hN, hx⟩ := hrel
      by_cases hk : k < xs.length
      · have hk2 : k < ys.length := by rw [← HL.out]; exact hk
        obtain ⟨p, o, rfl, hc⟩ := cellU (HX.out.ext hx.out) hk
        obtain ⟨q, r, rfl, hd⟩ := cellU (HY.out.ext hx.out) hk2
        have b0 : (0 : Int) ≤ (k : Int) := by omega
        have b1 : (k : Int) < (xs.length : Int) := by omega
        have b2 : (k : Int) < (ys.length : Int) := by omega
        by_cases he : xs[k] = ys[k]
        · have he2 : (ys[k] == ys[k]) = true := by simp
          have HE := hid he
          rw [he] at hc
          clear he
          go_upto_region 6 with (fail)
          go_region
          all_goals
            go_wp2
            go_roundg (gk - 1)
            case measure => omega
            case rel => exact ⟨k + 1, by omega, by go_num, hid (fun j h h1 h2 => by
              by_cases e : j = k
              · subst e; exact HE.out
              · exact hN.out j (by omega) h1 h2), (by (repeat (first | exact Ext.refl _ | refine Ext.alloc ?_ _ | refine Ext.drewN ?_ _ | refine Ext.drew ?_ | refine Ext.trans ?_ (Hid.out (by assumption)))))⟩
        · have he2 : (xs[k] == ys[k]) = false := by simpa using he
          have HE := hid (show decide (xs = ys) = false from decide_eq_false (fun e => he (by simp [e])))
          clear he
          go_upto_region 6 with (fail)
          go_region
          all_goals
            go_wp2
            go_ret
            exact ⟨congrArg (fun b => Ending.returned (Value.bool b)) HE.out.symm, (by (repeat (first | exact Ext.refl _ | refine Ext.alloc ?_ _ | refine Ext.drewN ?_ _ | refine Ext.drew ?_ | refine Ext.trans ?_ (Hid.out (by assumption)))))⟩
      · have HE := hid (show decide (xs = ys) = true from decide_eq_true (List.ext_getElem HL.out (fun j h1 h2 => hN.out j (by omega) h1 h2)))
        go_wp2
        go_ret
        exact ⟨congrArg (fun b => Ending.returned (Value.bool b)) HE.out.symm, (by (repeat (first | exact Ext.refl _ | refine Ext.alloc ?_ _ | refine Ext.drewN ?_ _ | refine Ext.drew ?_ | refine Ext.trans ?_ (Hid.out (by assumption)))))⟩
  · have hl2 : ¬ ((xs.length : Int) = (ys.length : Int)) := by omega
    have HE := hid (show decide (xs = ys) = false from decide_eq_false (fun e => hl (by rw [e])))
    clear hl
    go_enter Try.func16, Try.ntmps16
    go_wp2
    go_ret
    exact ⟨congrArg (fun b => Ending.returned (Value.bool b)) HE.out.symm, (by (repeat (first | exact Ext.refl _ | refine Ext.alloc ?_ _ | refine Ext.drewN ?_ _ | refine Ext.drew ?_ | refine Ext.trans ?_ (Hid.out (by assumption)))))⟩
end Go.Proofs.Ytjggjkmafcokjaa

namespace Go.Proofs.Ytjggjkmafcokjaa
open Go.RowKit

set_option maxHeartbeats 1000000 in
theorem few04n_any (a : Option Addr) (n cap : Nat) (xs : List AT) (w : World) (hS : Sl w 4 AT.cs a n cap xs) :
    Calls Try.prog 24 #[.slice a n cap] w (FewR (xs.length ≤ 20 ∧ ∀ x, x ∈ xs → x.nm.size ≤ 100) w) := by
  obtain rfl := hS.neq
  have hm := hS.max
  have hl := hS.len
  unfold maxLen at hm
  have HS := hid hS
  clear hS
  by_cases hb : xs.length ≤ 20
  · have hbi : (xs.length : Int) ≤ 20 := by omega
    go_enter Try.func24, Try.ntmps24
    go_wp2_with fail
    go_loopg [3] (xs.length) (fun g st wr => ∃ k : Nat, g + k = xs.length ∧ st = .int .i64 k ∧ Hid (∀ x, x ∈ xs.take k → x.nm.size ≤ 100) ∧ Hid (Ext w wr))
    case atStart => exact ⟨0, by omega, rfl, hid (fun x h => by simp at h), Ext.refl _⟩
    case round =>
      obtain ⟨k, hg, rfl, hN, hx⟩ := hrel
      by_cases hk : k < xs.length
      · obtain ⟨b, o, rfl, hc⟩ := HS.out.get k hk
        obtain ⟨c0, c1, c2, c3⟩ := cellsA (w := wr) (b := b) (o := o + k * 4) (x := xs[k]) (fun j v hj => hx.out.keep (hc j v hj))
        clear hc
        have b0 : (0 : Int) ≤ (k : Int) := by omega
        have b1 : (k : Int) < (xs.length : Int) := by omega
        by_cases h1 : xs[k].nm.size ≤ 100
        · have HN := hid (show ∀ x, x ∈ xs.take (k + 1) → x.nm.size ≤ 100 from fun x hx => by
            rw [List.take_succ_eq_append_getElem hk, List.mem_append, List.mem_singleton] at hx
            rcases hx with hx | rfl
            · exact hN.out x hx
            · exact h1)
          go_wp2
          all_goals first
            | (go_ret; exact ⟨false, rfl, (fun h => by cases h), (by (repeat (first | exact Ext.refl _ | refine Ext.alloc ?_ _ | refine Ext.drewN ?_ _ | refine Ext.drew ?_ | refine Ext.trans ?_ (Hid.out (by assumption)))))⟩)
            | (go_roundg (gk - 1); (case measure => omega); (case rel => exact ⟨k + 1, by omega, by go_num, HN, (by (repeat (first | exact Ext.refl _ | refine Ext.alloc ?_ _ | refine Ext.drewN ?_ _ | refine Ext.drew ?_ | refine Ext.trans ?_ (Hid.out (by assumption)))))⟩))
        · have h1i : 100 < (xs[k].nm.size : Int) := by omega
          go_wp2
          go_ret
          exact ⟨false, rfl, (fun h => by cases h), (by (repeat (first | exact Ext.refl _ | refine Ext.alloc ?_ _ | refine Ext.drewN ?_ _ | refine Ext.drew ?_ | refine Ext.trans ?_ (Hid.out (by assumption)))))⟩
      · have HA := hid (show ∀ x, x ∈ xs → x.nm.size ≤ 100 from fun x h => hN.out x (by rw [List.take_of_length_le (by omega)]; exact h))
        go_wp2
        go_ret
        exact ⟨true, rfl, fun _ => ⟨hb, HA.out⟩, (by (repeat (first | exact Ext.refl _ | refine Ext.alloc ?_ _ | refine Ext.drewN ?_ _ | refine Ext.drew ?_ | refine Ext.trans ?_ (Hid.out (by assumption)))))⟩
  · have hbi : 20 < (xs.length : Int) := by omega
    go_enter Try.func24, Try.ntmps24
    go_wp2_with fail
    (go_ret; exact ⟨false, rfl, (fun h => by cases h), (by (repeat (first | exact Ext.refl _ | refine Ext.alloc ?_ _ | refine Ext.drewN ?_ _ | refine Ext.drew ?_ | refine Ext.trans ?_ (Hid.out (by assumption)))))⟩)
end Go.Proofs.Ytjggjkmafcokjaa

