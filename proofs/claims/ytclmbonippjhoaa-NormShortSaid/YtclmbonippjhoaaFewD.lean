/- How great what comes in is: the walks of the limits that the statements of chapters 06 and 07 set. -/
import Derived.Test.YtclmbonippjhoaaReduce
set_option linter.unusedVariables false
set_option linter.unusedSimpArgs false
namespace Go.Proofs.Ytclmbonippjhoaa
open Go.RowKit

/-- A bool that, if true, tells a bound. -/
def FewR (p : Prop) (w : World) (e : Ending) (w' : World) : Prop := ∃ b : Bool, e = .returned (.bool b) ∧ (b = true → p) ∧ Ext w w'

set_option maxHeartbeats 1000000 in
theorem few05_any (a : Option Addr) (n cap : Nat) (xs : List T) (w : World) (hS : Sl w 5 T.cs a n cap xs) :
    Calls Try.prog 16 #[.slice a n cap] w (FewR (xs.length ≤ 10) w) := by
  obtain rfl := hS.neq
  have hm := hS.max
  have hl := hS.len
  unfold maxLen at hm
  have HS := hid hS
  clear hS
  by_cases hb : xs.length ≤ 10
  · have hbi : (xs.length : Int) ≤ 10 := by omega
    go_enter Try.func16, Try.ntmps16
    go_wp2_with fail
    go_loopg [3] (xs.length) (fun g st wr => ∃ k : Nat, g + k = xs.length ∧ st = .int .i64 k ∧ Hid (Ext w wr))
    case atStart => exact ⟨0, by omega, rfl, Ext.refl _⟩
    case round =>
      obtain ⟨k, hg, rfl, hx⟩ := hrel
      by_cases hk : k < xs.length
      · obtain ⟨b, o, rfl, hc⟩ := HS.out.get k hk
        obtain ⟨c0, c1, c2, c3, c4⟩ := cellsT (w := wr) (b := b) (o := o + k * 5) (x := xs[k]) (fun j v hj => hx.out.keep (hc j v hj))
        clear hc
        have b0 : (0 : Int) ≤ (k : Int) := by omega
        have b1 : (k : Int) < (xs.length : Int) := by omega
        go_wp2
        all_goals first
          | (go_ret; exact ⟨false, rfl, (fun h => by cases h), (by (repeat (first | exact Ext.refl _ | refine Ext.alloc ?_ _ | refine Ext.drewN ?_ _ | refine Ext.drew ?_ | refine Ext.trans ?_ (Hid.out (by assumption)))))⟩)
          | (go_roundg (gk - 1); (case measure => omega); (case rel => exact ⟨k + 1, by omega, by go_num, (by (repeat (first | exact Ext.refl _ | refine Ext.alloc ?_ _ | refine Ext.drewN ?_ _ | refine Ext.drew ?_ | refine Ext.trans ?_ (Hid.out (by assumption)))))⟩))
      · go_wp2
        go_ret
        exact ⟨true, rfl, fun _ => hb, (by (repeat (first | exact Ext.refl _ | refine Ext.alloc ?_ _ | refine Ext.drewN ?_ _ | refine Ext.drew ?_ | refine Ext.trans ?_ (Hid.out (by assumption)))))⟩
  · have hbi : 10 < (xs.length : Int) := by omega
    go_enter Try.func16, Try.ntmps16
    go_wp2_with fail
    (go_ret; exact ⟨false, rfl, (fun h => by cases h), (by (repeat (first | exact Ext.refl _ | refine Ext.alloc ?_ _ | refine Ext.drewN ?_ _ | refine Ext.drew ?_ | refine Ext.trans ?_ (Hid.out (by assumption)))))⟩)

set_option maxHeartbeats 1000000 in
theorem few04_any (a : Option Addr) (n cap : Nat) (xs : List AT) (w : World) (hS : Sl w 4 AT.cs a n cap xs) :
    Calls Try.prog 25 #[.slice a n cap] w (FewR (xs.length ≤ 20) w) := by
  obtain rfl := hS.neq
  have hm := hS.max
  have hl := hS.len
  unfold maxLen at hm
  have HS := hid hS
  clear hS
  by_cases hb : xs.length ≤ 20
  · have hbi : (xs.length : Int) ≤ 20 := by omega
    go_enter Try.func25, Try.ntmps25
    go_wp2_with fail
    go_loopg [3] (xs.length) (fun g st wr => ∃ k : Nat, g + k = xs.length ∧ st = .int .i64 k ∧ Hid (Ext w wr))
    case atStart => exact ⟨0, by omega, rfl, Ext.refl _⟩
    case round =>
      obtain ⟨k, hg, rfl, hx⟩ := hrel
      by_cases hk : k < xs.length
      · obtain ⟨b, o, rfl, hc⟩ := HS.out.get k hk
        obtain ⟨c0, c1, c2, c3⟩ := cellsA (w := wr) (b := b) (o := o + k * 4) (x := xs[k]) (fun j v hj => hx.out.keep (hc j v hj))
        clear hc
        have b0 : (0 : Int) ≤ (k : Int) := by omega
        have b1 : (k : Int) < (xs.length : Int) := by omega
        go_wp2
        all_goals first
          | (go_ret; exact ⟨false, rfl, (fun h => by cases h), (by (repeat (first | exact Ext.refl _ | refine Ext.alloc ?_ _ | refine Ext.drewN ?_ _ | refine Ext.drew ?_ | refine Ext.trans ?_ (Hid.out (by assumption)))))⟩)
          | (go_roundg (gk - 1); (case measure => omega); (case rel => exact ⟨k + 1, by omega, by go_num, (by (repeat (first | exact Ext.refl _ | refine Ext.alloc ?_ _ | refine Ext.drewN ?_ _ | refine Ext.drew ?_ | refine Ext.trans ?_ (Hid.out (by assumption)))))⟩))
      · go_wp2
        go_ret
        exact ⟨true, rfl, fun _ => hb, (by (repeat (first | exact Ext.refl _ | refine Ext.alloc ?_ _ | refine Ext.drewN ?_ _ | refine Ext.drew ?_ | refine Ext.trans ?_ (Hid.out (by assumption)))))⟩
  · have hbi : 20 < (xs.length : Int) := by omega
    go_enter Try.func25, Try.ntmps25
    go_wp2_with fail
    (go_ret; exact ⟨false, rfl, (fun h => by cases h), (by (repeat (first | exact Ext.refl _ | refine Ext.alloc ?_ _ | refine Ext.drewN ?_ _ | refine Ext.drew ?_ | refine Ext.trans ?_ (Hid.out (by assumption)))))⟩)

set_option maxHeartbeats 1000000 in
theorem few07_any (a : Option Addr) (n cap : Nat) (xs : List FV) (w : World) (hS : Flts w a n cap xs) :
    Calls Try.prog 30 #[.slice a n cap] w (FewR (xs.length ≤ 12 ∧ ∀ x, x ∈ xs → x.ts.length ≤ 10) w) := by
  obtain rfl := hS.sl.neq
  have hm := hS.sl.max
  have hl := hS.sl.len
  unfold maxLen at hm
  have HS := hid hS
  clear hS
  by_cases hb : xs.length ≤ 12
  · have hbi : (xs.length : Int) ≤ 12 := by omega
    go_enter Try.func30, Try.ntmps30
    go_wp2_with fail
    go_loopg [3] (xs.length) (fun g st wr => ∃ k : Nat, g + k = xs.length ∧ st = .int .i64 k ∧ Hid (∀ y, y ∈ xs.take k → y.ts.length ≤ 10) ∧ Hid (Ext w wr))
    case atStart => exact ⟨0, by omega, rfl, (fun y hy => by cases hy), Ext.refl _⟩
    case round =>
      obtain ⟨k, hg, rfl, hok, hx⟩ := hrel
      by_cases hk : k < xs.length
      · obtain ⟨b, o, rfl, hc⟩ := HS.out.sl.get k hk
        have d0 := cellsF (w := wr) (b := b) (o := o + k * 1) (x := xs[k]) (fun j v hj => hx.out.keep (hc j v hj))
        rw [Nat.mul_one] at d0
        clear hc
        have b0 : (0 : Int) ≤ (k : Int) := by omega
        have b1 : (k : Int) < (xs.length : Int) := by omega
        go_wp2_with (go_at_call 16; refine (few05_any _ _ _ xs[k].ts _ ((HS.out.ts _ (List.getElem_mem hk)).ext (by (repeat (first | exact Ext.refl _ | refine Ext.alloc ?_ _ | refine Ext.drewN ?_ _ | refine Ext.drew ?_ | refine Ext.trans ?_ (Hid.out (by assumption))))))).mono ?_; rintro e w' ⟨fw, rfl, hfw, hb⟩; have hx' := hid hb; have HFW := hid hfw; clear hb hfw; cases fw)
        · (go_ret; exact ⟨false, rfl, (fun h => by cases h), (by (repeat (first | exact Ext.refl _ | refine Ext.alloc ?_ _ | refine Ext.drewN ?_ _ | refine Ext.drew ?_ | refine Ext.trans ?_ (Hid.out (by assumption)))))⟩)
        · go_roundg (gk - 1)
          case measure => omega
          case rel =>
            refine ⟨k + 1, by omega, by go_num, fun y hy => ?_, (by (repeat (first | exact Ext.refl _ | refine Ext.alloc ?_ _ | refine Ext.drewN ?_ _ | refine Ext.drew ?_ | refine Ext.trans ?_ (Hid.out (by assumption)))))⟩
            rw [List.take_succ_eq_append_getElem hk] at hy
            rcases List.mem_append.1 hy with hy | hy
            · exact hok.out y hy
            · obtain rfl := List.mem_singleton.1 hy
              exact HFW.out (by first | trivial | rfl)
      · have hk' : xs.take k = xs := List.take_of_length_le (by omega)
        rw [hk'] at hok
        clear hk'
        go_wp2
        go_ret
        exact ⟨true, rfl, fun _ => ⟨hb, hok.out⟩, (by (repeat (first | exact Ext.refl _ | refine Ext.alloc ?_ _ | refine Ext.drewN ?_ _ | refine Ext.drew ?_ | refine Ext.trans ?_ (Hid.out (by assumption)))))⟩
  · have hbi : 12 < (xs.length : Int) := by omega
    go_enter Try.func30, Try.ntmps30
    go_wp2_with fail
    (go_ret; exact ⟨false, rfl, (fun h => by cases h), (by (repeat (first | exact Ext.refl _ | refine Ext.alloc ?_ _ | refine Ext.drewN ?_ _ | refine Ext.drew ?_ | refine Ext.trans ?_ (Hid.out (by assumption)))))⟩)
end Go.Proofs.Ytclmbonippjhoaa
