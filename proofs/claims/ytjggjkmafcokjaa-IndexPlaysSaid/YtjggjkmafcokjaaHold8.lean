/- How many tests a value is as they ask it: the walk of the index's holding. -/
import Derived.Test.YtjggjkmafcokjaaFndM8
import Derived.IntWalk
set_option linter.unusedVariables false
set_option linter.unusedSimpArgs false
namespace Go.Proofs.Ytjggjkmafcokjaa
open Go.RowKit

/-- is a value as a test asks it? -/
def askB (v : Vl) (t : T) : Bool := isV t.op t.v v
def cntH (ts : List T) (v : Vl) : Nat := (ts.filter (askB v)).length
theorem cntH_yes {ts : List T} {v : Vl} {k : Nat} (hk : k < ts.length) (h : askB v ts[k] = true) : cntH (ts.take (k + 1)) v = cntH (ts.take k) v + 1 := by
  unfold cntH
  rw [List.take_succ_eq_append_getElem hk, List.filter_append, List.length_append]
  simp [h]
theorem cntH_no {ts : List T} {v : Vl} {k : Nat} (hk : k < ts.length) (h : askB v ts[k] = false) : cntH (ts.take (k + 1)) v = cntH (ts.take k) v := by
  unfold cntH
  rw [List.take_succ_eq_append_getElem hk, List.filter_append, List.length_append]
  simp [h]
theorem cntH_le (ts : List T) (v : Vl) : cntH ts v ≤ ts.length := List.length_filter_le _ _
set_option maxHeartbeats 2000000 in
theorem holding_any (a : Option Addr) (n c : Nat) (ts : List T) (x : AT) (w : World) (hS : Sl w 5 T.cs a n c ts) :
    Calls Try.prog 31 #[.slice a n c, .agg #[.int .i64 x.k, .int .i64 x.n, .string x.s]] w fun e w' => e = .returned (.int .i64 (cntH ts x.v)) ∧ Ext w w' := by
  obtain rfl := hS.neq
  have hm := hS.max
  have hl := hS.len
  unfold maxLen at hm
  have HS := hid hS
  clear hS
  go_enter Try.func31, Try.ntmps31
  go_wp2_with fail
  go_loopg [5, 10] (ts.length) (fun g cv st wr => ∃ k : Nat, g + k = ts.length ∧ st = .int .i64 k ∧ cv = .int .i64 (cntH (ts.take k) x.v) ∧ Hid (Ext (w.alloc (.cells #[.int .i64 x.k, .int .i64 x.n, .string x.s] 52)) wr))
  case atStart => exact ⟨0, by omega, rfl, rfl, (by (repeat (first | exact Ext.refl _ | refine Ext.alloc ?_ _ | refine Ext.drewN ?_ _ | refine Ext.drew ?_ | refine Ext.trans ?_ (Hid.out (by assumption)))))⟩
  case round =>
    obtain ⟨k, hg, rfl, rfl, hx⟩ := hrel
    by_cases hk : k < ts.length
    · obtain ⟨b, o, rfl, hc⟩ := HS.out.get k hk
      obtain ⟨c0, c1, c2, c3, c4⟩ := cellsT (w := wr) (b := b) (o := o + k * 5) (x := ts[k]) (fun j v hj => Ext.keep (W := w) (by (repeat (first | exact Ext.refl _ | refine Ext.alloc ?_ _ | refine Ext.drewN ?_ _ | refine Ext.drew ?_ | refine Ext.trans ?_ (Hid.out (by assumption))))) (hc j v hj))
      clear hc
      have b0 : (0 : Int) ≤ (k : Int) := by omega
      have b1 : (k : Int) < (ts.length : Int) := by omega
      have b2 : cntH (ts.take k) x.v ≤ k := Nat.le_trans (cntH_le _ _) (by rw [List.length_take]; omega)
      have v0 : wr.cell? ⟨w.heap.size, 0, none⟩ = some (.int .i64 x.k) := hx.out.keep (by simp)
      have v1 : wr.cell? ⟨w.heap.size, 1, none⟩ = some (.int .i64 x.n) := hx.out.keep (by simp)
      have v2 : wr.cell? ⟨w.heap.size, 2, none⟩ = some (.string x.s) := hx.out.keep (by simp)
      have v3 : w.heap.size < wr.heap.size := by have := hx.out.size; simp at this; omega
      cases he : isV ts[k].op ts[k].v ⟨x.k, x.n, x.s.toList⟩ with
      | true =>
        have He := hid he
        have hc := cntH_yes (v := x.v) hk he
        clear he
        go_wp2_with (first | (go_at_call 38; refine (is_any ts[k] x.k x.n x.s _).mono ?_; rintro e w2 ⟨he, hb⟩; rw [He.out] at he; subst he; have hy := hid hb; clear hb) | go_in)
        go_roundg (gk - 1)
        case measure => omega
        case rel => exact ⟨k + 1, by omega, by go_num, by rw [hc]; go_num, (by (repeat (first | exact Ext.refl _ | refine Ext.alloc ?_ _ | refine Ext.drewN ?_ _ | refine Ext.drew ?_ | refine Ext.trans ?_ (Hid.out (by assumption)))))⟩
      | false =>
        have He := hid he
        have hc := cntH_no (v := x.v) hk he
        clear he
        go_wp2_with (first | (go_at_call 38; refine (is_any ts[k] x.k x.n x.s _).mono ?_; rintro e w2 ⟨he, hb⟩; rw [He.out] at he; subst he; have hy := hid hb; clear hb) | go_in)
        go_roundg (gk - 1)
        case measure => omega
        case rel => exact ⟨k + 1, by omega, by go_num, by rw [hc], (by (repeat (first | exact Ext.refl _ | refine Ext.alloc ?_ _ | refine Ext.drewN ?_ _ | refine Ext.drew ?_ | refine Ext.trans ?_ (Hid.out (by assumption)))))⟩
    · have hk' : ts.take k = ts := List.take_of_length_le (by omega)
      rw [hk']
      clear hk'
      go_wp2
      go_ret
      refine ⟨rfl, Ext.trans ?_ hx.out⟩
      (repeat (first | exact Ext.refl _ | refine Ext.alloc ?_ _ | refine Ext.drewN ?_ _ | refine Ext.drew ?_ | refine Ext.trans ?_ (Hid.out (by assumption))))
end Go.Proofs.Ytjggjkmafcokjaa
