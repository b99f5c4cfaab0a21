/- The walks of the five statements on values: each answers true whatever the input. -/
import Derived.Test.YtaednpicjpfamaaW2
import Derived.Deep.RegionHeld3
import Derived.Deep.DrawnRows
namespace Go.Proofs.Ytaednpicjpfamaa
open Go.RowKit
attribute [local go_sem ↓] Go.wp_at_zero Go.wp_at_succ

theorem names_any (w : World) : Calls Try.prog 3 #[] w fun e w' => e = .returned (.bool true) ∧ Ext w w' := by
  go_enter Try.func3, Try.ntmps3
  go_wp2_with (go_at_call 8; refine (awake_any _).mono ?_; rintro e w' ⟨rfl, hb⟩; have hc := hb.cell; have hz := hb.size; have hx := hid hb; clear hb)
  go_ret
  refine ⟨rfl, ?_⟩
  (repeat (first | exact Ext.refl _ | refine Ext.alloc ?_ _ | refine Ext.drewN ?_ _ | refine Ext.drew ?_ | refine Ext.trans ?_ (Hid.out (by assumption))))

theorem tells_any (k n : Int) (s : ByteArray) (k' n' : Int) (s' : ByteArray) (w : World) :
    Calls Try.prog 4 #[.agg #[.int .i64 k, .int .i64 n, .string s], .agg #[.int .i64 k', .int .i64 n', .string s']] w fun e w' =>
      e = .returned (.bool true) ∧ Ext w w' := by
  have q1 : ∀ n : Nat, n < n + 1 + 1 := fun n => by omega
  by_cases h1 : (s.size : Int) ≤ 200 ∧ (s'.size : Int) ≤ 200
  · obtain ⟨h1, h2⟩ := h1
    go_enter Try.func4, Try.ntmps4
    go_wp2_with (go_at_call 8; refine (awake_any _).mono ?_; rintro e w' ⟨rfl, hb⟩; have hc := hb.cell; have hz0 : w.heap.size < w'.heap.size := (by have := hb.size; (try simp at this); omega); have hz1 : w.heap.size + 1 < w'.heap.size := (by have := hb.size; (try simp at this); omega); have hx := hid hb; clear hb)
    go_region_held3 (fun w' => w'.cell? ⟨w.heap.size, 0, none⟩ = some (.int .i64 k) ∧ w'.cell? ⟨w.heap.size, 1, none⟩ = some (.int .i64 n) ∧ w'.cell? ⟨w.heap.size, 2, none⟩ = some (.string s) ∧
        w'.cell? ⟨w.heap.size + 1, 0, none⟩ = some (.int .i64 k') ∧ w'.cell? ⟨w.heap.size + 1, 1, none⟩ = some (.int .i64 n') ∧ w'.cell? ⟨w.heap.size + 1, 2, none⟩ = some (.string s'))
      (first | (go_split_ands; refine ⟨?_, ?_, ?_, ?_, ?_, ?_⟩ <;> (refine (hc _ _ ?_).trans ?_ <;> first | omega | assumption)) | go_keep)
      (first | (go_at_call 8; refine (awake_any _).mono ?_; rintro e w' ⟨rfl, hb⟩; have hc := hb.cell; have hz0 : w.heap.size < w'.heap.size := (by have := hb.size; (try simp at this); omega); have hz1 : w.heap.size + 1 < w'.heap.size := (by have := hb.size; (try simp at this); omega); have hx := hid hb; clear hb) | (go_at_call 9; refine (check_any _ _ _ _).mono ?_; rintro e w' ⟨rfl, hb⟩; have hc := hb.cell; have hz0 : w.heap.size < w'.heap.size := (by have := hb.size; (try simp at this); omega); have hz1 : w.heap.size + 1 < w'.heap.size := (by have := hb.size; (try simp at this); omega); have hx := hid hb; clear hb) | (go_at_call 10; refine (rcheck_any _ _ _ _).mono ?_; rintro e w' ⟨rfl, hb⟩; have hc := hb.cell; have hz0 : w.heap.size < w'.heap.size := (by have := hb.size; (try simp at this); omega); have hz1 : w.heap.size + 1 < w'.heap.size := (by have := hb.size; (try simp at this); omega); have hx := hid hb; clear hb) | (go_at_call 11; refine (order_any _ _ _ _ _ _ _).mono ?_; rintro e w' ⟨rfl, hb⟩; have hc := hb.cell; have hz0 : w.heap.size < w'.heap.size := (by have := hb.size; (try simp at this); omega); have hz1 : w.heap.size + 1 < w'.heap.size := (by have := hb.size; (try simp at this); omega); have hx := hid hb; clear hb) | (go_at_call 12; refine (rorder_any _ _ _ _ _ _ _).mono ?_; rintro e w' ⟨rfl, hb⟩; have hc := hb.cell; have hz0 : w.heap.size < w'.heap.size := (by have := hb.size; (try simp at this); omega); have hz1 : w.heap.size + 1 < w'.heap.size := (by have := hb.size; (try simp at this); omega); have hx := hid hb; clear hb) | (go_at_call 13; refine (beg_any _ _ _ _ _ _ _).mono ?_; rintro e w' ⟨rfl, hb⟩; have hc := hb.cell; have hz0 : w.heap.size < w'.heap.size := (by have := hb.size; (try simp at this); omega); have hz1 : w.heap.size + 1 < w'.heap.size := (by have := hb.size; (try simp at this); omega); have hx := hid hb; clear hb) | (go_at_call 14; refine (rbeg_any _ _ _ _ _ _ _).mono ?_; rintro e w' ⟨rfl, hb⟩; have hc := hb.cell; have hz0 : w.heap.size < w'.heap.size := (by have := hb.size; (try simp at this); omega); have hz1 : w.heap.size + 1 < w'.heap.size := (by have := hb.size; (try simp at this); omega); have hx := hid hb; clear hb) | (go_at_call 15; refine (int_any _ _).mono ?_; rintro e w' ⟨rfl, hb⟩; have hc := hb.cell; have hz0 : w.heap.size < w'.heap.size := (by have := hb.size; (try simp at this); omega); have hz1 : w.heap.size + 1 < w'.heap.size := (by have := hb.size; (try simp at this); omega); have hx := hid hb; clear hb) | (go_at_call 16; refine (text_any _ _).mono ?_; rintro e w' ⟨rfl, hb⟩; have hc := hb.cell; have hz0 : w.heap.size < w'.heap.size := (by have := hb.size; (try simp at this); omega); have hz1 : w.heap.size + 1 < w'.heap.size := (by have := hb.size; (try simp at this); omega); have hx := hid hb; clear hb) | (go_at_call 17; refine (bool_any _ _).mono ?_; rintro e w' ⟨rfl, hb⟩; have hc := hb.cell; have hz0 : w.heap.size < w'.heap.size := (by have := hb.size; (try simp at this); omega); have hz1 : w.heap.size + 1 < w'.heap.size := (by have := hb.size; (try simp at this); omega); have hx := hid hb; clear hb))
    all_goals go_wp2
    go_ret
    refine ⟨rfl, ?_⟩
    (repeat (first | exact Ext.refl _ | refine Ext.alloc ?_ _ | refine Ext.drewN ?_ _ | refine Ext.drew ?_ | refine Ext.trans ?_ (Hid.out (by assumption))))
  · go_enter Try.func4, Try.ntmps4
    go_wp2_with (go_at_call 8; refine (awake_any _).mono ?_; rintro e w' ⟨rfl, hb⟩; have hc := hb.cell; have hz0 : w.heap.size < w'.heap.size := (by have := hb.size; (try simp at this); omega); have hz1 : w.heap.size + 1 < w'.heap.size := (by have := hb.size; (try simp at this); omega); have hx := hid hb; clear hb)
    all_goals
      go_ret
      refine ⟨rfl, ?_⟩
      (repeat (first | exact Ext.refl _ | refine Ext.alloc ?_ _ | refine Ext.drewN ?_ _ | refine Ext.drew ?_ | refine Ext.trans ?_ (Hid.out (by assumption))))

theorem kinds_any (n : Int) (s : ByteArray) (b : Bool) (w : World) :
    Calls Try.prog 7 #[.int .i64 n, .string s, .bool b] w fun e w' => e = .returned (.bool true) ∧ Ext w w' := by
  have c1 : vOrd 1 n [] 2 0 s.toList = -1 := by simp [vOrd, cmpI]
  have c2 : ∀ m, vOrd 2 0 s.toList 3 m [] = -1 := by simp [vOrd, cmpI]
  have c3 : ∀ m, vOrd 1 n [] 3 m [] = -1 := by simp [vOrd, cmpI]
  have c4 := vOrd_self 1 n []
  by_cases h1 : (s.size : Int) ≤ 200
  · cases b
    all_goals
      go_enter Try.func7, Try.ntmps7
      go_wp2_with (first | (go_at_call 8; refine (awake_any _).mono ?_; rintro e w' ⟨rfl, hb⟩; have hx := hid hb; clear hb) | (go_at_call 9; refine (check_any _ _ _ _).mono ?_; rintro e w' ⟨rfl, hb⟩; have hx := hid hb; clear hb) | (go_at_call 10; refine (rcheck_any _ _ _ _).mono ?_; rintro e w' ⟨rfl, hb⟩; have hx := hid hb; clear hb) | (go_at_call 11; refine (order_any _ _ _ _ _ _ _).mono ?_; rintro e w' ⟨rfl, hb⟩; have hx := hid hb; clear hb) | (go_at_call 12; refine (rorder_any _ _ _ _ _ _ _).mono ?_; rintro e w' ⟨rfl, hb⟩; have hx := hid hb; clear hb) | (go_at_call 13; refine (beg_any _ _ _ _ _ _ _).mono ?_; rintro e w' ⟨rfl, hb⟩; have hx := hid hb; clear hb) | (go_at_call 14; refine (rbeg_any _ _ _ _ _ _ _).mono ?_; rintro e w' ⟨rfl, hb⟩; have hx := hid hb; clear hb) | (go_at_call 15; refine (int_any _ _).mono ?_; rintro e w' ⟨rfl, hb⟩; have hx := hid hb; clear hb) | (go_at_call 16; refine (text_any _ _).mono ?_; rintro e w' ⟨rfl, hb⟩; have hx := hid hb; clear hb) | (go_at_call 17; refine (bool_any _ _).mono ?_; rintro e w' ⟨rfl, hb⟩; have hx := hid hb; clear hb))
      go_ret
      refine ⟨rfl, ?_⟩
      (repeat (first | exact Ext.refl _ | refine Ext.alloc ?_ _ | refine Ext.drewN ?_ _ | refine Ext.drew ?_ | refine Ext.trans ?_ (Hid.out (by assumption))))
  · go_enter Try.func7, Try.ntmps7
    go_wp2_with (first | (go_at_call 8; refine (awake_any _).mono ?_; rintro e w' ⟨rfl, hb⟩; have hx := hid hb; clear hb) | (go_at_call 9; refine (check_any _ _ _ _).mono ?_; rintro e w' ⟨rfl, hb⟩; have hx := hid hb; clear hb) | (go_at_call 10; refine (rcheck_any _ _ _ _).mono ?_; rintro e w' ⟨rfl, hb⟩; have hx := hid hb; clear hb) | (go_at_call 11; refine (order_any _ _ _ _ _ _ _).mono ?_; rintro e w' ⟨rfl, hb⟩; have hx := hid hb; clear hb) | (go_at_call 12; refine (rorder_any _ _ _ _ _ _ _).mono ?_; rintro e w' ⟨rfl, hb⟩; have hx := hid hb; clear hb) | (go_at_call 13; refine (beg_any _ _ _ _ _ _ _).mono ?_; rintro e w' ⟨rfl, hb⟩; have hx := hid hb; clear hb) | (go_at_call 14; refine (rbeg_any _ _ _ _ _ _ _).mono ?_; rintro e w' ⟨rfl, hb⟩; have hx := hid hb; clear hb) | (go_at_call 15; refine (int_any _ _).mono ?_; rintro e w' ⟨rfl, hb⟩; have hx := hid hb; clear hb) | (go_at_call 16; refine (text_any _ _).mono ?_; rintro e w' ⟨rfl, hb⟩; have hx := hid hb; clear hb) | (go_at_call 17; refine (bool_any _ _).mono ?_; rintro e w' ⟨rfl, hb⟩; have hx := hid hb; clear hb))
    go_ret
    refine ⟨rfl, ?_⟩
    (repeat (first | exact Ext.refl _ | refine Ext.alloc ?_ _ | refine Ext.drewN ?_ _ | refine Ext.drew ?_ | refine Ext.trans ?_ (Hid.out (by assumption))))

end Go.Proofs.Ytaednpicjpfamaa
