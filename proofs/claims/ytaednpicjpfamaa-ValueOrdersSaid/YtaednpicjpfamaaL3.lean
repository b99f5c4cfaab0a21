/- The walks of the five statements on values: each answers true whatever the input. -/
import Derived.Test.YtaednpicjpfamaaW2
import Derived.Deep.RegionHeld3
import Derived.Deep.DrawnRows
namespace Go.Proofs.Ytaednpicjpfamaa
open Go.RowKit
attribute [local go_sem ↓] Go.wp_at_zero Go.wp_at_succ

theorem names_any (w : World) : Calls Try.prog 3 #[] w fun e w' => e = .returned (.bool true) ∧ Ext w w' := by
  go_enter Try.func3, Try.ntmps3
  go_wp2_with (go_at_call 8; refine (awake_any _).mono ?_; rintro e w' ⟨rfl, hb⟩; have hc := hb.cell; have hz := hb.size; have hx := hid hb; clear hb)
  go_ret
  refine ⟨rfl, ?_⟩
  (repeat (first | exact Ext.refl _ | refine Ext.alloc ?_ _ | refine Ext.drewN ?_ _ | refine Ext.drew ?_ | refine Ext.trans ?_ (Hid.out (by assumption))))

def vEq (k n : Int) (s : List UInt8) (k' n' : Int) (s' : List UInt8) : Bool := decide (k = k') && decide (n = n') && (s == s')
theorem run_eqV (k n : Int) (s : ByteArray) (k' n' : Int) (s' : ByteArray) (w : World) :
    (binOp .eql 24 (.agg #[.int .i64 k, .int .i64 n, .string s]) (.agg #[.int .i64 k', .int .i64 n', .string s'])).run Try.prog w = .ok (.bool (vEq k n s.toList k' n' s'.toList)) w := by
  unfold vEq
  by_cases h1 : k = k' <;> by_cases h2 : n = n' <;> simp [h1, h2, go_sem]
  split <;> simp_all

theorem vEq_ord (k n : Int) (s : List UInt8) (k' n' : Int) (s' : List UInt8) : vEq k n s k' n' s' = decide (vOrd k n s k' n' s' = 0) := by
  rw [Bool.eq_iff_iff, decide_eq_true_eq, vOrd_eq_zero]
  simp [vEq, and_assoc]

set_option maxHeartbeats 1600000 in
theorem orders_core (k n : Int) (s : ByteArray) (k' n' : Int) (s' : ByteArray) (k'' n'' : Int) (s'' : ByteArray) (w : World) (x x' y z : Int) (e : Bool)
    (hx : vOrd k n s.toList k' n' s'.toList = x) (hx' : vOrd k' n' s'.toList k n s.toList = x') (hy : vOrd k' n' s'.toList k'' n'' s''.toList = y) (hz : vOrd k n s.toList k'' n'' s''.toList = z)
    (he : ∀ w, (binOp .eql 24 (.agg #[.int .i64 k, .int .i64 n, .string s]) (.agg #[.int .i64 k', .int .i64 n', .string s'])).run Try.prog w = .ok (.bool e) w)
    (g1 : (x + x' == 0) = true) (g2 : ((x == 0) == e) = true) (g3 : (decide (0 < x) || decide (0 < y) || decide (z ≤ 0)) = true) (g4 : (x != 0 || z == y) = true) (g5 : -1 ≤ x) (g6 : x ≤ 1) (g7 : -1 ≤ x') (g8 : x' ≤ 1)
    (h1 : (s.size : Int) ≤ 200) (h2 : (s'.size : Int) ≤ 200) (h3 : (s''.size : Int) ≤ 200) :
    Calls Try.prog 5 #[.agg #[.int .i64 k, .int .i64 n, .string s], .agg #[.int .i64 k', .int .i64 n', .string s'], .agg #[.int .i64 k'', .int .i64 n'', .string s'']] w fun e w' =>
      e = .returned (.bool true) ∧ Ext w w' := by
  go_enter Try.func5, Try.ntmps5
  go_wp2_with (first | (go_at_call 8; refine (awake_any _).mono ?_; rintro e w' ⟨rfl, hb⟩; have hc := hb.cell; have hz0 : w.heap.size < w'.heap.size := (by have := hb.size; (try simp at this); omega); have hz1 : w.heap.size + 1 < w'.heap.size := (by have := hb.size; (try simp at this); omega); have hz2 : w.heap.size + 1 + 1 < w'.heap.size := (by have := hb.size; (try simp at this); omega); have hx := hid hb; clear hb) | (go_at_call 9; refine (check_any _ _ _ _).mono ?_; rintro e w' ⟨rfl, hb⟩; have hc := hb.cell; have hz0 : w.heap.size < w'.heap.size := (by have := hb.size; (try simp at this); omega); have hz1 : w.heap.size + 1 < w'.heap.size := (by have := hb.size; (try simp at this); omega); have hz2 : w.heap.size + 1 + 1 < w'.heap.size := (by have := hb.size; (try simp at this); omega); have hx := hid hb; clear hb) | (go_at_call 10; refine (rcheck_any _ _ _ _).mono ?_; rintro e w' ⟨rfl, hb⟩; have hc := hb.cell; have hz0 : w.heap.size < w'.heap.size := (by have := hb.size; (try simp at this); omega); have hz1 : w.heap.size + 1 < w'.heap.size := (by have := hb.size; (try simp at this); omega); have hz2 : w.heap.size + 1 + 1 < w'.heap.size := (by have := hb.size; (try simp at this); omega); have hx := hid hb; clear hb) | (go_at_call 11; refine (order_any _ _ _ _ _ _ _).mono ?_; rintro e w' ⟨rfl, hb⟩; have hc := hb.cell; have hz0 : w.heap.size < w'.heap.size := (by have := hb.size; (try simp at this); omega); have hz1 : w.heap.size + 1 < w'.heap.size := (by have := hb.size; (try simp at this); omega); have hz2 : w.heap.size + 1 + 1 < w'.heap.size := (by have := hb.size; (try simp at this); omega); have hx := hid hb; clear hb) | (go_at_call 12; refine (rorder_any _ _ _ _ _ _ _).mono ?_; rintro e w' ⟨rfl, hb⟩; have hc := hb.cell; have hz0 : w.heap.size < w'.heap.size := (by have := hb.size; (try simp at this); omega); have hz1 : w.heap.size + 1 < w'.heap.size := (by have := hb.size; (try simp at this); omega); have hz2 : w.heap.size + 1 + 1 < w'.heap.size := (by have := hb.size; (try simp at this); omega); have hx := hid hb; clear hb) | (go_at_call 13; refine (beg_any _ _ _ _ _ _ _).mono ?_; rintro e w' ⟨rfl, hb⟩; have hc := hb.cell; have hz0 : w.heap.size < w'.heap.size := (by have := hb.size; (try simp at this); omega); have hz1 : w.heap.size + 1 < w'.heap.size := (by have := hb.size; (try simp at this); omega); have hz2 : w.heap.size + 1 + 1 < w'.heap.size := (by have := hb.size; (try simp at this); omega); have hx := hid hb; clear hb) | (go_at_call 14; refine (rbeg_any _ _ _ _ _ _ _).mono ?_; rintro e w' ⟨rfl, hb⟩; have hc := hb.cell; have hz0 : w.heap.size < w'.heap.size := (by have := hb.size; (try simp at this); omega); have hz1 : w.heap.size + 1 < w'.heap.size := (by have := hb.size; (try simp at this); omega); have hz2 : w.heap.size + 1 + 1 < w'.heap.size := (by have := hb.size; (try simp at this); omega); have hx := hid hb; clear hb) | (go_at_call 15; refine (int_any _ _).mono ?_; rintro e w' ⟨rfl, hb⟩; have hc := hb.cell; have hz0 : w.heap.size < w'.heap.size := (by have := hb.size; (try simp at this); omega); have hz1 : w.heap.size + 1 < w'.heap.size := (by have := hb.size; (try simp at this); omega); have hz2 : w.heap.size + 1 + 1 < w'.heap.size := (by have := hb.size; (try simp at this); omega); have hx := hid hb; clear hb) | (go_at_call 16; refine (text_any _ _).mono ?_; rintro e w' ⟨rfl, hb⟩; have hc := hb.cell; have hz0 : w.heap.size < w'.heap.size := (by have := hb.size; (try simp at this); omega); have hz1 : w.heap.size + 1 < w'.heap.size := (by have := hb.size; (try simp at this); omega); have hz2 : w.heap.size + 1 + 1 < w'.heap.size := (by have := hb.size; (try simp at this); omega); have hx := hid hb; clear hb) | (go_at_call 17; refine (bool_any _ _).mono ?_; rintro e w' ⟨rfl, hb⟩; have hc := hb.cell; have hz0 : w.heap.size < w'.heap.size := (by have := hb.size; (try simp at this); omega); have hz1 : w.heap.size + 1 < w'.heap.size := (by have := hb.size; (try simp at this); omega); have hz2 : w.heap.size + 1 + 1 < w'.heap.size := (by have := hb.size; (try simp at this); omega); have hx := hid hb; clear hb))
  all_goals
    go_ret
    refine ⟨ret_bool ?_, ?_⟩
    · first
      | rfl
      | (simp at g3 g4 ⊢; omega)
    · (repeat (first | exact Ext.refl _ | refine Ext.alloc ?_ _ | refine Ext.drewN ?_ _ | refine Ext.drew ?_ | refine Ext.trans ?_ (Hid.out (by assumption))))

theorem orders_any (k n : Int) (s : ByteArray) (k' n' : Int) (s' : ByteArray) (k'' n'' : Int) (s'' : ByteArray) (w : World) :
    Calls Try.prog 5 #[.agg #[.int .i64 k, .int .i64 n, .string s], .agg #[.int .i64 k', .int .i64 n', .string s'], .agg #[.int .i64 k'', .int .i64 n'', .string s'']] w fun e w' =>
      e = .returned (.bool true) ∧ Ext w w' := by
  by_cases h1 : (s.size : Int) ≤ 200 ∧ (s'.size : Int) ≤ 200 ∧ (s''.size : Int) ≤ 200
  · have hr := vOrd_range k n s.toList k' n' s'.toList
    have hr' := vOrd_range k' n' s'.toList k n s.toList
    have hn := vOrd_neg k n s.toList k' n' s'.toList
    refine orders_core k n s k' n' s' k'' n'' s'' w _ _ _ _ _ rfl rfl rfl rfl (run_eqV k n s k' n' s') ?_ ?_ ?_ ?_ hr.1 hr.2 hr'.1 hr'.2 h1.1 h1.2.1 h1.2.2
    · rw [hn]; simp; omega
    · rw [vEq_ord]; by_cases h : vOrd k n s.toList k' n' s'.toList = 0 <;> simp [h]
    · have ht := vOrd_trans k n s.toList k' n' s'.toList k'' n'' s''.toList
      simp only [Bool.or_eq_true, decide_eq_true_eq]
      omega
    · by_cases h : vOrd k n s.toList k' n' s'.toList = 0
      · obtain ⟨ha, hb, hc⟩ := (vOrd_eq_zero ..).1 h
        subst ha; subst hb; rw [hc]; simp
      · simp [h]
  · go_enter Try.func5, Try.ntmps5
    go_wp2_with (first | (go_at_call 8; refine (awake_any _).mono ?_; rintro e w' ⟨rfl, hb⟩; have hc := hb.cell; have hz0 : w.heap.size < w'.heap.size := (by have := hb.size; (try simp at this); omega); have hz1 : w.heap.size + 1 < w'.heap.size := (by have := hb.size; (try simp at this); omega); have hz2 : w.heap.size + 1 + 1 < w'.heap.size := (by have := hb.size; (try simp at this); omega); have hx := hid hb; clear hb) | (go_at_call 9; refine (check_any _ _ _ _).mono ?_; rintro e w' ⟨rfl, hb⟩; have hc := hb.cell; have hz0 : w.heap.size < w'.heap.size := (by have := hb.size; (try simp at this); omega); have hz1 : w.heap.size + 1 < w'.heap.size := (by have := hb.size; (try simp at this); omega); have hz2 : w.heap.size + 1 + 1 < w'.heap.size := (by have := hb.size; (try simp at this); omega); have hx := hid hb; clear hb) | (go_at_call 10; refine (rcheck_any _ _ _ _).mono ?_; rintro e w' ⟨rfl, hb⟩; have hc := hb.cell; have hz0 : w.heap.size < w'.heap.size := (by have := hb.size; (try simp at this); omega); have hz1 : w.heap.size + 1 < w'.heap.size := (by have := hb.size; (try simp at this); omega); have hz2 : w.heap.size + 1 + 1 < w'.heap.size := (by have := hb.size; (try simp at this); omega); have hx := hid hb; clear hb) | (go_at_call 11; refine (order_any _ _ _ _ _ _ _).mono ?_; rintro e w' ⟨rfl, hb⟩; have hc := hb.cell; have hz0 : w.heap.size < w'.heap.size := (by have := hb.size; (try simp at this); omega); have hz1 : w.heap.size + 1 < w'.heap.size := (by have := hb.size; (try simp at this); omega); have hz2 : w.heap.size + 1 + 1 < w'.heap.size := (by have := hb.size; (try simp at this); omega); have hx := hid hb; clear hb) | (go_at_call 12; refine (rorder_any _ _ _ _ _ _ _).mono ?_; rintro e w' ⟨rfl, hb⟩; have hc := hb.cell; have hz0 : w.heap.size < w'.heap.size := (by have := hb.size; (try simp at this); omega); have hz1 : w.heap.size + 1 < w'.heap.size := (by have := hb.size; (try simp at this); omega); have hz2 : w.heap.size + 1 + 1 < w'.heap.size := (by have := hb.size; (try simp at this); omega); have hx := hid hb; clear hb) | (go_at_call 13; refine (beg_any _ _ _ _ _ _ _).mono ?_; rintro e w' ⟨rfl, hb⟩; have hc := hb.cell; have hz0 : w.heap.size < w'.heap.size := (by have := hb.size; (try simp at this); omega); have hz1 : w.heap.size + 1 < w'.heap.size := (by have := hb.size; (try simp at this); omega); have hz2 : w.heap.size + 1 + 1 < w'.heap.size := (by have := hb.size; (try simp at this); omega); have hx := hid hb; clear hb) | (go_at_call 14; refine (rbeg_any _ _ _ _ _ _ _).mono ?_; rintro e w' ⟨rfl, hb⟩; have hc := hb.cell; have hz0 : w.heap.size < w'.heap.size := (by have := hb.size; (try simp at this); omega); have hz1 : w.heap.size + 1 < w'.heap.size := (by have := hb.size; (try simp at this); omega); have hz2 : w.heap.size + 1 + 1 < w'.heap.size := (by have := hb.size; (try simp at this); omega); have hx := hid hb; clear hb) | (go_at_call 15; refine (int_any _ _).mono ?_; rintro e w' ⟨rfl, hb⟩; have hc := hb.cell; have hz0 : w.heap.size < w'.heap.size := (by have := hb.size; (try simp at this); omega); have hz1 : w.heap.size + 1 < w'.heap.size := (by have := hb.size; (try simp at this); omega); have hz2 : w.heap.size + 1 + 1 < w'.heap.size := (by have := hb.size; (try simp at this); omega); have hx := hid hb; clear hb) | (go_at_call 16; refine (text_any _ _).mono ?_; rintro e w' ⟨rfl, hb⟩; have hc := hb.cell; have hz0 : w.heap.size < w'.heap.size := (by have := hb.size; (try simp at this); omega); have hz1 : w.heap.size + 1 < w'.heap.size := (by have := hb.size; (try simp at this); omega); have hz2 : w.heap.size + 1 + 1 < w'.heap.size := (by have := hb.size; (try simp at this); omega); have hx := hid hb; clear hb) | (go_at_call 17; refine (bool_any _ _).mono ?_; rintro e w' ⟨rfl, hb⟩; have hc := hb.cell; have hz0 : w.heap.size < w'.heap.size := (by have := hb.size; (try simp at this); omega); have hz1 : w.heap.size + 1 < w'.heap.size := (by have := hb.size; (try simp at this); omega); have hz2 : w.heap.size + 1 + 1 < w'.heap.size := (by have := hb.size; (try simp at this); omega); have hx := hid hb; clear hb))
    all_goals
      go_ret
      refine ⟨rfl, ?_⟩
      (repeat (first | exact Ext.refl _ | refine Ext.alloc ?_ _ | refine Ext.drewN ?_ _ | refine Ext.drew ?_ | refine Ext.trans ?_ (Hid.out (by assumption))))

theorem makes_any (n m : Int) (s t : ByteArray) (w : World) :
    Calls Try.prog 6 #[.int .i64 n, .int .i64 m, .string s, .string t] w fun e w' => e = .returned (.bool true) ∧ Ext w w' := by
  have c1 : vOrd 3 0 [] 3 1 [] = -1 := by kernel_rfl
  have c2 : ∀ x, vChk 1 x [] = 0 := fun _ => by simp [vChk]
  have c3 : (vChk 2 0 s.toList == 0) = decide ((s.size : Int) ≤ 40) := by
    rw [← len_toList s]
    unfold vChk
    by_cases h : s.toList.length ≤ 40 <;> simp [h] <;> omega
  have c4 : (decide (vOrd 1 n [] 1 m [] < 0) == decide (n < m)) = true := by
    rcases cmpI_cases n m with ⟨h, e⟩ | ⟨h, e⟩ | ⟨rfl, e⟩
    · simp [vOrd, e, h, cmpI]
    · simp [vOrd, e, cmpI]; omega
    · simp [vOrd, cmpI, cmpL, bl_irrefl]
  have c5 : (decide (vOrd 2 0 s.toList 2 0 t.toList < 0) == Op.bytesLess s.toList t.toList) = true := by
    show (decide (vOrd 2 0 s.toList 2 0 t.toList < 0) == bl s.toList t.toList) = true
    have hv : vOrd 2 0 s.toList 2 0 t.toList = cmpL s.toList t.toList := by simp [vOrd, cmpI]
    rw [hv]
    rcases cmpL_cases s.toList t.toList with ⟨h, e⟩ | ⟨h, e⟩ | ⟨h, e⟩
    · simp [e, h]
    · simp [e, bl_asymm _ _ h]
    · rw [e, h]; simp [show Op.bytesLess t.toList t.toList = false from bl_irrefl _, bl_irrefl]
  have c6 : vBeg 2 (s ++ t).toList 2 s.toList = true := by
    unfold vBeg; rw [Lib.toList_data, Lib.toList_data, ByteArray.data_append, Array.toList_append]; simp
  have c7 : vBeg 2 s.toList 2 [] = true := by simp [vBeg]
  have c8 : vChk 3 1 [] = 0 := by simp [vChk]
  have c9 : vChk 3 0 [] = 0 := by simp [vChk]
  by_cases h1 : (s.size : Int) ≤ 200 ∧ (t.size : Int) ≤ 200
  · obtain ⟨h1, h2⟩ := h1
    go_enter Try.func6, Try.ntmps6
    go_wp2_with (first | (go_at_call 8; refine (awake_any _).mono ?_; rintro e w' ⟨rfl, hb⟩; have hx := hid hb; clear hb) | (go_at_call 9; refine (check_any _ _ _ _).mono ?_; rintro e w' ⟨rfl, hb⟩; have hx := hid hb; clear hb) | (go_at_call 10; refine (rcheck_any _ _ _ _).mono ?_; rintro e w' ⟨rfl, hb⟩; have hx := hid hb; clear hb) | (go_at_call 11; refine (order_any _ _ _ _ _ _ _).mono ?_; rintro e w' ⟨rfl, hb⟩; have hx := hid hb; clear hb) | (go_at_call 12; refine (rorder_any _ _ _ _ _ _ _).mono ?_; rintro e w' ⟨rfl, hb⟩; have hx := hid hb; clear hb) | (go_at_call 13; refine (beg_any _ _ _ _ _ _ _).mono ?_; rintro e w' ⟨rfl, hb⟩; have hx := hid hb; clear hb) | (go_at_call 14; refine (rbeg_any _ _ _ _ _ _ _).mono ?_; rintro e w' ⟨rfl, hb⟩; have hx := hid hb; clear hb) | (go_at_call 15; refine (int_any _ _).mono ?_; rintro e w' ⟨rfl, hb⟩; have hx := hid hb; clear hb) | (go_at_call 16; refine (text_any _ _).mono ?_; rintro e w' ⟨rfl, hb⟩; have hx := hid hb; clear hb) | (go_at_call 17; refine (bool_any _ _).mono ?_; rintro e w' ⟨rfl, hb⟩; have hx := hid hb; clear hb))
    all_goals
      go_ret
      refine ⟨rfl, ?_⟩
      (repeat (first | exact Ext.refl _ | refine Ext.alloc ?_ _ | refine Ext.drewN ?_ _ | refine Ext.drew ?_ | refine Ext.trans ?_ (Hid.out (by assumption))))
  · go_enter Try.func6, Try.ntmps6
    go_wp2_with (first | (go_at_call 8; refine (awake_any _).mono ?_; rintro e w' ⟨rfl, hb⟩; have hx := hid hb; clear hb) | (go_at_call 9; refine (check_any _ _ _ _).mono ?_; rintro e w' ⟨rfl, hb⟩; have hx := hid hb; clear hb) | (go_at_call 10; refine (rcheck_any _ _ _ _).mono ?_; rintro e w' ⟨rfl, hb⟩; have hx := hid hb; clear hb) | (go_at_call 11; refine (order_any _ _ _ _ _ _ _).mono ?_; rintro e w' ⟨rfl, hb⟩; have hx := hid hb; clear hb) | (go_at_call 12; refine (rorder_any _ _ _ _ _ _ _).mono ?_; rintro e w' ⟨rfl, hb⟩; have hx := hid hb; clear hb) | (go_at_call 13; refine (beg_any _ _ _ _ _ _ _).mono ?_; rintro e w' ⟨rfl, hb⟩; have hx := hid hb; clear hb) | (go_at_call 14; refine (rbeg_any _ _ _ _ _ _ _).mono ?_; rintro e w' ⟨rfl, hb⟩; have hx := hid hb; clear hb) | (go_at_call 15; refine (int_any _ _).mono ?_; rintro e w' ⟨rfl, hb⟩; have hx := hid hb; clear hb) | (go_at_call 16; refine (text_any _ _).mono ?_; rintro e w' ⟨rfl, hb⟩; have hx := hid hb; clear hb) | (go_at_call 17; refine (bool_any _ _).mono ?_; rintro e w' ⟨rfl, hb⟩; have hx := hid hb; clear hb))
    all_goals
      go_ret
      refine ⟨rfl, ?_⟩
      (repeat (first | exact Ext.refl _ | refine Ext.alloc ?_ _ | refine Ext.drewN ?_ _ | refine Ext.drew ?_ | refine Ext.trans ?_ (Hid.out (by assumption))))
end Go.Proofs.Ytaednpicjpfamaa
