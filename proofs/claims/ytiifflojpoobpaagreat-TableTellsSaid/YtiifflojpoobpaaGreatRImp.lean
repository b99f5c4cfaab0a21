/- The document's answer for tests: the walks of its Is, below, above, begins, Implies. -/
import Derived.Test.YtiifflojpoobpaaGreatImp
set_option linter.unusedVariables false
set_option linter.unusedSimpArgs false
namespace Go.Proofs.YtiifflojpoobpaaGreat
open Go.RowKit

set_option maxRecDepth 100000 in
set_option maxHeartbeats 2000000 in
theorem ris_any (t : T) (k n : Int) (s : ByteArray) (w : World) :
    Calls Tryz.prog 100 #[.agg #[.string t.nm, .int .i64 t.op, .int .i64 t.k, .int .i64 t.n, .string t.s], .agg #[.int .i64 k, .int .i64 n, .string s]] w fun e w' => e = .returned (.bool (isV t.op t.v ⟨k, n, s.toList⟩)) ∧ Ext w w' := by
  have HO := hid (show (⟨k, n, s.toList⟩ : Vl).ord t.v = vOrd k n s.toList t.k t.n t.s.toList from rfl)
  have HB := hid (show (⟨k, n, s.toList⟩ : Vl).beg t.v = vBeg k s.toList t.k t.s.toList from rfl)
  have HK := hid (show t.v.k = t.k from rfl)
  go_enter Tryz.func100, Tryz.ntmps100
  go_wp2_with (first | (go_at_call 99; refine (rorder_any _ _ _ _ _ _ _).mono ?_; rintro e w' ⟨rfl, hb⟩; have hc := hb.cell; have hz := hb.size; have hx := hid hb; clear hb) | (go_at_call 107; refine (rbeg_any _ _ _ _ _ _ _).mono ?_; rintro e w2 ⟨rfl, hb⟩; have hy := hid hb; clear hb))
  all_goals
    go_ret
    refine ⟨ret_bool ?_, (by (repeat (first | exact Ext.refl _ | refine Ext.alloc ?_ _ | refine Ext.drewN ?_ _ | refine Ext.drew ?_ | refine Ext.trans ?_ (Hid.out (by assumption)))))⟩
    unfold isV asks
    rw [HO.out, HB.out, HK.out]
    simp_all
    try rfl
theorem below3_any (n op : Int) (w : World) : Calls Tryz.prog 101 #[.bool false, .int .i64 n, .int .i64 op] w fun e w' => e = .returned (.bool (decide (op = 3 ∨ op = 4 ∨ op = 2) && decide (n ≤ 0))) ∧ Ext w w' := by
  go_enter Tryz.func101, Tryz.ntmps101
  go_wp2
  all_goals
    go_ret
    refine ⟨ret_bool ?_, (by (repeat (first | exact Ext.refl _ | refine Ext.alloc ?_ _ | refine Ext.drewN ?_ _ | refine Ext.drew ?_ | refine Ext.trans ?_ (Hid.out (by assumption)))))⟩
    simp_all
    try omega
theorem below4_any (n op : Int) (w : World) : Calls Tryz.prog 101 #[.bool true, .int .i64 n, .int .i64 op] w fun e w' => e = .returned (.bool ((decide (op = 4) && decide (n ≤ 0)) || (decide (op = 3 ∨ op = 2) && decide (n < 0)))) ∧ Ext w w' := by
  go_enter Tryz.func101, Tryz.ntmps101
  go_wp2
  all_goals
    go_ret
    refine ⟨ret_bool ?_, (by (repeat (first | exact Ext.refl _ | refine Ext.alloc ?_ _ | refine Ext.drewN ?_ _ | refine Ext.drew ?_ | refine Ext.trans ?_ (Hid.out (by assumption)))))⟩
    simp_all
    try omega
theorem above5_any (n op : Int) (w : World) : Calls Tryz.prog 102 #[.bool false, .int .i64 n, .int .i64 op] w fun e w' => e = .returned (.bool (decide (op = 5 ∨ op = 6 ∨ op = 2) && decide (0 ≤ n))) ∧ Ext w w' := by
  go_enter Tryz.func102, Tryz.ntmps102
  go_wp2
  all_goals
    go_ret
    refine ⟨ret_bool ?_, (by (repeat (first | exact Ext.refl _ | refine Ext.alloc ?_ _ | refine Ext.drewN ?_ _ | refine Ext.drew ?_ | refine Ext.trans ?_ (Hid.out (by assumption)))))⟩
    simp_all
    try omega
theorem above6_any (n op : Int) (w : World) : Calls Tryz.prog 102 #[.bool true, .int .i64 n, .int .i64 op] w fun e w' => e = .returned (.bool ((decide (op = 6) && decide (0 ≤ n)) || (decide (op = 5 ∨ op = 2) && decide (0 < n)))) ∧ Ext w w' := by
  go_enter Tryz.func102, Tryz.ntmps102
  go_wp2
  all_goals
    go_ret
    refine ⟨ret_bool ?_, (by (repeat (first | exact Ext.refl _ | refine Ext.alloc ?_ _ | refine Ext.drewN ?_ _ | refine Ext.drew ?_ | refine Ext.trans ?_ (Hid.out (by assumption)))))⟩
    simp_all
    try omega
theorem rbegins_any (a b : T) (w : World) : Calls Tryz.prog 103 #[.agg #[.string a.nm, .int .i64 a.op, .int .i64 a.k, .int .i64 a.n, .string a.s], .agg #[.string b.nm, .int .i64 b.op, .int .i64 b.k, .int .i64 b.n, .string b.s], .int .i64 (vOrd a.k a.n a.s.toList b.k b.n b.s.toList)] w fun e w' => e = .returned (.bool (pairV 7 a.v b.op b.v)) ∧ Ext w w' := by
  have H := hid (show a.v.ord b.v = vOrd a.k a.n a.s.toList b.k b.n b.s.toList from rfl)
  go_enter Tryz.func103, Tryz.ntmps103
  go_wp2_with (go_at_call 107; refine (rbeg_any _ _ _ _ _ _ _).mono ?_; rintro e w2 ⟨rfl, hb⟩; have hy := hid hb; clear hb)
  all_goals
    go_ret
    refine ⟨ret_bool (by unfold pairV; rw [H.out]; simp_all [Vl.beg, T.v]), (by (repeat (first | exact Ext.refl _ | refine Ext.alloc ?_ _ | refine Ext.drewN ?_ _ | refine Ext.drew ?_ | refine Ext.trans ?_ (Hid.out (by assumption)))))⟩
theorem known_no {op : Int} (h : known op = false) : op < 1 ∨ 8 < op := by unfold known at h; have := of_decide_eq_false h; omega
theorem known_yes {op : Int} (h : known op = true) : 1 ≤ op ∧ op ≤ 8 := by unfold known at h; exact of_decide_eq_true h
set_option maxRecDepth 100000 in
set_option maxHeartbeats 4000000 in
theorem rimp1 (a b : T) (w : World) (hn : a.nm.toList = b.nm.toList) (a1 : 1 ≤ a.op) (a8 : a.op ≤ 8) (b1 : 1 ≤ b.op) (b8 : b.op ≤ 8) (hE : decide (a.ts = b.ts) = false) (hb8b : (b.op == 8) = false) (ha8b : (a.op == 8) = false) (hkkb : (a.k != b.k) = false) (HV : Hid (impT a.ts b.ts = pairV a.op a.v b.op b.v)) (h : a.op = 1) : Calls Tryz.prog 77 #[.agg #[.string a.nm, .int .i64 a.op, .int .i64 a.k, .int .i64 a.n, .string a.s], .agg #[.string b.nm, .int .i64 b.op, .int .i64 b.k, .int .i64 b.n, .string b.s]] w fun e w' => e = .returned (.bool (impT a.ts b.ts)) ∧ Ext w w' := by
  obtain ⟨nm, op, ak, an, as'⟩ := a
  dsimp only at *
  subst h
  have HOR := hid (show (⟨nm, 1, ak, an, as'⟩ : T).v.ord b.v = vOrd ak an as'.toList b.k b.n b.s.toList from rfl)
  have heq := run_eqT ⟨nm, 1, ak, an, as'⟩ b
  dsimp only at heq
  go_enter Tryz.func77, Tryz.ntmps77
  go_wp2_with (first | (go_at_call 99; refine (rorder_any _ _ _ _ _ _ _).mono ?_; rintro e w' ⟨rfl, hb⟩; have hc := hb.cell; have hz := hb.size; have hx := hid hb; clear hb) | (go_at_call 100; refine (ris_any b _ _ _ _).mono ?_; rintro e w2 ⟨rfl, hb⟩; have hy := hid hb; clear hb))
  go_ret
  refine ⟨ret_bool ?_, (by (repeat (first | exact Ext.refl _ | refine Ext.alloc ?_ _ | refine Ext.drewN ?_ _ | refine Ext.drew ?_ | refine Ext.trans ?_ (Hid.out (by assumption)))))⟩
  rw [HV.out]; unfold pairV; rfl
set_option maxRecDepth 100000 in
set_option maxHeartbeats 2000000 in
theorem rimp2 (a b : T) (w : World) (hn : a.nm.toList = b.nm.toList) (a1 : 1 ≤ a.op) (a8 : a.op ≤ 8) (b1 : 1 ≤ b.op) (b8 : b.op ≤ 8) (hE : decide (a.ts = b.ts) = false) (hb8b : (b.op == 8) = false) (ha8b : (a.op == 8) = false) (hkkb : (a.k != b.k) = false) (HV : Hid (impT a.ts b.ts = pairV a.op a.v b.op b.v)) (h : a.op = 2) : Calls Tryz.prog 77 #[.agg #[.string a.nm, .int .i64 a.op, .int .i64 a.k, .int .i64 a.n, .string a.s], .agg #[.string b.nm, .int .i64 b.op, .int .i64 b.k, .int .i64 b.n, .string b.s]] w fun e w' => e = .returned (.bool (impT a.ts b.ts)) ∧ Ext w w' := by
  obtain ⟨nm, op, ak, an, as'⟩ := a
  dsimp only at *
  subst h
  have HOR := hid (show (⟨nm, 2, ak, an, as'⟩ : T).v.ord b.v = vOrd ak an as'.toList b.k b.n b.s.toList from rfl)
  have heq := run_eqT ⟨nm, 2, ak, an, as'⟩ b
  dsimp only at heq
  go_enter Tryz.func77, Tryz.ntmps77
  go_wp2_with (first | (go_at_call 99; refine (rorder_any _ _ _ _ _ _ _).mono ?_; rintro e w' ⟨rfl, hb⟩; have hc := hb.cell; have hz := hb.size; have hx := hid hb; clear hb) | fail)
  go_ret
  refine ⟨ret_bool ?_, (by (repeat (first | exact Ext.refl _ | refine Ext.alloc ?_ _ | refine Ext.drewN ?_ _ | refine Ext.drew ?_ | refine Ext.trans ?_ (Hid.out (by assumption)))))⟩
  rw [HV.out]; rfl
set_option maxRecDepth 100000 in
set_option maxHeartbeats 2000000 in
theorem rimp3 (a b : T) (w : World) (hn : a.nm.toList = b.nm.toList) (a1 : 1 ≤ a.op) (a8 : a.op ≤ 8) (b1 : 1 ≤ b.op) (b8 : b.op ≤ 8) (hE : decide (a.ts = b.ts) = false) (hb8b : (b.op == 8) = false) (ha8b : (a.op == 8) = false) (hkkb : (a.k != b.k) = false) (HV : Hid (impT a.ts b.ts = pairV a.op a.v b.op b.v)) (h : a.op = 3) : Calls Tryz.prog 77 #[.agg #[.string a.nm, .int .i64 a.op, .int .i64 a.k, .int .i64 a.n, .string a.s], .agg #[.string b.nm, .int .i64 b.op, .int .i64 b.k, .int .i64 b.n, .string b.s]] w fun e w' => e = .returned (.bool (impT a.ts b.ts)) ∧ Ext w w' := by
  obtain ⟨nm, op, ak, an, as'⟩ := a
  dsimp only at *
  subst h
  have HOR := hid (show (⟨nm, 3, ak, an, as'⟩ : T).v.ord b.v = vOrd ak an as'.toList b.k b.n b.s.toList from rfl)
  have heq := run_eqT ⟨nm, 3, ak, an, as'⟩ b
  dsimp only at heq
  go_enter Tryz.func77, Tryz.ntmps77
  go_wp2_with (first | (go_at_call 99; refine (rorder_any _ _ _ _ _ _ _).mono ?_; rintro e w' ⟨rfl, hb⟩; have hc := hb.cell; have hz := hb.size; have hx := hid hb; clear hb) | (go_at_call 101; refine (below3_any _ _ _).mono ?_; rintro e w2 ⟨rfl, hb⟩; have hy := hid hb; clear hb))
  go_ret
  refine ⟨ret_bool ?_, (by (repeat (first | exact Ext.refl _ | refine Ext.alloc ?_ _ | refine Ext.drewN ?_ _ | refine Ext.drew ?_ | refine Ext.trans ?_ (Hid.out (by assumption)))))⟩
  rw [HV.out]; unfold pairV; rw [HOR.out]; simp
set_option maxRecDepth 100000 in
set_option maxHeartbeats 2000000 in
theorem rimp4 (a b : T) (w : World) (hn : a.nm.toList = b.nm.toList) (a1 : 1 ≤ a.op) (a8 : a.op ≤ 8) (b1 : 1 ≤ b.op) (b8 : b.op ≤ 8) (hE : decide (a.ts = b.ts) = false) (hb8b : (b.op == 8) = false) (ha8b : (a.op == 8) = false) (hkkb : (a.k != b.k) = false) (HV : Hid (impT a.ts b.ts = pairV a.op a.v b.op b.v)) (h : a.op = 4) : Calls Tryz.prog 77 #[.agg #[.string a.nm, .int .i64 a.op, .int .i64 a.k, .int .i64 a.n, .string a.s], .agg #[.string b.nm, .int .i64 b.op, .int .i64 b.k, .int .i64 b.n, .string b.s]] w fun e w' => e = .returned (.bool (impT a.ts b.ts)) ∧ Ext w w' := by
  obtain ⟨nm, op, ak, an, as'⟩ := a
  dsimp only at *
  subst h
  have HOR := hid (show (⟨nm, 4, ak, an, as'⟩ : T).v.ord b.v = vOrd ak an as'.toList b.k b.n b.s.toList from rfl)
  have heq := run_eqT ⟨nm, 4, ak, an, as'⟩ b
  dsimp only at heq
  go_enter Tryz.func77, Tryz.ntmps77
  go_wp2_with (first | (go_at_call 99; refine (rorder_any _ _ _ _ _ _ _).mono ?_; rintro e w' ⟨rfl, hb⟩; have hc := hb.cell; have hz := hb.size; have hx := hid hb; clear hb) | (go_at_call 101; refine (below4_any _ _ _).mono ?_; rintro e w2 ⟨rfl, hb⟩; have hy := hid hb; clear hb))
  go_ret
  refine ⟨ret_bool ?_, (by (repeat (first | exact Ext.refl _ | refine Ext.alloc ?_ _ | refine Ext.drewN ?_ _ | refine Ext.drew ?_ | refine Ext.trans ?_ (Hid.out (by assumption)))))⟩
  rw [HV.out]; unfold pairV; rw [HOR.out]; simp
set_option maxRecDepth 100000 in
set_option maxHeartbeats 2000000 in
theorem rimp5 (a b : T) (w : World) (hn : a.nm.toList = b.nm.toList) (a1 : 1 ≤ a.op) (a8 : a.op ≤ 8) (b1 : 1 ≤ b.op) (b8 : b.op ≤ 8) (hE : decide (a.ts = b.ts) = false) (hb8b : (b.op == 8) = false) (ha8b : (a.op == 8) = false) (hkkb : (a.k != b.k) = false) (HV : Hid (impT a.ts b.ts = pairV a.op a.v b.op b.v)) (h : a.op = 5) : Calls Tryz.prog 77 #[.agg #[.string a.nm, .int .i64 a.op, .int .i64 a.k, .int .i64 a.n, .string a.s], .agg #[.string b.nm, .int .i64 b.op, .int .i64 b.k, .int .i64 b.n, .string b.s]] w fun e w' => e = .returned (.bool (impT a.ts b.ts)) ∧ Ext w w' := by
  obtain ⟨nm, op, ak, an, as'⟩ := a
  dsimp only at *
  subst h
  have HOR := hid (show (⟨nm, 5, ak, an, as'⟩ : T).v.ord b.v = vOrd ak an as'.toList b.k b.n b.s.toList from rfl)
  have heq := run_eqT ⟨nm, 5, ak, an, as'⟩ b
  dsimp only at heq
  go_enter Tryz.func77, Tryz.ntmps77
  go_wp2_with (first | (go_at_call 99; refine (rorder_any _ _ _ _ _ _ _).mono ?_; rintro e w' ⟨rfl, hb⟩; have hc := hb.cell; have hz := hb.size; have hx := hid hb; clear hb) | (go_at_call 102; refine (above5_any _ _ _).mono ?_; rintro e w2 ⟨rfl, hb⟩; have hy := hid hb; clear hb))
  go_ret
  refine ⟨ret_bool ?_, (by (repeat (first | exact Ext.refl _ | refine Ext.alloc ?_ _ | refine Ext.drewN ?_ _ | refine Ext.drew ?_ | refine Ext.trans ?_ (Hid.out (by assumption)))))⟩
  rw [HV.out]; unfold pairV; rw [HOR.out]; simp
set_option maxRecDepth 100000 in
set_option maxHeartbeats 2000000 in
theorem rimp6 (a b : T) (w : World) (hn : a.nm.toList = b.nm.toList) (a1 : 1 ≤ a.op) (a8 : a.op ≤ 8) (b1 : 1 ≤ b.op) (b8 : b.op ≤ 8) (hE : decide (a.ts = b.ts) = false) (hb8b : (b.op == 8) = false) (ha8b : (a.op == 8) = false) (hkkb : (a.k != b.k) = false) (HV : Hid (impT a.ts b.ts = pairV a.op a.v b.op b.v)) (h : a.op = 6) : Calls Tryz.prog 77 #[.agg #[.string a.nm, .int .i64 a.op, .int .i64 a.k, .int .i64 a.n, .string a.s], .agg #[.string b.nm, .int .i64 b.op, .int .i64 b.k, .int .i64 b.n, .string b.s]] w fun e w' => e = .returned (.bool (impT a.ts b.ts)) ∧ Ext w w' := by
  obtain ⟨nm, op, ak, an, as'⟩ := a
  dsimp only at *
  subst h
  have HOR := hid (show (⟨nm, 6, ak, an, as'⟩ : T).v.ord b.v = vOrd ak an as'.toList b.k b.n b.s.toList from rfl)
  have heq := run_eqT ⟨nm, 6, ak, an, as'⟩ b
  dsimp only at heq
  go_enter Tryz.func77, Tryz.ntmps77
  go_wp2_with (first | (go_at_call 99; refine (rorder_any _ _ _ _ _ _ _).mono ?_; rintro e w' ⟨rfl, hb⟩; have hc := hb.cell; have hz := hb.size; have hx := hid hb; clear hb) | (go_at_call 102; refine (above6_any _ _ _).mono ?_; rintro e w2 ⟨rfl, hb⟩; have hy := hid hb; clear hb))
  go_ret
  refine ⟨ret_bool ?_, (by (repeat (first | exact Ext.refl _ | refine Ext.alloc ?_ _ | refine Ext.drewN ?_ _ | refine Ext.drew ?_ | refine Ext.trans ?_ (Hid.out (by assumption)))))⟩
  rw [HV.out]; unfold pairV; rw [HOR.out]; simp
set_option maxRecDepth 100000 in
set_option maxHeartbeats 2000000 in
theorem rimp7 (a b : T) (w : World) (hn : a.nm.toList = b.nm.toList) (a1 : 1 ≤ a.op) (a8 : a.op ≤ 8) (b1 : 1 ≤ b.op) (b8 : b.op ≤ 8) (hE : decide (a.ts = b.ts) = false) (hb8b : (b.op == 8) = false) (ha8b : (a.op == 8) = false) (hkkb : (a.k != b.k) = false) (HV : Hid (impT a.ts b.ts = pairV a.op a.v b.op b.v)) (h : a.op = 7) : Calls Tryz.prog 77 #[.agg #[.string a.nm, .int .i64 a.op, .int .i64 a.k, .int .i64 a.n, .string a.s], .agg #[.string b.nm, .int .i64 b.op, .int .i64 b.k, .int .i64 b.n, .string b.s]] w fun e w' => e = .returned (.bool (impT a.ts b.ts)) ∧ Ext w w' := by
  obtain ⟨nm, op, ak, an, as'⟩ := a
  dsimp only at *
  subst h
  have HOR := hid (show (⟨nm, 7, ak, an, as'⟩ : T).v.ord b.v = vOrd ak an as'.toList b.k b.n b.s.toList from rfl)
  have heq := run_eqT ⟨nm, 7, ak, an, as'⟩ b
  dsimp only at heq
  go_enter Tryz.func77, Tryz.ntmps77
  go_wp2_with (first | (go_at_call 99; refine (rorder_any _ _ _ _ _ _ _).mono ?_; rintro e w' ⟨rfl, hb⟩; have hc := hb.cell; have hz := hb.size; have hx := hid hb; clear hb) | (go_at_call 103; refine (rbegins_any ⟨nm, 7, ak, an, as'⟩ b _).mono ?_; rintro e w2 ⟨rfl, hb⟩; have hy := hid hb; clear hb))
  go_ret
  refine ⟨ret_bool ?_, (by (repeat (first | exact Ext.refl _ | refine Ext.alloc ?_ _ | refine Ext.drewN ?_ _ | refine Ext.drew ?_ | refine Ext.trans ?_ (Hid.out (by assumption)))))⟩
  rw [HV.out]
set_option maxRecDepth 100000 in
set_option maxHeartbeats 2000000 in
theorem rimp_n (a b : T) (w : World) (hn : ¬ a.nm.toList = b.nm.toList) : Calls Tryz.prog 77 #[.agg #[.string a.nm, .int .i64 a.op, .int .i64 a.k, .int .i64 a.n, .string a.s], .agg #[.string b.nm, .int .i64 b.op, .int .i64 b.k, .int .i64 b.n, .string b.s]] w fun e w' => e = .returned (.bool (impT a.ts b.ts)) ∧ Ext w w' := by
  have HI := hid (imp_eq a b)
  have heq := run_eqT a b
  go_enter Tryz.func77, Tryz.ntmps77
  go_wp2_with (go_at_call 99; refine (rorder_any _ _ _ _ _ _ _).mono ?_; rintro e w' ⟨rfl, hb⟩; have hc := hb.cell; have hz := hb.size; have hx := hid hb; clear hb)
  all_goals
    go_ret
    refine ⟨ret_bool ?_, (by (repeat (first | exact Ext.refl _ | refine Ext.alloc ?_ _ | refine Ext.drewN ?_ _ | refine Ext.drew ?_ | refine Ext.trans ?_ (Hid.out (by assumption)))))⟩
    rw [HI.out]; simp [hn]
set_option maxRecDepth 100000 in
set_option maxHeartbeats 4000000 in
theorem rimp_a (a b : T) (w : World) (hn : a.nm.toList = b.nm.toList) (HKA : Hid (known a.op = false)) (h : a.op < 1) : Calls Tryz.prog 77 #[.agg #[.string a.nm, .int .i64 a.op, .int .i64 a.k, .int .i64 a.n, .string a.s], .agg #[.string b.nm, .int .i64 b.op, .int .i64 b.k, .int .i64 b.n, .string b.s]] w fun e w' => e = .returned (.bool (impT a.ts b.ts)) ∧ Ext w w' := by
  have HI := hid (imp_eq a b)
  have heq := run_eqT a b
  go_enter Tryz.func77, Tryz.ntmps77
  go_wp2_with (go_at_call 99; refine (rorder_any _ _ _ _ _ _ _).mono ?_; rintro e w' ⟨rfl, hb⟩; have hc := hb.cell; have hz := hb.size; have hx := hid hb; clear hb)
  all_goals
    go_ret
    refine ⟨ret_bool ?_, (by (repeat (first | exact Ext.refl _ | refine Ext.alloc ?_ _ | refine Ext.drewN ?_ _ | refine Ext.drew ?_ | refine Ext.trans ?_ (Hid.out (by assumption)))))⟩
    rw [HI.out, HKA.out]; simp
set_option maxRecDepth 100000 in
set_option maxHeartbeats 4000000 in
theorem rimp_a' (a b : T) (w : World) (hn : a.nm.toList = b.nm.toList) (HKA : Hid (known a.op = false)) (h1 : ¬ a.op < 1) (h : 8 < a.op) : Calls Tryz.prog 77 #[.agg #[.string a.nm, .int .i64 a.op, .int .i64 a.k, .int .i64 a.n, .string a.s], .agg #[.string b.nm, .int .i64 b.op, .int .i64 b.k, .int .i64 b.n, .string b.s]] w fun e w' => e = .returned (.bool (impT a.ts b.ts)) ∧ Ext w w' := by
  have HI := hid (imp_eq a b)
  have heq := run_eqT a b
  go_enter Tryz.func77, Tryz.ntmps77
  go_wp2_with (go_at_call 99; refine (rorder_any _ _ _ _ _ _ _).mono ?_; rintro e w' ⟨rfl, hb⟩; have hc := hb.cell; have hz := hb.size; have hx := hid hb; clear hb)
  all_goals
    go_ret
    refine ⟨ret_bool ?_, (by (repeat (first | exact Ext.refl _ | refine Ext.alloc ?_ _ | refine Ext.drewN ?_ _ | refine Ext.drew ?_ | refine Ext.trans ?_ (Hid.out (by assumption)))))⟩
    rw [HI.out, HKA.out]; simp
set_option maxRecDepth 100000 in
set_option maxHeartbeats 4000000 in
theorem rimp_b (a b : T) (w : World) (hn : a.nm.toList = b.nm.toList) (a1 : 1 ≤ a.op) (a8 : a.op ≤ 8) (HKA : Hid (known a.op = true)) (HKB : Hid (known b.op = false)) (h : b.op < 1) : Calls Tryz.prog 77 #[.agg #[.string a.nm, .int .i64 a.op, .int .i64 a.k, .int .i64 a.n, .string a.s], .agg #[.string b.nm, .int .i64 b.op, .int .i64 b.k, .int .i64 b.n, .string b.s]] w fun e w' => e = .returned (.bool (impT a.ts b.ts)) ∧ Ext w w' := by
  have HI := hid (imp_eq a b)
  have heq := run_eqT a b
  go_enter Tryz.func77, Tryz.ntmps77
  go_wp2_with (go_at_call 99; refine (rorder_any _ _ _ _ _ _ _).mono ?_; rintro e w' ⟨rfl, hb⟩; have hc := hb.cell; have hz := hb.size; have hx := hid hb; clear hb)
  all_goals
    go_ret
    refine ⟨ret_bool ?_, (by (repeat (first | exact Ext.refl _ | refine Ext.alloc ?_ _ | refine Ext.drewN ?_ _ | refine Ext.drew ?_ | refine Ext.trans ?_ (Hid.out (by assumption)))))⟩
    rw [HI.out, HKB.out]; simp
set_option maxRecDepth 100000 in
set_option maxHeartbeats 4000000 in
theorem rimp_b' (a b : T) (w : World) (hn : a.nm.toList = b.nm.toList) (a1 : 1 ≤ a.op) (a8 : a.op ≤ 8) (HKA : Hid (known a.op = true)) (HKB : Hid (known b.op = false)) (h1 : ¬ b.op < 1) (h : 8 < b.op) : Calls Tryz.prog 77 #[.agg #[.string a.nm, .int .i64 a.op, .int .i64 a.k, .int .i64 a.n, .string a.s], .agg #[.string b.nm, .int .i64 b.op, .int .i64 b.k, .int .i64 b.n, .string b.s]] w fun e w' => e = .returned (.bool (impT a.ts b.ts)) ∧ Ext w w' := by
  have HI := hid (imp_eq a b)
  have heq := run_eqT a b
  go_enter Tryz.func77, Tryz.ntmps77
  go_wp2_with (go_at_call 99; refine (rorder_any _ _ _ _ _ _ _).mono ?_; rintro e w' ⟨rfl, hb⟩; have hc := hb.cell; have hz := hb.size; have hx := hid hb; clear hb)
  all_goals
    go_ret
    refine ⟨ret_bool ?_, (by (repeat (first | exact Ext.refl _ | refine Ext.alloc ?_ _ | refine Ext.drewN ?_ _ | refine Ext.drew ?_ | refine Ext.trans ?_ (Hid.out (by assumption)))))⟩
    rw [HI.out, HKB.out]; simp
set_option maxRecDepth 100000 in
set_option maxHeartbeats 4000000 in
theorem rimp_e (a b : T) (w : World) (hn : a.nm.toList = b.nm.toList) (a1 : 1 ≤ a.op) (a8 : a.op ≤ 8) (HKA : Hid (known a.op = true)) (b1 : 1 ≤ b.op) (b8 : b.op ≤ 8) (HKB : Hid (known b.op = true)) (hE : decide (a.ts = b.ts) = true) : Calls Tryz.prog 77 #[.agg #[.string a.nm, .int .i64 a.op, .int .i64 a.k, .int .i64 a.n, .string a.s], .agg #[.string b.nm, .int .i64 b.op, .int .i64 b.k, .int .i64 b.n, .string b.s]] w fun e w' => e = .returned (.bool (impT a.ts b.ts)) ∧ Ext w w' := by
  have HI := hid (imp_eq a b)
  have heq := run_eqT a b
  go_enter Tryz.func77, Tryz.ntmps77
  go_wp2_with (go_at_call 99; refine (rorder_any _ _ _ _ _ _ _).mono ?_; rintro e w' ⟨rfl, hb⟩; have hc := hb.cell; have hz := hb.size; have hx := hid hb; clear hb)
  all_goals
    go_ret
    refine ⟨ret_bool ?_, (by (repeat (first | exact Ext.refl _ | refine Ext.alloc ?_ _ | refine Ext.drewN ?_ _ | refine Ext.drew ?_ | refine Ext.trans ?_ (Hid.out (by assumption)))))⟩
    rw [HI.out, HKA.out, HKB.out, hE]; simp [hn]
set_option maxRecDepth 100000 in
set_option maxHeartbeats 4000000 in
theorem rimp_8 (a b : T) (w : World) (hn : a.nm.toList = b.nm.toList) (a1 : 1 ≤ a.op) (a8 : a.op ≤ 8) (HKA : Hid (known a.op = true)) (b1 : 1 ≤ b.op) (b8 : b.op ≤ 8) (HKB : Hid (known b.op = true)) (hE : decide (a.ts = b.ts) = false) (hb8b : (b.op == 8) = true) (HB8 : Hid (b.op = 8)) : Calls Tryz.prog 77 #[.agg #[.string a.nm, .int .i64 a.op, .int .i64 a.k, .int .i64 a.n, .string a.s], .agg #[.string b.nm, .int .i64 b.op, .int .i64 b.k, .int .i64 b.n, .string b.s]] w fun e w' => e = .returned (.bool (impT a.ts b.ts)) ∧ Ext w w' := by
  have HI := hid (imp_eq a b)
  have heq := run_eqT a b
  go_enter Tryz.func77, Tryz.ntmps77
  go_wp2_with (go_at_call 99; refine (rorder_any _ _ _ _ _ _ _).mono ?_; rintro e w' ⟨rfl, hb⟩; have hc := hb.cell; have hz := hb.size; have hx := hid hb; clear hb)
  all_goals
    go_ret
    refine ⟨ret_bool ?_, (by (repeat (first | exact Ext.refl _ | refine Ext.alloc ?_ _ | refine Ext.drewN ?_ _ | refine Ext.drew ?_ | refine Ext.trans ?_ (Hid.out (by assumption)))))⟩
    rw [HI.out, HKA.out, HKB.out, hE]; simp [hn, HB8.out]
set_option maxRecDepth 100000 in
set_option maxHeartbeats 4000000 in
theorem rimp_8a (a b : T) (w : World) (hn : a.nm.toList = b.nm.toList) (a1 : 1 ≤ a.op) (a8 : a.op ≤ 8) (HKA : Hid (known a.op = true)) (b1 : 1 ≤ b.op) (b8 : b.op ≤ 8) (HKB : Hid (known b.op = true)) (hE : decide (a.ts = b.ts) = false) (hb8b : (b.op == 8) = false) (HB8 : Hid (¬ b.op = 8)) (ha8b : (a.op == 8) = true) (HA8 : Hid (a.op = 8)) : Calls Tryz.prog 77 #[.agg #[.string a.nm, .int .i64 a.op, .int .i64 a.k, .int .i64 a.n, .string a.s], .agg #[.string b.nm, .int .i64 b.op, .int .i64 b.k, .int .i64 b.n, .string b.s]] w fun e w' => e = .returned (.bool (impT a.ts b.ts)) ∧ Ext w w' := by
  have HI := hid (imp_eq a b)
  have heq := run_eqT a b
  go_enter Tryz.func77, Tryz.ntmps77
  go_wp2_with (go_at_call 99; refine (rorder_any _ _ _ _ _ _ _).mono ?_; rintro e w' ⟨rfl, hb⟩; have hc := hb.cell; have hz := hb.size; have hx := hid hb; clear hb)
  all_goals
    go_ret
    refine ⟨ret_bool ?_, (by (repeat (first | exact Ext.refl _ | refine Ext.alloc ?_ _ | refine Ext.drewN ?_ _ | refine Ext.drew ?_ | refine Ext.trans ?_ (Hid.out (by assumption)))))⟩
    rw [HI.out, HKA.out, HKB.out, hE]; simp [HB8.out, HA8.out]
set_option maxRecDepth 100000 in
set_option maxHeartbeats 4000000 in
theorem rimp_k (a b : T) (w : World) (hn : a.nm.toList = b.nm.toList) (a1 : 1 ≤ a.op) (a8 : a.op ≤ 8) (HKA : Hid (known a.op = true)) (b1 : 1 ≤ b.op) (b8 : b.op ≤ 8) (HKB : Hid (known b.op = true)) (hE : decide (a.ts = b.ts) = false) (hb8b : (b.op == 8) = false) (HB8 : Hid (¬ b.op = 8)) (ha8b : (a.op == 8) = false) (hkkb : (a.k != b.k) = true) (HKK : Hid (¬ a.k = b.k)) : Calls Tryz.prog 77 #[.agg #[.string a.nm, .int .i64 a.op, .int .i64 a.k, .int .i64 a.n, .string a.s], .agg #[.string b.nm, .int .i64 b.op, .int .i64 b.k, .int .i64 b.n, .string b.s]] w fun e w' => e = .returned (.bool (impT a.ts b.ts)) ∧ Ext w w' := by
  have HI := hid (imp_eq a b)
  have heq := run_eqT a b
  go_enter Tryz.func77, Tryz.ntmps77
  go_wp2_with (go_at_call 99; refine (rorder_any _ _ _ _ _ _ _).mono ?_; rintro e w' ⟨rfl, hb⟩; have hc := hb.cell; have hz := hb.size; have hx := hid hb; clear hb)
  all_goals
    go_ret
    refine ⟨ret_bool ?_, (by (repeat (first | exact Ext.refl _ | refine Ext.alloc ?_ _ | refine Ext.drewN ?_ _ | refine Ext.drew ?_ | refine Ext.trans ?_ (Hid.out (by assumption)))))⟩
    rw [HI.out, HKA.out, HKB.out, hE]; simp [HB8.out, HKK.out]
theorem rimplies_any (a b : T) (w : World) : Calls Tryz.prog 77 #[.agg #[.string a.nm, .int .i64 a.op, .int .i64 a.k, .int .i64 a.n, .string a.s], .agg #[.string b.nm, .int .i64 b.op, .int .i64 b.k, .int .i64 b.n, .string b.s]] w fun e w' => e = .returned (.bool (impT a.ts b.ts)) ∧ Ext w w' := by
  by_cases hn : a.nm.toList = b.nm.toList
  · cases hka : known a.op with
    | false =>
      by_cases ho : a.op < 1
      · exact rimp_a a b w hn hka ho
      · exact rimp_a' a b w hn hka ho (by have := known_no hka; omega)
    | true =>
      obtain ⟨a1, a8⟩ := known_yes hka
      cases hkb : known b.op with
      | false =>
        by_cases ho : b.op < 1
        · exact rimp_b a b w hn a1 a8 hka hkb ho
        · exact rimp_b' a b w hn a1 a8 hka hkb ho (by have := known_no hkb; omega)
      | true =>
        obtain ⟨b1, b8⟩ := known_yes hkb
        cases hE : decide (a.ts = b.ts) with
        | true => exact rimp_e a b w hn a1 a8 hka b1 b8 hkb hE
        | false =>
          by_cases hb8 : b.op = 8
          · exact rimp_8 a b w hn a1 a8 hka b1 b8 hkb hE (by simp [hb8]) hb8
          · have hb8b : (b.op == 8) = false := by simp [hb8]
            by_cases ha8 : a.op = 8
            · exact rimp_8a a b w hn a1 a8 hka b1 b8 hkb hE hb8b hb8 (by simp [ha8]) ha8
            · have ha8b : (a.op == 8) = false := by simp [ha8]
              by_cases hkk : a.k = b.k
              · have hkkb : (a.k != b.k) = false := by simp [hkk]
                have HV := hid (show impT a.ts b.ts = pairV a.op a.v b.op b.v from by rw [imp_eq, hka, hkb, hE]; simp [hn, hb8, ha8, hkk])
                rcases known_ops hka ha8 with h | h | h | h | h | h | h
                · exact rimp1 a b w hn a1 a8 b1 b8 hE hb8b ha8b hkkb HV h
                · exact rimp2 a b w hn a1 a8 b1 b8 hE hb8b ha8b hkkb HV h
                · exact rimp3 a b w hn a1 a8 b1 b8 hE hb8b ha8b hkkb HV h
                · exact rimp4 a b w hn a1 a8 b1 b8 hE hb8b ha8b hkkb HV h
                · exact rimp5 a b w hn a1 a8 b1 b8 hE hb8b ha8b hkkb HV h
                · exact rimp6 a b w hn a1 a8 b1 b8 hE hb8b ha8b hkkb HV h
                · exact rimp7 a b w hn a1 a8 b1 b8 hE hb8b ha8b hkkb HV h
              · exact rimp_k a b w hn a1 a8 hka b1 b8 hkb hE hb8b hb8 ha8b (by simp [hkk]) hkk
  · exact rimp_n a b w hn
end Go.Proofs.YtiifflojpoobpaaGreat
