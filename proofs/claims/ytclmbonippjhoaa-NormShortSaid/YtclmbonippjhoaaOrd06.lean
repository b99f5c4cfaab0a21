/- Which of two tests comes first: the walks of cmp.Compare and of the program's Order; and plain laws of that order. -/
import Derived.Test.YtclmbonippjhoaaImp
set_option linter.unusedVariables false
set_option linter.unusedSimpArgs false
namespace Go.Proofs.Ytclmbonippjhoaa
open Go.RowKit

theorem nanS_any (s : ByteArray) (w : World) : Calls Try.prog 77 #[.string s] w fun e w' => e = .returned (.bool false) ∧ w = w' := by
  go_enter Try.func77, Try.ntmps77
  go_wp2
  go_ret
  exact ⟨ret_bool (by simp), rfl⟩
theorem nanI_any (n : Int) (w : World) : Calls Try.prog 78 #[.int .i64 n] w fun e w' => e = .returned (.bool false) ∧ w = w' := by
  go_enter Try.func78, Try.ntmps78
  go_wp2
  go_ret
  exact ⟨ret_bool (by simp), rfl⟩
theorem cmp_lt {x y : List UInt8} (h : Op.bytesLess x y = true) : -1 = cmpL x y := by
  have h' : bl x y = true := h
  unfold cmpL; rw [h']; rfl
theorem cmp_gt {x y : List UInt8} (h : Op.bytesLess x y = false) (hn : ¬ x = y) : 1 = cmpL x y := by
  have h' : bl x y = false := h
  unfold cmpL; rw [h']
  cases k : bl y x with
  | true => rfl
  | false => exact absurd (bl_tri x y h' k) hn
theorem cmp_eq {x y : List UInt8} (h : x = y) : 0 = cmpL x y := by
  subst h; unfold cmpL; rw [bl_irrefl]; rfl
theorem cmpS_any (s t : ByteArray) (w : World) : Calls Try.prog 54 #[.string s, .string t] w fun e w' => e = .returned (.int .i64 (cmpL s.toList t.toList)) ∧ w = w' := by
  go_enter Try.func54, Try.ntmps54
  go_wp2_with (go_at_call 77; refine (nanS_any _ _).mono ?_; rintro e w' ⟨rfl, rfl⟩)
  all_goals
    go_ret
    refine ⟨ret_int ?_, rfl⟩
    first | (rename_i h; exact cmp_lt h) | (rename_i h1 _ _ h2; exact cmp_gt h1 (by simpa using h2)) | (rename_i h1 h2; exact cmp_eq (by simpa using h2))
theorem cmpI_any (a b : Int) (w : World) : Calls Try.prog 55 #[.int .i64 a, .int .i64 b] w fun e w' => e = .returned (.int .i64 (cmpI a b)) ∧ w = w' := by
  go_enter Try.func55, Try.ntmps55
  go_wp2_with (go_at_call 78; refine (nanI_any _ _).mono ?_; rintro e w' ⟨rfl, rfl⟩)
  all_goals
    go_ret
    refine ⟨ret_int ?_, rfl⟩
    have := cmpI_cases a b
    omega
/-- which of two tests comes first -/
def ordT (a b : Ts) : Int := if cmpL a.nm b.nm ≠ 0 then cmpL a.nm b.nm else if cmpI a.op b.op ≠ 0 then cmpI a.op b.op else a.v.ord b.v
set_option maxHeartbeats 1000000 in
theorem order06_any (a b : T) (w : World) : Calls Try.prog 24 #[.agg #[.string a.nm, .int .i64 a.op, .int .i64 a.k, .int .i64 a.n, .string a.s], .agg #[.string b.nm, .int .i64 b.op, .int .i64 b.k, .int .i64 b.n, .string b.s]] w fun e w' => e = .returned (.int .i64 (ordT a.ts b.ts)) ∧ Ext w w' := by
  have H := hid (show ordT a.ts b.ts = (if cmpL a.nm.toList b.nm.toList ≠ 0 then cmpL a.nm.toList b.nm.toList else if cmpI a.op b.op ≠ 0 then cmpI a.op b.op else vOrd a.k a.n a.s.toList b.k b.n b.s.toList) from rfl)
  go_enter Try.func24, Try.ntmps24
  go_wp2_with (first | (go_at_call 54; refine (cmpS_any _ _ _).mono ?_; rintro e w' ⟨rfl, rfl⟩) | (go_at_call 55; refine (cmpI_any _ _ _).mono ?_; rintro e w' ⟨rfl, rfl⟩) | (go_at_call 43; refine (order_any _ _ _ _ _ _ _).mono ?_; rintro e w2 ⟨rfl, hb⟩; have hx := hid hb; clear hb))
  all_goals
    go_ret
    refine ⟨ret_int ?_, (by (repeat (first | exact Ext.refl _ | refine Ext.alloc ?_ _ | refine Ext.drewN ?_ _ | refine Ext.drew ?_ | refine Ext.trans ?_ (Hid.out (by assumption)))))⟩
    rw [H.out]
    simp_all
/-! Plain laws -/
theorem cmpL_neg (x y : List UInt8) : cmpL y x = - cmpL x y := by
  rcases cmpL_cases x y with ⟨h, e⟩ | ⟨h, e⟩ | ⟨rfl, e⟩
  · rcases cmpL_cases y x with ⟨h', e'⟩ | ⟨h', e'⟩ | ⟨rfl, e'⟩
    · rw [bl_asymm x y h] at h'; cases h'
    · omega
    · rw [bl_irrefl] at h; cases h
  · rcases cmpL_cases y x with ⟨h', e'⟩ | ⟨h', e'⟩ | ⟨rfl, e'⟩
    · omega
    · rw [bl_asymm y x h] at h'; cases h'
    · rw [bl_irrefl] at h; cases h
  · rw [e]; rfl
theorem cmpL_zero (x y : List UInt8) : cmpL x y = 0 ↔ x = y := by
  rcases cmpL_cases x y with ⟨h, e⟩ | ⟨h, e⟩ | ⟨rfl, e⟩
  · rw [e]; constructor
    · intro h; omega
    · rintro rfl; rw [bl_irrefl] at h; cases h
  · rw [e]; constructor
    · intro h; omega
    · rintro rfl; rw [bl_irrefl] at h; cases h
  · simp [e]
theorem cmpL_trans (x y z : List UInt8) (h : cmpL x y = -1) (k : cmpL y z = -1) : cmpL x z = -1 := by
  have h1 : bl x y = true := by
    rcases cmpL_cases x y with ⟨h', e⟩ | ⟨h', e⟩ | ⟨rfl, e⟩
    · exact h'
    · omega
    · omega
  have h2 : bl y z = true := by
    rcases cmpL_cases y z with ⟨h', e⟩ | ⟨h', e⟩ | ⟨rfl, e⟩
    · exact h'
    · omega
    · omega
  unfold cmpL; rw [bl_trans x y z h1 h2]; rfl
theorem ordT_cases (a b : Ts) : (cmpL a.nm b.nm ≠ 0 ∧ ordT a b = cmpL a.nm b.nm) ∨ (a.nm = b.nm ∧ a.op ≠ b.op ∧ ordT a b = cmpI a.op b.op) ∨ (a.nm = b.nm ∧ a.op = b.op ∧ ordT a b = a.v.ord b.v) := by
  unfold ordT
  by_cases h : cmpL a.nm b.nm = 0
  · have hn := (cmpL_zero _ _).1 h
    rw [if_neg (by simp [h])]
    have := cmpI_cases a.op b.op
    by_cases k : cmpI a.op b.op = 0
    · rw [if_neg (by simp [k])]; exact .inr (.inr ⟨hn, by omega, rfl⟩)
    · rw [if_pos k]; exact .inr (.inl ⟨hn, by omega, rfl⟩)
  · rw [if_pos h]; exact .inl ⟨h, rfl⟩
theorem cmpI_neg (a b : Int) : cmpI b a = - cmpI a b := by have := cmpI_cases a b; have := cmpI_cases b a; omega
theorem ordT_neg (a b : Ts) : ordT b a = - ordT a b := by
  unfold ordT
  rw [cmpL_neg a.nm b.nm, cmpI_neg a.op b.op, ord_neg a.v b.v]
  by_cases h : cmpL a.nm b.nm = 0
  · by_cases k : cmpI a.op b.op = 0
    · simp [h, k]
    · simp [h, k]
  · simp [h]
theorem ordT_range (a b : Ts) : -1 ≤ ordT a b ∧ ordT a b ≤ 1 := by
  have h1 := cmpL_cases a.nm b.nm
  have h2 := cmpI_cases a.op b.op
  have h3 := ord_range a.v b.v
  rcases ordT_cases a b with ⟨_, e⟩ | ⟨_, _, e⟩ | ⟨_, _, e⟩ <;> omega
theorem ordT_zero (a b : Ts) : ordT a b = 0 ↔ a = b := by
  obtain ⟨n, o, v⟩ := a
  obtain ⟨n', o', v'⟩ := b
  have h2 := cmpI_cases o o'
  rcases ordT_cases ⟨n, o, v⟩ ⟨n', o', v'⟩ with ⟨h, e⟩ | ⟨h, k, e⟩ | ⟨h, k, e⟩
  · rw [e]; simp only at h
    constructor
    · intro z; exact absurd z h
    · intro z; injection z with z1 z2 z3; subst z1; exact absurd ((cmpL_zero _ _).2 rfl) h
  · have e' : ordT ⟨n, o, v⟩ ⟨n', o', v'⟩ = cmpI o o' := e
    rw [e']; simp only at h k
    constructor
    · intro z; omega
    · intro z; injection z with z1 z2 z3; exact absurd z2 k
  · rw [e, ord_zero]; simp only at h k; subst h; subst k; simp
theorem ordT_self (a : Ts) : ordT a a = 0 := (ordT_zero a a).2 rfl
theorem ordT_lt_trans (a b c : Ts) (h : ordT a b = -1) (k : ordT b c = -1) : ordT a c = -1 := by
  have i1 := cmpI_cases a.op b.op
  have i2 := cmpI_cases b.op c.op
  have i3 := cmpI_cases a.op c.op
  rcases ordT_cases a b with ⟨h1, e1⟩ | ⟨h1, h2, e1⟩ | ⟨h1, h2, e1⟩ <;> rcases ordT_cases b c with ⟨k1, f1⟩ | ⟨k1, k2, f1⟩ | ⟨k1, k2, f1⟩
  · have := cmpL_trans _ _ _ (e1.symm.trans h) (f1.symm.trans k)
    unfold ordT; rw [this]; rfl
  · have := e1.symm.trans h
    unfold ordT; rw [← k1, this]; rfl
  · have := e1.symm.trans h
    unfold ordT; rw [← k1, this]; rfl
  · have := f1.symm.trans k
    unfold ordT; rw [h1, this]; rfl
  · have z : cmpL a.nm c.nm = 0 := (cmpL_zero _ _).2 (h1.trans k1)
    have : cmpI a.op c.op = -1 := by omega
    unfold ordT; rw [z, this]; rfl
  · have z : cmpL a.nm c.nm = 0 := (cmpL_zero _ _).2 (h1.trans k1)
    have : cmpI a.op c.op = -1 := by omega
    unfold ordT; rw [z, this]; rfl
  · have := f1.symm.trans k
    unfold ordT; rw [h1, this]; rfl
  · have z : cmpL a.nm c.nm = 0 := (cmpL_zero _ _).2 (h1.trans k1)
    have : cmpI a.op c.op = -1 := by omega
    unfold ordT; rw [z, this]; rfl
  · have z : cmpL a.nm c.nm = 0 := (cmpL_zero _ _).2 (h1.trans k1)
    have z2 : cmpI a.op c.op = 0 := by omega
    have := ord_lt_trans _ _ _ (e1.symm.trans h) (f1.symm.trans k)
    unfold ordT; rw [z, z2, this]; rfl
theorem ordT_le_trans (a b c : Ts) (h : ordT a b ≤ 0) (k : ordT b c ≤ 0) : ordT a c ≤ 0 := by
  have r1 := ordT_range a b
  have r2 := ordT_range b c
  by_cases h0 : ordT a b = 0
  · rw [(ordT_zero a b).1 h0]; exact k
  · by_cases k0 : ordT b c = 0
    · rw [← (ordT_zero b c).1 k0]; exact h
    · rw [ordT_lt_trans a b c (by omega) (by omega)]; decide
end Go.Proofs.Ytclmbonippjhoaa
