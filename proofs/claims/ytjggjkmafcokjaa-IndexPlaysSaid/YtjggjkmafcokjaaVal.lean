/- The walks of the functions on values, by the program and by the document. -/
import Derived.Test.YtjggjkmafcokjaaProg
import Derived.Test.YtjggjkmafcokjaaVPlain
import Derived.Test.YtjggjkmafcokjaaBase
set_option linter.unusedVariables false
set_option linter.unusedSimpArgs false
namespace Go.Proofs.Ytjggjkmafcokjaa
open Go.RowKit

theorem place_int (a b : Int) (w : World) :
    Calls Try.prog 64 #[.int .i64 a, .int .i64 b] w fun e w' => e = .returned (.int .i64 (cmpI a b)) ∧ w = w' := by
  go_enter Try.func64, Try.ntmps64
  go_wp2
  all_goals (go_ret; refine ⟨ret_int ?_, rfl⟩; unfold cmpI; (repeat' split) <;> omega)

theorem place_int64 (a b : Int) (w : World) :
    Calls Try.prog 65 #[.int .i64 a, .int .i64 b] w fun e w' => e = .returned (.int .i64 (cmpI a b)) ∧ w = w' := by
  go_enter Try.func65, Try.ntmps65
  go_wp2
  all_goals (go_ret; refine ⟨ret_int ?_, rfl⟩; unfold cmpI; (repeat' split) <;> omega)

theorem place_string (a b : ByteArray) (w : World) :
    Calls Try.prog 66 #[.string a, .string b] w fun e w' => e = .returned (.int .i64 (cmpL a.toList b.toList)) ∧ w = w' := by
  have h1 := bl_asymm a.toList b.toList
  have h2 := bl_tri a.toList b.toList
  have h3 := bl_irrefl b.toList
  unfold bl at h1 h2 h3
  have H1 : Hid _ := h1
  have H2 : Hid _ := h2
  have H3 : Hid _ := h3
  clear h1 h2 h3
  go_enter Try.func66, Try.ntmps66
  go_wp2
  all_goals
    go_ret
    refine ⟨ret_int ?_, rfl⟩
    unfold cmpL bl
    replace H1 := H1.out
    replace H2 := H2.out
    replace H3 := H3.out
    simp_all

theorem check_any (k n : Int) (s : ByteArray) (w : World) :
    Calls Try.prog 44 #[.agg #[.int .i64 k, .int .i64 n, .string s]] w fun e w' => e = .returned (.int .i64 (vChk k n s.toList)) ∧ Ext w w' := by
  go_enter Try.func44, Try.ntmps44
  go_wp2
  all_goals (go_ret; refine ⟨ret_int ?_, (Ext.refl _).alloc _⟩; unfold vChk; rw [len_toList]; simp_all <;> omega)

theorem order_any (k n : Int) (s : ByteArray) (k' n' : Int) (s' : ByteArray) (w : World) :
    Calls Try.prog 48 #[.agg #[.int .i64 k, .int .i64 n, .string s], .agg #[.int .i64 k', .int .i64 n', .string s']] w fun e w' =>
      e = .returned (.int .i64 (vOrd k n s.toList k' n' s'.toList)) ∧ Ext w w' := by
  go_enter Try.func48, Try.ntmps48
  go_wp2_with fail
  go_step3
  go_wp2_with fail
  go_step3
  go_wp2_with fail
  go_loopg [5, 6, 7] 3 (fun g at_ st i wr => ∃ j : Nat, g + j = 3 ∧ i = .int .i64 j ∧ at_ = .int .i64 0 ∧ (1 ≤ j → cmpI k k' = 0) ∧ (2 ≤ j → cmpI n n' = 0) ∧ (3 ≤ j → cmpL s.toList s'.toList = 0) ∧ wr = (w.alloc (Obj.cells #[Value.int IntKind.i64 k, Value.int IntKind.i64 n, Value.string s] 52)).alloc
  (Obj.cells #[Value.int IntKind.i64 k', Value.int IntKind.i64 n', Value.string s'] 52))
  case atStart => exact ⟨0, rfl, rfl, rfl, by omega, by omega, by omega, rfl⟩
  case round =>
    obtain ⟨j, hg, rfl, rfl, h1, h2, h3, rfl⟩ := hrel
    have H := hid (And.intro h1 (And.intro h2 h3))
    clear h1 h2 h3
    have hj : j = 0 ∨ j = 1 ∨ j = 2 ∨ j = 3 := by omega
    have B : Ext w ((w.alloc (Obj.cells #[Value.int IntKind.i64 k, Value.int IntKind.i64 n, Value.string s] 52)).alloc
      (Obj.cells #[Value.int IntKind.i64 k', Value.int IntKind.i64 n', Value.string s'] 52)) := ((Ext.refl _).alloc _).alloc _
    rcases hj with rfl | rfl | rfl | rfl
    · go_wp2_with (first | (go_at_call 64; refine (place_int _ _ _).mono ?_; rintro e w' ⟨rfl, rfl⟩) | (go_at_call 65; refine (place_int64 _ _ _).mono ?_; rintro e w' ⟨rfl, rfl⟩) | (go_at_call 66; refine (place_string _ _ _).mono ?_; rintro e w' ⟨rfl, rfl⟩))
      · rw [Exit.noGoto_ret]
        go_wp2
        go_ret
        exact ⟨ret_int (vOrd_k ‹_›), B⟩
      · have e : cmpI k k' = 0 := of_bne ‹_›
        go_roundg 2
        case measure => omega
        case rel => exact ⟨1, by omega, by go_num, by rw [e], fun _ => e, by omega, by omega, rfl⟩
    · go_wp2_with (first | (go_at_call 64; refine (place_int _ _ _).mono ?_; rintro e w' ⟨rfl, rfl⟩) | (go_at_call 65; refine (place_int64 _ _ _).mono ?_; rintro e w' ⟨rfl, rfl⟩) | (go_at_call 66; refine (place_string _ _ _).mono ?_; rintro e w' ⟨rfl, rfl⟩))
      · rw [Exit.noGoto_ret]
        go_wp2
        go_ret
        exact ⟨ret_int (vOrd_n (H.out.1 (by omega)) ‹_›), B⟩
      · have e : cmpI n n' = 0 := of_bne ‹_›
        go_roundg 1
        case measure => omega
        case rel => exact ⟨2, by omega, by go_num, by rw [e], fun _ => H.out.1 (by omega), fun _ => e, by omega, rfl⟩
    · go_wp2_with (first | (go_at_call 64; refine (place_int _ _ _).mono ?_; rintro e w' ⟨rfl, rfl⟩) | (go_at_call 65; refine (place_int64 _ _ _).mono ?_; rintro e w' ⟨rfl, rfl⟩) | (go_at_call 66; refine (place_string _ _ _).mono ?_; rintro e w' ⟨rfl, rfl⟩))
      · rw [Exit.noGoto_ret]
        go_wp2
        go_ret
        exact ⟨ret_int (vOrd_s (H.out.1 (by omega)) (H.out.2.1 (by omega))), B⟩
      · have e : cmpL s.toList s'.toList = 0 := of_bne ‹_›
        go_roundg 0
        case measure => omega
        case rel => exact ⟨3, by omega, by go_num, by rw [e], fun _ => H.out.1 (by omega), fun _ => H.out.2.1 (by omega), fun _ => e, rfl⟩
    · go_wp2_with (first | (go_at_call 64; refine (place_int _ _ _).mono ?_; rintro e w' ⟨rfl, rfl⟩) | (go_at_call 65; refine (place_int64 _ _ _).mono ?_; rintro e w' ⟨rfl, rfl⟩) | (go_at_call 66; refine (place_string _ _ _).mono ?_; rintro e w' ⟨rfl, rfl⟩))
      rw [Exit.noGoto_ret]
      go_wp2
      go_ret
      exact ⟨ret_int (by rw [← vOrd_s (H.out.1 (by omega)) (H.out.2.1 (by omega)), H.out.2.2 (by omega)]), B⟩
theorem int_any (n : Int) (w : World) :
    Calls Try.prog 27 #[.int .i64 n] w fun e w' => e = .returned (.agg #[.int .i64 1, .int .i64 n, .string ⟨#[]⟩]) ∧ Ext w w' := by
  go_enter Try.func27, Try.ntmps27
  go_wp2
  exact bodyPost_ret (v := .agg #[.int .i64 1, .int .i64 n, .string ⟨#[]⟩]) (by simp [results, Try.results27, go_sem]) rfl ⟨rfl, (Ext.refl _).alloc _⟩

theorem less_any (k n : Int) (s : ByteArray) (k' n' : Int) (s' : ByteArray) (w : World) :
    Calls Try.prog 88 #[.agg #[.int .i64 k, .int .i64 n, .string s], .agg #[.int .i64 k', .int .i64 n', .string s']] w fun e w' =>
      e = .returned (.bool (vLess k n s.toList k' n' s'.toList)) ∧ Ext w w' := by
  go_enter Try.func88, Try.ntmps88
  go_wp2
  all_goals (go_ret; refine ⟨ret_bool ?_, ((Ext.refl _).alloc _).alloc _⟩; unfold vLess bl; simp_all)

theorem ext_pre (s t : ByteArray) : ((s.extract 0 t.size).toList == t.toList) = t.toList.isPrefixOf s.toList := by
  rw [← pre_take, len_toList, Lib.extract_toList, Lib.toList_data, Lib.toList_data]
  simp

theorem pre_any (s t : ByteArray) (w : World) :
    Calls Try.prog 81 #[.string s, .string t] w fun e w' => e = .returned (.bool (t.toList.isPrefixOf s.toList)) ∧ w = w' := by
  by_cases h : t.size ≤ s.size
  · have H := hid (ext_pre s t)
    go_enter Try.func81, Try.ntmps81
    go_wp2
    go_ret
    exact ⟨ret_bool H.out, rfl⟩
  · have H := hid (pre_short s.toList t.toList (by rw [len_toList, len_toList]; exact h))
    go_enter Try.func81, Try.ntmps81
    go_wp2
    go_ret
    exact ⟨ret_bool H.out, rfl⟩

theorem pre_any' (s t : ByteArray) (w : World) :
    Calls Try.prog 67 #[.string s, .string t] w fun e w' => e = .returned (.bool (t.toList.isPrefixOf s.toList)) ∧ w = w' := by
  go_enter Try.func67, Try.ntmps67
  go_wp2_with (go_at_call 81; refine (pre_any _ _ _).mono ?_; rintro e w' ⟨rfl, rfl⟩)
  go_ret
  exact ⟨rfl, rfl⟩

theorem beg_any (k n : Int) (s : ByteArray) (k' n' : Int) (s' : ByteArray) (w : World) :
    Calls Try.prog 56 #[.agg #[.int .i64 k, .int .i64 n, .string s], .agg #[.int .i64 k', .int .i64 n', .string s']] w fun e w' =>
      e = .returned (.bool (vBeg k s.toList k' s'.toList)) ∧ Ext w w' := by
  go_enter Try.func56, Try.ntmps56
  go_wp2_with (go_at_call 67; refine (pre_any' _ _ _).mono ?_; rintro e w' ⟨rfl, rfl⟩)
  all_goals (go_ret; refine ⟨ret_bool ?_, ((Ext.refl _).alloc _).alloc _⟩)
  · subst_vars; exact vBeg_pre
  · exact vBeg_k' ‹_›
  · exact vBeg_k ‹_›

theorem rbeg_any (k n : Int) (s : ByteArray) (k' n' : Int) (s' : ByteArray) (w : World) :
    Calls Try.prog 80 #[.agg #[.int .i64 k, .int .i64 n, .string s], .agg #[.int .i64 k', .int .i64 n', .string s']] w fun e w' =>
      e = .returned (.bool (vBeg k s.toList k' s'.toList)) ∧ Ext w w' := by
  have B : Ext w ((w.alloc (Obj.cells #[Value.int IntKind.i64 k, Value.int IntKind.i64 n, Value.string s] 52)).alloc
      (Obj.cells #[Value.int IntKind.i64 k', Value.int IntKind.i64 n', Value.string s'] 52)) := ((Ext.refl _).alloc _).alloc _
  by_cases hk : k = 2
  · subst hk
    by_cases hk' : k' = 2
    · subst hk'
      by_cases h : s'.size ≤ s.size
      · have H := hid (ext_pre s s')
        go_enter Try.func80, Try.ntmps80
        go_wp2
        go_quiet (fail)
        go_wp2
        go_ret
        exact ⟨ret_bool (H.out.trans vBeg_pre), B.drewN _⟩
      · have H := hid (vBeg_len (k := 2) (k' := 2) (s := s.toList) (s' := s'.toList) (by rw [len_toList, len_toList]; exact h))
        have hd : decide ((s'.size : Int) ≤ (s.size : Int)) = false := by simpa using h
        go_enter Try.func80, Try.ntmps80
        go_wp2
        go_quiet (fail)
        go_wp2
        go_ret
        exact ⟨ret_bool H.out, B.drewN _⟩
    · have hd : (k' == 2) = false := by simpa using hk'
      go_enter Try.func80, Try.ntmps80
      go_wp2
      go_quiet (fail)
      go_wp2
      go_ret
      exact ⟨ret_bool (vBeg_k' hk'), B.drewN _⟩
  · have hd : (k == 2) = false := by simpa using hk
    go_enter Try.func80, Try.ntmps80
    go_wp2
    go_quiet (fail)
    go_wp2
    go_ret
    exact ⟨ret_bool (vBeg_k hk), B.drewN _⟩

theorem rorder_any (k n : Int) (s : ByteArray) (k' n' : Int) (s' : ByteArray) (w : World) :
    Calls Try.prog 79 #[.agg #[.int .i64 k, .int .i64 n, .string s], .agg #[.int .i64 k', .int .i64 n', .string s']] w fun e w' =>
      e = .returned (.int .i64 (vOrd k n s.toList k' n' s'.toList)) ∧ Ext w w' := by
  have H := hid (vOrd_less k n s.toList k' n' s'.toList)
  go_enter Try.func79, Try.ntmps79
  go_wp2_with (go_at_call 88; refine (less_any _ _ _ _ _ _ _).mono ?_; rintro e w' ⟨rfl, hb⟩; have hc := hb.cell; have hz := hb.size; have hx := hid hb; clear hb)
  all_goals
    go_ret
    refine ⟨ret_int ?_, ?_⟩
    · rw [H.out]; simp only [*]; rfl
    · (repeat (first | exact Ext.refl _ | refine Ext.alloc ?_ _ | refine Ext.drewN ?_ _ | refine Ext.trans ?_ (Hid.out (by assumption))))
end Go.Proofs.Ytjggjkmafcokjaa
