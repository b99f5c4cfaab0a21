/- The walks of the functions on values that make one, or that compare two by the document's definition. -/
import Derived.Test.YtaednpicjpfamaaW1
import Derived.Deep.QuietTactic
import Derived.BigQuiet
namespace Go.Proofs.Ytaednpicjpfamaa
open Go.RowKit

theorem int_any (n : Int) (w : World) :
    Calls Try.prog 15 #[.int .i64 n] w fun e w' => e = .returned (.agg #[.int .i64 1, .int .i64 n, .string ⟨#[]⟩]) ∧ Ext w w' := by
  go_enter Try.func15, Try.ntmps15
  go_wp2
  exact bodyPost_ret (v := .agg #[.int .i64 1, .int .i64 n, .string ⟨#[]⟩]) (by simp [results, Try.results15, go_sem]) rfl ⟨rfl, (Ext.refl _).alloc _⟩

theorem text_any (s : ByteArray) (w : World) :
    Calls Try.prog 16 #[.string s] w fun e w' => e = .returned (.agg #[.int .i64 2, .int .i64 0, .string s]) ∧ Ext w w' := by
  go_enter Try.func16, Try.ntmps16
  go_wp2
  exact bodyPost_ret (v := .agg #[.int .i64 2, .int .i64 0, .string s]) (by simp [results, Try.results16, go_sem]) rfl ⟨rfl, (Ext.refl _).alloc _⟩

theorem bool_any (b : Bool) (w : World) :
    Calls Try.prog 17 #[.bool b] w fun e w' => e = .returned (.agg #[.int .i64 3, .int .i64 (if b then 1 else 0), .string ⟨#[]⟩]) ∧ Ext w w' := by
  cases b
  · go_enter Try.func17, Try.ntmps17
    go_wp2
    exact bodyPost_ret (v := .agg #[.int .i64 3, .int .i64 0, .string ⟨#[]⟩]) (by simp [results, Try.results17, go_sem]) rfl ⟨rfl, ((Ext.refl _).alloc _).alloc _⟩
  · go_enter Try.func17, Try.ntmps17
    go_wp2
    exact bodyPost_ret (v := .agg #[.int .i64 3, .int .i64 1, .string ⟨#[]⟩]) (by simp [results, Try.results17, go_sem]) rfl ⟨rfl, ((Ext.refl _).alloc _).alloc _⟩

theorem less_any (k n : Int) (s : ByteArray) (k' n' : Int) (s' : ByteArray) (w : World) :
    Calls Try.prog 21 #[.agg #[.int .i64 k, .int .i64 n, .string s], .agg #[.int .i64 k', .int .i64 n', .string s']] w fun e w' =>
      e = .returned (.bool (vLess k n s.toList k' n' s'.toList)) ∧ Ext w w' := by
  go_enter Try.func21, Try.ntmps21
  go_wp2
  all_goals (go_ret; refine ⟨ret_bool ?_, ((Ext.refl _).alloc _).alloc _⟩; unfold vLess bl; simp_all)

theorem ext_pre (s t : ByteArray) : ((s.extract 0 t.size).toList == t.toList) = t.toList.isPrefixOf s.toList := by
  rw [← pre_take, len_toList, Lib.extract_toList, Lib.toList_data, Lib.toList_data]
  simp

theorem pre_any (s t : ByteArray) (w : World) :
    Calls Try.prog 23 #[.string s, .string t] w fun e w' => e = .returned (.bool (t.toList.isPrefixOf s.toList)) ∧ w = w' := by
  by_cases h : t.size ≤ s.size
  · have H := hid (ext_pre s t)
    go_enter Try.func23, Try.ntmps23
    go_wp2
    go_ret
    exact ⟨ret_bool H.out, rfl⟩
  · have H := hid (pre_short s.toList t.toList (by rw [len_toList, len_toList]; exact h))
    go_enter Try.func23, Try.ntmps23
    go_wp2
    go_ret
    exact ⟨ret_bool H.out, rfl⟩

theorem pre_any' (s t : ByteArray) (w : World) :
    Calls Try.prog 22 #[.string s, .string t] w fun e w' => e = .returned (.bool (t.toList.isPrefixOf s.toList)) ∧ w = w' := by
  go_enter Try.func22, Try.ntmps22
  go_wp2_with (go_at_call 23; refine (pre_any _ _ _).mono ?_; rintro e w' ⟨rfl, rfl⟩)
  go_ret
  exact ⟨rfl, rfl⟩

theorem beg_any (k n : Int) (s : ByteArray) (k' n' : Int) (s' : ByteArray) (w : World) :
    Calls Try.prog 13 #[.agg #[.int .i64 k, .int .i64 n, .string s], .agg #[.int .i64 k', .int .i64 n', .string s']] w fun e w' =>
      e = .returned (.bool (vBeg k s.toList k' s'.toList)) ∧ Ext w w' := by
  go_enter Try.func13, Try.ntmps13
  go_wp2_with (go_at_call 22; refine (pre_any' _ _ _).mono ?_; rintro e w' ⟨rfl, rfl⟩)
  all_goals (go_ret; refine ⟨ret_bool ?_, ((Ext.refl _).alloc _).alloc _⟩)
  · subst_vars; exact vBeg_pre
  · exact vBeg_k' ‹_›
  · exact vBeg_k ‹_›

theorem rbeg_any (k n : Int) (s : ByteArray) (k' n' : Int) (s' : ByteArray) (w : World) :
    Calls Try.prog 14 #[.agg #[.int .i64 k, .int .i64 n, .string s], .agg #[.int .i64 k', .int .i64 n', .string s']] w fun e w' =>
      e = .returned (.bool (vBeg k s.toList k' s'.toList)) ∧ Ext w w' := by
  have B : Ext w ((w.alloc (Obj.cells #[Value.int IntKind.i64 k, Value.int IntKind.i64 n, Value.string s] 24)).alloc
      (Obj.cells #[Value.int IntKind.i64 k', Value.int IntKind.i64 n', Value.string s'] 24)) := ((Ext.refl _).alloc _).alloc _
  by_cases hk : k = 2
  · subst hk
    by_cases hk' : k' = 2
    · subst hk'
      by_cases h : s'.size ≤ s.size
      · have H := hid (ext_pre s s')
        go_enter Try.func14, Try.ntmps14
        go_wp2
        go_quiet (fail)
        go_wp2
        go_ret
        exact ⟨ret_bool (H.out.trans vBeg_pre), B.drewN _⟩
      · have H := hid (vBeg_len (k := 2) (k' := 2) (s := s.toList) (s' := s'.toList) (by rw [len_toList, len_toList]; exact h))
        have hd : decide ((s'.size : Int) ≤ (s.size : Int)) = false := by simpa using h
        go_enter Try.func14, Try.ntmps14
        go_wp2
        go_quiet (fail)
        go_wp2
        go_ret
        exact ⟨ret_bool H.out, B.drewN _⟩
    · have hd : (k' == 2) = false := by simpa using hk'
      go_enter Try.func14, Try.ntmps14
      go_wp2
      go_quiet (fail)
      go_wp2
      go_ret
      exact ⟨ret_bool (vBeg_k' hk'), B.drewN _⟩
  · have hd : (k == 2) = false := by simpa using hk
    go_enter Try.func14, Try.ntmps14
    go_wp2
    go_quiet (fail)
    go_wp2
    go_ret
    exact ⟨ret_bool (vBeg_k hk), B.drewN _⟩

theorem rorder_any (k n : Int) (s : ByteArray) (k' n' : Int) (s' : ByteArray) (w : World) :
    Calls Try.prog 12 #[.agg #[.int .i64 k, .int .i64 n, .string s], .agg #[.int .i64 k', .int .i64 n', .string s']] w fun e w' =>
      e = .returned (.int .i64 (vOrd k n s.toList k' n' s'.toList)) ∧ Ext w w' := by
  have H := hid (vOrd_less k n s.toList k' n' s'.toList)
  go_enter Try.func12, Try.ntmps12
  go_wp2_with (go_at_call 21; refine (less_any _ _ _ _ _ _ _).mono ?_; rintro e w' ⟨rfl, hb⟩; have hc := hb.cell; have hz := hb.size; have hx := hid hb; clear hb)
  all_goals
    go_ret
    refine ⟨ret_int ?_, ?_⟩
    · rw [H.out]; simp only [*]; rfl
    · (repeat (first | exact Ext.refl _ | refine Ext.alloc ?_ _ | refine Ext.drewN ?_ _ | refine Ext.trans ?_ (Hid.out (by assumption))))
theorem awake_any (w : World) :
    Calls Try.prog 8 #[] w fun e w' => e = .returned (.bool true) ∧ Ext w w' := by
  have c1 : vOrd 1 2 [] 1 10 [] = -1 := by kernel_rfl
  have c2 : vOrd 2 0 [98] 2 0 [97] = 1 := by kernel_rfl
  have c3 : vBeg 2 [97, 98, 99] 2 [97, 98] = true := by kernel_rfl
  have c4 : vBeg 1 [] 1 [] = false := by kernel_rfl
  have c5 : vChk 3 1 [] = 0 := by kernel_rfl
  have c6 : vChk 4 0 [] = 10 := by kernel_rfl
  have hfd : ∀ (a b : Int) (s : ByteArray) (w : World), (Instr.field 24 (.agg #[.int .i64 a, .int .i64 b, .string s]) 1).run Try.prog w = .ok (.int .i64 b) w := fun _ _ _ _ => by kernel_rfl
  go_enter Try.func8, Try.ntmps8
  go_wp2_with (first | (go_at_call 11; refine (order_any _ _ _ _ _ _ _).mono ?_; rintro e w' ⟨rfl, hb⟩; have hc := hb.cell; have hz := hb.size; have hx := hid hb; clear hb) | (go_at_call 13; refine (beg_any _ _ _ _ _ _ _).mono ?_; rintro e w' ⟨rfl, hb⟩; have hc := hb.cell; have hz := hb.size; have hx := hid hb; clear hb) | (go_at_call 9; refine (check_any _ _ _ _).mono ?_; rintro e w' ⟨rfl, hb⟩; have hc := hb.cell; have hz := hb.size; have hx := hid hb; clear hb) | (go_at_call 15; refine (int_any _ _).mono ?_; rintro e w' ⟨rfl, hb⟩; have hc := hb.cell; have hz := hb.size; have hx := hid hb; clear hb) | (go_at_call 16; refine (text_any _ _).mono ?_; rintro e w' ⟨rfl, hb⟩; have hc := hb.cell; have hz := hb.size; have hx := hid hb; clear hb) | (go_at_call 17; refine (bool_any true _).mono ?_; rintro e w' ⟨rfl, hb⟩; have hc := hb.cell; have hz := hb.size; have hx := hid hb; clear hb))
  go_ret
  refine ⟨rfl, ?_⟩
  (repeat (first | exact Ext.refl _ | refine Ext.alloc ?_ _ | refine Ext.drewN ?_ _ | refine Ext.trans ?_ (Hid.out (by assumption))))
end Go.Proofs.Ytaednpicjpfamaa
