/- The program's sort of tests: the walks of slices.SortStableFunc and what it calls, by the kit's insertion sort at structs. -/
import Derived.Test.YtclmbonippjhoaaSortP
set_option linter.unusedVariables false
set_option linter.unusedSimpArgs false
namespace Go.Proofs.Ytclmbonippjhoaa
open Go.RowKit Go.Sort

theorem order_gr (k n : Int) (s : ByteArray) (k' n' : Int) (s' : ByteArray) (w : World) :
    Calls Try.prog 43 #[.agg #[.int .i64 k, .int .i64 n, .string s], .agg #[.int .i64 k', .int .i64 n', .string s']] w fun e w' =>
      e = .returned (.int .i64 (vOrd k n s.toList k' n' s'.toList)) ∧ Gr w w' := by
  go_enter Try.func43, Try.ntmps43
  go_wp2_with fail
  go_step3
  go_wp2_with fail
  go_step3
  go_wp2_with fail
  go_loopg [5, 6, 7] 3 (fun g at_ st i wr => ∃ j : Nat, g + j = 3 ∧ i = .int .i64 j ∧ at_ = .int .i64 0 ∧ (1 ≤ j → cmpI k k' = 0) ∧ (2 ≤ j → cmpI n n' = 0) ∧ (3 ≤ j → cmpL s.toList s'.toList = 0) ∧ wr = (w.alloc (Obj.cells #[Value.int IntKind.i64 k, Value.int IntKind.i64 n, Value.string s] 23)).alloc
  (Obj.cells #[Value.int IntKind.i64 k', Value.int IntKind.i64 n', Value.string s'] 23))
  case atStart => exact ⟨0, rfl, rfl, rfl, by omega, by omega, by omega, rfl⟩
  case round =>
    obtain ⟨j, hg, rfl, rfl, h1, h2, h3, rfl⟩ := hrel
    have H := hid (And.intro h1 (And.intro h2 h3))
    clear h1 h2 h3
    have hj : j = 0 ∨ j = 1 ∨ j = 2 ∨ j = 3 := by omega
    have B : Gr w ((w.alloc (Obj.cells #[Value.int IntKind.i64 k, Value.int IntKind.i64 n, Value.string s] 23)).alloc
      (Obj.cells #[Value.int IntKind.i64 k', Value.int IntKind.i64 n', Value.string s'] 23)) := ((Gr.refl _).alloc _).alloc _
    rcases hj with rfl | rfl | rfl | rfl
    · go_wp2_with (first | (go_at_call 72; refine (place_int _ _ _).mono ?_; rintro e w' ⟨rfl, rfl⟩) | (go_at_call 73; refine (place_int64 _ _ _).mono ?_; rintro e w' ⟨rfl, rfl⟩) | (go_at_call 74; refine (place_string _ _ _).mono ?_; rintro e w' ⟨rfl, rfl⟩))
      · rw [Exit.noGoto_ret]
        go_wp2
        go_ret
        exact ⟨ret_int (vOrd_k ‹_›), B⟩
      · have e : cmpI k k' = 0 := of_bne ‹_›
        go_roundg 2
        case measure => omega
        case rel => exact ⟨1, by omega, by go_num, by rw [e], fun _ => e, by omega, by omega, rfl⟩
    · go_wp2_with (first | (go_at_call 72; refine (place_int _ _ _).mono ?_; rintro e w' ⟨rfl, rfl⟩) | (go_at_call 73; refine (place_int64 _ _ _).mono ?_; rintro e w' ⟨rfl, rfl⟩) | (go_at_call 74; refine (place_string _ _ _).mono ?_; rintro e w' ⟨rfl, rfl⟩))
      · rw [Exit.noGoto_ret]
        go_wp2
        go_ret
        exact ⟨ret_int (vOrd_n (H.out.1 (by omega)) ‹_›), B⟩
      · have e : cmpI n n' = 0 := of_bne ‹_›
        go_roundg 1
        case measure => omega
        case rel => exact ⟨2, by omega, by go_num, by rw [e], fun _ => H.out.1 (by omega), fun _ => e, by omega, rfl⟩
    · go_wp2_with (first | (go_at_call 72; refine (place_int _ _ _).mono ?_; rintro e w' ⟨rfl, rfl⟩) | (go_at_call 73; refine (place_int64 _ _ _).mono ?_; rintro e w' ⟨rfl, rfl⟩) | (go_at_call 74; refine (place_string _ _ _).mono ?_; rintro e w' ⟨rfl, rfl⟩))
      · rw [Exit.noGoto_ret]
        go_wp2
        go_ret
        exact ⟨ret_int (vOrd_s (H.out.1 (by omega)) (H.out.2.1 (by omega))), B⟩
      · have e : cmpL s.toList s'.toList = 0 := of_bne ‹_›
        go_roundg 0
        case measure => omega
        case rel => exact ⟨3, by omega, by go_num, by rw [e], fun _ => H.out.1 (by omega), fun _ => H.out.2.1 (by omega), fun _ => e, rfl⟩
    · go_wp2_with (first | (go_at_call 72; refine (place_int _ _ _).mono ?_; rintro e w' ⟨rfl, rfl⟩) | (go_at_call 73; refine (place_int64 _ _ _).mono ?_; rintro e w' ⟨rfl, rfl⟩) | (go_at_call 74; refine (place_string _ _ _).mono ?_; rintro e w' ⟨rfl, rfl⟩))
      rw [Exit.noGoto_ret]
      go_wp2
      go_ret
      exact ⟨ret_int (by rw [← vOrd_s (H.out.1 (by omega)) (H.out.2.1 (by omega)), H.out.2.2 (by omega)]), B⟩
set_option maxHeartbeats 1000000 in
theorem order06_gr (a b : T) (w : World) : Calls Try.prog 24 #[.agg #[.string a.nm, .int .i64 a.op, .int .i64 a.k, .int .i64 a.n, .string a.s], .agg #[.string b.nm, .int .i64 b.op, .int .i64 b.k, .int .i64 b.n, .string b.s]] w fun e w' => e = .returned (.int .i64 (ordT a.ts b.ts)) ∧ Gr w w' := by
  have H := hid (show ordT a.ts b.ts = (if cmpL a.nm.toList b.nm.toList ≠ 0 then cmpL a.nm.toList b.nm.toList else if cmpI a.op b.op ≠ 0 then cmpI a.op b.op else vOrd a.k a.n a.s.toList b.k b.n b.s.toList) from rfl)
  go_enter Try.func24, Try.ntmps24
  go_wp2_with (first | (go_at_call 54; refine (cmpS_any _ _ _).mono ?_; rintro e w' ⟨rfl, rfl⟩) | (go_at_call 55; refine (cmpI_any _ _ _).mono ?_; rintro e w' ⟨rfl, rfl⟩) | (go_at_call 43; refine (order_gr _ _ _ _ _ _ _).mono ?_; rintro e w2 ⟨rfl, hb⟩; have hx := hid hb; clear hb))
  all_goals
    go_ret
    refine ⟨ret_int ?_, (by (repeat (first | exact Gr.refl _ | refine Gr.alloc ?_ _ | refine Gr.trans ?_ (Hid.out (by assumption)))))⟩
    rw [H.out]
    simp_all
def ren06 : Shelf.Ren := ⟨fun k => if k = 20 then 88 else 0, fun x => if x = 0 then 0 else if x = 3 then 3 else if x = 4 then 4 else if x = 22 then 28 else if x = 24 then 25 else if x = 25 then 39 else 0, fun x => x⟩
theorem lays20 : SlLaysF0.n20 Try.prog ren06 where
  mixed := by kernel_rfl
  f20 := ⟨Try.f88.name, by kernel_rfl, by kernel_rfl⟩
  t0 := by kernel_rfl
  a0 := fun _ => by kernel_rfl
  z0 := fun _ => by kernel_rfl
  v0 := fun _ => by kernel_rfl
  t3 := by kernel_rfl
  a3 := fun _ => by kernel_rfl
  z3 := fun _ => by kernel_rfl
  v3 := fun _ => by kernel_rfl
  t4 := by kernel_rfl
  a4 := fun _ => by kernel_rfl
  z4 := fun _ => by kernel_rfl
  v4 := fun _ => by kernel_rfl
  t22 := by kernel_rfl
  a22 := fun _ => by kernel_rfl
  z22 := fun _ => by kernel_rfl
  v22 := fun _ => by kernel_rfl
  t25 := by kernel_rfl
  a25 := fun _ => by kernel_rfl
  z25 := fun _ => by kernel_rfl
  v25 := fun _ => by kernel_rfl
theorem cmp_lays (blk off size : Nat) (w : World) : CmpLays Try.prog 24 #[] T.cs 5 (fun a b : T => ordT a.ts b.ts) blk off size w := by
  intro m os dk _ x y
  exact (order06_gr x y _).mono fun e w' ⟨he, q, os', hw⟩ => ⟨he, q, os', hw⟩
/-- A row of one's own, sorted. -/
def RetSort (base : Nat) (aa : Option Addr) (n cap : Nat) (xs : List T) (w : World) (e : Ending) (w' : World) : Prop :=
  e = .returned (.tuple #[]) ∧ Own w' base 25 5 T.cs aa n cap (sortT xs) ∧ ∀ W, Ext W w → W.heap.size ≤ base → Ext W w'
theorem ins_any (aa : Option Addr) (n cap base : Nat) (xs : List T) (w : World) (hO : Own w base 25 5 T.cs aa n cap xs) (hn : n ≤ 1000) :
    Calls Try.prog 88 #[.slice aa n cap, .int .i64 0, .int .i64 n, .func (.func 24) #[] #[]] w (RetSort base aa n cap xs w) := by
  obtain rfl := hO.neq
  by_cases h0 : 0 < xs.length
  · obtain ⟨g, cur, rfl, hbs, hg, hcs, hle, hmx, htk⟩ := own_head hO h0
    have h := AnyQ.insertionSortCmpFunc (P := Try.prog) (ρ := ren06) lays20 5 (fun _ => by kernel_rfl) (fun _ => by kernel_rfl) T.cs T.wid T.one (fun a b : T => ordT a.ts b.ts) 24 #[] g 0 cap 0 xs.length xs.toArray w
      (fun _ _ => by kernel_rfl) (cmp_lays _ _ _ _) (own_holds hg htk rfl) (lt_of_block hg) (Nat.zero_le _) (by simp) (by simp; omega)
    have h' : Calls Try.prog 88 #[.slice (some ⟨g, 0, none⟩) xs.length cap, .int .i64 0, .int .i64 xs.length, .func (.func 24) #[] #[]] w fun e w' => e = .returned (.tuple #[]) ∧ ∃ n os, w' = sortWorldK T.cs 5 w g 0 n (Sort.insertionSort ltT xs.toArray 0 xs.length) os := by
      simp only [List.size_toArray] at h
      exact h
    refine h'.mono ?_
    rintro e w' ⟨rfl, m, os, rfl⟩
    have e1 : Sort.insertionSort ltT xs.toArray 0 xs.length = (sortT xs).toArray := by rw [← sort_ins, Array.toArray_toList]
    rw [e1]
    exact ⟨rfl, own_sorted hbs hg hcs hle hmx (sort_len xs).symm, fun W hW hB => ext_sorted hW (Nat.le_trans hB hbs)⟩
  · have hx0 : xs = [] := List.eq_nil_of_length_eq_zero (by omega)
    subst hx0
    have HO := hid hO
    clear hO
    go_enter Try.func88, Try.ntmps88
    go_wp2_with fail
    refine wp_loop_rounds 1 ?_
    rw [rounds_succ]
    go_wp2
    go_end0
    exact ⟨rfl, by rw [show sortT [] = [] from List.mergeSort_nil]; exact HO.out, fun W hW _ => hW⟩
theorem stable_any (aa : Option Addr) (n cap base : Nat) (xs : List T) (w : World) (hO : Own w base 25 5 T.cs aa n cap xs) (hn : n ≤ 10) :
    Calls Try.prog 76 #[.slice aa n cap, .int .i64 n, .func (.func 24) #[] #[]] w (RetSort base aa n cap xs w) := by
  have HO := hid hO
  clear hO
  have hni : (n : Int) < 20 := by omega
  have hn0 : (0 : Int) ≤ (n : Int) := by omega
  go_enter Try.func76, Try.ntmps76
  go_wp2_with fail
  refine wp_loop_rounds 1 ?_
  rw [rounds_succ]
  go_wp2_with fail
  refine (ins_any aa n cap base xs w HO.out (by omega)).mono ?_
  rintro e w1 ⟨rfl, hO, hx⟩
  have HO1 := hid hO
  have HX1 := hid hx
  clear hO hx
  go_wp2_with fail
  refine wp_loop_rounds 1 ?_
  rw [rounds_succ]
  go_wp2
  go_end0
  exact ⟨rfl, HO1.out, HX1.out⟩
theorem sort_any (aa : Option Addr) (n cap base : Nat) (xs : List T) (w : World) (hO : Own w base 25 5 T.cs aa n cap xs) (hn : n ≤ 10) :
    Calls Try.prog 53 #[.slice aa n cap, .func (.func 24) #[] #[]] w (RetSort base aa n cap xs w) := by
  have HO := hid hO
  clear hO
  go_enter Try.func53, Try.ntmps53
  go_wp2_with fail
  refine (stable_any aa n cap base xs w HO.out hn).mono ?_
  rintro e w1 ⟨rfl, hO, hx⟩
  have HO1 := hid hO
  have HX1 := hid hx
  clear hO hx
  go_wp2
  go_end0
  exact ⟨rfl, HO1.out, HX1.out⟩
end Go.Proofs.Ytclmbonippjhoaa
