/- The walks of the small functions on values: what each answers, and that nothing that was there has turned. -/
import Derived.Test.YtaednpicjpfamaaProg
import Derived.Test.YtaednpicjpfamaaPlain
import Derived.WalkKit
import Derived.WalkLawsBesides
import Derived.WalkSpells
import Derived.Lib.Strings
import Derived.Deep.LoopGhost

namespace Go.Proofs.Ytaednpicjpfamaa
open Go.RowKit

theorem ret_int {k : IntKind} {a b : Int} (h : a = b) : Ending.returned (.int k a) = .returned (.int k b) := by rw [h]
theorem hid {p : Prop} (h : p) : Hid p := h
/-- What was there below a call that makes memory reads as it did. -/
theorem bcell {W w1 : World} (hb : Below W.heap.size W w1) : (∀ b o, b < W.heap.size → w1.cell? ⟨b, o, none⟩ = W.cell? ⟨b, o, none⟩) ∧ (∀ b o, b < W.heap.size → w1.frozen? ⟨b, o, none⟩ = W.frozen? ⟨b, o, none⟩) :=
  ⟨fun b o h => hb.cell (p := ⟨b, o, none⟩) h, fun b o h => hb.frozen (p := ⟨b, o, none⟩) h⟩
/-- A later world: all that was there is as it was. -/
def Ext (w w' : World) : Prop := Below w.heap.size w w'
theorem Ext.refl (w : World) : Ext w w := Below.refl _ _
theorem Ext.trans {a b c : World} (h : Ext a b) (k : Ext b c) : Ext a c := Below.trans h (Below.mono k h.size)
theorem Ext.alloc {a b : World} (h : Ext a b) (o : Obj) : Ext a (b.alloc o) := Below.alloc h h.size o
theorem Ext.drewN {a b : World} (h : Ext a b) (n : Nat) : Ext a (b.drewN n) := below_drewN h n
theorem Ext.drew {a b : World} (h : Ext a b) : Ext a b.drew := Below.drew h
theorem Ext.setCell {a b : World} (h : Ext a b) {p : Addr} (hp : a.heap.size ≤ p.block) (u : Value) : Ext a (b.setCell p u) := Below.setCell h hp u
theorem Ext.cell {W w1 : World} (hb : Ext W w1) : ∀ b o, b < W.heap.size → w1.cell? ⟨b, o, none⟩ = W.cell? ⟨b, o, none⟩ := (bcell hb).1
theorem Ext.frozen {W w1 : World} (hb : Ext W w1) : ∀ b o, b < W.heap.size → w1.frozen? ⟨b, o, none⟩ = W.frozen? ⟨b, o, none⟩ := (bcell hb).2
theorem Ext.size {W w1 : World} (hb : Ext W w1) : W.heap.size ≤ w1.heap.size := Below.size hb
theorem Ext.block {W w1 : World} (hb : Ext W w1) : ∀ b, b < W.heap.size → w1.heap[b]? = W.heap[b]? := Below.block hb
theorem ret_bool {a b : Bool} (h : a = b) : Ending.returned (.bool a) = .returned (.bool b) := by rw [h]
theorem len_toList (s : ByteArray) : s.toList.length = s.size := by rw [Lib.toList_data]; simp

theorem place_int (a b : Int) (w : World) :
    Calls Try.prog 18 #[.int .i64 a, .int .i64 b] w fun e w' => e = .returned (.int .i64 (cmpI a b)) ∧ w = w' := by
  go_enter Try.func18, Try.ntmps18
  go_wp2
  all_goals (go_ret; refine ⟨ret_int ?_, rfl⟩; unfold cmpI; (repeat' split) <;> omega)

theorem place_int64 (a b : Int) (w : World) :
    Calls Try.prog 19 #[.int .i64 a, .int .i64 b] w fun e w' => e = .returned (.int .i64 (cmpI a b)) ∧ w = w' := by
  go_enter Try.func19, Try.ntmps19
  go_wp2
  all_goals (go_ret; refine ⟨ret_int ?_, rfl⟩; unfold cmpI; (repeat' split) <;> omega)

theorem place_string (a b : ByteArray) (w : World) :
    Calls Try.prog 20 #[.string a, .string b] w fun e w' => e = .returned (.int .i64 (cmpL a.toList b.toList)) ∧ w = w' := by
  have h1 := bl_asymm a.toList b.toList
  have h2 := bl_tri a.toList b.toList
  have h3 := bl_irrefl b.toList
  unfold bl at h1 h2 h3
  have H1 : Hid _ := h1
  have H2 : Hid _ := h2
  have H3 : Hid _ := h3
  clear h1 h2 h3
  go_enter Try.func20, Try.ntmps20
  go_wp2
  all_goals
    go_ret
    refine ⟨ret_int ?_, rfl⟩
    unfold cmpL bl
    replace H1 := H1.out
    replace H2 := H2.out
    replace H3 := H3.out
    simp_all

theorem check_any (k n : Int) (s : ByteArray) (w : World) :
    Calls Try.prog 9 #[.agg #[.int .i64 k, .int .i64 n, .string s]] w fun e w' => e = .returned (.int .i64 (vChk k n s.toList)) ∧ Ext w w' := by
  go_enter Try.func9, Try.ntmps9
  go_wp2
  all_goals (go_ret; refine ⟨ret_int ?_, (Ext.refl _).alloc _⟩; unfold vChk; rw [len_toList]; simp_all <;> omega)

theorem rcheck_any (k n : Int) (s : ByteArray) (w : World) :
    Calls Try.prog 10 #[.agg #[.int .i64 k, .int .i64 n, .string s]] w fun e w' => e = .returned (.int .i64 (vChk k n s.toList)) ∧ Ext w w' := by
  go_enter Try.func10, Try.ntmps10
  go_wp2
  all_goals (go_ret; refine ⟨ret_int ?_, (Ext.refl _).alloc _⟩; unfold vChk; rw [len_toList]; simp_all <;> omega)

theorem order_any (k n : Int) (s : ByteArray) (k' n' : Int) (s' : ByteArray) (w : World) :
    Calls Try.prog 11 #[.agg #[.int .i64 k, .int .i64 n, .string s], .agg #[.int .i64 k', .int .i64 n', .string s']] w fun e w' =>
      e = .returned (.int .i64 (vOrd k n s.toList k' n' s'.toList)) ∧ Ext w w' := by
  go_enter Try.func11, Try.ntmps11
  go_wp2_with fail
  go_step3
  go_wp2_with fail
  go_step3
  go_wp2_with fail
  go_loopg [5, 6, 7] 3 (fun g at_ st i wr => ∃ j : Nat, g + j = 3 ∧ i = .int .i64 j ∧ at_ = .int .i64 0 ∧ (1 ≤ j → cmpI k k' = 0) ∧ (2 ≤ j → cmpI n n' = 0) ∧ (3 ≤ j → cmpL s.toList s'.toList = 0) ∧ wr = (w.alloc (Obj.cells #[Value.int IntKind.i64 k, Value.int IntKind.i64 n, Value.string s] 24)).alloc
  (Obj.cells #[Value.int IntKind.i64 k', Value.int IntKind.i64 n', Value.string s'] 24))
  case atStart => exact ⟨0, rfl, rfl, rfl, by omega, by omega, by omega, rfl⟩
  case round =>
    obtain ⟨j, hg, rfl, rfl, h1, h2, h3, rfl⟩ := hrel
    have H := hid (And.intro h1 (And.intro h2 h3))
    clear h1 h2 h3
    have hj : j = 0 ∨ j = 1 ∨ j = 2 ∨ j = 3 := by omega
    have B : Ext w ((w.alloc (Obj.cells #[Value.int IntKind.i64 k, Value.int IntKind.i64 n, Value.string s] 24)).alloc
      (Obj.cells #[Value.int IntKind.i64 k', Value.int IntKind.i64 n', Value.string s'] 24)) := ((Ext.refl _).alloc _).alloc _
    rcases hj with rfl | rfl | rfl | rfl
    · go_wp2_with (first | (go_at_call 18; refine (place_int _ _ _).mono ?_; rintro e w' ⟨rfl, rfl⟩) | (go_at_call 19; refine (place_int64 _ _ _).mono ?_; rintro e w' ⟨rfl, rfl⟩) | (go_at_call 20; refine (place_string _ _ _).mono ?_; rintro e w' ⟨rfl, rfl⟩))
      · rw [Exit.noGoto_ret]
        go_wp2
        go_ret
        exact ⟨ret_int (vOrd_k ‹_›), B⟩
      · have e : cmpI k k' = 0 := of_bne ‹_›
        go_roundg 2
        case measure => omega
        case rel => exact ⟨1, by omega, by go_num, by rw [e], fun _ => e, by omega, by omega, rfl⟩
    · go_wp2_with (first | (go_at_call 18; refine (place_int _ _ _).mono ?_; rintro e w' ⟨rfl, rfl⟩) | (go_at_call 19; refine (place_int64 _ _ _).mono ?_; rintro e w' ⟨rfl, rfl⟩) | (go_at_call 20; refine (place_string _ _ _).mono ?_; rintro e w' ⟨rfl, rfl⟩))
      · rw [Exit.noGoto_ret]
        go_wp2
        go_ret
        exact ⟨ret_int (vOrd_n (H.out.1 (by omega)) ‹_›), B⟩
      · have e : cmpI n n' = 0 := of_bne ‹_›
        go_roundg 1
        case measure => omega
        case rel => exact ⟨2, by omega, by go_num, by rw [e], fun _ => H.out.1 (by omega), fun _ => e, by omega, rfl⟩
    · go_wp2_with (first | (go_at_call 18; refine (place_int _ _ _).mono ?_; rintro e w' ⟨rfl, rfl⟩) | (go_at_call 19; refine (place_int64 _ _ _).mono ?_; rintro e w' ⟨rfl, rfl⟩) | (go_at_call 20; refine (place_string _ _ _).mono ?_; rintro e w' ⟨rfl, rfl⟩))
      · rw [Exit.noGoto_ret]
        go_wp2
        go_ret
        exact ⟨ret_int (vOrd_s (H.out.1 (by omega)) (H.out.2.1 (by omega))), B⟩
      · have e : cmpL s.toList s'.toList = 0 := of_bne ‹_›
        go_roundg 0
        case measure => omega
        case rel => exact ⟨3, by omega, by go_num, by rw [e], fun _ => H.out.1 (by omega), fun _ => H.out.2.1 (by omega), fun _ => e, rfl⟩
    · go_wp2_with (first | (go_at_call 18; refine (place_int _ _ _).mono ?_; rintro e w' ⟨rfl, rfl⟩) | (go_at_call 19; refine (place_int64 _ _ _).mono ?_; rintro e w' ⟨rfl, rfl⟩) | (go_at_call 20; refine (place_string _ _ _).mono ?_; rintro e w' ⟨rfl, rfl⟩))
      rw [Exit.noGoto_ret]
      go_wp2
      go_ret
      exact ⟨ret_int (by rw [← vOrd_s (H.out.1 (by omega)) (H.out.2.1 (by omega)), H.out.2.2 (by omega)]), B⟩
end Go.Proofs.Ytaednpicjpfamaa
