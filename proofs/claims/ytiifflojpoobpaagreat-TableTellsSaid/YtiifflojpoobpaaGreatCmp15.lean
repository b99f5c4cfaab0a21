/- Which of two numbers is less; the first that is not zero; whether a list holds a number: the walks of the library's Compare, Or, Index and Contains, and of a function in Apply. -/
import Derived.Test.YtiifflojpoobpaaGreatKeep
import Derived.Test.YtiifflojpoobpaaGreatOpen15
set_option linter.unusedVariables false
set_option linter.unusedSimpArgs false
namespace Go.Proofs.YtiifflojpoobpaaGreat
open Go.RowKit

theorem cells_i {w : World} {b o : Nat} {x : Int} (h : CellsAt w b o (iC x)) : w.cell? ⟨b, o, none⟩ = some (.int .i64 x) := h 0 _ rfl
theorem nan_i (x : Int) (w : World) : Calls Tryz.prog 55 #[.int .i64 x] w fun e w' => e = .returned (.bool false) ∧ Ext w w' := by
  go_enter Tryz.func55, Tryz.ntmps55
  go_wp2
  go_ret
  refine ⟨by simp, ?_⟩
  (repeat (first | exact Ext.refl _ | refine Ext.alloc ?_ _ | refine Ext.drewN ?_ _ | refine Ext.drew ?_ | refine Ext.trans ?_ (Hid.out (by assumption))))
theorem nan_u (x : Int) (w : World) : Calls Tryz.prog 56 #[.int .u64 x] w fun e w' => e = .returned (.bool false) ∧ Ext w w' := by
  go_enter Tryz.func56, Tryz.ntmps56
  go_wp2
  go_ret
  refine ⟨by simp, ?_⟩
  (repeat (first | exact Ext.refl _ | refine Ext.alloc ?_ _ | refine Ext.drewN ?_ _ | refine Ext.drew ?_ | refine Ext.trans ?_ (Hid.out (by assumption))))
theorem cmp_i (x y : Int) (w : World) : Calls Tryz.prog 30 #[.int .i64 x, .int .i64 y] w fun e w' => e = .returned (.int .i64 (cmpI x y)) ∧ Ext w w' := by
  go_enter Tryz.func30, Tryz.ntmps30
  go_wp2_with (go_at_call 55; refine (nan_i _ _).mono ?_; rintro e w1 ⟨rfl, hb⟩; have hy := hid hb; clear hb)
  all_goals (go_ret; refine ⟨ret_int (by unfold cmpI; split <;> (try split) <;> omega), ?_⟩; (repeat (first | exact Ext.refl _ | refine Ext.alloc ?_ _ | refine Ext.drewN ?_ _ | refine Ext.drew ?_ | refine Ext.trans ?_ (Hid.out (by assumption)))))
theorem cmp_u (x y : Int) (w : World) : Calls Tryz.prog 31 #[.int .u64 x, .int .u64 y] w fun e w' => e = .returned (.int .i64 (cmpI x y)) ∧ Ext w w' := by
  go_enter Tryz.func31, Tryz.ntmps31
  go_wp2_with (go_at_call 56; refine (nan_u _ _).mono ?_; rintro e w1 ⟨rfl, hb⟩; have hy := hid hb; clear hb)
  all_goals (go_ret; refine ⟨ret_int (by unfold cmpI; split <;> (try split) <;> omega), ?_⟩; (repeat (first | exact Ext.refl _ | refine Ext.alloc ?_ _ | refine Ext.drewN ?_ _ | refine Ext.drew ?_ | refine Ext.trans ?_ (Hid.out (by assumption)))))
/-- the first that is not zero -/
def orI (x y : Int) : Int := if x ≠ 0 then x else y
theorem or_any (b : Nat) (x y : Int) (w : World) (h0 : w.cell? ⟨b, 0, none⟩ = some (.int .i64 x)) (h1 : w.cell? ⟨b, 1, none⟩ = some (.int .i64 y)) :
    Calls Tryz.prog 29 #[.slice (some ⟨b, 0, none⟩) 2 2] w fun e w' => e = .returned (.int .i64 (orI x y)) ∧ Ext w w' := by
  go_enter Tryz.func29, Tryz.ntmps29
  go_wp2_with fail
  go_loopg [5, 8] 2 (fun g _ st wr => ∃ (k : Nat), g + k = 2 ∧ st = .int .i64 k ∧ (0 < k → x = 0) ∧ (1 < k → y = 0) ∧ Hid (Ext w wr))
  case atStart => exact ⟨0, rfl, rfl, by omega, by omega, Ext.refl _⟩
  case round =>
    obtain ⟨k, hg, rfl, p0, p1, hx⟩ := hrel
    have c0 := hx.out.keep h0
    have c1 := hx.out.keep h1
    rcases Nat.lt_or_ge k 2 with hk | hk
    · rcases (show k = 0 ∨ k = 1 by omega) with rfl | rfl
      · by_cases hz : x = 0
        · subst hz
          go_wp2
          go_roundg 1
          case measure => omega
          case rel => exact ⟨1, by omega, by go_num, fun _ => by trivial, by omega, (by (repeat (first | exact Ext.refl _ | refine Ext.alloc ?_ _ | refine Ext.drewN ?_ _ | refine Ext.drew ?_ | refine Ext.trans ?_ (Hid.out (by assumption)))))⟩
        · go_wp2
          go_ret
          refine ⟨ret_int (by simp [orI, hz]), ?_⟩
          (repeat (first | exact Ext.refl _ | refine Ext.alloc ?_ _ | refine Ext.drewN ?_ _ | refine Ext.drew ?_ | refine Ext.trans ?_ (Hid.out (by assumption))))
      · obtain rfl := p0 (by omega)
        by_cases hz : y = 0
        · subst hz
          go_wp2
          go_roundg 0
          case measure => omega
          case rel => exact ⟨2, by omega, by go_num, fun _ => by trivial, fun _ => by trivial, (by (repeat (first | exact Ext.refl _ | refine Ext.alloc ?_ _ | refine Ext.drewN ?_ _ | refine Ext.drew ?_ | refine Ext.trans ?_ (Hid.out (by assumption)))))⟩
        · go_wp2
          go_ret
          refine ⟨ret_int (by simp [orI]), ?_⟩
          (repeat (first | exact Ext.refl _ | refine Ext.alloc ?_ _ | refine Ext.drewN ?_ _ | refine Ext.drew ?_ | refine Ext.trans ?_ (Hid.out (by assumption))))
    · obtain rfl : k = 2 := by omega
      obtain rfl := p0 (by omega)
      obtain rfl := p1 (by omega)
      go_wp2
      go_ret
      refine ⟨ret_int (by simp [orI]), ?_⟩
      (repeat (first | exact Ext.refl _ | refine Ext.alloc ?_ _ | refine Ext.drewN ?_ _ | refine Ext.drew ?_ | refine Ext.trans ?_ (Hid.out (by assumption))))
theorem index_any (a : Option Addr) (n cap : Nat) (xs : List Int) (y : Int) (w : World) (hS : Sl w 1 iC a n cap xs) :
    Calls Tryz.prog 57 #[.slice a n cap, .int .i64 y] w fun e w' => e = .returned (.int .i64 (idxBy (fun x => decide (y = x)) xs)) ∧ Ext w w' := by
  obtain rfl := hS.neq
  have hm := hS.max
  have hl := hS.len
  unfold maxLen at hm
  have HS := hid hS
  clear hS
  go_enter Tryz.func57, Tryz.ntmps57
  go_wp2_with fail
  go_loopg [5, 8] (xs.length) (fun g _ st wr => ∃ k : Nat, g + k = xs.length ∧ st = .int .i64 k ∧ Hid ((xs.take k).any (fun x => decide (y = x)) = false) ∧ Hid (Ext w wr))
  case atStart => exact ⟨0, by omega, rfl, rfl, Ext.refl _⟩
  case round =>
    obtain ⟨k, hg, rfl, hno, hx⟩ := hrel
    by_cases hk : k < xs.length
    · obtain ⟨b, o, rfl, hc⟩ := HS.out.get k hk
      have c0 := cells_i (w := wr) (b := b) (o := o + k * 1) (x := xs[k]) (fun j v hj => hx.out.keep (hc j v hj))
      rw [Nat.mul_one] at c0
      clear hc
      have b0 : (0 : Int) ≤ (k : Int) := by omega
      have b1 : (k : Int) < (xs.length : Int) := by omega
      by_cases he : y = xs[k]
      · have He := hid (show (fun x => decide (y = x)) xs[k] = true by simpa using he)
        have hq : (y == xs[k]) = true := by simpa using he
        clear he
        go_wp2
        go_ret
        refine ⟨ret_int (idx_found hk hno.out He.out), ?_⟩
        (repeat (first | exact Ext.refl _ | refine Ext.alloc ?_ _ | refine Ext.drewN ?_ _ | refine Ext.drew ?_ | refine Ext.trans ?_ (Hid.out (by assumption))))
      · have He := hid (show (fun x => decide (y = x)) xs[k] = false by simpa using he)
        have hq : (y == xs[k]) = false := by simpa using he
        clear he
        go_wp2
        go_roundg (gk - 1)
        case measure => omega
        case rel => exact ⟨k + 1, by omega, by go_num, any_take hk hno.out He.out, (by (repeat (first | exact Ext.refl _ | refine Ext.alloc ?_ _ | refine Ext.drewN ?_ _ | refine Ext.drew ?_ | refine Ext.trans ?_ (Hid.out (by assumption)))))⟩
    · have HN := hid (any_none hno.out hk)
      go_wp2
      go_ret
      refine ⟨ret_int (idx_none HN.out), ?_⟩
      (repeat (first | exact Ext.refl _ | refine Ext.alloc ?_ _ | refine Ext.drewN ?_ _ | refine Ext.drew ?_ | refine Ext.trans ?_ (Hid.out (by assumption))))
theorem contains_any (a : Option Addr) (n cap : Nat) (xs : List Int) (y : Int) (w : World) (hS : Sl w 1 iC a n cap xs) :
    Calls Tryz.prog 36 #[.slice a n cap, .int .i64 y] w fun e w' => e = .returned (.bool (decide (y ∈ xs))) ∧ Ext w w' := by
  have HS := hid hS
  clear hS
  go_enter Tryz.func36, Tryz.ntmps36
  go_wp2_with (go_at_call 57; refine (index_any _ _ _ xs y _ (HS.out.ext (by (repeat (first | exact Ext.refl _ | refine Ext.alloc ?_ _ | refine Ext.drewN ?_ _ | refine Ext.drew ?_ | refine Ext.trans ?_ (Hid.out (by assumption))))))).mono ?_; rintro e w1 ⟨rfl, hb⟩; have hy := hid hb; clear hb)
  go_ret
  refine ⟨ret_bool ?_, ?_⟩
  · rw [idx_ge, Bool.eq_iff_iff]; simp
  · skip
    (repeat (first | exact Ext.refl _ | refine Ext.alloc ?_ _ | refine Ext.drewN ?_ _ | refine Ext.drew ?_ | refine Ext.trans ?_ (Hid.out (by assumption))))
/-- A list holds a subscription's client. -/
theorem filters1_any (x : SB) (pb : Nat) (a : Option Addr) (n cap : Nat) (xs : List Int) (w : World) (hc : w.cell? ⟨pb, 0, none⟩ = some (.slice a n cap)) (hS : Sl w 1 iC a n cap xs) :
    Calls Tryz.prog 35 #[.agg #[.int .i64 x.c, .int .u64 x.u, .slice x.f.a x.f.n x.f.c], .pointer (some ⟨pb, 0, none⟩)] w fun e w' => e = .returned (.bool (decide (x.c ∈ xs))) ∧ Ext w w' := by
  have HS := hid hS
  clear hS
  have k0 := ((Ext.refl w).alloc (Obj.cells #[.int .i64 x.c, .int .u64 x.u, .slice x.f.a x.f.n x.f.c] 57)).keep hc
  go_enter Tryz.func35, Tryz.ntmps35
  go_wp2_with (go_at_call 36; refine (contains_any _ _ _ xs x.c _ (HS.out.ext (by (repeat (first | exact Ext.refl _ | refine Ext.alloc ?_ _ | refine Ext.drewN ?_ _ | refine Ext.drew ?_ | refine Ext.trans ?_ (Hid.out (by assumption))))))).mono ?_; rintro e w1 ⟨rfl, hb⟩; have hy := hid hb; clear hb)

  go_ret
  refine ⟨rfl, ?_⟩
  (repeat (first | exact Ext.refl _ | refine Ext.alloc ?_ _ | refine Ext.drewN ?_ _ | refine Ext.drew ?_ | refine Ext.trans ?_ (Hid.out (by assumption))))
theorem apply1_any (x : SB) (w : World) :
    Calls Tryz.prog 27 #[.agg #[.int .i64 x.c, .int .u64 x.u, .slice x.f.a x.f.n x.f.c]] w fun e w' => e = .returned (.bool true) ∧ Ext w w' := by
  go_enter Tryz.func27, Tryz.ntmps27
  go_wp2
  go_ret
  refine ⟨rfl, ?_⟩
  (repeat (first | exact Ext.refl _ | refine Ext.alloc ?_ _ | refine Ext.drewN ?_ _ | refine Ext.drew ?_ | refine Ext.trans ?_ (Hid.out (by assumption))))
end Go.Proofs.YtiifflojpoobpaaGreat
