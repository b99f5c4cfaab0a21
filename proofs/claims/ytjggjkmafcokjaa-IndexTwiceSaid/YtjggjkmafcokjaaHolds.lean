/- Whether a test holds of an event: the walk of filter's Holds. -/
import Derived.Test.YtjggjkmafcokjaaFind
set_option linter.unusedVariables false
set_option linter.unusedSimpArgs false
namespace Go.Proofs.Ytjggjkmafcokjaa
open Go.RowKit

def holdsT (t : T) (xs : List AT) : Bool := match findA xs t.nm.toList with
  | some x => isV t.op t.v x.v
  | none => false
set_option maxHeartbeats 1000000 in
theorem holds_any (t : T) (a : Option Addr) (n cap : Nat) (xs : List AT) (w : World) (hS : Sl w 4 AT.cs a n cap xs) :
    Calls Try.prog 36 #[.agg #[.string t.nm, .int .i64 t.op, .int .i64 t.k, .int .i64 t.n, .string t.s], .slice a n cap] w fun e w' => e = .returned (.bool (holdsT t xs)) ∧ Ext w w' := by
  have HS := hid hS
  clear hS
  cases hf : findA xs t.nm.toList with
  | none =>
    have HF := hid hf
    have HH := hid (show holdsT t xs = false from by unfold holdsT; rw [hf])
    clear hf
    go_enter Try.func36, Try.ntmps36
    go_wp2_with (go_at_call 45; refine (find_any _ _ _ xs t.nm _ (HS.out.ext (by (repeat (first | exact Ext.refl _ | refine Ext.alloc ?_ _ | refine Ext.drewN ?_ _ | refine Ext.drew ?_ | refine Ext.trans ?_ (Hid.out (by assumption))))))).mono ?_; rintro e w' ⟨he, hb⟩; rw [HF.out] at he; unfold findR at he; subst he; have t0 : w'.cell? ⟨w.heap.size, 0, none⟩ = some (.string t.nm) := hb.keep (by simp); have t1 : w'.cell? ⟨w.heap.size, 1, none⟩ = some (.int .i64 t.op) := hb.keep (by simp); have t2 : w'.cell? ⟨w.heap.size, 2, none⟩ = some (.int .i64 t.k) := hb.keep (by simp); have t3 : w'.cell? ⟨w.heap.size, 3, none⟩ = some (.int .i64 t.n) := hb.keep (by simp); have t4 : w'.cell? ⟨w.heap.size, 4, none⟩ = some (.string t.s) := hb.keep (by simp); have hz : w.heap.size < w'.heap.size := (by have := hb.size; simp at this; omega); have hx := hid hb; clear hb)
    go_ret
    refine ⟨ret_bool HH.out.symm, ?_⟩
    (repeat (first | exact Ext.refl _ | refine Ext.alloc ?_ _ | refine Ext.drewN ?_ _ | refine Ext.drew ?_ | refine Ext.trans ?_ (Hid.out (by assumption))))
  | some x =>
    have HF := hid hf
    have HH := hid (show holdsT t xs = isV t.op t.v x.v from by unfold holdsT; rw [hf])
    clear hf
    go_enter Try.func36, Try.ntmps36
    go_wp2_with (first | (go_at_call 45; refine (find_any _ _ _ xs t.nm _ (HS.out.ext (by (repeat (first | exact Ext.refl _ | refine Ext.alloc ?_ _ | refine Ext.drewN ?_ _ | refine Ext.drew ?_ | refine Ext.trans ?_ (Hid.out (by assumption))))))).mono ?_; rintro e w' ⟨he, hb⟩; rw [HF.out] at he; unfold findR at he; subst he; have t0 : w'.cell? ⟨w.heap.size, 0, none⟩ = some (.string t.nm) := hb.keep (by simp); have t1 : w'.cell? ⟨w.heap.size, 1, none⟩ = some (.int .i64 t.op) := hb.keep (by simp); have t2 : w'.cell? ⟨w.heap.size, 2, none⟩ = some (.int .i64 t.k) := hb.keep (by simp); have t3 : w'.cell? ⟨w.heap.size, 3, none⟩ = some (.int .i64 t.n) := hb.keep (by simp); have t4 : w'.cell? ⟨w.heap.size, 4, none⟩ = some (.string t.s) := hb.keep (by simp); have hz : w.heap.size < w'.heap.size := (by have := hb.size; simp at this; omega); have hx := hid hb; clear hb) | (go_at_call 38; refine (is_any t x.k x.n x.s _).mono ?_; rintro e w2 ⟨rfl, hb⟩; have hy := hid hb; clear hb))
    go_ret
    refine ⟨ret_bool HH.out.symm, ?_⟩
    (repeat (first | exact Ext.refl _ | refine Ext.alloc ?_ _ | refine Ext.drewN ?_ _ | refine Ext.drew ?_ | refine Ext.trans ?_ (Hid.out (by assumption))))
end Go.Proofs.Ytjggjkmafcokjaa
