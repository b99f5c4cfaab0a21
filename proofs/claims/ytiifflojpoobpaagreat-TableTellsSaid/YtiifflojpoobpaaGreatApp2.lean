/- The functions that Apply hands on: which side of an entry a subscription is. -/
import Derived.Test.YtiifflojpoobpaaGreatCmp15
import Derived.Test.YtiifflojpoobpaaGreatOwn15
import Derived.Deep.RegionHeld3
set_option linter.unusedVariables false
set_option linter.unusedSimpArgs false
namespace Go.Proofs.YtiifflojpoobpaaGreat
open Go.RowKit

set_option maxHeartbeats 1000000 in
theorem side_any (x : SB) (eb : Nat) (c u : Int) (w : World) (h4 : w.cell? ⟨eb, 4, none⟩ = some (.int .i64 c)) (h5 : w.cell? ⟨eb, 5, none⟩ = some (.int .u64 u)) :
    Calls Tryz.prog 28 #[.agg #[.int .i64 x.c, .int .u64 x.u, .slice x.f.a x.f.n x.f.c], .pointer (some ⟨eb, 0, none⟩)] w fun e w' => e = .returned (.int .i64 (sideI x.d c u)) ∧ Ext w w' := by
  have k4 := ((Ext.refl w).alloc (Obj.cells #[.int .i64 x.c, .int .u64 x.u, .slice x.f.a x.f.n x.f.c] 57)).keep h4
  have k5 := ((Ext.refl w).alloc (Obj.cells #[.int .i64 x.c, .int .u64 x.u, .slice x.f.a x.f.n x.f.c] 57)).keep h5
  go_enter Tryz.func28, Tryz.ntmps28
  go_wp2_with fail
  go_region_held3 (fun w' => w'.cell? ⟨w.heap.size, 0, none⟩ = some (.int .i64 x.c) ∧ w'.cell? ⟨w.heap.size, 1, none⟩ = some (.int .u64 x.u) ∧ w'.cell? ⟨eb, 4, none⟩ = some (.int .i64 c) ∧ w'.cell? ⟨eb, 5, none⟩ = some (.int .u64 u)) (first | (go_split_ands; refine ⟨?_, ?_, ?_, ?_⟩ <;> exact (Hid.out hy).keep (by assumption)) | go_keep) (first | (go_at_call 30; refine (cmp_i _ _ _).mono ?_; rintro e w1 ⟨rfl, hb⟩; have hy := hid hb; clear hb) | (go_at_call 31; refine (cmp_u _ _ _).mono ?_; rintro e w1 ⟨rfl, hb⟩; have hy := hid hb; clear hb) | (go_at_call 29; refine (or_any _ (cmpI x.c c) (cmpI x.u u) _ (by simp) (by simp)).mono ?_; rintro e w1 ⟨rfl, hb⟩; have hy := hid hb; clear hb))
  go_wp2
  trace_state
  go_ret
  refine ⟨rfl, ?_⟩
  (repeat (first | exact Ext.refl _ | refine Ext.alloc ?_ _ | refine Ext.drewN ?_ _ | refine Ext.drew ?_ | refine Ext.trans ?_ (Hid.out (by assumption))))
end Go.Proofs.YtiifflojpoobpaaGreat
