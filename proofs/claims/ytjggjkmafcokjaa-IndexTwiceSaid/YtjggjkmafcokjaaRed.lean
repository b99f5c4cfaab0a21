/- Filters in memory; a filter's copy: the walk of the program's Clone. -/
import Derived.Test.YtjggjkmafcokjaaCov
import Derived.Test.YtjggjkmafcokjaaStep
set_option linter.unusedVariables false
set_option linter.unusedSimpArgs false
namespace Go.Proofs.Ytjggjkmafcokjaa
open Go.RowKit

theorem infoT : (Try.prog.info? 54).map (fun i => (i.zero, i.size, i.bytes)) = some (some (.agg #[.string ⟨#[]⟩, .int .i64 0, .int .i64 0, .int .i64 0, .string ⟨#[]⟩]), 5, 56) := by kernel_rfl
/-- A result that is a slice of the call's own. -/
def RetOwn {α : Type} (e : TypeId) (sz : Nat) (c : α → List Value) (xs : List α) (w : World) (r : Ending) (w' : World) : Prop :=
  ∃ aa n cap, r = .returned (.slice aa n cap) ∧ Own w' w.heap.size e sz c aa n cap xs ∧ Ext w w'
theorem clone_any (a : Option Addr) (n cap : Nat) (xs : List T) (w : World) (hS : Sl w 5 T.cs a n cap xs) (hn : n ≤ 1000000) :
    Calls Try.prog 28 #[.slice a n cap] w (RetOwn 54 5 T.cs xs w) := by
  obtain ⟨i0, hi, hz0, hz1, hz2⟩ := info_parts infoT
  have I1 := hid hi
  have I2 := hid hz0
  have I3 := hid hz1
  have I4 := hid hz2
  have hneq := hid hS.neq
  have hl := hS.len
  have hm := hS.max
  unfold maxLen at hm
  have HS := hid hS
  clear hS hi hz0 hz1 hz2
  have hnil := @Lib.run_eql_slice_nil Try.prog
  cases a with
  | none =>
    have hc := HS.out.none rfl
    obtain rfl : cap = 0 := hc
    obtain rfl : n = 0 := by omega
    have hx : xs = [] := List.eq_nil_of_length_eq_zero hneq.out.symm
    subst hx
    go_enter Try.func28, Try.ntmps28
    go_wp2
    go_ret
    exact ⟨none, 0, 0, rfl, Own.nil _ _ _ T.wid, (by (repeat (first | exact Ext.refl _ | refine Ext.alloc ?_ _ | refine Ext.drewN ?_ _ | refine Ext.drew ?_ | refine Ext.trans ?_ (Hid.out (by assumption)))))⟩
  | some ad =>
    go_enter Try.func28, Try.ntmps28
    go_wp2_with (at_builtin; refine wpList_plain rfl fun KK hKK => ?_; refine wpOn (c := T.cs) (ys0 := []) (ys := xs) _ _ 32 54 rfl i0 _ 56 Try.underlying32 I1.out I2.out I3.out I4.out rfl (by decide) rfl w (by (repeat (first | exact Ext.refl _ | refine Ext.alloc ?_ _ | refine Ext.drewN ?_ _ | refine Ext.drew ?_ | refine Ext.trans ?_ (Hid.out (by assumption))))) (Own.empty (by (repeat (first | (refine heap_new ?_; (simp; done)) | refine heap_old (by first | (simp; done) | (simp; omega)) ?_))) (by simp) T.wid) rfl (HS.out.ext (by (repeat (first | exact Ext.refl _ | refine Ext.alloc ?_ _ | refine Ext.drewN ?_ _ | refine Ext.drew ?_ | refine Ext.trans ?_ (Hid.out (by assumption)))))) T.one (by omega) (by decide) ?_; intro bb n1 cap1 w6 hn1 hown1 hx hg1; refine hKK _ _ ?_; have HO1 := hid hown1; have hy := hid hx; have HN1 := hid hn1; clear hown1 hx hg1 hn1)
    go_ret
    exact ⟨bb, n1, cap1, rfl, HO1.out, hy.out⟩
end Go.Proofs.Ytjggjkmafcokjaa
