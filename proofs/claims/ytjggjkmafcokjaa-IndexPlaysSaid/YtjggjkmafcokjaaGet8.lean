/- What an index is asked: Count, Filter; what none answers. -/
import Derived.Test.YtjggjkmafcokjaaAddOk
set_option linter.unusedVariables false
set_option linter.unusedSimpArgs false
namespace Go.Proofs.Ytjggjkmafcokjaa
open Go.RowKit

set_option maxRecDepth 100000 in
theorem count_nil (w : World) : Calls Try.prog 22 #[.pointer none] w fun e w' => e = .returned (.int .i64 0) ∧ Ext w w' := by
  go_enter Try.func22, Try.ntmps22
  go_wp2
  go_ret
  refine ⟨rfl, ?_⟩
  (repeat (first | exact Ext.refl _ | refine Ext.alloc ?_ _ | refine Ext.drewN ?_ _ | refine Ext.drew ?_ | refine Ext.trans ?_ (Hid.out (by assumption))))
set_option maxRecDepth 100000 in
theorem drop_nil (id : Int) (w : World) : Calls Try.prog 14 #[.pointer none, .int .u64 id] w fun e w' => e = .returned (.int .i64 1) ∧ Ext w w' := by
  go_enter Try.func14, Try.ntmps14
  go_wp2
  go_ret
  refine ⟨rfl, ?_⟩
  (repeat (first | exact Ext.refl _ | refine Ext.alloc ?_ _ | refine Ext.drewN ?_ _ | refine Ext.drew ?_ | refine Ext.trans ?_ (Hid.out (by assumption))))
set_option maxRecDepth 100000 in
theorem match_nil (a : Option Addr) (n c : Nat) (w : World) : Calls Try.prog 17 #[.pointer none, .slice a n c] w fun e w' => e = .returned (.slice none 0 0) ∧ Ext w w' := by
  go_enter Try.func17, Try.ntmps17
  go_wp2
  go_ret
  refine ⟨rfl, ?_⟩
  (repeat (first | exact Ext.refl _ | refine Ext.alloc ?_ _ | refine Ext.drewN ?_ _ | refine Ext.drew ?_ | refine Ext.trans ?_ (Hid.out (by assumption))))
set_option maxRecDepth 100000 in
theorem filter_nil (id : Int) (w : World) : Calls Try.prog 19 #[.pointer none, .int .u64 id] w fun e w' => e = .returned (.tuple #[.slice none 0 0, .bool false]) ∧ Ext w w' := by
  go_enter Try.func19, Try.ntmps19
  go_wp2
  go_ret2
  refine ⟨rfl, ?_⟩
  (repeat (first | exact Ext.refl _ | refine Ext.alloc ?_ _ | refine Ext.drewN ?_ _ | refine Ext.drew ?_ | refine Ext.trans ?_ (Hid.out (by assumption))))
section
variable {base p m s : Nat} {fd : Int → Option (List T)} {own : Nat → Option Lab}
set_option maxRecDepth 100000 in
theorem count_any (w : World) (h : Ix w base p m fd s own) : Calls Try.prog 22 #[.pointer (some ⟨p, 0, none⟩)] w fun e w' => e = .returned (.int .i64 s) ∧ Ext w w' := by
  obtain ⟨bF, bT, sT, fF, fT, h⟩ := h
  have c0 := h.cF
  have hlen := h.mF.len Try.underlying65 (ty := 3)
  clear h
  go_enter Try.func22, Try.ntmps22
  go_wp2
  go_ret
  refine ⟨rfl, ?_⟩
  (repeat (first | exact Ext.refl _ | refine Ext.alloc ?_ _ | refine Ext.drewN ?_ _ | refine Ext.drew ?_ | refine Ext.trans ?_ (Hid.out (by assumption))))
set_option maxRecDepth 100000 in
set_option maxHeartbeats 1000000 in
theorem drop_unknown (id : Int) (w : World) (hU : U64 id) (h : Ix w base p m fd s own) (hd : fd id = none) : Calls Try.prog 14 #[.pointer (some ⟨p, 0, none⟩), .int .u64 id] w fun e w' => e = .returned (.int .i64 80) ∧ Ext w w' := by
  obtain ⟨bF, bT, sT, fF, fT, h⟩ := h
  have c0 := h.cF
  have hv : fF (.int .u64 id) = none := by
    have := h.flt id
    rw [hd] at this
    exact this
  have H := hid h
  clear h
  go_enter Try.func14, Try.ntmps14
  go_wp2_with (first | (at_lookup; refine list_of rfl (fun K hK => op_lookOk _ _ rfl (Maps.int_keyed Try.underlying30) Try.underlying65 _ (zeroFi _) rfl rfl H.out.mF rfl (key8 hU) ?_); rw [hv]; refine hK _ _ ?_; clear hK K) | go_in)
  go_ret
  refine ⟨rfl, ?_⟩
  (repeat (first | exact Ext.refl _ | refine Ext.alloc ?_ _ | refine Ext.drewN ?_ _ | refine Ext.drew ?_ | refine Ext.trans ?_ (Hid.out (by assumption))))
def RetFlt (o : Option (List T)) (w : World) (e : Ending) (w' : World) : Prop := ∃ aa n cap, e = .returned (.tuple #[.slice aa n cap, .bool o.isSome]) ∧ Own w' w.heap.size 54 5 T.cs aa n cap (o.getD []) ∧ Ext w w'
set_option maxRecDepth 100000 in
set_option maxHeartbeats 1000000 in
theorem filter_any (id : Int) (w : World) (hU : U64 id) (h : Ix w base p m fd s own) (hl : ((fd id).getD []).length ≤ 1000000) : Calls Try.prog 19 #[.pointer (some ⟨p, 0, none⟩), .int .u64 id] w (RetFlt (fd id) w) := by
  obtain ⟨bF, bT, sT, fF, fT, h⟩ := h
  have c0 := h.cF
  obtain ⟨a, n, c, hv, hv2, hS⟩ : ∃ a n c, (fF (.int .u64 id)).getD (.slice none 0 0) = .slice a n c ∧ (fF (.int .u64 id)).isSome = (fd id).isSome ∧ Sl w 5 T.cs a n c ((fd id).getD []) := by
    have := h.flt id
    cases e : fd id with
    | none =>
      rw [e] at this
      have this : fF (.int .u64 id) = none := this
      rw [this]
      exact ⟨none, 0, 0, rfl, rfl, Sl.nil _ T.wid⟩
    | some ts =>
      rw [e] at this
      obtain ⟨a, n, c, hx, hs, _⟩ := this
      rw [hx]
      exact ⟨a, n, c, rfl, rfl, hs⟩
  have H := hid h
  obtain rfl := hS.neq
  have HS := hid hS
  clear h hS
  go_enter Try.func19, Try.ntmps19
  go_wp2_with (first | (at_lookup; refine list_of rfl (fun K hK => op_lookOk _ _ rfl (Maps.int_keyed Try.underlying30) Try.underlying65 _ (zeroFi _) rfl rfl H.out.mF rfl (key8 hU) ?_); rw [hv, hv2]; refine hK _ _ ?_; clear hK K) | (go_at_call 28; refine (clone_any _ _ _ _ _ (HS.out.ext (by (repeat (first | exact Ext.refl _ | refine Ext.alloc ?_ _ | refine Ext.drewN ?_ _ | refine Ext.drew ?_ | refine Ext.trans ?_ (Hid.out (by assumption)))))) hl).mono ?_; rintro e w2 ⟨a2, n2, c2, rfl, hown2, hb2⟩; have HO2 := hid hown2; have hy := hid hb2; clear hown2 hb2) | go_in)
  go_ret2
  exact ⟨a2, n2, c2, rfl, HO2.out, (by (repeat (first | exact Ext.refl _ | refine Ext.alloc ?_ _ | refine Ext.drewN ?_ _ | refine Ext.drew ?_ | refine Ext.trans ?_ (Hid.out (by assumption)))))⟩
end
end Go.Proofs.Ytjggjkmafcokjaa
