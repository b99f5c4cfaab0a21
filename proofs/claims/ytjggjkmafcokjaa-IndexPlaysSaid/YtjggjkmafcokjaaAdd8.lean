/- A filter is added to an index: where it is not taken. -/
import Derived.Test.YtjggjkmafcokjaaNew8
import Derived.Test.YtjggjkmafcokjaaMapOps
import Derived.Test.YtjggjkmafcokjaaChk
import Derived.Test.YtjggjkmafcokjaaRedM8
set_option linter.unusedVariables false
set_option linter.unusedSimpArgs false
namespace Go.Proofs.Ytjggjkmafcokjaa
open Go.RowKit

theorem zeroFi (w : World) : (zeroValue 32).run Try.prog w = .ok (.slice none 0 0) w := by kernel_rfl
theorem zeroR (w : World) : (zeroValue 31).run Try.prog w = .ok (.slice none 0 0) w := by kernel_rfl
theorem zeroM (w : World) : (zeroValue 70).run Try.prog w = .ok (.map none) w := by kernel_rfl
/-- a number of 64 bits -/
def U64 (id : Int) : Prop := (Lit.int .u64 id).wf = true
theorem key8 {id : Int} (h : U64 id) : keyOf Try.prog 30 (.int .u64 id) = some (.int .u64 id) := Maps.keyOf_int_mk Try.underlying30 h
theorem keyS {s : ByteArray} (h : s.size ≤ maxLen) : keyOf Try.prog 9 (.string s) = some (.string s.toList) := by
  have hw : (Lit.string s.toList).wf = true := by simp [Lit.wf, len_toList, h]
  simp [keyOf, mapKey, Try.underlying9, hw]
  exact ⟨h, (Lib.toList_data s).symm⟩
set_option maxRecDepth 100000 in
theorem add_nil (id : Int) (a : Option Addr) (n c : Nat) (w : World) : Calls Try.prog 12 #[.pointer none, .int .u64 id, .slice a n c] w fun e w' => e = .returned (.int .i64 1) ∧ Ext w w' := by
  go_enter Try.func12, Try.ntmps12
  go_wp2
  go_ret
  refine ⟨rfl, ?_⟩
  (repeat (first | exact Ext.refl _ | refine Ext.alloc ?_ _ | refine Ext.drewN ?_ _ | refine Ext.drew ?_ | refine Ext.trans ?_ (Hid.out (by assumption))))
set_option maxRecDepth 100000 in
set_option maxHeartbeats 1000000 in
theorem add_bad (p : Nat) (id : Int) (a : Option Addr) (n c : Nat) (ts : List T) (w : World) (hS : Sl w 5 T.cs a n c ts) (hc : chkB ts = false) :
    Calls Try.prog 12 #[.pointer (some ⟨p, 0, none⟩), .int .u64 id, .slice a n c] w fun e w' => e = .returned (.int .i64 50) ∧ Ext w w' := by
  have hq := chkF_any a n c ts w hS
  rw [hc] at hq
  go_enter Try.func12, Try.ntmps12
  go_wp2_with fail
  refine hq.mono ?_
  rintro e w1 ⟨rfl, hb⟩
  have hx := hid hb
  clear hb hq
  rw [show errF false = 50 from rfl]
  go_wp2
  go_ret
  refine ⟨rfl, ?_⟩
  (repeat (first | exact Ext.refl _ | refine Ext.alloc ?_ _ | refine Ext.drewN ?_ _ | refine Ext.drew ?_ | refine Ext.trans ?_ (Hid.out (by assumption))))
set_option maxRecDepth 100000 in
set_option maxHeartbeats 2000000 in
theorem add_dup {base p m s bF bT sT : Nat} {fd : Int → Option (List T)} {tf : List UInt8 → Int → List T} {own : Nat → Option Lab} {fF fT : Lit → Option Value} (id : Int) (a : Option Addr) (n c : Nat) (ts : List T) (w : World) (hU : U64 id) (hS : Sl w 5 T.cs a n c ts) (hc : chkB ts = true)
    (h : IxB w base p m fd tf s own bF bT sT fF fT) (hd : (fd id).isSome = true ∨ 500 ≤ s) :
    Calls Try.prog 12 #[.pointer (some ⟨p, 0, none⟩), .int .u64 id, .slice a n c] w fun e w' => e = .returned (.int .i64 80) ∧ Ext w w' := by
  have hq := chkF_any a n c ts w hS
  rw [hc] at hq
  have H := hid h
  have hm := h.mF.size_le
  clear h
  go_enter Try.func12, Try.ntmps12
  go_wp2_with fail
  refine hq.mono ?_
  rintro e w1 ⟨rfl, hb⟩
  have hx := hid hb
  have H1 := hid (H.out.ext hb)
  clear hb hq H
  rw [show errF true = 0 from rfl]
  have c0 : w1.cell? ⟨p, 0, none⟩ = some (.map (some bF)) := by unfold World.cell?; rw [H1.out.hP]; rfl
  have hlen := H1.out.mF.len Try.underlying65 (ty := 3)
  obtain ⟨v, k, hv, hk⟩ : ∃ v k, fF (.int .u64 id) = v ∧ v.isSome = k := ⟨_, _, rfl, rfl⟩
  have hk2 : (fd id).isSome = k := by
    have := H1.out.flt id
    rw [hv] at this
    rw [← hk]
    cases e : fd id with
    | none => rw [e] at this; unfold FltOk at this; rw [this]; rfl
    | some ts => rw [e] at this; obtain ⟨a, n, c, hx, _⟩ := this; rw [hx]; rfl
  rw [hk2] at hd
  cases k with
  | true =>
    go_wp2_with (first | (at_lookup; refine list_of rfl (fun K hK => op_lookOk _ _ rfl (Maps.int_keyed Try.underlying30) Try.underlying65 _ (zeroFi _) rfl rfl H1.out.mF rfl (key8 hU) ?_); rw [hv, hk]; refine hK _ _ ?_) | go_in)
    go_wp2
    go_ret
    refine ⟨rfl, ?_⟩
    (repeat (first | exact Ext.refl _ | refine Ext.alloc ?_ _ | refine Ext.drewN ?_ _ | refine Ext.drew ?_ | refine Ext.trans ?_ (Hid.out (by assumption))))
  | false =>
    have h5 : (500 : Int) ≤ (s : Int) := by rcases hd with hd | hd
                                            · cases hd
                                            · omega
    go_wp2_with (first | (at_lookup; refine list_of rfl (fun K hK => op_lookOk _ _ rfl (Maps.int_keyed Try.underlying30) Try.underlying65 _ (zeroFi _) rfl rfl H1.out.mF rfl (key8 hU) ?_); rw [hv, hk]; refine hK _ _ ?_) | go_in)
    go_wp2
    go_ret
    refine ⟨rfl, ?_⟩
    (repeat (first | exact Ext.refl _ | refine Ext.alloc ?_ _ | refine Ext.drewN ?_ _ | refine Ext.drew ?_ | refine Ext.trans ?_ (Hid.out (by assumption))))
end Go.Proofs.Ytjggjkmafcokjaa
