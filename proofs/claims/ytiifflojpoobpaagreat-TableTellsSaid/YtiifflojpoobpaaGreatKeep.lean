/- Those members of a list that are asked for: the walks of the program's keep, at subscriptions and at events. -/
import Derived.Test.YtiifflojpoobpaaGreatSub
set_option linter.unusedVariables false
set_option linter.unusedSimpArgs false
namespace Go.Proofs.YtiifflojpoobpaaGreat
open Go.RowKit

theorem infoS : (Tryz.prog.info? 57).map (fun i => (i.zero, i.size, i.bytes)) = some (some (.agg #[.int .i64 0, .int .u64 0, .slice none 0 0]), 3, 40) := by kernel_rfl
theorem infoEv : (Tryz.prog.info? 55).map (fun i => (i.zero, i.size, i.bytes)) = some (some (.slice none 0 0), 1, 24) := by kernel_rfl
theorem filt_yes {α : Type} {p : α → Bool} {xs : List α} {k : Nat} (hk : k < xs.length) (h : p xs[k] = true) : (xs.take (k + 1)).filter p = (xs.take k).filter p ++ [xs[k]] := by
  rw [List.take_succ_eq_append_getElem hk, List.filter_append]; simp [h]
theorem filt_no {α : Type} {p : α → Bool} {xs : List α} {k : Nat} (hk : k < xs.length) (h : p xs[k] = false) : (xs.take (k + 1)).filter p = (xs.take k).filter p := by
  rw [List.take_succ_eq_append_getElem hk, List.filter_append]; simp [h]
set_option maxHeartbeats 1000000 in
theorem keepS0_any (a : Option Addr) (n cap : Nat) (xs : List SB) (p : SB → Bool) (fn : Nat) (q : Unit) (w : World) (hS : Sl w 3 SB.cs a n cap xs) (hn : n ≤ 100000)
    (hf : ∀ args w, (callFunc fn args).run Tryz.prog w = .ok (.enter fn args) w)
    (hp : ∀ x, x ∈ xs → ∀ w', Ext w w' → Calls Tryz.prog fn #[.agg #[.int .i64 x.c, .int .u64 x.u, .slice x.f.a x.f.n x.f.c]] w' fun e w'' => e = .returned (.bool (p x)) ∧ Ext w' w'') :
    Calls Tryz.prog 26 #[.slice a n cap, .func (.func fn) #[] #[]] w (RetOwn 57 3 SB.cs (xs.filter p) w) := by
  obtain ⟨i0, hi, hz0, hz1, hz2⟩ := info_parts infoS
  obtain rfl := hS.neq
  have hm := hS.max
  have hl := hS.len
  unfold maxLen at hm
  have HS := hid hS
  have HP := hid hp
  have I1 := hid hi
  have I2 := hid hz0
  have I3 := hid hz1
  have I4 := hid hz2
  clear hS hp hi hz0 hz1 hz2
  go_enter Tryz.func26, Tryz.ntmps26
  go_wp2_with fail
  go_loopg [5, 10] (xs.length) (fun g ov st wr => ∃ (k : Nat) (aa : Option Addr) (m cp : Nat), g + k = xs.length ∧ st = .int .i64 k ∧ ov = .slice aa m cp ∧ m ≤ k ∧ Hid (Own wr w.heap.size 57 3 SB.cs aa m cp ((xs.take k).filter p)) ∧ Hid (Ext w wr))
  case atStart => exact ⟨0, none, 0, 0, by omega, rfl, rfl, by omega, Own.nil _ _ _ SB.wid, Ext.refl _⟩
  case round =>
    obtain ⟨k, aa, m, cp, hg, rfl, rfl, hmk, hown, hx⟩ := hrel
    have hy1 := hown.out.sl.len
    have hy2 := hown.out.sl.max
    unfold maxLen at hy2
    by_cases hk : k < xs.length
    · obtain ⟨b, o, rfl, hc⟩ := HS.out.get k hk
      obtain ⟨c0, c1, c2⟩ := cellsSB (w := wr) (b := b) (o := o + k * 3) (x := xs[k]) (fun j v hj => hx.out.keep (hc j v hj))
      clear hc
      have b0 : (0 : Int) ≤ (k : Int) := by omega
      have b1 : (k : Int) < (xs.length : Int) := by omega
      cases he : p xs[k] with
      | true =>
        have He := hid he
        clear he
        go_wp2_with fail
        refine (HP.out xs[k] (List.getElem_mem hk) _ (hx.out.alloc _)).mono ?_
        rintro e w1 ⟨rfl, hb⟩
        have d0 : w1.cell? ⟨wr.heap.size, 0, none⟩ = some (.int .i64 xs[k].c) := hb.keep (by simp)
        have d1 : w1.cell? ⟨wr.heap.size, 1, none⟩ = some (.int .u64 xs[k].u) := hb.keep (by simp)
        have d2 : w1.cell? ⟨wr.heap.size, 2, none⟩ = some (.slice xs[k].f.a xs[k].f.n xs[k].f.c) := hb.keep (by simp)
        have hy := hid hb
        clear hb
        rw [He.out]
        go_wp2_with (at_builtin; refine app1 (ys := (xs.take k).filter p) rfl (.tmp 17) (.tmp 19) 34 rfl i0 _ 40 Tryz.underlying34 I1.out I2.out I3.out I4.out rfl (by decide) rfl (hown.out.ext (by (repeat (first | exact Ext.refl _ | refine Ext.alloc ?_ _ | refine Ext.drewN ?_ _ | refine Ext.drew ?_ | refine Ext.trans ?_ (Hid.out (by assumption)))))) xs[k] _ rfl (news_alloc (cs := SB.cs xs[k]) rfl) (SB.one _) (by omega) (by decide) (Ext.size (by (repeat (first | exact Ext.refl _ | refine Ext.alloc ?_ _ | refine Ext.drewN ?_ _ | refine Ext.drew ?_ | refine Ext.trans ?_ (Hid.out (by assumption)))))) ?_; intro g cap' w3 hown3 hgrow; have HO3 := hid hown3; have HG := hid hgrow; clear hown3 hgrow)
        go_roundg (gk - 1)
        case measure => omega
        case rel => exact ⟨k + 1, _, _, _, by omega, by go_num, rfl, by omega, by (rw [filt_yes hk He.out]; exact HO3.out), HG.out.ext (hown.out.ext (by (repeat (first | exact Ext.refl _ | refine Ext.alloc ?_ _ | refine Ext.drewN ?_ _ | refine Ext.drew ?_ | refine Ext.trans ?_ (Hid.out (by assumption)))))) (Nat.le_refl _) (by (repeat (first | exact Ext.refl _ | refine Ext.alloc ?_ _ | refine Ext.drewN ?_ _ | refine Ext.drew ?_ | refine Ext.trans ?_ (Hid.out (by assumption)))))⟩
      | false =>
        have He := hid he
        clear he
        go_wp2_with fail
        refine (HP.out xs[k] (List.getElem_mem hk) _ (hx.out.alloc _)).mono ?_
        rintro e w1 ⟨rfl, hb⟩
        have hy := hid hb
        clear hb
        rw [He.out]
        go_wp2
        go_roundg (gk - 1)
        case measure => omega
        case rel => exact ⟨k + 1, aa, m, cp, by omega, by go_num, rfl, by omega, by (rw [filt_no hk He.out]; exact hown.out.ext (by (repeat (first | exact Ext.refl _ | refine Ext.alloc ?_ _ | refine Ext.drewN ?_ _ | refine Ext.drew ?_ | refine Ext.trans ?_ (Hid.out (by assumption)))))), (by (repeat (first | exact Ext.refl _ | refine Ext.alloc ?_ _ | refine Ext.drewN ?_ _ | refine Ext.drew ?_ | refine Ext.trans ?_ (Hid.out (by assumption)))))⟩
    · have hk' : xs.take k = xs := List.take_of_length_le (by omega)
      rw [hk'] at hown
      clear hk'
      go_wp2
      go_ret
      exact ⟨aa, m, cp, rfl, hown.out, (by (repeat (first | exact Ext.refl _ | refine Ext.alloc ?_ _ | refine Ext.drewN ?_ _ | refine Ext.drew ?_ | refine Ext.trans ?_ (Hid.out (by assumption)))))⟩
set_option maxHeartbeats 1000000 in
theorem keepS_any (a : Option Addr) (n cap : Nat) (xs : List SB) (p : SB → Bool) (fn : Nat) (cp0 : Addr) (w : World) (hS : Sl w 3 SB.cs a n cap xs) (hn : n ≤ 100000)
    (hf : ∀ args w, (callFunc fn args).run Tryz.prog w = .ok (.enter fn args) w)
    (hp : ∀ x, x ∈ xs → ∀ w', Ext w w' → Calls Tryz.prog fn #[.agg #[.int .i64 x.c, .int .u64 x.u, .slice x.f.a x.f.n x.f.c], .pointer (some cp0)] w' fun e w'' => e = .returned (.bool (p x)) ∧ Ext w' w'') :
    Calls Tryz.prog 26 #[.slice a n cap, .func (.func fn) #[] #[.pointer (some cp0)]] w (RetOwn 57 3 SB.cs (xs.filter p) w) := by
  obtain ⟨i0, hi, hz0, hz1, hz2⟩ := info_parts infoS
  obtain rfl := hS.neq
  have hm := hS.max
  have hl := hS.len
  unfold maxLen at hm
  have HS := hid hS
  have HP := hid hp
  have I1 := hid hi
  have I2 := hid hz0
  have I3 := hid hz1
  have I4 := hid hz2
  clear hS hp hi hz0 hz1 hz2
  go_enter Tryz.func26, Tryz.ntmps26
  go_wp2_with fail
  go_loopg [5, 10] (xs.length) (fun g ov st wr => ∃ (k : Nat) (aa : Option Addr) (m cp : Nat), g + k = xs.length ∧ st = .int .i64 k ∧ ov = .slice aa m cp ∧ m ≤ k ∧ Hid (Own wr w.heap.size 57 3 SB.cs aa m cp ((xs.take k).filter p)) ∧ Hid (Ext w wr))
  case atStart => exact ⟨0, none, 0, 0, by omega, rfl, rfl, by omega, Own.nil _ _ _ SB.wid, Ext.refl _⟩
  case round =>
    obtain ⟨k, aa, m, cp, hg, rfl, rfl, hmk, hown, hx⟩ := hrel
    have hy1 := hown.out.sl.len
    have hy2 := hown.out.sl.max
    unfold maxLen at hy2
    by_cases hk : k < xs.length
    · obtain ⟨b, o, rfl, hc⟩ := HS.out.get k hk
      obtain ⟨c0, c1, c2⟩ := cellsSB (w := wr) (b := b) (o := o + k * 3) (x := xs[k]) (fun j v hj => hx.out.keep (hc j v hj))
      clear hc
      have b0 : (0 : Int) ≤ (k : Int) := by omega
      have b1 : (k : Int) < (xs.length : Int) := by omega
      cases he : p xs[k] with
      | true =>
        have He := hid he
        clear he
        go_wp2_with fail
        refine (HP.out xs[k] (List.getElem_mem hk) _ (hx.out.alloc _)).mono ?_
        rintro e w1 ⟨rfl, hb⟩
        have d0 : w1.cell? ⟨wr.heap.size, 0, none⟩ = some (.int .i64 xs[k].c) := hb.keep (by simp)
        have d1 : w1.cell? ⟨wr.heap.size, 1, none⟩ = some (.int .u64 xs[k].u) := hb.keep (by simp)
        have d2 : w1.cell? ⟨wr.heap.size, 2, none⟩ = some (.slice xs[k].f.a xs[k].f.n xs[k].f.c) := hb.keep (by simp)
        have hy := hid hb
        clear hb
        rw [He.out]
        go_wp2_with (at_builtin; refine app1 (ys := (xs.take k).filter p) rfl (.tmp 17) (.tmp 19) 34 rfl i0 _ 40 Tryz.underlying34 I1.out I2.out I3.out I4.out rfl (by decide) rfl (hown.out.ext (by (repeat (first | exact Ext.refl _ | refine Ext.alloc ?_ _ | refine Ext.drewN ?_ _ | refine Ext.drew ?_ | refine Ext.trans ?_ (Hid.out (by assumption)))))) xs[k] _ rfl (news_alloc (cs := SB.cs xs[k]) rfl) (SB.one _) (by omega) (by decide) (Ext.size (by (repeat (first | exact Ext.refl _ | refine Ext.alloc ?_ _ | refine Ext.drewN ?_ _ | refine Ext.drew ?_ | refine Ext.trans ?_ (Hid.out (by assumption)))))) ?_; intro g cap' w3 hown3 hgrow; have HO3 := hid hown3; have HG := hid hgrow; clear hown3 hgrow)
        go_roundg (gk - 1)
        case measure => omega
        case rel => exact ⟨k + 1, _, _, _, by omega, by go_num, rfl, by omega, by (rw [filt_yes hk He.out]; exact HO3.out), HG.out.ext (hown.out.ext (by (repeat (first | exact Ext.refl _ | refine Ext.alloc ?_ _ | refine Ext.drewN ?_ _ | refine Ext.drew ?_ | refine Ext.trans ?_ (Hid.out (by assumption)))))) (Nat.le_refl _) (by (repeat (first | exact Ext.refl _ | refine Ext.alloc ?_ _ | refine Ext.drewN ?_ _ | refine Ext.drew ?_ | refine Ext.trans ?_ (Hid.out (by assumption)))))⟩
      | false =>
        have He := hid he
        clear he
        go_wp2_with fail
        refine (HP.out xs[k] (List.getElem_mem hk) _ (hx.out.alloc _)).mono ?_
        rintro e w1 ⟨rfl, hb⟩
        have hy := hid hb
        clear hb
        rw [He.out]
        go_wp2
        go_roundg (gk - 1)
        case measure => omega
        case rel => exact ⟨k + 1, aa, m, cp, by omega, by go_num, rfl, by omega, by (rw [filt_no hk He.out]; exact hown.out.ext (by (repeat (first | exact Ext.refl _ | refine Ext.alloc ?_ _ | refine Ext.drewN ?_ _ | refine Ext.drew ?_ | refine Ext.trans ?_ (Hid.out (by assumption)))))), (by (repeat (first | exact Ext.refl _ | refine Ext.alloc ?_ _ | refine Ext.drewN ?_ _ | refine Ext.drew ?_ | refine Ext.trans ?_ (Hid.out (by assumption)))))⟩
    · have hk' : xs.take k = xs := List.take_of_length_le (by omega)
      rw [hk'] at hown
      clear hk'
      go_wp2
      go_ret
      exact ⟨aa, m, cp, rfl, hown.out, (by (repeat (first | exact Ext.refl _ | refine Ext.alloc ?_ _ | refine Ext.drewN ?_ _ | refine Ext.drew ?_ | refine Ext.trans ?_ (Hid.out (by assumption)))))⟩
set_option maxHeartbeats 1000000 in
theorem keepE_any (a : Option Addr) (n cap : Nat) (xs : List EvV) (p : EvV → Bool) (fn : Nat) (cp0 : Addr) (w : World) (hS : Sl w 1 EvV.cs a n cap xs) (hn : n ≤ 100000) (cb : Array Value) (hcb : cb = #[.pointer (some cp0)])
    (hf : ∀ args w, (callFunc fn args).run Tryz.prog w = .ok (.enter fn args) w)
    (hp : ∀ x, x ∈ xs → ∀ w', Ext w w' → Calls Tryz.prog fn #[.slice x.v.a x.v.n x.v.c, .pointer (some cp0)] w' fun e w'' => e = .returned (.bool (p x)) ∧ Ext w' w'') :
    Calls Tryz.prog 41 #[.slice a n cap, .func (.func fn) #[] #[.pointer (some cp0)]] w (RetOwn 55 1 EvV.cs (xs.filter p) w) := by
  obtain ⟨i0, hi, hz0, hz1, hz2⟩ := info_parts infoEv
  obtain rfl := hS.neq
  have hm := hS.max
  have hl := hS.len
  unfold maxLen at hm
  have HS := hid hS
  have HP := hid hp
  have I1 := hid hi
  have I2 := hid hz0
  have I3 := hid hz1
  have I4 := hid hz2
  clear hS hp hi hz0 hz1 hz2
  go_enter Tryz.func41, Tryz.ntmps41
  go_wp2_with fail
  go_loopg [5, 10] (xs.length) (fun g ov st wr => ∃ (k : Nat) (aa : Option Addr) (m cp : Nat), g + k = xs.length ∧ st = .int .i64 k ∧ ov = .slice aa m cp ∧ m ≤ k ∧ Hid (Own wr w.heap.size 55 1 EvV.cs aa m cp ((xs.take k).filter p)) ∧ Hid (Ext w wr))
  case atStart => exact ⟨0, none, 0, 0, by omega, rfl, rfl, by omega, Own.nil _ _ _ EvV.wid, Ext.refl _⟩
  case round =>
    obtain ⟨k, aa, m, cp, hg, rfl, rfl, hmk, hown, hx⟩ := hrel
    have hy1 := hown.out.sl.len
    have hy2 := hown.out.sl.max
    unfold maxLen at hy2
    by_cases hk : k < xs.length
    · obtain ⟨b, o, rfl, hc⟩ := HS.out.get k hk
      have c0 := cells1 (w := wr) (b := b) (o := o + k * 1) (x := xs[k]) (fun j v hj => hx.out.keep (hc j v hj))
      rw [Nat.mul_one] at c0
      clear hc
      have b0 : (0 : Int) ≤ (k : Int) := by omega
      have b1 : (k : Int) < (xs.length : Int) := by omega
      cases he : p xs[k] with
      | true =>
        have He := hid he
        clear he
        go_wp2_with fail
        refine (HP.out xs[k] (List.getElem_mem hk) _ hx.out).mono ?_
        rintro e w1 ⟨rfl, hb⟩
        have hy := hid hb
        clear hb
        rw [He.out]
        go_wp2_with (at_builtin; refine app1 (ys := (xs.take k).filter p) rfl (.tmp 17) (.tmp 19) 29 rfl i0 _ 24 Tryz.underlying29 I1.out I2.out I3.out I4.out rfl (by decide) rfl (hown.out.ext (by (repeat (first | exact Ext.refl _ | refine Ext.alloc ?_ _ | refine Ext.drewN ?_ _ | refine Ext.drew ?_ | refine Ext.trans ?_ (Hid.out (by assumption)))))) xs[k] _ rfl (news_alloc (cs := EvV.cs xs[k]) rfl) (EvV.one _) (by omega) (by decide) (Ext.size (by (repeat (first | exact Ext.refl _ | refine Ext.alloc ?_ _ | refine Ext.drewN ?_ _ | refine Ext.drew ?_ | refine Ext.trans ?_ (Hid.out (by assumption)))))) ?_; intro g cap' w3 hown3 hgrow; have HO3 := hid hown3; have HG := hid hgrow; clear hown3 hgrow)
        go_roundg (gk - 1)
        case measure => omega
        case rel => exact ⟨k + 1, _, _, _, by omega, by go_num, rfl, by omega, by (rw [filt_yes hk He.out]; exact HO3.out), HG.out.ext (hown.out.ext (by (repeat (first | exact Ext.refl _ | refine Ext.alloc ?_ _ | refine Ext.drewN ?_ _ | refine Ext.drew ?_ | refine Ext.trans ?_ (Hid.out (by assumption)))))) (Nat.le_refl _) (by (repeat (first | exact Ext.refl _ | refine Ext.alloc ?_ _ | refine Ext.drewN ?_ _ | refine Ext.drew ?_ | refine Ext.trans ?_ (Hid.out (by assumption)))))⟩
      | false =>
        have He := hid he
        clear he
        go_wp2_with fail
        refine (HP.out xs[k] (List.getElem_mem hk) _ hx.out).mono ?_
        rintro e w1 ⟨rfl, hb⟩
        have hy := hid hb
        clear hb
        rw [He.out]
        go_wp2
        go_roundg (gk - 1)
        case measure => omega
        case rel => exact ⟨k + 1, aa, m, cp, by omega, by go_num, rfl, by omega, by (rw [filt_no hk He.out]; exact hown.out.ext (by (repeat (first | exact Ext.refl _ | refine Ext.alloc ?_ _ | refine Ext.drewN ?_ _ | refine Ext.drew ?_ | refine Ext.trans ?_ (Hid.out (by assumption)))))), (by (repeat (first | exact Ext.refl _ | refine Ext.alloc ?_ _ | refine Ext.drewN ?_ _ | refine Ext.drew ?_ | refine Ext.trans ?_ (Hid.out (by assumption)))))⟩
    · have hk' : xs.take k = xs := List.take_of_length_le (by omega)
      rw [hk'] at hown
      clear hk'
      go_wp2
      go_ret
      exact ⟨aa, m, cp, rfl, hown.out, (by (repeat (first | exact Ext.refl _ | refine Ext.alloc ?_ _ | refine Ext.drewN ?_ _ | refine Ext.drew ?_ | refine Ext.trans ?_ (Hid.out (by assumption)))))⟩
end Go.Proofs.YtiifflojpoobpaaGreat
