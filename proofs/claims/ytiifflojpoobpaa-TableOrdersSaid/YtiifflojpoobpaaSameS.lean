/- Two lists of subscriptions that hold the same: the walk of the document's Same. -/
import Derived.Test.YtiifflojpoobpaaSame15
import Derived.Test.YtiifflojpoobpaaSub
import Derived.Deep.RegionHeld3
set_option linter.unusedVariables false
set_option linter.unusedSimpArgs false
namespace Go.Proofs.Ytiifflojpoobpaa
open Go.RowKit

set_option maxRecDepth 100000 in
set_option maxHeartbeats 2000000 in
/-- Lists that are the same data are told to be the same. -/
theorem sameS_any (a1 a2 : Option Addr) (n1 n2 c1 c2 : Nat) (xs ys : List SB) (w : World) (hX : Subs w a1 n1 c1 xs) (hY : Subs w a2 n2 c2 ys) (hxy : xs.map SB.d = ys.map SB.d) :
    Calls Try.prog 15 #[.slice a1 n1 c1, .slice a2 n2 c2] w fun e w' => e = .returned (.bool true) ∧ Ext w w' := by
  have hlen : xs.length = ys.length := by rw [← List.length_map (f := SB.d), hxy, List.length_map]
  have h2 := hY.sl.neq
  obtain rfl := hX.sl.neq
  rw [← hlen] at h2
  subst h2
  have hm := hX.sl.max
  have hl := hX.sl.len
  unfold maxLen at hm
  have HX := hid hX
  have HY := hid hY
  have HXY := hid hxy
  have HLEN := hid hlen
  clear hX hY hxy hlen
  go_enter Try.func15, Try.ntmps15
  go_wp2_with fail
  go_loopg [5, 6] (xs.length) (fun g st sv wr => ∃ k : Nat, g + k = xs.length ∧ st = .int .i64 k ∧ Hid (Ext w wr))
  case atStart => exact ⟨0, by omega, rfl, Ext.refl _⟩
  case round =>
    obtain ⟨k, hg, rfl, hx⟩ := hrel
    by_cases hk : k < xs.length
    · have hk2 : k < ys.length := by rw [← HLEN.out]; exact hk
      have HE := hid (show xs[k].d = ys[k].d from by
        have h1 : (xs.map SB.d)[k]? = (ys.map SB.d)[k]? := by rw [HXY.out]
        rw [List.getElem?_map, List.getElem?_map, List.getElem?_eq_getElem hk, List.getElem?_eq_getElem hk2] at h1
        simpa using h1)
      obtain ⟨b, o, rfl, hc⟩ := HX.out.sl.get k hk
      have hcx := fun (wx : World) (hw : Ext w wx) => cellsSB (w := wx) (b := b) (o := o + k * 3) (x := xs[k]) (fun j v hj => hw.keep (hc j v hj))
      obtain ⟨b', o', rfl, hc'⟩ := HY.out.sl.get k hk2
      have hcy := fun (wx : World) (hw : Ext w wx) => cellsSB (w := wx) (b := b') (o := o' + k * 3) (x := ys[k]) (fun j v hj => hw.keep (hc' j v hj))
      rw [show ys[k].c = xs[k].c from (congrArg SD.c HE.out).symm, show ys[k].u = xs[k].u from (congrArg SD.u HE.out).symm] at hcy
      have HTS := hid (show ys[k].ts = xs[k].ts from (congrArg SD.ts HE.out).symm)
      have HCX := hid hcx
      have HCY := hid hcy
      clear hc hc' hcx hcy
      obtain ⟨d0, d1, d2⟩ := HCX.out wr hx.out
      obtain ⟨e0, e1, e2⟩ := HCY.out wr hx.out
      have b0 : (0 : Int) ≤ (k : Int) := by omega
      have b1 : (k : Int) < (xs.length : Int) := by omega
      go_wp2_with fail
      go_region_held3 (fun w' => w'.cell? ⟨b, (o + k * 3), none⟩ = some (.int .i64 xs[k].c) ∧ w'.cell? ⟨b, (o + k * 3) + 1, none⟩ = some (.int .u64 xs[k].u) ∧ w'.cell? ⟨b, (o + k * 3) + 2, none⟩ = some (.slice xs[k].f.a xs[k].f.n xs[k].f.c) ∧ w'.cell? ⟨b', (o' + k * 3), none⟩ = some (.int .i64 xs[k].c) ∧ w'.cell? ⟨b', (o' + k * 3) + 1, none⟩ = some (.int .u64 xs[k].u) ∧ w'.cell? ⟨b', (o' + k * 3) + 2, none⟩ = some (.slice ys[k].f.a ys[k].f.n ys[k].f.c)) (first | (go_split_ands; refine ⟨?_, ?_, ?_, ?_, ?_, ?_⟩ <;> exact (Hid.out hy).keep (by assumption)) | go_keep) (first | (go_at_call 29; refine (sameT_any _ _ _ _ _ _ xs[k].ts _ ((HX.out.ts xs[k] (List.getElem_mem hk)).ext (by (repeat (first | exact Ext.refl _ | refine Ext.alloc ?_ _ | refine Ext.drewN ?_ _ | refine Ext.drew ?_ | refine Ext.trans ?_ (Hid.out (by assumption)))))) (by rw [← HTS.out]; exact (HY.out.ts ys[k] (List.getElem_mem hk2)).ext (by (repeat (first | exact Ext.refl _ | refine Ext.alloc ?_ _ | refine Ext.drewN ?_ _ | refine Ext.drew ?_ | refine Ext.trans ?_ (Hid.out (by assumption))))))).mono ?_; rintro e w1 ⟨rfl, hb⟩; have hy := hid hb; clear hb))
      have hxw := hid (show Ext w w1 from (by (repeat (first | exact Ext.refl _ | refine Ext.alloc ?_ _ | refine Ext.drewN ?_ _ | refine Ext.drew ?_ | refine Ext.trans ?_ (Hid.out (by assumption))))))
      clear d0 d1 d2 e0 e1 e2
      obtain ⟨d0, d1, d2⟩ := HCX.out w1 hxw.out
      obtain ⟨e0, e1, e2⟩ := HCY.out w1 hxw.out
      go_wp2_with fail
      go_quiet (fail)
      go_wp2
      go_roundg (gk - 1)
      case measure => omega
      case rel => exact ⟨k + 1, by omega, by go_num, (by (repeat (first | exact Ext.refl _ | refine Ext.alloc ?_ _ | refine Ext.drewN ?_ _ | refine Ext.drew ?_ | refine Ext.trans ?_ (Hid.out (by assumption)))))⟩
    · go_wp2
      go_ret
      refine ⟨rfl, ?_⟩
      (repeat (first | exact Ext.refl _ | refine Ext.alloc ?_ _ | refine Ext.drewN ?_ _ | refine Ext.drew ?_ | refine Ext.trans ?_ (Hid.out (by assumption))))
end Go.Proofs.Ytiifflojpoobpaa
