/- Whether two lists of events hold the same: the walk of the statement's events. -/
import Derived.Test.YtiifflojpoobpaaSame15
import Derived.Test.YtiifflojpoobpaaEvs15
import Derived.Deep.RegionHeld3
set_option linter.unusedVariables false
set_option linter.unusedSimpArgs false
namespace Go.Proofs.Ytiifflojpoobpaa
open Go.RowKit
set_option maxHeartbeats 2000000 in
/-- Lists that are the same data are told to be the same. -/
theorem same_evs (a1 a2 : Option Addr) (n1 n2 c1 c2 : Nat) (xs ys : List EvV) (w : World) (hX : EvsV w a1 n1 c1 xs) (hY : EvsV w a2 n2 c2 ys) (hxy : xs.map (·.ats) = ys.map (·.ats)) :
    Calls Try.prog 13 #[.slice a1 n1 c1, .slice a2 n2 c2] w fun e w' => e = .returned (.bool true) ∧ Ext w w' := by
  have hlen : xs.length = ys.length := by rw [← List.length_map (f := (·.ats)), hxy, List.length_map]
  have h2 := hY.sl.neq
  obtain rfl := hX.sl.neq
  rw [← hlen] at h2
  subst h2
  have hm := hX.sl.max
  have hl := hX.sl.len
  unfold maxLen at hm
  have HX := hid hX
  have HY := hid hY
  have HXY := hid hxy
  have HLEN := hid hlen
  clear hX hY hxy hlen
  go_enter Try.func13, Try.ntmps13
  go_wp2_with fail
  go_loopg [5] (xs.length) (fun g st wr => ∃ k : Nat, g + k = xs.length ∧ st = .int .i64 k ∧ Hid (Ext w wr))
  case atStart => exact ⟨0, by omega, rfl, Ext.refl _⟩
  case round =>
    obtain ⟨k, hg, rfl, hx⟩ := hrel
    by_cases hk : k < xs.length
    · have hk2 : k < ys.length := by rw [← HLEN.out]; exact hk
      obtain ⟨b, o, rfl, hc⟩ := HX.out.sl.get k hk
      have d0 := cells1 (w := wr) (b := b) (o := o + k * 1) (x := xs[k]) (fun j v hj => hx.out.keep (hc j v hj))
      obtain ⟨b', o', rfl, hc'⟩ := HY.out.sl.get k hk2
      have d1 := cells1 (w := wr) (b := b') (o := o' + k * 1) (x := ys[k]) (fun j v hj => hx.out.keep (hc' j v hj))
      rw [Nat.mul_one] at d0 d1
      clear hc hc'
      have b0 : (0 : Int) ≤ (k : Int) := by omega
      have b1 : (k : Int) < (xs.length : Int) := by omega
      have HE := hid (show xs[k].ats = ys[k].ats by
        have h1 : (xs.map (·.ats))[k]? = (ys.map (·.ats))[k]? := by rw [HXY.out]
        rw [List.getElem?_map, List.getElem?_map, List.getElem?_eq_getElem hk, List.getElem?_eq_getElem hk2] at h1
        simpa using h1)
      go_wp2_with fail
      go_region_held3 (fun w' => w'.cell? ⟨b, o + k, none⟩ = some (.slice xs[k].v.a xs[k].v.n xs[k].v.c) ∧ w'.cell? ⟨b', o' + k, none⟩ = some (.slice ys[k].v.a ys[k].v.n ys[k].v.c)) (first | (go_split_ands; refine ⟨?_, ?_⟩ <;> exact (Hid.out hy).keep (by assumption)) | go_keep) (first | (go_at_call 30; refine (sameA_any _ _ _ _ _ _ xs[k].ats _ ((HX.out.ats xs[k] (List.getElem_mem hk)).ext (by (repeat (first | exact Ext.refl _ | refine Ext.alloc ?_ _ | refine Ext.drewN ?_ _ | refine Ext.drew ?_ | refine Ext.trans ?_ (Hid.out (by assumption)))))) (by rw [HE.out]; exact (HY.out.ats ys[k] (List.getElem_mem hk2)).ext (by (repeat (first | exact Ext.refl _ | refine Ext.alloc ?_ _ | refine Ext.drewN ?_ _ | refine Ext.drew ?_ | refine Ext.trans ?_ (Hid.out (by assumption))))))).mono ?_; rintro e w1 ⟨rfl, hb⟩; have hy := hid hb; clear hb))
      go_wp2
      go_roundg (gk - 1)
      case measure => omega
      case rel => exact ⟨k + 1, by omega, by go_num, (by (repeat (first | exact Ext.refl _ | refine Ext.alloc ?_ _ | refine Ext.drewN ?_ _ | refine Ext.drew ?_ | refine Ext.trans ?_ (Hid.out (by assumption)))))⟩
    · go_wp2
      go_ret
      refine ⟨rfl, ?_⟩
      (repeat (first | exact Ext.refl _ | refine Ext.alloc ?_ _ | refine Ext.drewN ?_ _ | refine Ext.drew ?_ | refine Ext.trans ?_ (Hid.out (by assumption))))
end Go.Proofs.Ytiifflojpoobpaa
