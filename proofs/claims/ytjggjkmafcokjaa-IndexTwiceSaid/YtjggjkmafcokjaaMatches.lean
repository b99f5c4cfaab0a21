/- Whether all tests of a filter hold: the walk of filter's Matches. -/
import Derived.Test.YtjggjkmafcokjaaHolds
set_option linter.unusedVariables false
set_option linter.unusedSimpArgs false
namespace Go.Proofs.Ytjggjkmafcokjaa
open Go.RowKit

def matchesT (f : List T) (xs : List AT) : Bool := f.all fun t => holdsT t xs
theorem all_take {α : Type} {p : α → Bool} {xs : List α} {k : Nat} (hk : k < xs.length) (h : (xs.take k).all p = true) (he : p xs[k] = true) : (xs.take (k + 1)).all p = true := by
  rw [List.take_succ_eq_append_getElem hk, List.all_append, h]; simp [he]
theorem all_no {α : Type} {p : α → Bool} {xs : List α} {k : Nat} (hk : k < xs.length) (he : p xs[k] = false) : false = xs.all p := by
  rw [eq_comm, List.all_eq_false]; exact ⟨xs[k], List.getElem_mem hk, by rw [he]; decide⟩
set_option maxHeartbeats 1000000 in
theorem matches_any (fa : Option Addr) (fn fc : Nat) (fs : List T) (a : Option Addr) (n cap : Nat) (xs : List AT) (w : World) (hF : Sl w 5 T.cs fa fn fc fs) (hS : Sl w 4 AT.cs a n cap xs) :
    Calls Try.prog 26 #[.slice fa fn fc, .slice a n cap] w fun e w' => e = .returned (.bool (matchesT fs xs)) ∧ Ext w w' := by
  obtain rfl := hF.neq
  have hm := hF.max
  have hl := hF.len
  unfold maxLen at hm
  have HF := hid hF
  have HS := hid hS
  clear hF hS
  go_enter Try.func26, Try.ntmps26
  go_wp2_with fail
  go_step3
  go_wp2_with fail
  go_step3
  go_wp2_with fail
  go_loopg [5, 10] (fs.length) (fun g al st wr => ∃ k : Nat, g + k = fs.length ∧ st = .int .i64 k ∧ al = .bool true ∧ Hid ((fs.take k).all (fun t => holdsT t xs) = true) ∧ Hid (Ext w wr))
  case atStart => exact ⟨0, by omega, rfl, rfl, rfl, Ext.refl _⟩
  case round =>
    obtain ⟨k, hg, rfl, rfl, hok, hx⟩ := hrel
    by_cases hk : k < fs.length
    · obtain ⟨b, o, rfl, hc⟩ := HF.out.get k hk
      obtain ⟨c0, c1, c2, c3, c4⟩ := cellsT (w := wr) (b := b) (o := o + k * 5) (x := fs[k]) (fun j v hj => hx.out.keep (hc j v hj))
      clear hc
      have b0 : (0 : Int) ≤ (k : Int) := by omega
      have b1 : (k : Int) < (fs.length : Int) := by omega
      cases he : holdsT fs[k] xs with
      | false =>
        have He := hid he
        clear he
        go_wp2_with (go_at_call 36; refine (holds_any fs[k] _ _ _ xs _ (HS.out.ext (by (repeat (first | exact Ext.refl _ | refine Ext.alloc ?_ _ | refine Ext.drewN ?_ _ | refine Ext.drew ?_ | refine Ext.trans ?_ (Hid.out (by assumption))))))).mono ?_; rintro e w' ⟨he, hb⟩; rw [He.out] at he; subst he; have hy := hid hb; clear hb)
        first | rw [Exit.noGoto_ret] | skip
        go_ret
        refine ⟨ret_bool (all_no (p := fun t => holdsT t xs) hk He.out), ?_⟩
        (repeat (first | exact Ext.refl _ | refine Ext.alloc ?_ _ | refine Ext.drewN ?_ _ | refine Ext.drew ?_ | refine Ext.trans ?_ (Hid.out (by assumption))))
      | true =>
        have He := hid he
        clear he
        go_wp2_with (go_at_call 36; refine (holds_any fs[k] _ _ _ xs _ (HS.out.ext (by (repeat (first | exact Ext.refl _ | refine Ext.alloc ?_ _ | refine Ext.drewN ?_ _ | refine Ext.drew ?_ | refine Ext.trans ?_ (Hid.out (by assumption))))))).mono ?_; rintro e w' ⟨he, hb⟩; rw [He.out] at he; subst he; have hy := hid hb; clear hb)
        go_roundg (gk - 1)
        case measure => omega
        case rel => exact ⟨k + 1, by omega, by go_num, rfl, all_take (p := fun t => holdsT t xs) hk hok.out He.out, (by (repeat (first | exact Ext.refl _ | refine Ext.alloc ?_ _ | refine Ext.drewN ?_ _ | refine Ext.drew ?_ | refine Ext.trans ?_ (Hid.out (by assumption)))))⟩
    · have hk' : fs.take k = fs := List.take_of_length_le (by omega)
      rw [hk'] at hok
      clear hk'
      go_wp2
      first | rw [Exit.noGoto_ret] | skip
      go_ret
      refine ⟨ret_bool hok.out.symm, ?_⟩
      (repeat (first | exact Ext.refl _ | refine Ext.alloc ?_ _ | refine Ext.drewN ?_ _ | refine Ext.drew ?_ | refine Ext.trans ?_ (Hid.out (by assumption))))
end Go.Proofs.Ytjggjkmafcokjaa
