/- The library's insertion sort of numbers: its walk. -/
import Derived.Test.YtjggjkmafcokjaaOwn8
import Derived.Test.YtjggjkmafcokjaaSegP
import Derived.Test.YtjggjkmafcokjaaQuiet
import Derived.Deep.RegionWith
import Derived.IntWalk
set_option linter.unusedVariables false
set_option linter.unusedSimpArgs false
namespace Go.Proofs.Ytjggjkmafcokjaa
open Go.RowKit

def uC (i : Int) : List Value := [.int .u64 i]
theorem uC.wid (i : Int) : (uC i).length = 1 := rfl
theorem uC.one (i : Int) : ∀ u ∈ uC i, u.oneCell' = true := by intro u hu; simp only [uC, List.mem_singleton] at hu; subst hu; rfl
theorem nan_any (x : Int) (w : World) : Calls Try.prog 87 #[.int .u64 x] w fun e w' => e = .returned (.bool false) ∧ w = w' := by
  go_enter Try.func87, Try.ntmps87
  go_wp2
  go_ret
  exact ⟨rfl, rfl⟩
theorem less8_any (x y : Int) (w : World) : Calls Try.prog 74 #[.int .u64 x, .int .u64 y] w fun e w' => e = .returned (.bool (decide (x < y))) ∧ w' = w := by
  go_enter Try.func74, Try.ntmps74
  go_wp2_with (go_at_call 87; refine (nan_any _ _).mono ?_; rintro e w' ⟨rfl, rfl⟩)
  go_ret
  exact ⟨rfl, rfl⟩
section
variable {w : World} {base g n cap : Nat} {zs : List Int}
theorem rowN_cell (h : Own w base 30 1 uC (some ⟨g, 0, none⟩) n cap zs) {k : Nat} (hk : k < zs.length) : w.cell? ⟨g, k, none⟩ = some (.int .u64 (gN zs k)) := by
  have := h.at0 k hk 0 _ rfl
  rw [gN_at hk]; simpa using this
theorem rowN_set (h : Own w base 30 1 uC (some ⟨g, 0, none⟩) n cap zs) {k : Nat} (hk : k < zs.length) (v : Int) : Own (w.setCell ⟨g, k, none⟩ (.int .u64 v)) base 30 1 uC (some ⟨g, 0, none⟩) n cap (zs.set k v) := by
  have := h.set k zs[k] v (List.getElem?_eq_getElem hk) 0 (by decide) (.int .u64 v) rfl
  simpa using this
theorem rowN_swap1 (h : Own w base 30 1 uC (some ⟨g, 0, none⟩) n cap zs) {i j : Nat} (hi : i < zs.length) (hj : j < zs.length) : Own ((w.setCell ⟨g, i, none⟩ (.int .u64 (gN zs j))).setCell ⟨g, j, none⟩ (.int .u64 (gN zs i))) base 30 1 uC (some ⟨g, 0, none⟩) n cap (swapN zs i j) :=
  rowN_set (rowN_set h hi _) (by rw [List.length_set]; exact hj) _
theorem rowN_swap2 (h : Own w base 30 1 uC (some ⟨g, 0, none⟩) n cap zs) {i j : Nat} (hi : i < zs.length) (hj : j < zs.length) (hne : i ≠ j) : Own ((w.setCell ⟨g, j, none⟩ (.int .u64 (gN zs i))).setCell ⟨g, i, none⟩ (.int .u64 (gN zs j))) base 30 1 uC (some ⟨g, 0, none⟩) n cap (swapN zs i j) := by
  rw [← swapN_comm zs hne]
  exact rowN_set (rowN_set h hj _) (by rw [List.length_set]; exact hi) _
theorem rowN_base (h : Own w base 30 1 uC (some ⟨g, 0, none⟩) n cap zs) : base ≤ g := (h.lt _ rfl).1
end
/-- A call that turns a piece of a row, and nothing else that is old. -/
def SegR (base g n cap : Nat) (ys : List Int) (a b : Nat) (Q : List Int → Prop) (w : World) (e : Ending) (w' : World) : Prop :=
  e = .returned (.tuple #[]) ∧ ∃ zs, Own w' base 30 1 uC (some ⟨g, 0, none⟩) n cap zs ∧ Seg a b zs ys ∧ Q zs ∧ Below base w w'
set_option maxRecDepth 100000 in
set_option maxHeartbeats 4000000 in
theorem ins_any (base g n cap : Nat) (ys : List Int) (a b : Nat) (w : World) (hO : Own w base 30 1 uC (some ⟨g, 0, none⟩) n cap ys) (hab : a ≤ b) (hbn : b ≤ n) (hn6 : n ≤ 1000000) :
    Calls Try.prog 68 #[.slice (some ⟨g, 0, none⟩) n cap, .int .i64 a, .int .i64 b] w (SegR base g n cap ys a b (fun zs => Rise zs a b) w) := by
  have hbg := rowN_base hO
  have hnn := hO.neq
  have hcap := hO.sl.max
  have hlen := hO.sl.len
  unfold maxLen at hcap
  have HN := hid hnn
  have HO := hid hO
  clear hO hnn
  go_enter Try.func68, Try.ntmps68
  go_wp2_with fail
  go_loopg [6, 7] (b - a) (fun gh iv jv wr => ∃ (i : Nat) (zs : List Int), gh + i = b + 1 ∧ a < i ∧ iv = .int .i64 i ∧ Hid (Own wr base 30 1 uC (some ⟨g, 0, none⟩) n cap zs) ∧ Hid (Seg a b zs ys) ∧ Hid (Rise zs a i) ∧ Hid (Below base w wr))
  case atStart => exact ⟨a + 1, ys, by omega, by omega, by go_num, HO.out, Seg.refl _ _ _, Rise.short (by omega), Below.refl _ _⟩
  case round =>
    obtain ⟨i, zs, hg, hai, rfl, ho, hs, hr, hx⟩ := hrel
    obtain ⟨G, hG⟩ : ∃ G, G = gk := ⟨_, rfl⟩
    by_cases hi : i < b
    · have HLZ := hid (show zs.length = n from by rw [hs.out.len, HN.out])
      go_wp2_with fail
      go_loopg [7] (i) (fun gh jv wl => ∃ (j : Nat) (zt : List Int), gh = j ∧ a ≤ j ∧ j ≤ i ∧ jv = .int .i64 j ∧ Hid (Own wl base 30 1 uC (some ⟨g, 0, none⟩) n cap zt) ∧ Hid (Seg a b zt ys) ∧ Hid (Down zt a i j) ∧ Hid (Below base w wl))
      case atStart => exact ⟨i, zs, rfl, by omega, by omega, rfl, ho.out, hs.out, Down.start hr.out (by omega), hx.out⟩
      case round =>
        obtain ⟨j, zt, hgj, haj, hji, rfl, hot, hst, hd, hxl⟩ := hrel
        rename World => wl
        have HLT := hid (show zt.length = n from by rw [hst.out.len, HN.out])
        have b0 : (0 : Int) ≤ (j : Int) := by omega
        have b1 : (j : Int) < (n : Int) := by omega
        by_cases hj : a < j
        · have q0 : decide (a < j) = true := decide_eq_true hj
          have b2 : (0 : Int) ≤ (j : Int) - 1 := by omega
          have b3 : (1 : Int) ≤ (j : Int) := by omega
          have b4 : (j : Int) - 1 < (n : Int) := by omega
          have b5 : ((j : Int) - 1).toNat = j - 1 := by omega
          have b6 : IntKind.i64.wrap ((j : Int) - 1) = (j : Int) - 1 := IntWalk.i64_in _ (by omega)
          have c0 := rowN_cell hot.out (k := j) (by rw [HLT.out]; omega)
          have c1 := rowN_cell hot.out (k := j - 1) (by rw [HLT.out]; omega)
          have f0 := hot.out.free j
          have f1 := hot.out.free (j - 1)
          by_cases hl : gN zt j < gN zt (j - 1)
          · have q1 : decide (gN zt j < gN zt (j - 1)) = true := decide_eq_true hl
            have HL := hid hl
            clear hl
            go_wp2_with fail
            go_quiet ((go_at_call 74; exact Calls.quiet_of_same (less8_any _ _ _)))
            go_wp2_with fail
            go_region_with (fail)
            all_goals
              go_wp2
              go_roundg (gk - 1)
              case measure => omega
              case rel => exact ⟨j - 1, swapN zt j (j - 1), by omega, by omega, by omega, by (congr 1; omega), hid (by first | exact rowN_swap1 (hot.out.ext (by (repeat (first | exact Ext.refl _ | refine Ext.drewN ?_ _ | refine Ext.drew ?_)))) (by rw [HLT.out]; omega) (by rw [HLT.out]; omega) | exact rowN_swap2 (hot.out.ext (by (repeat (first | exact Ext.refl _ | refine Ext.drewN ?_ _ | refine Ext.drew ?_)))) (by rw [HLT.out]; omega) (by rw [HLT.out]; omega) (by omega)), hid (hst.out.swap haj (by omega) (by omega) (by omega) (by rw [← HN.out]; exact hbn)), hid (hd.out.step hj (by rw [HLT.out]; omega) HL.out), (by (repeat (first | exact (Hid.out (by assumption)) | exact Below.refl _ _ | refine below_drewN ?_ _ | refine Below.drew ?_ | refine Below.setCell ?_ hbg _)))⟩
          · have q1 : decide (gN zt j < gN zt (j - 1)) = false := decide_eq_false hl
            have HL := hid hl
            clear hl
            go_wp2_with fail
            go_quiet ((go_at_call 74; exact Calls.quiet_of_same (less8_any _ _ _)))
            go_wp2
            go_roundg (G - 1)
            case measure => omega
            case rel => exact ⟨i + 1, zt, by omega, by omega, by go_num, hid (hot.out.ext (by (repeat (first | exact Ext.refl _ | refine Ext.drewN ?_ _)))), hst.out, hd.out.done (.inr (by have := HL.out; omega)), (by (repeat (first | exact (Hid.out (by assumption)) | exact Below.refl _ _ | refine below_drewN ?_ _ | refine Below.drew ?_ | refine Below.setCell ?_ hbg _)))⟩
        · have q0 : decide (a < j) = false := decide_eq_false hj
          go_wp2_with fail
          go_quiet (fail)
          go_wp2
          go_roundg (G - 1)
          case measure => omega
          case rel => exact ⟨i + 1, zt, by omega, by omega, by go_num, hid (hot.out.ext (by (repeat (first | exact Ext.refl _ | refine Ext.drewN ?_ _)))), hst.out, hd.out.done (.inl (by omega)), (by (repeat (first | exact (Hid.out (by assumption)) | exact Below.refl _ _ | refine below_drewN ?_ _ | refine Below.drew ?_ | refine Below.setCell ?_ hbg _)))⟩
    · go_wp2
      go_end0
      exact ⟨rfl, zs, ho.out, hs.out, fun p q h1 h2 h3 => hr.out p q h1 h2 (by omega), hx.out⟩
end Go.Proofs.Ytjggjkmafcokjaa
