/- The library's choice of a pivot among numbers: order2, median: their walks. -/
import Derived.Test.YtjggjkmafcokjaaIns
import Derived.Test.YtjggjkmafcokjaaTst
import Derived.IntWalk
import Derived.Test.YtjggjkmafcokjaaSrtA8
import Derived.Deep.DeepCutAuto
import Derived.Deep.CutBlock
import Derived.BigRegion
set_option linter.unusedVariables false
set_option linter.unusedSimpArgs false
namespace Go.Proofs.Ytjggjkmafcokjaa
open Go.RowKit

/-- a box of a number, the newest block -/
def SwOk (w : World) (sb : Nat) (v : Int) : Prop := w.heap[sb]? = some (.cells #[.int .i64 v] 3 (0, 0))
theorem SwOk.cell {w : World} {sb : Nat} {v : Int} (h : SwOk w sb v) : w.cell? ⟨sb, 0, none⟩ = some (.int .i64 v) := by
  unfold SwOk at h; unfold World.cell?; rw [h]; rfl
theorem SwOk.free {w : World} {sb : Nat} {v : Int} (h : SwOk w sb v) : w.frozen? ⟨sb, 0, none⟩ = false := by
  unfold SwOk at h; simp [World.frozen?, h]
theorem SwOk.set {w : World} {sb : Nat} {v : Int} (h : SwOk w sb v) (v' : Int) : SwOk (w.setCell ⟨sb, 0, none⟩ (.int .i64 v')) sb v' := by
  unfold SwOk at h ⊢; exact Lib.heap_setCell_same h _
/-- two places, in either order -/
def OrdR (sb i j : Nat) (w : World) (e : Ending) (w' : World) : Prop :=
  ∃ (x y : Nat) (v : Int), e = .returned (.tuple #[.int .i64 x, .int .i64 y]) ∧ ((x = i ∧ y = j) ∨ (x = j ∧ y = i)) ∧ SwOk w' sb v ∧ Below sb w w'
set_option maxRecDepth 100000 in
set_option maxHeartbeats 4000000 in
theorem order2_any (base g n cap sb : Nat) (ys : List Int) (i j : Nat) (v : Int) (w : World) (hO : Own w base 30 1 uC (some ⟨g, 0, none⟩) n cap ys) (hi : i < n) (hj : j < n) (hn6 : n ≤ 1000000) (hS : SwOk w sb v) :
    Calls Try.prog 89 #[.slice (some ⟨g, 0, none⟩) n cap, .int .i64 i, .int .i64 j, .pointer (some ⟨sb, 0, none⟩)] w (OrdR sb i j w) := by
  have hnn := hO.neq
  have c0 := rowN_cell hO (k := i) (by omega)
  have c1 := rowN_cell hO (k := j) (by omega)
  have c2 := hS.cell
  have f2 := hS.free
  have HS := hid hS
  clear hO hS hnn
  have b0 : (0 : Int) ≤ (i : Int) := by omega
  have b1 : (i : Int) < (n : Int) := by omega
  have b2 : (0 : Int) ≤ (j : Int) := by omega
  have b3 : (j : Int) < (n : Int) := by omega
  go_enter Try.func89, Try.ntmps89
  go_wp2_with fail
  go_quiet ((go_at_call 74; exact Calls.quiet_of_same (less8_any _ _ _)))
  go_wp2
  · go_ret2
    exact ⟨j, i, _, rfl, .inr ⟨rfl, rfl⟩, SwOk.set (by exact HS.out) _, Below.setCell (p := ⟨sb, 0, none⟩) (below_drewN (Below.refl _ _) _) (Nat.le_refl _) _⟩
  · go_ret2
    exact ⟨i, j, v, rfl, .inl ⟨rfl, rfl⟩, by exact HS.out, below_drewN (Below.refl _ _) _⟩
/-- one place of a row -/
def MedR (sb n : Nat) (w : World) (e : Ending) (w' : World) : Prop := ∃ (x : Nat) (v : Int), e = .returned (.int .i64 x) ∧ x < n ∧ SwOk w' sb v ∧ Below sb w w'
/-- a place among three -/
def Med3R (sb i j k : Nat) (w : World) (e : Ending) (w' : World) : Prop := ∃ (x : Nat) (v : Int), e = .returned (.int .i64 x) ∧ (x = i ∨ x = j ∨ x = k) ∧ SwOk w' sb v ∧ Below sb w w'
set_option maxRecDepth 100000 in
set_option maxHeartbeats 4000000 in
theorem median_any (base g n cap sb : Nat) (ys : List Int) (i j k : Nat) (v : Int) (w : World) (hO : Own w base 30 1 uC (some ⟨g, 0, none⟩) n cap ys) (hi : i < n) (hj : j < n) (hk : k < n) (hn6 : n ≤ 1000000) (hgs : g < sb) (hS : SwOk w sb v) :
    Calls Try.prog 86 #[.slice (some ⟨g, 0, none⟩) n cap, .int .i64 i, .int .i64 j, .int .i64 k, .pointer (some ⟨sb, 0, none⟩)] w (Med3R sb i j k w) := by
  have HO := hid hO
  have HS := hid hS
  clear hO hS
  have own : ∀ {w' : World}, Below sb w w' → Own w' base 30 1 uC (some ⟨g, 0, none⟩) n cap ys := fun h => HO.out.keep fun ad e => by cases e; exact h.block _ hgs
  go_enter Try.func86, Try.ntmps86
  go_wp2_with fail
  refine (order2_any base g n cap sb ys i j v _ (own (Below.refl _ _)) hi hj hn6 HS.out).mono ?_
  rintro e w1 ⟨x1, y1, v1, rfl, h1, hs1, hb1⟩
  have H1 := hid h1
  have HS1 := hid hs1
  have HB1 := hid hb1
  have hx1 : x1 < n := by omega
  have hy1 : y1 < n := by omega
  clear h1 hs1 hb1
  go_wp2_with fail
  refine (order2_any base g n cap sb ys y1 k v1 _ (own HB1.out) hy1 hk hn6 HS1.out).mono ?_
  rintro e w2 ⟨x2, y2, v2, rfl, h2, hs2, hb2⟩
  have H2 := hid h2
  have HS2 := hid hs2
  have HB2 := hid (Below.trans HB1.out hb2)
  have hx2 : x2 < n := by omega
  clear h2 hs2 hb2
  go_wp2_with fail
  refine (order2_any base g n cap sb ys x1 x2 v2 _ (own HB2.out) hx1 hx2 hn6 HS2.out).mono ?_
  rintro e w3 ⟨x3, y3, v3, rfl, h3, hs3, hb3⟩
  have H3 := hid h3
  have HS3 := hid hs3
  have HB3 := hid (Below.trans HB2.out hb3)
  clear h3 hs3 hb3
  go_wp2
  go_ret
  exact ⟨y3, v3, rfl, by have := H1.out; have := H2.out; have := H3.out; omega, HS3.out, HB3.out⟩
set_option maxRecDepth 100000 in
set_option maxHeartbeats 4000000 in
theorem medAdj_any (base g n cap sb : Nat) (ys : List Int) (i : Nat) (v : Int) (w : World) (hO : Own w base 30 1 uC (some ⟨g, 0, none⟩) n cap ys) (h0 : 1 ≤ i) (hi : i + 1 < n) (hn6 : n ≤ 1000000) (hgs : g < sb) (hS : SwOk w sb v) :
    Calls Try.prog 85 #[.slice (some ⟨g, 0, none⟩) n cap, .int .i64 i, .pointer (some ⟨sb, 0, none⟩)] w (Med3R sb (i - 1) i (i + 1) w) := by
  have HO := hid hO
  have HS := hid hS
  clear hO hS
  have b1 : IntKind.i64.wrap ((i : Int) - 1) = ((i - 1 : Nat) : Int) := by rw [IntWalk.i64_in _ (by omega)]; omega
  have b2 : IntKind.i64.wrap ((i : Int) + 1) = ((i + 1 : Nat) : Int) := by rw [IntWalk.i64_in _ (by omega)]; omega
  go_enter Try.func85, Try.ntmps85
  go_wp2_with (go_at_call 86; refine (median_any base g n cap sb ys (i - 1) i (i + 1) v _ HO.out (by omega) (by omega) hi hn6 hgs HS.out).mono ?_; rintro e w1 ⟨x, v1, rfl, h1, hs1, hb1⟩; have H1 := hid h1; have HS1 := hid hs1; have HB1 := hid hb1; clear h1 hs1 hb1)
  go_ret
  exact ⟨x, v1, rfl, H1.out, HS1.out, HB1.out⟩
end Go.Proofs.Ytjggjkmafcokjaa

namespace Go.Proofs.Ytjggjkmafcokjaa
open Go.RowKit

/-- a place in a piece, and a hint; nothing old has turned -/
def PivR (a b : Nat) (w : World) (e : Ending) (w' : World) : Prop := ∃ (x : Nat) (h : Int), e = .returned (.tuple #[.int .i64 x, .int .i64 h]) ∧ a ≤ x ∧ x < b ∧ (h = 0 ∨ h = 1 ∨ h = 2) ∧ Ext w w'
theorem ext_below {w w0 w' : World} {sb : Nat} (hx : Ext w w0) (hs : w.heap.size ≤ sb) (hb : Below sb w0 w') : Ext w w' := Below.trans hx (Below.mono hb hs)
theorem medAdj_at (base g n cap sb : Nat) (ys : List Int) (iv : Int) (i : Nat) (v : Int) (w : World) (hiv : iv = (i : Int)) (hO : Own w base 30 1 uC (some ⟨g, 0, none⟩) n cap ys) (h0 : 1 ≤ i) (hi : i + 1 < n) (hn6 : n ≤ 1000000) (hgs : g < sb) (hS : SwOk w sb v) :
    Calls Try.prog 85 #[.slice (some ⟨g, 0, none⟩) n cap, .int .i64 iv, .pointer (some ⟨sb, 0, none⟩)] w (Med3R sb (i - 1) i (i + 1) w) := by
  subst hiv; exact medAdj_any base g n cap sb ys i v w hO h0 hi hn6 hgs hS
theorem median_at (base g n cap sb : Nat) (ys : List Int) (iv jv kv : Int) (i j k : Nat) (v : Int) (w : World) (hiv : iv = (i : Int)) (hjv : jv = (j : Int)) (hkv : kv = (k : Int)) (hO : Own w base 30 1 uC (some ⟨g, 0, none⟩) n cap ys) (hi : i < n) (hj : j < n) (hk : k < n) (hn6 : n ≤ 1000000) (hgs : g < sb) (hS : SwOk w sb v) :
    Calls Try.prog 86 #[.slice (some ⟨g, 0, none⟩) n cap, .int .i64 iv, .int .i64 jv, .int .i64 kv, .pointer (some ⟨sb, 0, none⟩)] w (Med3R sb i j k w) := by
  subst hiv; subst hjv; subst hkv; exact median_any base g n cap sb ys i j k v w hO hi hj hk hn6 hgs hS
set_option maxRecDepth 100000 in
set_option maxHeartbeats 4000000 in
theorem pivot_any (base g n cap : Nat) (ys : List Int) (a b : Nat) (w : World) (hO : Own w base 30 1 uC (some ⟨g, 0, none⟩) n cap ys) (hab : a < b) (h8 : 8 ≤ b - a) (hbn : b ≤ n) (hn6 : n ≤ 1000000) :
    Calls Try.prog 71 #[.slice (some ⟨g, 0, none⟩) n cap, .int .i64 a, .int .i64 b] w (PivR a b w) := by
  have hg := (hO.lt _ rfl).2
  have HO := hid hO
  clear hO
  obtain ⟨l, hl⟩ : ∃ l, l = b - a := ⟨_, rfl⟩
  have b0 : IntKind.i64.wrap ((b : Int) - (a : Int)) = (l : Int) := by rw [IntWalk.i64_in _ (by omega)]; omega
  go_enter Try.func71, Try.ntmps71
  go_wp2_with fail
  all_goals (have HS0 := hid (show SwOk (w.alloc (.cells #[.int .i64 0] 3)) w.heap.size 0 from heap_alloc_new _ _); have HX0 := hid (show Ext w (w.alloc (.cells #[.int .i64 0] 3)) from (Ext.refl _).alloc _))
  all_goals have own : ∀ {w' : World}, Ext w w' → Own w' base 30 1 uC (some ⟨g, 0, none⟩) n cap ys := fun h => HO.out.ext h
  all_goals obtain ⟨q, hq⟩ : ∃ q : Nat, q = (b - a) / 4 := ⟨_, rfl⟩
  all_goals obtain ⟨i0, hi0⟩ : ∃ i0 : Nat, i0 = a + q := ⟨_, rfl⟩
  all_goals obtain ⟨j0, hj0⟩ : ∃ j0 : Nat, j0 = a + q * 2 := ⟨_, rfl⟩
  all_goals obtain ⟨k0, hk0⟩ : ∃ k0 : Nat, k0 = a + q * 3 := ⟨_, rfl⟩
  · refine (medAdj_at base g n cap w.heap.size ys _ i0 0 _ (by omega) (own HX0.out) (by omega) (by omega) hn6 hg HS0.out).mono ?_
    rintro e w1 ⟨x1, v1, rfl, h1, hs1, hb1⟩
    have HS1 := hid hs1
    have HX1 := hid (ext_below HX0.out (Nat.le_refl _) hb1)
    have g1 : a ≤ x1 ∧ x1 ≤ a + q + 1 := by omega
    clear h1 hs1 hb1
    go_wp2_with fail
    refine (medAdj_at base g n cap w.heap.size ys _ j0 v1 _ (by omega) (own HX1.out) (by omega) (by omega) hn6 hg HS1.out).mono ?_
    rintro e w2 ⟨x2, v2, rfl, h1, hs1, hb1⟩
    have HS2 := hid hs1
    have HX2 := hid (ext_below HX1.out (Nat.le_refl _) hb1)
    have g2 : a ≤ x2 ∧ x2 ≤ a + q * 2 + 1 := by omega
    clear h1 hs1 hb1
    go_wp2_with fail
    refine (medAdj_at base g n cap w.heap.size ys _ k0 v2 _ (by omega) (own HX2.out) (by omega) (by omega) hn6 hg HS2.out).mono ?_
    rintro e w3 ⟨x3, v3, rfl, h1, hs1, hb1⟩
    have HS3 := hid hs1
    have HX3 := hid (ext_below HX2.out (Nat.le_refl _) hb1)
    have g3 : a ≤ x3 ∧ x3 ≤ a + q * 3 + 1 := by omega
    clear h1 hs1 hb1
    go_wp2_with fail
    refine (median_any base g n cap w.heap.size ys x1 x2 x3 v3 _ (own HX3.out) (by omega) (by omega) (by omega) hn6 hg HS3.out).mono ?_
    rintro e w4 ⟨x4, v4, rfl, h1, hs1, hb1⟩
    have HS4 := hid hs1
    have HX4 := hid (ext_below HX3.out (Nat.le_refl _) hb1)
    have g4 : a ≤ x4 ∧ x4 < b := by omega
    have c1 := HS4.out.cell
    clear h1 hs1 hb1
    go_wp2
    all_goals
      go_ret2
      exact ⟨x4, _, rfl, g4.1, g4.2, by omega, HX4.out⟩
  · refine (median_at base g n cap w.heap.size ys _ _ _ i0 j0 k0 0 _ (by omega) (by omega) (by omega) (own HX0.out) (by omega) (by omega) (by omega) hn6 hg HS0.out).mono ?_
    rintro e w1 ⟨x1, v1, rfl, h1, hs1, hb1⟩
    have HS1 := hid hs1
    have HX1 := hid (ext_below HX0.out (Nat.le_refl _) hb1)
    have g1 : a ≤ x1 ∧ x1 < b := by omega
    have c1 := HS1.out.cell
    clear h1 hs1 hb1
    go_wp2
    all_goals
      go_ret2
      exact ⟨x1, _, rfl, g1.1, g1.2, by omega, HX1.out⟩
end Go.Proofs.Ytjggjkmafcokjaa

namespace Go.Proofs.Ytjggjkmafcokjaa
open Go.RowKit

/-- nothing of a piece is less than what stands ahead of it -/
def Low (a b : Nat) (zs : List Int) : Prop := a = 0 ∨ ∀ k, a ≤ k → k < b → gN zs (a - 1) ≤ gN zs k
theorem Low.swap {a b : Nat} {zs : List Int} (h : Low a b zs) {i j : Nat} (hi : a ≤ i) (hi' : i < b) (hj : a ≤ j) (hj' : j < b) (hb : b ≤ zs.length) : Low a b (swapN zs i j) := by
  rcases h with h | h
  · exact .inl h
  · by_cases h0 : a = 0
    · exact .inl h0
    · refine .inr fun k h1 h2 => ?_
      have hs := fun k => swapN_at (zs := zs) (i := i) (j := j) (by omega) (by omega) k
      rw [hs, hs, if_neg (by omega), if_neg (by omega)]
      by_cases e1 : k = j
      · rw [if_pos e1]; exact h i hi hi'
      · rw [if_neg e1]
        by_cases e2 : k = i
        · rw [if_pos e2]; exact h j hj hj'
        · rw [if_neg e2]; exact h k h1 h2
theorem Rise.more {zs : List Int} {a i : Nat} (h : Rise zs a i) (hi : a < i) (hl : ¬ gN zs i < gN zs (i - 1)) : Rise zs a (i + 1) := by
  intro p q h1 h2 h3
  by_cases e : q = i
  · subst e
    by_cases e2 : p = q - 1
    · subst e2; omega
    · have := h p (q - 1) h1 (by omega) (by omega); omega
  · exact h p q h1 h2 (by omega)
theorem Rise.swapped {zs : List Int} {a i : Nat} (h : Rise zs a i) (hi : i < zs.length) : Rise (swapN zs i (i - 1)) a (i - 1) := by
  intro p q h1 h2 h3
  have hs := fun k => swapN_at (zs := zs) (i := i) (j := i - 1) (by omega) (by omega) k
  rw [hs, hs, if_neg (by omega), if_neg (by omega), if_neg (by omega), if_neg (by omega)]
  exact h p q h1 h2 (by omega)
theorem Rise.above {zs : List Int} {a i j : Nat} (h : Rise zs a i) (hij : i < j) (hj : j < zs.length) : Rise (swapN zs j (j - 1)) a i := by
  intro p q h1 h2 h3
  have hs := fun k => swapN_at (zs := zs) (i := j) (j := j - 1) (by omega) (by omega) k
  rw [hs, hs, if_neg (by omega), if_neg (by omega), if_neg (by omega), if_neg (by omega)]
  exact h p q h1 h2 h3
/-- what a partial insertion sort gives back -/
def PInsQ (a b : Nat) (v : Value) (zs : List Int) : Prop := ∃ K : Bool, v = .bool K ∧ (K = true → Rise zs a b)
set_option maxRecDepth 100000 in
set_option maxHeartbeats 8000000 in
theorem pins_any (base g n cap : Nat) (ys : List Int) (a b : Nat) (w : World) (hO : Own w base 30 1 uC (some ⟨g, 0, none⟩) n cap ys) (hab : a < b) (hbn : b ≤ n) (hn6 : n ≤ 1000000) (hlow : Low a b ys) :
    Calls Try.prog 73 #[.slice (some ⟨g, 0, none⟩) n cap, .int .i64 a, .int .i64 b] w (SegV base g n cap ys a b (PInsQ a b) w) := by
  have hbg := rowN_base hO
  have hcap := hO.sl.max
  have hlen := hO.sl.len
  unfold maxLen at hcap
  have HN := hid hO.neq
  have HO := hid hO
  clear hO
  have HW := hid hlow
  clear hlow
  go_enter Try.func73, Try.ntmps73
  go_wp2_with fail
  go_loopg [7, 8] 5 (fun gh iv sv wr => ∃ (i s : Nat) (zs : List Int), gh + s = 5 ∧ a < i ∧ i ≤ b ∧ iv = .int .i64 i ∧ sv = .int .i64 s ∧ Hid (Own wr base 30 1 uC (some ⟨g, 0, none⟩) n cap zs) ∧ Hid (Seg a b zs ys) ∧ Hid (Rise zs a i) ∧ Hid (Low a b zs) ∧ Hid (Below base w wr))
  case atStart => exact ⟨a + 1, 0, ys, rfl, by omega, by omega, by go_num, rfl, HO.out, Seg.refl _ _ _, Rise.short (by omega), HW.out, Below.refl _ _⟩
  case round =>
    obtain ⟨i, s, zs, hg, hai, hib, rfl, rfl, ho, hsg, hr, hlw, hx⟩ := hrel
    obtain ⟨G, hG⟩ : ∃ G, G = gk := ⟨_, rfl⟩
    have HG := hid hG
    clear hG
    have HLT := hid (show zs.length = n from by rw [hsg.out.len, HN.out])
    by_cases hs5 : s < 5
    · have z0 : (s : Int) < 5 := by omega
      go_upto_block 2 with (fail)
      go_cut [7] (fun iv wx => ∃ i2 : Nat, iv = .int .i64 i2 ∧ a < i2 ∧ i2 ≤ b ∧ Hid (Own wx base 30 1 uC (some ⟨g, 0, none⟩) n cap zs) ∧ Hid (Rise zs a i2) ∧ Hid (i2 = b ∨ gN zs i2 < gN zs (i2 - 1)) ∧ Hid (Below base w wx))
      case first =>
        go_wp2_with fail
        go_loopg [7] (b - i) (fun gh iv wl => ∃ (i2 : Nat), gh = b - i2 ∧ a < i2 ∧ i2 ≤ b ∧ iv = .int .i64 i2 ∧ Hid (Own wl base 30 1 uC (some ⟨g, 0, none⟩) n cap zs) ∧ Hid (Rise zs a i2) ∧ Hid (Below base w wl))
        case atStart => exact ⟨i, rfl, hai, hib, rfl, ho.out, hr.out, hx.out⟩
        case round =>
          obtain ⟨i2, hg2, hai2, hib2, rfl, ho2, hr2, hx2⟩ := hrel
          by_cases hi2 : i2 < b
          · have q0 : (i2 : Int) < (b : Int) := by omega
            have d0 : (0 : Int) ≤ (i2 : Int) := by omega
            have d1 : (i2 : Int) < (n : Int) := by omega
            have d2 : (0 : Int) ≤ (i2 : Int) - 1 := by omega
            have d3 : (i2 : Int) - 1 < (n : Int) := by omega
            have d4 : ((i2 : Int) - 1).toNat = i2 - 1 := by omega
            have d5 : (1 : Int) ≤ (i2 : Int) := by omega
            have c0 := rowN_cell ho2.out (k := i2) (by rw [HLT.out]; omega)
            have c1 := rowN_cell ho2.out (k := (i2 - 1)) (by rw [HLT.out]; omega)
            have f0 := Own.free ho2.out i2
            have f1 := Own.free ho2.out (i2 - 1)
            by_cases hl : gN zs i2 < gN zs (i2 - 1)
            · have q1 : decide (gN zs i2 < gN zs (i2 - 1)) = true := decide_eq_true hl
              have HL := hid (show gN zs i2 < gN zs (i2 - 1) from hl)
              clear hl
              go_wp2_with fail
              go_quiet ((go_at_call 74; exact Calls.quiet_of_same (less8_any _ _ _)))
              go_wp2_with fail
              go_meet
              exact ⟨i2, rfl, hai2, hib2, hid (ho2.out.ext (by (repeat (first | exact Ext.refl _ | refine Ext.drewN ?_ _ | refine Ext.drew ?_)))), hr2, hid (.inr HL.out), hid (by (repeat (first | exact (Hid.out (by assumption)) | exact Below.refl _ _ | refine below_drewN ?_ _ | refine Below.drew ?_ | refine Below.setCell ?_ hbg _)))⟩
            · have q1 : decide (gN zs i2 < gN zs (i2 - 1)) = false := decide_eq_false hl
              have HL := hid (show gN zs (i2 - 1) ≤ gN zs i2 from by omega)
              clear hl
              go_wp2_with fail
              go_quiet ((go_at_call 74; exact Calls.quiet_of_same (less8_any _ _ _)))
              go_wp2
              go_roundg (b - (i2 + 1))
              case measure => omega
              case rel => exact ⟨i2 + 1, rfl, by omega, by omega, by go_num, hid (ho2.out.ext (by (repeat (first | exact Ext.refl _ | refine Ext.drewN ?_ _ | refine Ext.drew ?_)))), hid (hr2.out.more hai2 (by have := HL.out; omega)), hid (by (repeat (first | exact (Hid.out (by assumption)) | exact Below.refl _ _ | refine below_drewN ?_ _ | refine Below.drew ?_ | refine Below.setCell ?_ hbg _)))⟩
          · have q0 : ¬ ((i2 : Int) < (b : Int)) := by omega
            go_wp2_with fail
            go_quiet (fail)
            go_wp2_with fail
            go_meet
            exact ⟨i2, rfl, hai2, hib2, hid (ho2.out.ext (by (repeat (first | exact Ext.refl _ | refine Ext.drewN ?_ _ | refine Ext.drew ?_)))), hr2, hid (.inl (by omega)), hid (by (repeat (first | exact (Hid.out (by assumption)) | exact Below.refl _ _ | refine below_drewN ?_ _ | refine Below.drew ?_ | refine Below.setCell ?_ hbg _)))⟩
      case rest =>
        obtain ⟨i2, rfl, hai2, hib2, ho2, hr2, hst, hx2⟩ := hcut
        clear ho hx hr hai hib
        rename World => wa
        by_cases hib3 : i2 = b
        · subst hib3
          go_wp2
          go_ret
          exact ⟨_, zs, rfl, ho2.out, hsg.out, ⟨true, rfl, fun _ => hr2.out⟩, hx2.out⟩
        · have y0 : ¬ ((i2 : Int) = (b : Int)) := by omega
          by_cases h50 : b - a < 50
          · have y1 : (b : Int) - (a : Int) < 50 := by omega
            go_wp2
            go_ret
            exact ⟨_, zs, rfl, ho2.out, hsg.out, ⟨false, rfl, fun h => by cases h⟩, hx2.out⟩
          · have y1 : ¬ ((b : Int) - (a : Int) < 50) := by omega
            have hi2b : i2 < b := by omega
            go_upto_region 11 with (fail)
            go_cut [] (fun wx => Hid (Own wx base 30 1 uC (some ⟨g, 0, none⟩) n cap (swapN zs i2 (i2 - 1))) ∧ Hid (Below base w wx))
            case first =>
              have d0 : (0 : Int) ≤ (i2 : Int) := by omega
              have d1 : (i2 : Int) < (n : Int) := by omega
              have d2 : (0 : Int) ≤ (i2 : Int) - 1 := by omega
              have d3 : (i2 : Int) - 1 < (n : Int) := by omega
              have d4 : ((i2 : Int) - 1).toNat = i2 - 1 := by omega
              have d5 : (1 : Int) ≤ (i2 : Int) := by omega
              have d6 : ¬ i2 = i2 - 1 := by omega
              have d7 : ¬ i2 - 1 = i2 := by omega
              have c0 := rowN_cell ho2.out (k := i2) (by rw [HLT.out]; omega)
              have c1 := rowN_cell ho2.out (k := (i2 - 1)) (by rw [HLT.out]; omega)
              have f0 := Own.free ho2.out i2
              have f1 := Own.free ho2.out (i2 - 1)
              go_region
              all_goals
                go_wp2_with fail
                go_meet
                exact ⟨hid (by (try refine Own.ext ?_ (Ext.drew (Ext.refl _))); first | exact rowN_swap1 (Own.ext ho2.out (by (repeat (first | exact Ext.refl _ | refine Ext.drewN ?_ _ | refine Ext.drew ?_)))) (by rw [HLT.out]; omega) (by rw [HLT.out]; omega) | exact rowN_swapB (Own.ext ho2.out (by (repeat (first | exact Ext.refl _ | refine Ext.drewN ?_ _ | refine Ext.drew ?_)))) (by rw [HLT.out]; omega) (by rw [HLT.out]; omega)), hid (by (repeat (first | exact (Hid.out (by assumption)) | exact Below.refl _ _ | refine below_drewN ?_ _ | refine Below.drew ?_ | refine Below.setCell ?_ hbg _)))⟩
            case rest =>
              obtain ⟨ho3, hx3⟩ := hcut
              have HS3 := hid (hsg.out.swap (i := i2) (j := i2 - 1) (by omega) hi2b (by omega) (by omega) (by rw [← HN.out]; exact hbn))
              have HL3 := hid (hlw.out.swap (i := i2) (j := i2 - 1) (by omega) hi2b (by omega) (by omega) (by rw [HLT.out]; exact hbn))
              have HR3 := hid (hr2.out.swapped (by rw [HLT.out]; omega))
              clear ho2 hx2 hr2 hst hsg hlw
              obtain ⟨zt, hzt⟩ : ∃ zt, zt = swapN zs i2 (i2 - 1) := ⟨_, rfl⟩
              rw [← hzt] at ho3 HS3 HL3 HR3
              clear hzt HLT
              rename World => wb
              go_upto_if 61 with (fail)
              go_cut [] (fun wx => ∃ zu, Hid (Own wx base 30 1 uC (some ⟨g, 0, none⟩) n cap zu) ∧ Hid (Seg a b zu ys) ∧ Hid (Low a b zu) ∧ Hid (Rise zu a i2) ∧ Hid (Below base w wx))
              case first =>
                by_cases hi3 : 2 ≤ i2 - a
                · have y3 : (2 : Int) ≤ (i2 : Int) - (a : Int) := by omega
                  go_wp2_with fail
                  go_loopg [9] (i2 - 1) (fun gh jv wl => ∃ (j : Nat) (zv : List Int), gh = j ∧ a ≤ j ∧ j ≤ i2 - 1 ∧ jv = .int .i64 j ∧ Hid (Own wl base 30 1 uC (some ⟨g, 0, none⟩) n cap zv) ∧ Hid (Seg a b zv ys) ∧ Hid (Low a b zv) ∧ Hid (Down zv a (i2 - 1) j) ∧ Hid (Below base w wl))
                  case atStart => exact ⟨i2 - 1, zt, rfl, by omega, Nat.le_refl _, congrArg (Value.int .i64) (by omega), ho3.out, HS3.out, HL3.out, Down.start HR3.out (by omega), hx3.out⟩
                  case round =>
                    obtain ⟨j, zv, hgj, haj, hji, rfl, ho4, hs4, hl4, hd4, hx4⟩ := hrel
                    have HLV := hid (show zv.length = n from by rw [hs4.out.len, HN.out])
                    by_cases hj1 : 1 ≤ j
                    · have y4 : (1 : Int) ≤ (j : Int) := by omega
                      have d0 : (0 : Int) ≤ (j : Int) := by omega
                      have d1 : (j : Int) < (n : Int) := by omega
                      have d2 : (0 : Int) ≤ (j : Int) - 1 := by omega
                      have d3 : (j : Int) - 1 < (n : Int) := by omega
                      have d4 : ((j : Int) - 1).toNat = j - 1 := by omega
                      have d6 : ¬ j = j - 1 := by omega
                      have d7 : ¬ j - 1 = j := by omega
                      have c0 := rowN_cell ho4.out (k := j) (by rw [HLV.out]; omega)
                      have c1 := rowN_cell ho4.out (k := (j - 1)) (by rw [HLV.out]; omega)
                      have f0 := Own.free ho4.out j
                      have f1 := Own.free ho4.out (j - 1)
                      by_cases hl : gN zv j < gN zv (j - 1)
                      · have q1 : decide (gN zv j < gN zv (j - 1)) = true := decide_eq_true hl
                        have haj2 : a < j := by
                          rcases hl4.out with h | h
                          · omega
                          · have := h a (Nat.le_refl _) hab
                            by_cases e : a = j
                            · subst e; omega
                            · omega
                        have HL := hid (show gN zv j < gN zv (j - 1) from hl)
                        clear hl
                        go_upto_region 17 with (go_quiet ((go_at_call 74; exact Calls.quiet_of_same (less8_any _ _ _))))
                        go_region
                        all_goals
                          go_wp2
                          go_roundg (j - 1)
                          case measure => omega
                          case rel => exact ⟨j - 1, _, rfl, by omega, by omega, congrArg (Value.int .i64) (by omega), hid (by (try refine Own.ext ?_ (Ext.drew (Ext.refl _))); first | exact rowN_swap1 (Own.ext ho4.out (by (repeat (first | exact Ext.refl _ | refine Ext.drewN ?_ _ | refine Ext.drew ?_)))) (by rw [HLV.out]; omega) (by rw [HLV.out]; omega) | exact rowN_swapB (Own.ext ho4.out (by (repeat (first | exact Ext.refl _ | refine Ext.drewN ?_ _ | refine Ext.drew ?_)))) (by rw [HLV.out]; omega) (by rw [HLV.out]; omega)), hid (hs4.out.swap (by omega) (by omega) (by omega) (by omega) (by rw [← HN.out]; exact hbn)), hid (hl4.out.swap (by omega) (by omega) (by omega) (by omega) (by rw [HLV.out]; exact hbn)), hid (hd4.out.step haj2 (by rw [HLV.out]; omega) HL.out), hid (by (repeat (first | exact (Hid.out (by assumption)) | exact Below.refl _ _ | refine below_drewN ?_ _ | refine Below.drew ?_ | refine Below.setCell ?_ hbg _)))⟩
                      · have q1 : decide (gN zv j < gN zv (j - 1)) = false := decide_eq_false hl
                        have HL := hid (show gN zv (j - 1) ≤ gN zv j from by omega)
                        clear hl
                        go_wp2_with fail
                        go_quiet ((go_at_call 74; exact Calls.quiet_of_same (less8_any _ _ _)))
                        go_wp2_with fail
                        go_meet
                        exact ⟨zv, hid (ho4.out.ext (by (repeat (first | exact Ext.refl _ | refine Ext.drewN ?_ _ | refine Ext.drew ?_)))), hs4, hl4, hid (by have h := hd4.out.done (.inr (by have := HL.out; omega)); rwa [Nat.sub_add_cancel (by omega)] at h), hid (by (repeat (first | exact (Hid.out (by assumption)) | exact Below.refl _ _ | refine below_drewN ?_ _ | refine Below.drew ?_ | refine Below.setCell ?_ hbg _)))⟩
                    · have y4 : ¬ ((1 : Int) ≤ (j : Int)) := by omega
                      go_wp2_with fail
                      go_meet
                      exact ⟨zv, hid (ho4.out.ext (by (repeat (first | exact Ext.refl _ | refine Ext.drewN ?_ _ | refine Ext.drew ?_)))), hs4, hl4, hid (by have h := hd4.out.done (.inl (by omega)); rwa [Nat.sub_add_cancel (by omega)] at h), hid (by (repeat (first | exact (Hid.out (by assumption)) | exact Below.refl _ _ | refine below_drewN ?_ _ | refine Below.drew ?_ | refine Below.setCell ?_ hbg _)))⟩
                · have y3 : ¬ ((2 : Int) ≤ (i2 : Int) - (a : Int)) := by omega
                  go_wp2_with fail
                  go_meet
                  exact ⟨zt, ho3, HS3, HL3, hid (Rise.short (by omega)), hx3⟩
              case rest =>
                obtain ⟨zu, ho4, hs4, hl4, hr4, hx4⟩ := hcut
                clear ho3 hx3 HS3 HL3 HR3
                rename World => wd
                by_cases hi3 : 2 ≤ b - i2
                · have y3 : (2 : Int) ≤ (b : Int) - (i2 : Int) := by omega
                  go_wp2_with fail
                  go_loopg [10] (b - (i2 + 1)) (fun gh jv wl => ∃ (j : Nat) (zv : List Int), gh = b - j ∧ i2 < j ∧ j ≤ b ∧ jv = .int .i64 j ∧ Hid (Own wl base 30 1 uC (some ⟨g, 0, none⟩) n cap zv) ∧ Hid (Seg a b zv ys) ∧ Hid (Low a b zv) ∧ Hid (Rise zv a i2) ∧ Hid (Below base w wl))
                  case atStart => exact ⟨i2 + 1, zu, rfl, by omega, by omega, by go_num, ho4.out, hs4.out, hl4.out, hr4.out, hx4.out⟩
                  case round =>
                    obtain ⟨j, zv, hgj, hij, hjb, rfl, ho5, hs5, hl5, hr5, hx5⟩ := hrel
                    have HLV := hid (show zv.length = n from by rw [hs5.out.len, HN.out])
                    by_cases hj1 : j < b
                    · have y4 : (j : Int) < (b : Int) := by omega
                      have d0 : (0 : Int) ≤ (j : Int) := by omega
                      have d1 : (j : Int) < (n : Int) := by omega
                      have d2 : (0 : Int) ≤ (j : Int) - 1 := by omega
                      have d3 : (j : Int) - 1 < (n : Int) := by omega
                      have d4 : ((j : Int) - 1).toNat = j - 1 := by omega
                      have d5 : (1 : Int) ≤ (j : Int) := by omega
                      have d6 : ¬ j = j - 1 := by omega
                      have d7 : ¬ j - 1 = j := by omega
                      have c0 := rowN_cell ho5.out (k := j) (by rw [HLV.out]; omega)
                      have c1 := rowN_cell ho5.out (k := (j - 1)) (by rw [HLV.out]; omega)
                      have f0 := Own.free ho5.out j
                      have f1 := Own.free ho5.out (j - 1)
                      by_cases hl : gN zv j < gN zv (j - 1)
                      · have q1 : decide (gN zv j < gN zv (j - 1)) = true := decide_eq_true hl
                        clear hl
                        go_upto_region 23 with (go_quiet ((go_at_call 74; exact Calls.quiet_of_same (less8_any _ _ _))))
                        go_region
                        all_goals
                          go_wp2
                          go_roundg (b - (j + 1))
                          case measure => omega
                          case rel => exact ⟨j + 1, _, rfl, by omega, by omega, by go_num, hid (by (try refine Own.ext ?_ (Ext.drew (Ext.refl _))); first | exact rowN_swap1 (Own.ext ho5.out (by (repeat (first | exact Ext.refl _ | refine Ext.drewN ?_ _ | refine Ext.drew ?_)))) (by rw [HLV.out]; omega) (by rw [HLV.out]; omega) | exact rowN_swapB (Own.ext ho5.out (by (repeat (first | exact Ext.refl _ | refine Ext.drewN ?_ _ | refine Ext.drew ?_)))) (by rw [HLV.out]; omega) (by rw [HLV.out]; omega)), hid (hs5.out.swap (by omega) (by omega) (by omega) (by omega) (by rw [← HN.out]; exact hbn)), hid (hl5.out.swap (by omega) (by omega) (by omega) (by omega) (by rw [HLV.out]; exact hbn)), hid (hr5.out.above hij (by rw [HLV.out]; omega)), hid (by (repeat (first | exact (Hid.out (by assumption)) | exact Below.refl _ _ | refine below_drewN ?_ _ | refine Below.drew ?_ | refine Below.setCell ?_ hbg _)))⟩
                      · have q1 : decide (gN zv j < gN zv (j - 1)) = false := decide_eq_false hl
                        clear hl
                        go_wp2_with fail
                        go_quiet ((go_at_call 74; exact Calls.quiet_of_same (less8_any _ _ _)))
                        go_wp2
                        go_roundg (G - 1)
                        case measure => (have := HG.out; omega)
                        case rel => exact ⟨i2, s + 1, zv, (by have := HG.out; omega), hai2, hib2, rfl, by go_num, hid (ho5.out.ext (by (repeat (first | exact Ext.refl _ | refine Ext.drewN ?_ _ | refine Ext.drew ?_)))), hs5.out, hr5.out, hl5.out, hid (by (repeat (first | exact (Hid.out (by assumption)) | exact Below.refl _ _ | refine below_drewN ?_ _ | refine Below.drew ?_ | refine Below.setCell ?_ hbg _)))⟩
                    · have y4 : ¬ ((j : Int) < (b : Int)) := by omega
                      go_wp2
                      go_roundg (G - 1)
                      case measure => (have := HG.out; omega)
                      case rel => exact ⟨i2, s + 1, zv, (by have := HG.out; omega), hai2, hib2, rfl, by go_num, hid (ho5.out.ext (by (repeat (first | exact Ext.refl _ | refine Ext.drewN ?_ _ | refine Ext.drew ?_)))), hs5.out, hr5.out, hl5.out, hid (by (repeat (first | exact (Hid.out (by assumption)) | exact Below.refl _ _ | refine below_drewN ?_ _ | refine Below.drew ?_ | refine Below.setCell ?_ hbg _)))⟩
                · have y3 : ¬ ((2 : Int) ≤ (b : Int) - (i2 : Int)) := by omega
                  go_wp2
                  go_roundg (G - 1)
                  case measure => (have := HG.out; omega)
                  case rel => exact ⟨i2, s + 1, zu, (by have := HG.out; omega), hai2, hib2, rfl, by go_num, hid (ho4.out.ext (by (repeat (first | exact Ext.refl _ | refine Ext.drewN ?_ _ | refine Ext.drew ?_)))), hs4.out, hr4.out, hl4.out, hid (by (repeat (first | exact (Hid.out (by assumption)) | exact Below.refl _ _ | refine below_drewN ?_ _ | refine Below.drew ?_ | refine Below.setCell ?_ hbg _)))⟩
    · have z0 : ¬ ((s : Int) < 5) := by omega
      go_wp2
      go_ret
      exact ⟨_, zs, rfl, ho.out, hsg.out, ⟨false, rfl, fun h => by cases h⟩, hx.out⟩
end Go.Proofs.Ytjggjkmafcokjaa

namespace Go.Proofs.Ytjggjkmafcokjaa
open Go.RowKit

theorem list_ext_gN {xs ys : List Int} (hl : xs.length = ys.length) (h : ∀ k, k < xs.length → gN xs k = gN ys k) : xs = ys := by
  apply List.ext_getElem hl
  intro k h1 h2
  have := h k h1
  rwa [gN_at h1, gN_at h2] at this
theorem Seg.all {a b : Nat} {zs ys : List Int} (h : Seg a b zs ys) (hb : b ≤ ys.length) {P : Int → Prop} (hP : ∀ k, a ≤ k → k < b → P (gN ys k)) : ∀ k, a ≤ k → k < b → P (gN zs k) := by
  intro k h1 h2
  have hl := h.len
  have e1 : zs.take a = ys.take a := by
    apply list_ext_gN
    · rw [List.length_take, List.length_take, hl]
    · intro p hp
      rw [List.length_take] at hp
      have := h.out p (.inl (by omega))
      rw [gN_at (by rw [List.length_take]; exact hp), gN_at (by rw [List.length_take, ← hl]; exact hp), List.getElem_take, List.getElem_take]
      rwa [gN_at (by omega), gN_at (by omega)] at this
  have e2 : zs.drop b = ys.drop b := by
    apply list_ext_gN
    · rw [List.length_drop, List.length_drop, hl]
    · intro p hp
      rw [List.length_drop] at hp
      have := h.out (b + p) (.inr (by omega))
      rw [gN_at (by rw [List.length_drop]; exact hp), gN_at (by rw [List.length_drop, ← hl]; exact hp), List.getElem_drop, List.getElem_drop]
      rwa [gN_at (by omega), gN_at (by omega)] at this
  have hs : ∀ xs : List Int, xs = xs.take a ++ ((xs.drop a).take (b - a) ++ xs.drop b) := fun xs => by
    have : xs.drop b = (xs.drop a).drop (b - a) := by rw [List.drop_drop]; congr 1; omega
    rw [this, List.take_append_drop, List.take_append_drop]
  have hp : ((zs.drop a).take (b - a)).Perm ((ys.drop a).take (b - a)) := by
    have := h.perm
    rw [hs zs, hs ys, e1, e2] at this
    exact (List.perm_append_right_iff _).1 ((List.perm_append_left_iff _).1 this)
  have hm : gN zs k ∈ (zs.drop a).take (b - a) := by
    rw [gN_at (by omega)]
    refine List.mem_iff_getElem.2 ⟨k - a, by rw [List.length_take, List.length_drop]; omega, ?_⟩
    rw [List.getElem_take, List.getElem_drop]
    congr 1; omega
  obtain ⟨i, hi, he⟩ := List.mem_iff_getElem.1 (hp.mem_iff.1 hm)
  rw [List.length_take, List.length_drop] at hi
  rw [List.getElem_take, List.getElem_drop] at he
  have := hP (a + i) (by omega) (by omega)
  rw [gN_at (by omega), he] at this
  exact this
theorem Low.seg {a b : Nat} {zs ys : List Int} (h : Low a b ys) (hs : Seg a b zs ys) (hb : b ≤ ys.length) : Low a b zs := by
  rcases h with h | h
  · exact .inl h
  · by_cases h0 : a = 0
    · exact .inl h0
    · refine .inr (hs.all hb (P := fun x => gN zs (a - 1) ≤ x) ?_)
      intro k h1 h2
      rw [hs.out (a - 1) (.inl (by omega))]
      exact h k h1 h2
theorem Low.sub {a b b' : Nat} {zs : List Int} (h : Low a b zs) (hb : b' ≤ b) : Low a b' zs := by
  rcases h with h | h
  · exact .inl h
  · exact .inr fun k h1 h2 => h k h1 (by omega)
/-- what is still to do is a piece: once it rises all rises -/
def Fin (a b a' b' : Nat) (zs ys : List Int) : Prop := ∀ ft, Seg a' b' ft zs → Rise ft a' b' → Seg a b ft ys ∧ Rise ft a b
theorem Fin.start (a b : Nat) (ys : List Int) : Fin a b a b ys ys := fun _ h1 h2 => ⟨h1, h2⟩
theorem Fin.seg {a b a' b' : Nat} {zs zt ys : List Int} (h : Fin a b a' b' zs ys) (hs : Seg a' b' zt zs) : Fin a b a' b' zt ys := fun ft h1 h2 => h ft (h1.trans hs) h2
theorem glue {ft : List Int} {a m b : Nat} (h1 : Rise ft a m) (h2 : Rise ft (m + 1) b) (h3 : ∀ k, a ≤ k → k < m → gN ft k ≤ gN ft m) (h4 : ∀ k, m < k → k < b → gN ft m ≤ gN ft k) : Rise ft a b := by
  intro p q a1 a2 a3
  rcases Nat.lt_trichotomy p m with hp | hp | hp
  · rcases Nat.lt_trichotomy q m with hq | hq | hq
    · exact h1 p q a1 a2 hq
    · subst hq; exact h3 p a1 hp
    · have := h3 p a1 hp
      have := h4 q hq a3
      omega
  · subst hp; exact h4 q a2 a3
  · exact h2 p q hp a2 a3
theorem Fin.left {a b a' b' m : Nat} {zs zt zu ys : List Int} (h : Fin a b a' b' zs ys) (hb : b' ≤ zs.length) (ha : a' ≤ m) (hm : m < b') (hs : Seg a' b' zt zs)
    (hlo : ∀ k, a' ≤ k → k < m → gN zt k ≤ gN zt m) (hup : ∀ k, m < k → k < b' → gN zt m ≤ gN zt k) (hu : Seg a' m zu zt) (hr : Rise zu a' m) :
    Fin a b (m + 1) b' zu ys ∧ Low (m + 1) b' zu := by
  have l1 := hs.len
  have l2 := hu.len
  have em : gN zu m = gN zt m := hu.out m (.inr (Nat.le_refl _))
  have hup' : ∀ k, m < k → k < b' → gN zu m ≤ gN zu k := fun k h1 h2 => by rw [em, hu.out k (.inr (by omega))]; exact hup k h1 h2
  have hlo' := hu.all (by omega) (P := fun x => x ≤ gN zt m) hlo
  refine ⟨fun ft h1 h2 => h ft ((h1.mono (by omega) (Nat.le_refl _)).trans ((hu.mono (Nat.le_refl _) (by omega)).trans hs)) ?_, .inr fun k h1 h2 => hup' k (by omega) h2⟩
  have l3 := h1.len
  have e : ∀ k, k ≤ m → gN ft k = gN zu k := fun k hk => h1.out k (.inl (by omega))
  refine glue (m := m) (fun p q a1 a2 a3 => ?_) h2 (fun k a1 a2 => ?_) ?_
  · rw [e p (by omega), e q (by omega)]; exact hr p q a1 a2 a3
  · rw [e k (by omega), e m (Nat.le_refl _), em]; exact hlo' k a1 a2
  · intro k a1 a2
    rw [e m (Nat.le_refl _)]
    exact h1.all (by omega) (P := fun x => gN zu m ≤ x) (fun k b1 b2 => hup' k (by omega) b2) k (by omega) a2
theorem Fin.right {a b a' b' m : Nat} {zs zt zu ys : List Int} (h : Fin a b a' b' zs ys) (hb : b' ≤ zs.length) (ha : a' ≤ m) (hm : m < b') (hs : Seg a' b' zt zs)
    (hlo : ∀ k, a' ≤ k → k < m → gN zt k ≤ gN zt m) (hup : ∀ k, m < k → k < b' → gN zt m ≤ gN zt k) (hu : Seg (m + 1) b' zu zt) (hr : Rise zu (m + 1) b') :
    Fin a b a' m zu ys := by
  have l1 := hs.len
  have l2 := hu.len
  have em : gN zu m = gN zt m := hu.out m (.inl (by omega))
  have hup' := hu.all (by omega) (P := fun x => gN zt m ≤ x) (fun k h1 h2 => hup k (by omega) h2)
  refine fun ft h1 h2 => h ft ((h1.mono (Nat.le_refl _) (by omega)).trans ((hu.mono (by omega) (Nat.le_refl _)).trans hs)) ?_
  have l3 := h1.len
  have e : ∀ k, m ≤ k → gN ft k = gN zu k := fun k hk => h1.out k (.inr hk)
  refine glue (m := m) h2 (fun p q a1 a2 a3 => ?_) ?_ (fun k a1 a2 => ?_)
  · rw [e p (by omega), e q (by omega)]; exact hr p q a1 a2 a3
  · intro k a1 a2
    rw [e m (Nat.le_refl _), em]
    refine h1.all (by omega) (P := fun x => x ≤ gN zt m) (fun k b1 b2 => ?_) k a1 a2
    rw [hu.out k (.inl (by omega))]; exact hlo k b1 b2
  · rw [e k (by omega), e m (Nat.le_refl _), em]; exact hup' k (by omega) a2
theorem Fin.eql {a b a' b' m : Nat} {P : Int} {zs zt ys : List Int} (h : Fin a b a' b' zs ys) (hb : b' ≤ zs.length) (ha : a' < m) (hm : m ≤ b') (hs : Seg a' b' zt zs)
    (hall : ∀ k, a' ≤ k → k < b' → P ≤ gN zs k) (hlo : ∀ k, a' ≤ k → k < m → gN zt k ≤ P) (hup : ∀ k, m ≤ k → k < b' → P < gN zt k) :
    Fin a b m b' zt ys ∧ Low m b' zt := by
  have l1 := hs.len
  have hall' := hs.all (by omega) (P := fun x => P ≤ x) hall
  have he : ∀ k, a' ≤ k → k < m → gN zt k = P := fun k h1 h2 => by have := hlo k h1 h2; have := hall' k h1 (by omega); omega
  refine ⟨fun ft h1 h2 => h ft ((h1.mono (by omega) (Nat.le_refl _)).trans hs) ?_, .inr fun k h1 h2 => ?_⟩
  · have e : ∀ k, k < m → gN ft k = gN zt k := fun k hk => h1.out k (.inl hk)
    have l3 := h1.len
    have hup' := h1.all (by omega) (P := fun x => P < x) hup
    intro p q a1 a2 a3
    by_cases hq : q < m
    · rw [e p (by omega), e q hq, he p a1 (by omega), he q (by omega) hq]
      exact Int.le_refl _
    · by_cases hp : p < m
      · rw [e p hp, he p a1 hp]
        have := hup' q (by omega) a3
        omega
      · exact h2 p q (by omega) a2 a3
  · rw [he (m - 1) (by omega) (by omega)]
    have := hup k h1 h2
    omega
end Go.Proofs.Ytjggjkmafcokjaa

