/- The library's breaking of patterns among numbers: its walk. -/
import Derived.Test.YtjggjkmafcokjaaSrtA8
import Derived.Test.YtjggjkmafcokjaaSrtC8
import Derived.Deep.DeepCutAuto
import Derived.BigRegion
import Derived.Laws.Bits64
import Derived.Laws.Bits64b
set_option linter.unusedVariables false
set_option linter.unusedSimpArgs false
namespace Go.Proofs.Ytjggjkmafcokjaa
open Go.RowKit

/-- a box of a random number -/
def XsOk (w : World) (sb : Nat) (r : Nat) : Prop := r < 18446744073709551616 ∧ w.heap[sb]? = some (.cells #[.int .u64 r] 116 (0, 0))
theorem XsOk.cell {w : World} {sb r : Nat} (h : XsOk w sb r) : w.cell? ⟨sb, 0, none⟩ = some (.int .u64 r) := by
  unfold World.cell?; rw [h.2]; rfl
theorem XsOk.free {w : World} {sb r : Nat} (h : XsOk w sb r) : w.frozen? ⟨sb, 0, none⟩ = false := by
  simp [World.frozen?, h.2]
theorem XsOk.set {w : World} {sb r : Nat} (h : XsOk w sb r) {r' : Nat} (hr : r' < 18446744073709551616) : XsOk (w.setCell ⟨sb, 0, none⟩ (.int .u64 r')) sb r' :=
  ⟨hr, Lib.heap_setCell_same h.2 _⟩
set_option maxRecDepth 100000 in
theorem len_bound : ∀ x : Fin 1001, 8 ≤ x.val → Lib.bitLen x.val ≤ 10 ∧ 2 ^ Lib.bitLen x.val ≤ 2 * x.val := by decide +kernel
theorem next_any (sb r : Nat) (w : World) (hX : XsOk w sb r) :
    Calls Try.prog 84 #[.pointer (some ⟨sb, 0, none⟩)] w fun e w' => ∃ r' : Nat, e = .returned (.int .u64 r') ∧ XsOk w' sb r' ∧ Below sb w w' := by
  have hr := hX.1
  obtain ⟨A, hA⟩ : ∃ A : Nat, A = r ^^^ (r * 8192 % 18446744073709551616) := ⟨_, rfl⟩
  obtain ⟨B, hB⟩ : ∃ B : Nat, B = A ^^^ (A / 128) := ⟨_, rfl⟩
  obtain ⟨C, hC⟩ : ∃ C : Nat, C = B ^^^ (B * 131072 % 18446744073709551616) := ⟨_, rfl⟩
  have lA : A < 18446744073709551616 := by rw [hA]; exact Nat.xor_lt_two_pow (n := 64) (by omega) (by omega)
  have lB : B < 18446744073709551616 := by rw [hB]; exact Nat.xor_lt_two_pow (n := 64) (by omega) (by omega)
  have lC : C < 18446744073709551616 := by rw [hC]; exact Nat.xor_lt_two_pow (n := 64) (by omega) (by omega)
  have e1 : bits .xor .u64 (r : Int) (IntKind.u64.wrap ((r : Int) * 8192)) = (A : Int) := by
    rw [IntKind.wrap_u64, show ((r : Int) * 8192 % 18446744073709551616) = ((r * 8192 % 18446744073709551616 : Nat) : Int) by omega, bits_xor_u64_nat _ _ hr (by omega), hA]
  have e2 : bits .xor .u64 (A : Int) ((A : Int) / 128) = (B : Int) := by
    rw [show ((A : Int) / 128) = ((A / 128 : Nat) : Int) by omega, bits_xor_u64_nat _ _ lA (by omega), hB]
  have e3 : bits .xor .u64 (B : Int) (IntKind.u64.wrap ((B : Int) * 131072)) = (C : Int) := by
    rw [IntKind.wrap_u64, show ((B : Int) * 131072 % 18446744073709551616) = ((B * 131072 % 18446744073709551616 : Nat) : Int) by omega, bits_xor_u64_nat _ _ lB (by omega), hC]
  clear hA hB hC
  have c0 := hX.cell
  have f0 := hX.free
  have HX := hid hX
  clear hX
  go_enter Try.func84, Try.ntmps84
  go_upto_region 1 with (fail)
  go_cut [] (fun wx => Hid (XsOk wx sb A) ∧ Hid (Below sb w wx))
  case first =>
    go_region
    all_goals
      go_wp2_with fail
      go_meet
      exact ⟨hid (by first | exact HX.out.set lA | exact XsOk.set (w := w.drew) HX.out lA), hid (by repeat (first | exact Below.refl _ _ | refine Below.drew ?_ | refine Below.setCell (p := ⟨sb, 0, none⟩) ?_ (Nat.le_refl _) _))⟩
  case rest =>
    obtain ⟨h1, h2⟩ := hcut
    clear c0 f0
    have c0 := h1.out.cell
    have f0 := h1.out.free
    rename World => wa
    go_upto_region 2 with (fail)
    go_cut [] (fun wx => Hid (XsOk wx sb B) ∧ Hid (Below sb w wx))
    case first =>
      go_region
      all_goals
        go_wp2_with fail
        go_meet
        exact ⟨hid (by first | exact h1.out.set lB | exact XsOk.set (w := wa.drew) h1.out lB), hid (by repeat (first | exact h2.out | refine Below.drew ?_ | refine Below.setCell (p := ⟨sb, 0, none⟩) ?_ (Nat.le_refl _) _))⟩
    case rest =>
      obtain ⟨h3, h4⟩ := hcut
      clear c0 f0 h1 h2
      have c0 := h3.out.cell
      have f0 := h3.out.free
      rename World => wb
      go_upto_region 3 with (fail)
      go_cut [] (fun wx => Hid (XsOk wx sb C) ∧ Hid (Below sb w wx))
      case first =>
        go_region
        all_goals
          go_wp2_with fail
          go_meet
          exact ⟨hid (by first | exact h3.out.set lC | exact XsOk.set (w := wb.drew) h3.out lC), hid (by repeat (first | exact h4.out | refine Below.drew ?_ | refine Below.setCell (p := ⟨sb, 0, none⟩) ?_ (Nat.le_refl _) _))⟩
      case rest =>
        obtain ⟨h5, h6⟩ := hcut
        clear c0 f0 h3 h4
        have c0 := h5.out.cell
        go_wp2
        go_ret
        exact ⟨C, rfl, h5.out, h6.out⟩
theorem pow2_any (x : Nat) (w : World) (h8 : 8 ≤ x) (hx : x ≤ 1000) :
    Calls Try.prog 83 #[.int .i64 x] w fun e w' => ∃ M : Nat, e = .returned (.int .u64 M) ∧ 1 ≤ M ∧ M ≤ 2 * x ∧ w' = w := by
  obtain ⟨k, hk⟩ : ∃ k, k = Lib.bitLen x := ⟨_, rfl⟩
  have hb := len_bound ⟨x, by omega⟩ h8
  simp only [← hk] at hb
  have h1 : 1 ≤ 2 ^ k := Nat.one_le_two_pow
  have hM : IntKind.u64.wrap ((2 : Int) ^ k) = ((2 ^ k : Nat) : Int) := by
    rw [IntKind.wrap_u64, show ((2 : Int) ^ k) = ((2 ^ k : Nat) : Int) by push_cast; rfl]
    omega
  have hLen : ∀ w, Calls Try.prog 59 #[.int .u64 (x : Int)] w fun e w' => e = .returned (.int .i64 k) ∧ w' = w := fun w => by
    have h := len_any (x : Int) w (by omega) (by omega)
    rwa [Int.toNat_natCast, ← hk] at h
  have hk10 := hb.1
  have HB := hid (show 2 ^ k ≤ 2 * x from hb.2)
  have H1 := hid h1
  obtain ⟨M, hMM⟩ : ∃ M : Nat, M = 2 ^ k := ⟨_, rfl⟩
  rw [← hMM] at hM HB H1
  clear hb h1 hk hMM
  go_enter Try.func83, Try.ntmps83
  go_wp2_with (go_at_call 59; refine (hLen _).mono ?_; rintro e w' ⟨rfl, rfl⟩)
  go_ret
  exact ⟨M, rfl, H1.out, HB.out, rfl⟩
theorem XsOk.ext {w w' : World} {sb r : Nat} (h : XsOk w sb r) (hb : w'.heap[sb]? = w.heap[sb]?) : XsOk w' sb r := ⟨h.1, hb.trans h.2⟩
theorem XsOk.drew {w : World} {sb r : Nat} (h : XsOk w sb r) : XsOk w.drew sb r := ⟨h.1, h.2⟩
theorem XsOk.far {w : World} {sb r g i : Nat} {v : Value} (h : XsOk w sb r) (hg : sb ≠ g) : XsOk (w.setCell ⟨g, i, none⟩ v) sb r := ⟨h.1, (Below.heap_setCell _ _ _ _ hg).trans h.2⟩
set_option maxRecDepth 100000 in
set_option maxHeartbeats 4000000 in
theorem brk_any (base g n cap : Nat) (ys : List Int) (a b : Nat) (w : World) (hO : Own w base 30 1 uC (some ⟨g, 0, none⟩) n cap ys) (hab : a + 8 ≤ b) (hb6 : b - a ≤ 1000) (hbn : b ≤ n) (hn6 : n ≤ 1000000) :
    Calls Try.prog 70 #[.slice (some ⟨g, 0, none⟩) n cap, .int .i64 a, .int .i64 b] w (SegR base g n cap ys a b (fun _ => True) w) := by
  have hgw := (hO.lt _ rfl).2
  have hgs : w.heap.size ≠ g := by have h : g < w.heap.size := hgw; omega
  have hbg := rowN_base hO
  have hcap := hO.sl.max
  have hlen := hO.sl.len
  unfold maxLen at hcap
  have HN := hid hO.neq
  have HO := hid hO
  clear hO
  obtain ⟨l, hl⟩ : ∃ l, l = b - a := ⟨_, rfl⟩
  have hl8 : 8 ≤ l := by omega
  have hl1 : l ≤ 1000 := by omega
  have hal : a + l ≤ n := by omega
  have z0 : (b : Int) - (a : Int) = (l : Int) := by omega
  clear hl
  obtain ⟨m, hm⟩ : ∃ m : Nat, m = a + l / 4 * 2 := ⟨_, rfl⟩
  have e0 : (a : Int) + (l : Int) / 4 * 2 = (m : Int) := by omega
  have hm3 : a + 4 ≤ m ∧ m + 3 ≤ a + l := by omega
  clear hm
  go_enter Try.func70, Try.ntmps70
  go_wp2_with (go_at_call 83; refine (pow2_any l _ hl8 hl1).mono ?_; rintro e w1 ⟨M, rfl, hm1, hm2, rfl⟩)
  have HX0 := hid (show XsOk (w.alloc (.cells #[.int .u64 l] 116)) w.heap.size l from ⟨by omega, heap_alloc_new _ _⟩)
  have HB0 := hid (show Below base w (w.alloc (.cells #[.int .u64 l] 116)) from Below.alloc (Below.refl _ _) (Nat.le_trans hbg (Nat.le_of_lt hgw)) _)
  have m1 : (1 : Int) ≤ (M : Int) := by omega
  have m2 : (M : Int) ≤ 2000 := by omega
  go_loopg [9] 3 (fun gh iv wr => ∃ (x r : Nat) (zs : List Int), gh + x = m + 2 ∧ m ≤ x + 1 ∧ iv = .int .i64 x ∧ Hid (Own wr base 30 1 uC (some ⟨g, 0, none⟩) n cap zs) ∧ Hid (Seg a b zs ys) ∧ Hid (XsOk wr w.heap.size r) ∧ Hid (Below base w wr))
  case atStart => exact ⟨m - 1, l, ys, by omega, by omega, congrArg (Value.int .i64) (by omega), hid (HO.out.ext ((Ext.refl _).alloc _)), hid (Seg.refl _ _ _), HX0, HB0⟩
  case round =>
    obtain ⟨x, r, zs, hg, hmx, rfl, ho, hs, hxs, hx⟩ := hrel
    have HLT := hid (show zs.length = n from by rw [hs.out.len, HN.out])
    by_cases hxm : x ≤ m + 1
    · have y0 : (x : Int) ≤ (m : Int) + 1 := by omega
      go_upto_if 43 with (go_at_call 84; refine (next_any w.heap.size r _ hxs.out).mono ?_; rintro e w1 ⟨r1, rfl, h1, h2⟩; obtain ⟨o0, ho0⟩ : ∃ o0, o0 = r1 &&& (M - 1) := ⟨_, rfl⟩; have hol : o0 < M := (by rw [ho0]; have := @Nat.and_le_right r1 (M - 1); omega); have hand : bits .and .u64 (r1 : Int) ((M : Int) - 1) = (o0 : Int) := (by rw [ho0, show (M : Int) - 1 = ((M - 1 : Nat) : Int) by omega]; exact bits_and_u64_nat _ _ h1.1 (by omega)); have o1 : (o0 : Int) ≤ 2000 := (by omega); have H1 := hid h1; have HB1 := hid (Below.trans hx.out (Below.mono h2 (Nat.le_trans hbg (Nat.le_of_lt hgw)))); have HO1 := hid (show Own w1 base 30 1 uC (some ⟨g, 0, none⟩) n cap zs from ho.out.keep fun ad e => (by cases e; exact h2.block _ hgw)); clear h1 h2 ho0)
      go_cut [10] (fun ov wx => ∃ o : Nat, ov = .int .i64 o ∧ o < l ∧ w1 = wx)
      case first =>
        by_cases hol2 : l ≤ o0
        · have y1 : (l : Int) ≤ (o0 : Int) := by omega
          go_wp2_with fail
          go_meet
          exact ⟨o0 - l, congrArg (Value.int .i64) (by omega), by omega, rfl⟩
        · have y1 : ¬ ((l : Int) ≤ (o0 : Int)) := by omega
          go_wp2_with fail
          go_meet
          exact ⟨o0, rfl, by omega, rfl⟩
      case rest =>
        obtain ⟨o, rfl, hol2, rfl⟩ := hcut
        clear ho hxs hx hol hand o1
        have d1 : (0 : Int) ≤ (a : Int) + (o : Int) := by omega
        have d2 : (a : Int) + (o : Int) < (n : Int) := by omega
        have d5 : (a : Int) + (o : Int) ≤ 1000000 := by omega
        have d3 : (0 : Int) ≤ (x : Int) := by omega
        have d4 : (x : Int) < (n : Int) := by omega
        have c0 := rowN_cell HO1.out (k := x) (by rw [HLT.out]; omega)
        have c1 := rowN_cell HO1.out (k := (a + o)) (by rw [HLT.out]; omega)
        have f0 := Own.free HO1.out x
        have f1 := Own.free HO1.out (a + o)
        have hbx : a ≤ x ∧ x < b ∧ a + o < b := by omega
        by_cases hxo : x = a + o
        · subst hxo
          go_wp2_with fail
          go_region
          all_goals
            go_wp2
            go_roundg (gk - 1)
            case measure => omega
            case rel => exact ⟨a + o + 1, r1, _, by omega, by omega, by go_num, hid (by (try refine Own.ext ?_ (Ext.drew (Ext.refl _))); first | exact rowN_swap1 (Own.ext HO1.out (by (repeat (first | exact Ext.refl _ | refine Ext.drewN ?_ _ | refine Ext.drew ?_)))) (by rw [HLT.out]; omega) (by rw [HLT.out]; omega) | exact rowN_swapB (Own.ext HO1.out (by (repeat (first | exact Ext.refl _ | refine Ext.drewN ?_ _ | refine Ext.drew ?_)))) (by rw [HLT.out]; omega) (by rw [HLT.out]; omega)), hid (hs.out.swap (by omega) (by omega) (by omega) (by omega) (by rw [← HN.out]; exact hbn)), hid (by repeat (first | exact H1.out | refine XsOk.drew ?_ | refine XsOk.far ?_ hgs)), hid (by (repeat (first | exact (Hid.out (by assumption)) | exact Below.refl _ _ | refine below_drewN ?_ _ | refine Below.drew ?_ | refine Below.setCell ?_ hbg _)))⟩
        · have hxo' : ¬ a + o = x := fun h => hxo h.symm
          go_wp2_with fail
          go_region
          all_goals
            go_wp2
            go_roundg (gk - 1)
            case measure => omega
            case rel => exact ⟨x + 1, r1, _, by omega, by omega, by go_num, hid (by (try refine Own.ext ?_ (Ext.drew (Ext.refl _))); first | exact rowN_swap1 (Own.ext HO1.out (by (repeat (first | exact Ext.refl _ | refine Ext.drewN ?_ _ | refine Ext.drew ?_)))) (by rw [HLT.out]; omega) (by rw [HLT.out]; omega) | exact rowN_swapB (Own.ext HO1.out (by (repeat (first | exact Ext.refl _ | refine Ext.drewN ?_ _ | refine Ext.drew ?_)))) (by rw [HLT.out]; omega) (by rw [HLT.out]; omega)), hid (hs.out.swap (by omega) (by omega) (by omega) (by omega) (by rw [← HN.out]; exact hbn)), hid (by repeat (first | exact H1.out | refine XsOk.drew ?_ | refine XsOk.far ?_ hgs)), hid (by (repeat (first | exact (Hid.out (by assumption)) | exact Below.refl _ _ | refine below_drewN ?_ _ | refine Below.drew ?_ | refine Below.setCell ?_ hbg _)))⟩
    · have y0 : ¬ ((x : Int) ≤ (m : Int) + 1) := by omega
      go_wp2
      go_end0
      exact ⟨rfl, zs, ho.out, hs.out, trivial, hx.out⟩
end Go.Proofs.Ytjggjkmafcokjaa
