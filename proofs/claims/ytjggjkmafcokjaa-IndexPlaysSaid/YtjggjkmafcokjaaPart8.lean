/- The library's partition of numbers: its walk (printed by gen_part8.py). -/
import Derived.Test.YtjggjkmafcokjaaSrtA8
import Derived.Deep.DeepCutAuto
import Derived.Deep.CutBlock
import Derived.BigRegion
set_option linter.unusedVariables false
set_option linter.unusedSimpArgs false
namespace Go.Proofs.Ytjggjkmafcokjaa
open Go.RowKit

/-- a piece parted, under way -/
structure PT (a b : Nat) (P : Int) (i j : Nat) (zs ys : List Int) : Prop where
  ai : a < i
  ij : i ≤ j + 1
  jb : j < b
  hd : gN zs a = P
  lo : ∀ k, a < k → k < i → gN zs k < P
  up : ∀ k, j < k → k < b → P ≤ gN zs k
  seg : Seg a b zs ys
theorem PT.start {a b p : Nat} {ys : List Int} (ha : a ≤ p) (hb : p < b) (hn : b ≤ ys.length) : PT a b (gN ys p) (a + 1) (b - 1) (swapN ys a p) ys where
  ai := by omega
  ij := by omega
  jb := by omega
  hd := by rw [swapN_at (by omega) (by omega)]; split <;> simp_all
  lo := fun k h1 h2 => by omega
  up := fun k h1 h2 => by omega
  seg := (Seg.refl a b ys).swap (Nat.le_refl _) (by omega) ha hb hn
theorem PT.left {a b : Nat} {P : Int} {i j : Nat} {zs ys : List Int} (h : PT a b P i j zs ys) (hij : i ≤ j) (hl : gN zs i < P) : PT a b P (i + 1) j zs ys :=
  ⟨by have := h.ai; omega, by omega, h.jb, h.hd, fun k h1 h2 => by
    by_cases e : k = i
    · subst e; omega
    · exact h.lo k h1 (by omega), h.up, h.seg⟩
theorem PT.right {a b : Nat} {P : Int} {i j : Nat} {zs ys : List Int} (h : PT a b P i j zs ys) (hij : i ≤ j) (hl : ¬ gN zs j < P) : PT a b P i (j - 1) zs ys :=
  ⟨h.ai, by omega, by have := h.jb; omega, h.hd, h.lo, fun k h1 h2 => by
    by_cases e : k = j
    · subst e; omega
    · exact h.up k (by omega) h2, h.seg⟩
theorem PT.swap {a b : Nat} {P : Int} {i j : Nat} {zs ys : List Int} (h : PT a b P i j zs ys) (hn : b ≤ zs.length) (hij : i ≤ j) (hi : ¬ gN zs i < P) (hj : gN zs j < P) : PT a b P (i + 1) (j - 1) (swapN zs i j) ys := by
  have h1 := h.ai
  have h2 := h.jb
  have hne : i ≠ j := fun e => by subst e; exact hi hj
  have hs := fun k => swapN_at (zs := zs) (i := i) (j := j) (by omega) (by omega) k
  refine ⟨by omega, by omega, by omega, ?_, fun k a1 a2 => ?_, fun k a1 a2 => ?_, h.seg.swap (by omega) (by omega) (by omega) h2 (by rw [← h.seg.len]; exact hn)⟩
  · rw [hs, if_neg (by omega), if_neg (by omega)]; exact h.hd
  · rw [hs, if_neg (by omega)]
    by_cases e : k = i
    · rw [if_pos e]; omega
    · rw [if_neg e]; exact h.lo k a1 (by omega)
  · rw [hs]
    by_cases e : k = j
    · rw [if_pos e]; omega
    · rw [if_neg e, if_neg (by omega)]; exact h.up k (by omega) a2
/-- what a partition gives back -/
def PartQ (a b : Nat) (v : Value) (zs : List Int) : Prop := ∃ (m : Nat) (K : Bool), v = .tuple #[.int .i64 m, .bool K] ∧ a ≤ m ∧ m < b ∧ (∀ k, a ≤ k → k < m → gN zs k ≤ gN zs m) ∧ (∀ k, m < k → k < b → gN zs m ≤ gN zs k)
theorem PT.done {a b : Nat} {P : Int} {i j : Nat} {zs ys : List Int} (h : PT a b P i j zs ys) (hn : b ≤ zs.length) (hij : j < i) (K : Bool) : Seg a b (swapN zs j a) ys ∧ PartQ a b (.tuple #[.int .i64 j, .bool K]) (swapN zs j a) := by
  have h1 := h.ai
  have h2 := h.jb
  have h3 := h.ij
  have hs := fun k => swapN_at (zs := zs) (i := j) (j := a) (by omega) (by omega) k
  have hj : gN (swapN zs j a) j = P := by
    rw [hs]
    by_cases e : j = a
    · rw [if_pos e, e]; exact h.hd
    · rw [if_neg e, if_pos rfl]; exact h.hd
  refine ⟨h.seg.swap (by omega) h2 (Nat.le_refl _) (by omega) (by rw [← h.seg.len]; exact hn), j, K, rfl, by omega, h2, fun k a1 a2 => ?_, fun k a1 a2 => ?_⟩
  · rw [hj, hs]
    by_cases e : k = a
    · rw [if_pos e]
      have := h.lo j (by omega) (by omega)
      omega
    · rw [if_neg e, if_neg (by omega)]
      have := h.lo k (by omega) (by omega)
      omega
  · rw [hj, hs, if_neg (by omega), if_neg (by omega)]
    exact h.up k a1 a2
set_option maxRecDepth 100000 in
set_option maxHeartbeats 8000000 in
theorem part_any (base g n cap : Nat) (ys : List Int) (a b p : Nat) (w : World) (hO : Own w base 30 1 uC (some ⟨g, 0, none⟩) n cap ys) (hap : a ≤ p) (hpb : p < b) (hbn : b ≤ n) (hn6 : n ≤ 1000000) :
    Calls Try.prog 76 #[.slice (some ⟨g, 0, none⟩) n cap, .int .i64 a, .int .i64 b, .int .i64 p] w (SegV base g n cap ys a b (PartQ a b) w) := by
  have hbg := rowN_base hO
  have hcap := hO.sl.max
  have hlen := hO.sl.len
  unfold maxLen at hcap
  have HN := hid hO.neq
  have HO := hid hO
  clear hO
  obtain ⟨P, hP⟩ : ∃ P, P = gN ys p := ⟨_, rfl⟩
  have HP := hid hP
  clear hP
  have HY := hid (show ys.length = n from HN.out.symm)
  go_enter Try.func76, Try.ntmps76
  go_upto_region 1 with (fail)
  go_cut [] (fun wx => Hid (Own wx base 30 1 uC (some ⟨g, 0, none⟩) n cap (swapN ys a p)) ∧ Hid (Below base w wx))
  case first =>
    have ba0 : (0 : Int) ≤ (a : Int) := by omega
    have ba1 : (a : Int) < (n : Int) := by omega
    have bp0 : (0 : Int) ≤ (p : Int) := by omega
    have bp1 : (p : Int) < (n : Int) := by omega
    have c0 := rowN_cell HO.out (k := a) (by rw [HY.out]; omega)
    have c1 := rowN_cell HO.out (k := p) (by rw [HY.out]; omega)
    have f0 := Own.free HO.out a
    have f1 := Own.free HO.out p
    by_cases hxy : a = p
    · subst hxy
      go_region
      all_goals
        go_wp2_with fail
        go_meet
        exact ⟨hid (by (try refine Own.ext ?_ (Ext.drew (Ext.refl _))); first | exact rowN_swap1 (Own.ext HO.out (by (repeat (first | exact Ext.refl _ | refine Ext.drewN ?_ _ | refine Ext.drew ?_)))) (by rw [HY.out]; omega) (by rw [HY.out]; omega) | exact rowN_swapB (Own.ext HO.out (by (repeat (first | exact Ext.refl _ | refine Ext.drewN ?_ _ | refine Ext.drew ?_)))) (by rw [HY.out]; omega) (by rw [HY.out]; omega)), hid (by (repeat (first | exact (Hid.out (by assumption)) | exact Below.refl _ _ | refine below_drewN ?_ _ | refine Below.drew ?_ | refine Below.setCell ?_ hbg _)))⟩
    · have hxy' : ¬ p = a := fun h => hxy h.symm
      go_region
      all_goals
        go_wp2_with fail
        go_meet
        exact ⟨hid (by (try refine Own.ext ?_ (Ext.drew (Ext.refl _))); first | exact rowN_swap1 (Own.ext HO.out (by (repeat (first | exact Ext.refl _ | refine Ext.drewN ?_ _ | refine Ext.drew ?_)))) (by rw [HY.out]; omega) (by rw [HY.out]; omega) | exact rowN_swapB (Own.ext HO.out (by (repeat (first | exact Ext.refl _ | refine Ext.drewN ?_ _ | refine Ext.drew ?_)))) (by rw [HY.out]; omega) (by rw [HY.out]; omega)), hid (by (repeat (first | exact (Hid.out (by assumption)) | exact Below.refl _ _ | refine below_drewN ?_ _ | refine Below.drew ?_ | refine Below.setCell ?_ hbg _)))⟩
  case rest =>
    obtain ⟨hos, hxs⟩ := hcut
    have HS := hid (show PT a b P (a + 1) (b - 1) (swapN ys a p) ys from by rw [HP.out]; exact PT.start hap hpb (by rw [HY.out]; exact hbn))
    obtain ⟨zs, hzs⟩ : ∃ zs, zs = swapN ys a p := ⟨_, rfl⟩
    rw [← hzs] at hos HS
    clear hzs
    rename World => ws
    have HLT := hid (show zs.length = n from by rw [HS.out.seg.len, HN.out])
    obtain ⟨i1, hi1⟩ : ∃ i1, i1 = a + 1 := ⟨_, rfl⟩
    obtain ⟨j1, hj1⟩ : ∃ j1, j1 = b - 1 := ⟨_, rfl⟩
    rw [← hi1, ← hj1] at HS
    have e1 : (a : Int) + 1 = (i1 : Int) := by omega
    have e2 : (b : Int) - 1 = (j1 : Int) := by omega
    have l1 : i1 ≤ 1000000 := by omega
    have l2 : j1 ≤ 1000000 := by omega
    clear hi1 hj1
    go_upto_region 2 with (fail)
    go_cut [10, 11] (fun iv jv wx => iv = .int .i64 i1 ∧ jv = .int .i64 j1 ∧ ws = wx)
    case first =>
      go_wp2_with fail
      go_meet
      exact ⟨congrArg (Value.int .i64) (by omega), congrArg (Value.int .i64) (by omega), rfl⟩
    case rest =>
      obtain ⟨rfl, rfl, rfl⟩ := hcut
      clear e1 e2
      go_upto_block 0 with (fail)
      go_cut [10] (fun iv wx => ∃ i2 : Nat, iv = .int .i64 i2 ∧ i1 ≤ i2 ∧ i2 ≤ 1000000 ∧ Hid (Own wx base 30 1 uC (some ⟨g, 0, none⟩) n cap zs) ∧ Hid (PT a b P i2 (j1) zs ys) ∧ Hid (j1 < i2 ∨ ¬ gN zs i2 < P) ∧ Hid (Below base w wx))
      case first =>
        go_wp2_with fail
        go_loopg [10] (j1 + 1 - (i1)) (fun gh iv wl => ∃ (i2 : Nat), gh = j1 + 1 - i2 ∧ i1 ≤ i2 ∧ i2 ≤ 1000000 ∧ iv = .int .i64 i2 ∧ Hid (Own wl base 30 1 uC (some ⟨g, 0, none⟩) n cap zs) ∧ Hid (PT a b P i2 (j1) zs ys) ∧ Hid (Below base w wl))
        case atStart => exact ⟨i1, rfl, Nat.le_refl _, l1, congrArg (Value.int .i64) (by omega), hos.out, HS.out, hxs.out⟩
        case round =>
          obtain ⟨i2, hg2, hii, hi26, rfl, ho2, hp2, hx2⟩ := hrel
          have p1 := hp2.out.ai
          have p2 := hp2.out.ij
          have p3 := hp2.out.jb
          by_cases hij : i2 ≤ j1
          · have q0 : (i2 : Int) ≤ ((j1 : Nat) : Int) := by omega
            have q9 : (i2 : Int) ≤ (j1 : Int) := by omega
            have ba0 : (0 : Int) ≤ (a : Int) := by omega
            have ba1 : (a : Int) < (n : Int) := by omega
            have bi20 : (0 : Int) ≤ (i2 : Int) := by omega
            have bi21 : (i2 : Int) < (n : Int) := by omega
            have c0 := rowN_cell ho2.out (k := a) (by rw [HLT.out]; omega)
            have c1 := rowN_cell ho2.out (k := i2) (by rw [HLT.out]; omega)
            have f0 := Own.free ho2.out a
            have f1 := Own.free ho2.out i2
            have hd := hp2.out.hd
            rw [hd] at c0
            clear hd
            by_cases hl : gN zs i2 < P
            · have q1 : decide (gN zs i2 < P) = true := decide_eq_true hl
              have HL := hid (show gN zs i2 < P from hl)
              clear hl
              go_wp2_with fail
              go_quiet ((go_at_call 74; exact Calls.quiet_of_same (less8_any _ _ _)))
              go_wp2
              go_roundg (j1 + 1 - (i2 + 1))
              case measure => omega
              case rel => exact ⟨i2 + 1, rfl, by omega, by omega, by go_num, hid (ho2.out.ext (by (repeat (first | exact Ext.refl _ | refine Ext.drewN ?_ _ | refine Ext.drew ?_)))), hid (hp2.out.left hij HL.out), hid (by (repeat (first | exact (Hid.out (by assumption)) | exact Below.refl _ _ | refine below_drewN ?_ _ | refine Below.drew ?_ | refine Below.setCell ?_ hbg _)))⟩
            · have q1 : decide (gN zs i2 < P) = false := decide_eq_false hl
              have HL := hid (show P ≤ gN zs i2 from by omega)
              clear hl
              go_wp2_with fail
              go_quiet ((go_at_call 74; exact Calls.quiet_of_same (less8_any _ _ _)))
              go_wp2_with fail
              go_meet
              exact ⟨i2, rfl, hii, hi26, hid (ho2.out.ext (by (repeat (first | exact Ext.refl _ | refine Ext.drewN ?_ _ | refine Ext.drew ?_)))), hp2, hid (.inr (by have := HL.out; omega)), hid (by (repeat (first | exact (Hid.out (by assumption)) | exact Below.refl _ _ | refine below_drewN ?_ _ | refine Below.drew ?_ | refine Below.setCell ?_ hbg _)))⟩
          · have q0 : ¬ ((i2 : Int) ≤ ((j1 : Nat) : Int)) := by omega
            have q9 : ¬ ((i2 : Int) ≤ (j1 : Int)) := by omega
            go_wp2_with fail
            go_quiet (fail)
            go_wp2_with fail
            go_meet
            exact ⟨i2, rfl, hii, hi26, hid (ho2.out.ext (by (repeat (first | exact Ext.refl _ | refine Ext.drewN ?_ _ | refine Ext.drew ?_)))), hp2, hid (.inl (by omega)), hid (by (repeat (first | exact (Hid.out (by assumption)) | exact Below.refl _ _ | refine below_drewN ?_ _ | refine Below.drew ?_ | refine Below.setCell ?_ hbg _)))⟩
      case rest =>
        obtain ⟨i2, rfl, hii, hi26, ho2, hp2, hst, hx2⟩ := hcut
        clear hos HS hxs
        rename World => w1a
        go_upto_block 2 with (fail)
        go_cut [11] (fun jv wx => ∃ j2 : Nat, jv = .int .i64 j2 ∧ j2 ≤ j1 ∧ Hid (Own wx base 30 1 uC (some ⟨g, 0, none⟩) n cap zs) ∧ Hid (PT a b P i2 j2 zs ys) ∧ Hid (j2 < i2 ∨ gN zs j2 < P) ∧ Hid (Below base w wx))
        case first =>
          go_wp2_with fail
          go_loopg [11] (j1 + 1 - i2) (fun gh jv wl => ∃ (j2 : Nat), gh = j2 + 1 - i2 ∧ j2 ≤ j1 ∧ jv = .int .i64 j2 ∧ Hid (Own wl base 30 1 uC (some ⟨g, 0, none⟩) n cap zs) ∧ Hid (PT a b P i2 j2 zs ys) ∧ Hid (Below base w wl))
          case atStart => exact ⟨j1, rfl, Nat.le_refl _, congrArg (Value.int .i64) (by omega), ho2.out, hp2.out, hx2.out⟩
          case round =>
            obtain ⟨j2, hg2, hjj, rfl, ho3, hp3, hx3⟩ := hrel
            have p1 := hp3.out.ai
            have p2 := hp3.out.ij
            have p3 := hp3.out.jb
            by_cases hij : i2 ≤ j2
            · have q0 : (i2 : Int) ≤ (j2 : Int) := by omega
              have ba0 : (0 : Int) ≤ (a : Int) := by omega
              have ba1 : (a : Int) < (n : Int) := by omega
              have bj20 : (0 : Int) ≤ (j2 : Int) := by omega
              have bj21 : (j2 : Int) < (n : Int) := by omega
              have c0 := rowN_cell ho3.out (k := a) (by rw [HLT.out]; omega)
              have c1 := rowN_cell ho3.out (k := j2) (by rw [HLT.out]; omega)
              have f0 := Own.free ho3.out a
              have f1 := Own.free ho3.out j2
              have hd := hp3.out.hd
              rw [hd] at c0
              clear hd
              by_cases hl : gN zs j2 < P
              · have q1 : decide (gN zs j2 < P) = true := decide_eq_true hl
                have HL := hid (show gN zs j2 < P from hl)
                clear hl
                go_wp2_with fail
                go_quiet ((go_at_call 74; exact Calls.quiet_of_same (less8_any _ _ _)))
                go_wp2_with fail
                go_meet
                exact ⟨j2, rfl, hjj, hid (ho3.out.ext (by (repeat (first | exact Ext.refl _ | refine Ext.drewN ?_ _ | refine Ext.drew ?_)))), hp3, hid (.inr HL.out), hid (by (repeat (first | exact (Hid.out (by assumption)) | exact Below.refl _ _ | refine below_drewN ?_ _ | refine Below.drew ?_ | refine Below.setCell ?_ hbg _)))⟩
              · have q1 : decide (gN zs j2 < P) = false := decide_eq_false hl
                have HL := hid (show P ≤ gN zs j2 from by omega)
                clear hl
                go_wp2_with fail
                go_quiet ((go_at_call 74; exact Calls.quiet_of_same (less8_any _ _ _)))
                go_wp2
                go_roundg (j2 - 1 + 1 - i2)
                case measure => omega
                case rel => exact ⟨j2 - 1, rfl, by omega, congrArg (Value.int .i64) (by omega), hid (ho3.out.ext (by (repeat (first | exact Ext.refl _ | refine Ext.drewN ?_ _ | refine Ext.drew ?_)))), hid (hp3.out.right hij (by have := HL.out; omega)), hid (by (repeat (first | exact (Hid.out (by assumption)) | exact Below.refl _ _ | refine below_drewN ?_ _ | refine Below.drew ?_ | refine Below.setCell ?_ hbg _)))⟩
            · have q0 : ¬ ((i2 : Int) ≤ (j2 : Int)) := by omega
              go_wp2_with fail
              go_quiet (fail)
              go_wp2_with fail
              go_meet
              exact ⟨j2, rfl, hjj, hid (ho3.out.ext (by (repeat (first | exact Ext.refl _ | refine Ext.drewN ?_ _ | refine Ext.drew ?_)))), hp3, hid (.inl (by omega)), hid (by (repeat (first | exact (Hid.out (by assumption)) | exact Below.refl _ _ | refine below_drewN ?_ _ | refine Below.drew ?_ | refine Below.setCell ?_ hbg _)))⟩
        case rest =>
          obtain ⟨j2, rfl, hjj, ho3, hp3, hst3, hx3⟩ := hcut
          clear ho2 hp2 hx2
          rename World => w1b
          have p1 := hp3.out.ai
          have p2 := hp3.out.ij
          have p3 := hp3.out.jb
          by_cases hij : i2 ≤ j2
          · have q0 : ¬ ((j2 : Int) < (i2 : Int)) := by omega
            have HI := hid (show ¬ gN zs i2 < P from by rcases hst.out with h | h <;> first | exact h | omega)
            have HJ := hid (show gN zs j2 < P from by rcases hst3.out with h | h <;> first | exact h | omega)
            have hne : ¬ i2 = j2 := fun e => by have := HI.out; have := HJ.out; subst e; omega
            go_upto_region 10 with (fail)
            go_cut [] (fun wx => Hid (Own wx base 30 1 uC (some ⟨g, 0, none⟩) n cap (swapN zs i2 j2)) ∧ Hid (Below base w wx))
            case first =>
              have bi20 : (0 : Int) ≤ (i2 : Int) := by omega
              have bi21 : (i2 : Int) < (n : Int) := by omega
              have bj20 : (0 : Int) ≤ (j2 : Int) := by omega
              have bj21 : (j2 : Int) < (n : Int) := by omega
              have c0 := rowN_cell ho3.out (k := i2) (by rw [HLT.out]; omega)
              have c1 := rowN_cell ho3.out (k := j2) (by rw [HLT.out]; omega)
              have f0 := Own.free ho3.out i2
              have f1 := Own.free ho3.out j2
              by_cases hxy : i2 = j2
              · subst hxy
                go_region
                all_goals
                  go_wp2_with fail
                  go_meet
                  exact ⟨hid (by (try refine Own.ext ?_ (Ext.drew (Ext.refl _))); first | exact rowN_swap1 (Own.ext ho3.out (by (repeat (first | exact Ext.refl _ | refine Ext.drewN ?_ _ | refine Ext.drew ?_)))) (by rw [HLT.out]; omega) (by rw [HLT.out]; omega) | exact rowN_swapB (Own.ext ho3.out (by (repeat (first | exact Ext.refl _ | refine Ext.drewN ?_ _ | refine Ext.drew ?_)))) (by rw [HLT.out]; omega) (by rw [HLT.out]; omega)), hid (by (repeat (first | exact (Hid.out (by assumption)) | exact Below.refl _ _ | refine below_drewN ?_ _ | refine Below.drew ?_ | refine Below.setCell ?_ hbg _)))⟩
              · have hxy' : ¬ j2 = i2 := fun h => hxy h.symm
                go_region
                all_goals
                  go_wp2_with fail
                  go_meet
                  exact ⟨hid (by (try refine Own.ext ?_ (Ext.drew (Ext.refl _))); first | exact rowN_swap1 (Own.ext ho3.out (by (repeat (first | exact Ext.refl _ | refine Ext.drewN ?_ _ | refine Ext.drew ?_)))) (by rw [HLT.out]; omega) (by rw [HLT.out]; omega) | exact rowN_swapB (Own.ext ho3.out (by (repeat (first | exact Ext.refl _ | refine Ext.drewN ?_ _ | refine Ext.drew ?_)))) (by rw [HLT.out]; omega) (by rw [HLT.out]; omega)), hid (by (repeat (first | exact (Hid.out (by assumption)) | exact Below.refl _ _ | refine below_drewN ?_ _ | refine Below.drew ?_ | refine Below.setCell ?_ hbg _)))⟩
            case rest =>
              obtain ⟨ho4, hx4⟩ := hcut
              have HP4 := hid (hp3.out.swap (by rw [HLT.out]; exact hbn) hij (by have := HI.out; omega) (by have := HJ.out; omega))
              clear ho3 hp3 hx3 HLT hst hst3 HI HJ hne
              obtain ⟨zu, hzu⟩ : ∃ zu, zu = swapN zs i2 j2 := ⟨_, rfl⟩
              rw [← hzu] at ho4 HP4
              clear hzu
              go_wp2_with fail
              go_loopg [10, 11] (j2 - 1 + 1 - (i2 + 1)) (fun gh iv jv wr => ∃ (i j : Nat) (zs : List Int), gh = j + 1 - i ∧ i ≤ 1000000 ∧ j ≤ 1000000 ∧ iv = .int .i64 i ∧ jv = .int .i64 j ∧ Hid (Own wr base 30 1 uC (some ⟨g, 0, none⟩) n cap zs) ∧ Hid (PT a b P i j zs ys) ∧ Hid (Below base w wr))
              case atStart => exact ⟨i2 + 1, j2 - 1, zu, rfl, by omega, by omega, by go_num, congrArg (Value.int .i64) (by omega), ho4.out, HP4.out, hx4.out⟩
              case round =>
                clear hij q0 p1 p2 p3 hii hi26 hjj
                rename_i i2x j2x _ _
                obtain ⟨i, j, zs, hg, hi6, hj6, rfl, rfl, ho, hp, hx⟩ := hrel
                have HLT := hid (show zs.length = n from by rw [hp.out.seg.len, HN.out])
                rename World => wr
                go_upto_block 6 with (fail)
                go_cut [10] (fun iv wx => ∃ i2 : Nat, iv = .int .i64 i2 ∧ i ≤ i2 ∧ i2 ≤ 1000000 ∧ Hid (Own wx base 30 1 uC (some ⟨g, 0, none⟩) n cap zs) ∧ Hid (PT a b P i2 (j) zs ys) ∧ Hid (j < i2 ∨ ¬ gN zs i2 < P) ∧ Hid (Below base w wx))
                case first =>
                  go_wp2_with fail
                  go_loopg [10] (j + 1 - (i)) (fun gh iv wl => ∃ (i2 : Nat), gh = j + 1 - i2 ∧ i ≤ i2 ∧ i2 ≤ 1000000 ∧ iv = .int .i64 i2 ∧ Hid (Own wl base 30 1 uC (some ⟨g, 0, none⟩) n cap zs) ∧ Hid (PT a b P i2 (j) zs ys) ∧ Hid (Below base w wl))
                  case atStart => exact ⟨i, rfl, Nat.le_refl _, hi6, congrArg (Value.int .i64) (by omega), ho.out, hp.out, hx.out⟩
                  case round =>
                    obtain ⟨i2, hg2, hii, hi26, rfl, ho2, hp2, hx2⟩ := hrel
                    have p1 := hp2.out.ai
                    have p2 := hp2.out.ij
                    have p3 := hp2.out.jb
                    by_cases hij : i2 ≤ j
                    · have q0 : (i2 : Int) ≤ ((j : Nat) : Int) := by omega
                      have q9 : (i2 : Int) ≤ (j : Int) := by omega
                      have ba0 : (0 : Int) ≤ (a : Int) := by omega
                      have ba1 : (a : Int) < (n : Int) := by omega
                      have bi20 : (0 : Int) ≤ (i2 : Int) := by omega
                      have bi21 : (i2 : Int) < (n : Int) := by omega
                      have c0 := rowN_cell ho2.out (k := a) (by rw [HLT.out]; omega)
                      have c1 := rowN_cell ho2.out (k := i2) (by rw [HLT.out]; omega)
                      have f0 := Own.free ho2.out a
                      have f1 := Own.free ho2.out i2
                      have hd := hp2.out.hd
                      rw [hd] at c0
                      clear hd
                      by_cases hl : gN zs i2 < P
                      · have q1 : decide (gN zs i2 < P) = true := decide_eq_true hl
                        have HL := hid (show gN zs i2 < P from hl)
                        clear hl
                        go_wp2_with fail
                        go_quiet ((go_at_call 74; exact Calls.quiet_of_same (less8_any _ _ _)))
                        go_wp2
                        go_roundg (j + 1 - (i2 + 1))
                        case measure => omega
                        case rel => exact ⟨i2 + 1, rfl, by omega, by omega, by go_num, hid (ho2.out.ext (by (repeat (first | exact Ext.refl _ | refine Ext.drewN ?_ _ | refine Ext.drew ?_)))), hid (hp2.out.left hij HL.out), hid (by (repeat (first | exact (Hid.out (by assumption)) | exact Below.refl _ _ | refine below_drewN ?_ _ | refine Below.drew ?_ | refine Below.setCell ?_ hbg _)))⟩
                      · have q1 : decide (gN zs i2 < P) = false := decide_eq_false hl
                        have HL := hid (show P ≤ gN zs i2 from by omega)
                        clear hl
                        go_wp2_with fail
                        go_quiet ((go_at_call 74; exact Calls.quiet_of_same (less8_any _ _ _)))
                        go_wp2_with fail
                        go_meet
                        exact ⟨i2, rfl, hii, hi26, hid (ho2.out.ext (by (repeat (first | exact Ext.refl _ | refine Ext.drewN ?_ _ | refine Ext.drew ?_)))), hp2, hid (.inr (by have := HL.out; omega)), hid (by (repeat (first | exact (Hid.out (by assumption)) | exact Below.refl _ _ | refine below_drewN ?_ _ | refine Below.drew ?_ | refine Below.setCell ?_ hbg _)))⟩
                    · have q0 : ¬ ((i2 : Int) ≤ ((j : Nat) : Int)) := by omega
                      have q9 : ¬ ((i2 : Int) ≤ (j : Int)) := by omega
                      go_wp2_with fail
                      go_quiet (fail)
                      go_wp2_with fail
                      go_meet
                      exact ⟨i2, rfl, hii, hi26, hid (ho2.out.ext (by (repeat (first | exact Ext.refl _ | refine Ext.drewN ?_ _ | refine Ext.drew ?_)))), hp2, hid (.inl (by omega)), hid (by (repeat (first | exact (Hid.out (by assumption)) | exact Below.refl _ _ | refine below_drewN ?_ _ | refine Below.drew ?_ | refine Below.setCell ?_ hbg _)))⟩
                case rest =>
                  obtain ⟨i2, rfl, hii, hi26, ho2, hp2, hst, hx2⟩ := hcut
                  clear ho hp hx
                  rename World => w3a
                  go_upto_block 8 with (fail)
                  go_cut [11] (fun jv wx => ∃ j2 : Nat, jv = .int .i64 j2 ∧ j2 ≤ j ∧ Hid (Own wx base 30 1 uC (some ⟨g, 0, none⟩) n cap zs) ∧ Hid (PT a b P i2 j2 zs ys) ∧ Hid (j2 < i2 ∨ gN zs j2 < P) ∧ Hid (Below base w wx))
                  case first =>
                    go_wp2_with fail
                    go_loopg [11] (j + 1 - i2) (fun gh jv wl => ∃ (j2 : Nat), gh = j2 + 1 - i2 ∧ j2 ≤ j ∧ jv = .int .i64 j2 ∧ Hid (Own wl base 30 1 uC (some ⟨g, 0, none⟩) n cap zs) ∧ Hid (PT a b P i2 j2 zs ys) ∧ Hid (Below base w wl))
                    case atStart => exact ⟨j, rfl, Nat.le_refl _, congrArg (Value.int .i64) (by omega), ho2.out, hp2.out, hx2.out⟩
                    case round =>
                      obtain ⟨j2, hg2, hjj, rfl, ho3, hp3, hx3⟩ := hrel
                      have p1 := hp3.out.ai
                      have p2 := hp3.out.ij
                      have p3 := hp3.out.jb
                      by_cases hij : i2 ≤ j2
                      · have q0 : (i2 : Int) ≤ (j2 : Int) := by omega
                        have ba0 : (0 : Int) ≤ (a : Int) := by omega
                        have ba1 : (a : Int) < (n : Int) := by omega
                        have bj20 : (0 : Int) ≤ (j2 : Int) := by omega
                        have bj21 : (j2 : Int) < (n : Int) := by omega
                        have c0 := rowN_cell ho3.out (k := a) (by rw [HLT.out]; omega)
                        have c1 := rowN_cell ho3.out (k := j2) (by rw [HLT.out]; omega)
                        have f0 := Own.free ho3.out a
                        have f1 := Own.free ho3.out j2
                        have hd := hp3.out.hd
                        rw [hd] at c0
                        clear hd
                        by_cases hl : gN zs j2 < P
                        · have q1 : decide (gN zs j2 < P) = true := decide_eq_true hl
                          have HL := hid (show gN zs j2 < P from hl)
                          clear hl
                          go_wp2_with fail
                          go_quiet ((go_at_call 74; exact Calls.quiet_of_same (less8_any _ _ _)))
                          go_wp2_with fail
                          go_meet
                          exact ⟨j2, rfl, hjj, hid (ho3.out.ext (by (repeat (first | exact Ext.refl _ | refine Ext.drewN ?_ _ | refine Ext.drew ?_)))), hp3, hid (.inr HL.out), hid (by (repeat (first | exact (Hid.out (by assumption)) | exact Below.refl _ _ | refine below_drewN ?_ _ | refine Below.drew ?_ | refine Below.setCell ?_ hbg _)))⟩
                        · have q1 : decide (gN zs j2 < P) = false := decide_eq_false hl
                          have HL := hid (show P ≤ gN zs j2 from by omega)
                          clear hl
                          go_wp2_with fail
                          go_quiet ((go_at_call 74; exact Calls.quiet_of_same (less8_any _ _ _)))
                          go_wp2
                          go_roundg (j2 - 1 + 1 - i2)
                          case measure => omega
                          case rel => exact ⟨j2 - 1, rfl, by omega, congrArg (Value.int .i64) (by omega), hid (ho3.out.ext (by (repeat (first | exact Ext.refl _ | refine Ext.drewN ?_ _ | refine Ext.drew ?_)))), hid (hp3.out.right hij (by have := HL.out; omega)), hid (by (repeat (first | exact (Hid.out (by assumption)) | exact Below.refl _ _ | refine below_drewN ?_ _ | refine Below.drew ?_ | refine Below.setCell ?_ hbg _)))⟩
                      · have q0 : ¬ ((i2 : Int) ≤ (j2 : Int)) := by omega
                        go_wp2_with fail
                        go_quiet (fail)
                        go_wp2_with fail
                        go_meet
                        exact ⟨j2, rfl, hjj, hid (ho3.out.ext (by (repeat (first | exact Ext.refl _ | refine Ext.drewN ?_ _ | refine Ext.drew ?_)))), hp3, hid (.inl (by omega)), hid (by (repeat (first | exact (Hid.out (by assumption)) | exact Below.refl _ _ | refine below_drewN ?_ _ | refine Below.drew ?_ | refine Below.setCell ?_ hbg _)))⟩
                  case rest =>
                    obtain ⟨j2, rfl, hjj, ho3, hp3, hst3, hx3⟩ := hcut
                    clear ho2 hp2 hx2
                    rename World => w3b
                    have p1 := hp3.out.ai
                    have p2 := hp3.out.ij
                    have p3 := hp3.out.jb
                    by_cases hij : i2 ≤ j2
                    · have q0 : ¬ ((j2 : Int) < (i2 : Int)) := by omega
                      have HI := hid (show ¬ gN zs i2 < P from by rcases hst.out with h | h <;> first | exact h | omega)
                      have HJ := hid (show gN zs j2 < P from by rcases hst3.out with h | h <;> first | exact h | omega)
                      have hne : ¬ i2 = j2 := fun e => by have := HI.out; have := HJ.out; subst e; omega
                      go_upto_region 18 with (fail)
                      go_cut [] (fun wx => Hid (Own wx base 30 1 uC (some ⟨g, 0, none⟩) n cap (swapN zs i2 j2)) ∧ Hid (Below base w wx))
                      case first =>
                        have bi20 : (0 : Int) ≤ (i2 : Int) := by omega
                        have bi21 : (i2 : Int) < (n : Int) := by omega
                        have bj20 : (0 : Int) ≤ (j2 : Int) := by omega
                        have bj21 : (j2 : Int) < (n : Int) := by omega
                        have c0 := rowN_cell ho3.out (k := i2) (by rw [HLT.out]; omega)
                        have c1 := rowN_cell ho3.out (k := j2) (by rw [HLT.out]; omega)
                        have f0 := Own.free ho3.out i2
                        have f1 := Own.free ho3.out j2
                        by_cases hxy : i2 = j2
                        · subst hxy
                          go_region
                          all_goals
                            go_wp2_with fail
                            go_meet
                            exact ⟨hid (by (try refine Own.ext ?_ (Ext.drew (Ext.refl _))); first | exact rowN_swap1 (Own.ext ho3.out (by (repeat (first | exact Ext.refl _ | refine Ext.drewN ?_ _ | refine Ext.drew ?_)))) (by rw [HLT.out]; omega) (by rw [HLT.out]; omega) | exact rowN_swapB (Own.ext ho3.out (by (repeat (first | exact Ext.refl _ | refine Ext.drewN ?_ _ | refine Ext.drew ?_)))) (by rw [HLT.out]; omega) (by rw [HLT.out]; omega)), hid (by (repeat (first | exact (Hid.out (by assumption)) | exact Below.refl _ _ | refine below_drewN ?_ _ | refine Below.drew ?_ | refine Below.setCell ?_ hbg _)))⟩
                        · have hxy' : ¬ j2 = i2 := fun h => hxy h.symm
                          go_region
                          all_goals
                            go_wp2_with fail
                            go_meet
                            exact ⟨hid (by (try refine Own.ext ?_ (Ext.drew (Ext.refl _))); first | exact rowN_swap1 (Own.ext ho3.out (by (repeat (first | exact Ext.refl _ | refine Ext.drewN ?_ _ | refine Ext.drew ?_)))) (by rw [HLT.out]; omega) (by rw [HLT.out]; omega) | exact rowN_swapB (Own.ext ho3.out (by (repeat (first | exact Ext.refl _ | refine Ext.drewN ?_ _ | refine Ext.drew ?_)))) (by rw [HLT.out]; omega) (by rw [HLT.out]; omega)), hid (by (repeat (first | exact (Hid.out (by assumption)) | exact Below.refl _ _ | refine below_drewN ?_ _ | refine Below.drew ?_ | refine Below.setCell ?_ hbg _)))⟩
                      case rest =>
                        obtain ⟨ho4, hx4⟩ := hcut
                        go_wp2
                        go_roundg (j2 - 1 + 1 - (i2 + 1))
                        case measure => omega
                        case rel => exact ⟨i2 + 1, j2 - 1, _, rfl, by omega, by omega, by go_num, congrArg (Value.int .i64) (by omega), ho4.out, hid (hp3.out.swap (by rw [HLT.out]; exact hbn) hij (by have := HI.out; omega) (by have := HJ.out; omega)), hx4.out⟩
                    · have q0 : (j2 : Int) < (i2 : Int) := by omega
                      have HD := hid (hp3.out.done (by rw [HLT.out]; exact hbn) (by omega) false)
                      go_upto_region 21 with (fail)
                      go_cut [] (fun wx => Hid (Own wx base 30 1 uC (some ⟨g, 0, none⟩) n cap (swapN zs j2 a)) ∧ Hid (Below base w wx))
                      case first =>
                        have bj20 : (0 : Int) ≤ (j2 : Int) := by omega
                        have bj21 : (j2 : Int) < (n : Int) := by omega
                        have ba0 : (0 : Int) ≤ (a : Int) := by omega
                        have ba1 : (a : Int) < (n : Int) := by omega
                        have c0 := rowN_cell ho3.out (k := j2) (by rw [HLT.out]; omega)
                        have c1 := rowN_cell ho3.out (k := a) (by rw [HLT.out]; omega)
                        have f0 := Own.free ho3.out j2
                        have f1 := Own.free ho3.out a
                        by_cases hxy : j2 = a
                        · subst hxy
                          go_region
                          all_goals
                            go_wp2_with fail
                            go_meet
                            exact ⟨hid (by (try refine Own.ext ?_ (Ext.drew (Ext.refl _))); first | exact rowN_swap1 (Own.ext ho3.out (by (repeat (first | exact Ext.refl _ | refine Ext.drewN ?_ _ | refine Ext.drew ?_)))) (by rw [HLT.out]; omega) (by rw [HLT.out]; omega) | exact rowN_swapB (Own.ext ho3.out (by (repeat (first | exact Ext.refl _ | refine Ext.drewN ?_ _ | refine Ext.drew ?_)))) (by rw [HLT.out]; omega) (by rw [HLT.out]; omega)), hid (by (repeat (first | exact (Hid.out (by assumption)) | exact Below.refl _ _ | refine below_drewN ?_ _ | refine Below.drew ?_ | refine Below.setCell ?_ hbg _)))⟩
                        · have hxy' : ¬ a = j2 := fun h => hxy h.symm
                          go_region
                          all_goals
                            go_wp2_with fail
                            go_meet
                            exact ⟨hid (by (try refine Own.ext ?_ (Ext.drew (Ext.refl _))); first | exact rowN_swap1 (Own.ext ho3.out (by (repeat (first | exact Ext.refl _ | refine Ext.drewN ?_ _ | refine Ext.drew ?_)))) (by rw [HLT.out]; omega) (by rw [HLT.out]; omega) | exact rowN_swapB (Own.ext ho3.out (by (repeat (first | exact Ext.refl _ | refine Ext.drewN ?_ _ | refine Ext.drew ?_)))) (by rw [HLT.out]; omega) (by rw [HLT.out]; omega)), hid (by (repeat (first | exact (Hid.out (by assumption)) | exact Below.refl _ _ | refine below_drewN ?_ _ | refine Below.drew ?_ | refine Below.setCell ?_ hbg _)))⟩
                      case rest =>
                        obtain ⟨ho4, hx4⟩ := hcut
                        go_wp2
                        go_ret2
                        exact ⟨_, _, rfl, ho4.out, HD.out.1, HD.out.2, hx4.out⟩
          · have q0 : (j2 : Int) < (i2 : Int) := by omega
            have HD := hid (hp3.out.done (by rw [HLT.out]; exact hbn) (by omega) true)
            go_upto_region 8 with (fail)
            go_cut [] (fun wx => Hid (Own wx base 30 1 uC (some ⟨g, 0, none⟩) n cap (swapN zs j2 a)) ∧ Hid (Below base w wx))
            case first =>
              have bj20 : (0 : Int) ≤ (j2 : Int) := by omega
              have bj21 : (j2 : Int) < (n : Int) := by omega
              have ba0 : (0 : Int) ≤ (a : Int) := by omega
              have ba1 : (a : Int) < (n : Int) := by omega
              have c0 := rowN_cell ho3.out (k := j2) (by rw [HLT.out]; omega)
              have c1 := rowN_cell ho3.out (k := a) (by rw [HLT.out]; omega)
              have f0 := Own.free ho3.out j2
              have f1 := Own.free ho3.out a
              by_cases hxy : j2 = a
              · subst hxy
                go_region
                all_goals
                  go_wp2_with fail
                  go_meet
                  exact ⟨hid (by (try refine Own.ext ?_ (Ext.drew (Ext.refl _))); first | exact rowN_swap1 (Own.ext ho3.out (by (repeat (first | exact Ext.refl _ | refine Ext.drewN ?_ _ | refine Ext.drew ?_)))) (by rw [HLT.out]; omega) (by rw [HLT.out]; omega) | exact rowN_swapB (Own.ext ho3.out (by (repeat (first | exact Ext.refl _ | refine Ext.drewN ?_ _ | refine Ext.drew ?_)))) (by rw [HLT.out]; omega) (by rw [HLT.out]; omega)), hid (by (repeat (first | exact (Hid.out (by assumption)) | exact Below.refl _ _ | refine below_drewN ?_ _ | refine Below.drew ?_ | refine Below.setCell ?_ hbg _)))⟩
              · have hxy' : ¬ a = j2 := fun h => hxy h.symm
                go_region
                all_goals
                  go_wp2_with fail
                  go_meet
                  exact ⟨hid (by (try refine Own.ext ?_ (Ext.drew (Ext.refl _))); first | exact rowN_swap1 (Own.ext ho3.out (by (repeat (first | exact Ext.refl _ | refine Ext.drewN ?_ _ | refine Ext.drew ?_)))) (by rw [HLT.out]; omega) (by rw [HLT.out]; omega) | exact rowN_swapB (Own.ext ho3.out (by (repeat (first | exact Ext.refl _ | refine Ext.drewN ?_ _ | refine Ext.drew ?_)))) (by rw [HLT.out]; omega) (by rw [HLT.out]; omega)), hid (by (repeat (first | exact (Hid.out (by assumption)) | exact Below.refl _ _ | refine below_drewN ?_ _ | refine Below.drew ?_ | refine Below.setCell ?_ hbg _)))⟩
            case rest =>
              obtain ⟨ho4, hx4⟩ := hcut
              go_wp2
              go_ret2
              exact ⟨_, _, rfl, ho4.out, HD.out.1, HD.out.2, hx4.out⟩
end Go.Proofs.Ytjggjkmafcokjaa
