/- Numbers of a row: exchanges, and what a call over a piece gives back. -/
import Derived.Test.YtjggjkmafcokjaaIns
import Derived.Sort.LotB
import Derived.Deep.DeepCutAuto
import Derived.BigRegion
import Derived.Sort.AssemblyPlain
import Derived.Deep.CutBlock
set_option linter.unusedVariables false
set_option linter.unusedSimpArgs false
namespace Go.Proofs.Ytjggjkmafcokjaa
open Go.RowKit

theorem rowN_swapB {w : World} {base g n cap : Nat} {zs : List Int} (h : Own w base 30 1 uC (some ⟨g, 0, none⟩) n cap zs) {i j : Nat} (hi : i < zs.length) (hj : j < zs.length) : Own ((w.setCell ⟨g, j, none⟩ (.int .u64 (gN zs i))).setCell ⟨g, i, none⟩ (.int .u64 (gN zs j))) base 30 1 uC (some ⟨g, 0, none⟩) n cap (swapN zs i j) := by
  by_cases hne : i = j
  · subst hne; exact rowN_swap1 h hi hj
  · exact rowN_swap2 h hi hj hne
/-- A call over a piece of a row that gives a value back, and turns nothing else that is old. -/
def SegV (base g n cap : Nat) (ys : List Int) (a b : Nat) (Q : Value → List Int → Prop) (w : World) (e : Ending) (w' : World) : Prop :=
  ∃ v zs, e = .returned v ∧ Own w' base 30 1 uC (some ⟨g, 0, none⟩) n cap zs ∧ Seg a b zs ys ∧ Q v zs ∧ Below base w w'
set_option maxRecDepth 100000 in
set_option maxHeartbeats 4000000 in
theorem rev_any (base g n cap : Nat) (ys : List Int) (a b : Nat) (w : World) (hO : Own w base 30 1 uC (some ⟨g, 0, none⟩) n cap ys) (hab : a < b) (hbn : b ≤ n) (hn6 : n ≤ 1000000) :
    Calls Try.prog 72 #[.slice (some ⟨g, 0, none⟩) n cap, .int .i64 a, .int .i64 b] w (SegR base g n cap ys a b (fun _ => True) w) := by
  have hbg := rowN_base hO
  have hnn := hO.neq
  have hcap := hO.sl.max
  have hlen := hO.sl.len
  unfold maxLen at hcap
  have HN := hid hnn
  have HO := hid hO
  clear hO hnn
  go_enter Try.func72, Try.ntmps72
  go_wp2_with fail
  go_loopg [6, 7] (b - a) (fun gh iv jv wr => ∃ (i j : Nat) (zs : List Int), gh = j - i ∧ i + j = a + b ∧ a ≤ i ∧ i ≤ j ∧ iv = .int .i64 i ∧ jv = .int .i64 ((j : Int) - 1) ∧ Hid (Own wr base 30 1 uC (some ⟨g, 0, none⟩) n cap zs) ∧ Hid (Seg a b zs ys) ∧ Hid (Below base w wr))
  case atStart => exact ⟨a, b, ys, rfl, rfl, by omega, by omega, rfl, by go_num, HO.out, Seg.refl _ _ _, Below.refl _ _⟩
  case round =>
    obtain ⟨i, j, zs, hg, hs, hai, hij, rfl, rfl, ho, hsg, hx⟩ := hrel
    have HLT := hid (show zs.length = n from by rw [hsg.out.len, HN.out])
    by_cases hi : i + 1 < j
    · have b0 : (0 : Int) ≤ (i : Int) := by omega
      have b1 : (i : Int) < (n : Int) := by omega
      have b2 : (0 : Int) ≤ (j : Int) - 1 := by omega
      have b3 : (j : Int) - 1 < (n : Int) := by omega
      have b5 : ((j : Int) - 1).toNat = j - 1 := by omega
      have b7 : (i : Int) < (j : Int) - 1 := by omega
      have c0 := rowN_cell ho.out (k := i) (by rw [HLT.out]; omega)
      have c1 := rowN_cell ho.out (k := j - 1) (by rw [HLT.out]; omega)
      have f0 := ho.out.free i
      have f1 := ho.out.free (j - 1)
      go_wp2_with fail
      go_region_with (fail)
      all_goals
        go_wp2
        go_roundg (gk - 2)
        case measure => omega
        case rel => exact ⟨i + 1, j - 1, swapN zs i (j - 1), by omega, by omega, by omega, by omega, by go_num, by (congr 1; omega), hid (by (try refine Own.ext ?_ (Ext.drew (Ext.refl _))); first | exact rowN_swap1 (Own.ext ho.out (by (repeat (first | exact Ext.refl _ | refine Ext.drewN ?_ _ | refine Ext.drew ?_)))) (by rw [HLT.out]; omega) (by rw [HLT.out]; omega) | exact rowN_swapB (Own.ext ho.out (by (repeat (first | exact Ext.refl _ | refine Ext.drewN ?_ _ | refine Ext.drew ?_)))) (by rw [HLT.out]; omega) (by rw [HLT.out]; omega)), hid (hsg.out.swap (by omega) (by omega) (by omega) (by omega) (by rw [← HN.out]; exact hbn)), (by (repeat (first | exact (Hid.out (by assumption)) | exact Below.refl _ _ | refine below_drewN ?_ _ | refine Below.drew ?_ | refine Below.setCell ?_ hbg _)))⟩
    · have b7 : ¬ ((i : Int) < (j : Int) - 1) := by omega
      go_wp2
      go_end0
      exact ⟨rfl, zs, ho.out, hsg.out, trivial, hx.out⟩
end Go.Proofs.Ytjggjkmafcokjaa

namespace Go.Proofs.Ytjggjkmafcokjaa
open Go.RowKit

theorem arr_at (zs : List Int) (k : Nat) : zs.toArray[k]! = gN zs k := by
  unfold gN; simp [List.getD]
theorem arr_swp (zs : List Int) (i j : Nat) : Sort.swp zs.toArray i j = (swapN zs i j).toArray := by
  unfold Sort.swp swapN; simp only [arr_at, List.setIfInBounds_toArray]
theorem lt_true {x y : Int} (h : x < y) : Sort.ltInt x y = true := by unfold Sort.ltInt; exact decide_eq_true h
theorem lt_false {x y : Int} (h : ¬ x < y) : Sort.ltInt x y = false := by unfold Sort.ltInt; exact decide_eq_false h
def siftN (hi f r : Nat) (zs : List Int) : List Int := (Sort.siftDown Sort.ltInt hi f r zs.toArray).toList
theorem siftN_end {hi f r : Nat} {zs : List Int} (h : ¬ 2 * r + 1 < hi) : siftN hi f r zs = zs := by
  unfold siftN; rw [Sort.siftDown, dif_pos (by omega)]
/-- the child that is the greater -/
def kidN (hi f r : Nat) (zs : List Int) : Nat := if 2 * r + 2 < hi ∧ gN zs (f + (2 * r + 1)) < gN zs (f + (2 * r + 2)) then 2 * r + 2 else 2 * r + 1
theorem siftN_stop {hi f r : Nat} {zs : List Int} (h : 2 * r + 1 < hi) (hl : ¬ gN zs (f + r) < gN zs (f + kidN hi f r zs)) : siftN hi f r zs = zs := by
  unfold kidN at hl
  unfold siftN; rw [Sort.siftDown, dif_neg (by omega)]
  simp only [arr_at]
  by_cases hk : 2 * r + 2 < hi ∧ gN zs (f + (2 * r + 1)) < gN zs (f + (2 * r + 2))
  · rw [if_pos hk] at hl
    have e : f + (2 * r + 1) + 1 = f + (2 * r + 2) := by omega
    rw [if_pos (by rw [e, lt_true hk.2]; simp; omega), if_pos (by rw [lt_false hl]; rfl)]
  · rw [if_neg hk] at hl
    have e : f + (2 * r + 1) + 1 = f + (2 * r + 2) := by omega
    rw [if_neg (by rw [e]; intro h'; simp only [Bool.and_eq_true, decide_eq_true_eq] at h'; exact hk ⟨by omega, by have := h'.2; unfold Sort.ltInt at this; exact of_decide_eq_true this⟩), if_pos (by rw [lt_false hl]; rfl)]
theorem siftN_step {hi f r : Nat} {zs : List Int} (h : 2 * r + 1 < hi) (hl : gN zs (f + r) < gN zs (f + kidN hi f r zs)) : siftN hi f r zs = siftN hi f (kidN hi f r zs) (swapN zs (f + r) (f + kidN hi f r zs)) := by
  unfold siftN; rw [Sort.siftDown, dif_neg (by omega)]
  simp only [arr_at]
  unfold kidN at hl ⊢
  have e : f + (2 * r + 1) + 1 = f + (2 * r + 2) := by omega
  by_cases hk : 2 * r + 2 < hi ∧ gN zs (f + (2 * r + 1)) < gN zs (f + (2 * r + 2))
  · simp only [if_pos hk] at hl ⊢
    rw [if_pos (by rw [e, lt_true hk.2]; simp; omega), if_neg (by rw [lt_true hl]; simp), dif_pos hk.1, arr_swp]
  · simp only [if_neg hk] at hl ⊢
    rw [if_neg (by rw [e]; intro h'; simp only [Bool.and_eq_true, decide_eq_true_eq] at h'; exact hk ⟨by omega, by have := h'.2; unfold Sort.ltInt at this; exact of_decide_eq_true this⟩), if_neg (by rw [lt_true hl]; simp), arr_swp]
theorem kidN_le (hi f r : Nat) (zs : List Int) (h : 2 * r + 1 < hi) : r < kidN hi f r zs ∧ kidN hi f r zs < hi := by
  unfold kidN; split <;> omega
/-- what a call that sifts gives back -/
def SiftR (base g n cap : Nat) (ys : List Int) (w : World) (e : Ending) (w' : World) : Prop := e = .returned (.tuple #[]) ∧ Own w' base 30 1 uC (some ⟨g, 0, none⟩) n cap ys ∧ Below base w w'
set_option maxRecDepth 100000 in
set_option maxHeartbeats 4000000 in
theorem sift_any (base g n cap : Nat) (ys : List Int) (lo hi f : Nat) (w : World) (hO : Own w base 30 1 uC (some ⟨g, 0, none⟩) n cap ys) (hlo : lo ≤ hi) (hf : f + hi ≤ n) (hn6 : n ≤ 1000000) :
    Calls Try.prog 82 #[.slice (some ⟨g, 0, none⟩) n cap, .int .i64 lo, .int .i64 hi, .int .i64 f] w (SiftR base g n cap (siftN hi f lo ys) w) := by
  have hbg := rowN_base hO
  have hcap := hO.sl.max
  have hlen := hO.sl.len
  unfold maxLen at hcap
  have HO := hid hO
  clear hO
  go_enter Try.func82, Try.ntmps82
  go_wp2_with fail
  go_loopg [8] (hi - lo) (fun gh rv wr => ∃ (r : Nat) (zs : List Int), gh = hi - r ∧ r ≤ hi ∧ rv = .int .i64 r ∧ Hid (Own wr base 30 1 uC (some ⟨g, 0, none⟩) n cap zs) ∧ Hid (siftN hi f r zs = siftN hi f lo ys) ∧ Hid (Below base w wr))
  case atStart => exact ⟨lo, ys, rfl, hlo, rfl, HO.out, hid rfl, hid (Below.refl _ _)⟩
  case round =>
    obtain ⟨r, zs, hg, hr, rfl, ho, hs, hx⟩ := hrel
    have HLT := hid (show zs.length = n from ho.out.neq.symm)
    by_cases h0 : 2 * r + 1 < hi
    · have HK := hid (kidN_le hi f r zs h0)
      have a0 : ¬ ((hi : Int) ≤ 2 * (r : Int) + 1) := by omega
      go_upto_region 3 with (fail)
      go_cut [36] (fun s wx => s = .bool (decide (2 * r + 2 < hi ∧ gN zs (f + (2 * r + 1)) < gN zs (f + (2 * r + 2)))) ∧ Hid (Ext wr wx))
      case first =>
        by_cases h1 : 2 * r + 2 < hi
        · have a1 : 2 * (r : Int) + 1 + 1 < (hi : Int) := by omega
          have b0 : (0 : Int) ≤ (f : Int) + (2 * (r : Int) + 1) := by omega
          have b1 : (f : Int) + (2 * (r : Int) + 1) < (n : Int) := by omega
          have b2 : (0 : Int) ≤ (f : Int) + (2 * (r : Int) + 1) + 1 := by omega
          have b3 : (f : Int) + (2 * (r : Int) + 1) + 1 < (n : Int) := by omega
          have t0 : ((f : Int) + (2 * (r : Int) + 1)).toNat = f + (2 * r + 1) := by omega
          have t1 : ((f : Int) + (2 * (r : Int) + 1) + 1).toNat = f + (2 * r + 2) := by omega
          have c0 := rowN_cell ho.out (k := f + (2 * r + 1)) (by rw [HLT.out]; omega)
          have c1 := rowN_cell ho.out (k := f + (2 * r + 2)) (by rw [HLT.out]; omega)
          go_quiet ((go_at_call 74; exact Calls.quiet_of_same (less8_any _ _ _)))
          go_wp2_with fail
          go_meet
          exact ⟨by simp [h1], hid (by (repeat (first | exact Ext.refl _ | refine Ext.drewN ?_ _ | refine Ext.drew ?_)))⟩
        · have a1 : ¬ (2 * (r : Int) + 1 + 1 < (hi : Int)) := by omega
          go_quiet (fail)
          go_wp2_with fail
          go_meet
          exact ⟨by simp [h1], hid (by (repeat (first | exact Ext.refl _ | refine Ext.drewN ?_ _ | refine Ext.drew ?_)))⟩
      case rest =>
        obtain ⟨rfl, hxc⟩ := hcut
        go_upto_if 36 with (fail)
        go_cut [9] (fun cv wx => cv = .int .i64 (kidN hi f r zs) ∧ wc = wx)
        case first =>
          by_cases hk : 2 * r + 2 < hi ∧ gN zs (f + (2 * r + 1)) < gN zs (f + (2 * r + 2))
          · have q : decide (2 * r + 2 < hi ∧ gN zs (f + (2 * r + 1)) < gN zs (f + (2 * r + 2))) = true := decide_eq_true hk
            have e : kidN hi f r zs = 2 * r + 2 := if_pos hk
            go_wp2_with fail
            go_meet
            exact ⟨congrArg (Value.int .i64) (by omega), rfl⟩
          · have q : decide (2 * r + 2 < hi ∧ gN zs (f + (2 * r + 1)) < gN zs (f + (2 * r + 2))) = false := decide_eq_false hk
            have e : kidN hi f r zs = 2 * r + 1 := if_neg hk
            go_wp2_with fail
            go_meet
            exact ⟨congrArg (Value.int .i64) (by omega), rfl⟩
        case rest =>
          obtain ⟨rfl, rfl⟩ := hcut
          have hoc := hid (ho.out.ext hxc.out)
          have hxw := hid (Below.trans hx.out (Below.mono hxc.out (Nat.le_trans hbg (Nat.le_of_lt (ho.out.lt _ rfl).2))))
          clear ho hx hxc
          obtain ⟨c, hc⟩ : ∃ c, c = kidN hi f r zs := ⟨_, rfl⟩
          rw [← hc] at HK ⊢
          have HC := hid hc
          clear hc
          have hk1 := HK.out.1
          have hk2 := HK.out.2
          have b0 : (0 : Int) ≤ (f : Int) + (r : Int) := by omega
          have b1 : (f : Int) + (r : Int) < (n : Int) := by omega
          have b2 : (0 : Int) ≤ (f : Int) + (c : Int) := by omega
          have b3 : (f : Int) + (c : Int) < (n : Int) := by omega
          have t0 : ((f : Int) + (r : Int)).toNat = f + r := by omega
          have t1 : ((f : Int) + (c : Int)).toNat = f + c := by omega
          have c0 := rowN_cell hoc.out (k := f + r) (by rw [HLT.out]; omega)
          have c1 := rowN_cell hoc.out (k := f + c) (by rw [HLT.out]; omega)
          have f0 := hoc.out.free (f + r)
          have f1 := hoc.out.free (f + c)
          go_upto_region 5 with (fail)
          go_cut [52] (fun s wx => ∃ K : Bool, s = .bool K ∧ Hid (K = !decide (gN zs (f + r) < gN zs (f + c))) ∧ Hid (Ext wc wx))
          case first =>
            go_quiet ((go_at_call 74; exact Calls.quiet_of_same (less8_any _ _ _)))
            go_wp2_with fail
            go_meet
            exact ⟨_, rfl, hid rfl, hid (by (repeat (first | exact Ext.refl _ | refine Ext.drewN ?_ _ | refine Ext.drew ?_)))⟩
          case rest =>
            obtain ⟨K, rfl, hK, hx2⟩ := hcut
            rename World => w2
            have ho2 := hid (hoc.out.ext hx2.out)
            have hxw2 := hid (Below.trans hxw.out (Below.mono hx2.out (Nat.le_trans hbg (Nat.le_of_lt (hoc.out.lt _ rfl).2))))
            clear hoc hxw hx2 c0 c1 f0 f1
            have c0 := rowN_cell ho2.out (k := f + r) (by rw [HLT.out]; omega)
            have c1 := rowN_cell ho2.out (k := f + c) (by rw [HLT.out]; omega)
            have f0 := ho2.out.free (f + r)
            have f1 := ho2.out.free (f + c)
            cases K
            · have HL := hid (show gN zs (f + r) < gN zs (f + c) from by have := hK.out; simpa using this)
              go_wp2_with fail
              go_region
              all_goals
                go_wp2
                go_roundg (hi - c)
                case measure => omega
                case rel => exact ⟨c, swapN zs (f + r) (f + c), rfl, by omega, rfl, hid (by (try refine Own.ext ?_ (Ext.drew (Ext.refl _))); first | exact rowN_swap1 (Own.ext ho2.out (by (repeat (first | exact Ext.refl _ | refine Ext.drewN ?_ _ | refine Ext.drew ?_)))) (by rw [HLT.out]; omega) (by rw [HLT.out]; omega) | exact rowN_swapB (Own.ext ho2.out (by (repeat (first | exact Ext.refl _ | refine Ext.drewN ?_ _ | refine Ext.drew ?_)))) (by rw [HLT.out]; omega) (by rw [HLT.out]; omega)), hid (by rw [← hs.out, siftN_step h0 (by rw [← HC.out]; have := HL.out; omega), ← HC.out]), hid (by (repeat (first | exact (Hid.out (by assumption)) | exact Below.refl _ _ | refine below_drewN ?_ _ | refine Below.drew ?_ | refine Below.setCell ?_ hbg _)))⟩
            · have HL := hid (show ¬ gN zs (f + r) < gN zs (f + c) from by have := hK.out; simpa using this)
              go_wp2
              go_end0
              exact ⟨rfl, by rw [← hs.out, siftN_stop h0 (by rw [← HC.out]; have := HL.out; omega)]; exact (ho2.out.ext (by (repeat (first | exact Ext.refl _ | refine Ext.drewN ?_ _ | refine Ext.drew ?_)))), (by (repeat (first | exact (Hid.out (by assumption)) | exact Below.refl _ _ | refine below_drewN ?_ _ | refine Below.drew ?_ | refine Below.setCell ?_ hbg _)))⟩
    · have a0 : (hi : Int) ≤ 2 * (r : Int) + 1 := by omega
      go_wp2
      go_end0
      exact ⟨rfl, by rw [← hs.out, siftN_end h0]; exact ho.out, hx.out⟩
end Go.Proofs.Ytjggjkmafcokjaa

namespace Go.Proofs.Ytjggjkmafcokjaa
open Go.RowKit

theorem sift_at (base g n cap : Nat) (ys : List Int) (lov : Int) (lo hi f : Nat) (w : World) (hl : lov = (lo : Int)) (hO : Own w base 30 1 uC (some ⟨g, 0, none⟩) n cap ys) (hlo : lo ≤ hi) (hf : f + hi ≤ n) (hn6 : n ≤ 1000000) :
    Calls Try.prog 82 #[.slice (some ⟨g, 0, none⟩) n cap, .int .i64 lov, .int .i64 hi, .int .i64 f] w (SiftR base g n cap (siftN hi f lo ys) w) := by
  subst hl; exact sift_any base g n cap ys lo hi f w hO hlo hf hn6
theorem sift_at2 (base g n cap : Nat) (ys : List Int) (hiv : Int) (lo hi f : Nat) (w : World) (hl : hiv = (hi : Int)) (hO : Own w base 30 1 uC (some ⟨g, 0, none⟩) n cap ys) (hlo : lo ≤ hi) (hf : f + hi ≤ n) (hn6 : n ≤ 1000000) (lov : Int) (hl0 : lov = (lo : Int)) :
    Calls Try.prog 82 #[.slice (some ⟨g, 0, none⟩) n cap, .int .i64 lov, .int .i64 hiv, .int .i64 f] w (SiftR base g n cap (siftN hi f lo ys) w) := by
  subst hl; subst hl0; exact sift_any base g n cap ys lo hi f w hO hlo hf hn6
def buildN (hi f k : Nat) (zs : List Int) : List Int := (Sort.heapBuild Sort.ltInt hi f k zs.toArray).toList
theorem buildN_zero (hi f : Nat) (zs : List Int) : buildN hi f 0 zs = zs := rfl
theorem buildN_succ (hi f k : Nat) (zs : List Int) : buildN hi f (k + 1) zs = buildN hi f k (siftN hi f k zs) := by
  unfold buildN siftN; rw [Sort.heapBuild]
def popN (f k : Nat) (zs : List Int) : List Int := (Sort.heapPop Sort.ltInt f k zs.toArray).toList
theorem popN_zero (f : Nat) (zs : List Int) : popN f 0 zs = zs := rfl
theorem popN_succ (f k : Nat) (zs : List Int) : popN f (k + 1) zs = popN f k (siftN k f 0 (swapN zs f (f + k))) := by
  unfold popN siftN; rw [Sort.heapPop, arr_swp]
def heapN (a b : Nat) (zs : List Int) : List Int := (Sort.heapSort Sort.ltInt zs.toArray a b).toList
theorem heapN_eq (a b : Nat) (zs : List Int) : heapN a b zs = popN a (b - a) (buildN (b - a) a ((b - a - 1) / 2 + 1) zs) := rfl
theorem seg_of {a b : Nat} {ys zs : List Int} (hb : b ≤ ys.length) (h : Sort.PermIn a b ys.toArray zs.toArray) : Seg a b zs ys := by
  obtain ⟨h1, h2, h3⟩ := h
  have hw := Sort.permIn_mono ys.toArray zs.toArray a b 0 ys.length (Nat.zero_le _) hb (by simp) ⟨h1, h2, h3⟩
  refine ⟨by simpa using h1, fun p hp => ?_, ?_⟩
  · have := h2 p hp
    rwa [arr_at, arr_at] at this
  · have h4 := hw.2.2
    have hl : zs.length = ys.length := by simpa using h1
    simp only [List.extract_toArray] at h4
    have e1 : List.extract zs 0 ys.length = zs := by rw [← hl]; simp [List.extract]
    have e2 : List.extract ys 0 ys.length = ys := by simp [List.extract]
    rwa [e1, e2] at h4
theorem rise_of {a b : Nat} {zs : List Int} (h : Sort.SortedIn Sort.ltInt a b zs.toArray) : Rise zs a b := by
  intro p q h1 h2 h3
  have := h p q h1 h2 h3
  rw [arr_at, arr_at] at this
  unfold Sort.ltInt at this
  have := of_decide_eq_false this
  omega
theorem heapN_holds {a b : Nat} {ys : List Int} (hab : a ≤ b) (hb : b ≤ ys.length) : Seg a b (heapN a b ys) ys ∧ Rise (heapN a b ys) a b := by
  obtain ⟨h1, h2⟩ := Sort.heapSort_holds Sort.swo_ltInt ys.toArray a b hab (by simpa using hb)
  exact ⟨seg_of hb (by unfold heapN; simpa using h1), rise_of (by unfold heapN; simpa using h2)⟩
set_option maxRecDepth 100000 in
set_option maxHeartbeats 4000000 in
theorem heap_any (base g n cap : Nat) (ys : List Int) (a b : Nat) (w : World) (hO : Own w base 30 1 uC (some ⟨g, 0, none⟩) n cap ys) (hab : a < b) (hbn : b ≤ n) (hn6 : n ≤ 1000000) :
    Calls Try.prog 69 #[.slice (some ⟨g, 0, none⟩) n cap, .int .i64 a, .int .i64 b] w (SegR base g n cap ys a b (fun zs => Rise zs a b) w) := by
  have hbg := rowN_base hO
  have hcap := hO.sl.max
  have hlen := hO.sl.len
  unfold maxLen at hcap
  have HN := hid hO.neq
  have HO := hid hO
  clear hO
  have b0 : IntKind.i64.wrap ((b : Int) - (a : Int)) = ((b - a : Nat) : Int) := by rw [IntWalk.i64_in _ (by omega)]; omega
  go_enter Try.func69, Try.ntmps69
  go_wp2_with fail
  go_loopg [9] ((b - a - 1) / 2 + 1) (fun gh iv wr => ∃ (zs : List Int), gh ≤ b - a ∧ iv = .int .i64 ((gh : Int) - 1) ∧ Hid (Own wr base 30 1 uC (some ⟨g, 0, none⟩) n cap zs) ∧ Hid (popN a (b - a) (buildN (b - a) a gh zs) = heapN a b ys) ∧ Hid (Below base w wr))
  case atStart => exact ⟨ys, by omega, congrArg (Value.int .i64) (by omega), HO.out, hid (heapN_eq a b ys).symm, hid (Below.refl _ _)⟩
  case round =>
    obtain ⟨zs, hk, rfl, ho, hs, hx⟩ := hrel
    obtain ⟨G, hG⟩ : ∃ G, G = gk := ⟨_, rfl⟩
    rw [← hG] at hk hs ⊢
    have HG := hid hG
    clear hG
    cases G with
    | succ k =>
      have a0 : (0 : Int) ≤ ((k + 1 : Nat) : Int) - 1 := by omega
      go_wp2_with (go_at_call 82; refine (sift_at base g n cap zs _ k (b - a) a _ (by omega) ho.out (by omega) (by omega) hn6).mono ?_; rintro e w1 ⟨rfl, h1, h2⟩; have H1 := hid h1; have H2 := hid (Below.trans hx.out h2); clear h1 h2)
      go_roundg k
      case measure => (have := HG.out; omega)
      case rel => exact ⟨_, by omega, congrArg (Value.int .i64) (by omega), H1.out, hid (by rw [← hs.out, buildN_succ]), H2.out⟩
    | zero =>
      have a0 : ¬ ((0 : Int) ≤ ((0 : Nat) : Int) - 1) := by omega
      rw [buildN_zero] at hs
      go_wp2_with fail
      go_loopg [10] (b - a) (fun gh iv wl => ∃ (zt : List Int), gh ≤ b - a ∧ iv = .int .i64 ((gh : Int) - 1) ∧ Hid (Own wl base 30 1 uC (some ⟨g, 0, none⟩) n cap zt) ∧ Hid (popN a gh zt = heapN a b ys) ∧ Hid (Below base w wl))
      case atStart => exact ⟨zs, Nat.le_refl _, congrArg (Value.int .i64) (by omega), ho.out, hs.out, hx.out⟩
      case round =>
        obtain ⟨zt, hk2, rfl, hot, hst, hxt⟩ := hrel
        obtain ⟨G2, hG2⟩ : ∃ G2, G2 = gk := ⟨_, rfl⟩
        rw [← hG2] at hk2 hst ⊢
        have HG2 := hid hG2
        clear hG2
        have HLT := hid (show zt.length = n from hot.out.neq.symm)
        cases G2 with
        | succ k =>
          have a0 : (0 : Int) ≤ ((k + 1 : Nat) : Int) - 1 := by omega
          have d1 : (0 : Int) ≤ (a : Int) := by omega
          have d2 : (a : Int) < (n : Int) := by omega
          have d3 : (0 : Int) ≤ (a : Int) + (((k + 1 : Nat) : Int) - 1) := by omega
          have d4 : (a : Int) + (((k + 1 : Nat) : Int) - 1) < (n : Int) := by omega
          have d5 : (0 : Int) ≤ (a : Int) + (k : Int) := by omega
          have d6 : (a : Int) + (k : Int) < (n : Int) := by omega
          have d7 : (a : Int) + (k : Int) ≤ 1000000 := by omega
          have c0 := rowN_cell hot.out (k := a) (by rw [HLT.out]; omega)
          have c1 := rowN_cell hot.out (k := a + k) (by rw [HLT.out]; omega)
          have f0 := hot.out.free a
          have f1 := hot.out.free (a + k)
          go_upto_region 10 with (fail)
          go_cut [] (fun wx => Hid (Own wx base 30 1 uC (some ⟨g, 0, none⟩) n cap (swapN zt a (a + k))) ∧ Hid (Below base w wx))
          case first =>
            by_cases hpa : k = 0
            · subst hpa
              go_region
              all_goals
                go_wp2_with fail
                go_meet
                exact ⟨hid (by (try refine Own.ext ?_ (Ext.drew (Ext.refl _))); first | exact rowN_swap1 (Own.ext hot.out (by (repeat (first | exact Ext.refl _ | refine Ext.drewN ?_ _ | refine Ext.drew ?_)))) (by rw [HLT.out]; omega) (by rw [HLT.out]; omega) | exact rowN_swapB (Own.ext hot.out (by (repeat (first | exact Ext.refl _ | refine Ext.drewN ?_ _ | refine Ext.drew ?_)))) (by rw [HLT.out]; omega) (by rw [HLT.out]; omega)), hid (by (repeat (first | exact (Hid.out (by assumption)) | exact Below.refl _ _ | refine below_drewN ?_ _ | refine Below.drew ?_ | refine Below.setCell ?_ hbg _)))⟩
            · have hpa' : ¬ a = a + k := by omega
              go_region
              all_goals
                go_wp2_with fail
                go_meet
                exact ⟨hid (by (try refine Own.ext ?_ (Ext.drew (Ext.refl _))); first | exact rowN_swap1 (Own.ext hot.out (by (repeat (first | exact Ext.refl _ | refine Ext.drewN ?_ _ | refine Ext.drew ?_)))) (by rw [HLT.out]; omega) (by rw [HLT.out]; omega) | exact rowN_swapB (Own.ext hot.out (by (repeat (first | exact Ext.refl _ | refine Ext.drewN ?_ _ | refine Ext.drew ?_)))) (by rw [HLT.out]; omega) (by rw [HLT.out]; omega)), hid (by (repeat (first | exact (Hid.out (by assumption)) | exact Below.refl _ _ | refine below_drewN ?_ _ | refine Below.drew ?_ | refine Below.setCell ?_ hbg _)))⟩
          case rest =>
            obtain ⟨ho2, hx2⟩ := hcut
            clear c0 c1 f0 f1 hot hxt
            go_wp2_with (go_at_call 82; refine (sift_at2 base g n cap _ _ 0 k a _ (by omega) ho2.out (by omega) (by omega) hn6 _ (by omega)).mono ?_; rintro e w1 ⟨rfl, h1, h2⟩; have H1 := hid h1; have H2 := hid (Below.trans hx2.out h2); clear h1 h2)
            go_roundg k
            case measure => (have := HG2.out; omega)
            case rel => exact ⟨_, by omega, congrArg (Value.int .i64) (by omega), H1.out, hid (by rw [← hst.out, popN_succ]), H2.out⟩
        | zero =>
          have a0 : ¬ ((0 : Int) ≤ ((0 : Nat) : Int) - 1) := by omega
          go_wp2
          go_end0
          have hh := heapN_holds (ys := ys) (Nat.le_of_lt hab) (by rw [← HN.out]; exact hbn)
          rw [← hst.out, popN_zero] at hh
          exact ⟨rfl, zt, hot.out, hh.1, hh.2, hxt.out⟩
end Go.Proofs.Ytjggjkmafcokjaa

namespace Go.Proofs.Ytjggjkmafcokjaa
open Go.RowKit

/-- a piece parted by equality, under way -/
structure PE (a b : Nat) (P : Int) (i j : Nat) (zs ys : List Int) : Prop where
  ai : a < i
  ij : i ≤ j + 1
  jb : j < b
  hd : gN zs a = P
  lo : ∀ k, a ≤ k → k < i → gN zs k ≤ P
  up : ∀ k, j < k → k < b → P < gN zs k
  seg : Seg a b zs ys
theorem PE.start {a b p : Nat} {ys : List Int} (ha : a ≤ p) (hb : p < b) (hn : b ≤ ys.length) : PE a b (gN ys p) (a + 1) (b - 1) (swapN ys a p) ys where
  ai := by omega
  ij := by omega
  jb := by omega
  hd := by rw [swapN_at (by omega) (by omega)]; split <;> simp_all
  lo := fun k h1 h2 => by
    have hk : k = a := by omega
    subst hk
    rw [swapN_at (by omega) (by omega)]; split <;> simp_all
  up := fun k h1 h2 => by omega
  seg := (Seg.refl a b ys).swap (Nat.le_refl _) (by omega) ha hb hn
theorem PE.left {a b : Nat} {P : Int} {i j : Nat} {zs ys : List Int} (h : PE a b P i j zs ys) (hij : i ≤ j) (hl : ¬ P < gN zs i) : PE a b P (i + 1) j zs ys :=
  ⟨by have := h.ai; omega, by omega, h.jb, h.hd, fun k h1 h2 => by
    by_cases e : k = i
    · subst e; omega
    · exact h.lo k h1 (by omega), h.up, h.seg⟩
theorem PE.right {a b : Nat} {P : Int} {i j : Nat} {zs ys : List Int} (h : PE a b P i j zs ys) (hij : i ≤ j) (hl : P < gN zs j) : PE a b P i (j - 1) zs ys :=
  ⟨h.ai, by omega, by have := h.jb; omega, h.hd, h.lo, fun k h1 h2 => by
    by_cases e : k = j
    · subst e; exact hl
    · exact h.up k (by omega) h2, h.seg⟩
theorem PE.swap {a b : Nat} {P : Int} {i j : Nat} {zs ys : List Int} (h : PE a b P i j zs ys) (hn : b ≤ zs.length) (hij : i ≤ j) (hi : P < gN zs i) (hj : ¬ P < gN zs j) : PE a b P (i + 1) (j - 1) (swapN zs i j) ys := by
  have h1 := h.ai
  have h2 := h.jb
  have hne : i ≠ j := fun e => by subst e; exact hj hi
  have hs := fun k => swapN_at (zs := zs) (i := i) (j := j) (by omega) (by omega) k
  refine ⟨by omega, by omega, by omega, ?_, fun k a1 a2 => ?_, fun k a1 a2 => ?_, h.seg.swap (by omega) (by omega) (by omega) h2 (by rw [← h.seg.len]; exact hn)⟩
  · rw [hs, if_neg (by omega), if_neg (by omega)]; exact h.hd
  · rw [hs, if_neg (by omega)]
    by_cases e : k = i
    · rw [if_pos e]; omega
    · rw [if_neg e]; exact h.lo k a1 (by omega)
  · rw [hs]
    by_cases e : k = j
    · rw [if_pos e]; exact hi
    · rw [if_neg e, if_neg (by omega)]; exact h.up k (by omega) a2
/-- what a partition by equality gives back -/
def PEqQ (a b : Nat) (P : Int) (v : Value) (zs : List Int) : Prop := ∃ m : Nat, v = .int .i64 m ∧ a < m ∧ m ≤ b ∧ (∀ k, a ≤ k → k < m → gN zs k ≤ P) ∧ (∀ k, m ≤ k → k < b → P < gN zs k)
set_option maxRecDepth 100000 in
set_option maxHeartbeats 4000000 in
theorem peq_any (base g n cap : Nat) (ys : List Int) (a b p : Nat) (w : World) (hO : Own w base 30 1 uC (some ⟨g, 0, none⟩) n cap ys) (hap : a ≤ p) (hpb : p < b) (hbn : b ≤ n) (hn6 : n ≤ 1000000) :
    Calls Try.prog 75 #[.slice (some ⟨g, 0, none⟩) n cap, .int .i64 a, .int .i64 b, .int .i64 p] w (SegV base g n cap ys a b (PEqQ a b (gN ys p)) w) := by
  have hbg := rowN_base hO
  have hcap := hO.sl.max
  have hlen := hO.sl.len
  unfold maxLen at hcap
  have HN := hid hO.neq
  have HO := hid hO
  clear hO
  obtain ⟨P, hP⟩ : ∃ P, P = gN ys p := ⟨_, rfl⟩
  rw [← hP]
  have HP := hid hP
  clear hP
  have HY := hid (show ys.length = n from HN.out.symm)
  go_enter Try.func75, Try.ntmps75
  go_upto_region 1 with (fail)
  go_cut [] (fun wx => Hid (Own wx base 30 1 uC (some ⟨g, 0, none⟩) n cap (swapN ys a p)) ∧ Hid (Below base w wx))
  case first =>
    have ba0 : (0 : Int) ≤ (a : Int) := by omega
    have ba1 : (a : Int) < (n : Int) := by omega
    have bp0 : (0 : Int) ≤ (p : Int) := by omega
    have bp1 : (p : Int) < (n : Int) := by omega
    have c0 := rowN_cell HO.out (k := a) (by rw [HY.out]; omega)
    have c1 := rowN_cell HO.out (k := p) (by rw [HY.out]; omega)
    have f0 := Own.free HO.out a
    have f1 := Own.free HO.out p
    by_cases hpa : p = a
    · subst hpa
      go_region
      all_goals
        go_wp2_with fail
        go_meet
        exact ⟨hid (by (try refine Own.ext ?_ (Ext.drew (Ext.refl _))); first | exact rowN_swap1 (Own.ext HO.out (by (repeat (first | exact Ext.refl _ | refine Ext.drewN ?_ _ | refine Ext.drew ?_)))) (by rw [HY.out]; omega) (by rw [HY.out]; omega) | exact rowN_swapB (Own.ext HO.out (by (repeat (first | exact Ext.refl _ | refine Ext.drewN ?_ _ | refine Ext.drew ?_)))) (by rw [HY.out]; omega) (by rw [HY.out]; omega)), hid (by (repeat (first | exact (Hid.out (by assumption)) | exact Below.refl _ _ | refine below_drewN ?_ _ | refine Below.drew ?_ | refine Below.setCell ?_ hbg _)))⟩
    · have hpa' : ¬ a = p := fun h => hpa h.symm
      go_region
      all_goals
        go_wp2_with fail
        go_meet
        exact ⟨hid (by (try refine Own.ext ?_ (Ext.drew (Ext.refl _))); first | exact rowN_swap1 (Own.ext HO.out (by (repeat (first | exact Ext.refl _ | refine Ext.drewN ?_ _ | refine Ext.drew ?_)))) (by rw [HY.out]; omega) (by rw [HY.out]; omega) | exact rowN_swapB (Own.ext HO.out (by (repeat (first | exact Ext.refl _ | refine Ext.drewN ?_ _ | refine Ext.drew ?_)))) (by rw [HY.out]; omega) (by rw [HY.out]; omega)), hid (by (repeat (first | exact (Hid.out (by assumption)) | exact Below.refl _ _ | refine below_drewN ?_ _ | refine Below.drew ?_ | refine Below.setCell ?_ hbg _)))⟩
  case rest =>
    obtain ⟨hos, hxs⟩ := hcut
    have HS := hid (show PE a b P (a + 1) (b - 1) (swapN ys a p) ys from by rw [HP.out]; exact PE.start hap hpb (by rw [HY.out]; exact hbn))
    go_wp2_with fail
    go_loopg [9, 10] (b - 1 + 1 - (a + 1)) (fun gh iv jv wr => ∃ (i j : Nat) (zs : List Int), gh = j + 1 - i ∧ i ≤ 1000000 ∧ j ≤ 1000000 ∧ iv = .int .i64 i ∧ jv = .int .i64 j ∧ Hid (Own wr base 30 1 uC (some ⟨g, 0, none⟩) n cap zs) ∧ Hid (PE a b P i j zs ys) ∧ Hid (Below base w wr))
    case atStart => exact ⟨a + 1, b - 1, _, by omega, by omega, by omega, by go_num, congrArg (Value.int .i64) (by omega), hos.out, HS.out, hxs.out⟩
    case round =>
      obtain ⟨i, j, zs, hg, hi6, hj6, rfl, rfl, ho, hp, hx⟩ := hrel
      have HLT := hid (show zs.length = n from by rw [hp.out.seg.len, HN.out])
      go_upto_block 2 with (fail)
      go_cut [9] (fun iv wx => ∃ i2 : Nat, iv = .int .i64 i2 ∧ i ≤ i2 ∧ i2 ≤ 1000000 ∧ Hid (Own wx base 30 1 uC (some ⟨g, 0, none⟩) n cap zs) ∧ Hid (PE a b P i2 j zs ys) ∧ Hid (j < i2 ∨ P < gN zs i2) ∧ Hid (Below base w wx))
      case first =>
        go_wp2_with fail
        go_loopg [9] (j + 1 - i) (fun gh iv wl => ∃ (i2 : Nat), gh = j + 1 - i2 ∧ i ≤ i2 ∧ i2 ≤ 1000000 ∧ iv = .int .i64 i2 ∧ Hid (Own wl base 30 1 uC (some ⟨g, 0, none⟩) n cap zs) ∧ Hid (PE a b P i2 j zs ys) ∧ Hid (Below base w wl))
        case atStart => exact ⟨i, rfl, Nat.le_refl _, hi6, rfl, ho.out, hp.out, hx.out⟩
        case round =>
          obtain ⟨i2, hg2, hii, hi26, rfl, ho2, hp2, hx2⟩ := hrel
          have p1 := hp2.out.ai
          have p2 := hp2.out.ij
          have p3 := hp2.out.jb
          by_cases hij : i2 ≤ j
          · have q0 : (i2 : Int) ≤ (j : Int) := by omega
            have ba0 : (0 : Int) ≤ (a : Int) := by omega
            have ba1 : (a : Int) < (n : Int) := by omega
            have bi20 : (0 : Int) ≤ (i2 : Int) := by omega
            have bi21 : (i2 : Int) < (n : Int) := by omega
            have c0 := rowN_cell ho2.out (k := a) (by rw [HLT.out]; omega)
            have c1 := rowN_cell ho2.out (k := i2) (by rw [HLT.out]; omega)
            have f0 := Own.free ho2.out a
            have f1 := Own.free ho2.out i2
            have hd := hp2.out.hd
            rw [hd] at c0
            clear hd
            by_cases hl : P < gN zs i2
            · have q1 : decide (P < gN zs i2) = true := decide_eq_true hl
              have HL := hid (show P < gN zs i2 from hl)
              clear hl
              go_wp2_with fail
              go_quiet ((go_at_call 74; exact Calls.quiet_of_same (less8_any _ _ _)))
              go_wp2_with fail
              go_meet
              exact ⟨i2, rfl, hii, hi26, hid (ho2.out.ext (by (repeat (first | exact Ext.refl _ | refine Ext.drewN ?_ _ | refine Ext.drew ?_)))), hp2, hid (.inr HL.out), hid (by (repeat (first | exact (Hid.out (by assumption)) | exact Below.refl _ _ | refine below_drewN ?_ _ | refine Below.drew ?_ | refine Below.setCell ?_ hbg _)))⟩
            · have q1 : decide (P < gN zs i2) = false := decide_eq_false hl
              have HL := hid (show gN zs i2 ≤ P from by omega)
              clear hl
              go_wp2_with fail
              go_quiet ((go_at_call 74; exact Calls.quiet_of_same (less8_any _ _ _)))
              go_wp2
              go_roundg (j + 1 - (i2 + 1))
              case measure => omega
              case rel => exact ⟨i2 + 1, rfl, by omega, by omega, by go_num, hid (ho2.out.ext (by (repeat (first | exact Ext.refl _ | refine Ext.drewN ?_ _ | refine Ext.drew ?_)))), hid (hp2.out.left hij (by have := HL.out; omega)), hid (by (repeat (first | exact (Hid.out (by assumption)) | exact Below.refl _ _ | refine below_drewN ?_ _ | refine Below.drew ?_ | refine Below.setCell ?_ hbg _)))⟩
          · have q0 : ¬ ((i2 : Int) ≤ (j : Int)) := by omega
            go_wp2_with fail
            go_quiet (fail)
            go_wp2_with fail
            go_meet
            exact ⟨i2, rfl, hii, hi26, hid (ho2.out.ext (by (repeat (first | exact Ext.refl _ | refine Ext.drewN ?_ _ | refine Ext.drew ?_)))), hp2, hid (.inl (by omega)), hid (by (repeat (first | exact (Hid.out (by assumption)) | exact Below.refl _ _ | refine below_drewN ?_ _ | refine Below.drew ?_ | refine Below.setCell ?_ hbg _)))⟩
      case rest =>
        obtain ⟨i2, rfl, hii, hi26, ho2, hp2, hst, hx2⟩ := hcut
        clear ho hp hx
        rename World => w2
        go_upto_block 4 with (fail)
        go_cut [10] (fun jv wx => ∃ j2 : Nat, jv = .int .i64 j2 ∧ j2 ≤ j ∧ Hid (Own wx base 30 1 uC (some ⟨g, 0, none⟩) n cap zs) ∧ Hid (PE a b P i2 j2 zs ys) ∧ Hid (j2 < i2 ∨ ¬ P < gN zs j2) ∧ Hid (Below base w wx))
        case first =>
          go_wp2_with fail
          go_loopg [10] (j + 1 - i2) (fun gh jv wl => ∃ (j2 : Nat), gh = j2 + 1 - i2 ∧ j2 ≤ j ∧ jv = .int .i64 j2 ∧ Hid (Own wl base 30 1 uC (some ⟨g, 0, none⟩) n cap zs) ∧ Hid (PE a b P i2 j2 zs ys) ∧ Hid (Below base w wl))
          case atStart => exact ⟨j, rfl, Nat.le_refl _, rfl, ho2.out, hp2.out, hx2.out⟩
          case round =>
            obtain ⟨j2, hg2, hjj, rfl, ho3, hp3, hx3⟩ := hrel
            have p1 := hp3.out.ai
            have p2 := hp3.out.ij
            have p3 := hp3.out.jb
            by_cases hij : i2 ≤ j2
            · have q0 : (i2 : Int) ≤ (j2 : Int) := by omega
              have ba0 : (0 : Int) ≤ (a : Int) := by omega
              have ba1 : (a : Int) < (n : Int) := by omega
              have bj20 : (0 : Int) ≤ (j2 : Int) := by omega
              have bj21 : (j2 : Int) < (n : Int) := by omega
              have c0 := rowN_cell ho3.out (k := a) (by rw [HLT.out]; omega)
              have c1 := rowN_cell ho3.out (k := j2) (by rw [HLT.out]; omega)
              have f0 := Own.free ho3.out a
              have f1 := Own.free ho3.out j2
              have hd := hp3.out.hd
              rw [hd] at c0
              clear hd
              by_cases hl : P < gN zs j2
              · have q1 : decide (P < gN zs j2) = true := decide_eq_true hl
                have HL := hid (show P < gN zs j2 from hl)
                clear hl
                go_wp2_with fail
                go_quiet ((go_at_call 74; exact Calls.quiet_of_same (less8_any _ _ _)))
                go_wp2
                go_roundg (j2 - 1 + 1 - i2)
                case measure => omega
                case rel => exact ⟨j2 - 1, rfl, by omega, congrArg (Value.int .i64) (by omega), hid (ho3.out.ext (by (repeat (first | exact Ext.refl _ | refine Ext.drewN ?_ _ | refine Ext.drew ?_)))), hid (hp3.out.right hij HL.out), hid (by (repeat (first | exact (Hid.out (by assumption)) | exact Below.refl _ _ | refine below_drewN ?_ _ | refine Below.drew ?_ | refine Below.setCell ?_ hbg _)))⟩
              · have q1 : decide (P < gN zs j2) = false := decide_eq_false hl
                have HL := hid (show gN zs j2 ≤ P from by omega)
                clear hl
                go_wp2_with fail
                go_quiet ((go_at_call 74; exact Calls.quiet_of_same (less8_any _ _ _)))
                go_wp2_with fail
                go_meet
                exact ⟨j2, rfl, hjj, hid (ho3.out.ext (by (repeat (first | exact Ext.refl _ | refine Ext.drewN ?_ _ | refine Ext.drew ?_)))), hp3, hid (.inr (by have := HL.out; omega)), hid (by (repeat (first | exact (Hid.out (by assumption)) | exact Below.refl _ _ | refine below_drewN ?_ _ | refine Below.drew ?_ | refine Below.setCell ?_ hbg _)))⟩
            · have q0 : ¬ ((i2 : Int) ≤ (j2 : Int)) := by omega
              go_wp2_with fail
              go_quiet (fail)
              go_wp2_with fail
              go_meet
              exact ⟨j2, rfl, hjj, hid (ho3.out.ext (by (repeat (first | exact Ext.refl _ | refine Ext.drewN ?_ _ | refine Ext.drew ?_)))), hp3, hid (.inl (by omega)), hid (by (repeat (first | exact (Hid.out (by assumption)) | exact Below.refl _ _ | refine below_drewN ?_ _ | refine Below.drew ?_ | refine Below.setCell ?_ hbg _)))⟩
        case rest =>
          obtain ⟨j2, rfl, hjj, ho3, hp3, hst3, hx3⟩ := hcut
          clear ho2 hp2 hx2
          rename World => w3
          have p1 := hp3.out.ai
          have p2 := hp3.out.ij
          have p3 := hp3.out.jb
          by_cases hij : i2 ≤ j2
          · have q0 : ¬ ((j2 : Int) < (i2 : Int)) := by omega
            have HI := hid (show P < gN zs i2 from by rcases hst.out with h | h <;> first | exact h | omega)
            have HJ := hid (show ¬ P < gN zs j2 from by rcases hst3.out with h | h <;> first | exact h | omega)
            have bi20 : (0 : Int) ≤ (i2 : Int) := by omega
            have bi21 : (i2 : Int) < (n : Int) := by omega
            have bj20 : (0 : Int) ≤ (j2 : Int) := by omega
            have bj21 : (j2 : Int) < (n : Int) := by omega
            have c0 := rowN_cell ho3.out (k := i2) (by rw [HLT.out]; omega)
            have c1 := rowN_cell ho3.out (k := j2) (by rw [HLT.out]; omega)
            have f0 := Own.free ho3.out i2
            have f1 := Own.free ho3.out j2
            have hne : ¬ i2 = j2 := fun e => by have := HI.out; have := HJ.out; subst e; omega
            have hne' : ¬ j2 = i2 := fun e => hne e.symm
            go_upto_region 8 with (fail)
            go_cut [] (fun wx => Hid (Own wx base 30 1 uC (some ⟨g, 0, none⟩) n cap (swapN zs i2 j2)) ∧ Hid (Below base w wx))
            case first =>
              go_region
              all_goals
                go_wp2_with fail
                go_meet
                exact ⟨hid (by (try refine Own.ext ?_ (Ext.drew (Ext.refl _))); first | exact rowN_swap1 (Own.ext ho3.out (by (repeat (first | exact Ext.refl _ | refine Ext.drewN ?_ _ | refine Ext.drew ?_)))) (by rw [HLT.out]; omega) (by rw [HLT.out]; omega) | exact rowN_swapB (Own.ext ho3.out (by (repeat (first | exact Ext.refl _ | refine Ext.drewN ?_ _ | refine Ext.drew ?_)))) (by rw [HLT.out]; omega) (by rw [HLT.out]; omega)), hid (by (repeat (first | exact (Hid.out (by assumption)) | exact Below.refl _ _ | refine below_drewN ?_ _ | refine Below.drew ?_ | refine Below.setCell ?_ hbg _)))⟩
            case rest =>
              obtain ⟨ho4, hx4⟩ := hcut
              go_wp2
              go_roundg (j2 - 1 + 1 - (i2 + 1))
              case measure => omega
              case rel => exact ⟨i2 + 1, j2 - 1, _, rfl, by omega, by omega, by go_num, congrArg (Value.int .i64) (by omega), ho4.out, hid (hp3.out.swap (by rw [HLT.out]; exact hbn) hij HI.out (by have := HJ.out; omega)), hx4.out⟩
          · have q0 : (j2 : Int) < (i2 : Int) := by omega
            go_wp2
            go_ret
            exact ⟨_, zs, rfl, ho3.out, hp3.out.seg, ⟨i2, rfl, by omega, by omega, fun k h1 h2 => hp3.out.lo k h1 h2, fun k h1 h2 => hp3.out.up k (by omega) h2⟩, hx3.out⟩
end Go.Proofs.Ytjggjkmafcokjaa

