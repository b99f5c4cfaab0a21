/- The library's bits.Len: its contract off the shelf, laid over this program. -/
import Derived.Test.YtjggjkmafcokjaaTst
import Derived.Shelf.Small.Bits
import Derived.Test.YtjggjkmafcokjaaIns
import Derived.Test.YtjggjkmafcokjaaFMap
import Derived.RangeFuncBox
import Derived.RangeFuncLeaves
import Derived.RangeFuncSeq
import Derived.Shelf.Abstract
import Derived.Shelf.AbstractIn
import Derived.WalkKit
import Derived.OwnWalkIn
import Derived.TacticsInMore
import Derived.RegionIn
import Derived.LoopNIn
import Derived.LoopIn
import Derived.Maps.AppendAt
import Derived.Maps.OwnIn
import Derived.Sort.MapsRangeIn
set_option linter.unusedVariables false
set_option linter.unusedSimpArgs false
namespace Go.Proofs.Ytjggjkmafcokjaa
open Go.RowKit Go.Shelf

def ren8 : Shelf.Ren := ⟨fun k => if k = 125 then 59 else if k = 128 then 77 else if k = 129 then 78 else 0, fun x => if x = 3 then 3 else if x = 4 then 4 else if x = 5 then 5 else if x = 9 then 9 else if x = 46 then 98 else if x = 51 then 114 else if x = 53 then 30 else 0, fun _ => 0⟩
theorem lays125 : Lays.n125 Try.prog ren8 where
  mixed := by kernel_rfl
  f125 := by kernel_rfl
  f128 := by kernel_rfl
  f129 := by kernel_rfl
  t3 := by kernel_rfl
  a3 := fun _ => by kernel_rfl
  z3 := fun _ => by kernel_rfl
  v3 := fun _ => by kernel_rfl
  t4 := by kernel_rfl
  a4 := fun _ => by kernel_rfl
  z4 := fun _ => by kernel_rfl
  v4 := fun _ => by kernel_rfl
  t5 := by kernel_rfl
  a5 := fun _ => by kernel_rfl
  z5 := fun _ => by kernel_rfl
  v5 := fun _ => by kernel_rfl
  t9 := by kernel_rfl
  a9 := fun _ => by kernel_rfl
  z9 := fun _ => by kernel_rfl
  v9 := fun _ => by kernel_rfl
  t46 := by kernel_rfl
  a46 := fun _ => by kernel_rfl
  z46 := fun _ => by kernel_rfl
  v46 := fun _ => by kernel_rfl
  t51 := by kernel_rfl
  a51 := fun _ => by kernel_rfl
  z51 := fun _ => by kernel_rfl
  v51 := fun _ => by kernel_rfl
  t53 := by kernel_rfl
  a53 := fun _ => by kernel_rfl
  z53 := fun _ => by kernel_rfl
  v53 := fun _ => by kernel_rfl
theorem len_any (x : Int) (w : World) (h0 : 0 ≤ x) (h1 : x ≤ 18446744073709551615) : Calls Try.prog 59 #[.int .u64 x] w fun e w' => e = .returned (.int .i64 (Lib.bitLen x.toNat)) ∧ w' = w := Any.bits_Len lays125 x w h0 h1
end Go.Proofs.Ytjggjkmafcokjaa

namespace Go.Proofs.Ytjggjkmafcokjaa
open Go.RowKit

/-- A row that a call puts in order. -/
def SortR (base : Nat) (aa : Option Addr) (n cap : Nat) (ys : List Int) (w : World) (e : Ending) (w' : World) : Prop :=
  e = .returned (.tuple #[]) ∧ ∃ zs, Own w' base 30 1 uC aa n cap zs ∧ zs.Perm ys ∧ Rise zs 0 n ∧ Below base w w'
theorem ins0_any (cap : Nat) (w : World) : Calls Try.prog 68 #[.slice none 0 cap, .int .i64 0, .int .i64 0] w fun e w' => e = .returned (.tuple #[]) ∧ w = w' := by
  go_enter Try.func68, Try.ntmps68
  go_wp2_with fail
  go_loopg [6] 0 (fun gh iv wr => iv = .int .i64 1 ∧ w = wr)
  case atStart => exact ⟨rfl, rfl⟩
  case round =>
    obtain ⟨rfl, rfl⟩ := hrel
    go_wp2
    go_end0
    exact ⟨rfl, rfl⟩
set_option maxRecDepth 100000 in
set_option maxHeartbeats 2000000 in
theorem pdq12_any (aa : Option Addr) (base n cap : Nat) (ys : List Int) (z : Int) (w : World) (hO : Own w base 30 1 uC aa n cap ys) (hn : n ≤ 12) :
    Calls Try.prog 58 #[.slice aa n cap, .int .i64 0, .int .i64 n, .int .i64 z] w (SortR base aa n cap ys w) := by
  have hb : (n : Int) ≤ 12 := by omega
  have hb0 : (0 : Int) ≤ (n : Int) := by omega
  have HO := hid hO
  clear hO
  cases aa with
  | none =>
    have hcap := HO.out.sl.none rfl
    have hlen := HO.out.sl.len
    obtain rfl : cap = 0 := hcap
    obtain rfl : n = 0 := by omega
    go_enter Try.func58, Try.ntmps58
    go_wp2_with fail
    go_loopg [1, 2] 0 (fun gh av iv wr => av = .int .i64 0 ∧ iv = .int .i64 0 ∧ w = wr)
    case atStart => exact ⟨rfl, rfl, rfl⟩
    case round =>
      obtain ⟨rfl, rfl, rfl⟩ := hrel
      go_wp2_with fail
      refine (ins0_any _ _).mono ?_
      rintro e w' ⟨rfl, rfl⟩
      go_wp2
      go_end0
      exact ⟨rfl, ys, HO.out, List.Perm.refl _, Rise.short (by omega), Below.refl _ _⟩
  | some ad =>
    obtain ⟨g, rfl⟩ : ∃ g, ad = ⟨g, 0, none⟩ := by
      rcases HO.out.row.2 with ⟨hv, h0⟩ | ⟨g', cp, cur, hv, _⟩
      · cases hv
      · simp only [Value.slice.injEq, Option.some.injEq] at hv
        exact ⟨g', hv.1⟩
    go_enter Try.func58, Try.ntmps58
    go_wp2_with fail
    go_loopg [1, 2] 0 (fun gh av iv wr => av = .int .i64 0 ∧ iv = .int .i64 n ∧ w = wr)
    case atStart => exact ⟨rfl, rfl, rfl⟩
    case round =>
      obtain ⟨rfl, rfl, rfl⟩ := hrel
      go_wp2_with fail
      refine (ins_any base g n cap ys 0 n w HO.out (Nat.zero_le _) (Nat.le_refl _) (by omega)).mono ?_
      rintro e w' ⟨rfl, zs, h1, h2, h3, h4⟩
      have H1 := hid h1
      have H2 := hid h2
      have H3 := hid h3
      have H4 := hid h4
      clear h1 h2 h3 h4
      go_wp2
      go_end0
      exact ⟨rfl, zs, H1.out, H2.out.perm, H3.out, H4.out⟩
theorem sort12_any (aa : Option Addr) (base n cap : Nat) (ys : List Int) (w : World) (hO : Own w base 30 1 uC aa n cap ys) (hn : n ≤ 12) :
    Calls Try.prog 40 #[.slice aa n cap] w (SortR base aa n cap ys w) := by
  have hb : (n : Int) ≤ 12 := by omega
  have hb0 : (0 : Int) ≤ (n : Int) := by omega
  have HO := hid hO
  clear hO
  go_enter Try.func40, Try.ntmps40
  go_wp2_with fail
  refine (len_any _ _ (by omega) (by omega)).mono ?_
  rintro e w1 ⟨rfl, rfl⟩
  go_wp2_with fail
  refine (pdq12_any aa base n cap ys _ _ HO.out hn).mono ?_
  rintro e w' ⟨rfl, zs, h1, h2, h3, h4⟩
  have H1 := hid h1
  have H2 := hid h2
  have H3 := hid h3
  have H4 := hid h4
  clear h1 h2 h3 h4
  go_wp2
  go_end0
  exact ⟨rfl, zs, H1.out, H2.out, H3.out, H4.out⟩
end Go.Proofs.Ytjggjkmafcokjaa

namespace Go.Proofs.Ytjggjkmafcokjaa
open Go.RowKit Go.Shelf
attribute [local go_sem] Oper.semAt_some

/-- The keys that have come. -/
structure Coll (D : DataW Unit) (left : Lit → Bool) (ss : List Int) : Prop where
  nd : ss.Nodup
  mem : ∀ x, x ∈ ss ↔ (Maps.has D (.int .u64 x) = true ∧ left (.int .u64 x) = false)
theorem Coll.start (D : DataW Unit) : Coll D (Maps.has D) [] := ⟨List.nodup_nil, fun x => ⟨fun h => absurd h (by simp), fun h => by rw [h.1] at h; exact absurd h.2 (by decide)⟩⟩
theorem Coll.step {D : DataW Unit} {left : Lit → Bool} {ss : List Int} {x : Int} (h : Coll D left ss) (hl : left (.int .u64 x) = true) (hd : Maps.has D (.int .u64 x) = true) : Coll D (fun z => left z && !z.sameKey (.int .u64 x)) (ss ++ [x]) := by
  have hx : x ∉ ss := fun hm => by rw [((h.mem x).1 hm).2] at hl; cases hl
  refine ⟨?_, fun y => ?_⟩
  · rw [List.nodup_append]
    exact ⟨h.nd, by simp, fun a ha b hb => by rw [List.mem_singleton.1 hb]; exact fun e => hx (e ▸ ha)⟩
  · rw [List.mem_append, List.mem_singleton, h.mem y]
    by_cases e : y = x
    · subst e
      simp [hd, Lit.sameKey]
    · have hs : (Lit.int .u64 y).sameKey (.int .u64 x) = false := by simp [Lit.sameKey, e]
      simp [hs, e]
/-- What keys a map has, as a list of numbers. -/
def KeysOf8 (f : Lit → Option Value) (ss : List Int) : Prop := ss.Nodup ∧ ∀ x, x ∈ ss ↔ (f (.int .u64 x)).isSome = true
set_option maxRecDepth 100000 in
set_option maxHeartbeats 1000000 in
theorem keys1_in (F : Fence) (n : Nat) (h10 : F.fn 41) (hro : F.round = none) (hn : 1 ≤ n) (l Bm b nn : Nat) (D0 : DataW Unit) (J Jx : List Int → World → Prop)
    (hY : ∀ pre x W, J pre W → pre.length < Maps.size D0 → YieldAt F (n - 1) Try.prog l #[.int .u64 x] W fun e W' =>
      (e = .returned (.bool true) ∧ J (pre ++ [x]) W' ∧ KeepsWalks W W') ∨ (e = .returned (.bool false) ∧ Jx (pre ++ [x]) W'))
    (W : World) (hJ : AbidesFrom W.heap.size J) (hm : W.cell? ⟨Bm, 0, none⟩ = some (.map (some b))) (hown : W.ownsMap Try.prog 30 encV b nn D0) (h0 : J [] W) :
    CallsIn F n Try.prog 41 #[.func (.yield l) #[] #[], .pointer (some ⟨Bm, 0, none⟩)] W fun e W' => (∃ v, e = .returned v) ∧ ((∃ ss : List Int, (ss.Nodup ∧ ss.length ≤ Maps.size D0 ∧ ∀ x, x ∈ ss ↔ Maps.has D0 (.int .u64 x) = true) ∧ J ss W') ∨ (∃ pre : List Int, True ∧ Jx pre W')) := by
  refine callsIn_of_wp Try.func41 rfl h10 ?_ hro
  simp only [Try.ntmps41, List.size_toArray, List.length_cons, List.length_nil, Nat.reduceAdd, Nat.reduceSub, Array.replicate_succ, Array.replicate_zero, List.push_toArray, List.append_toArray, List.nil_append, List.cons_append]
  gi_wp2_with (first
    | (gi_at_range; refine wpListIn_range_own _ rfl _ 75 rfl 30 3 (Maps.int_keyed Try.underlying30) Try.underlying75 _ b nn _ rfl hown ?_; intro w0 hrg0 hg0 hs0)
    | gi_in)
  go_frame
  gi_loopw [3] (fun _ wr => ∃ (left : Lit → Bool) (cnt : Nat) (ss : List Int), wr.ranges Try.prog 30 encV b W.heap.size nn D0 left cnt ∧ ss.length + cnt ≤ Maps.size D0 ∧ Coll D0 left ss ∧ J ss wr)
    (fun _ wr => wr.rangeLeft b W.heap.size)
  case atStart =>
    exact ⟨_, _, [], hrg0, by simp, Coll.start D0, hJ [] W w0 none h0 hg0 (fun r e => by cases e)⟩
  case round =>
    obtain ⟨left, cnt, ss, hrg, hcs, hC, hJs⟩ := hrel
    gi_wp2_with (first
      | (gi_at_next; refine wpListIn_next_ranges _ rfl _ rfl 30 (Maps.int_keyed Try.underlying30) encV (Value.int .u64) id (fun key kl hk => by obtain ⟨x, hx, _⟩ := Maps.keyOf_int_inv Try.underlying30 hk; exact ⟨x, hx⟩) (fun v _ _ => ⟨v, rfl⟩) b W.heap.size nn _ _ _ rfl hrg ?_ ?_)
      | gi_in)
    · intro hc0 hl0
      gi_wp2
      go_end0
      exact ⟨⟨_, rfl⟩, .inl ⟨ss, ⟨hC.nd, by omega, fun x => by rw [hC.mem x, hl0]; simp⟩, hJs⟩⟩
    · intro x c kl yd yp w2 cnt2 hkey hlk hv hat hrg2 hlt hg2 hs2 hen
      obtain ⟨x', ex, rfl, _⟩ := Maps.keyOf_int_inv Try.underlying30 hkey
      obtain rfl : x = x' := by simpa using ex
      have hJ2 : J ss w2 := hJ ss wr w2 (some W.heap.size) hJs hg2 (fun r e => by cases e; exact ⟨Nat.le_refl _, hrg.iter_walk⟩)
      obtain ⟨fn, tmps, assign, body, hy, hR⟩ := hY ss x w2 hJ2 (by omega)
      clear hs2
      gi_wp2
      refine hR.mono ?_
      rintro e W3 (⟨rfl, hJ3, hk3⟩ | ⟨rfl, hJx3⟩)
      · gi_wp2
        have hrg3 := hrg2.of_walks hk3
        go_roundw
        case rel => exact ⟨_, cnt2, ss ++ [x], hrg3, by simp; omega, hC.step hlk (Maps.has_true_of_atKey hat), hJ3⟩
        case measure => rw [hrg3.left_eq, hrg.left_eq]; exact hlt
      · gi_wp2
        refine bodyPost_ret (results_none rfl _ _ _) rfl ?_
        exact ⟨⟨_, rfl⟩, .inr ⟨ss ++ [x], trivial, hJx3⟩⟩
theorem keys_stops (F : Fence) (n : Nat) (h10 : F.fn 41) (hro : F.round = none) (hn : 1 ≤ n) (Bm b nn : Nat) (D0 : DataW Unit) (w : World) (hBm : Bm < w.heap.size) (hm : w.cell? ⟨Bm, 0, none⟩ = some (.map (some b))) (hown : w.ownsMap Try.prog 30 encV b nn D0) :
    SeqStops F n Try.prog 41 #[.pointer (some ⟨Bm, 0, none⟩)] (Value.int .u64) (fun ss => ss.Nodup ∧ ss.length ≤ Maps.size D0 ∧ ∀ x, x ∈ ss ↔ Maps.has D0 (.int .u64 x) = true) (fun _ => True) (Maps.size D0) w := fun l J Jx W hW hJ _ hY h0 => by
  have hown' : W.ownsMap Try.prog 30 encV b nn D0 := by
    have hbl := hown.lt
    obtain ⟨es, clock, hb, Ft, hs, hD⟩ := hown
    exact ⟨es, clock, (hW.block b hbl).trans hb, Ft, hs, hD⟩
  exact keys1_in F n h10 hro hn l Bm b nn D0 J Jx hY W hJ ((hW.cell (p := ⟨Bm, 0, none⟩) hBm).trans hm) hown' h0
theorem infoU : (Try.prog.info? 30).map (fun i => (i.zero, i.size, i.bytes)) = some (some (.int .u64 0), 1, 8) := by kernel_rfl
theorem flat_u (ss : List Int) : ss.flatMap uC = ss.map (Value.int .u64) := by
  induction ss with
  | nil => rfl
  | cons x ss ih => rw [List.flatMap_cons, ih]; rfl
/-- Keys that a call gathers in a row of its own. -/
def RetKeys (N : Nat) (has : Int → Bool) (w : World) (e : Ending) (w' : World) : Prop :=
  ∃ aa n cap ss, e = .returned (.slice aa n cap) ∧ Own w' w.heap.size 30 1 uC aa n cap ss ∧ (ss.Nodup ∧ ss.length ≤ N ∧ ∀ x, x ∈ ss ↔ has x = true) ∧ Below w.heap.size w w'
theorem own_of_row {w : World} {base : Nat} {v : Value} {ss : List Int} (h : w.ownsRow base 30 1 v ss.length (ss.map (Value.int .u64))) : ∃ aa cap, v = .slice aa ss.length cap ∧ Own w base 30 1 uC aa ss.length cap ss := by
  have h' := h
  rw [← flat_u] at h'
  rcases h.2 with ⟨rfl, h0⟩ | ⟨g, cap, cur, rfl, _⟩
  · rw [h0] at h' ⊢
    exact ⟨none, 0, rfl, h', h0.symm, uC.wid⟩
  · exact ⟨_, cap, rfl, h', rfl, uC.wid⟩
set_option maxRecDepth 100000 in
set_option maxHeartbeats 2000000 in
theorem appendSeq_any (Bm b nn : Nat) (D0 : DataW Unit) (w : World) (hm : w.cell? ⟨Bm, 0, none⟩ = some (.map (some b))) (hown : w.ownsMap Try.prog 30 encV b nn D0) (hs : Maps.size D0 ≤ 1000000) :
    Calls Try.prog 57 #[.slice none 0 0, (.func (.func 41) #[] #[.pointer (some ⟨Bm, 0, none⟩)])] w (RetKeys (Maps.size D0) (fun x => Maps.has D0 (.int .u64 x)) w) := by
  obtain ⟨i0, hi, hz0, hz1, hz2⟩ := info_parts infoU
  have hBm := lt_of_cell hm
  refine (callsIn_wide (n := 3)).1 ?_
  have hro : Fence.wide.round = none := rfl
  refine callsIn_of_wp_marks Try.func57 rfl trivial ?_ hro
  simp only [Try.ntmps57, List.size_toArray, List.length_cons, List.length_nil, Nat.reduceAdd, Nat.reduceSub, Array.replicate_succ, Array.replicate_zero, List.push_toArray, List.append_toArray, List.nil_append, List.cons_append]
  gi_wp2
  have bO := Boxed.new w 42 (.slice none 0 0)
  have hB0 : Below w.heap.size w (w.alloc (.cells #[.slice none 0 0] 42)) := (Below.refl _ w).alloc (Nat.le_refl _) _
  have hm' : (w.alloc (.cells #[.slice none 0 0] 42)).cell? ⟨Bm, 0, none⟩ = some (.map (some b)) := (hB0.cell (p := ⟨Bm, 0, none⟩) hBm).trans hm
  refine wpIn_rangeFunc_ownG hro (by decide) (gf := 41) (lb := #[.pointer (some ⟨Bm, 0, none⟩)]) rfl trivial (enters_of Try.func41 (by kernel_rfl) rfl)
    (keys_stops Fence.wide 2 trivial hro (by decide) Bm b nn D0 _ (by simp; omega) hm' (hown.alloc _)) walksK_t walksK_b (Below.refl _ _) (fun _ => rfl)
    (fun (pre : List Int) W => (∃ v, Boxed W w.heap.size 42 v ∧ W.ownsRow w.heap.size 30 1 v pre.length (pre.map (Value.int .u64)) ∧ True) ∧ Below w.heap.size w W)
    (fun _ _ _ => False)
    (OwnFrom.and (Own.from (holdsRow_own w.heap.size w.heap.size 42 30 1 (fun pre : List Int => pre.length) (fun pre : List Int => pre.map (Value.int .u64)) (fun (_ : List Int) _ => True)) _) (ownFrom_below (Nat.le_refl _) (by simp)))
    (fun _ _ _ _ _ hs _ _ => hs)
    ⟨⟨_, bO, World.ownsRow_nil _ _ _ _, trivial⟩, hB0⟩
    (fun x => { tmps := #[.slice none 0 0, (.func (.func 41) #[] #[.pointer (some ⟨Bm, 0, none⟩)]), .pointer (some ⟨w.heap.size, 0, none⟩), undef, .slice none 0 0, .int .u64 x, (.func (.func 41) #[] #[.pointer (some ⟨Bm, 0, none⟩)]), .int .u64 x, undef, undef, undef, undef, undef], defers := [] }) ?assign ?body ?done ?stop
  case assign =>
    intro l x W K hK
    gi_wp2
    exact hK
  case body =>
    rintro l pre x W ⟨⟨v, hv, hrow, _⟩, hB⟩ hlt
    have hc := hv.cell
    gi_wp2_with (gi_at_builtin; refine wpListIn_append_own _ rfl _ _ 42 rfl w.heap.size 30 i0 (.int .u64 0) 1 8 Try.underlying42 hi hz0 hz1 hz2 rfl (by decide) _ _ _ rfl (hrow.alloc _) ⟨W.heap.size, 0, none⟩ 1 1 [.int .u64 x] rfl rfl (cell_one_new _ _ _) (by simp [Value.oneCell']) (by simp only [maxLen]; omega) (by omega) (by have := hB.size; simp; omega) ?_; intro v' w1 hown' hgrow _; obtain ⟨g', cap', rfl⟩ := ownsRow_succ hown'; obtain ⟨hv1, hv2, hr2, hk2, hb2⟩ := hv.appended (by decide) hrow hB.size (Nat.le_refl _) hown' hgrow; have hc1 := hv1.cell; have hf1 := hv1.frozen)
    exact ⟨hk2.from _, hk2.walks, ⟨_, hv2, by simpa using hr2, trivial⟩, hB.trans hb2⟩
  case done =>
    rintro D ys W hD hS ⟨⟨v, hv, hrow, _⟩, hB⟩ hK
    have hc := hv.cell
    gi_wp2
    refine ⟨by simp, .inl ⟨_, _, rfl, run_takeDeferred hK, ?_⟩⟩
    have hrow' := ownsRow_putObj hrow (.deferred none) hK rfl
    obtain ⟨aa, cap, rfl, hO⟩ := own_of_row hrow'
    exact ⟨_, results_tmp rfl _ _ _, aa, ys.length, cap, ys, rfl, hO, hS, hB.trans (belowK_b (w := w) (Nat.le_refl _) W D _ _ (by simp at hD; omega) hK rfl rfl)⟩
  case stop =>
    rintro D c pre W _ _ h _
    exact h.elim
theorem keys8_any (b : Nat) (w : World) : Calls Try.prog 33 #[.map (some b)] w fun e w' =>
    e = .returned (.func (.func 41) #[] #[.pointer (some ⟨w.heap.size, 0, none⟩)]) ∧ w' = w.alloc (.cells #[.map (some b)] 75) := by
  go_enter Try.func33, Try.ntmps33
  go_wp2
  go_ret
  exact ⟨rfl, rfl⟩
theorem collect_any (Bm b nn : Nat) (D0 : DataW Unit) (w : World) (hm : w.cell? ⟨Bm, 0, none⟩ = some (.map (some b))) (hown : w.ownsMap Try.prog 30 encV b nn D0) (hs : Maps.size D0 ≤ 1000000) :
    Calls Try.prog 39 #[(.func (.func 41) #[] #[.pointer (some ⟨Bm, 0, none⟩)])] w (RetKeys (Maps.size D0) (fun x => Maps.has D0 (.int .u64 x)) w) := by
  have HM := hid hm
  have HO := hid hown
  clear hm hown
  go_enter Try.func39, Try.ntmps39
  go_wp2_with fail
  refine (appendSeq_any Bm b nn D0 _ HM.out HO.out hs).mono ?_
  rintro e w1 ⟨aa, n, cap, ss, rfl, h1, h2, h3⟩
  have H1 := hid h1
  have H2 := hid h2
  have H3 := hid h3
  clear h1 h2 h3
  go_wp2
  go_ret
  exact ⟨aa, n, cap, ss, rfl, H1.out, H2.out, H3.out⟩
/-- Keys in order, in a row of the call's own. -/
def RetSorted (f : Lit → Option Value) (w : World) (e : Ending) (w' : World) : Prop :=
  ∃ aa n cap zs, e = .returned (.slice aa n cap) ∧ Own w' w.heap.size 30 1 uC aa n cap zs ∧ (zs.Nodup ∧ Rise zs 0 n ∧ ∀ x, x ∈ zs ↔ (f (.int .u64 x)).isSome = true) ∧ Below w.heap.size w w'
theorem sorted12_any (Bm b nn s : Nat) (f : Lit → Option Value) (w : World) (hm : w.cell? ⟨Bm, 0, none⟩ = some (.map (some b))) (hF : MapF w Try.prog 30 b nn s f) (hs : s ≤ 12) :
    Calls Try.prog 32 #[(.func (.func 41) #[] #[.pointer (some ⟨Bm, 0, none⟩)])] w (RetSorted f w) := by
  obtain ⟨D, hown, rfl, rfl⟩ := hF
  have HG := hid (get_some hown)
  have HM := hid hm
  have HO := hid hown
  clear hm hown
  go_enter Try.func32, Try.ntmps32
  go_wp2_with fail
  refine (collect_any Bm b nn D _ HM.out HO.out (by omega)).mono ?_
  rintro e w1 ⟨aa, n, cap, ss, rfl, h1, h2, h3⟩
  have hn : n ≤ 12 := by have := h1.neq; have := h2.2.1; omega
  have H1 := hid h1
  have H2 := hid h2
  have H3 := hid h3
  clear h1 h2 h3
  go_wp2_with fail
  refine (sort12_any aa w.heap.size n cap ss _ H1.out hn).mono ?_
  rintro e w2 ⟨rfl, zs, h1, h2, h3, h4⟩
  have H4 := hid h1
  have H5 := hid h2
  have H6 := hid h3
  have H7 := hid h4
  clear h1 h2 h3 h4
  go_wp2
  go_ret
  exact ⟨aa, n, cap, zs, rfl, H4.out, ⟨(List.Perm.nodup_iff H5.out).2 H2.out.1, H6.out, fun x => by rw [H5.out.mem_iff, H2.out.2.2 x, HG.out]⟩, H3.out.trans H7.out⟩
end Go.Proofs.Ytjggjkmafcokjaa

