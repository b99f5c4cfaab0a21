/- What the document's Apply has, member by member: the plain law. -/
import Derived.Test.YtiifflojpoobpaaGreatGrown
import Derived.Test.YtiifflojpoobpaaGreatSame15
import Derived.Test.YtiifflojpoobpaaGreatSub
import Derived.Deep.RegionHeld3
import Derived.Test.YtiifflojpoobpaaGreatEvs15
import Derived.Test.YtiifflojpoobpaaGreatApply
import Derived.BigQuiet
import Derived.Test.YtiifflojpoobpaaGreatFilt15
import Derived.Test.YtiifflojpoobpaaGreatCut15
import Derived.Test.YtiifflojpoobpaaGreatBatch15
import Derived.Test.YtiifflojpoobpaaGreatRRed15
import Derived.Test.YtiifflojpoobpaaGreatAw15
import Derived.Test.YtiifflojpoobpaaGreatHeld
import Derived.Deep.RegionLaw
import Derived.Deep.DrawnRows
set_option linter.unusedVariables false
set_option linter.unusedSimpArgs false
namespace Go.Proofs.YtiifflojpoobpaaGreat
open Go.RowKit

def ltS (a b : SD) : Prop := a.c < b.c ∨ a.c = b.c ∧ a.u < b.u
def oneD (d : ED) : SD := ⟨d.c, d.u, d.ts⟩
def geB (d : ED) (s : SD) : Bool := decide (0 ≤ sideI s d.c d.u)
/-- what stands behind the first members -/
def outK (d : ED) (l : List SD) : List SD :=
  if d.k = 2 ∨ d.k = 3 then l.filter (fun s => decide (sideI s d.c d.u < 0)) ++ ((if d.k = 2 ∧ l.any (geB d) = true then [oneD d] else []) ++ l.filter (fun s => decide (0 < sideI s d.c d.u))) else l
def laidK (d : ED) (l : List SD) : Bool := !decide (d.k = 2) || l.any (geB d)

theorem side_mono {a b : SD} {c u : Int} (h : ltS a b) (hb : sideI b c u ≤ 0) : sideI a c u < 0 := by
  rcases sideI_cases a c u with ⟨e, k⟩ | ⟨e, k⟩ | ⟨e, k⟩ <;> rcases sideI_cases b c u with ⟨e', k'⟩ | ⟨e', k'⟩ | ⟨e', k'⟩ <;> rcases h with h | ⟨h, h'⟩ <;> omega
theorem no_ge {l : List SD} {s : SD} {d : ED} (R : ∀ a, a ∈ l → ltS a s) (hs : sideI s d.c d.u ≤ 0) : l.any (geB d) = false := by
  rw [List.any_eq_false]
  intro a ha
  have := side_mono (R a ha) hs
  unfold geB
  simp only [decide_eq_true_eq]; omega
theorem no_gt {l : List SD} {s : SD} {d : ED} (R : ∀ a, a ∈ l → ltS a s) (hs : sideI s d.c d.u ≤ 0) : l.filter (fun s => decide (0 < sideI s d.c d.u)) = [] := by
  rw [List.filter_eq_nil_iff]
  intro a ha
  have := side_mono (R a ha) hs
  simp only [decide_eq_true_eq]; omega
theorem laid_app (d : ED) (l : List SD) (s : SD) : laidK d (l ++ [s]) = (laidK d l || geB d s) := by
  unfold laidK
  rw [List.any_append]
  simp [Bool.or_assoc]
/-- ahead of the entry's -/
theorem out_lo {d : ED} {l : List SD} {s : SD} (R : ∀ a, a ∈ l → ltS a s) (hs : sideI s d.c d.u < 0) : outK d (l ++ [s]) = outK d l ++ [s] := by
  unfold outK
  split
  · have h1 : geB d s = false := by unfold geB; simp only [decide_eq_false_iff_not]; omega
    have h2 : decide (0 < sideI s d.c d.u) = false := by simp only [decide_eq_false_iff_not]; omega
    rw [List.filter_append, List.filter_append, List.any_append, no_ge R (Int.le_of_lt hs), no_gt R (Int.le_of_lt hs)]
    simp [h1, h2, hs]
  · rfl
/-- it, where one subscribes: laid now, or before -/
theorem out_eq {d : ED} {l : List SD} {s : SD} (R : ∀ a, a ∈ l → ltS a s) (hs : sideI s d.c d.u = 0) (hk : d.k = 2 ∨ d.k = 3) : outK d (l ++ [s]) = outK d l ++ (if laidK d l = true then [] else [oneD d]) := by
  unfold outK laidK
  rw [if_pos hk, if_pos hk]
  have h1 : geB d s = true := by unfold geB; simp only [decide_eq_true_eq]; omega
  have h2 : decide (0 < sideI s d.c d.u) = false := by simp only [decide_eq_false_iff_not]; omega
  have h3 : decide (sideI s d.c d.u < 0) = false := by simp only [decide_eq_false_iff_not]; omega
  rw [List.filter_append, List.filter_append, List.any_append, no_ge R (Int.le_of_eq hs), no_gt R (Int.le_of_eq hs)]
  rcases hk with hk | hk <;> simp [h1, h2, h3, hk]
theorem out_eq' {d : ED} {l : List SD} {s : SD} (hk : ¬ (d.k = 2 ∨ d.k = 3)) : outK d (l ++ [s]) = outK d l ++ [s] := by
  unfold outK
  rw [if_neg hk, if_neg hk]
/-- behind the entry's -/
theorem out_hi {d : ED} {l : List SD} {s : SD} (hs : 0 < sideI s d.c d.u) : laidK d l = true → outK d (l ++ [s]) = outK d l ++ [s] := by
  intro hl
  unfold outK
  unfold laidK at hl
  split
  · have h1 : geB d s = true := by unfold geB; simp only [decide_eq_true_eq]; omega
    have h2 : decide (sideI s d.c d.u < 0) = false := by simp only [decide_eq_false_iff_not]; omega
    rw [List.filter_append, List.filter_append, List.any_append]
    by_cases hk : d.k = 2
    · have h3 : l.any (geB d) = true := by simpa [hk] using hl
      simp [h1, h2, h3, hs, hk]
    · simp [h2, hs, hk]
  · rfl
theorem out_hi' {d : ED} {l : List SD} {s : SD} (hs : 0 < sideI s d.c d.u) (hl : laidK d l = false) : outK d (l ++ [s]) = (outK d l ++ [oneD d]) ++ [s] := by
  unfold laidK at hl
  rw [Bool.or_eq_false_iff] at hl
  have hk : d.k = 2 := by simpa using hl.1
  have h0 := hl.2
  unfold outK
  have hkk : d.k = 2 ∨ d.k = 3 := .inl hk
  rw [if_pos hkk, if_pos hkk]
  have h1 : geB d s = true := by unfold geB; simp only [decide_eq_true_eq]; omega
  have h2 : decide (sideI s d.c d.u < 0) = false := by simp only [decide_eq_false_iff_not]; omega
  have h4 : l.filter (fun s => decide (0 < sideI s d.c d.u)) = [] := by
    rw [List.filter_eq_nil_iff]
    intro a ha
    have := List.any_eq_false.1 h0 a ha
    unfold geB at this
    simp only [decide_eq_true_eq] at this ⊢; omega
  rw [List.filter_append, List.filter_append, List.any_append, h4, h0]
  simp [h1, h2, hs, hk]
theorem out_end {d : ED} {l : List SD} (hl : laidK d l = true) : outK d l = applyD l d := by
  unfold outK applyD laidK at *
  split
  · by_cases hk : d.k = 2
    · have h3 : l.any (geB d) = true := by simpa [hk] using hl
      simp [h3, hk, oneD]
    · simp [hk]
  · rfl
theorem out_end' {d : ED} {l : List SD} (hl : laidK d l = false) : outK d l ++ [oneD d] = applyD l d := by
  unfold laidK at hl
  rw [Bool.or_eq_false_iff] at hl
  have hk : d.k = 2 := by simpa using hl.1
  have h0 := hl.2
  have h4 : l.filter (fun s => decide (0 < sideI s d.c d.u)) = [] := by
    rw [List.filter_eq_nil_iff]
    intro a ha
    have := List.any_eq_false.1 h0 a ha
    unfold geB at this
    simp only [decide_eq_true_eq] at this ⊢; omega
  unfold outK applyD
  have hkk : d.k = 2 ∨ d.k = 3 := .inl hk
  rw [if_pos hkk, if_pos hkk, h4, h0]
  simp [hk, oneD]
theorem laid_not {d : ED} {l : List SD} (hk : ¬ d.k = 2) : laidK d l = true := by unfold laidK; simp [hk]
theorem rises_take {l : List SD} (h : risesD l) {k : Nat} (hk : k < l.length) : ∀ a, a ∈ l.take k → ltS a l[k] := by
  intro a ha
  obtain ⟨i, hi, rfl⟩ := List.mem_take_iff_getElem.1 ha
  exact (List.pairwise_iff_getElem.1 h) i k (by omega) hk (by omega)
theorem laid_hi {d : ED} {l : List SD} {s : SD} (R : ∀ a, a ∈ l → ltS a s) (hk : d.k = 2) (hl : laidK d l = true) : 0 < sideI s d.c d.u := by
  unfold laidK at hl
  have h3 : l.any (geB d) = true := by simpa [hk] using hl
  rcases Int.lt_or_le 0 (sideI s d.c d.u) with h | h
  · exact h
  · rw [no_ge R h] at h3; cases h3
end Go.Proofs.YtiifflojpoobpaaGreat

namespace Go.Proofs.YtiifflojpoobpaaGreat
open Go.RowKit

set_option maxRecDepth 100000 in
set_option maxHeartbeats 2000000 in
/-- Lists that are the same data are told to be the same. -/
theorem sameS_any (a1 a2 : Option Addr) (n1 n2 c1 c2 : Nat) (xs ys : List SB) (w : World) (hX : Subs w a1 n1 c1 xs) (hY : Subs w a2 n2 c2 ys) (hxy : xs.map SB.d = ys.map SB.d) :
    Calls Tryz.prog 9 #[.slice a1 n1 c1, .slice a2 n2 c2] w fun e w' => e = .returned (.bool true) ∧ Ext w w' := by
  have hlen : xs.length = ys.length := by rw [← List.length_map (f := SB.d), hxy, List.length_map]
  have h2 := hY.sl.neq
  obtain rfl := hX.sl.neq
  rw [← hlen] at h2
  subst h2
  have hm := hX.sl.max
  have hl := hX.sl.len
  unfold maxLen at hm
  have HX := hid hX
  have HY := hid hY
  have HXY := hid hxy
  have HLEN := hid hlen
  clear hX hY hxy hlen
  go_enter Tryz.func9, Tryz.ntmps9
  go_wp2_with fail
  go_loopg [5, 6] (xs.length) (fun g st sv wr => ∃ k : Nat, g + k = xs.length ∧ st = .int .i64 k ∧ Hid (Ext w wr))
  case atStart => exact ⟨0, by omega, rfl, Ext.refl _⟩
  case round =>
    obtain ⟨k, hg, rfl, hx⟩ := hrel
    by_cases hk : k < xs.length
    · have hk2 : k < ys.length := by rw [← HLEN.out]; exact hk
      have HE := hid (show xs[k].d = ys[k].d from by
        have h1 : (xs.map SB.d)[k]? = (ys.map SB.d)[k]? := by rw [HXY.out]
        rw [List.getElem?_map, List.getElem?_map, List.getElem?_eq_getElem hk, List.getElem?_eq_getElem hk2] at h1
        simpa using h1)
      obtain ⟨b, o, rfl, hc⟩ := HX.out.sl.get k hk
      have hcx := fun (wx : World) (hw : Ext w wx) => cellsSB (w := wx) (b := b) (o := o + k * 3) (x := xs[k]) (fun j v hj => hw.keep (hc j v hj))
      obtain ⟨b', o', rfl, hc'⟩ := HY.out.sl.get k hk2
      have hcy := fun (wx : World) (hw : Ext w wx) => cellsSB (w := wx) (b := b') (o := o' + k * 3) (x := ys[k]) (fun j v hj => hw.keep (hc' j v hj))
      rw [show ys[k].c = xs[k].c from (congrArg SD.c HE.out).symm, show ys[k].u = xs[k].u from (congrArg SD.u HE.out).symm] at hcy
      have HTS := hid (show ys[k].ts = xs[k].ts from (congrArg SD.ts HE.out).symm)
      have HCX := hid hcx
      have HCY := hid hcy
      clear hc hc' hcx hcy
      obtain ⟨d0, d1, d2⟩ := HCX.out wr hx.out
      obtain ⟨e0, e1, e2⟩ := HCY.out wr hx.out
      have b0 : (0 : Int) ≤ (k : Int) := by omega
      have b1 : (k : Int) < (xs.length : Int) := by omega
      go_wp2_with fail
      go_region_held3 (fun w' => w'.cell? ⟨b, (o + k * 3), none⟩ = some (.int .i64 xs[k].c) ∧ w'.cell? ⟨b, (o + k * 3) + 1, none⟩ = some (.int .u64 xs[k].u) ∧ w'.cell? ⟨b, (o + k * 3) + 2, none⟩ = some (.slice xs[k].f.a xs[k].f.n xs[k].f.c) ∧ w'.cell? ⟨b', (o' + k * 3), none⟩ = some (.int .i64 xs[k].c) ∧ w'.cell? ⟨b', (o' + k * 3) + 1, none⟩ = some (.int .u64 xs[k].u) ∧ w'.cell? ⟨b', (o' + k * 3) + 2, none⟩ = some (.slice ys[k].f.a ys[k].f.n ys[k].f.c)) (first | (go_split_ands; refine ⟨?_, ?_, ?_, ?_, ?_, ?_⟩ <;> exact (Hid.out hy).keep (by assumption)) | go_keep) (first | (go_at_call 34; refine (sameT_any _ _ _ _ _ _ xs[k].ts _ ((HX.out.ts xs[k] (List.getElem_mem hk)).ext (by (repeat (first | exact Ext.refl _ | refine Ext.alloc ?_ _ | refine Ext.drewN ?_ _ | refine Ext.drew ?_ | refine Ext.trans ?_ (Hid.out (by assumption)))))) (by rw [← HTS.out]; exact (HY.out.ts ys[k] (List.getElem_mem hk2)).ext (by (repeat (first | exact Ext.refl _ | refine Ext.alloc ?_ _ | refine Ext.drewN ?_ _ | refine Ext.drew ?_ | refine Ext.trans ?_ (Hid.out (by assumption))))))).mono ?_; rintro e w1 ⟨rfl, hb⟩; have hy := hid hb; clear hb))
      have hxw := hid (show Ext w w1 from (by (repeat (first | exact Ext.refl _ | refine Ext.alloc ?_ _ | refine Ext.drewN ?_ _ | refine Ext.drew ?_ | refine Ext.trans ?_ (Hid.out (by assumption))))))
      clear d0 d1 d2 e0 e1 e2
      obtain ⟨d0, d1, d2⟩ := HCX.out w1 hxw.out
      obtain ⟨e0, e1, e2⟩ := HCY.out w1 hxw.out
      go_wp2_with fail
      go_quiet (fail)
      go_wp2
      go_roundg (gk - 1)
      case measure => omega
      case rel => exact ⟨k + 1, by omega, by go_num, (by (repeat (first | exact Ext.refl _ | refine Ext.alloc ?_ _ | refine Ext.drewN ?_ _ | refine Ext.drew ?_ | refine Ext.trans ?_ (Hid.out (by assumption)))))⟩
    · go_wp2
      go_ret
      refine ⟨rfl, ?_⟩
      (repeat (first | exact Ext.refl _ | refine Ext.alloc ?_ _ | refine Ext.drewN ?_ _ | refine Ext.drew ?_ | refine Ext.trans ?_ (Hid.out (by assumption))))
end Go.Proofs.YtiifflojpoobpaaGreat

namespace Go.Proofs.YtiifflojpoobpaaGreat
open Go.RowKit
set_option maxHeartbeats 2000000 in
/-- Lists that are the same data are told to be the same. -/
theorem same_evs (a1 a2 : Option Addr) (n1 n2 c1 c2 : Nat) (xs ys : List EvV) (w : World) (hX : EvsV w a1 n1 c1 xs) (hY : EvsV w a2 n2 c2 ys) (hxy : xs.map (·.ats) = ys.map (·.ats)) :
    Calls Tryz.prog 16 #[.slice a1 n1 c1, .slice a2 n2 c2] w fun e w' => e = .returned (.bool true) ∧ Ext w w' := by
  have hlen : xs.length = ys.length := by rw [← List.length_map (f := (·.ats)), hxy, List.length_map]
  have h2 := hY.sl.neq
  obtain rfl := hX.sl.neq
  rw [← hlen] at h2
  subst h2
  have hm := hX.sl.max
  have hl := hX.sl.len
  unfold maxLen at hm
  have HX := hid hX
  have HY := hid hY
  have HXY := hid hxy
  have HLEN := hid hlen
  clear hX hY hxy hlen
  go_enter Tryz.func16, Tryz.ntmps16
  go_wp2_with fail
  go_loopg [5] (xs.length) (fun g st wr => ∃ k : Nat, g + k = xs.length ∧ st = .int .i64 k ∧ Hid (Ext w wr))
  case atStart => exact ⟨0, by omega, rfl, Ext.refl _⟩
  case round =>
    obtain ⟨k, hg, rfl, hx⟩ := hrel
    by_cases hk : k < xs.length
    · have hk2 : k < ys.length := by rw [← HLEN.out]; exact hk
      obtain ⟨b, o, rfl, hc⟩ := HX.out.sl.get k hk
      have d0 := cells1 (w := wr) (b := b) (o := o + k * 1) (x := xs[k]) (fun j v hj => hx.out.keep (hc j v hj))
      obtain ⟨b', o', rfl, hc'⟩ := HY.out.sl.get k hk2
      have d1 := cells1 (w := wr) (b := b') (o := o' + k * 1) (x := ys[k]) (fun j v hj => hx.out.keep (hc' j v hj))
      rw [Nat.mul_one] at d0 d1
      clear hc hc'
      have b0 : (0 : Int) ≤ (k : Int) := by omega
      have b1 : (k : Int) < (xs.length : Int) := by omega
      have HE := hid (show xs[k].ats = ys[k].ats by
        have h1 : (xs.map (·.ats))[k]? = (ys.map (·.ats))[k]? := by rw [HXY.out]
        rw [List.getElem?_map, List.getElem?_map, List.getElem?_eq_getElem hk, List.getElem?_eq_getElem hk2] at h1
        simpa using h1)
      go_wp2_with fail
      go_region_held3 (fun w' => w'.cell? ⟨b, o + k, none⟩ = some (.slice xs[k].v.a xs[k].v.n xs[k].v.c) ∧ w'.cell? ⟨b', o' + k, none⟩ = some (.slice ys[k].v.a ys[k].v.n ys[k].v.c)) (first | (go_split_ands; refine ⟨?_, ?_⟩ <;> exact (Hid.out hy).keep (by assumption)) | go_keep) (first | (go_at_call 40; refine (sameA_any _ _ _ _ _ _ xs[k].ats _ ((HX.out.ats xs[k] (List.getElem_mem hk)).ext (by (repeat (first | exact Ext.refl _ | refine Ext.alloc ?_ _ | refine Ext.drewN ?_ _ | refine Ext.drew ?_ | refine Ext.trans ?_ (Hid.out (by assumption)))))) (by rw [HE.out]; exact (HY.out.ats ys[k] (List.getElem_mem hk2)).ext (by (repeat (first | exact Ext.refl _ | refine Ext.alloc ?_ _ | refine Ext.drewN ?_ _ | refine Ext.drew ?_ | refine Ext.trans ?_ (Hid.out (by assumption))))))).mono ?_; rintro e w1 ⟨rfl, hb⟩; have hy := hid hb; clear hb))
      go_wp2
      go_roundg (gk - 1)
      case measure => omega
      case rel => exact ⟨k + 1, by omega, by go_num, (by (repeat (first | exact Ext.refl _ | refine Ext.alloc ?_ _ | refine Ext.drewN ?_ _ | refine Ext.drew ?_ | refine Ext.trans ?_ (Hid.out (by assumption)))))⟩
    · go_wp2
      go_ret
      refine ⟨rfl, ?_⟩
      (repeat (first | exact Ext.refl _ | refine Ext.alloc ?_ _ | refine Ext.drewN ?_ _ | refine Ext.drew ?_ | refine Ext.trans ?_ (Hid.out (by assumption))))
end Go.Proofs.YtiifflojpoobpaaGreat

namespace Go.Proofs.YtiifflojpoobpaaGreat
open Go.RowKit

theorem outK_len (d : ED) (l : List SD) : (outK d l).length ≤ l.length + 1 := by
  unfold outK
  split
  · have h := two_filters (p := fun s => decide (sideI s d.c d.u < 0)) (q := fun s => decide (0 < sideI s d.c d.u)) l (fun x _ h => by simp only [decide_eq_true_eq, decide_eq_false_iff_not] at h ⊢; omega)
    rw [List.length_append, List.length_append]
    split <;> simp only [List.length_singleton, List.length_nil] <;> omega
  · omega
theorem mem_snoc {α : Type} {Q : α → Prop} {zs : List α} {y : α} (h : ∀ z, z ∈ zs → Q z) (hy : Q y) : ∀ z, z ∈ zs ++ [y] → Q z := fun z hz => by
  rcases List.mem_append.1 hz with hz | hz
  · exact h z hz
  · rw [List.mem_singleton.1 hz]; exact hy
theorem laid_ge {d : ED} {l : List SD} {s : SD} (h : 0 ≤ sideI s d.c d.u) : true = laidK d (l ++ [s]) := by
  rw [laid_app]; unfold geB; rw [decide_eq_true h, Bool.or_true]
theorem laid_lo {d : ED} {l : List SD} {s : SD} (h : sideI s d.c d.u < 0) : laidK d (l ++ [s]) = laidK d l := by
  rw [laid_app]; unfold geB; rw [decide_eq_false (by omega), Bool.or_false]
theorem side_of {s : SB} {c u : Int} : (s.c < c → sideI s.d c u < 0) ∧ (c < s.c → 0 < sideI s.d c u) ∧ (s.c = c → (s.u < u → sideI s.d c u < 0) ∧ (u < s.u → 0 < sideI s.d c u) ∧ (s.u = u → sideI s.d c u = 0)) := by
  have h := sideI_cases s.d c u
  have h1 : s.d.c = s.c := rfl
  have h2 : s.d.u = s.u := rfl
  rw [h1, h2] at h
  refine ⟨fun _ => ?_, fun _ => ?_, fun _ => ⟨fun _ => ?_, fun _ => ?_, fun _ => ?_⟩⟩ <;> omega
set_option maxRecDepth 100000 in
set_option maxHeartbeats 8000000 in
theorem rapply2_any (a : Option Addr) (n cap : Nat) (xs : List SB) (x : EV) (d : ED) (w : World) (hS : Subs w a n cap xs) (hI : EntryIs w x d) (hn : n ≤ 1000) (hR : risesD (xs.map SB.d)) (hk : d.k = 2) :
    Calls Tryz.prog 8 #[.slice a n cap, .agg #[.int .i64 x.k, .int .i64 x.id.b, .int .u64 x.id.l, .int .u64 x.id.s, .int .i64 x.c, .int .u64 x.u, .slice x.f.a x.f.n x.f.c, .slice x.e.a x.e.n x.e.c]] w (RetSubs (applyD (xs.map SB.d) d) w) := by
  obtain ⟨i0, hi, hz0, hz1, hz2⟩ := info_parts infoS
  have I1 := hid hi
  have I2 := hid hz0
  have I3 := hid hz1
  have I4 := hid hz2
  obtain ⟨xk, xi, xc, xu, xf, xe⟩ := x
  have hkx : xk = d.k := hI.k
  obtain rfl : xc = d.c := hI.c
  obtain rfl : xu = d.u := hI.u
  have HF := hid (show Sl w 5 T.cs xf.a xf.n xf.c d.ts from hI.f)
  obtain rfl := hS.sl.neq
  have hm := hS.sl.max
  have hl := hS.sl.len
  unfold maxLen at hm
  have HS := hid hS
  have HRR := hid hR
  clear hS hI hi hz0 hz1 hz2 hR
  dsimp only at hkx ⊢
  obtain rfl : xk = 2 := hkx.trans hk
  have HK := hid hk
  have HKD := hid (show d.k = 2 ∨ d.k = 3 from .inl hk)
  clear hk hkx
  go_enter Tryz.func8, Tryz.ntmps8
  go_wp2_with fail
  have HCB : Hid (∀ wx : World, Ext ((w.alloc (.cells #[.int .i64 2, .int .i64 xi.b, .int .u64 xi.l, .int .u64 xi.s, .int .i64 d.c, .int .u64 d.u, .slice xf.a xf.n xf.c, .slice xe.a xe.n xe.c] 31)).alloc (.cells #[.int .i64 d.c, .int .u64 d.u, .slice xf.a xf.n xf.c] 57)) wx → wx.cell? ⟨w.heap.size, 0, none⟩ = some (.int .i64 2) ∧ wx.cell? ⟨w.heap.size, 4, none⟩ = some (.int .i64 d.c) ∧ wx.cell? ⟨w.heap.size, 5, none⟩ = some (.int .u64 d.u) ∧ wx.cell? ⟨w.heap.size + 1, 0, none⟩ = some (.int .i64 d.c) ∧ wx.cell? ⟨w.heap.size + 1, 1, none⟩ = some (.int .u64 d.u) ∧ wx.cell? ⟨w.heap.size + 1, 2, none⟩ = some (.slice xf.a xf.n xf.c)) := fun wx h => ⟨h.keep (by simp), h.keep (by simp), h.keep (by simp), h.keep (by simp), h.keep (by simp), h.keep (by simp)⟩
  go_loopg [5, 6, 8, 9, 10] (xs.length) (fun g ov lv st bv sv wr => ∃ (k : Nat) (aa : Option Addr) (m cp : Nat) (zs : List SB) (lb : Bool), g + k = xs.length ∧ st = .int .i64 k ∧ ov = .slice aa m cp ∧ lv = .bool lb ∧ Hid (lb = laidK d ((xs.take k).map SB.d)) ∧ Hid (Own wr (w.heap.size + 2) 57 3 SB.cs aa m cp zs) ∧ Hid (zs.map SB.d = outK d ((xs.take k).map SB.d)) ∧ Hid (∀ z, z ∈ zs → Sl w 5 T.cs z.f.a z.f.n z.f.c z.ts) ∧ Hid (Ext ((w.alloc (.cells #[.int .i64 2, .int .i64 xi.b, .int .u64 xi.l, .int .u64 xi.s, .int .i64 d.c, .int .u64 d.u, .slice xf.a xf.n xf.c, .slice xe.a xe.n xe.c] 31)).alloc (.cells #[.int .i64 d.c, .int .u64 d.u, .slice xf.a xf.n xf.c] 57)) wr))
  case atStart => exact ⟨0, none, 0, 0, [], false, by omega, rfl, rfl, rfl, hid (by unfold laidK; simp [HK.out]), Own.nil _ _ _ SB.wid, hid (by simp [outK]), hid (fun z hz => by cases hz), Ext.refl _⟩
  case round =>
    obtain ⟨k, aa, m, cp, zs, lb, hg, rfl, rfl, rfl, hl, hown, hz, hts, hx⟩ := hrel
    obtain ⟨c0, c4, c5, o0, o1, o2⟩ := HCB.out wr hx.out
    have hkl : k ≤ xs.length := by omega
    have hmm : m ≤ 1001 := by
      have h1 := outK_len d ((xs.take k).map SB.d)
      rw [← hz.out, List.length_map, List.length_map] at h1
      have h2 := hown.out.neq
      have h3 := List.length_take_le k xs
      omega
    by_cases hk : k < xs.length
    · skip
      obtain ⟨b, o, rfl, hc⟩ := HS.out.sl.get k hk
      have hcx := fun (wx : World) (hw : Ext w wx) => cellsSB (w := wx) (b := b) (o := o + k * 3) (x := xs[k]) (fun j v hj => hw.keep (hc j v hj))
      have HCX := hid hcx
      obtain ⟨d0, d1, d2⟩ := hcx wr (Ext.trans (((Ext.refl w).alloc _).alloc _) hx.out)
      clear hc hcx
      have HP := hid (show (xs.take (k + 1)).map SB.d = ((xs.take k).map SB.d) ++ [xs[k].d] from by rw [List.take_succ_eq_append_getElem hk, List.map_append]; rfl)
      have HR := hid (show ∀ a, a ∈ ((xs.take k).map SB.d) → ltS a xs[k].d from fun a ha => by have h1 := rises_take HRR.out (k := k) (by rw [List.length_map]; exact hk) a (by rw [← List.map_take]; exact ha); rwa [List.getElem_map] at h1)
      have b0 : (0 : Int) ≤ (k : Int) := by omega
      have b1 : (k : Int) < (xs.length : Int) := by omega
      cases lb with
      | false =>
        rcases Int.lt_trichotomy xs[k].c d.c with h | h | h
        · skip
          have g1 : decide (d.c < xs[k].c) = false := by simp; omega
          have g2 : (xs[k].c == d.c) = false := by simp; omega
          have HSD := hid ((side_of (s := xs[k]) (c := d.c) (u := d.u)).1 h)
          clear h
          go_wp2_with fail
          go_quiet (fail)
          go_wp2_with fail
          go_quiet (fail)
          go_wp2_with (at_builtin; refine app1 (ys := zs) rfl (.tmp 94) (.tmp 99) 34 rfl i0 _ 40 Tryz.underlying34 I1.out I2.out I3.out I4.out rfl (by decide) rfl (hown.out.ext (by (repeat (first | exact Ext.refl _ | refine Ext.alloc ?_ _ | refine Ext.drewN ?_ _ | refine Ext.drew ?_ | refine Ext.trans ?_ (Hid.out (by assumption)))))) xs[k] _ rfl (news_alloc (cs := SB.cs xs[k]) rfl) (SB.one _) (by omega) (by decide) (Nat.le_trans (by simp) (Ext.size (show Ext ((w.alloc (.cells #[.int .i64 2, .int .i64 xi.b, .int .u64 xi.l, .int .u64 xi.s, .int .i64 d.c, .int .u64 d.u, .slice xf.a xf.n xf.c, .slice xe.a xe.n xe.c] 31)).alloc (.cells #[.int .i64 d.c, .int .u64 d.u, .slice xf.a xf.n xf.c] 57)) _ from (by (repeat (first | exact Ext.refl _ | refine Ext.alloc ?_ _ | refine Ext.drewN ?_ _ | refine Ext.drew ?_ | refine Ext.trans ?_ (Hid.out (by assumption)))))))) ?_; intro g4 cap4 w4 hown4 hgrow4; have HO4 := hid hown4; have HX4 := hid (hgrow4.ext (hown.out.ext (by (repeat (first | exact Ext.refl _ | refine Ext.alloc ?_ _ | refine Ext.drewN ?_ _ | refine Ext.drew ?_ | refine Ext.trans ?_ (Hid.out (by assumption)))))) (by simp) (show Ext ((w.alloc (.cells #[.int .i64 2, .int .i64 xi.b, .int .u64 xi.l, .int .u64 xi.s, .int .i64 d.c, .int .u64 d.u, .slice xf.a xf.n xf.c, .slice xe.a xe.n xe.c] 31)).alloc (.cells #[.int .i64 d.c, .int .u64 d.u, .slice xf.a xf.n xf.c] 57)) _ from (by (repeat (first | exact Ext.refl _ | refine Ext.alloc ?_ _ | refine Ext.drewN ?_ _ | refine Ext.drew ?_ | refine Ext.trans ?_ (Hid.out (by assumption))))))); clear hown4 hgrow4; obtain ⟨c0, c4, c5, o0, o1, o2⟩ := HCB.out w4 HX4.out; obtain ⟨d0, d1, d2⟩ := HCX.out w4 (Ext.trans (((Ext.refl w).alloc _).alloc _) HX4.out))
          go_roundg (gk - 1)
          case measure => omega
          case rel => exact ⟨k + 1, _, _, _, _, _, by omega, by go_num, rfl, rfl, hid (by rw [HP.out, laid_lo HSD.out]; exact hl.out), HO4.out, hid (by rw [List.map_append, hz.out, HP.out, out_lo HR.out HSD.out]; rfl), (hid (mem_snoc hts.out (HS.out.ts xs[k] (List.getElem_mem hk)))), (by (repeat (first | exact Ext.refl _ | refine Ext.alloc ?_ _ | refine Ext.drewN ?_ _ | refine Ext.drew ?_ | refine Ext.trans ?_ (Hid.out (by assumption)))))⟩
        · rcases Int.lt_trichotomy xs[k].u d.u with h' | h' | h'
          · skip
            have g1 : decide (d.c < xs[k].c) = false := by simp; omega
            have g2 : (xs[k].c == d.c) = true := by simp; omega
            have g3 : decide (d.u ≤ xs[k].u) = false := by simp; omega
            have g4 : (xs[k].u == d.u) = false := by simp; omega
            have HSD := hid (((side_of (s := xs[k]) (c := d.c) (u := d.u)).2.2 h).1 h')
            clear h h'
            go_wp2_with fail
            go_quiet (fail)
            go_wp2_with fail
            go_quiet (fail)
            go_wp2_with (at_builtin; refine app1 (ys := zs) rfl (.tmp 94) (.tmp 99) 34 rfl i0 _ 40 Tryz.underlying34 I1.out I2.out I3.out I4.out rfl (by decide) rfl (hown.out.ext (by (repeat (first | exact Ext.refl _ | refine Ext.alloc ?_ _ | refine Ext.drewN ?_ _ | refine Ext.drew ?_ | refine Ext.trans ?_ (Hid.out (by assumption)))))) xs[k] _ rfl (news_alloc (cs := SB.cs xs[k]) rfl) (SB.one _) (by omega) (by decide) (Nat.le_trans (by simp) (Ext.size (show Ext ((w.alloc (.cells #[.int .i64 2, .int .i64 xi.b, .int .u64 xi.l, .int .u64 xi.s, .int .i64 d.c, .int .u64 d.u, .slice xf.a xf.n xf.c, .slice xe.a xe.n xe.c] 31)).alloc (.cells #[.int .i64 d.c, .int .u64 d.u, .slice xf.a xf.n xf.c] 57)) _ from (by (repeat (first | exact Ext.refl _ | refine Ext.alloc ?_ _ | refine Ext.drewN ?_ _ | refine Ext.drew ?_ | refine Ext.trans ?_ (Hid.out (by assumption)))))))) ?_; intro g4 cap4 w4 hown4 hgrow4; have HO4 := hid hown4; have HX4 := hid (hgrow4.ext (hown.out.ext (by (repeat (first | exact Ext.refl _ | refine Ext.alloc ?_ _ | refine Ext.drewN ?_ _ | refine Ext.drew ?_ | refine Ext.trans ?_ (Hid.out (by assumption)))))) (by simp) (show Ext ((w.alloc (.cells #[.int .i64 2, .int .i64 xi.b, .int .u64 xi.l, .int .u64 xi.s, .int .i64 d.c, .int .u64 d.u, .slice xf.a xf.n xf.c, .slice xe.a xe.n xe.c] 31)).alloc (.cells #[.int .i64 d.c, .int .u64 d.u, .slice xf.a xf.n xf.c] 57)) _ from (by (repeat (first | exact Ext.refl _ | refine Ext.alloc ?_ _ | refine Ext.drewN ?_ _ | refine Ext.drew ?_ | refine Ext.trans ?_ (Hid.out (by assumption))))))); clear hown4 hgrow4; obtain ⟨c0, c4, c5, o0, o1, o2⟩ := HCB.out w4 HX4.out; obtain ⟨d0, d1, d2⟩ := HCX.out w4 (Ext.trans (((Ext.refl w).alloc _).alloc _) HX4.out))
            go_roundg (gk - 1)
            case measure => omega
            case rel => exact ⟨k + 1, _, _, _, _, _, by omega, by go_num, rfl, rfl, hid (by rw [HP.out, laid_lo HSD.out]; exact hl.out), HO4.out, hid (by rw [List.map_append, hz.out, HP.out, out_lo HR.out HSD.out]; rfl), (hid (mem_snoc hts.out (HS.out.ts xs[k] (List.getElem_mem hk)))), (by (repeat (first | exact Ext.refl _ | refine Ext.alloc ?_ _ | refine Ext.drewN ?_ _ | refine Ext.drew ?_ | refine Ext.trans ?_ (Hid.out (by assumption)))))⟩
          · skip
            have g1 : decide (d.c < xs[k].c) = false := by simp; omega
            have g2 : (xs[k].c == d.c) = true := by simp; omega
            have g3 : decide (d.u ≤ xs[k].u) = true := by simp; omega
            have g4 : (xs[k].u == d.u) = true := by simp; omega
            have HSD := hid (((side_of (s := xs[k]) (c := d.c) (u := d.u)).2.2 h).2.2 h')
            clear h h'
            go_wp2_with fail
            go_quiet (fail)
            go_wp2_with (at_builtin; refine app1 (ys := zs) rfl (.tmp 60) (.tmp 62) 34 rfl i0 _ 40 Tryz.underlying34 I1.out I2.out I3.out I4.out rfl (by decide) rfl (hown.out.ext (by (repeat (first | exact Ext.refl _ | refine Ext.alloc ?_ _ | refine Ext.drewN ?_ _ | refine Ext.drew ?_ | refine Ext.trans ?_ (Hid.out (by assumption)))))) (⟨d.c, d.u, xf, d.ts⟩ : SB) _ rfl (news_alloc (cs := SB.cs (⟨d.c, d.u, xf, d.ts⟩ : SB)) rfl) (SB.one _) (by omega) (by decide) (Nat.le_trans (by simp) (Ext.size (show Ext ((w.alloc (.cells #[.int .i64 2, .int .i64 xi.b, .int .u64 xi.l, .int .u64 xi.s, .int .i64 d.c, .int .u64 d.u, .slice xf.a xf.n xf.c, .slice xe.a xe.n xe.c] 31)).alloc (.cells #[.int .i64 d.c, .int .u64 d.u, .slice xf.a xf.n xf.c] 57)) _ from (by (repeat (first | exact Ext.refl _ | refine Ext.alloc ?_ _ | refine Ext.drewN ?_ _ | refine Ext.drew ?_ | refine Ext.trans ?_ (Hid.out (by assumption)))))))) ?_; intro g3 cap3 w3 hown3 hgrow3; have HO3 := hid hown3; have HX3 := hid (hgrow3.ext (hown.out.ext (by (repeat (first | exact Ext.refl _ | refine Ext.alloc ?_ _ | refine Ext.drewN ?_ _ | refine Ext.drew ?_ | refine Ext.trans ?_ (Hid.out (by assumption)))))) (by simp) (show Ext ((w.alloc (.cells #[.int .i64 2, .int .i64 xi.b, .int .u64 xi.l, .int .u64 xi.s, .int .i64 d.c, .int .u64 d.u, .slice xf.a xf.n xf.c, .slice xe.a xe.n xe.c] 31)).alloc (.cells #[.int .i64 d.c, .int .u64 d.u, .slice xf.a xf.n xf.c] 57)) _ from (by (repeat (first | exact Ext.refl _ | refine Ext.alloc ?_ _ | refine Ext.drewN ?_ _ | refine Ext.drew ?_ | refine Ext.trans ?_ (Hid.out (by assumption))))))); clear hown3 hgrow3; obtain ⟨c0, c4, c5, o0, o1, o2⟩ := HCB.out w3 HX3.out; obtain ⟨d0, d1, d2⟩ := HCX.out w3 (Ext.trans (((Ext.refl w).alloc _).alloc _) HX3.out))
            go_quiet (fail)
            go_wp2_with fail
            go_roundg (gk - 1)
            case measure => omega
            case rel => exact ⟨k + 1, _, _, _, _, _, by omega, by go_num, rfl, rfl, hid (by rw [HP.out]; exact laid_ge (Int.le_of_eq HSD.out.symm)), HO3.out.ext (by (repeat (first | exact Ext.refl _ | refine Ext.alloc ?_ _ | refine Ext.drewN ?_ _ | refine Ext.drew ?_ | refine Ext.trans ?_ (Hid.out (by assumption))))), hid (by rw [List.map_append, hz.out, HP.out, out_eq HR.out HSD.out HKD.out, ← hl.out]; rfl), hid (mem_snoc hts.out HF.out), (by (repeat (first | exact Ext.refl _ | refine Ext.alloc ?_ _ | refine Ext.drewN ?_ _ | refine Ext.drew ?_ | refine Ext.trans ?_ (Hid.out (by assumption)))))⟩
          · skip
            have g1 : decide (d.c < xs[k].c) = false := by simp; omega
            have g2 : (xs[k].c == d.c) = true := by simp; omega
            have g3 : decide (d.u ≤ xs[k].u) = true := by simp; omega
            have g4 : (xs[k].u == d.u) = false := by simp; omega
            have HSD := hid (((side_of (s := xs[k]) (c := d.c) (u := d.u)).2.2 h).2.1 h')
            clear h h'
            go_wp2_with fail
            go_quiet (fail)
            go_wp2_with (at_builtin; refine app1 (ys := zs) rfl (.tmp 60) (.tmp 62) 34 rfl i0 _ 40 Tryz.underlying34 I1.out I2.out I3.out I4.out rfl (by decide) rfl (hown.out.ext (by (repeat (first | exact Ext.refl _ | refine Ext.alloc ?_ _ | refine Ext.drewN ?_ _ | refine Ext.drew ?_ | refine Ext.trans ?_ (Hid.out (by assumption)))))) (⟨d.c, d.u, xf, d.ts⟩ : SB) _ rfl (news_alloc (cs := SB.cs (⟨d.c, d.u, xf, d.ts⟩ : SB)) rfl) (SB.one _) (by omega) (by decide) (Nat.le_trans (by simp) (Ext.size (show Ext ((w.alloc (.cells #[.int .i64 2, .int .i64 xi.b, .int .u64 xi.l, .int .u64 xi.s, .int .i64 d.c, .int .u64 d.u, .slice xf.a xf.n xf.c, .slice xe.a xe.n xe.c] 31)).alloc (.cells #[.int .i64 d.c, .int .u64 d.u, .slice xf.a xf.n xf.c] 57)) _ from (by (repeat (first | exact Ext.refl _ | refine Ext.alloc ?_ _ | refine Ext.drewN ?_ _ | refine Ext.drew ?_ | refine Ext.trans ?_ (Hid.out (by assumption)))))))) ?_; intro g3 cap3 w3 hown3 hgrow3; have HO3 := hid hown3; have HX3 := hid (hgrow3.ext (hown.out.ext (by (repeat (first | exact Ext.refl _ | refine Ext.alloc ?_ _ | refine Ext.drewN ?_ _ | refine Ext.drew ?_ | refine Ext.trans ?_ (Hid.out (by assumption)))))) (by simp) (show Ext ((w.alloc (.cells #[.int .i64 2, .int .i64 xi.b, .int .u64 xi.l, .int .u64 xi.s, .int .i64 d.c, .int .u64 d.u, .slice xf.a xf.n xf.c, .slice xe.a xe.n xe.c] 31)).alloc (.cells #[.int .i64 d.c, .int .u64 d.u, .slice xf.a xf.n xf.c] 57)) _ from (by (repeat (first | exact Ext.refl _ | refine Ext.alloc ?_ _ | refine Ext.drewN ?_ _ | refine Ext.drew ?_ | refine Ext.trans ?_ (Hid.out (by assumption))))))); clear hown3 hgrow3; obtain ⟨c0, c4, c5, o0, o1, o2⟩ := HCB.out w3 HX3.out; obtain ⟨d0, d1, d2⟩ := HCX.out w3 (Ext.trans (((Ext.refl w).alloc _).alloc _) HX3.out))
            go_quiet (fail)
            go_wp2_with (at_builtin; refine app1 (ys := zs ++ [(⟨d.c, d.u, xf, d.ts⟩ : SB)]) rfl (.tmp 94) (.tmp 99) 34 rfl i0 _ 40 Tryz.underlying34 I1.out I2.out I3.out I4.out rfl (by decide) rfl (HO3.out.ext (by (repeat (first | exact Ext.refl _ | refine Ext.alloc ?_ _ | refine Ext.drewN ?_ _ | refine Ext.drew ?_ | refine Ext.trans ?_ (Hid.out (by assumption)))))) xs[k] _ rfl (news_alloc (cs := SB.cs xs[k]) rfl) (SB.one _) (by omega) (by decide) (Nat.le_trans (by simp) (Ext.size (show Ext ((w.alloc (.cells #[.int .i64 2, .int .i64 xi.b, .int .u64 xi.l, .int .u64 xi.s, .int .i64 d.c, .int .u64 d.u, .slice xf.a xf.n xf.c, .slice xe.a xe.n xe.c] 31)).alloc (.cells #[.int .i64 d.c, .int .u64 d.u, .slice xf.a xf.n xf.c] 57)) _ from (by (repeat (first | exact Ext.refl _ | refine Ext.alloc ?_ _ | refine Ext.drewN ?_ _ | refine Ext.drew ?_ | refine Ext.trans ?_ (Hid.out (by assumption)))))))) ?_; intro g4 cap4 w4 hown4 hgrow4; have HO4 := hid hown4; have HX4 := hid (hgrow4.ext (HO3.out.ext (by (repeat (first | exact Ext.refl _ | refine Ext.alloc ?_ _ | refine Ext.drewN ?_ _ | refine Ext.drew ?_ | refine Ext.trans ?_ (Hid.out (by assumption)))))) (by simp) (show Ext ((w.alloc (.cells #[.int .i64 2, .int .i64 xi.b, .int .u64 xi.l, .int .u64 xi.s, .int .i64 d.c, .int .u64 d.u, .slice xf.a xf.n xf.c, .slice xe.a xe.n xe.c] 31)).alloc (.cells #[.int .i64 d.c, .int .u64 d.u, .slice xf.a xf.n xf.c] 57)) _ from (by (repeat (first | exact Ext.refl _ | refine Ext.alloc ?_ _ | refine Ext.drewN ?_ _ | refine Ext.drew ?_ | refine Ext.trans ?_ (Hid.out (by assumption))))))); clear hown4 hgrow4; obtain ⟨c0, c4, c5, o0, o1, o2⟩ := HCB.out w4 HX4.out; obtain ⟨d0, d1, d2⟩ := HCX.out w4 (Ext.trans (((Ext.refl w).alloc _).alloc _) HX4.out))
            go_roundg (gk - 1)
            case measure => omega
            case rel => exact ⟨k + 1, _, _, _, _, _, by omega, by go_num, rfl, rfl, hid (by rw [HP.out]; exact laid_ge (Int.le_of_lt HSD.out)), HO4.out, hid (by rw [List.map_append, List.map_append, hz.out, HP.out, out_hi' HSD.out hl.out.symm]; rfl), hid (mem_snoc (mem_snoc hts.out HF.out) (HS.out.ts xs[k] (List.getElem_mem hk))), (by (repeat (first | exact Ext.refl _ | refine Ext.alloc ?_ _ | refine Ext.drewN ?_ _ | refine Ext.drew ?_ | refine Ext.trans ?_ (Hid.out (by assumption)))))⟩
        · skip
          have g1 : decide (d.c < xs[k].c) = true := by simp; omega
          have g2 : (xs[k].c == d.c) = false := by simp; omega
          have HSD := hid ((side_of (s := xs[k]) (c := d.c) (u := d.u)).2.1 h)
          clear h
          go_wp2_with fail
          go_quiet (fail)
          go_wp2_with (at_builtin; refine app1 (ys := zs) rfl (.tmp 60) (.tmp 62) 34 rfl i0 _ 40 Tryz.underlying34 I1.out I2.out I3.out I4.out rfl (by decide) rfl (hown.out.ext (by (repeat (first | exact Ext.refl _ | refine Ext.alloc ?_ _ | refine Ext.drewN ?_ _ | refine Ext.drew ?_ | refine Ext.trans ?_ (Hid.out (by assumption)))))) (⟨d.c, d.u, xf, d.ts⟩ : SB) _ rfl (news_alloc (cs := SB.cs (⟨d.c, d.u, xf, d.ts⟩ : SB)) rfl) (SB.one _) (by omega) (by decide) (Nat.le_trans (by simp) (Ext.size (show Ext ((w.alloc (.cells #[.int .i64 2, .int .i64 xi.b, .int .u64 xi.l, .int .u64 xi.s, .int .i64 d.c, .int .u64 d.u, .slice xf.a xf.n xf.c, .slice xe.a xe.n xe.c] 31)).alloc (.cells #[.int .i64 d.c, .int .u64 d.u, .slice xf.a xf.n xf.c] 57)) _ from (by (repeat (first | exact Ext.refl _ | refine Ext.alloc ?_ _ | refine Ext.drewN ?_ _ | refine Ext.drew ?_ | refine Ext.trans ?_ (Hid.out (by assumption)))))))) ?_; intro g3 cap3 w3 hown3 hgrow3; have HO3 := hid hown3; have HX3 := hid (hgrow3.ext (hown.out.ext (by (repeat (first | exact Ext.refl _ | refine Ext.alloc ?_ _ | refine Ext.drewN ?_ _ | refine Ext.drew ?_ | refine Ext.trans ?_ (Hid.out (by assumption)))))) (by simp) (show Ext ((w.alloc (.cells #[.int .i64 2, .int .i64 xi.b, .int .u64 xi.l, .int .u64 xi.s, .int .i64 d.c, .int .u64 d.u, .slice xf.a xf.n xf.c, .slice xe.a xe.n xe.c] 31)).alloc (.cells #[.int .i64 d.c, .int .u64 d.u, .slice xf.a xf.n xf.c] 57)) _ from (by (repeat (first | exact Ext.refl _ | refine Ext.alloc ?_ _ | refine Ext.drewN ?_ _ | refine Ext.drew ?_ | refine Ext.trans ?_ (Hid.out (by assumption))))))); clear hown3 hgrow3; obtain ⟨c0, c4, c5, o0, o1, o2⟩ := HCB.out w3 HX3.out; obtain ⟨d0, d1, d2⟩ := HCX.out w3 (Ext.trans (((Ext.refl w).alloc _).alloc _) HX3.out))
          go_quiet (fail)
          go_wp2_with (at_builtin; refine app1 (ys := zs ++ [(⟨d.c, d.u, xf, d.ts⟩ : SB)]) rfl (.tmp 94) (.tmp 99) 34 rfl i0 _ 40 Tryz.underlying34 I1.out I2.out I3.out I4.out rfl (by decide) rfl (HO3.out.ext (by (repeat (first | exact Ext.refl _ | refine Ext.alloc ?_ _ | refine Ext.drewN ?_ _ | refine Ext.drew ?_ | refine Ext.trans ?_ (Hid.out (by assumption)))))) xs[k] _ rfl (news_alloc (cs := SB.cs xs[k]) rfl) (SB.one _) (by omega) (by decide) (Nat.le_trans (by simp) (Ext.size (show Ext ((w.alloc (.cells #[.int .i64 2, .int .i64 xi.b, .int .u64 xi.l, .int .u64 xi.s, .int .i64 d.c, .int .u64 d.u, .slice xf.a xf.n xf.c, .slice xe.a xe.n xe.c] 31)).alloc (.cells #[.int .i64 d.c, .int .u64 d.u, .slice xf.a xf.n xf.c] 57)) _ from (by (repeat (first | exact Ext.refl _ | refine Ext.alloc ?_ _ | refine Ext.drewN ?_ _ | refine Ext.drew ?_ | refine Ext.trans ?_ (Hid.out (by assumption)))))))) ?_; intro g4 cap4 w4 hown4 hgrow4; have HO4 := hid hown4; have HX4 := hid (hgrow4.ext (HO3.out.ext (by (repeat (first | exact Ext.refl _ | refine Ext.alloc ?_ _ | refine Ext.drewN ?_ _ | refine Ext.drew ?_ | refine Ext.trans ?_ (Hid.out (by assumption)))))) (by simp) (show Ext ((w.alloc (.cells #[.int .i64 2, .int .i64 xi.b, .int .u64 xi.l, .int .u64 xi.s, .int .i64 d.c, .int .u64 d.u, .slice xf.a xf.n xf.c, .slice xe.a xe.n xe.c] 31)).alloc (.cells #[.int .i64 d.c, .int .u64 d.u, .slice xf.a xf.n xf.c] 57)) _ from (by (repeat (first | exact Ext.refl _ | refine Ext.alloc ?_ _ | refine Ext.drewN ?_ _ | refine Ext.drew ?_ | refine Ext.trans ?_ (Hid.out (by assumption))))))); clear hown4 hgrow4; obtain ⟨c0, c4, c5, o0, o1, o2⟩ := HCB.out w4 HX4.out; obtain ⟨d0, d1, d2⟩ := HCX.out w4 (Ext.trans (((Ext.refl w).alloc _).alloc _) HX4.out))
          go_roundg (gk - 1)
          case measure => omega
          case rel => exact ⟨k + 1, _, _, _, _, _, by omega, by go_num, rfl, rfl, hid (by rw [HP.out]; exact laid_ge (Int.le_of_lt HSD.out)), HO4.out, hid (by rw [List.map_append, List.map_append, hz.out, HP.out, out_hi' HSD.out hl.out.symm]; rfl), hid (mem_snoc (mem_snoc hts.out HF.out) (HS.out.ts xs[k] (List.getElem_mem hk))), (by (repeat (first | exact Ext.refl _ | refine Ext.alloc ?_ _ | refine Ext.drewN ?_ _ | refine Ext.drew ?_ | refine Ext.trans ?_ (Hid.out (by assumption)))))⟩
      | true =>
        have hgt := laid_hi HR.out HK.out hl.out.symm
        rcases Int.lt_trichotomy xs[k].c d.c with h | h | h
        · exact absurd ((side_of (s := xs[k]) (c := d.c) (u := d.u)).1 h) (by omega)
        · rcases Int.lt_trichotomy xs[k].u d.u with h' | h' | h'
          · exact absurd (((side_of (s := xs[k]) (c := d.c) (u := d.u)).2.2 h).1 h') (by omega)
          · exact absurd (((side_of (s := xs[k]) (c := d.c) (u := d.u)).2.2 h).2.2 h') (by omega)
          · clear hgt
            have g1 : decide (d.c < xs[k].c) = false := by simp; omega
            have g2 : (xs[k].c == d.c) = true := by simp; omega
            have g3 : decide (d.u ≤ xs[k].u) = true := by simp; omega
            have g4 : (xs[k].u == d.u) = false := by simp; omega
            have HSD := hid (((side_of (s := xs[k]) (c := d.c) (u := d.u)).2.2 h).2.1 h')
            clear h h'
            go_wp2_with fail
            go_quiet (fail)
            go_wp2_with fail
            go_quiet (fail)
            go_wp2_with (at_builtin; refine app1 (ys := zs) rfl (.tmp 94) (.tmp 99) 34 rfl i0 _ 40 Tryz.underlying34 I1.out I2.out I3.out I4.out rfl (by decide) rfl (hown.out.ext (by (repeat (first | exact Ext.refl _ | refine Ext.alloc ?_ _ | refine Ext.drewN ?_ _ | refine Ext.drew ?_ | refine Ext.trans ?_ (Hid.out (by assumption)))))) xs[k] _ rfl (news_alloc (cs := SB.cs xs[k]) rfl) (SB.one _) (by omega) (by decide) (Nat.le_trans (by simp) (Ext.size (show Ext ((w.alloc (.cells #[.int .i64 2, .int .i64 xi.b, .int .u64 xi.l, .int .u64 xi.s, .int .i64 d.c, .int .u64 d.u, .slice xf.a xf.n xf.c, .slice xe.a xe.n xe.c] 31)).alloc (.cells #[.int .i64 d.c, .int .u64 d.u, .slice xf.a xf.n xf.c] 57)) _ from (by (repeat (first | exact Ext.refl _ | refine Ext.alloc ?_ _ | refine Ext.drewN ?_ _ | refine Ext.drew ?_ | refine Ext.trans ?_ (Hid.out (by assumption)))))))) ?_; intro g4 cap4 w4 hown4 hgrow4; have HO4 := hid hown4; have HX4 := hid (hgrow4.ext (hown.out.ext (by (repeat (first | exact Ext.refl _ | refine Ext.alloc ?_ _ | refine Ext.drewN ?_ _ | refine Ext.drew ?_ | refine Ext.trans ?_ (Hid.out (by assumption)))))) (by simp) (show Ext ((w.alloc (.cells #[.int .i64 2, .int .i64 xi.b, .int .u64 xi.l, .int .u64 xi.s, .int .i64 d.c, .int .u64 d.u, .slice xf.a xf.n xf.c, .slice xe.a xe.n xe.c] 31)).alloc (.cells #[.int .i64 d.c, .int .u64 d.u, .slice xf.a xf.n xf.c] 57)) _ from (by (repeat (first | exact Ext.refl _ | refine Ext.alloc ?_ _ | refine Ext.drewN ?_ _ | refine Ext.drew ?_ | refine Ext.trans ?_ (Hid.out (by assumption))))))); clear hown4 hgrow4; obtain ⟨c0, c4, c5, o0, o1, o2⟩ := HCB.out w4 HX4.out; obtain ⟨d0, d1, d2⟩ := HCX.out w4 (Ext.trans (((Ext.refl w).alloc _).alloc _) HX4.out))
            go_roundg (gk - 1)
            case measure => omega
            case rel => exact ⟨k + 1, _, _, _, _, _, by omega, by go_num, rfl, rfl, hid (by rw [HP.out]; exact laid_ge (Int.le_of_lt HSD.out)), HO4.out, hid (by rw [List.map_append, hz.out, HP.out, out_hi HSD.out hl.out.symm]; rfl), (hid (mem_snoc hts.out (HS.out.ts xs[k] (List.getElem_mem hk)))), (by (repeat (first | exact Ext.refl _ | refine Ext.alloc ?_ _ | refine Ext.drewN ?_ _ | refine Ext.drew ?_ | refine Ext.trans ?_ (Hid.out (by assumption)))))⟩
        · clear hgt
          have g1 : decide (d.c < xs[k].c) = true := by simp; omega
          have g2 : (xs[k].c == d.c) = false := by simp; omega
          have HSD := hid ((side_of (s := xs[k]) (c := d.c) (u := d.u)).2.1 h)
          clear h
          go_wp2_with fail
          go_quiet (fail)
          go_wp2_with fail
          go_quiet (fail)
          go_wp2_with (at_builtin; refine app1 (ys := zs) rfl (.tmp 94) (.tmp 99) 34 rfl i0 _ 40 Tryz.underlying34 I1.out I2.out I3.out I4.out rfl (by decide) rfl (hown.out.ext (by (repeat (first | exact Ext.refl _ | refine Ext.alloc ?_ _ | refine Ext.drewN ?_ _ | refine Ext.drew ?_ | refine Ext.trans ?_ (Hid.out (by assumption)))))) xs[k] _ rfl (news_alloc (cs := SB.cs xs[k]) rfl) (SB.one _) (by omega) (by decide) (Nat.le_trans (by simp) (Ext.size (show Ext ((w.alloc (.cells #[.int .i64 2, .int .i64 xi.b, .int .u64 xi.l, .int .u64 xi.s, .int .i64 d.c, .int .u64 d.u, .slice xf.a xf.n xf.c, .slice xe.a xe.n xe.c] 31)).alloc (.cells #[.int .i64 d.c, .int .u64 d.u, .slice xf.a xf.n xf.c] 57)) _ from (by (repeat (first | exact Ext.refl _ | refine Ext.alloc ?_ _ | refine Ext.drewN ?_ _ | refine Ext.drew ?_ | refine Ext.trans ?_ (Hid.out (by assumption)))))))) ?_; intro g4 cap4 w4 hown4 hgrow4; have HO4 := hid hown4; have HX4 := hid (hgrow4.ext (hown.out.ext (by (repeat (first | exact Ext.refl _ | refine Ext.alloc ?_ _ | refine Ext.drewN ?_ _ | refine Ext.drew ?_ | refine Ext.trans ?_ (Hid.out (by assumption)))))) (by simp) (show Ext ((w.alloc (.cells #[.int .i64 2, .int .i64 xi.b, .int .u64 xi.l, .int .u64 xi.s, .int .i64 d.c, .int .u64 d.u, .slice xf.a xf.n xf.c, .slice xe.a xe.n xe.c] 31)).alloc (.cells #[.int .i64 d.c, .int .u64 d.u, .slice xf.a xf.n xf.c] 57)) _ from (by (repeat (first | exact Ext.refl _ | refine Ext.alloc ?_ _ | refine Ext.drewN ?_ _ | refine Ext.drew ?_ | refine Ext.trans ?_ (Hid.out (by assumption))))))); clear hown4 hgrow4; obtain ⟨c0, c4, c5, o0, o1, o2⟩ := HCB.out w4 HX4.out; obtain ⟨d0, d1, d2⟩ := HCX.out w4 (Ext.trans (((Ext.refl w).alloc _).alloc _) HX4.out))
          go_roundg (gk - 1)
          case measure => omega
          case rel => exact ⟨k + 1, _, _, _, _, _, by omega, by go_num, rfl, rfl, hid (by rw [HP.out]; exact laid_ge (Int.le_of_lt HSD.out)), HO4.out, hid (by rw [List.map_append, hz.out, HP.out, out_hi HSD.out hl.out.symm]; rfl), (hid (mem_snoc hts.out (HS.out.ts xs[k] (List.getElem_mem hk)))), (by (repeat (first | exact Ext.refl _ | refine Ext.alloc ?_ _ | refine Ext.drewN ?_ _ | refine Ext.drew ?_ | refine Ext.trans ?_ (Hid.out (by assumption)))))⟩
    · have hk' : xs.take k = xs := List.take_of_length_le (by omega)
      rw [hk'] at hl hz
      clear hk'
      cases lb with
      | true =>
        go_wp2
        go_ret
        exact ⟨aa, m, cp, zs, rfl, ⟨hown.out.sl, fun z hz' => (hts.out z hz').ext (Ext.trans (((Ext.refl w).alloc _).alloc _) hx.out)⟩, hz.out.trans (out_end hl.out.symm), Ext.trans (((Ext.refl w).alloc _).alloc _) hx.out⟩
      | false =>
        have HCX : Hid (∀ wx : World, Ext w wx → True ∧ True ∧ True) := fun _ _ => ⟨trivial, trivial, trivial⟩
        go_wp2_with (at_builtin; refine app1 (ys := zs) rfl (.tmp 103) (.tmp 105) 34 rfl i0 _ 40 Tryz.underlying34 I1.out I2.out I3.out I4.out rfl (by decide) rfl (hown.out.ext (by (repeat (first | exact Ext.refl _ | refine Ext.alloc ?_ _ | refine Ext.drewN ?_ _ | refine Ext.drew ?_ | refine Ext.trans ?_ (Hid.out (by assumption)))))) (⟨d.c, d.u, xf, d.ts⟩ : SB) _ rfl (news_alloc (cs := SB.cs (⟨d.c, d.u, xf, d.ts⟩ : SB)) rfl) (SB.one _) (by omega) (by decide) (Nat.le_trans (by simp) (Ext.size (show Ext ((w.alloc (.cells #[.int .i64 2, .int .i64 xi.b, .int .u64 xi.l, .int .u64 xi.s, .int .i64 d.c, .int .u64 d.u, .slice xf.a xf.n xf.c, .slice xe.a xe.n xe.c] 31)).alloc (.cells #[.int .i64 d.c, .int .u64 d.u, .slice xf.a xf.n xf.c] 57)) _ from (by (repeat (first | exact Ext.refl _ | refine Ext.alloc ?_ _ | refine Ext.drewN ?_ _ | refine Ext.drew ?_ | refine Ext.trans ?_ (Hid.out (by assumption)))))))) ?_; intro g3 cap3 w3 hown3 hgrow3; have HO3 := hid hown3; have HX3 := hid (hgrow3.ext (hown.out.ext (by (repeat (first | exact Ext.refl _ | refine Ext.alloc ?_ _ | refine Ext.drewN ?_ _ | refine Ext.drew ?_ | refine Ext.trans ?_ (Hid.out (by assumption)))))) (by simp) (show Ext ((w.alloc (.cells #[.int .i64 2, .int .i64 xi.b, .int .u64 xi.l, .int .u64 xi.s, .int .i64 d.c, .int .u64 d.u, .slice xf.a xf.n xf.c, .slice xe.a xe.n xe.c] 31)).alloc (.cells #[.int .i64 d.c, .int .u64 d.u, .slice xf.a xf.n xf.c] 57)) _ from (by (repeat (first | exact Ext.refl _ | refine Ext.alloc ?_ _ | refine Ext.drewN ?_ _ | refine Ext.drew ?_ | refine Ext.trans ?_ (Hid.out (by assumption))))))); clear hown3 hgrow3; obtain ⟨c0, c4, c5, o0, o1, o2⟩ := HCB.out w3 HX3.out; obtain ⟨d0, d1, d2⟩ := HCX.out w3 (Ext.trans (((Ext.refl w).alloc _).alloc _) HX3.out))
        go_ret
        exact ⟨_, _, _, _, rfl, ⟨HO3.out.sl, fun z hz' => (mem_snoc (Q := fun z : SB => Sl w 5 T.cs z.f.a z.f.n z.f.c z.ts) hts.out HF.out z hz').ext (Ext.trans (((Ext.refl w).alloc _).alloc _) HX3.out)⟩, by rw [List.map_append, hz.out]; exact out_end' hl.out.symm, Ext.trans (((Ext.refl w).alloc _).alloc _) HX3.out⟩
set_option maxRecDepth 100000 in
set_option maxHeartbeats 8000000 in
theorem rapply3_any (a : Option Addr) (n cap : Nat) (xs : List SB) (x : EV) (d : ED) (w : World) (hS : Subs w a n cap xs) (hI : EntryIs w x d) (hn : n ≤ 1000) (hR : risesD (xs.map SB.d)) (hk : d.k = 3) :
    Calls Tryz.prog 8 #[.slice a n cap, .agg #[.int .i64 x.k, .int .i64 x.id.b, .int .u64 x.id.l, .int .u64 x.id.s, .int .i64 x.c, .int .u64 x.u, .slice x.f.a x.f.n x.f.c, .slice x.e.a x.e.n x.e.c]] w (RetSubs (applyD (xs.map SB.d) d) w) := by
  obtain ⟨i0, hi, hz0, hz1, hz2⟩ := info_parts infoS
  have I1 := hid hi
  have I2 := hid hz0
  have I3 := hid hz1
  have I4 := hid hz2
  obtain ⟨xk, xi, xc, xu, xf, xe⟩ := x
  have hkx : xk = d.k := hI.k
  obtain rfl : xc = d.c := hI.c
  obtain rfl : xu = d.u := hI.u
  have HF := hid (show Sl w 5 T.cs xf.a xf.n xf.c d.ts from hI.f)
  obtain rfl := hS.sl.neq
  have hm := hS.sl.max
  have hl := hS.sl.len
  unfold maxLen at hm
  have HS := hid hS
  have HRR := hid hR
  clear hS hI hi hz0 hz1 hz2 hR
  dsimp only at hkx ⊢
  obtain rfl : xk = 3 := hkx.trans hk
  have HK := hid (show ¬ d.k = 2 by omega)
  have HKD := hid (show d.k = 2 ∨ d.k = 3 from .inr hk)
  clear hk hkx
  go_enter Tryz.func8, Tryz.ntmps8
  go_wp2_with fail
  have HCB : Hid (∀ wx : World, Ext ((w.alloc (.cells #[.int .i64 3, .int .i64 xi.b, .int .u64 xi.l, .int .u64 xi.s, .int .i64 d.c, .int .u64 d.u, .slice xf.a xf.n xf.c, .slice xe.a xe.n xe.c] 31)).alloc (.cells #[.int .i64 d.c, .int .u64 d.u, .slice xf.a xf.n xf.c] 57)) wx → wx.cell? ⟨w.heap.size, 0, none⟩ = some (.int .i64 3) ∧ wx.cell? ⟨w.heap.size, 4, none⟩ = some (.int .i64 d.c) ∧ wx.cell? ⟨w.heap.size, 5, none⟩ = some (.int .u64 d.u) ∧ wx.cell? ⟨w.heap.size + 1, 0, none⟩ = some (.int .i64 d.c) ∧ wx.cell? ⟨w.heap.size + 1, 1, none⟩ = some (.int .u64 d.u) ∧ wx.cell? ⟨w.heap.size + 1, 2, none⟩ = some (.slice xf.a xf.n xf.c)) := fun wx h => ⟨h.keep (by simp), h.keep (by simp), h.keep (by simp), h.keep (by simp), h.keep (by simp), h.keep (by simp)⟩
  go_loopg [5, 6, 8, 9, 10] (xs.length) (fun g ov lv st bv sv wr => ∃ (k : Nat) (aa : Option Addr) (m cp : Nat) (zs : List SB) (lb : Bool), g + k = xs.length ∧ st = .int .i64 k ∧ ov = .slice aa m cp ∧ lv = .bool lb ∧ Hid (lb = laidK d ((xs.take k).map SB.d)) ∧ Hid (Own wr (w.heap.size + 2) 57 3 SB.cs aa m cp zs) ∧ Hid (zs.map SB.d = outK d ((xs.take k).map SB.d)) ∧ Hid (∀ z, z ∈ zs → Sl w 5 T.cs z.f.a z.f.n z.f.c z.ts) ∧ Hid (Ext ((w.alloc (.cells #[.int .i64 3, .int .i64 xi.b, .int .u64 xi.l, .int .u64 xi.s, .int .i64 d.c, .int .u64 d.u, .slice xf.a xf.n xf.c, .slice xe.a xe.n xe.c] 31)).alloc (.cells #[.int .i64 d.c, .int .u64 d.u, .slice xf.a xf.n xf.c] 57)) wr))
  case atStart => exact ⟨0, none, 0, 0, [], true, by omega, rfl, rfl, rfl, hid (by unfold laidK; simp [HK.out]), Own.nil _ _ _ SB.wid, hid (by simp [outK]), hid (fun z hz => by cases hz), Ext.refl _⟩
  case round =>
    obtain ⟨k, aa, m, cp, zs, lb, hg, rfl, rfl, rfl, hl, hown, hz, hts, hx⟩ := hrel
    obtain ⟨c0, c4, c5, o0, o1, o2⟩ := HCB.out wr hx.out
    have hkl : k ≤ xs.length := by omega
    have hmm : m ≤ 1001 := by
      have h1 := outK_len d ((xs.take k).map SB.d)
      rw [← hz.out, List.length_map, List.length_map] at h1
      have h2 := hown.out.neq
      have h3 := List.length_take_le k xs
      omega
    obtain rfl : lb = true := hl.out.trans (laid_not HK.out)
    by_cases hk : k < xs.length
    · skip
      obtain ⟨b, o, rfl, hc⟩ := HS.out.sl.get k hk
      have hcx := fun (wx : World) (hw : Ext w wx) => cellsSB (w := wx) (b := b) (o := o + k * 3) (x := xs[k]) (fun j v hj => hw.keep (hc j v hj))
      have HCX := hid hcx
      obtain ⟨d0, d1, d2⟩ := hcx wr (Ext.trans (((Ext.refl w).alloc _).alloc _) hx.out)
      clear hc hcx
      have HP := hid (show (xs.take (k + 1)).map SB.d = ((xs.take k).map SB.d) ++ [xs[k].d] from by rw [List.take_succ_eq_append_getElem hk, List.map_append]; rfl)
      have HR := hid (show ∀ a, a ∈ ((xs.take k).map SB.d) → ltS a xs[k].d from fun a ha => by have h1 := rises_take HRR.out (k := k) (by rw [List.length_map]; exact hk) a (by rw [← List.map_take]; exact ha); rwa [List.getElem_map] at h1)
      have b0 : (0 : Int) ≤ (k : Int) := by omega
      have b1 : (k : Int) < (xs.length : Int) := by omega
      rcases Int.lt_trichotomy xs[k].c d.c with h | h | h
      · skip
        have g1 : decide (d.c < xs[k].c) = false := by simp; omega
        have g2 : (xs[k].c == d.c) = false := by simp; omega
        have HSD := hid ((side_of (s := xs[k]) (c := d.c) (u := d.u)).1 h)
        clear h
        go_wp2_with fail
        go_quiet (fail)
        go_wp2_with fail
        go_quiet (fail)
        go_wp2_with (at_builtin; refine app1 (ys := zs) rfl (.tmp 94) (.tmp 99) 34 rfl i0 _ 40 Tryz.underlying34 I1.out I2.out I3.out I4.out rfl (by decide) rfl (hown.out.ext (by (repeat (first | exact Ext.refl _ | refine Ext.alloc ?_ _ | refine Ext.drewN ?_ _ | refine Ext.drew ?_ | refine Ext.trans ?_ (Hid.out (by assumption)))))) xs[k] _ rfl (news_alloc (cs := SB.cs xs[k]) rfl) (SB.one _) (by omega) (by decide) (Nat.le_trans (by simp) (Ext.size (show Ext ((w.alloc (.cells #[.int .i64 3, .int .i64 xi.b, .int .u64 xi.l, .int .u64 xi.s, .int .i64 d.c, .int .u64 d.u, .slice xf.a xf.n xf.c, .slice xe.a xe.n xe.c] 31)).alloc (.cells #[.int .i64 d.c, .int .u64 d.u, .slice xf.a xf.n xf.c] 57)) _ from (by (repeat (first | exact Ext.refl _ | refine Ext.alloc ?_ _ | refine Ext.drewN ?_ _ | refine Ext.drew ?_ | refine Ext.trans ?_ (Hid.out (by assumption)))))))) ?_; intro g4 cap4 w4 hown4 hgrow4; have HO4 := hid hown4; have HX4 := hid (hgrow4.ext (hown.out.ext (by (repeat (first | exact Ext.refl _ | refine Ext.alloc ?_ _ | refine Ext.drewN ?_ _ | refine Ext.drew ?_ | refine Ext.trans ?_ (Hid.out (by assumption)))))) (by simp) (show Ext ((w.alloc (.cells #[.int .i64 3, .int .i64 xi.b, .int .u64 xi.l, .int .u64 xi.s, .int .i64 d.c, .int .u64 d.u, .slice xf.a xf.n xf.c, .slice xe.a xe.n xe.c] 31)).alloc (.cells #[.int .i64 d.c, .int .u64 d.u, .slice xf.a xf.n xf.c] 57)) _ from (by (repeat (first | exact Ext.refl _ | refine Ext.alloc ?_ _ | refine Ext.drewN ?_ _ | refine Ext.drew ?_ | refine Ext.trans ?_ (Hid.out (by assumption))))))); clear hown4 hgrow4; obtain ⟨c0, c4, c5, o0, o1, o2⟩ := HCB.out w4 HX4.out; obtain ⟨d0, d1, d2⟩ := HCX.out w4 (Ext.trans (((Ext.refl w).alloc _).alloc _) HX4.out))
        go_roundg (gk - 1)
        case measure => omega
        case rel => exact ⟨k + 1, _, _, _, _, _, by omega, by go_num, rfl, rfl, hid (by rw [HP.out, laid_lo HSD.out]; exact hl.out), HO4.out, hid (by rw [List.map_append, hz.out, HP.out, out_lo HR.out HSD.out]; rfl), (hid (mem_snoc hts.out (HS.out.ts xs[k] (List.getElem_mem hk)))), (by (repeat (first | exact Ext.refl _ | refine Ext.alloc ?_ _ | refine Ext.drewN ?_ _ | refine Ext.drew ?_ | refine Ext.trans ?_ (Hid.out (by assumption)))))⟩
      · rcases Int.lt_trichotomy xs[k].u d.u with h' | h' | h'
        · skip
          have g1 : decide (d.c < xs[k].c) = false := by simp; omega
          have g2 : (xs[k].c == d.c) = true := by simp; omega
          have g3 : decide (d.u ≤ xs[k].u) = false := by simp; omega
          have g4 : (xs[k].u == d.u) = false := by simp; omega
          have HSD := hid (((side_of (s := xs[k]) (c := d.c) (u := d.u)).2.2 h).1 h')
          clear h h'
          go_wp2_with fail
          go_quiet (fail)
          go_wp2_with fail
          go_quiet (fail)
          go_wp2_with (at_builtin; refine app1 (ys := zs) rfl (.tmp 94) (.tmp 99) 34 rfl i0 _ 40 Tryz.underlying34 I1.out I2.out I3.out I4.out rfl (by decide) rfl (hown.out.ext (by (repeat (first | exact Ext.refl _ | refine Ext.alloc ?_ _ | refine Ext.drewN ?_ _ | refine Ext.drew ?_ | refine Ext.trans ?_ (Hid.out (by assumption)))))) xs[k] _ rfl (news_alloc (cs := SB.cs xs[k]) rfl) (SB.one _) (by omega) (by decide) (Nat.le_trans (by simp) (Ext.size (show Ext ((w.alloc (.cells #[.int .i64 3, .int .i64 xi.b, .int .u64 xi.l, .int .u64 xi.s, .int .i64 d.c, .int .u64 d.u, .slice xf.a xf.n xf.c, .slice xe.a xe.n xe.c] 31)).alloc (.cells #[.int .i64 d.c, .int .u64 d.u, .slice xf.a xf.n xf.c] 57)) _ from (by (repeat (first | exact Ext.refl _ | refine Ext.alloc ?_ _ | refine Ext.drewN ?_ _ | refine Ext.drew ?_ | refine Ext.trans ?_ (Hid.out (by assumption)))))))) ?_; intro g4 cap4 w4 hown4 hgrow4; have HO4 := hid hown4; have HX4 := hid (hgrow4.ext (hown.out.ext (by (repeat (first | exact Ext.refl _ | refine Ext.alloc ?_ _ | refine Ext.drewN ?_ _ | refine Ext.drew ?_ | refine Ext.trans ?_ (Hid.out (by assumption)))))) (by simp) (show Ext ((w.alloc (.cells #[.int .i64 3, .int .i64 xi.b, .int .u64 xi.l, .int .u64 xi.s, .int .i64 d.c, .int .u64 d.u, .slice xf.a xf.n xf.c, .slice xe.a xe.n xe.c] 31)).alloc (.cells #[.int .i64 d.c, .int .u64 d.u, .slice xf.a xf.n xf.c] 57)) _ from (by (repeat (first | exact Ext.refl _ | refine Ext.alloc ?_ _ | refine Ext.drewN ?_ _ | refine Ext.drew ?_ | refine Ext.trans ?_ (Hid.out (by assumption))))))); clear hown4 hgrow4; obtain ⟨c0, c4, c5, o0, o1, o2⟩ := HCB.out w4 HX4.out; obtain ⟨d0, d1, d2⟩ := HCX.out w4 (Ext.trans (((Ext.refl w).alloc _).alloc _) HX4.out))
          go_roundg (gk - 1)
          case measure => omega
          case rel => exact ⟨k + 1, _, _, _, _, _, by omega, by go_num, rfl, rfl, hid (by rw [HP.out, laid_lo HSD.out]; exact hl.out), HO4.out, hid (by rw [List.map_append, hz.out, HP.out, out_lo HR.out HSD.out]; rfl), (hid (mem_snoc hts.out (HS.out.ts xs[k] (List.getElem_mem hk)))), (by (repeat (first | exact Ext.refl _ | refine Ext.alloc ?_ _ | refine Ext.drewN ?_ _ | refine Ext.drew ?_ | refine Ext.trans ?_ (Hid.out (by assumption)))))⟩
        · skip
          have g1 : decide (d.c < xs[k].c) = false := by simp; omega
          have g2 : (xs[k].c == d.c) = true := by simp; omega
          have g3 : decide (d.u ≤ xs[k].u) = true := by simp; omega
          have g4 : (xs[k].u == d.u) = true := by simp; omega
          have HSD := hid (((side_of (s := xs[k]) (c := d.c) (u := d.u)).2.2 h).2.2 h')
          clear h h'
          go_wp2_with fail
          go_quiet (fail)
          go_wp2_with fail
          go_quiet (fail)
          go_wp2_with fail
          go_roundg (gk - 1)
          case measure => omega
          case rel => exact ⟨k + 1, _, _, _, _, _, by omega, by go_num, rfl, rfl, hid (by rw [HP.out]; exact laid_ge (Int.le_of_eq HSD.out.symm)), hown.out.ext (by (repeat (first | exact Ext.refl _ | refine Ext.alloc ?_ _ | refine Ext.drewN ?_ _ | refine Ext.drew ?_ | refine Ext.trans ?_ (Hid.out (by assumption))))), hid (by rw [hz.out, HP.out, out_eq HR.out HSD.out HKD.out, ← hl.out]; simp), hts.out, (by (repeat (first | exact Ext.refl _ | refine Ext.alloc ?_ _ | refine Ext.drewN ?_ _ | refine Ext.drew ?_ | refine Ext.trans ?_ (Hid.out (by assumption)))))⟩
        · skip
          have g1 : decide (d.c < xs[k].c) = false := by simp; omega
          have g2 : (xs[k].c == d.c) = true := by simp; omega
          have g3 : decide (d.u ≤ xs[k].u) = true := by simp; omega
          have g4 : (xs[k].u == d.u) = false := by simp; omega
          have HSD := hid (((side_of (s := xs[k]) (c := d.c) (u := d.u)).2.2 h).2.1 h')
          clear h h'
          go_wp2_with fail
          go_quiet (fail)
          go_wp2_with fail
          go_quiet (fail)
          go_wp2_with (at_builtin; refine app1 (ys := zs) rfl (.tmp 94) (.tmp 99) 34 rfl i0 _ 40 Tryz.underlying34 I1.out I2.out I3.out I4.out rfl (by decide) rfl (hown.out.ext (by (repeat (first | exact Ext.refl _ | refine Ext.alloc ?_ _ | refine Ext.drewN ?_ _ | refine Ext.drew ?_ | refine Ext.trans ?_ (Hid.out (by assumption)))))) xs[k] _ rfl (news_alloc (cs := SB.cs xs[k]) rfl) (SB.one _) (by omega) (by decide) (Nat.le_trans (by simp) (Ext.size (show Ext ((w.alloc (.cells #[.int .i64 3, .int .i64 xi.b, .int .u64 xi.l, .int .u64 xi.s, .int .i64 d.c, .int .u64 d.u, .slice xf.a xf.n xf.c, .slice xe.a xe.n xe.c] 31)).alloc (.cells #[.int .i64 d.c, .int .u64 d.u, .slice xf.a xf.n xf.c] 57)) _ from (by (repeat (first | exact Ext.refl _ | refine Ext.alloc ?_ _ | refine Ext.drewN ?_ _ | refine Ext.drew ?_ | refine Ext.trans ?_ (Hid.out (by assumption)))))))) ?_; intro g4 cap4 w4 hown4 hgrow4; have HO4 := hid hown4; have HX4 := hid (hgrow4.ext (hown.out.ext (by (repeat (first | exact Ext.refl _ | refine Ext.alloc ?_ _ | refine Ext.drewN ?_ _ | refine Ext.drew ?_ | refine Ext.trans ?_ (Hid.out (by assumption)))))) (by simp) (show Ext ((w.alloc (.cells #[.int .i64 3, .int .i64 xi.b, .int .u64 xi.l, .int .u64 xi.s, .int .i64 d.c, .int .u64 d.u, .slice xf.a xf.n xf.c, .slice xe.a xe.n xe.c] 31)).alloc (.cells #[.int .i64 d.c, .int .u64 d.u, .slice xf.a xf.n xf.c] 57)) _ from (by (repeat (first | exact Ext.refl _ | refine Ext.alloc ?_ _ | refine Ext.drewN ?_ _ | refine Ext.drew ?_ | refine Ext.trans ?_ (Hid.out (by assumption))))))); clear hown4 hgrow4; obtain ⟨c0, c4, c5, o0, o1, o2⟩ := HCB.out w4 HX4.out; obtain ⟨d0, d1, d2⟩ := HCX.out w4 (Ext.trans (((Ext.refl w).alloc _).alloc _) HX4.out))
          go_roundg (gk - 1)
          case measure => omega
          case rel => exact ⟨k + 1, _, _, _, _, _, by omega, by go_num, rfl, rfl, hid (by rw [HP.out]; exact laid_ge (Int.le_of_lt HSD.out)), HO4.out, hid (by rw [List.map_append, hz.out, HP.out, out_hi HSD.out hl.out.symm]; rfl), (hid (mem_snoc hts.out (HS.out.ts xs[k] (List.getElem_mem hk)))), (by (repeat (first | exact Ext.refl _ | refine Ext.alloc ?_ _ | refine Ext.drewN ?_ _ | refine Ext.drew ?_ | refine Ext.trans ?_ (Hid.out (by assumption)))))⟩
      · skip
        have g1 : decide (d.c < xs[k].c) = true := by simp; omega
        have g2 : (xs[k].c == d.c) = false := by simp; omega
        have HSD := hid ((side_of (s := xs[k]) (c := d.c) (u := d.u)).2.1 h)
        clear h
        go_wp2_with fail
        go_quiet (fail)
        go_wp2_with fail
        go_quiet (fail)
        go_wp2_with (at_builtin; refine app1 (ys := zs) rfl (.tmp 94) (.tmp 99) 34 rfl i0 _ 40 Tryz.underlying34 I1.out I2.out I3.out I4.out rfl (by decide) rfl (hown.out.ext (by (repeat (first | exact Ext.refl _ | refine Ext.alloc ?_ _ | refine Ext.drewN ?_ _ | refine Ext.drew ?_ | refine Ext.trans ?_ (Hid.out (by assumption)))))) xs[k] _ rfl (news_alloc (cs := SB.cs xs[k]) rfl) (SB.one _) (by omega) (by decide) (Nat.le_trans (by simp) (Ext.size (show Ext ((w.alloc (.cells #[.int .i64 3, .int .i64 xi.b, .int .u64 xi.l, .int .u64 xi.s, .int .i64 d.c, .int .u64 d.u, .slice xf.a xf.n xf.c, .slice xe.a xe.n xe.c] 31)).alloc (.cells #[.int .i64 d.c, .int .u64 d.u, .slice xf.a xf.n xf.c] 57)) _ from (by (repeat (first | exact Ext.refl _ | refine Ext.alloc ?_ _ | refine Ext.drewN ?_ _ | refine Ext.drew ?_ | refine Ext.trans ?_ (Hid.out (by assumption)))))))) ?_; intro g4 cap4 w4 hown4 hgrow4; have HO4 := hid hown4; have HX4 := hid (hgrow4.ext (hown.out.ext (by (repeat (first | exact Ext.refl _ | refine Ext.alloc ?_ _ | refine Ext.drewN ?_ _ | refine Ext.drew ?_ | refine Ext.trans ?_ (Hid.out (by assumption)))))) (by simp) (show Ext ((w.alloc (.cells #[.int .i64 3, .int .i64 xi.b, .int .u64 xi.l, .int .u64 xi.s, .int .i64 d.c, .int .u64 d.u, .slice xf.a xf.n xf.c, .slice xe.a xe.n xe.c] 31)).alloc (.cells #[.int .i64 d.c, .int .u64 d.u, .slice xf.a xf.n xf.c] 57)) _ from (by (repeat (first | exact Ext.refl _ | refine Ext.alloc ?_ _ | refine Ext.drewN ?_ _ | refine Ext.drew ?_ | refine Ext.trans ?_ (Hid.out (by assumption))))))); clear hown4 hgrow4; obtain ⟨c0, c4, c5, o0, o1, o2⟩ := HCB.out w4 HX4.out; obtain ⟨d0, d1, d2⟩ := HCX.out w4 (Ext.trans (((Ext.refl w).alloc _).alloc _) HX4.out))
        go_roundg (gk - 1)
        case measure => omega
        case rel => exact ⟨k + 1, _, _, _, _, _, by omega, by go_num, rfl, rfl, hid (by rw [HP.out]; exact laid_ge (Int.le_of_lt HSD.out)), HO4.out, hid (by rw [List.map_append, hz.out, HP.out, out_hi HSD.out hl.out.symm]; rfl), (hid (mem_snoc hts.out (HS.out.ts xs[k] (List.getElem_mem hk)))), (by (repeat (first | exact Ext.refl _ | refine Ext.alloc ?_ _ | refine Ext.drewN ?_ _ | refine Ext.drew ?_ | refine Ext.trans ?_ (Hid.out (by assumption)))))⟩
    · have hk' : xs.take k = xs := List.take_of_length_le (by omega)
      rw [hk'] at hl hz
      clear hk'
      go_wp2
      go_ret
      exact ⟨aa, m, cp, zs, rfl, ⟨hown.out.sl, fun z hz' => (hts.out z hz').ext (Ext.trans (((Ext.refl w).alloc _).alloc _) hx.out)⟩, hz.out.trans (out_end hl.out.symm), Ext.trans (((Ext.refl w).alloc _).alloc _) hx.out⟩
set_option maxRecDepth 100000 in
set_option maxHeartbeats 8000000 in
theorem rapplyO_any (a : Option Addr) (n cap : Nat) (xs : List SB) (x : EV) (d : ED) (w : World) (hS : Subs w a n cap xs) (hI : EntryIs w x d) (hn : n ≤ 1000) (hR : risesD (xs.map SB.d)) (k2 : ¬ d.k = 2) (k3 : ¬ d.k = 3) :
    Calls Tryz.prog 8 #[.slice a n cap, .agg #[.int .i64 x.k, .int .i64 x.id.b, .int .u64 x.id.l, .int .u64 x.id.s, .int .i64 x.c, .int .u64 x.u, .slice x.f.a x.f.n x.f.c, .slice x.e.a x.e.n x.e.c]] w (RetSubs (applyD (xs.map SB.d) d) w) := by
  obtain ⟨i0, hi, hz0, hz1, hz2⟩ := info_parts infoS
  have I1 := hid hi
  have I2 := hid hz0
  have I3 := hid hz1
  have I4 := hid hz2
  obtain ⟨xk, xi, xc, xu, xf, xe⟩ := x
  have hkx : xk = d.k := hI.k
  obtain rfl : xc = d.c := hI.c
  obtain rfl : xu = d.u := hI.u
  have HF := hid (show Sl w 5 T.cs xf.a xf.n xf.c d.ts from hI.f)
  obtain rfl := hS.sl.neq
  have hm := hS.sl.max
  have hl := hS.sl.len
  unfold maxLen at hm
  have HS := hid hS
  have HRR := hid hR
  clear hS hI hi hz0 hz1 hz2 hR
  dsimp only at hkx ⊢
  subst hkx
  have q2 : (d.k == 2) = false := by simpa using k2
  have q3 : (d.k == 3) = false := by simpa using k3
  have q4 : (d.k != 2) = true := by rw [bne, q2]; rfl
  have HK := hid k2
  have HKO := hid (show ¬ (d.k = 2 ∨ d.k = 3) from fun h => h.elim k2 k3)
  clear k2 k3
  go_enter Tryz.func8, Tryz.ntmps8
  go_wp2_with fail
  have HCB : Hid (∀ wx : World, Ext ((w.alloc (.cells #[.int .i64 d.k, .int .i64 xi.b, .int .u64 xi.l, .int .u64 xi.s, .int .i64 d.c, .int .u64 d.u, .slice xf.a xf.n xf.c, .slice xe.a xe.n xe.c] 31)).alloc (.cells #[.int .i64 d.c, .int .u64 d.u, .slice xf.a xf.n xf.c] 57)) wx → wx.cell? ⟨w.heap.size, 0, none⟩ = some (.int .i64 d.k) ∧ wx.cell? ⟨w.heap.size, 4, none⟩ = some (.int .i64 d.c) ∧ wx.cell? ⟨w.heap.size, 5, none⟩ = some (.int .u64 d.u) ∧ wx.cell? ⟨w.heap.size + 1, 0, none⟩ = some (.int .i64 d.c) ∧ wx.cell? ⟨w.heap.size + 1, 1, none⟩ = some (.int .u64 d.u) ∧ wx.cell? ⟨w.heap.size + 1, 2, none⟩ = some (.slice xf.a xf.n xf.c)) := fun wx h => ⟨h.keep (by simp), h.keep (by simp), h.keep (by simp), h.keep (by simp), h.keep (by simp), h.keep (by simp)⟩
  go_loopg [5, 6, 8, 9, 10] (xs.length) (fun g ov lv st bv sv wr => ∃ (k : Nat) (aa : Option Addr) (m cp : Nat) (zs : List SB) (lb : Bool), g + k = xs.length ∧ st = .int .i64 k ∧ ov = .slice aa m cp ∧ lv = .bool lb ∧ Hid (lb = laidK d ((xs.take k).map SB.d)) ∧ Hid (Own wr (w.heap.size + 2) 57 3 SB.cs aa m cp zs) ∧ Hid (zs.map SB.d = outK d ((xs.take k).map SB.d)) ∧ Hid (∀ z, z ∈ zs → Sl w 5 T.cs z.f.a z.f.n z.f.c z.ts) ∧ Hid (Ext ((w.alloc (.cells #[.int .i64 d.k, .int .i64 xi.b, .int .u64 xi.l, .int .u64 xi.s, .int .i64 d.c, .int .u64 d.u, .slice xf.a xf.n xf.c, .slice xe.a xe.n xe.c] 31)).alloc (.cells #[.int .i64 d.c, .int .u64 d.u, .slice xf.a xf.n xf.c] 57)) wr))
  case atStart => exact ⟨0, none, 0, 0, [], true, by omega, rfl, rfl, rfl, hid (by unfold laidK; simp [HK.out]), Own.nil _ _ _ SB.wid, hid (by simp [outK]), hid (fun z hz => by cases hz), Ext.refl _⟩
  case round =>
    obtain ⟨k, aa, m, cp, zs, lb, hg, rfl, rfl, rfl, hl, hown, hz, hts, hx⟩ := hrel
    obtain ⟨c0, c4, c5, o0, o1, o2⟩ := HCB.out wr hx.out
    have hkl : k ≤ xs.length := by omega
    have hmm : m ≤ 1001 := by
      have h1 := outK_len d ((xs.take k).map SB.d)
      rw [← hz.out, List.length_map, List.length_map] at h1
      have h2 := hown.out.neq
      have h3 := List.length_take_le k xs
      omega
    obtain rfl : lb = true := hl.out.trans (laid_not HK.out)
    by_cases hk : k < xs.length
    · skip
      obtain ⟨b, o, rfl, hc⟩ := HS.out.sl.get k hk
      have hcx := fun (wx : World) (hw : Ext w wx) => cellsSB (w := wx) (b := b) (o := o + k * 3) (x := xs[k]) (fun j v hj => hw.keep (hc j v hj))
      have HCX := hid hcx
      obtain ⟨d0, d1, d2⟩ := hcx wr (Ext.trans (((Ext.refl w).alloc _).alloc _) hx.out)
      clear hc hcx
      have HP := hid (show (xs.take (k + 1)).map SB.d = ((xs.take k).map SB.d) ++ [xs[k].d] from by rw [List.take_succ_eq_append_getElem hk, List.map_append]; rfl)
      have HR := hid (show ∀ a, a ∈ ((xs.take k).map SB.d) → ltS a xs[k].d from fun a ha => by have h1 := rises_take HRR.out (k := k) (by rw [List.length_map]; exact hk) a (by rw [← List.map_take]; exact ha); rwa [List.getElem_map] at h1)
      have b0 : (0 : Int) ≤ (k : Int) := by omega
      have b1 : (k : Int) < (xs.length : Int) := by omega
      rcases Int.lt_trichotomy xs[k].c d.c with h | h | h
      · skip
        have g1 : decide (d.c < xs[k].c) = false := by simp; omega
        have g2 : (xs[k].c == d.c) = false := by simp; omega
        have HSD := hid ((side_of (s := xs[k]) (c := d.c) (u := d.u)).1 h)
        clear h
        go_wp2_with fail
        go_quiet (fail)
        go_wp2_with fail
        go_quiet (fail)
        go_wp2_with (at_builtin; refine app1 (ys := zs) rfl (.tmp 94) (.tmp 99) 34 rfl i0 _ 40 Tryz.underlying34 I1.out I2.out I3.out I4.out rfl (by decide) rfl (hown.out.ext (by (repeat (first | exact Ext.refl _ | refine Ext.alloc ?_ _ | refine Ext.drewN ?_ _ | refine Ext.drew ?_ | refine Ext.trans ?_ (Hid.out (by assumption)))))) xs[k] _ rfl (news_alloc (cs := SB.cs xs[k]) rfl) (SB.one _) (by omega) (by decide) (Nat.le_trans (by simp) (Ext.size (show Ext ((w.alloc (.cells #[.int .i64 d.k, .int .i64 xi.b, .int .u64 xi.l, .int .u64 xi.s, .int .i64 d.c, .int .u64 d.u, .slice xf.a xf.n xf.c, .slice xe.a xe.n xe.c] 31)).alloc (.cells #[.int .i64 d.c, .int .u64 d.u, .slice xf.a xf.n xf.c] 57)) _ from (by (repeat (first | exact Ext.refl _ | refine Ext.alloc ?_ _ | refine Ext.drewN ?_ _ | refine Ext.drew ?_ | refine Ext.trans ?_ (Hid.out (by assumption)))))))) ?_; intro g4 cap4 w4 hown4 hgrow4; have HO4 := hid hown4; have HX4 := hid (hgrow4.ext (hown.out.ext (by (repeat (first | exact Ext.refl _ | refine Ext.alloc ?_ _ | refine Ext.drewN ?_ _ | refine Ext.drew ?_ | refine Ext.trans ?_ (Hid.out (by assumption)))))) (by simp) (show Ext ((w.alloc (.cells #[.int .i64 d.k, .int .i64 xi.b, .int .u64 xi.l, .int .u64 xi.s, .int .i64 d.c, .int .u64 d.u, .slice xf.a xf.n xf.c, .slice xe.a xe.n xe.c] 31)).alloc (.cells #[.int .i64 d.c, .int .u64 d.u, .slice xf.a xf.n xf.c] 57)) _ from (by (repeat (first | exact Ext.refl _ | refine Ext.alloc ?_ _ | refine Ext.drewN ?_ _ | refine Ext.drew ?_ | refine Ext.trans ?_ (Hid.out (by assumption))))))); clear hown4 hgrow4; obtain ⟨c0, c4, c5, o0, o1, o2⟩ := HCB.out w4 HX4.out; obtain ⟨d0, d1, d2⟩ := HCX.out w4 (Ext.trans (((Ext.refl w).alloc _).alloc _) HX4.out))
        go_roundg (gk - 1)
        case measure => omega
        case rel => exact ⟨k + 1, _, _, _, _, _, by omega, by go_num, rfl, rfl, hid (by rw [HP.out, laid_lo HSD.out]; exact hl.out), HO4.out, hid (by rw [List.map_append, hz.out, HP.out, out_lo HR.out HSD.out]; rfl), (hid (mem_snoc hts.out (HS.out.ts xs[k] (List.getElem_mem hk)))), (by (repeat (first | exact Ext.refl _ | refine Ext.alloc ?_ _ | refine Ext.drewN ?_ _ | refine Ext.drew ?_ | refine Ext.trans ?_ (Hid.out (by assumption)))))⟩
      · rcases Int.lt_trichotomy xs[k].u d.u with h' | h' | h'
        · skip
          have g1 : decide (d.c < xs[k].c) = false := by simp; omega
          have g2 : (xs[k].c == d.c) = true := by simp; omega
          have g3 : decide (d.u ≤ xs[k].u) = false := by simp; omega
          have g4 : (xs[k].u == d.u) = false := by simp; omega
          have HSD := hid (((side_of (s := xs[k]) (c := d.c) (u := d.u)).2.2 h).1 h')
          clear h h'
          go_wp2_with fail
          go_quiet (fail)
          go_wp2_with fail
          go_quiet (fail)
          go_wp2_with (at_builtin; refine app1 (ys := zs) rfl (.tmp 94) (.tmp 99) 34 rfl i0 _ 40 Tryz.underlying34 I1.out I2.out I3.out I4.out rfl (by decide) rfl (hown.out.ext (by (repeat (first | exact Ext.refl _ | refine Ext.alloc ?_ _ | refine Ext.drewN ?_ _ | refine Ext.drew ?_ | refine Ext.trans ?_ (Hid.out (by assumption)))))) xs[k] _ rfl (news_alloc (cs := SB.cs xs[k]) rfl) (SB.one _) (by omega) (by decide) (Nat.le_trans (by simp) (Ext.size (show Ext ((w.alloc (.cells #[.int .i64 d.k, .int .i64 xi.b, .int .u64 xi.l, .int .u64 xi.s, .int .i64 d.c, .int .u64 d.u, .slice xf.a xf.n xf.c, .slice xe.a xe.n xe.c] 31)).alloc (.cells #[.int .i64 d.c, .int .u64 d.u, .slice xf.a xf.n xf.c] 57)) _ from (by (repeat (first | exact Ext.refl _ | refine Ext.alloc ?_ _ | refine Ext.drewN ?_ _ | refine Ext.drew ?_ | refine Ext.trans ?_ (Hid.out (by assumption)))))))) ?_; intro g4 cap4 w4 hown4 hgrow4; have HO4 := hid hown4; have HX4 := hid (hgrow4.ext (hown.out.ext (by (repeat (first | exact Ext.refl _ | refine Ext.alloc ?_ _ | refine Ext.drewN ?_ _ | refine Ext.drew ?_ | refine Ext.trans ?_ (Hid.out (by assumption)))))) (by simp) (show Ext ((w.alloc (.cells #[.int .i64 d.k, .int .i64 xi.b, .int .u64 xi.l, .int .u64 xi.s, .int .i64 d.c, .int .u64 d.u, .slice xf.a xf.n xf.c, .slice xe.a xe.n xe.c] 31)).alloc (.cells #[.int .i64 d.c, .int .u64 d.u, .slice xf.a xf.n xf.c] 57)) _ from (by (repeat (first | exact Ext.refl _ | refine Ext.alloc ?_ _ | refine Ext.drewN ?_ _ | refine Ext.drew ?_ | refine Ext.trans ?_ (Hid.out (by assumption))))))); clear hown4 hgrow4; obtain ⟨c0, c4, c5, o0, o1, o2⟩ := HCB.out w4 HX4.out; obtain ⟨d0, d1, d2⟩ := HCX.out w4 (Ext.trans (((Ext.refl w).alloc _).alloc _) HX4.out))
          go_roundg (gk - 1)
          case measure => omega
          case rel => exact ⟨k + 1, _, _, _, _, _, by omega, by go_num, rfl, rfl, hid (by rw [HP.out, laid_lo HSD.out]; exact hl.out), HO4.out, hid (by rw [List.map_append, hz.out, HP.out, out_lo HR.out HSD.out]; rfl), (hid (mem_snoc hts.out (HS.out.ts xs[k] (List.getElem_mem hk)))), (by (repeat (first | exact Ext.refl _ | refine Ext.alloc ?_ _ | refine Ext.drewN ?_ _ | refine Ext.drew ?_ | refine Ext.trans ?_ (Hid.out (by assumption)))))⟩
        · skip
          have g1 : decide (d.c < xs[k].c) = false := by simp; omega
          have g2 : (xs[k].c == d.c) = true := by simp; omega
          have g3 : decide (d.u ≤ xs[k].u) = true := by simp; omega
          have g4 : (xs[k].u == d.u) = true := by simp; omega
          have HSD := hid (((side_of (s := xs[k]) (c := d.c) (u := d.u)).2.2 h).2.2 h')
          clear h h'
          go_wp2_with fail
          go_quiet (fail)
          go_wp2_with fail
          go_quiet (fail)
          go_wp2_with (at_builtin; refine app1 (ys := zs) rfl (.tmp 94) (.tmp 99) 34 rfl i0 _ 40 Tryz.underlying34 I1.out I2.out I3.out I4.out rfl (by decide) rfl (hown.out.ext (by (repeat (first | exact Ext.refl _ | refine Ext.alloc ?_ _ | refine Ext.drewN ?_ _ | refine Ext.drew ?_ | refine Ext.trans ?_ (Hid.out (by assumption)))))) xs[k] _ rfl (news_alloc (cs := SB.cs xs[k]) rfl) (SB.one _) (by omega) (by decide) (Nat.le_trans (by simp) (Ext.size (show Ext ((w.alloc (.cells #[.int .i64 d.k, .int .i64 xi.b, .int .u64 xi.l, .int .u64 xi.s, .int .i64 d.c, .int .u64 d.u, .slice xf.a xf.n xf.c, .slice xe.a xe.n xe.c] 31)).alloc (.cells #[.int .i64 d.c, .int .u64 d.u, .slice xf.a xf.n xf.c] 57)) _ from (by (repeat (first | exact Ext.refl _ | refine Ext.alloc ?_ _ | refine Ext.drewN ?_ _ | refine Ext.drew ?_ | refine Ext.trans ?_ (Hid.out (by assumption)))))))) ?_; intro g4 cap4 w4 hown4 hgrow4; have HO4 := hid hown4; have HX4 := hid (hgrow4.ext (hown.out.ext (by (repeat (first | exact Ext.refl _ | refine Ext.alloc ?_ _ | refine Ext.drewN ?_ _ | refine Ext.drew ?_ | refine Ext.trans ?_ (Hid.out (by assumption)))))) (by simp) (show Ext ((w.alloc (.cells #[.int .i64 d.k, .int .i64 xi.b, .int .u64 xi.l, .int .u64 xi.s, .int .i64 d.c, .int .u64 d.u, .slice xf.a xf.n xf.c, .slice xe.a xe.n xe.c] 31)).alloc (.cells #[.int .i64 d.c, .int .u64 d.u, .slice xf.a xf.n xf.c] 57)) _ from (by (repeat (first | exact Ext.refl _ | refine Ext.alloc ?_ _ | refine Ext.drewN ?_ _ | refine Ext.drew ?_ | refine Ext.trans ?_ (Hid.out (by assumption))))))); clear hown4 hgrow4; obtain ⟨c0, c4, c5, o0, o1, o2⟩ := HCB.out w4 HX4.out; obtain ⟨d0, d1, d2⟩ := HCX.out w4 (Ext.trans (((Ext.refl w).alloc _).alloc _) HX4.out))
          go_roundg (gk - 1)
          case measure => omega
          case rel => exact ⟨k + 1, _, _, _, _, _, by omega, by go_num, rfl, rfl, hid (by rw [HP.out]; exact laid_ge (Int.le_of_eq HSD.out.symm)), HO4.out, hid (by rw [List.map_append, hz.out, HP.out, out_eq' HKO.out]; rfl), (hid (mem_snoc hts.out (HS.out.ts xs[k] (List.getElem_mem hk)))), (by (repeat (first | exact Ext.refl _ | refine Ext.alloc ?_ _ | refine Ext.drewN ?_ _ | refine Ext.drew ?_ | refine Ext.trans ?_ (Hid.out (by assumption)))))⟩
        · skip
          have g1 : decide (d.c < xs[k].c) = false := by simp; omega
          have g2 : (xs[k].c == d.c) = true := by simp; omega
          have g3 : decide (d.u ≤ xs[k].u) = true := by simp; omega
          have g4 : (xs[k].u == d.u) = false := by simp; omega
          have HSD := hid (((side_of (s := xs[k]) (c := d.c) (u := d.u)).2.2 h).2.1 h')
          clear h h'
          go_wp2_with fail
          go_quiet (fail)
          go_wp2_with fail
          go_quiet (fail)
          go_wp2_with (at_builtin; refine app1 (ys := zs) rfl (.tmp 94) (.tmp 99) 34 rfl i0 _ 40 Tryz.underlying34 I1.out I2.out I3.out I4.out rfl (by decide) rfl (hown.out.ext (by (repeat (first | exact Ext.refl _ | refine Ext.alloc ?_ _ | refine Ext.drewN ?_ _ | refine Ext.drew ?_ | refine Ext.trans ?_ (Hid.out (by assumption)))))) xs[k] _ rfl (news_alloc (cs := SB.cs xs[k]) rfl) (SB.one _) (by omega) (by decide) (Nat.le_trans (by simp) (Ext.size (show Ext ((w.alloc (.cells #[.int .i64 d.k, .int .i64 xi.b, .int .u64 xi.l, .int .u64 xi.s, .int .i64 d.c, .int .u64 d.u, .slice xf.a xf.n xf.c, .slice xe.a xe.n xe.c] 31)).alloc (.cells #[.int .i64 d.c, .int .u64 d.u, .slice xf.a xf.n xf.c] 57)) _ from (by (repeat (first | exact Ext.refl _ | refine Ext.alloc ?_ _ | refine Ext.drewN ?_ _ | refine Ext.drew ?_ | refine Ext.trans ?_ (Hid.out (by assumption)))))))) ?_; intro g4 cap4 w4 hown4 hgrow4; have HO4 := hid hown4; have HX4 := hid (hgrow4.ext (hown.out.ext (by (repeat (first | exact Ext.refl _ | refine Ext.alloc ?_ _ | refine Ext.drewN ?_ _ | refine Ext.drew ?_ | refine Ext.trans ?_ (Hid.out (by assumption)))))) (by simp) (show Ext ((w.alloc (.cells #[.int .i64 d.k, .int .i64 xi.b, .int .u64 xi.l, .int .u64 xi.s, .int .i64 d.c, .int .u64 d.u, .slice xf.a xf.n xf.c, .slice xe.a xe.n xe.c] 31)).alloc (.cells #[.int .i64 d.c, .int .u64 d.u, .slice xf.a xf.n xf.c] 57)) _ from (by (repeat (first | exact Ext.refl _ | refine Ext.alloc ?_ _ | refine Ext.drewN ?_ _ | refine Ext.drew ?_ | refine Ext.trans ?_ (Hid.out (by assumption))))))); clear hown4 hgrow4; obtain ⟨c0, c4, c5, o0, o1, o2⟩ := HCB.out w4 HX4.out; obtain ⟨d0, d1, d2⟩ := HCX.out w4 (Ext.trans (((Ext.refl w).alloc _).alloc _) HX4.out))
          go_roundg (gk - 1)
          case measure => omega
          case rel => exact ⟨k + 1, _, _, _, _, _, by omega, by go_num, rfl, rfl, hid (by rw [HP.out]; exact laid_ge (Int.le_of_lt HSD.out)), HO4.out, hid (by rw [List.map_append, hz.out, HP.out, out_hi HSD.out hl.out.symm]; rfl), (hid (mem_snoc hts.out (HS.out.ts xs[k] (List.getElem_mem hk)))), (by (repeat (first | exact Ext.refl _ | refine Ext.alloc ?_ _ | refine Ext.drewN ?_ _ | refine Ext.drew ?_ | refine Ext.trans ?_ (Hid.out (by assumption)))))⟩
      · skip
        have g1 : decide (d.c < xs[k].c) = true := by simp; omega
        have g2 : (xs[k].c == d.c) = false := by simp; omega
        have HSD := hid ((side_of (s := xs[k]) (c := d.c) (u := d.u)).2.1 h)
        clear h
        go_wp2_with fail
        go_quiet (fail)
        go_wp2_with fail
        go_quiet (fail)
        go_wp2_with (at_builtin; refine app1 (ys := zs) rfl (.tmp 94) (.tmp 99) 34 rfl i0 _ 40 Tryz.underlying34 I1.out I2.out I3.out I4.out rfl (by decide) rfl (hown.out.ext (by (repeat (first | exact Ext.refl _ | refine Ext.alloc ?_ _ | refine Ext.drewN ?_ _ | refine Ext.drew ?_ | refine Ext.trans ?_ (Hid.out (by assumption)))))) xs[k] _ rfl (news_alloc (cs := SB.cs xs[k]) rfl) (SB.one _) (by omega) (by decide) (Nat.le_trans (by simp) (Ext.size (show Ext ((w.alloc (.cells #[.int .i64 d.k, .int .i64 xi.b, .int .u64 xi.l, .int .u64 xi.s, .int .i64 d.c, .int .u64 d.u, .slice xf.a xf.n xf.c, .slice xe.a xe.n xe.c] 31)).alloc (.cells #[.int .i64 d.c, .int .u64 d.u, .slice xf.a xf.n xf.c] 57)) _ from (by (repeat (first | exact Ext.refl _ | refine Ext.alloc ?_ _ | refine Ext.drewN ?_ _ | refine Ext.drew ?_ | refine Ext.trans ?_ (Hid.out (by assumption)))))))) ?_; intro g4 cap4 w4 hown4 hgrow4; have HO4 := hid hown4; have HX4 := hid (hgrow4.ext (hown.out.ext (by (repeat (first | exact Ext.refl _ | refine Ext.alloc ?_ _ | refine Ext.drewN ?_ _ | refine Ext.drew ?_ | refine Ext.trans ?_ (Hid.out (by assumption)))))) (by simp) (show Ext ((w.alloc (.cells #[.int .i64 d.k, .int .i64 xi.b, .int .u64 xi.l, .int .u64 xi.s, .int .i64 d.c, .int .u64 d.u, .slice xf.a xf.n xf.c, .slice xe.a xe.n xe.c] 31)).alloc (.cells #[.int .i64 d.c, .int .u64 d.u, .slice xf.a xf.n xf.c] 57)) _ from (by (repeat (first | exact Ext.refl _ | refine Ext.alloc ?_ _ | refine Ext.drewN ?_ _ | refine Ext.drew ?_ | refine Ext.trans ?_ (Hid.out (by assumption))))))); clear hown4 hgrow4; obtain ⟨c0, c4, c5, o0, o1, o2⟩ := HCB.out w4 HX4.out; obtain ⟨d0, d1, d2⟩ := HCX.out w4 (Ext.trans (((Ext.refl w).alloc _).alloc _) HX4.out))
        go_roundg (gk - 1)
        case measure => omega
        case rel => exact ⟨k + 1, _, _, _, _, _, by omega, by go_num, rfl, rfl, hid (by rw [HP.out]; exact laid_ge (Int.le_of_lt HSD.out)), HO4.out, hid (by rw [List.map_append, hz.out, HP.out, out_hi HSD.out hl.out.symm]; rfl), (hid (mem_snoc hts.out (HS.out.ts xs[k] (List.getElem_mem hk)))), (by (repeat (first | exact Ext.refl _ | refine Ext.alloc ?_ _ | refine Ext.drewN ?_ _ | refine Ext.drew ?_ | refine Ext.trans ?_ (Hid.out (by assumption)))))⟩
    · have hk' : xs.take k = xs := List.take_of_length_le (by omega)
      rw [hk'] at hl hz
      clear hk'
      go_wp2
      go_ret
      exact ⟨aa, m, cp, zs, rfl, ⟨hown.out.sl, fun z hz' => (hts.out z hz').ext (Ext.trans (((Ext.refl w).alloc _).alloc _) hx.out)⟩, hz.out.trans (out_end hl.out.symm), Ext.trans (((Ext.refl w).alloc _).alloc _) hx.out⟩
theorem rapply_any (a : Option Addr) (n cap : Nat) (xs : List SB) (x : EV) (d : ED) (w : World) (hS : Subs w a n cap xs) (hI : EntryIs w x d) (hn : n ≤ 1000) (hR : risesD (xs.map SB.d)) :
    Calls Tryz.prog 8 #[.slice a n cap, .agg #[.int .i64 x.k, .int .i64 x.id.b, .int .u64 x.id.l, .int .u64 x.id.s, .int .i64 x.c, .int .u64 x.u, .slice x.f.a x.f.n x.f.c, .slice x.e.a x.e.n x.e.c]] w (RetSubs (applyD (xs.map SB.d) d) w) := by
  by_cases k2 : d.k = 2
  · exact rapply2_any a n cap xs x d w hS hI hn hR k2
  · by_cases k3 : d.k = 3
    · exact rapply3_any a n cap xs x d w hS hI hn hR k3
    · exact rapplyO_any a n cap xs x d w hS hI hn hR k2 k3
end Go.Proofs.YtiifflojpoobpaaGreat

namespace Go.Proofs.YtiifflojpoobpaaGreat
open Go.RowKit
attribute [local go_sem ↓] Go.wp_at_zero Go.wp_at_succ

theorem mem_any (cl : List Int) (c : Int) : decide (c ∈ cl) = cl.any (fun y => decide (y = c)) := by
  rw [Bool.eq_iff_iff]; simp
theorem rin_any (ia : Option Addr) (im ic : Nat) (cl : List Int) (c : Int) (w : World) (hC : Sl w 1 iC ia im ic cl) :
    Calls Tryz.prog 61 #[.slice ia im ic, .int .i64 c] w fun e w' => e = .returned (.bool (decide (c ∈ cl))) ∧ Ext w w' := by
  rw [mem_any]
  obtain rfl := hC.neq
  have hm := hC.max
  have hl := hC.len
  unfold maxLen at hm
  have HC := hid hC
  clear hC
  go_enter Tryz.func61, Tryz.ntmps61
  go_wp2_with fail
  go_loopg [5] (cl.length) (fun g st wr => ∃ k : Nat, g + k = cl.length ∧ st = .int .i64 k ∧ Hid ((cl.take k).any (fun y => decide (y = c)) = false) ∧ Hid (Ext w wr))
  case atStart => exact ⟨0, by omega, rfl, rfl, Ext.refl _⟩
  case round =>
    obtain ⟨k, hg, rfl, hn, hx⟩ := hrel
    by_cases hk : k < cl.length
    · obtain ⟨b, o, rfl, hc⟩ := HC.out.get k hk
      have d0 : wr.cell? ⟨b, o + k * 1, none⟩ = some (.int .i64 cl[k]) := hx.out.keep (by have := hc 0 _ rfl; simpa using this)
      rw [Nat.mul_one] at d0
      clear hc
      have b0 : (0 : Int) ≤ (k : Int) := by omega
      have b1 : (k : Int) < (cl.length : Int) := by omega
      by_cases he : cl[k] = c
      · have q : (cl[k] == c) = true := by simpa using he
        have He := hid he
        clear he
        go_wp2
        go_ret
        exact ⟨ret_bool (any_found hk (decide_eq_true He.out)), (by (repeat (first | exact Ext.refl _ | refine Ext.alloc ?_ _ | refine Ext.drewN ?_ _ | refine Ext.drew ?_ | refine Ext.trans ?_ (Hid.out (by assumption)))))⟩
      · have q : (cl[k] == c) = false := by simpa using he
        have He := hid he
        clear he
        go_wp2
        go_roundg (gk - 1)
        case measure => omega
        case rel => exact ⟨k + 1, by omega, by go_num, any_take hk hn.out (decide_eq_false He.out), (by (repeat (first | exact Ext.refl _ | refine Ext.alloc ?_ _ | refine Ext.drewN ?_ _ | refine Ext.drew ?_ | refine Ext.trans ?_ (Hid.out (by assumption)))))⟩
    · go_wp2
      go_ret
      exact ⟨ret_bool (any_none hn.out hk), (by (repeat (first | exact Ext.refl _ | refine Ext.alloc ?_ _ | refine Ext.drewN ?_ _ | refine Ext.drew ?_ | refine Ext.trans ?_ (Hid.out (by assumption)))))⟩
/-- Filters that a call gives back, at most so many. -/
def RetFn (fs : List (List T)) (m : Nat) (w : World) (e : Ending) (w' : World) : Prop := ∃ aa n cap ys, e = .returned (.slice aa n cap) ∧ Flts w' aa n cap ys ∧ ys.map (·.ts) = fs ∧ n ≤ m ∧ Ext w w'
set_option maxRecDepth 100000 in
set_option maxHeartbeats 2000000 in
theorem rasked_any (a : Option Addr) (n cap : Nat) (xs : List SB) (ia : Option Addr) (im ic : Nat) (cl : List Int) (w : World) (hS : Subs w a n cap xs) (hC : Sl w 1 iC ia im ic cl) (hn : n ≤ 1000) :
    Calls Tryz.prog 39 #[.slice a n cap, .slice ia im ic] w (RetFn (askedD (xs.map SB.d) cl) n w) := by
  obtain ⟨i0, hi, hz0, hz1, hz2⟩ := info_parts infoF
  have I1 := hid hi
  have I2 := hid hz0
  have I3 := hid hz1
  have I4 := hid hz2
  clear hi hz0 hz1 hz2
  obtain rfl := hS.sl.neq
  have hm := hS.sl.max
  have hl := hS.sl.len
  unfold maxLen at hm
  have HS := hid hS
  have HC := hid hC
  clear hS hC
  go_enter Tryz.func39, Tryz.ntmps39
  go_wp2_with fail
  go_loopg [5, 6, 7] (xs.length) (fun g ov st iv wr => ∃ (k : Nat) (aa : Option Addr) (m cp : Nat), g + k = xs.length ∧ st = .int .i64 k ∧ ov = .slice aa m cp ∧ m ≤ k ∧ Hid (Own wr w.heap.size 28 1 FV.cs aa m cp (((xs.take k).filter (fun s : SB => decide (s.c ∈ cl))).map SB.fv)) ∧ Hid (Ext w wr))
  case atStart => exact ⟨0, none, 0, 0, by omega, rfl, rfl, by omega, Own.nil _ _ _ FV.wid, Ext.refl _⟩
  case round =>
    obtain ⟨k, aa, m, cp, hg, rfl, rfl, hmk, hown, hx⟩ := hrel
    by_cases hk : k < xs.length
    · obtain ⟨b, o, rfl, hc⟩ := HS.out.sl.get k hk
      have hcx := fun (wx : World) (hw : Ext w wx) => cellsSB (w := wx) (b := b) (o := o + k * 3) (x := xs[k]) (fun j v hj => hw.keep (hc j v hj))
      have HCX := hid hcx
      obtain ⟨d0, d1, d2⟩ := hcx wr hx.out
      clear hc hcx
      have b0 : (0 : Int) ≤ (k : Int) := by omega
      have b1 : (k : Int) < (xs.length : Int) := by omega
      go_wp2_with fail
      refine (rin_any _ _ _ cl xs[k].c _ (HC.out.ext (by (repeat (first | exact Ext.refl _ | refine Ext.alloc ?_ _ | refine Ext.drewN ?_ _ | refine Ext.drew ?_ | refine Ext.trans ?_ (Hid.out (by assumption))))))).mono ?_
      rintro e w1 ⟨rfl, hb⟩
      have hy := hid hb
      clear hb d0 d1 d2
      obtain ⟨d0, d1, d2⟩ := HCX.out w1 (by (repeat (first | exact Ext.refl _ | refine Ext.alloc ?_ _ | refine Ext.drewN ?_ _ | refine Ext.drew ?_ | refine Ext.trans ?_ (Hid.out (by assumption)))))
      by_cases he : xs[k].c ∈ cl
      · have He := hid (show (fun s : SB => decide (s.c ∈ cl)) xs[k] = true from decide_eq_true he)
        rw [decide_eq_true he]
        clear he
        go_wp2_with (at_builtin; refine app1 (ys := ((xs.take k).filter (fun s : SB => decide (s.c ∈ cl))).map SB.fv) rfl (.tmp 22) (.tmp 28) 40 rfl i0 _ 24 Tryz.underlying40 I1.out I2.out I3.out I4.out rfl (by decide) rfl (hown.out.ext (by (repeat (first | exact Ext.refl _ | refine Ext.alloc ?_ _ | refine Ext.drewN ?_ _ | refine Ext.drew ?_ | refine Ext.trans ?_ (Hid.out (by assumption)))))) xs[k].fv _ rfl (news_alloc (cs := FV.cs xs[k].fv) (by simp)) (FV.one _) (by omega) (by decide) (Ext.size (by (repeat (first | exact Ext.refl _ | refine Ext.alloc ?_ _ | refine Ext.drewN ?_ _ | refine Ext.drew ?_ | refine Ext.trans ?_ (Hid.out (by assumption)))))) ?_; intro g cap' w3 hown3 hgrow; have HO3 := hid hown3; have HG := hid hgrow; clear hown3 hgrow)
        go_roundg (gk - 1)
        case measure => omega
        case rel => exact ⟨k + 1, _, _, _, by omega, by go_num, rfl, by omega, by (rw [filt_yes (p := (fun s : SB => decide (s.c ∈ cl))) hk He.out, List.map_append]; exact HO3.out), HG.out.ext (hown.out.ext (by (repeat (first | exact Ext.refl _ | refine Ext.alloc ?_ _ | refine Ext.drewN ?_ _ | refine Ext.drew ?_ | refine Ext.trans ?_ (Hid.out (by assumption)))))) (Nat.le_refl _) (by (repeat (first | exact Ext.refl _ | refine Ext.alloc ?_ _ | refine Ext.drewN ?_ _ | refine Ext.drew ?_ | refine Ext.trans ?_ (Hid.out (by assumption)))))⟩
      · have He := hid (show (fun s : SB => decide (s.c ∈ cl)) xs[k] = false from decide_eq_false he)
        rw [decide_eq_false he]
        clear he
        go_wp2
        go_roundg (gk - 1)
        case measure => omega
        case rel => exact ⟨k + 1, aa, m, cp, by omega, by go_num, rfl, by omega, by (rw [filt_no (p := (fun s : SB => decide (s.c ∈ cl))) hk He.out]; exact hown.out.ext (by (repeat (first | exact Ext.refl _ | refine Ext.alloc ?_ _ | refine Ext.drewN ?_ _ | refine Ext.drew ?_ | refine Ext.trans ?_ (Hid.out (by assumption)))))), (by (repeat (first | exact Ext.refl _ | refine Ext.alloc ?_ _ | refine Ext.drewN ?_ _ | refine Ext.drew ?_ | refine Ext.trans ?_ (Hid.out (by assumption)))))⟩
    · have hk' : xs.take k = xs := List.take_of_length_le (by omega)
      rw [hk'] at hown
      clear hk'
      go_wp2
      go_ret
      refine ⟨aa, m, cp, _, rfl, ⟨hown.out.sl, fun y hy' => ?_⟩, asked_of xs cl, by omega, (by (repeat (first | exact Ext.refl _ | refine Ext.alloc ?_ _ | refine Ext.drewN ?_ _ | refine Ext.drew ?_ | refine Ext.trans ?_ (Hid.out (by assumption)))))⟩
      obtain ⟨s, hs, rfl⟩ := List.mem_map.1 hy'
      exact (HS.out.ts s (List.mem_filter.1 hs).1).ext hx.out
theorem rfilters_any (a : Option Addr) (n cap : Nat) (xs : List SB) (ia : Option Addr) (im ic : Nat) (cl : List Int) (w : World) (hS : Subs w a n cap xs) (hC : Sl w 1 iC ia im ic cl) (hn : n ≤ 1000) :
    Calls Tryz.prog 12 #[.slice a n cap, .slice ia im ic] w (RetFl (filtersD (xs.map SB.d) cl) w) := by
  have HS := hid hS
  have HC := hid hC
  clear hS hC
  go_enter Tryz.func12, Tryz.ntmps12
  go_wp2_with fail
  refine (rasked_any _ _ _ xs _ _ _ cl _ HS.out HC.out hn).mono ?_
  rintro e w1 ⟨a1, n1, c1, fs, rfl, hf, hmf, hnn, hb⟩
  have HF := hid hf
  have HM := hid hmf
  have hy := hid hb
  clear hf hmf hb
  go_wp2_with fail
  refine (rreduce_any _ _ _ fs _ HF.out (by omega)).mono ?_
  rintro e w2 ⟨a2, n2, c2, gs, rfl, hg, hmg, hb⟩
  have HG := hid hg
  have HMG := hid hmg
  have hy2 := hid hb
  clear hg hmg hb
  go_wp2
  go_ret
  exact ⟨a2, n2, c2, gs, rfl, HG.out, (by rw [HMG.out, HM.out]; rfl), (by (repeat (first | exact Ext.refl _ | refine Ext.alloc ?_ _ | refine Ext.drewN ?_ _ | refine Ext.drew ?_ | refine Ext.trans ?_ (Hid.out (by assumption)))))⟩
/-- Events of the call's own row. -/
def RetEvM (zs : List EvV) (w : World) (e : Ending) (w' : World) : Prop := ∃ aa n cap, e = .returned (.slice aa n cap) ∧ Own w' w.heap.size 55 1 EvV.cs aa n cap zs ∧ Ext w w'
set_option maxRecDepth 100000 in
set_option maxHeartbeats 2000000 in
theorem rmatchedO_any (fa : Option Addr) (fn fc : Nat) (fs : List FV) (a : Option Addr) (n cap : Nat) (evs : List EvV) (w : World) (hF : Flts w fa fn fc fs) (hE : EvsV w a n cap evs) (hn : n ≤ 1000) :
    Calls Tryz.prog 46 #[.slice fa fn fc, .slice a n cap] w (RetEvM (evs.filter (fun e : EvV => fs.any fun f => matchesT f.ts e.ats)) w) := by
  obtain ⟨i0, hi, hz0, hz1, hz2⟩ := info_parts infoEv
  have I1 := hid hi
  have I2 := hid hz0
  have I3 := hid hz1
  have I4 := hid hz2
  clear hi hz0 hz1 hz2
  obtain rfl := hE.sl.neq
  have hm := hE.sl.max
  have hl := hE.sl.len
  unfold maxLen at hm
  have HF := hid hF
  have HE := hid hE
  clear hF hE
  go_enter Tryz.func46, Tryz.ntmps46
  go_wp2_with fail
  go_loopg [5, 6, 7] (evs.length) (fun g ov st iv wr => ∃ (k : Nat) (aa : Option Addr) (m cp : Nat), g + k = evs.length ∧ st = .int .i64 k ∧ ov = .slice aa m cp ∧ m ≤ k ∧ Hid (Own wr w.heap.size 55 1 EvV.cs aa m cp ((evs.take k).filter (fun e : EvV => fs.any fun f => matchesT f.ts e.ats))) ∧ Hid (Ext w wr))
  case atStart => exact ⟨0, none, 0, 0, by omega, rfl, rfl, by omega, Own.nil _ _ _ EvV.wid, Ext.refl _⟩
  case round =>
    obtain ⟨k, aa, m, cp, hg, rfl, rfl, hmk, hown, hx⟩ := hrel
    by_cases hk : k < evs.length
    · obtain ⟨b, o, rfl, hc⟩ := HE.out.sl.get k hk
      have d0 := cells1 (w := wr) (b := b) (o := o + k * 1) (x := evs[k]) (fun j v hj => hx.out.keep (hc j v hj))
      rw [Nat.mul_one] at d0
      clear hc
      have b0 : (0 : Int) ≤ (k : Int) := by omega
      have b1 : (k : Int) < (evs.length : Int) := by omega
      go_wp2_with fail
      refine (rany_any _ _ _ fs _ _ _ evs[k].ats _ (HF.out.ext (by (repeat (first | exact Ext.refl _ | refine Ext.alloc ?_ _ | refine Ext.drewN ?_ _ | refine Ext.drew ?_ | refine Ext.trans ?_ (Hid.out (by assumption)))))) ((HE.out.ats evs[k] (List.getElem_mem hk)).ext (by (repeat (first | exact Ext.refl _ | refine Ext.alloc ?_ _ | refine Ext.drewN ?_ _ | refine Ext.drew ?_ | refine Ext.trans ?_ (Hid.out (by assumption))))))).mono ?_
      rintro e w1 ⟨rfl, hb⟩
      have d1 := hb.keep d0
      have hy := hid hb
      clear hb d0
      cases he : fs.any (fun f => matchesT f.ts evs[k].ats) with
      | true =>
        have He := hid (show (fun e : EvV => fs.any fun f => matchesT f.ts e.ats) evs[k] = true from he)
        clear he
        go_wp2_with (at_builtin; refine app1 (ys := (evs.take k).filter (fun e : EvV => fs.any fun f => matchesT f.ts e.ats)) rfl (.tmp 21) (.tmp 26) 29 rfl i0 _ 24 Tryz.underlying29 I1.out I2.out I3.out I4.out rfl (by decide) rfl (hown.out.ext (by (repeat (first | exact Ext.refl _ | refine Ext.alloc ?_ _ | refine Ext.drewN ?_ _ | refine Ext.drew ?_ | refine Ext.trans ?_ (Hid.out (by assumption)))))) evs[k] _ rfl (news_alloc (cs := EvV.cs evs[k]) (by simp)) (EvV.one _) (by omega) (by decide) (Ext.size (by (repeat (first | exact Ext.refl _ | refine Ext.alloc ?_ _ | refine Ext.drewN ?_ _ | refine Ext.drew ?_ | refine Ext.trans ?_ (Hid.out (by assumption)))))) ?_; intro g cap' w3 hown3 hgrow; have HO3 := hid hown3; have HG := hid hgrow; clear hown3 hgrow)
        go_roundg (gk - 1)
        case measure => omega
        case rel => exact ⟨k + 1, _, _, _, by omega, by go_num, rfl, by omega, by (rw [filt_yes (p := (fun e : EvV => fs.any fun f => matchesT f.ts e.ats)) hk He.out]; exact HO3.out), HG.out.ext (hown.out.ext (by (repeat (first | exact Ext.refl _ | refine Ext.alloc ?_ _ | refine Ext.drewN ?_ _ | refine Ext.drew ?_ | refine Ext.trans ?_ (Hid.out (by assumption)))))) (Nat.le_refl _) (by (repeat (first | exact Ext.refl _ | refine Ext.alloc ?_ _ | refine Ext.drewN ?_ _ | refine Ext.drew ?_ | refine Ext.trans ?_ (Hid.out (by assumption)))))⟩
      | false =>
        have He := hid (show (fun e : EvV => fs.any fun f => matchesT f.ts e.ats) evs[k] = false from he)
        clear he
        go_wp2
        go_roundg (gk - 1)
        case measure => omega
        case rel => exact ⟨k + 1, aa, m, cp, by omega, by go_num, rfl, by omega, by (rw [filt_no (p := (fun e : EvV => fs.any fun f => matchesT f.ts e.ats)) hk He.out]; exact hown.out.ext (by (repeat (first | exact Ext.refl _ | refine Ext.alloc ?_ _ | refine Ext.drewN ?_ _ | refine Ext.drew ?_ | refine Ext.trans ?_ (Hid.out (by assumption)))))), (by (repeat (first | exact Ext.refl _ | refine Ext.alloc ?_ _ | refine Ext.drewN ?_ _ | refine Ext.drew ?_ | refine Ext.trans ?_ (Hid.out (by assumption)))))⟩
    · have hk' : evs.take k = evs := List.take_of_length_le (by omega)
      rw [hk'] at hown
      clear hk'
      go_wp2
      go_ret
      exact ⟨aa, m, cp, rfl, hown.out, (by (repeat (first | exact Ext.refl _ | refine Ext.alloc ?_ _ | refine Ext.drewN ?_ _ | refine Ext.drew ?_ | refine Ext.trans ?_ (Hid.out (by assumption)))))⟩
theorem rmatched_any (fa : Option Addr) (fn fc : Nat) (fs : List FV) (a : Option Addr) (n cap : Nat) (evs : List EvV) (w : World) (hF : Flts w fa fn fc fs) (hE : EvsV w a n cap evs) (hn : n ≤ 1000) :
    Calls Tryz.prog 46 #[.slice fa fn fc, .slice a n cap] w (RetEvs (matchedD (fs.map (·.ts)) (evs.map (·.ats))) w) :=
  (rmatchedO_any fa fn fc fs a n cap evs w hF hE hn).mono fun e w' ⟨aa, m, cp, he, hO, hx⟩ => ⟨aa, m, cp, _, he, ⟨hO.sl, fun y hy => (hE.ats y (List.mem_filter.1 hy).1).ext hx⟩, cut_of fs evs, hx⟩
set_option maxRecDepth 100000 in
set_option maxHeartbeats 2000000 in
theorem rbatch_any (a : Option Addr) (n cap : Nat) (xs : List SB) (c : Int) (x : EV) (d : ED) (w : World) (hS : Subs w a n cap xs) (hI : EntryIs w x d) (hn : n ≤ 1000) (he : d.es.length ≤ 1000) :
    Calls Tryz.prog 18 #[.slice a n cap, .int .i64 c, .agg #[.int .i64 x.k, .int .i64 x.id.b, .int .u64 x.id.l, .int .u64 x.id.s, .int .i64 x.c, .int .u64 x.u, .slice x.f.a x.f.n x.f.c, .slice x.e.a x.e.n x.e.c]] w (RetEvs (batchD (xs.map SB.d) c d) w) := by
  obtain ⟨evs, hes, hev⟩ := hI.e
  have hen := hev.sl.neq
  have hel : evs.length ≤ 1000 := by rw [← List.length_map (f := (·.ats)), hes]; exact he
  have HS := hid hS
  have HI := hid hI
  have HV := hid hev
  have HES := hid hes
  have HN := hid hen
  clear hS hev hes hen he
  by_cases h1 : d.k = 1
  · have q0 : x.k = 1 := hI.k.trans h1
    have H1 := hid h1
    obtain ⟨xk, xi, xc, xu, xf, xe⟩ := x
    dsimp only at q0 HV HN ⊢
    subst q0
    clear hI h1
    go_enter Tryz.func18, Tryz.ntmps18
    go_wp2_with fail
    refine wp_region_held_drew (S := (fun w' => w'.cell? ⟨w.heap.size, 7, none⟩ = some (.slice xe.a xe.n xe.c))) (by kernel_rfl) ?_ (fun hHeld => ?_)
    · ((try dsimp only); (first | exact (Hid.out hy).keep (by assumption) | go_keep))
    (refine hTake 0 (some 10) (v := ?_) (by kernel_rfl) (by kernel_rfl) (by kernel_rfl) (fun _ _ _ h => h) ⟨_, rfl, rfl, Or.inl ⟨by rfl, ?_⟩⟩ hHeld ?_; rotate_left; (focus (intro w hSw; (try dsimp only at hSw); go_simp; (first | done | with_reducible rfl))); (try simp only [Act.put, List.setIfInBounds_toArray, List.set_cons_zero, List.set_cons_succ]))
    (refine hTake 1 (some 11) (v := ?_) (by kernel_rfl) (by kernel_rfl) (by kernel_rfl) (fun _ _ _ h => h) ⟨_, rfl, rfl, Or.inl ⟨by rfl, ?_⟩⟩ hHeld ?_; rotate_left; (focus (intro w hSw; (try dsimp only at hSw); go_simp; (first | done | with_reducible rfl))); (try simp only [Act.put, List.setIfInBounds_toArray, List.set_cons_zero, List.set_cons_succ]))
    (refine hTake 4 (some 14) (v := ?_) (by kernel_rfl) (by kernel_rfl) (by kernel_rfl) (fun _ _ _ h => h) ⟨_, rfl, rfl, Or.inl ⟨by rfl, ?_⟩⟩ hHeld ?_; rotate_left; (focus (intro w hSw; (try dsimp only at hSw); go_simp; (first | done | with_reducible rfl))); (try simp only [Act.put, List.setIfInBounds_toArray, List.set_cons_zero, List.set_cons_succ]))
    (refine hTake 5 (some 15) (v := ?_) (by kernel_rfl) (by kernel_rfl) (by kernel_rfl) (fun _ _ _ h => h) ⟨_, rfl, rfl, Or.inl ⟨by rfl, ?_⟩⟩ hHeld ?_; rotate_left; (focus (intro w hSw; (try dsimp only at hSw); go_simp; (first | done | with_reducible rfl))); (try simp only [Act.put, List.setIfInBounds_toArray, List.set_cons_zero, List.set_cons_succ]))
    refine wpAnyH_ready (rs := [2]) (by kernel_rfl) (by simp) ?_
    refine AllReadyH.cons rfl (fun K hK => ?_) AllReadyH.nil
    (go_simp; skip; (first | refine hK.out _ _ ?_ (fun hHeld => ?_) | (go_wp2_with fail; refine hK.out _ _ ?_ (fun hHeld => ?_))); (focus ((try dsimp only); (first | exact (Hid.out hy).keep (by assumption) | go_keep))); clear hK K; (try simp only [Act.put, List.setIfInBounds_toArray, List.set_cons_zero, List.set_cons_succ]))
    refine wpAnyH_ready (rs := [3]) (by kernel_rfl) (by simp) ?_
    refine AllReadyH.cons rfl (fun K hK => ?_) AllReadyH.nil
    (go_simp; (go_at_call 39; refine (rasked_any _ _ _ xs _ _ _ [c] _ ?hs1 ?hc1 hn).mono ?_; (case hs1 => exact ⟨HS.out.sl.ext (by (repeat (first | exact Ext.refl _ | refine Ext.alloc ?_ _ | refine Ext.drewN ?_ _ | refine Ext.drew ?_ | refine Ext.trans ?_ (Hid.out (by assumption))))), fun s hs => (HS.out.ts s hs).ext (by (repeat (first | exact Ext.refl _ | refine Ext.alloc ?_ _ | refine Ext.drewN ?_ _ | refine Ext.drew ?_ | refine Ext.trans ?_ (Hid.out (by assumption)))))⟩); (case hc1 => exact sl_of [c] (fun _ => rfl) rfl (by simp) (t := 3) (fr := (0, 0)) (cs := #[.int .i64 c]) (heap_new (by simp)) rfl); rintro e w1 ⟨a1, n1, c1, fs, rfl, hf, hmf, hnn, hb⟩; have HF := hid hf; have HM := hid hmf; have hy := hid hb; clear hf hmf hb); (first | refine hK.out _ _ ?_ (fun hHeld => ?_) | (go_wp2_with fail; refine hK.out _ _ ?_ (fun hHeld => ?_))); (focus ((try dsimp only); (first | exact (Hid.out hy).keep (by assumption) | go_keep))); clear hK K; (try simp only [Act.put, List.setIfInBounds_toArray, List.set_cons_zero, List.set_cons_succ]))
    refine wpAnyH_ready (rs := [6]) (by kernel_rfl) (by simp) ?_
    refine AllReadyH.cons rfl (fun K hK => ?_) AllReadyH.nil
    (go_simp; (go_at_call 46; refine (rmatched_any _ _ _ fs _ _ _ evs _ (HF.out.ext (by (repeat (first | exact Ext.refl _ | refine Ext.alloc ?_ _ | refine Ext.drewN ?_ _ | refine Ext.drew ?_ | refine Ext.trans ?_ (Hid.out (by assumption)))))) (HV.out.ext (by (repeat (first | exact Ext.refl _ | refine Ext.alloc ?_ _ | refine Ext.drewN ?_ _ | refine Ext.drew ?_ | refine Ext.trans ?_ (Hid.out (by assumption)))))) (by rw [HN.out]; omega)).mono ?_; rintro e w2 ⟨a2, n2, c2, gs, rfl, hg, hmg, hb⟩; have HG := hid hg; have HMG := hid hmg; have hy := hid hb; clear hg hmg hb); (first | refine hK.out _ _ ?_ (fun hHeld => ?_) | (go_wp2_with fail; refine hK.out _ _ ?_ (fun hHeld => ?_))); (focus ((try dsimp only); (first | exact (Hid.out hy).keep (by assumption) | go_keep))); clear hK K; (try simp only [Act.put, List.setIfInBounds_toArray, List.set_cons_zero, List.set_cons_succ]))
    (refine hTake 7 (some 6) (v := ?_) (by kernel_rfl) (by kernel_rfl) (by kernel_rfl) (fun _ _ _ h => h) ⟨_, rfl, rfl, Or.inl ⟨by rfl, ?_⟩⟩ hHeld ?_; rotate_left; (focus (intro w hSw; (try dsimp only at hSw); go_simp; (first | done | with_reducible rfl))); (try simp only [Act.put, List.setIfInBounds_toArray, List.set_cons_zero, List.set_cons_succ]))
    refine wpAnyH_done (by kernel_rfl) ?_ _
    go_wp2
    go_ret
    refine ⟨a2, n2, c2, gs, rfl, HG.out, ?_, (by (repeat (first | exact Ext.refl _ | refine Ext.alloc ?_ _ | refine Ext.drewN ?_ _ | refine Ext.drew ?_ | refine Ext.trans ?_ (Hid.out (by assumption)))))⟩
    rw [HMG.out, HM.out, HES.out]; unfold batchD; rw [if_pos H1.out]
  · have q1 : (x.k == 1) = false := by rw [hI.k]; simpa using h1
    have q2 : (x.k != 1) = true := by rw [bne, q1]; rfl
    have H1 := hid h1
    clear hI h1
    go_enter Tryz.func18, Tryz.ntmps18
    go_wp2
    go_ret
    refine ⟨none, 0, 0, [], rfl, ⟨Sl.nil _ EvV.wid, fun x hx => by cases hx⟩, ?_, (by (repeat (first | exact Ext.refl _ | refine Ext.alloc ?_ _ | refine Ext.drewN ?_ _ | refine Ext.drew ?_ | refine Ext.trans ?_ (Hid.out (by assumption)))))⟩
    unfold batchD; rw [if_neg H1.out]; rfl
end Go.Proofs.YtiifflojpoobpaaGreat

namespace Go.Proofs.YtiifflojpoobpaaGreat
open Go.RowKit
attribute [local go_sem ↓] Go.wp_at_zero Go.wp_at_succ

theorem retE_of {w wf : World} {x : EV} {d : ED} {l : List SD} {cl : List Int} {a2 : Option Addr} {n2 c2 : Nat} {zs : List EvV} (hI : EntryIs w x d) (hx : Ext w wf) (hsl : Sl wf 1 EvV.cs a2 n2 c2 zs) (hats : ∀ y, y ∈ zs → Sl w 4 AT.cs y.v.a y.v.n y.v.c y.ats) (hes : zs.map (·.ats) = (cutD l cl d).es) :
    RetE (cutD l cl d) w (.returned (.agg #[.int .i64 x.k, .int .i64 x.id.b, .int .u64 x.id.l, .int .u64 x.id.s, .int .i64 x.c, .int .u64 x.u, .slice x.f.a x.f.n x.f.c, .slice a2 n2 c2])) wf := by
  have e1 : (cutD l cl d).k = d.k := by unfold cutD; split <;> rfl
  have e2 : (cutD l cl d).id = d.id := by unfold cutD; split <;> rfl
  have e3 : (cutD l cl d).c = d.c := by unfold cutD; split <;> rfl
  have e4 : (cutD l cl d).u = d.u := by unfold cutD; split <;> rfl
  have e5 : (cutD l cl d).ts = d.ts := by unfold cutD; split <;> rfl
  exact ⟨⟨x.k, x.id, x.c, x.u, x.f, ⟨a2, n2, c2⟩⟩, rfl, ⟨hI.k.trans e1.symm, hI.id.trans e2.symm, hI.c.trans e3.symm, hI.u.trans e4.symm, by rw [e5]; exact hI.f.ext hx, zs, hes, hsl, fun y hy => (hats y hy).ext hx⟩, hx⟩
set_option maxRecDepth 100000 in
set_option maxHeartbeats 4000000 in
theorem rcut1_any (a : Option Addr) (n cap : Nat) (xs : List SB) (ia : Option Addr) (im ic : Nat) (cl : List Int) (x : EV) (d : ED) (w : World) (hS : Subs w a n cap xs) (hC : Sl w 1 iC ia im ic cl) (hI : EntryIs w x d) (hn : n ≤ 1000) (he : d.es.length ≤ 1000) (h1 : d.k = 1) :
    Calls Tryz.prog 15 #[.slice a n cap, .slice ia im ic, .agg #[.int .i64 x.k, .int .i64 x.id.b, .int .u64 x.id.l, .int .u64 x.id.s, .int .i64 x.c, .int .u64 x.u, .slice x.f.a x.f.n x.f.c, .slice x.e.a x.e.n x.e.c]] w (RetE (cutD (xs.map SB.d) cl d) w) := by
  obtain ⟨evs, hes, hev⟩ := hI.e
  have hen := hev.sl.neq
  have hel : evs.length ≤ 1000 := by rw [← List.length_map (f := (·.ats)), hes]; exact he
  have q1 : (x.k == 1) = true := by rw [hI.k, h1]; rfl
  have HS := hid hS
  have HC := hid hC
  have HI := hid hI
  have HV := hid hev
  have HES := hid hes
  have HN := hid hen
  have H1 := hid h1
  have HB := hid ((Box.new (w := w) (x := x) (t := 31)).ext ((Ext.refl _).alloc (.cells #[.int .i64 0, .int .i64 0, .int .u64 0, .int .u64 0, .int .i64 0, .int .u64 0, .slice none 0 0, .slice none 0 0] 31)))
  have hz := Box.new (w := w.alloc (.cells #[.int .i64 x.k, .int .i64 x.id.b, .int .u64 x.id.l, .int .u64 x.id.s, .int .i64 x.c, .int .u64 x.u, .slice x.f.a x.f.n x.f.c, .slice x.e.a x.e.n x.e.c] 31)) (x := zeroE) (t := 31)
  rw [show (w.alloc (.cells #[.int .i64 x.k, .int .i64 x.id.b, .int .u64 x.id.l, .int .u64 x.id.s, .int .i64 x.c, .int .u64 x.u, .slice x.f.a x.f.n x.f.c, .slice x.e.a x.e.n x.e.c] 31)).heap.size = w.heap.size + 1 from by simp] at hz
  have HZ := hid hz
  clear hS hC hI hev hes hen he h1 hz
  go_enter Tryz.func15, Tryz.ntmps15
  have k7 := HB.out.cells.2.2.2.2.2.2.2
  go_wp2_with fail
  go_region_law (first | ((rw [if_pos (show _ = true by simp [Region.wanted])]; go_simp); go_at_call 12; refine (rfilters_any _ _ _ xs _ _ _ cl _ ⟨HS.out.sl.ext (by (repeat (first | exact Ext.refl _ | refine Ext.alloc ?_ _ | refine Ext.drewN ?_ _ | refine Ext.drew ?_ | refine Ext.trans ?_ (Hid.out (by assumption))))), fun s hs => (HS.out.ts s hs).ext (by (repeat (first | exact Ext.refl _ | refine Ext.alloc ?_ _ | refine Ext.drewN ?_ _ | refine Ext.drew ?_ | refine Ext.trans ?_ (Hid.out (by assumption)))))⟩ (HC.out.ext (by (repeat (first | exact Ext.refl _ | refine Ext.alloc ?_ _ | refine Ext.drewN ?_ _ | refine Ext.drew ?_ | refine Ext.trans ?_ (Hid.out (by assumption)))))) hn).mono ?_; rintro e w1 ⟨a1, n1, c1, fs, rfl, hf, hmf, hb⟩; have HF := hid hf; have HM := hid hmf; have hy := hid hb; have HB1 := hid (HB.out.ext (show Ext ((w.alloc (.cells #[.int .i64 x.k, .int .i64 x.id.b, .int .u64 x.id.l, .int .u64 x.id.s, .int .i64 x.c, .int .u64 x.u, .slice x.f.a x.f.n x.f.c, .slice x.e.a x.e.n x.e.c] 31)).alloc (.cells #[.int .i64 0, .int .i64 0, .int .u64 0, .int .u64 0, .int .i64 0, .int .u64 0, .slice none 0 0, .slice none 0 0] 31)) w1 from (by (repeat (first | exact Ext.refl _ | refine Ext.alloc ?_ _ | refine Ext.drewN ?_ _ | refine Ext.drew ?_ | refine Ext.trans ?_ (Hid.out (by assumption))))))); have k7 := HB1.out.cells.2.2.2.2.2.2.2; clear hf hmf hb) | ((rw [if_pos (show _ = true by simp [Region.wanted])]; go_simp); go_at_call 46; refine (rmatchedO_any _ _ _ fs _ _ _ evs _ (HF.out.ext (by (repeat (first | exact Ext.refl _ | refine Ext.alloc ?_ _ | refine Ext.drewN ?_ _ | refine Ext.drew ?_ | refine Ext.trans ?_ (Hid.out (by assumption)))))) (HV.out.ext (by (repeat (first | exact Ext.refl _ | refine Ext.alloc ?_ _ | refine Ext.drewN ?_ _ | refine Ext.drew ?_ | refine Ext.trans ?_ (Hid.out (by assumption)))))) (by rw [HN.out]; omega)).mono ?_; rintro e w2 ⟨a2, n2, c2, rfl, hg, hb⟩; have HG := hid hg; have hy2 := hid hb; have HB2 := hid (HB1.out.ext hb); have k7 := HB2.out.cells.2.2.2.2.2.2.2; have kf := HB2.out.free 7; clear hg hb))
  all_goals
    have HB3 := hid (HB2.out.set7 ⟨a2, n2, c2⟩)
    have hxw := hid (show Ext ((w.alloc (.cells #[.int .i64 x.k, .int .i64 x.id.b, .int .u64 x.id.l, .int .u64 x.id.s, .int .i64 x.c, .int .u64 x.u, .slice x.f.a x.f.n x.f.c, .slice x.e.a x.e.n x.e.c] 31)).alloc (.cells #[.int .i64 0, .int .i64 0, .int .u64 0, .int .u64 0, .int .i64 0, .int .u64 0, .slice none 0 0, .slice none 0 0] 31)) w2 from Ext.trans (show Ext _ w1 from (by (repeat (first | exact Ext.refl _ | refine Ext.alloc ?_ _ | refine Ext.drewN ?_ _ | refine Ext.drew ?_ | refine Ext.trans ?_ (Hid.out (by assumption)))))) hy2.out)
    have HZ3 := hid ((HZ.out.ext hxw.out).far (p := ⟨w.heap.size, 7, none⟩) (Nat.succ_ne_self _) (.slice a2 n2 c2))
    obtain ⟨c0, c1, c2', c3, c4, c5, c6, c7⟩ := HB3.out.cells
    obtain ⟨r0, r1, r2, r3, r4, r5, r6, r7⟩ := HZ3.out.cells
    have fr := HZ3.out.free
    dsimp only [zeroE] at c0 c1 c2' c3 c4 c5 c6 c7 r0 r1 r2 r3 r4 r5 r6 r7
    have hs1 : w.heap.size + 1 < w1.heap.size := by
      have h := (show Ext ((w.alloc (.cells #[.int .i64 x.k, .int .i64 x.id.b, .int .u64 x.id.l, .int .u64 x.id.s, .int .i64 x.c, .int .u64 x.u, .slice x.f.a x.f.n x.f.c, .slice x.e.a x.e.n x.e.c] 31)).alloc (.cells #[.int .i64 0, .int .i64 0, .int .u64 0, .int .u64 0, .int .i64 0, .int .u64 0, .slice none 0 0, .slice none 0 0] 31)) w1 from (by (repeat (first | exact Ext.refl _ | refine Ext.alloc ?_ _ | refine Ext.drewN ?_ _ | refine Ext.drew ?_ | refine Ext.trans ?_ (Hid.out (by assumption)))))).size
      simp at h; omega
    have hxx := hid (show Ext w w2 from Ext.trans (((Ext.refl w).alloc _).alloc _) hxw.out)
    clear k7 kf HB1 HB2 hy
    go_wp2_with fail
    refine bodyPost_ret (v := .agg #[.int .i64 x.k, .int .i64 x.id.b, .int .u64 x.id.l, .int .u64 x.id.s, .int .i64 x.c, .int .u64 x.u, .slice x.f.a x.f.n x.f.c, .slice a2 n2 c2]) (by simp [results, Tryz.results15, go_sem, c0, c1, c2', c3, c4, c5, c6, c7, r0, r1, r2, r3, r4, r5, r6, r7]) rfl (retE_of (zs := evs.filter (fun e : EvV => fs.any fun f => matchesT f.ts e.ats)) HI.out ?_ ?_ (fun y hy' => HV.out.ats y (List.mem_filter.1 hy').1) ?_)
    · repeat (first | with_reducible exact hxx.out | refine Ext.setCell ?_ (by first | exact Nat.le_refl _ | exact Nat.le_succ _) _)
    · refine Own.sl (base := w1.heap.size) (e := 55) ?_
      repeat (first | with_reducible exact HG.out | refine Own.far ?_ (by first | exact hs1 | exact Nat.lt_of_succ_lt hs1) _)
    · rw [cut_of, HM.out, HES.out]; unfold cutD; rw [if_pos H1.out]
theorem retE_same {w wf : World} {x : EV} {d : ED} {l : List SD} {cl : List Int} (hk : ¬ d.k = 1) (hI : EntryIs w x d) (hx : Ext w wf) :
    RetE (cutD l cl d) w (.returned (.agg #[.int .i64 x.k, .int .i64 x.id.b, .int .u64 x.id.l, .int .u64 x.id.s, .int .i64 x.c, .int .u64 x.u, .slice x.f.a x.f.n x.f.c, .slice x.e.a x.e.n x.e.c])) wf := by
  obtain ⟨evs, hes, hev⟩ := hI.e
  exact retE_of hI hx (hev.sl.ext hx) hev.ats (by rw [hes]; unfold cutD; rw [if_neg hk])
set_option maxRecDepth 100000 in
set_option maxHeartbeats 4000000 in
theorem rcutO_any (a : Option Addr) (n cap : Nat) (xs : List SB) (ia : Option Addr) (im ic : Nat) (cl : List Int) (x : EV) (d : ED) (w : World) (hI : EntryIs w x d) (h1 : ¬ d.k = 1) :
    Calls Tryz.prog 15 #[.slice a n cap, .slice ia im ic, .agg #[.int .i64 x.k, .int .i64 x.id.b, .int .u64 x.id.l, .int .u64 x.id.s, .int .i64 x.c, .int .u64 x.u, .slice x.f.a x.f.n x.f.c, .slice x.e.a x.e.n x.e.c]] w (RetE (cutD (xs.map SB.d) cl d) w) := by
  have q1 : (x.k == 1) = false := by rw [hI.k]; simpa using h1
  have HI := hid hI
  have H1 := hid h1
  have HB := hid ((Box.new (w := w) (x := x) (t := 31)).ext ((Ext.refl _).alloc (.cells #[.int .i64 0, .int .i64 0, .int .u64 0, .int .u64 0, .int .i64 0, .int .u64 0, .slice none 0 0, .slice none 0 0] 31)))
  have hz := Box.new (w := w.alloc (.cells #[.int .i64 x.k, .int .i64 x.id.b, .int .u64 x.id.l, .int .u64 x.id.s, .int .i64 x.c, .int .u64 x.u, .slice x.f.a x.f.n x.f.c, .slice x.e.a x.e.n x.e.c] 31)) (x := zeroE) (t := 31)
  rw [show (w.alloc (.cells #[.int .i64 x.k, .int .i64 x.id.b, .int .u64 x.id.l, .int .u64 x.id.s, .int .i64 x.c, .int .u64 x.u, .slice x.f.a x.f.n x.f.c, .slice x.e.a x.e.n x.e.c] 31)).heap.size = w.heap.size + 1 from by simp] at hz
  have HZ := hid hz
  clear hI h1 hz
  go_enter Tryz.func15, Tryz.ntmps15
  obtain ⟨c0, c1, c2', c3, c4, c5, c6, c7⟩ := HB.out.cells
  obtain ⟨r0, r1, r2, r3, r4, r5, r6, r7⟩ := HZ.out.cells
  have fr := HZ.out.free
  dsimp only [zeroE] at r0 r1 r2 r3 r4 r5 r6 r7
  have hxx := hid (show Ext w ((w.alloc (.cells #[.int .i64 x.k, .int .i64 x.id.b, .int .u64 x.id.l, .int .u64 x.id.s, .int .i64 x.c, .int .u64 x.u, .slice x.f.a x.f.n x.f.c, .slice x.e.a x.e.n x.e.c] 31)).alloc (.cells #[.int .i64 0, .int .i64 0, .int .u64 0, .int .u64 0, .int .i64 0, .int .u64 0, .slice none 0 0, .slice none 0 0] 31)) from ((Ext.refl w).alloc _).alloc _)
  go_wp2_with fail
  refine bodyPost_ret (v := .agg #[.int .i64 x.k, .int .i64 x.id.b, .int .u64 x.id.l, .int .u64 x.id.s, .int .i64 x.c, .int .u64 x.u, .slice x.f.a x.f.n x.f.c, .slice x.e.a x.e.n x.e.c]) (by simp [results, Tryz.results15, go_sem, c0, c1, c2', c3, c4, c5, c6, c7, r0, r1, r2, r3, r4, r5, r6, r7]) rfl (retE_same H1.out HI.out ?_)
  repeat (first | with_reducible exact hxx.out | exact Ext.refl _ | refine Ext.alloc ?_ _ | refine Ext.setCell ?_ (by first | exact Nat.le_refl _ | exact Nat.le_succ _) _)
theorem rcut_any (a : Option Addr) (n cap : Nat) (xs : List SB) (ia : Option Addr) (im ic : Nat) (cl : List Int) (x : EV) (d : ED) (w : World) (hS : Subs w a n cap xs) (hC : Sl w 1 iC ia im ic cl) (hI : EntryIs w x d) (hn : n ≤ 1000) (he : d.es.length ≤ 1000) :
    Calls Tryz.prog 15 #[.slice a n cap, .slice ia im ic, .agg #[.int .i64 x.k, .int .i64 x.id.b, .int .u64 x.id.l, .int .u64 x.id.s, .int .i64 x.c, .int .u64 x.u, .slice x.f.a x.f.n x.f.c, .slice x.e.a x.e.n x.e.c]] w (RetE (cutD (xs.map SB.d) cl d) w) := by
  by_cases h1 : d.k = 1
  · exact rcut1_any a n cap xs ia im ic cl x d w hS hC hI hn he h1
  · exact rcutO_any a n cap xs ia im ic cl x d w hI h1
end Go.Proofs.YtiifflojpoobpaaGreat

