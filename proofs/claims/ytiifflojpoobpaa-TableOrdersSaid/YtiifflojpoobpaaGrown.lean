/- Subscriptions behind some entries: the walk of the statements' grown. -/
import Derived.Test.YtiifflojpoobpaaApply
import Derived.Test.YtiifflojpoobpaaChk15
import Derived.Test.YtiifflojpoobpaaFewE
set_option linter.unusedVariables false
set_option linter.unusedSimpArgs false
namespace Go.Proofs.Ytiifflojpoobpaa
open Go.RowKit

theorem cellsE {w : World} {b o : Nat} {x : EV} (h : CellsAt w b o x.cs) :
    w.cell? ⟨b, o, none⟩ = some (.int .i64 x.k) ∧ w.cell? ⟨b, o + 1, none⟩ = some (.int .i64 x.id.b) ∧ w.cell? ⟨b, o + 2, none⟩ = some (.int .u64 x.id.l) ∧ w.cell? ⟨b, o + 3, none⟩ = some (.int .u64 x.id.s) ∧ w.cell? ⟨b, o + 4, none⟩ = some (.int .i64 x.c) ∧ w.cell? ⟨b, o + 5, none⟩ = some (.int .u64 x.u) ∧ w.cell? ⟨b, o + 6, none⟩ = some (.slice x.f.a x.f.n x.f.c) ∧ w.cell? ⟨b, o + 7, none⟩ = some (.slice x.e.a x.e.n x.e.c) :=
  ⟨h 0 _ rfl, h 1 _ rfl, h 2 _ rfl, h 3 _ rfl, h 4 _ rfl, h 5 _ rfl, h 6 _ rfl, h 7 _ rfl⟩
theorem two_filters {α : Type} {p q : α → Bool} : ∀ (l : List α), (∀ x, x ∈ l → p x = true → q x = false) → (l.filter p).length + (l.filter q).length ≤ l.length
  | [], _ => by simp
  | x :: l, h => by
    have ih := two_filters l (fun y hy => h y (List.mem_cons_of_mem _ hy))
    have hx := h x List.mem_cons_self
    rw [List.filter_cons, List.filter_cons, List.length_cons]
    cases hp : p x <;> cases hq : q x
    · simp; omega
    · simp; omega
    · simp; omega
    · rw [hx hp] at hq; cases hq
theorem apply_len (l : List SD) (d : ED) : (applyD l d).length ≤ l.length + 1 := by
  unfold applyD
  split
  · have h := two_filters (p := fun s => decide (sideI s d.c d.u < 0)) (q := fun s => decide (0 < sideI s d.c d.u)) l (fun x _ h => by simp only [decide_eq_true_eq, decide_eq_false_iff_not] at h ⊢; omega)
    rw [List.length_append, List.length_append]
    split <;> simp only [List.length_singleton, List.length_nil] <;> omega
  · omega
theorem apply_mem {l : List SD} {d : ED} {s : SD} (h : s ∈ applyD l d) : s ∈ l ∨ s.ts = d.ts := by
  unfold applyD at h
  split at h
  · rcases List.mem_append.1 h with h | h
    · exact .inl (List.mem_filter.1 h).1
    · rcases List.mem_append.1 h with h | h
      · split at h
        · rw [List.mem_singleton.1 h]; exact .inr rfl
        · cases h
      · exact .inl (List.mem_filter.1 h).1
  · exact .inl h
/-- what subscriptions behind at most k entries are -/
structure GR (k : Nat) (l : List SD) : Prop where
  len : l.length ≤ k
  ok : okS l
  ris : risesD l
  few : ∀ s, s ∈ l → s.ts.length ≤ 100
theorem GR.next {k : Nat} {l : List SD} {d : ED} (h : GR k l) (hd : okD d) (hs : Small d) : GR (k + 1) (applyD l d) :=
  ⟨by have := apply_len l d; have := h.len; omega, ok_apply h.ok hd.1, rises_apply h.ris d, fun s hm => (apply_mem hm).elim (h.few s) (fun e => by rw [e]; exact hs.ts)⟩
theorem GR.mono {k m : Nat} {l : List SD} (h : GR k l) (hk : k ≤ m) : GR m l := ⟨Nat.le_trans h.len hk, h.ok, h.ris, h.few⟩
theorem GR.nil : GR 0 ([] : List SD) := ⟨by simp, (fun s hs => by cases hs), List.Pairwise.nil, (fun s hs => by cases hs)⟩
def RetG (w : World) (e : Ending) (w' : World) : Prop := ∃ aa n cap ys, e = .returned (.slice aa n cap) ∧ Subs w' aa n cap ys ∧ GR 30 (ys.map SB.d) ∧ Ext w w'
set_option maxRecDepth 100000 in
set_option maxHeartbeats 2000000 in
theorem grown_any (a : Option Addr) (n cap : Nat) (ps : List EP) (w : World) (hE : Ents w a n cap ps) :
    Calls Try.prog 10 #[.slice a n cap] w (RetG w) := by
  obtain rfl := hE.sl.neq
  have hm := hE.sl.max
  have hl := hE.sl.len
  unfold maxLen at hm
  have HE := hid hE
  clear hE
  go_enter Try.func10, Try.ntmps10
  go_wp2_with fail
  go_loopg [3, 4] (ps.length) (fun g ov st wr => ∃ (k : Nat) (aa : Option Addr) (m cp : Nat) (ys : List SB), g + k = ps.length ∧ k ≤ 30 ∧ st = .int .i64 k ∧ ov = .slice aa m cp ∧ Hid (Subs wr aa m cp ys ∧ GR k (ys.map SB.d)) ∧ Hid (Ext w wr))
  case atStart => exact ⟨0, none, 0, 0, [], by omega, by omega, rfl, rfl, ⟨Subs.nil _, GR.nil⟩, Ext.refl _⟩
  case round =>
    obtain ⟨k, aa, m, cp, ys, hg, hk30, rfl, rfl, hT, hx⟩ := hrel
    by_cases hk : k < ps.length
    · by_cases hk3 : k < 30
      · obtain ⟨b, o, rfl, hc⟩ := HE.out.sl.get k hk
        have hcells := fun (wx : World) (hw : Ext wr wx) => cellsE (w := wx) (b := b) (o := o + k * 8) (x := ps[k].x) (fun j v hj => hw.keep (hx.out.keep (hc j v hj)))
        have HCE := hid hcells
        obtain ⟨d0, d1, d2, d3, d4, d5, d6, d7⟩ := hcells wr (Ext.refl _)
        have HP := hid (HE.out.is ps[k] (List.getElem_mem hk))
        clear hc hcells
        have b0 : (0 : Int) ≤ (k : Int) := by omega
        have b1 : (k : Int) < (ps.length : Int) := by omega
        have b2 : (k : Int) < 30 := by omega
        go_wp2_with fail
        refine (few11_any ps[k].x ps[k].d _ (HP.out.ext (by (repeat (first | exact Ext.refl _ | refine Ext.alloc ?_ _ | refine Ext.drewN ?_ _ | refine Ext.drew ?_ | refine Ext.trans ?_ (Hid.out (by assumption))))))).mono ?_
        rintro e w1 ⟨f, rfl, hf, hb⟩
        have hy1 := hid hb
        have HFW := hid hf
        clear hb hf d0 d1 d2 d3 d4 d5 d6 d7
        obtain ⟨d0, d1, d2, d3, d4, d5, d6, d7⟩ := HCE.out w1 hy1.out
        cases f with
        | false =>
          go_wp2
          go_roundg (gk - 1)
          case measure => omega
          case rel => exact ⟨k + 1, aa, m, cp, ys, by omega, by omega, by go_num, rfl, ⟨⟨hT.out.1.sl.ext (by (repeat (first | exact Ext.refl _ | refine Ext.alloc ?_ _ | refine Ext.drewN ?_ _ | refine Ext.drew ?_ | refine Ext.trans ?_ (Hid.out (by assumption))))), fun s hs => (hT.out.1.ts s hs).ext (by (repeat (first | exact Ext.refl _ | refine Ext.alloc ?_ _ | refine Ext.drewN ?_ _ | refine Ext.drew ?_ | refine Ext.trans ?_ (Hid.out (by assumption)))))⟩, hT.out.2.mono (Nat.le_succ _)⟩, (by (repeat (first | exact Ext.refl _ | refine Ext.alloc ?_ _ | refine Ext.drewN ?_ _ | refine Ext.drew ?_ | refine Ext.trans ?_ (Hid.out (by assumption)))))⟩
        | true =>
          go_wp2_with fail
          refine (chkN_any ps[k].x ps[k].d _ (HP.out.ext (by (repeat (first | exact Ext.refl _ | refine Ext.alloc ?_ _ | refine Ext.drewN ?_ _ | refine Ext.drew ?_ | refine Ext.trans ?_ (Hid.out (by assumption))))))).mono ?_
          rintro e w2 ⟨z, rfl, hz, hz2, hb⟩
          have hy2 := hid (hy1.out.trans hb)
          have HZ := hid hz
          clear hb hz hy1 d0 d1 d2 d3 d4 d5 d6 d7
          obtain ⟨d0, d1, d2, d3, d4, d5, d6, d7⟩ := HCE.out w2 hy2.out
          rcases hz2 with rfl | rfl
          · go_wp2_with fail
            refine (apply_any _ _ _ ys ps[k].x ps[k].d _ ⟨hT.out.1.sl.ext (by (repeat (first | exact Ext.refl _ | refine Ext.alloc ?_ _ | refine Ext.drewN ?_ _ | refine Ext.drew ?_ | refine Ext.trans ?_ (Hid.out (by assumption))))), fun s hs => (hT.out.1.ts s hs).ext (by (repeat (first | exact Ext.refl _ | refine Ext.alloc ?_ _ | refine Ext.drewN ?_ _ | refine Ext.drew ?_ | refine Ext.trans ?_ (Hid.out (by assumption)))))⟩ (HP.out.ext (by (repeat (first | exact Ext.refl _ | refine Ext.alloc ?_ _ | refine Ext.drewN ?_ _ | refine Ext.drew ?_ | refine Ext.trans ?_ (Hid.out (by assumption)))))) (fun s hs => Nat.le_trans (hT.out.2.few s.d (List.mem_map_of_mem hs)) (by decide)) (by have h1 := hT.out.2.len; rw [List.length_map] at h1; rw [hT.out.1.sl.neq]; omega) (Nat.le_trans (HFW.out trivial).ts (by decide))).mono ?_
            rintro e w3 ⟨a3, n3, c3, zs, rfl, hs3, hd3, hb⟩
            have hy3 := hid hb
            have HS3 := hid hs3
            have HD3 := hid hd3
            clear hb hs3 hd3
            go_wp2
            go_roundg (gk - 1)
            case measure => omega
            case rel => exact ⟨k + 1, a3, n3, c3, zs, by omega, by omega, by go_num, rfl, ⟨HS3.out, by rw [HD3.out]; exact hT.out.2.next (HZ.out trivial) (HFW.out trivial)⟩, (by (repeat (first | exact Ext.refl _ | refine Ext.alloc ?_ _ | refine Ext.drewN ?_ _ | refine Ext.drew ?_ | refine Ext.trans ?_ (Hid.out (by assumption)))))⟩
          · go_wp2
            go_roundg (gk - 1)
            case measure => omega
            case rel => exact ⟨k + 1, aa, m, cp, ys, by omega, by omega, by go_num, rfl, ⟨⟨hT.out.1.sl.ext (by (repeat (first | exact Ext.refl _ | refine Ext.alloc ?_ _ | refine Ext.drewN ?_ _ | refine Ext.drew ?_ | refine Ext.trans ?_ (Hid.out (by assumption))))), fun s hs => (hT.out.1.ts s hs).ext (by (repeat (first | exact Ext.refl _ | refine Ext.alloc ?_ _ | refine Ext.drewN ?_ _ | refine Ext.drew ?_ | refine Ext.trans ?_ (Hid.out (by assumption)))))⟩, hT.out.2.mono (Nat.le_succ _)⟩, (by (repeat (first | exact Ext.refl _ | refine Ext.alloc ?_ _ | refine Ext.drewN ?_ _ | refine Ext.drew ?_ | refine Ext.trans ?_ (Hid.out (by assumption)))))⟩
      · go_wp2
        go_ret
        exact ⟨aa, m, cp, ys, rfl, hT.out.1, hT.out.2.mono hk30, hx.out⟩
    · go_wp2
      go_ret
      exact ⟨aa, m, cp, ys, rfl, hT.out.1, hT.out.2.mono hk30, hx.out⟩
end Go.Proofs.Ytiifflojpoobpaa
