/- Two entries whose lists of events are not of one length: the walk of the document's Same. -/
import Derived.Test.YtiifflojpoobpaaSame11
import Derived.Test.YtiifflojpoobpaaBatch15
set_option linter.unusedVariables false
set_option linter.unusedSimpArgs false
namespace Go.Proofs.Ytiifflojpoobpaa
open Go.RowKit

set_option maxHeartbeats 2000000 in
theorem notE11_any (x y : EV) (d d' : ED) (w : World) (hI : EntryIs w x d) (hJ : EntryIs w y d') (ht : d'.ts = d.ts) (hl : d'.es.length ≠ d.es.length) :
    Calls Try.prog 12 #[.agg #[.int .i64 x.k, .int .i64 x.id.b, .int .u64 x.id.l, .int .u64 x.id.s, .int .i64 x.c, .int .u64 x.u, .slice x.f.a x.f.n x.f.c, .slice x.e.a x.e.n x.e.c], .agg #[.int .i64 y.k, .int .i64 y.id.b, .int .u64 y.id.l, .int .u64 y.id.s, .int .i64 y.c, .int .u64 y.u, .slice y.f.a y.f.n y.f.c, .slice y.e.a y.e.n y.e.c]] w fun e w' => e = .returned (.bool false) ∧ Ext w w' := by
  obtain ⟨evs, hes, hev⟩ := hI.e
  obtain ⟨fvs, hfs, hfv⟩ := hJ.e
  have hne : ¬ x.e.n = y.e.n := by
    have h1 := hev.sl.neq
    have h2 := hfv.sl.neq
    rw [← List.length_map (f := (·.ats)), hes] at h1
    rw [← List.length_map (f := (·.ats)), hfs] at h2
    omega
  have hT := hI.f
  have hU := hJ.f
  rw [ht] at hU
  have HT := hid hT
  have HU := hid hU
  clear hI hJ hT hU hev hfv hes hfs hl ht
  go_enter Try.func12, Try.ntmps12
  go_wp2_with fail
  refine (sameT_any _ _ _ _ _ _ d.ts _ (HT.out.ext (((Ext.refl w).alloc _).alloc _)) (HU.out.ext (((Ext.refl w).alloc _).alloc _))).mono ?_
  rintro e w1 ⟨rfl, hb⟩
  have x7 : w1.cell? ⟨w.heap.size, 7, none⟩ = some (.slice x.e.a x.e.n x.e.c) := hb.keep (by simp)
  have y7 : w1.cell? ⟨w.heap.size + 1, 7, none⟩ = some (.slice y.e.a y.e.n y.e.c) := hb.keep (by simp)
  have hx1 := hid hb
  clear hb
  go_wp2
  go_ret
  refine ⟨rfl, ?_⟩
  (repeat (first | exact Ext.refl _ | refine Ext.alloc ?_ _ | refine Ext.drewN ?_ _ | refine Ext.drew ?_ | refine Ext.trans ?_ (Hid.out (by assumption))))
/-- A Bool that is true where something holds. -/
def RetBo (P : Prop) (w : World) (e : Ending) (w' : World) : Prop := ∃ b : Bool, e = .returned (.bool b) ∧ (P → b = true) ∧ Ext w w'
theorem sub_all {α : Type} {p : α → Bool} {l : List α} (h : (l.filter p).length = l.length) : l.filter p = l := by
  rw [List.filter_eq_self]
  exact fun x hx => List.length_filter_eq_length_iff.1 h x hx
theorem cut_ts (l : List SD) (cl : List Int) (d : ED) : (cutD l cl d).ts = d.ts := by unfold cutD; split <;> rfl
theorem cut_id (l : List SD) (cl : List Int) (d : ED) : (cutD l cl d).id = d.id := by unfold cutD; split <;> rfl
theorem cut_same (l : List SD) (cl : List Int) (d : ED) (h : (cutD l cl d).es.length = d.es.length) : cutD l cl d = d := by
  unfold cutD at *
  split
  · next hk =>
    rw [if_pos hk] at h
    have : matchedD (filtersD l cl) d.es = d.es := sub_all h
    rw [this]
  · rfl
theorem cut_not {l : List SD} {cl : List Int} {d : ED} (hk : d.k ≠ 1) : cutD l cl d = d := by unfold cutD; rw [if_neg hk]
theorem cut_none {l : List SD} {d : ED} (hk : d.k = 1) : (cutD l [] d).es = [] := by unfold cutD; rw [if_pos hk, filters_nil]; exact matched_nil _
theorem sameC_any (x y : EV) (l : List SD) (cl : List Int) (d : ED) (w : World) (hI : EntryIs w x (cutD l cl d)) (hJ : EntryIs w y d) :
    Calls Try.prog 12 #[.agg #[.int .i64 x.k, .int .i64 x.id.b, .int .u64 x.id.l, .int .u64 x.id.s, .int .i64 x.c, .int .u64 x.u, .slice x.f.a x.f.n x.f.c, .slice x.e.a x.e.n x.e.c], .agg #[.int .i64 y.k, .int .i64 y.id.b, .int .u64 y.id.l, .int .u64 y.id.s, .int .i64 y.c, .int .u64 y.u, .slice y.f.a y.f.n y.f.c, .slice y.e.a y.e.n y.e.c]] w (RetBo (d.k ≠ 1) w) := by
  by_cases hn : (cutD l cl d).es.length = d.es.length
  · rw [cut_same l cl d hn] at hI
    exact (sameE11_any x y d w hI hJ).mono fun e w' ⟨he, hx⟩ => ⟨true, he, fun _ => rfl, hx⟩
  · exact (notE11_any x y _ d w hI hJ (cut_ts l cl d).symm (fun h => hn h.symm)).mono fun e w' ⟨he, hx⟩ => ⟨false, he, fun hk => absurd (by rw [cut_not hk]) hn, hx⟩
end Go.Proofs.Ytiifflojpoobpaa
