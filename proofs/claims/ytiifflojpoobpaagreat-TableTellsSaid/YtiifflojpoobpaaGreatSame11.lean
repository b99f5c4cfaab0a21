/- Two entries that hold the same: the walk of the document's Same. -/
import Derived.Test.YtiifflojpoobpaaGreatSame15
set_option linter.unusedVariables false
set_option linter.unusedSimpArgs false
namespace Go.Proofs.YtiifflojpoobpaaGreat
open Go.RowKit

def idEq (i j : Id) : Bool := decide (i.b = j.b) && decide (i.l = j.l) && decide (i.s = j.s)
theorem idEq_iff (i j : Id) : idEq i j = decide (i = j) := by
  obtain ⟨a, b, c⟩ := i; obtain ⟨x, y, z⟩ := j
  rw [Bool.eq_iff_iff]
  simp [idEq, and_assoc]
theorem run_eqId (b l s b' l' s' : Int) (w : World) :
    (binOp .eql 26 (.agg #[.int .i64 b, .int .u64 l, .int .u64 s]) (.agg #[.int .i64 b', .int .u64 l', .int .u64 s'])).run Tryz.prog w = .ok (.bool (idEq ⟨b, l, s⟩ ⟨b', l', s'⟩)) w := by
  unfold idEq
  by_cases h1 : b = b' <;> by_cases h2 : l = l' <;> simp [h1, h2, go_sem]
  split <;> simp_all

theorem idEq_comm (i j : Id) : idEq i j = idEq j i := by
  rw [idEq_iff, idEq_iff, Bool.eq_iff_iff]; simp [eq_comm]
theorem run_eqId' (b l s b' l' s' : Int) (w : World) :
    (binOp .eql 26 (.agg #[.int .i64 b, .int .u64 l, .int .u64 s]) (.agg #[.int .i64 b', .int .u64 l', .int .u64 s'])).run Tryz.prog w = .ok (.bool (idEq ⟨b', l', s'⟩ ⟨b, l, s⟩)) w := by
  rw [run_eqId, idEq_comm]

theorem idEq_true {a b : Id} : idEq a b = true ↔ a = b := by
  unfold idEq
  obtain ⟨b1, l1, s1⟩ := a
  obtain ⟨b2, l2, s2⟩ := b
  simp [and_assoc]

set_option maxHeartbeats 2000000 in
theorem sameE11_any (x y : EV) (d : ED) (w : World) (hI : EntryIs w x d) (hJ : EntryIs w y d) :
    Calls Tryz.prog 13 #[.agg #[.int .i64 x.k, .int .i64 x.id.b, .int .u64 x.id.l, .int .u64 x.id.s, .int .i64 x.c, .int .u64 x.u, .slice x.f.a x.f.n x.f.c, .slice x.e.a x.e.n x.e.c], .agg #[.int .i64 y.k, .int .i64 y.id.b, .int .u64 y.id.l, .int .u64 y.id.s, .int .i64 y.c, .int .u64 y.u, .slice y.f.a y.f.n y.f.c, .slice y.e.a y.e.n y.e.c]] w fun e w' => e = .returned (.bool true) ∧ Ext w w' := by
  obtain ⟨evs, hes, hev⟩ := hI.e
  obtain ⟨fvs, hfs, hfv⟩ := hJ.e
  have hT := hI.f
  have hU := hJ.f
  obtain ⟨xk, xi, xc, xu, ⟨fa, fn, fc⟩, ⟨ea, en, ec⟩⟩ := x
  obtain ⟨yk, yi, yc, yu, ⟨ga, gn, gc⟩, ⟨ha, hn, hc⟩⟩ := y
  obtain rfl : xk = d.k := hI.k
  obtain rfl : yk = d.k := hJ.k
  obtain rfl : xi = d.id := hI.id
  obtain rfl : yi = d.id := hJ.id
  obtain rfl : xc = d.c := hI.c
  obtain rfl : yc = d.c := hJ.c
  obtain rfl : xu = d.u := hI.u
  obtain rfl : yu = d.u := hJ.u
  dsimp only at hT hU hev hfv ⊢
  obtain rfl := hev.sl.neq
  have hlen : evs.length = fvs.length := by
    have h1 := congrArg List.length hes
    have h2 := congrArg List.length hfs
    rw [List.length_map] at h1 h2; omega
  obtain rfl : hn = evs.length := by have := hfv.sl.neq; omega
  have hm := hev.sl.max
  have hl := hev.sl.len
  unfold maxLen at hm
  have HT := hid hT
  have HU := hid hU
  have HEV := hid hev
  have HFV := hid hfv
  have HLEN := hid hlen
  have HATS : Hid (∀ (k : Nat) (hk : k < evs.length) (hk' : k < fvs.length), evs[k].ats = fvs[k].ats) := fun k hk hk' => by
    have h1 : (evs.map (·.ats))[k]? = (fvs.map (·.ats))[k]? := by rw [hes, hfs]
    rw [List.getElem?_map, List.getElem?_map, List.getElem?_eq_getElem hk, List.getElem?_eq_getElem hk'] at h1
    simpa using h1
  clear hI hJ hT hU hev hfv hes hfs hlen
  go_enter Tryz.func13, Tryz.ntmps13
  go_wp2_with fail
  refine (sameT_any fa ga fn gn fc gc d.ts _ (HT.out.ext (((Ext.refl w).alloc _).alloc _)) (HU.out.ext (((Ext.refl w).alloc _).alloc _))).mono ?_
  rintro e w1 ⟨rfl, hb⟩
  have x0 : w1.cell? ⟨w.heap.size, 0, none⟩ = some (.int .i64 d.k) := hb.keep (by simp)
  have x1 : w1.cell? ⟨w.heap.size, 1, none⟩ = some (.int .i64 d.id.b) := hb.keep (by simp)
  have x2 : w1.cell? ⟨w.heap.size, 2, none⟩ = some (.int .u64 d.id.l) := hb.keep (by simp)
  have x3 : w1.cell? ⟨w.heap.size, 3, none⟩ = some (.int .u64 d.id.s) := hb.keep (by simp)
  have x4 : w1.cell? ⟨w.heap.size, 4, none⟩ = some (.int .i64 d.c) := hb.keep (by simp)
  have x5 : w1.cell? ⟨w.heap.size, 5, none⟩ = some (.int .u64 d.u) := hb.keep (by simp)
  have x7 : w1.cell? ⟨w.heap.size, 7, none⟩ = some (.slice ea evs.length ec) := hb.keep (by simp)
  have y0 : w1.cell? ⟨w.heap.size + 1, 0, none⟩ = some (.int .i64 d.k) := hb.keep (by simp)
  have y1 : w1.cell? ⟨w.heap.size + 1, 1, none⟩ = some (.int .i64 d.id.b) := hb.keep (by simp)
  have y2 : w1.cell? ⟨w.heap.size + 1, 2, none⟩ = some (.int .u64 d.id.l) := hb.keep (by simp)
  have y3 : w1.cell? ⟨w.heap.size + 1, 3, none⟩ = some (.int .u64 d.id.s) := hb.keep (by simp)
  have y4 : w1.cell? ⟨w.heap.size + 1, 4, none⟩ = some (.int .i64 d.c) := hb.keep (by simp)
  have y5 : w1.cell? ⟨w.heap.size + 1, 5, none⟩ = some (.int .u64 d.u) := hb.keep (by simp)
  have y7 : w1.cell? ⟨w.heap.size + 1, 7, none⟩ = some (.slice ha evs.length hc) := hb.keep (by simp)
  have hx1 := hid hb
  clear hb
  go_wp2_with fail
  go_loopg [6, 7] (evs.length) (fun g st _ wr => ∃ k : Nat, g + k = evs.length ∧ st = .int .i64 k ∧ Hid (Ext w1 wr))
  case atStart => exact ⟨0, by omega, rfl, Ext.refl _⟩
  case round =>
    obtain ⟨k, hg, rfl, hx⟩ := hrel
    have t0 := hx.out.keep x0
    have t1 := hx.out.keep x1
    have t2 := hx.out.keep x2
    have t3 := hx.out.keep x3
    have t4 := hx.out.keep x4
    have t5 := hx.out.keep x5
    have t7 := hx.out.keep x7
    have u0 := hx.out.keep y0
    have u1 := hx.out.keep y1
    have u2 := hx.out.keep y2
    have u3 := hx.out.keep y3
    have u4 := hx.out.keep y4
    have u5 := hx.out.keep y5
    have u7 := hx.out.keep y7
    by_cases hk : k < evs.length
    · have hk' : k < fvs.length := by have := HLEN.out; omega
      obtain ⟨b1, o1, rfl, hc1⟩ := HEV.out.sl.get k hk
      obtain ⟨b2, o2, rfl, hc2⟩ := HFV.out.sl.get k hk'
      have hE : Ext w wr := (by (repeat (first | exact Ext.refl _ | refine Ext.alloc ?_ _ | refine Ext.drewN ?_ _ | refine Ext.drew ?_ | refine Ext.trans ?_ (Hid.out (by assumption)))))
      have d1 := cells1 (w := wr) (b := b1) (o := o1 + k * 1) (x := evs[k]) (fun j v hj => hE.keep (hc1 j v hj))
      have d2 := cells1 (w := wr) (b := b2) (o := o2 + k * 1) (x := fvs[k]) (fun j v hj => hE.keep (hc2 j v hj))
      rw [Nat.mul_one] at d1 d2
      have HV := hid ((HEV.out.ats evs[k] (List.getElem_mem hk)).ext hE)
      have HW := hid ((HFV.out.ats fvs[k] (List.getElem_mem hk')).ext hE)
      have HAT := hid (HATS.out k hk hk')
      clear hc1 hc2 hE
      have e0 : (0 : Int) ≤ (k : Int) := by omega
      have e1 : (k : Int) < (evs.length : Int) := by omega
      go_wp2_with fail
      go_region_held3 (fun w' => w'.cell? ⟨w.heap.size, 7, none⟩ = some (.slice (some ⟨b1, o1, none⟩) evs.length ec) ∧ w'.cell? ⟨w.heap.size + 1, 7, none⟩ = some (.slice (some ⟨b2, o2, none⟩) evs.length hc) ∧ w'.cell? ⟨b1, o1 + k, none⟩ = some (.slice evs[k].v.a evs[k].v.n evs[k].v.c) ∧ w'.cell? ⟨b2, o2 + k, none⟩ = some (.slice fvs[k].v.a fvs[k].v.n fvs[k].v.c))
        (first | (go_split_ands; refine ⟨?_, ?_, ?_, ?_⟩ <;> exact (Hid.out hy).keep (by assumption)) | go_keep)
        ((go_at_call 40; refine (sameA_any _ _ _ _ _ _ evs[k].ats _ (HV.out.ext (by (repeat (first | exact Ext.refl _ | refine Ext.alloc ?_ _ | refine Ext.drewN ?_ _ | refine Ext.drew ?_ | refine Ext.trans ?_ (Hid.out (by assumption)))))) (by rw [HAT.out]; exact HW.out.ext (by (repeat (first | exact Ext.refl _ | refine Ext.alloc ?_ _ | refine Ext.drewN ?_ _ | refine Ext.drew ?_ | refine Ext.trans ?_ (Hid.out (by assumption))))))).mono ?_; rintro e wq ⟨rfl, hb⟩; have hy := hid hb; clear hb))
      all_goals
        go_wp2
        go_roundg (gk - 1)
        case measure => omega
        case rel => exact ⟨k + 1, by omega, by go_num, (by (repeat (first | exact Ext.refl _ | refine Ext.alloc ?_ _ | refine Ext.drewN ?_ _ | refine Ext.drew ?_ | refine Ext.trans ?_ (Hid.out (by assumption)))))⟩
    · have heq := run_eqId d.id.b d.id.l d.id.s d.id.b d.id.l d.id.s
      have he' : idEq ⟨d.id.b, d.id.l, d.id.s⟩ ⟨d.id.b, d.id.l, d.id.s⟩ = true := idEq_true.2 rfl
      go_wp2
      go_ret
      refine ⟨rfl, ?_⟩
      (repeat (first | exact Ext.refl _ | refine Ext.alloc ?_ _ | refine Ext.drewN ?_ _ | refine Ext.drew ?_ | refine Ext.trans ?_ (Hid.out (by assumption))))

end Go.Proofs.YtiifflojpoobpaaGreat
