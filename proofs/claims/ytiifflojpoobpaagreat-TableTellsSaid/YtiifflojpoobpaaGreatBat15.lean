/- A client's batch: the walk of the program's Batch. -/
import Derived.Test.YtiifflojpoobpaaGreatBatch15
import Derived.Deep.DeepCutAuto
set_option linter.unusedVariables false
set_option linter.unusedSimpArgs false
namespace Go.Proofs.YtiifflojpoobpaaGreat
open Go.RowKit

theorem batch_of (xs : List SB) (c : Int) (evs : List EvV) : (evs.filter (fun e => (xs.filter (fun s : SB => decide (s.c = c))).any fun s => matchesT s.ts e.ats)).map (·.ats) = matchedD (askedD (xs.map SB.d) [c]) (evs.map (·.ats)) := by
  unfold matchedD askedD
  rw [List.filter_map]
  congr 1
  refine List.filter_congr fun e _ => ?_
  show ((xs.filter (fun s : SB => decide (s.c = c))).any fun s => matchesT s.ts e.ats) = ((((xs.map SB.d).filter (fun s => [c].contains s.c)).map (·.ts)).any fun f => matchesT f e.ats)
  rw [List.filter_map, List.map_map, List.any_map]
  congr 1
  refine List.filter_congr fun s _ => ?_
  rw [Bool.eq_iff_iff]; simp [SB.d]; exact decide_eq_true_iff.symm
theorem evs_len {evs : List EvV} {es : List (List AT)} (h : evs.map (·.ats) = es) {m : Nat} (hl : es.length ≤ m) (ha : ∀ e, e ∈ es → e.length ≤ m) : evs.length ≤ m ∧ ∀ x, x ∈ evs → x.ats.length ≤ m :=
  ⟨by rw [← List.length_map (f := (·.ats)), h]; exact hl, fun x hx => ha _ (by rw [← h]; exact List.mem_map_of_mem hx)⟩
set_option maxRecDepth 100000 in
set_option maxHeartbeats 1000000 in
theorem batch_any (a : Option Addr) (n cap : Nat) (xs : List SB) (c : Int) (x : EV) (d : ED) (w : World) (hS : Subs w a n cap xs) (hI : EntryIs w x d) (hn : n ≤ 1000) (he : d.es.length ≤ 1000) (ha : ∀ e, e ∈ d.es → e.length ≤ 1000) :
    Calls Tryz.prog 17 #[.slice a n cap, .int .i64 c, .agg #[.int .i64 x.k, .int .i64 x.id.b, .int .u64 x.id.l, .int .u64 x.id.s, .int .i64 x.c, .int .u64 x.u, .slice x.f.a x.f.n x.f.c, .slice x.e.a x.e.n x.e.c]] w (RetEvs (batchD (xs.map SB.d) c d) w) := by
  obtain ⟨evs, hes, hev⟩ := hI.e
  obtain ⟨l1, l2⟩ := evs_len hes he ha
  obtain rfl := hS.sl.neq
  have hen := hev.sl.neq
  have hm := hS.sl.max
  have hl := hS.sl.len
  unfold maxLen at hm
  have hkk := hI.k
  have HS := hid hS
  have HV := hid hev
  have HES := hid hes
  have HA := hid l2
  have HN := hid hen
  clear hS hI hev hes l2 he ha hen
  by_cases h1 : d.k = 1
  · have hk : x.k = 1 := by rw [hkk]; exact h1
    have HB := hid (show batchD (xs.map SB.d) c d = matchedD (askedD (xs.map SB.d) [c]) d.es from by unfold batchD; rw [if_pos h1])
    clear h1 hkk
    go_enter Tryz.func17, Tryz.ntmps17
    go_wp2_with fail
    refine (keepS_any _ _ _ xs (fun s : SB => decide (s.c = c)) 47 ⟨w.heap.size, 0, none⟩ _ (HS.out.sl.ext (by (repeat (first | exact Ext.refl _ | refine Ext.alloc ?_ _ | refine Ext.drewN ?_ _ | refine Ext.drew ?_ | refine Ext.trans ?_ (Hid.out (by assumption)))))) (by omega) (fun _ _ => by kernel_rfl) (fun s _ w' hw => batch1_any s w.heap.size c w' (hw.keep (by simp)))).mono ?_
    rintro e w1 ⟨a1, n1, c1, rfl, hO, hb⟩
    have c7 : w1.cell? ⟨w.heap.size + 1, 7, none⟩ = some (.slice x.e.a x.e.n x.e.c) := hb.keep (by simp)
    have hsub : ∀ s, s ∈ xs.filter (fun s : SB => decide (s.c = c)) → s ∈ xs := fun s hs => (List.mem_filter.1 hs).1
    have HR := hid (batch_of xs c evs)
    generalize xs.filter (fun s : SB => decide (s.c = c)) = L at hO hsub HR
    have hy := hid (show Ext w w1 from Ext.trans (((Ext.refl w).alloc _).alloc _) hb)
    have HL := hid (show Subs w1 a1 n1 c1 L from ⟨hO.sl, fun s hs => (HS.out.ts s (hsub s hs)).ext hy.out⟩)
    clear hO hb
    have d7 := ((Ext.refl w1).alloc (Obj.cells #[.slice a1 n1 c1] 34)).keep c7
    go_wp2_with fail
    refine (keepE_any _ _ _ evs (fun e => L.any fun s => matchesT s.ts e.ats) 48 ⟨w1.heap.size, 0, none⟩ _ (HV.out.sl.ext (by (repeat (first | exact Ext.refl _ | refine Ext.alloc ?_ _ | refine Ext.drewN ?_ _ | refine Ext.drew ?_ | refine Ext.trans ?_ (Hid.out (by assumption)))))) (by rw [HN.out]; omega) _ rfl (fun _ _ => by kernel_rfl) ?hp).mono ?_
    case hp =>
      intro e he w' hw
      exact batch2_any e w1.heap.size _ _ _ L w' (((HV.out.ats e he).ext (by (repeat (first | exact Ext.refl _ | refine Ext.alloc ?_ _ | refine Ext.drewN ?_ _ | refine Ext.drew ?_ | refine Ext.trans ?_ (Hid.out (by assumption)))))).ext hw) ((HL.out.ext (by (repeat (first | exact Ext.refl _ | refine Ext.alloc ?_ _ | refine Ext.drewN ?_ _ | refine Ext.drew ?_ | refine Ext.trans ?_ (Hid.out (by assumption)))))).ext hw) (hw.keep (by simp))
    rintro e w2 ⟨a2, n2, c2, rfl, hO2, hb2⟩
    have hy2 := hid (show Ext w1 w2 from Ext.trans ((Ext.refl w1).alloc _) hb2)
    have HO2 := hid hO2.sl
    clear hO2 hb2
    go_wp2_with fail
    refine (events_any _ _ _ _ _ ⟨HO2.out, fun y hy' => ?hat⟩ ?hnn ?haa).mono ?_
    case hat => exact ((HV.out.ats y (List.mem_filter.1 hy').1).ext hy.out).ext hy2.out
    case hnn => exact Nat.le_trans (Nat.le_of_eq HO2.out.neq) (Nat.le_trans (List.length_filter_le _ _) l1)
    case haa => exact fun y hy' => HA.out y (List.mem_filter.1 hy').1
    rintro e w3 ⟨a3, n3, c3, zs, rfl, hz, hmz, hb3⟩
    have HZ := hid hz
    have HM := hid hmz
    have hy3 := hid hb3
    clear hz hmz hb3
    go_wp2
    go_ret
    refine ⟨a3, n3, c3, zs, rfl, HZ.out, by rw [HM.out, HR.out, HB.out, HES.out], ?_⟩
    (repeat (first | exact Ext.refl _ | refine Ext.alloc ?_ _ | refine Ext.drewN ?_ _ | refine Ext.drew ?_ | refine Ext.trans ?_ (Hid.out (by assumption))))
  · have hk : x.k ≠ 1 := by rw [hkk]; exact h1
    have q1 : (x.k != 1) = true := by simp [hk]
    have HB := hid (show batchD (xs.map SB.d) c d = [] from by unfold batchD; rw [if_neg h1])
    clear h1 hkk
    go_enter Tryz.func17, Tryz.ntmps17
    go_wp2
    go_ret
    refine ⟨none, 0, 0, [], rfl, ⟨Sl.nil _ EvV.wid, fun y hy => by cases hy⟩, by rw [HB.out]; rfl, ?_⟩
    (repeat (first | exact Ext.refl _ | refine Ext.alloc ?_ _ | refine Ext.drewN ?_ _ | refine Ext.drew ?_ | refine Ext.trans ?_ (Hid.out (by assumption))))
end Go.Proofs.YtiifflojpoobpaaGreat
